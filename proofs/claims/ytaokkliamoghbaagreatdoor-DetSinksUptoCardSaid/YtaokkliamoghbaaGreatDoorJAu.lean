/- Joined from texts of this seat, in their order. -/
import Derived.Test.YtaokkliamoghbaaGreatDoorJAt
import Derived.Deep.RegionLaw
set_option linter.unusedVariables false
set_option linter.unusedSimpArgs false
set_option linter.unusedSectionVars false
set_option linter.unusedVariables false
set_option maxRecDepth 100000
namespace Go.Proofs.YtaokkliamoghbaaGreatDoor.PVpa
open Go.RowKit Go.Proofs.YtaokkliamoghbaaGreatDoorW.PrintWords Go.Proofs.YtaokkliamoghbaaGreatDoorW.PrintLast Go.Proofs.YtaokkliamoghbaaGreatDoorW.PrintMore
open PDet (VM VOk Wf In Zbi toks number)
def BuildD (w:World)(G:S26)(most:Nat)(e:Ending)(w':World):Prop:=Below w.heap.size w w' ∧
 if (Zbz G most).large=true then e=.returned (.tuple #[.pointer none,.int .i64 8])else ∃gd,e=.returned (.tuple #[.pointer (some ⟨gd,0,none⟩),.int .i64 0])∧DetAt w' gd G most
theorem take_map1 {l:List Int}{k:Nat}(h:k<l.length):(l.take k).map (fun p=>(p,p))++[(l[k],l[k])]=(l.take (k+1)).map (fun p=>(p,p)):=by
 rw[List.take_succ_eq_append_getElem h,List.map_append]
 rfl
set_option maxHeartbeats 8000000 in
theorem Zgn (w:World)(At Ar:Option Addr)(ct cr:Nat)(G:S26)(hr:GramR w G At Ar ct cr)(hG:GramD G)(ho:Own w)(ht:TabW w)(most:Nat)(m1:1≤most)(m2:most≤400) :
 Calls Tryz.prog 11 #[.agg #[.slice At G.f0.length ct,.slice Ar G.f1.length cr],.int .i64 most] w (BuildD w G most):=by
 have hbx:(w.alloc (.cells #[.slice At G.f0.length ct,.slice Ar G.f1.length cr] 26)).heap[w.heap.size]?=some (.cells #[.slice At G.f0.length ct,.slice Ar G.f1.length cr] 26 (0,0)):=Zaj _ _;have hb0:Below w.heap.size w (w.alloc (.cells #[.slice At G.f0.length ct,.slice Ar G.f1.length cr] 26)):=Zab Zbr _;have HBUILD:=Zrw.mk (Zmq (w.alloc (.cells #[.slice At G.f0.length ct,.slice Ar G.f1.length cr] 26)) At Ar ct cr G 9 (hr.below hb0) hG.gram hG.rules (ho.below hb0));have b0:(w.alloc (.cells #[.slice At G.f0.length ct,.slice Ar G.f1.length cr] 26)).cell? ⟨w.heap.size,0,none⟩=some (.slice At G.f0.length ct):=(Zaa hbx 0).trans rfl;have b1:(w.alloc (.cells #[.slice At G.f0.length ct,.slice Ar G.f1.length cr] 26)).cell? ⟨w.heap.size,1,none⟩=some (.slice Ar G.f1.length cr):=(Zaa hbx 1).trans rfl;have HB0:=Zrw.mk hb0;have HBX:=Zrw.mk hbx;have HG:=Zrw.mk hG;have HT:=Zrw.mk ht;have HR:=Zrw.mk hr;have q1:decide ((most:Int)<1)=false:=decide_eq_false (by omega);have q1':decide (most<1)=false:=decide_eq_false (by omega);have q2:decide (400<(most:Int))=false:=decide_eq_false (by omega);have q2':decide (400<most)=false:=decide_eq_false (by omega);have HM1:=Zrw.mk m1;have HM2:=Zrw.mk m2;obtain⟨nt,hnt⟩:∃nt,nt=G.f0.length:=⟨_,rfl⟩
 obtain⟨nr,hnr⟩:∃nr,nr=G.f1.length:=⟨_,rfl⟩
 rw[←hnt,←hnr]at HBUILD b0 b1 HB0 HBX ⊢;have HNT:=Zrw.mk hnt;have HNR:=Zrw.mk hnr;have hmm:∀(t:TypeId) (w:World),(Instr.makeMap t none).run Tryz.prog w=.ok (.map (some w.heap.size)) (w.alloc (.map #[] 0)):=fun _ _=>rfl
 clear hr hG ho ht hbx hb0 m1 m2 hnt hnr
 go_enter Tryz.func11,Tryz.ntmps11
 go_wp2_with (go_at_call 40;(with_reducible refine HBUILD.out.mono ?_);rintro e1 V0 ⟨gb,φ,rfl,hvr,hok,hbv⟩;have HVR:=Zrw.mk hvr;have HOK:=Zrw.mk hok;have HBV:=Zrw.mk hbv;have b0':∀o1 o2 o3 o4 o5,(((((V0.alloc o1).alloc o2).alloc o3).alloc o4).alloc o5).cell? ⟨w.heap.size,0,none⟩=some (.slice At nt ct):=(fun o1 o2 o3 o4 o5=>(Zaa (Zai (Zai (Zai (Zai (Zai (Zaf HBX.out hbv) o1) o2) o3) o4) o5) 0).trans rfl);have b0v:V0.cell? ⟨w.heap.size,0,none⟩=some (.slice At nt ct):=(Zaa (Zaf HBX.out hbv) 0).trans rfl;have b1v:V0.cell? ⟨w.heap.size,1,none⟩=some (.slice Ar nr cr):=(Zaa (Zaf HBX.out hbv) 1).trans rfl;clear hvr hok hbv)
 have HW0:=Zrw.mk (dwalk0 V0 At nt ct Ar nr cr gb most (vOf G));clear b0' b0v b1v b0 b1 hmm q1 q1' q2 q2';generalize ((((V0.alloc (Obj.map #[] 0)).alloc (Obj.map #[] 0)).alloc (Obj.map #[] 0)).alloc (Obj.map #[] 0)).alloc (Obj.cells #[Value.slice At nt ct,Value.slice Ar nr cr,Value.pointer (some { block:=gb,off:=0 }),Value.int IntKind.i64 most,Value.slice none 0 0,Value.map (some V0.heap.size),Value.slice none 0 0,Value.map (some (V0.heap.size+1)),Value.map (some (V0.heap.size+1+1)),Value.map (some (V0.heap.size+1+1+1)),Value.bool false,Value.slice none 0 0,Value.slice none 0 0,Value.slice none 0 0] 88)=X0 at *;have HBW:Zrw (Below w.heap.size w V0):=⟨Zae HB0.out HBV.out⟩
 have HRV:Zrw (GramR V0 G At Ar ct cr):=⟨HR.out.below HBW.out⟩
 have HVR:Zrw (VR V0 gb G (Zek G) φ):=⟨by have:=HVR.out;rw[HNR.out]at this;exact this⟩
 have HOK:Zrw ((Zek G).Ok φ):=⟨by have:=HOK.out;rw[HNR.out]at this;exact this⟩
 have HDK:Zrw (∀c0 c1 c2,(DK.mk V0 G (Zek G) φ gb At ct Ar cr most (Zbl 9 G G.f1.length).st.pl.length (V0.heap.size+1+1+1+1) V0.heap.size (V0.heap.size+1) (V0.heap.size+1+1) (V0.heap.size+1+1+1) c0 c1 c2).Ok):=⟨fun c0 c1 c2=>dk_ok HVR.out HOK.out HG.out HRV.out HM2.out c0 c1 c2⟩
 have HTV:Zrw (TabW V0):=⟨tab_at HT.out HBW.out⟩
 have HSZ:Zrw (V0.heap.size≤V0.heap.size+1+1+1+1):=⟨by omega⟩
 generalize V0.heap.size+1+1+1+1=gd at *;generalize V0.heap.size+1+1+1=bt at *;generalize V0.heap.size+1+1=bc at *;generalize V0.heap.size+1=br at *;generalize hbn:V0.heap.size=bn at HW0 HDK ⊢;have HBN:=Zrw.mk hbn;clear hbn;have hnt16:Zrw (nt≤16):=⟨by rw[HNT.out];exact HG.out.gram.few⟩
 clear HT HR HBX HBV HB0 HBUILD
 go_loopw [40] (fun ix wr=>∃(a:Nat) (c:Nat→Value),a≤nt∧ix=.int .i64 a∧Zrw (TokI V0 gd bn br bc bt (Zrk At Ar nt nr ct cr gb most bn br bc bt) (vOf G) a wr c)) (fun ix _=>nt-(intOf ix).toNat)
 case atStart=>exact⟨0,_,by omega,rfl,HW0⟩
 case round=>
  clear HW0;obtain⟨a,c,hal,rfl,HI⟩:=hrel;by_cases han:a<nt
  ·have hga:a<G.f0.length:=HNT.out▸han;obtain⟨ad,A4,c4,A5,c5,hAt,m0,m1,m2,m3,m4,m5,_⟩:=Zji (Kd.C_below HRV.out.toks HI.out.bel) (a:Int) (Int.natCast_nonneg _) (by exact_mod_cast hga);rw[Int.toNat_natCast]at m0 m1 m2 m3 m4 m5;change wr.cell? _=some (.string (G.f0.getD a z70).f0)at m0;change wr.cell? _=some (.int .i64 (G.f0.getD a z70).f1)at m1;change wr.cell? _=some (.int .i64 (G.f0.getD a z70).f2)at m2;change wr.cell? _=some (.int .i64 (G.f0.getD a z70).f3.f0)at m3;change wr.cell? _=some (.slice A4 (G.f0.getD a z70).f3.f1.length c4)at m4;change wr.cell? _=some (.slice A5 (G.f0.getD a z70).f3.f2.length c5)at m5;have hkd:(vOf G).kinds.getD a 0=(G.f0.getD a z70).f1:=by
    show (G.f0.map (·.f1)).getD a 0=_;rw[List.getD_eq_getElem?_getD,List.getD_eq_getElem?_getD,List.getElem?_map,List.getElem?_eq_getElem hga]
    rfl
   have hk3:=(HG.out.gram.toks a hga).kind;have HHD:=Zrw.mk hAt;have HAN:=Zrw.mk han;generalize G.f0.getD a z70=t at *;clear hga;have HKD:=Zrw.mk hkd;clear hkd
   rcases hk3 with hq | hq | hq
   ·have HKQ:Zrw ((vOf G).kinds.getD a 0=(0:Nat)):=⟨HKD.out.trans hq⟩
    rw[hq]at m1;clear hq HKD;obtain⟨Aq,cq,hcq,_⟩:=Kd.R_reads (HI.out.rows 0 (by omega));obtain⟨n,hn⟩:∃n,n=(Zcg (vOf G) 0 a).length:=⟨_,rfl⟩
    rw[←hn]at hcq;have HLN:Zrw ((Zcg (vOf G) 0 a).length≤16):=⟨Nat.le_trans (Zih _ _ _) (by have:=hnt16.out;omega)⟩
    have HIX:=Zrw.mk (HI.out.below (Zab Zbr (.cells #[.string t.f0,.int .i64 (0:Int),.int .i64 t.f2,.int .i64 t.f3.f0,.slice A4 t.f3.f1.length c4,.slice A5 t.f3.f2.length c5] 64)));have hbx:(wr.alloc (.cells #[.string t.f0,.int .i64 (0:Int),.int .i64 t.f2,.int .i64 t.f3.f0,.slice A4 t.f3.f1.length c4,.slice A5 t.f3.f2.length c5] 64)).heap[wr.heap.size]?=some (.cells #[.string t.f0,.int .i64 (0:Int),.int .i64 t.f2,.int .i64 t.f3.f0,.slice A4 t.f3.f1.length c4,.slice A5 t.f3.f2.length c5] 64 (0,0)):=Zaj _ _;have HCQ:=Zrw.mk hcq;clear hn;subst hAt
    go_wp2_with fail
    generalize wr.alloc (.cells #[.string t.f0,.int .i64 (0:Int),.int .i64 t.f2,.int .i64 t.f3.f0,.slice A4 t.f3.f1.length c4,.slice A5 t.f3.f2.length c5] 64)=X at *;generalize wr.heap.size=bx at *;have y0:X.cell? ⟨bx,1,none⟩=some (.int .i64 (0:Int)):=(Zaa hbx 1).trans rfl;have y0n:∀o,((X.drewN 1).alloc o).cell? ⟨bx,1,none⟩=some (.int .i64 (0:Int)):=fun o=>(Zaa (Zai hbx o) 1).trans rfl
    have z0:X.cell? ⟨gd,11,none⟩=some (.slice Aq n cq):=by rw[←HCQ.out];exact (Zaa HIX.out.blk 11).trans rfl
    have z0n:∀o,((X.drewN 1).alloc o).cell? ⟨gd,11,none⟩=some (.slice Aq n cq):=fun o=>by rw[←HCQ.out];exact (Zaa (Zai HIX.out.blk o) 11).trans rfl
    have HR1:Zrw ((Kd.int .i64).R 3 (X.drewN 1) V0.heap.size (fun _=>True) (.slice Aq n cq) (Zcg (vOf G) 0 a)):=⟨by rw[←HCQ.out];exact Kd.R_below (HIX.out.rows 0 (by omega)) (Zag Zbr 1)⟩
    have HBXB:=Zrw.mk hbx;clear hcq hbx m0 m1 m2 m3 m4 m5;refine Zcw ?_
    go_region_law (first
     | (refine Kd.R_append_step (Kd.int .i64) (w0:=V0) V0.heap.size rfl (.tmp 54) (.tmp 56) 41 3 (.int .i64 0) 8 rfl Tryz.underlying41 Ziq rfl (by decide) (by omega) (.slice Aq n cq) (Zcg (vOf G) 0 a) (a:Int) [.int .i64 a] (fun _=>True) (fun _=>False) rfl rfl rfl (fun _ h=>h.elim) (fun _ _=>trivial) HR1.out (Zag HIX.out.bel 1) HIX.out.bel.size (by have:=HLN.out;omega) ?_;intro v7 w7 hr7 hb7 hg7 hat7;obtain⟨A7,c7,rfl,_⟩:=Kd.R_reads hr7;obtain⟨n7,hn7⟩:∃n7,n7=(Zcg (vOf G) 0 a++[(a:Int)]).length:=(⟨_,rfl⟩);rw[←hn7]at hr7 hat7;rw[←hn7];clear hn7;have HR7:=Zrw.mk hr7;have HB7:=Zrw.mk hb7;have HG7:=Zrw.mk hg7;have HA7:=Zrw.mk hat7;have y07:w7.cell? ⟨bx,1,none⟩=some (.int .i64 (0:Int)):=(Zaa (Zat (w:=X.drewN 1) HBXB.out hg7 (Kd.R_ne HR1.out (w:=X.drewN 1) HBXB.out (by decide))) 1).trans rfl;have z7:w7.cell? ⟨gd,11,none⟩=some (.slice Aq n cq):=(by rw[←HCQ.out];exact (Zaa (Zat (w:=X.drewN 1) HIX.out.blk hg7 (Kd.R_ne HR1.out (w:=X.drewN 1) HIX.out.blk (by decide))) 11).trans rfl);have z7f:w7.frozen? ⟨gd,11,none⟩=false:=(Zam (Zat (w:=X.drewN 1) HIX.out.blk hg7 (Kd.R_ne HR1.out (w:=X.drewN 1) HIX.out.blk (by decide))) 11);clear hr7 hb7 hg7 hat7)
     | fail)
    all_goals (
     have HI8:Zrw (TokI V0 gd bn br bc bt (Zrk (some ad) Ar nt nr ct cr gb most bn br bc bt) (vOf G) (a+1) (w7.setCell ⟨gd,11,none⟩ (.slice A7 n7 c7)) (fun p=>if p=0 then .slice A7 n7 c7 else c p)):=⟨TokI.push (W:=X.drewN 1) (HIX.out.below (Zag Zbr 1)) (q:=0) (by omega) HKQ.out HR7.out HB7.out (by rw[HCQ.out];exact HG7.out) (by rw[HCQ.out];exact HA7.out) HSZ.out (fun p=>rfl) rfl⟩
     have hw:=Zej HAN.out (Nat.le_trans hnt16.out (by decide));clear y0 y0n z0 z0n y07 z7 z7f;go_wp2
     go_roundw
     case rel=>exact⟨a+1,_,HAN.out,by rw[hw],HI8⟩
     case measure=>rw[hw];simp only[intOf];exact Zds HAN.out)
   ·have HKQ:Zrw ((vOf G).kinds.getD a 0=(1:Nat)):=⟨HKD.out.trans hq⟩
    rw[hq]at m1;clear hq HKD;obtain⟨Aq,cq,hcq,_⟩:=Kd.R_reads (HI.out.rows 1 (by omega));obtain⟨n,hn⟩:∃n,n=(Zcg (vOf G) 1 a).length:=⟨_,rfl⟩
    rw[←hn]at hcq;have HLN:Zrw ((Zcg (vOf G) 1 a).length≤16):=⟨Nat.le_trans (Zih _ _ _) (by have:=hnt16.out;omega)⟩
    have HIX:=Zrw.mk (HI.out.below (Zab Zbr (.cells #[.string t.f0,.int .i64 (1:Int),.int .i64 t.f2,.int .i64 t.f3.f0,.slice A4 t.f3.f1.length c4,.slice A5 t.f3.f2.length c5] 64)));have hbx:(wr.alloc (.cells #[.string t.f0,.int .i64 (1:Int),.int .i64 t.f2,.int .i64 t.f3.f0,.slice A4 t.f3.f1.length c4,.slice A5 t.f3.f2.length c5] 64)).heap[wr.heap.size]?=some (.cells #[.string t.f0,.int .i64 (1:Int),.int .i64 t.f2,.int .i64 t.f3.f0,.slice A4 t.f3.f1.length c4,.slice A5 t.f3.f2.length c5] 64 (0,0)):=Zaj _ _;have HCQ:=Zrw.mk hcq;clear hn;subst hAt
    go_wp2_with fail
    generalize wr.alloc (.cells #[.string t.f0,.int .i64 (1:Int),.int .i64 t.f2,.int .i64 t.f3.f0,.slice A4 t.f3.f1.length c4,.slice A5 t.f3.f2.length c5] 64)=X at *;generalize wr.heap.size=bx at *;have y0:X.cell? ⟨bx,1,none⟩=some (.int .i64 (1:Int)):=(Zaa hbx 1).trans rfl;have y0n:∀o,((X.drewN 1).alloc o).cell? ⟨bx,1,none⟩=some (.int .i64 (1:Int)):=fun o=>(Zaa (Zai hbx o) 1).trans rfl
    have z0:X.cell? ⟨gd,12,none⟩=some (.slice Aq n cq):=by rw[←HCQ.out];exact (Zaa HIX.out.blk 12).trans rfl
    have z0n:∀o,((X.drewN 1).alloc o).cell? ⟨gd,12,none⟩=some (.slice Aq n cq):=fun o=>by rw[←HCQ.out];exact (Zaa (Zai HIX.out.blk o) 12).trans rfl
    have HR1:Zrw ((Kd.int .i64).R 3 (X.drewN 1) V0.heap.size (fun _=>True) (.slice Aq n cq) (Zcg (vOf G) 1 a)):=⟨by rw[←HCQ.out];exact Kd.R_below (HIX.out.rows 1 (by omega)) (Zag Zbr 1)⟩
    have HBXB:=Zrw.mk hbx;clear hcq hbx m0 m1 m2 m3 m4 m5;refine Zcw ?_
    go_region_law (first
     | (refine Kd.R_append_step (Kd.int .i64) (w0:=V0) V0.heap.size rfl (.tmp 54) (.tmp 56) 41 3 (.int .i64 0) 8 rfl Tryz.underlying41 Ziq rfl (by decide) (by omega) (.slice Aq n cq) (Zcg (vOf G) 1 a) (a:Int) [.int .i64 a] (fun _=>True) (fun _=>False) rfl rfl rfl (fun _ h=>h.elim) (fun _ _=>trivial) HR1.out (Zag HIX.out.bel 1) HIX.out.bel.size (by have:=HLN.out;omega) ?_;intro v7 w7 hr7 hb7 hg7 hat7;obtain⟨A7,c7,rfl,_⟩:=Kd.R_reads hr7;obtain⟨n7,hn7⟩:∃n7,n7=(Zcg (vOf G) 1 a++[(a:Int)]).length:=(⟨_,rfl⟩);rw[←hn7]at hr7 hat7;rw[←hn7];clear hn7;have HR7:=Zrw.mk hr7;have HB7:=Zrw.mk hb7;have HG7:=Zrw.mk hg7;have HA7:=Zrw.mk hat7;have y07:w7.cell? ⟨bx,1,none⟩=some (.int .i64 (1:Int)):=(Zaa (Zat (w:=X.drewN 1) HBXB.out hg7 (Kd.R_ne HR1.out (w:=X.drewN 1) HBXB.out (by decide))) 1).trans rfl;have z7:w7.cell? ⟨gd,12,none⟩=some (.slice Aq n cq):=(by rw[←HCQ.out];exact (Zaa (Zat (w:=X.drewN 1) HIX.out.blk hg7 (Kd.R_ne HR1.out (w:=X.drewN 1) HIX.out.blk (by decide))) 12).trans rfl);have z7f:w7.frozen? ⟨gd,12,none⟩=false:=(Zam (Zat (w:=X.drewN 1) HIX.out.blk hg7 (Kd.R_ne HR1.out (w:=X.drewN 1) HIX.out.blk (by decide))) 12);clear hr7 hb7 hg7 hat7)
     | fail)
    all_goals (
     have HI8:Zrw (TokI V0 gd bn br bc bt (Zrk (some ad) Ar nt nr ct cr gb most bn br bc bt) (vOf G) (a+1) (w7.setCell ⟨gd,12,none⟩ (.slice A7 n7 c7)) (fun p=>if p=1 then .slice A7 n7 c7 else c p)):=⟨TokI.push (W:=X.drewN 1) (HIX.out.below (Zag Zbr 1)) (q:=1) (by omega) HKQ.out HR7.out HB7.out (by rw[HCQ.out];exact HG7.out) (by rw[HCQ.out];exact HA7.out) HSZ.out (fun p=>rfl) rfl⟩
     have hw:=Zej HAN.out (Nat.le_trans hnt16.out (by decide));clear y0 y0n z0 z0n y07 z7 z7f;go_wp2
     go_roundw
     case rel=>exact⟨a+1,_,HAN.out,by rw[hw],HI8⟩
     case measure=>rw[hw];simp only[intOf];exact Zds HAN.out)
   ·have HKQ:Zrw ((vOf G).kinds.getD a 0=(2:Nat)):=⟨HKD.out.trans hq⟩
    rw[hq]at m1;clear hq HKD;obtain⟨Aq,cq,hcq,_⟩:=Kd.R_reads (HI.out.rows 2 (by omega));obtain⟨n,hn⟩:∃n,n=(Zcg (vOf G) 2 a).length:=⟨_,rfl⟩
    rw[←hn]at hcq;have HLN:Zrw ((Zcg (vOf G) 2 a).length≤16):=⟨Nat.le_trans (Zih _ _ _) (by have:=hnt16.out;omega)⟩
    have HIX:=Zrw.mk (HI.out.below (Zab Zbr (.cells #[.string t.f0,.int .i64 (2:Int),.int .i64 t.f2,.int .i64 t.f3.f0,.slice A4 t.f3.f1.length c4,.slice A5 t.f3.f2.length c5] 64)));have hbx:(wr.alloc (.cells #[.string t.f0,.int .i64 (2:Int),.int .i64 t.f2,.int .i64 t.f3.f0,.slice A4 t.f3.f1.length c4,.slice A5 t.f3.f2.length c5] 64)).heap[wr.heap.size]?=some (.cells #[.string t.f0,.int .i64 (2:Int),.int .i64 t.f2,.int .i64 t.f3.f0,.slice A4 t.f3.f1.length c4,.slice A5 t.f3.f2.length c5] 64 (0,0)):=Zaj _ _;have HCQ:=Zrw.mk hcq;clear hn;subst hAt
    go_wp2_with fail
    generalize wr.alloc (.cells #[.string t.f0,.int .i64 (2:Int),.int .i64 t.f2,.int .i64 t.f3.f0,.slice A4 t.f3.f1.length c4,.slice A5 t.f3.f2.length c5] 64)=X at *;generalize wr.heap.size=bx at *;have y0:X.cell? ⟨bx,1,none⟩=some (.int .i64 (2:Int)):=(Zaa hbx 1).trans rfl;have y0n:∀o,((X.drewN 1).alloc o).cell? ⟨bx,1,none⟩=some (.int .i64 (2:Int)):=fun o=>(Zaa (Zai hbx o) 1).trans rfl
    have z0:X.cell? ⟨gd,13,none⟩=some (.slice Aq n cq):=by rw[←HCQ.out];exact (Zaa HIX.out.blk 13).trans rfl
    have z0n:∀o,((X.drewN 1).alloc o).cell? ⟨gd,13,none⟩=some (.slice Aq n cq):=fun o=>by rw[←HCQ.out];exact (Zaa (Zai HIX.out.blk o) 13).trans rfl
    have HR1:Zrw ((Kd.int .i64).R 3 (X.drewN 1) V0.heap.size (fun _=>True) (.slice Aq n cq) (Zcg (vOf G) 2 a)):=⟨by rw[←HCQ.out];exact Kd.R_below (HIX.out.rows 2 (by omega)) (Zag Zbr 1)⟩
    have HBXB:=Zrw.mk hbx;clear hcq hbx m0 m1 m2 m3 m4 m5;refine Zcw ?_
    go_region_law (first
     | (refine Kd.R_append_step (Kd.int .i64) (w0:=V0) V0.heap.size rfl (.tmp 54) (.tmp 56) 41 3 (.int .i64 0) 8 rfl Tryz.underlying41 Ziq rfl (by decide) (by omega) (.slice Aq n cq) (Zcg (vOf G) 2 a) (a:Int) [.int .i64 a] (fun _=>True) (fun _=>False) rfl rfl rfl (fun _ h=>h.elim) (fun _ _=>trivial) HR1.out (Zag HIX.out.bel 1) HIX.out.bel.size (by have:=HLN.out;omega) ?_;intro v7 w7 hr7 hb7 hg7 hat7;obtain⟨A7,c7,rfl,_⟩:=Kd.R_reads hr7;obtain⟨n7,hn7⟩:∃n7,n7=(Zcg (vOf G) 2 a++[(a:Int)]).length:=(⟨_,rfl⟩);rw[←hn7]at hr7 hat7;rw[←hn7];clear hn7;have HR7:=Zrw.mk hr7;have HB7:=Zrw.mk hb7;have HG7:=Zrw.mk hg7;have HA7:=Zrw.mk hat7;have y07:w7.cell? ⟨bx,1,none⟩=some (.int .i64 (2:Int)):=(Zaa (Zat (w:=X.drewN 1) HBXB.out hg7 (Kd.R_ne HR1.out (w:=X.drewN 1) HBXB.out (by decide))) 1).trans rfl;have z7:w7.cell? ⟨gd,13,none⟩=some (.slice Aq n cq):=(by rw[←HCQ.out];exact (Zaa (Zat (w:=X.drewN 1) HIX.out.blk hg7 (Kd.R_ne HR1.out (w:=X.drewN 1) HIX.out.blk (by decide))) 13).trans rfl);have z7f:w7.frozen? ⟨gd,13,none⟩=false:=(Zam (Zat (w:=X.drewN 1) HIX.out.blk hg7 (Kd.R_ne HR1.out (w:=X.drewN 1) HIX.out.blk (by decide))) 13);clear hr7 hb7 hg7 hat7)
     | fail)
    all_goals (
     have HI8:Zrw (TokI V0 gd bn br bc bt (Zrk (some ad) Ar nt nr ct cr gb most bn br bc bt) (vOf G) (a+1) (w7.setCell ⟨gd,13,none⟩ (.slice A7 n7 c7)) (fun p=>if p=2 then .slice A7 n7 c7 else c p)):=⟨TokI.push (W:=X.drewN 1) (HIX.out.below (Zag Zbr 1)) (q:=2) (by omega) HKQ.out HR7.out HB7.out (by rw[HCQ.out];exact HG7.out) (by rw[HCQ.out];exact HA7.out) HSZ.out (fun p=>rfl) rfl⟩
     have hw:=Zej HAN.out (Nat.le_trans hnt16.out (by decide));clear y0 y0n z0 z0n y07 z7 z7f;go_wp2
     go_roundw
     case rel=>exact⟨a+1,_,HAN.out,by rw[hw],HI8⟩
     case measure=>rw[hw];simp only[intOf];exact Zds HAN.out)
  ·obtain rfl:nt=a:=by omega
   have HST:=Zrw.mk (start_call wr gb G (Zek G) φ (HVR.out.below HI.out.bel) HOK.out);obtain⟨sl,hsl⟩:∃sl,sl=Zlx (Zek G):=⟨_,rfl⟩
   have HSL:=Zrw.mk hsl;rw[←hsl]at HST;clear hsl;have HVK:Zrw (sl.length≤200000∧∀x∈sl,0≤x∧x<((Zbl 9 G G.f1.length).st.pl.length:Int)):=⟨by rw[HSL.out];exact (HDK.out (c 0) (c 1) (c 2)).v.start⟩
   have hd:decide (nt<nt)=false:=decide_eq_false (by omega)
   go_wp2_with (go_at_call 41;(with_reducible refine HST.out.mono ?_);rintro e1 w1 ⟨v1,rfl,hr1,hb1⟩;obtain⟨A1,c1,rfl,_⟩:=Kd.R_reads hr1;have HR1:=Zrw.mk hr1;have HI1:=Zrw.mk (HI.out.below hb1);clear hr1 hb1;refine Hid.out ?_)
   refine Lib.hid ?_
   clear HI HST;go_wp2
   go_loopw [11,65] (fun out ix wr2=>∃(k:Nat) (vo:Value) (o:List (Int × Int)),k≤sl.length∧out=vo∧ix=.int .i64 k∧Zrw (OwnP wr2 V0.heap.size vo o∧o=(sl.take k).map (fun p=>(p,p))∧TokI V0 gd bn br bc bt (Zrk At Ar nt nr ct cr gb most bn br bc bt) (vOf G) nt wr2 c∧∃b5,(Kd.int .i64).R 3 wr2 b5 (fun _=>True) (.slice A1 sl.length c1) sl)) (fun _ ix _=>sl.length-(intOf ix).toNat)
   case atStart=>exact⟨0,_,[],by omega,rfl,rfl,⟨OwnP.nil _ _,rfl,HI1.out,_,HR1.out⟩⟩
   case round=>
    clear HI1 HR1;obtain⟨k,vo,o,hkl,hv,rfl,HS⟩:=hrel;obtain rfl:=hv.symm;clear hv;by_cases hkn:k<sl.length
    ·obtain⟨b5,hr6⟩:=HS.out.2.2.2;obtain⟨g5,rfl,p5⟩:=Zfz hr6 k hkn;have HR6:=Zrw.mk hr6;have HLEN:Zrw (o.length≤200000):=⟨by rw[HS.out.2.1,List.length_map,List.length_take];have:=HVK.out.1;omega⟩
     have HF2:Zrw (o++[(sl[k],sl[k])]=(sl.take (k+1)).map (fun p=>(p,p))):=⟨by rw[HS.out.2.1];exact take_map1 hkn⟩
     generalize sl[k]=cc at p5 HF2;have hq:=p5;clear hr6
     go_wp2_with ((with_reducible refine Zal (b:=.append) (xs:=#[.tmp 69,.tmp 73]) rfl ?_);at_builtin;refine Zle (w0:=V0) V0.heap.size rfl (.tmp 69) (.tmp 73) rfl vo o (cc,cc) _ rfl rfl ?hg HS.out.1 HS.out.2.2.1.bel HS.out.2.2.1.bel.size (by have:=HLEN.out;omega) ?_;(case hg=>simp);intro v7 w7 ho7 hb7 hg7 hat7;have HO7:=Zrw.mk ho7;have HB7:=Zrw.mk (HS.out.2.2.1.grown HS.out.1 hb7 hg7);have HR7:=Zrw.mk (Zfy HR6.out HS.out.1 hg7);clear ho7 hb7 hg7 hat7)
     have hw:=Zej hkn (Nat.le_trans HVK.out.1 (by decide));have HKN:=Zrw.mk hkn
     go_roundw
     case rel=>exact⟨k+1,_,_,HKN.out,rfl,by rw[hw],⟨HO7.out,HF2.out,HB7.out,_,HR7.out⟩⟩
     case measure=>rw[hw];simp only[intOf];exact Zds HKN.out
    ·have hke:k=sl.length:=by omega
     subst hke;have HF:Zrw (o=sl.map (fun p=>(p,p))):=⟨by rw[HS.out.2.1,List.take_length]⟩
     obtain⟨D,hD⟩:∃D,D=DK.mk V0 G (Zek G) φ gb At ct Ar cr most (Zbl 9 G G.f1.length).st.pl.length gd bn br bc bt (c 0) (c 1) (c 2):=⟨_,rfl⟩
     have HDD:=Zrw.mk hD;have HK:Zrw D.Ok:=⟨by rw[HDD.out];exact HDK.out _ _ _⟩
     have HDS:Zrw (DS D (fun q=>vo.ownBlock≠some q) wr [] ⟨[],[],[],false⟩):=⟨by
      rw[HDD.out];refine DS.init (c:=c) (by have:=HS.out.2.2.1;rw[HNT.out,HNR.out]at this;exact this) rfl rfl rfl (fun q cells q' hc hq' e=>?_) (fun b hb e=>?_)
      ·obtain⟨c2,hc2⟩:=Zaq HS.out.1 q e;rw[hc]at hc2;injection hc2 with hc2
       injection hc2 with _ hc2
       exact hq' hc2
      ·obtain⟨c2,hc2⟩:=Zaq HS.out.1 b e;rw[HS.out.2.2.1.maps b hb]at hc2;cases hc2⟩
     have HT2 : Zrw (Lib.TabBelow Tryz.prog D.b0 D.w0 "internal/strconv.uint64pow10" .u64 Lib.pow10Tab) := ⟨by rw [HDD.out]; exact HTV.out⟩
     have HMD:Zrw (D.most=most∧D.gd=gd∧D.V=vOf G∧D.w0=V0):=⟨by rw[HDD.out];exact⟨rfl,rfl,rfl,rfl⟩⟩
     have HNUM:=Zrw.mk (number_c D HK.out HT2.out (fun q=>vo.ownBlock≠some q) okT wr ⟨[],[],[],false⟩ HDS.out vo o (by have:=HS.out.1;rw[show V0=D.w0 from HMD.out.2.2.2.symm]at this;exact this) (fun q h1 h2=>h2 h1) (fun _ _=>trivial) (fun _ _=>trivial) (fun _ _=>trivial) (fun x hx=>by
      rw[HF.out]at hx;obtain⟨y,hy,rfl⟩:=List.mem_map.1 hx;have h1:=HVK.out.2 y hy;rw[HDD.out];exact⟨h1.1,h1.2,h1.1,h1.2⟩) (by rw[HF.out,List.length_map];have:=HVK.out.1;omega) (by simp) rfl)
     have HFS:Zrw ((PDet.number normP D.most o ⟨[],[],[],false⟩).2=PDet.first (vOf G) normP most):=⟨by rw[HF.out,HSL.out,HMD.out.1];rfl⟩
     rw[HFS.out]at HNUM;have HG1:Zrw (PDet.Good D.V normP D.most (PDet.first (vOf G) normP most)∧(PDet.first (vOf G) normP most).large=false∧(PDet.first (vOf G) normP most).one.length=0):=⟨by
      rw[HMD.out.2.2.1,HMD.out.1];refine⟨PDet.first_at.good,?_,?_⟩
      ·unfold PDet.first PDet.number
       have:=HM1.out;simp;omega
      ·unfold PDet.first PDet.number
       simp⟩
     have HCL:Zrw (∀W1,DS D okT W1 (PDet.first (vOf G) normP most).L (PDet.first (vOf G) normP most)→Calls Tryz.prog 43 #[.pointer (some ⟨gd,0,none⟩)] W1 fun e w'=>e=.returned (.tuple #[])∧NumE D okT W1 w' (Zbz G most)):=⟨fun W1 hW=>by
      have:=close_c D HK.out HT2.out W1 _ hW HG1.out.1 HG1.out.2.1 HG1.out.2.2;rw[HMD.out.2.1,HMD.out.2.2.1,HMD.out.1]at this;exact this⟩
     rw[HMD.out.2.1]at HNUM;have hd:decide (sl.length<sl.length)=false:=decide_eq_false (by omega);have HBZ:Zrw (∀W1,DS D okT W1 (Zbz G most).L (Zbz G most)→Below w.heap.size w W1):=⟨fun W1 hW=>by
      have:=hW.bel;unfold DK.b0 at this;rw[HMD.out.2.2.2]at this;exact Zae HBW.out this⟩
     have HLAST:Zrw (∀W1,DS D okT W1 (Zbz G most).L (Zbz G most)→W1.cell? ⟨gd,10,none⟩=some (.bool (Zbz G most).large)∧DetAt W1 gd G most):=⟨fun W1 hW=>by
      obtain⟨vs,vo2,hc,_⟩:=hW.cell;refine⟨?_,D,HK.out,by rw[HDD.out],by rw[HDD.out],HMD.out.1,HMD.out.2.1,hW⟩;rw[←HMD.out.2.1];exact (Zaa hc 10).trans rfl⟩
     clear HS HF hD;generalize PDet.first (vOf G) normP most=s1 at *
     generalize (PDet.number normP D.most o ⟨[],[],[],false⟩).1=n1 at *;cases hlg:(Zbz G most).large with
     | true=>
      have HLG:=Zrw.mk hlg;clear hlg
      go_wp2_with (first
       | (go_at_call 42;(with_reducible refine HNUM.out.mono ?_);rintro e2 w2 ⟨rfl,hn2⟩;have HN2:=Zrw.mk hn2;clear hn2)
       | (go_at_call 43;(with_reducible refine (HCL.out _ HN2.out.ds).mono ?_);rintro e3 w3 ⟨rfl,hn3⟩;have HN3:=Zrw.mk hn3;have q3:=(HLAST.out w3 hn3.ds).1;rw[HLG.out]at q3;clear hn3))
      go_ret2
      exact⟨HBZ.out _ HN3.out.ds,Eq.mpr (if_pos HLG.out) rfl⟩
     | false=>
      have HLG:=Zrw.mk hlg;clear hlg
      go_wp2_with (first
       | (go_at_call 42;(with_reducible refine HNUM.out.mono ?_);rintro e2 w2 ⟨rfl,hn2⟩;have HN2:=Zrw.mk hn2;clear hn2)
       | (go_at_call 43;(with_reducible refine (HCL.out _ HN2.out.ds).mono ?_);rintro e3 w3 ⟨rfl,hn3⟩;have HN3:=Zrw.mk hn3;have q3:=(HLAST.out w3 hn3.ds).1;rw[HLG.out]at q3;clear hn3))
      go_ret2
      exact⟨HBZ.out _ HN3.out.ds,Eq.mpr (if_neg (by rw[HLG.out];decide)) ⟨gd,rfl,(HLAST.out _ HN3.out.ds).2⟩⟩
end Go.Proofs.YtaokkliamoghbaaGreatDoor.PVpa
