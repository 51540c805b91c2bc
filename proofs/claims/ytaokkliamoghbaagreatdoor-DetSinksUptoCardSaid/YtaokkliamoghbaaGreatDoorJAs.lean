/- Joined from texts of this seat, in their order. -/
import Derived.Test.YtaokkliamoghbaaGreatDoorJAr
import Derived.Deep.RegionLaw
set_option linter.unusedVariables false
set_option linter.unusedSimpArgs false
set_option linter.unusedSectionVars false
set_option linter.unusedVariables false
set_option maxRecDepth 100000
namespace Go.Proofs.YtaokkliamoghbaaGreatDoor.PVpa
open Go.RowKit Go.Proofs.YtaokkliamoghbaaGreatDoorW.PrintWords Go.Proofs.YtaokkliamoghbaaGreatDoorW.PrintLast Go.Proofs.YtaokkliamoghbaaGreatDoorW.PrintMore
open PDet (VM VOk Wf In Zbi toks number)
def joinB (V:VM)(t:Int)(x1 y2:Int)(b:Int):List (Int × Int):=(V.ret b y2 t).map fun z=>(x1,z)
def joinY (V:VM)(rowA:List (Int × Int))(t:Int)(x1:Int)(y:Int × Int):List (Int × Int):=(Zlm rowA y.1).flatMap (joinB V t x1 y.2)
def joinX (V:VM)(rowA:List (Int × Int))(c t:Int)(x:Int × Int):List (Int × Int):=(V.call x.2 c).flatMap (joinY V rowA t x.1)
theorem joinOut_eq (V:VM)(L:List (List (Int × Int)))(i j:Nat)(c t:Int):PDet.joinOut V L i j c t=(L.getD j []).flatMap (joinX V (L.getD i []) c t):=rfl
theorem pairs_one {W W1:World}{base b:Nat}{ok:Nat→Prop}{u:Value}{l:List (Int × Int)}{M:Value→Option Value}{kt:TypeId}(h:kP.R 90 W base ok u l)(hM:W.mapIs Tryz.prog kt b M)(ho:OneBlk b W W1):kP.R 90 W1 base ok u l:=Zei h (fun k h1 _ h2 ⟨_,_,_,hc⟩=>⟨h1,ho.blk k h2 (Zbm hM hc)⟩)
theorem Zmj {W:World}{bi base:Nat}{M:Value→Option Value}{l:List (Int × Int)}(h:InM W bi base M l)(a:Int):∃A c,Zqe M a=.slice A (Zlm l a).length c:=by
 obtain⟨A,c,e,_⟩:=Kd.R_reads (h.rows a);exact⟨A,c,e⟩
theorem Zrd {W:World}{bi base:Nat}{M:Value→Option Value}{l:List (Int × Int)}(h:InM W bi base M l)(a:Int)(ha:I64 a):(Instr.lookup 163 (.map (some bi)) (.int .i64 a) false).run Tryz.prog W=.ok (Zqe M a) W:=by
 obtain⟨kl,hkl⟩:=key3 ha;have:=h.map.look keyed3 Tryz.underlying163 (z:=.slice none 0 0) (by kernel_rfl) hkl false;simpa[Zqe]using this
theorem insL_len {n:Nat}{l:List (Int × Int)}(h:Zrv l)(hi:∀x∈l,In n x)(hn:n≤300)(a:Int):(Zlm l a).length≤300:=Nat.le_trans (PDet.row_len h hi a) hn
theorem insL_in {n:Nat}{l:List (Int × Int)}(hi:∀x∈l,In n x)(hn:n≤300)(a:Int):∀b∈Zlm l a,I64 b:=fun b hb=>by
 obtain⟨y,hy,rfl⟩:=List.mem_map.1 hb;have h:=hi y (List.mem_filter.1 hy).1;exact⟨by have:=h.2.2.1;omega,by have:=h.2.2.2;omega⟩
theorem inC_i64 {n:Nat}(hn:n≤300){x:Int × Int}(h:0≤x.1∧x.1<n∧-1≤x.2∧x.2<n):I64 x.1∧I64 x.2:=⟨⟨by have:=h.1;omega,by have:=h.2.1;omega⟩,⟨by have:=h.2.2.1;omega,by have:=h.2.2.2;omega⟩⟩
theorem In.i64 {n:Nat}(hn:n≤300){x:Int × Int}(h:In n x):I64 x.1∧I64 x.2:=⟨⟨by have:=h.1;omega,by have:=h.2.1;omega⟩,⟨by have:=h.2.2.1;omega,by have:=h.2.2.2;omega⟩⟩
set_option maxHeartbeats 16000000 in
theorem join_c (D : DK)(hk : D.Ok)(ht : Lib.TabBelow Tryz.prog D.b0 D.w0 "internal/strconv.uint64pow10" .u64 Lib.pow10Tab)(ok : Nat → Prop)(W : World)(s : PDet.St)(h : DS D ok W s.L s)(i j : Nat)(hi : i < s.L.length)(hj : j < s.L.length)(c t : Int)(c64 : I64 c)(t64 : I64 t)(hL : s.L.length ≤ 1000)(hlg : s.large = false) :
 Calls Tryz.prog 85 #[.pointer (some ⟨D.gd,0,none⟩),.int .i64 i,.int .i64 j,.int .i64 c,.int .i64 t] W fun e w'=>e=.returned (.tuple #[])∧NumE D (okN ok W) W w' (PDet.join D.V normP D.most i j c t s):=by
 obtain⟨vs,vo0,hc⟩:=h.cell;obtain⟨gs,cs,vA,rfl,hrowA,hRA⟩:=R_elem hc.2.1 i hi;have q4:(W.alloc (.map #[] 0)).cell? ⟨D.gd,4,none⟩=some (.slice (some ⟨gs,0,none⟩) s.L.length cs):=(Zaa (Zai hc.1 _) 4).trans rfl;have q5:(W.alloc (.map #[] 0)).cell? ⟨gs,i,none⟩=some vA:=Zad (Zab Zbr _) hrowA;have hgA:s.L.getD i []=s.L[i]:=by rw[List.getD_eq_getElem?_getD,List.getElem?_eq_getElem hi];rfl
 have hgB:s.L.getD j []=s.L[j]:=by rw[List.getD_eq_getElem?_getD,List.getElem?_eq_getElem hj];rfl
 have htot:=PDet.joinOut_wf hk.v h.wf i j c t;obtain⟨sR,hsR⟩:∃sR,sR=PDet.join D.V normP D.most i j c t s:=⟨_,rfl⟩
 rw[←hsR];have hinA:=h.wf _ (List.getElem_mem hi);have hinB:=h.wf _ (List.getElem_mem hj);obtain⟨total,htl⟩:∃total,total=PDet.joinOut D.V s.L i j c t:=⟨_,rfl⟩
 have hsR2:sR={ (number normP D.most total s).2 with ret:=((i,j,c,t),((number normP D.most total s).1:Int)) :: (number normP D.most total s).2.ret }:=by rw[hsR,htl];rfl
 have HSR:=Zrw.mk hsR2;rw[←htl]at htot;rw[joinOut_eq,hgA,hgB]at htl;obtain⟨rowB,hrB⟩:∃rowB,rowB=s.L[j]:=⟨_,rfl⟩
 rw[←hrB]at htl hinB;have HRB:=Zrw.mk hrB;have hJ:=Zrw.mk hj;generalize s.L[i]=rowA at *;obtain⟨AA,cA,rfl,_⟩:=Kd.R_reads hRA;have HTOT:=Zrw.mk htot;have HTL:=Zrw.mk htl;have HINA:=Zrw.mk hinA;have HINB:=Zrw.mk hinB;have HK:=Zrw.mk hk;have HL:=Zrw.mk hL;have HD:=Zrw.mk h;have HRA:=Zrw.mk hRA;have HC64:=Zrw.mk c64;have HT64:=Zrw.mk t64;have HRLA:Zrw (rowA.length≤90000):=⟨by
  have h1:=PDet.ris_len hinA.1 hinA.2;have h2:=Nat.mul_le_mul hk.v.few hk.v.few;omega⟩
 have HRLB:Zrw (rowB.length≤90000):=⟨by
  have h1:=PDet.ris_len hinB.1 hinB.2;have h2:=Nat.mul_le_mul hk.v.few hk.v.few;omega⟩
 have HNUM:=Zrw.mk (fun (W0 w1:World) (vo v:Value) (hs:StepI D ok W0 s v rowB w1 vo total)=>number_c D hk ht (okS ok W0 vo) (okN ok W0) w1 s hs.ds vo total hs.own (fun k hk1 hk2=>hk2.2 hk1) (fun k hk1=>hk1.1) (fun k hk1=>.inr (hs.new k hk1)) (fun k hk1=>.inr (Nat.le_trans hs.size hk1)) htot.2 (by have:=htot.1;omega) hL hlg);have HIN0:Zrw (InM (W.alloc (.map #[] 0)) W.heap.size W.heap.size (fun _=>none) []):=⟨⟨World.mapIs_made _ _ _,fun a=>Kd.R_nil _ _ _ _ _,fun a b _ k hk=>by simp[Zqe,Value.ownBlock]at hk⟩⟩
 have HB0:Zrw (Below W.heap.size W (W.alloc (.map #[] 0))):=⟨Zab Zbr _⟩
 have HBI:Zrw (D.bc<W.heap.size∧D.bt<W.heap.size):=⟨h.in5.2.2.2⟩
 clear h hc hRA htot htl hinA hinB hk hL hlg ht hsR hsR2 hgA hgB c64 t64 hrowA hrB;have hmm:∀(t:TypeId) (w:World),(Instr.makeMap t none).run Tryz.prog w=.ok (.map (some w.heap.size)) (w.alloc (.map #[] 0)):=fun _ _=>rfl
 go_enter Tryz.func85,Tryz.ntmps85
 go_wp2
 clear hmm
 go_loopw [31] (fun ix wr=>∃(k:Nat) (M:Value→Option Value),k≤rowA.length∧ix=.int .i64 k∧Zrw (InM wr W.heap.size W.heap.size M (rowA.take k)∧Below W.heap.size W wr)) (fun ix _=>rowA.length-(intOf ix).toNat)
 case atStart=>exact⟨0,_,by omega,rfl,⟨HIN0.out,HB0.out⟩⟩
 case round=>
  clear q4 q5 HIN0 HB0;obtain⟨k,M,hkl,rfl,HI⟩:=hrel;by_cases hkn:k<rowA.length
  ·have HKN:=Zrw.mk hkn;obtain⟨gA,rfl⟩:∃g,AA=some ⟨g,0,none⟩:=by
    rcases (Zcl HRA.out).2 with⟨he,hz⟩ | ⟨g,cap,cur,he,_⟩
    ·omega
    ·injection he with he;exact⟨g,he⟩
   obtain⟨p0,p1⟩:=((Zcl HRA.out).below HI.out.2).at k hkn;have HT:Zrw (rowA.take (k+1)=rowA.take k++[rdP rowA k]):=⟨Zes rowA hkn⟩
   have hx64:=In.i64 HK.out.v.few (HINA.out.2 _ (Zhm hkn▸List.getElem_mem hkn));have HX64:=Zrw.mk hx64;clear hx64;generalize rdP rowA k=x at *;obtain⟨x1,x2⟩:=x;simp only at p0 p1 HX64;have HIX:=Zrw.mk (HI.out.1.below (Zab Zbr (.cells #[.int .i64 x1,.int .i64 x2] 90)));have HBX:=Zrw.mk (Zab HI.out.2 (.cells #[.int .i64 x1,.int .i64 x2] 90));have hbx:(wr.alloc (.cells #[.int .i64 x1,.int .i64 x2] 90)).heap[wr.heap.size]?=some (.cells #[.int .i64 x1,.int .i64 x2] 90 (0,0)):=Zaj _ _;obtain⟨A1,c1,hv1⟩:=Zmj HIX.out x1;obtain⟨kl,hkl⟩:=key3 HX64.out.1;have HKL:=Zrw.mk hkl;have HV1:=Zrw.mk hv1;obtain⟨n1,hn1⟩:∃n1,n1=(Zlm (rowA.take k) x1).length:=⟨_,rfl⟩
   have HN1:=Zrw.mk hn1;rw[←hn1]at hv1;clear hn1 hkl
   go_wp2_with fail
   generalize wr.alloc (.cells #[.int .i64 x1,.int .i64 x2] 90)=X at *;generalize wr.heap.size=bx at *;have y0:X.cell? ⟨bx,0,none⟩=some (.int .i64 x1):=(Zaa hbx 0).trans rfl;have y1:X.cell? ⟨bx,1,none⟩=some (.int .i64 x2):=(Zaa hbx 1).trans rfl;have y0n:∀o,((X.drewN 1).alloc o).cell? ⟨bx,0,none⟩=some (.int .i64 x1):=fun o=>(Zaa (Zai hbx o) 0).trans rfl
   have y1n:∀o,((X.drewN 1).alloc o).cell? ⟨bx,1,none⟩=some (.int .i64 x2):=fun o=>(Zaa (Zai hbx o) 1).trans rfl
   have hlk:∀n,(Instr.lookup 163 (.map (some W.heap.size)) (.int .i64 x1) false).run Tryz.prog (X.drewN n)=.ok (.slice A1 n1 c1) (X.drewN n):=fun n=>by rw[←hv1];exact Zrd (HIX.out.below (Zag Zbr n)) x1 HX64.out.1
   have hlk2:∀o,(Instr.lookup 163 (.map (some W.heap.size)) (.int .i64 x1) false).run Tryz.prog ((X.drewN 1).alloc o)=.ok (.slice A1 n1 c1) ((X.drewN 1).alloc o):=fun o=>by rw[←hv1];exact Zrd (HIX.out.below (Zab (Zag Zbr 1) o)) x1 HX64.out.1
   have HR1:Zrw ((Kd.int .i64).R 3 (X.drewN 1) W.heap.size (fun _=>True) (.slice A1 n1 c1) (Zlm (rowA.take k) x1)):=⟨by rw[←hv1];exact Kd.R_below (HIX.out.rows x1) (Zag Zbr 1)⟩
   have HLN:Zrw ((Zlm (rowA.take k) x1).length≤90000):=⟨by
    have h1:(Zlm (rowA.take k) x1).length≤(rowA.take k).length:=by unfold Zlm;rw[List.length_map];exact List.length_filter_le _ _
    have h2:(rowA.take k).length≤k:=by rw[List.length_take];omega
    have:=HRLA.out;omega⟩
   have HM1:=Zrw.mk HIX.out.map;have HBXB:=Zrw.mk hbx;clear hv1 hbx;refine Zcw ?_
   go_region_law (first
    | (refine Kd.R_append_step (Kd.int .i64) (w0:=W) W.heap.size rfl (.tmp 41) (.tmp 44) 41 3 (.int .i64 0) 8 rfl Tryz.underlying41 Ziq rfl (by decide) (by omega) (.slice A1 n1 c1) (Zlm (rowA.take k) x1) x2 [.int .i64 x2] (fun _=>True) (fun _=>False) rfl rfl rfl (fun _ h=>h.elim) (fun _ _=>trivial) HR1.out (Zag HBX.out 1) HBX.out.size (by have:=HLN.out;omega) ?_;intro v7 w7 hr7 hb7 hg7 hat7;have HR7:=Zrw.mk hr7;have HB7:=Zrw.mk hb7;have HG7:=Zrw.mk hg7;have HA7:=Zrw.mk hat7;have y07:w7.cell? ⟨bx,0,none⟩=some (.int .i64 x1):=(Zaa (Zat (w:=X.drewN 1) HBXB.out hg7 (Kd.R_ne HR1.out (w:=X.drewN 1) HBXB.out (by decide))) 0).trans rfl;have HM7:Zrw (w7.mapIs Tryz.prog 3 W.heap.size M):=⟨HM1.out.grown (w:=X.drewN 1) hg7 (fun e=>by (obtain⟨cells,hcs⟩:=Zaq (Kd.own_of_R HR1.out) W.heap.size e.symm;exact Zbm (HM1.out.kept rfl:(X.drewN 1).mapIs Tryz.prog 3 W.heap.size M) hcs rfl))⟩;obtain⟨M',hM1,hM2⟩:=Zoj M (.int .i64 x1) v7;have HU1:=Zrw.mk hM1;have HU2:=Zrw.mk hM2;obtain⟨es',cl',hrun,hm8,hg8⟩:=HM7.out.store keyed3 Tryz.underlying163 HKL.out HU1.out HU2.out;generalize Go.ChangeMaps.setBlock w7 W.heap.size (.map es' cl')=w8 at hrun hm8 hg8;have HM8:=Zrw.mk hm8;have HG8:=Zrw.mk hg8;clear hr7 hb7 hg7 hat7 hM1 hM2 hm8 hg8)
    | fail)
   all_goals (
    have HI8:Zrw (InM w8 W.heap.size W.heap.size M' (rowA.take (k+1))∧Below W.heap.size W w8):=⟨by
     rw[HT.out];exact⟨InM.push (W1:=w7) (HIX.out.below (Zag Zbr 1)) (x:=(x1,x2)) HR7.out (by rw[HV1.out,←HN1.out];exact HG7.out) (by rw[HV1.out,←HN1.out];exact HA7.out) HM8.out HG8.out HU1.out HU2.out HM7.out,Zgd HB7.out HB7.out.size HG8.out (Nat.le_refl _)⟩⟩
    have hw:=Zej hkn (Nat.le_trans HRLA.out (by decide));clear hlk hlk2 y0 y1 y0n y1n p0 p1 y07 hrun;go_wp2
    go_roundw
    case rel=>exact⟨k+1,_,HKN.out,by rw[hw],HI8⟩
    case measure=>rw[hw];simp only[intOf];exact Zds HKN.out)
  ·obtain rfl:k=rowA.length:=by omega
   rename World=>W1
   have HIN1:Zrw (InM W1 W.heap.size W.heap.size M rowA):=⟨by have:=HI.out.1;rw[List.take_length]at this;exact this⟩
   have HD1:=Zrw.mk (HD.out.below HI.out.2);have HBW:=Zrw.mk HI.out.2;have HBIL:=Zrw.mk HIN1.out.map.lt;have HNE:Zrw (W.heap.size≠D.bc∧W.heap.size≠D.bt):=⟨by have:=HBI.out.1;omega,by have:=HBI.out.2;omega⟩
   obtain⟨vs1,vo1,hc1⟩:=HD1.out.cell;obtain⟨gs1,cs1,vB,rfl,hrowB,hRB⟩:=R_elem hc1.2.1 j hJ.out;rw[←HRB.out]at hRB;have q4:W1.cell? ⟨D.gd,4,none⟩=some (.slice (some ⟨gs1,0,none⟩) s.L.length cs1):=(Zaa hc1.1 4).trans rfl;obtain⟨AB,cB,rfl,_⟩:=Kd.R_reads hRB;have HX0:Zrw (StepX D ok W1 s (.slice AB rowB.length cB) rowB W.heap.size [] W1 (.slice none 0 0) []):=⟨⟨StepI.start HD1.out hRB,rfl,fun e he=>by cases he⟩⟩
   have hjl:=hJ.out;clear hc1 hRB HI;go_wp2
   clear q4 hrowB hjl
   go_loopw [13,55] (fun out ix wr=>∃(jj:Nat) (vo:Value) (o:List (Int × Int)),jj≤rowB.length∧out=vo∧ix=.int .i64 jj∧Zrw (StepX D ok W1 s (.slice AB rowB.length cB) rowB W.heap.size [] wr vo o∧o++(rowB.drop jj).flatMap (joinX D.V rowA c t)=total)) (fun _ ix _=>rowB.length-(intOf ix).toNat)
   case atStart=>exact⟨0,_,[],by omega,rfl,rfl,⟨HX0.out,by rw[HTL.out];rfl⟩⟩
   case round=>
    clear HX0;obtain⟨jj,vo,o,hjl,hv,rfl,HS⟩:=hrel;obtain rfl:=hv.symm;clear hv;by_cases hjn:jj<rowB.length
    ·have HJN:=Zrw.mk hjn;obtain⟨gB,rfl⟩:∃g,AB=some ⟨g,0,none⟩:=by
      rcases (Zcl HS.out.1.i.row).2 with⟨he,hz⟩ | ⟨g,cap,cur,he,_⟩
      ·omega
      ·injection he with he;exact⟨g,he⟩
     obtain⟨p0,p1⟩:=(Zcl HS.out.1.i.row).at jj hjn;have HB:=Zrw.mk (HS.out.1.new HBIL.out (rdP rowB jj));have hx64:=In.i64 HK.out.v.few (HINB.out.2 _ (Zhm hjn▸List.getElem_mem hjn));have HX64:=Zrw.mk hx64;have HF:Zrw (o++(joinX D.V rowA c t (rdP rowB jj)++(rowB.drop (jj+1)).flatMap (joinX D.V rowA c t))=total):=⟨by have:=HS.out.2;rw[Zhz hjn]at this;rw[Zhm hjn];exact this⟩
     obtain⟨T2,hT⟩:∃T,T=(rowB.drop (jj+1)).flatMap (joinX D.V rowA c t):=⟨_,rfl⟩
     rw[←hT]at HF;have HTT:=Zrw.mk hT;clear hT hx64;generalize rdP rowB jj=x at *;obtain⟨x1,x2⟩:=x;simp only at p0 p1 HB HX64;have HI3:=Zrw.mk (call_c D HK.out (okS ok W1 vo) (wr.alloc (.cells #[.int .i64 x1,.int .i64 x2] 90)) s.L s HB.out.i.ds x2 c HX64.out.2 HC64.out);have HVL:=Zrw.mk (HK.out.v.call x2 c).1;have HVI:=Zrw.mk (HK.out.v.call x2 c).2;have HF':Zrw (o++((D.V.call x2 c).flatMap (joinY D.V rowA t x1)++T2)=total):=HF;clear HF;generalize D.V.call x2 c=l at *;have y1:(wr.alloc (.cells #[.int .i64 x1,.int .i64 x2] 90)).cell? ⟨wr.heap.size,1,none⟩=some (.int .i64 x2):=(Zaa (HB.out.box _ List.mem_cons_self).1 1).trans rfl
     go_wp2_with (go_at_call 83;(with_reducible refine HI3.out.mono ?_);rintro e5 w5 ⟨v5,rfl,hd5,hr5,ho5⟩;have HB5:=Zrw.mk (HB.out.one HB.out.i.ds.calls.choose_spec.1 HBIL.out HNE.out.1 hd5 ho5);obtain⟨A5,c5,rfl,_⟩:=Kd.R_reads hr5;have HR5:=Zrw.mk (HB.out.i.fresh hr5);refine Hid.out ?_)
     refine Lib.hid ?_
     clear hd5 hr5 ho5 HI3 y1 p0 p1 HB;generalize wr.heap.size=bx at *;go_wp2
     go_loopw [13,65] (fun out ix wr=>∃(k:Nat) (vo2:Value) (o2:List (Int × Int)),k≤l.length∧out=vo2∧ix=.int .i64 k∧Zrw (StepX D ok W1 s (.slice (some ⟨gB,0,none⟩) rowB.length cB) rowB W.heap.size [(bx,x1,x2)] wr vo2 o2∧o2++((l.drop k).flatMap (joinY D.V rowA t x1)++T2)=total∧kP.R 90 wr D.b0 (okS ok W1 vo2) (.slice A5 l.length c5) l)) (fun _ ix _=>l.length-(intOf ix).toNat)
     case atStart=>exact⟨0,_,_,by omega,rfl,rfl,⟨HB5.out,HF'.out,HR5.out⟩⟩
     case round=>
      clear HB5 HR5 HF';obtain⟨k,vo2,o2,hkl,hv2,rfl,HS2⟩:=hrel;obtain rfl:=hv2.symm;clear hv2;by_cases hkn:k<l.length
      ·have HKN:=Zrw.mk hkn;obtain⟨g5,rfl⟩:∃g5,A5=some ⟨g5,0,none⟩:=by
        rcases (Zcl HS2.out.2.2).2 with⟨he,hz⟩ | ⟨g,cap,cur,he,_⟩
        ·omega
        ·injection he with he;exact⟨g,he⟩
       obtain⟨p5,p6⟩:=(Zcl HS2.out.2.2).at k hkn;have HB3:=Zrw.mk (HS2.out.1.new HBIL.out (rdP l k));have hy64:=inC_i64 HK.out.v.few (HVI.out _ (Zhm hkn▸List.getElem_mem hkn));have HY64:=Zrw.mk hy64;have HF3:Zrw (o2++(joinY D.V rowA t x1 (rdP l k)++((l.drop (k+1)).flatMap (joinY D.V rowA t x1)++T2))=total):=⟨by have:=HS2.out.2.1;rw[Zhz hkn,List.append_assoc]at this;rw[Zhm hkn];exact this⟩
       obtain⟨T3,hT3⟩:∃T,T=(l.drop (k+1)).flatMap (joinY D.V rowA t x1)++T2:=⟨_,rfl⟩
       rw[←hT3]at HF3;have HT3:=Zrw.mk hT3;have HR3:=Zrw.mk (Kd.R_below HS2.out.2.2 (Zab Zbr (.cells #[.int .i64 (rdP l k).1,.int .i64 (rdP l k).2] 90)));clear hT3 hy64;generalize rdP l k=y at *;obtain⟨z1,z2⟩:=y;simp only at p5 p6 HB3 HY64 HR3;have HINX:=Zrw.mk (HIN1.out.same HB3.out.i.same HB3.out.bi);obtain⟨A6,c6,hv6⟩:=Zmj HINX.out z1;have hlk:(Instr.lookup 163 (.map (some W.heap.size)) (.int .i64 z1) false).run Tryz.prog (wr.alloc (.cells #[.int .i64 z1,.int .i64 z2] 90))=.ok (.slice A6 (Zlm rowA z1).length c6) (wr.alloc (.cells #[.int .i64 z1,.int .i64 z2] 90)):=by rw[←hv6];exact Zrd HINX.out z1 HY64.out.1
       have HIR:Zrw (∀W',Same3 W1 W'→(Kd.int .i64).R 3 W' W.heap.size (fun _=>True) (.slice A6 (Zlm rowA z1).length c6) (Zlm rowA z1)):=⟨fun W' hs=>by
        rw[←hv6];exact Kd.R_of_own (Zci (Kd.own_of_R (HIN1.out.rows z1)) (fun k hk=>by
         obtain⟨cells,hc⟩:=Zaq (Kd.own_of_R (HIN1.out.rows z1)) k hk;exact hs k cells hc)) (fun _ _=>trivial)⟩
       have HIRL:=Zrw.mk (insL_len HINA.out.1 HINA.out.2 HK.out.v.few z1);have HIR64:=Zrw.mk (insL_in HINA.out.2 HK.out.v.few z1);have HF3':Zrw (o2++((Zlm rowA z1).flatMap (joinB D.V t x1 z2)++T3)=total):=HF3;clear HF3 hv6;generalize Zlm rowA z1=ir at *;have HLK:=Zrw.mk hlk;have y5:(wr.alloc (.cells #[.int .i64 z1,.int .i64 z2] 90)).cell? ⟨wr.heap.size,0,none⟩=some (.int .i64 z1):=(Zaa (HB3.out.box _ List.mem_cons_self).1 0).trans rfl;clear hlk
       go_wp2_with (at_lookup;refine Zfd rfl (.tmp 69) (.tmp 71) 163 rfl W.heap.size (.int .i64 z1) _ rfl rfl HLK.out ?_)
       clear HLK y5 p5 p6 HINX;generalize wr.heap.size=by' at *
       go_loopw [13,74] (fun out ix wr=>∃(m:Nat) (vo3:Value) (o3:List (Int × Int)),m≤ir.length∧out=vo3∧ix=.int .i64 m∧Zrw (StepX D ok W1 s (.slice (some ⟨gB,0,none⟩) rowB.length cB) rowB W.heap.size [(by',z1,z2),(bx,x1,x2)] wr vo3 o3∧o3++((ir.drop m).flatMap (joinB D.V t x1 z2)++T3)=total∧kP.R 90 wr D.b0 (okS ok W1 vo3) (.slice (some ⟨g5,0,none⟩) l.length c5) l)) (fun _ ix _=>ir.length-(intOf ix).toNat)
       case atStart=>exact⟨0,_,_,by omega,rfl,rfl,⟨HB3.out,HF3'.out,HR3.out⟩⟩
       case round=>
        clear HB3 HR3 HF3';obtain⟨m,vo3,o3,hml,hv3,rfl,HS3⟩:=hrel;obtain rfl:=hv3.symm;clear hv3;by_cases hmn:m<ir.length
        ·have HMN:=Zrw.mk hmn;obtain⟨g6,rfl,p7⟩:=Zfz (HIR.out _ HS3.out.1.i.same) m hmn;have hb64:=HIR64.out _ (List.getElem_mem hmn);have HB64:=Zrw.mk hb64;have HF4:Zrw (o3++(joinB D.V t x1 z2 ir[m]++((ir.drop (m+1)).flatMap (joinB D.V t x1 z2)++T3))=total):=⟨by have:=HS3.out.2.1;rw[Zhz hmn,List.append_assoc]at this;exact this⟩
         obtain⟨T4,hT4⟩:∃T,T=(ir.drop (m+1)).flatMap (joinB D.V t x1 z2)++T3:=⟨_,rfl⟩
         rw[←hT4]at HF4;have HT4:=Zrw.mk hT4;clear hT4 hb64;generalize ir[m]=b at *;have y7:wr.cell? ⟨by',1,none⟩=some (.int .i64 z2):=(Zaa (HS3.out.1.box _ List.mem_cons_self).1 1).trans rfl;have HI7:=Zrw.mk (back_c D HK.out (okS ok W1 vo3) wr s.L s HS3.out.1.i.ds b z2 t HB64.out HY64.out.2 HT64.out);have HZL:=Zrw.mk (HK.out.v.ret b z2 t).1;have HF4':Zrw (o3++((D.V.ret b z2 t).map (fun z=>(x1,z))++T4)=total):=HF4;clear HF4;generalize D.V.ret b z2 t=zl at *
         go_wp2_with (go_at_call 106;(with_reducible refine HI7.out.mono ?_);rintro e7 w7 ⟨v7,rfl,hd7,hr7,ho7⟩;have HB7:=Zrw.mk (HS3.out.1.one HS3.out.1.i.ds.backs.choose_spec.1 HBIL.out HNE.out.2 hd7 ho7);obtain⟨A7,c7,rfl,_⟩:=Kd.R_reads hr7;have HR7:=Zrw.mk (Kd.R_mono hr7 (ok':=fun _=>True) (fun _ _=>trivial));have HL7:=Zrw.mk (pairs_one HS3.out.2.2 HS3.out.1.i.ds.backs.choose_spec.1 ho7);refine Hid.out ?_)
         refine Lib.hid ?_
         clear hd7 hr7 ho7 HI7 y7 p7;go_wp2
         go_loopw [13,85] (fun out ix wr=>∃(q:Nat) (vo4:Value) (o4:List (Int × Int)),q≤zl.length∧out=vo4∧ix=.int .i64 q∧Zrw (StepX D ok W1 s (.slice (some ⟨gB,0,none⟩) rowB.length cB) rowB W.heap.size [(by',z1,z2),(bx,x1,x2)] wr vo4 o4∧o4++((zl.map fun z=>(x1,z)).drop q++T4)=total∧(∃b5,(Kd.int .i64).R 3 wr b5 (fun _=>True) (.slice A7 zl.length c7) zl)∧kP.R 90 wr D.b0 (okS ok W1 vo4) (.slice (some ⟨g5,0,none⟩) l.length c5) l)) (fun _ ix _=>zl.length-(intOf ix).toNat)
         case atStart=>exact⟨0,_,_,by omega,rfl,rfl,⟨HB7.out,HF4'.out,⟨_,HR7.out⟩,HL7.out⟩⟩
         case round=>
          clear HB7 HR7 HL7 HF4';obtain⟨q,vo4,o4,hql,hv4,rfl,HS4⟩:=hrel;obtain rfl:=hv4.symm;clear hv4;by_cases hqn:q<zl.length
          ·have HQN:=Zrw.mk hqn;obtain⟨b5,hr6⟩:=HS4.out.2.2.1;obtain⟨g7,rfl,p9⟩:=Zfz hr6 q hqn;have HR6:=Zrw.mk hr6;have y9:wr.cell? ⟨bx,0,none⟩=some (.int .i64 x1):=(Zaa (HS4.out.1.box (bx,x1,x2) (by simp)).1 0).trans rfl;have HLEN:=Zrw.mk (Zjr HS4.out.2.1 HTOT.out.1);have HF5:Zrw (o4++[(x1,zl[q])]++((zl.map fun z=>(x1,z)).drop (q+1)++T4)=total):=⟨by
            have:=HS4.out.2.1;rw[Zhb (show q<(zl.map fun z=>(x1,z)).length by rw[List.length_map];exact hqn),List.getElem_map]at this;simpa using this⟩
           generalize zl[q]=zz at p9 HF5;clear hr6
           go_wp2_with ((with_reducible refine Zal (b:=.append) (xs:=#[.tmp 89,.tmp 94]) rfl ?_);at_builtin;refine Zle (w0:=D.w0) D.b0 rfl (.tmp 89) (.tmp 94) rfl vo4 o4 (x1,zz) _ rfl rfl ?hg HS4.out.1.i.own HS4.out.1.i.ds.bel HS4.out.1.i.ds.bel.size (by have:=HLEN.out;omega) ?_;(case hg=>simp);intro v8 w8 ho8 hb8 hg8 hat8;have HB8:=Zrw.mk (HS4.out.1.push HIN1.out.map ho8 hb8 hg8 hat8);have HR8:=Zrw.mk (Zfy HR6.out HS4.out.1.i.own hg8);have HL8:=Zrw.mk (HS4.out.1.i.pairs HS4.out.2.2.2 hg8 hat8);clear ho8 hb8 hg8 hat8)
           have hw:=Zej hqn (Nat.le_trans HZL.out (by decide))
           go_roundw
           case rel=>exact⟨q+1,_,_,HQN.out,rfl,by rw[hw],⟨HB8.out,HF5.out,⟨_,HR8.out⟩,HL8.out⟩⟩
           case measure=>rw[hw];simp only[intOf];exact Zds HQN.out
          ·obtain hqe:q=zl.length:=by omega
           have HO:Zrw (o4++T4=total):=⟨by have:=HS4.out.2.1;rw[List.drop_eq_nil_of_le (by rw[List.length_map];omega),List.nil_append]at this;exact this⟩
           have hd:decide (q<zl.length)=false:=decide_eq_false hqn;clear hqe;go_wp2
           have hw:=Zej HMN.out (Nat.le_trans HIRL.out (by decide))
           go_roundw
           case rel=>exact⟨m+1,_,o4,HMN.out,rfl,by rw[hw],⟨HS4.out.1,by rw[←HT4.out];exact HO.out,HS4.out.2.2.2⟩⟩
           case measure=>rw[hw];simp only[intOf];exact Zds HMN.out
        ·have HO:Zrw (o3++T3=total):=⟨by have:=HS3.out.2.1;rw[List.drop_eq_nil_of_le (by omega),List.flatMap_nil,List.nil_append]at this;exact this⟩
         have hd:decide (m<ir.length)=false:=decide_eq_false hmn;go_wp2
         have hw:=Zej HKN.out (Nat.le_trans HVL.out (by decide))
         go_roundw
         case rel=>exact⟨k+1,_,o3,HKN.out,rfl,by rw[hw],⟨HS3.out.1.less (by simp),by rw[←HT3.out];exact HO.out,HS3.out.2.2⟩⟩
         case measure=>rw[hw];simp only[intOf];exact Zds HKN.out
      ·have HO:Zrw (o2++T2=total):=⟨by have:=HS2.out.2.1;rw[List.drop_eq_nil_of_le (by omega),List.flatMap_nil,List.nil_append]at this;exact this⟩
       have hd:decide (k<l.length)=false:=decide_eq_false hkn;go_wp2
       have hw:=Zej HJN.out (Nat.le_trans HRLB.out (by decide))
       go_roundw
       case rel=>exact⟨jj+1,_,o2,HJN.out,rfl,by rw[hw],⟨HS2.out.1.less (by simp),by rw[←HTT.out];exact HO.out⟩⟩
       case measure=>rw[hw];simp only[intOf];exact Zds HJN.out
    ·have HO:Zrw (StepX D ok W1 s (.slice AB rowB.length cB) rowB W.heap.size [] wr vo total):=⟨by
      have:=HS.out.2;rw[List.drop_eq_nil_of_le (by omega),List.flatMap_nil,List.append_nil]at this;rw[←this];exact HS.out.1⟩
     have hd:decide (jj<rowB.length)=false:=decide_eq_false hjn;have q7:wr.cell? ⟨D.gd,7,none⟩=some (.map (some D.br)):=(by
      obtain⟨_,_,hc2⟩:=HO.out.i.ds.cell;exact (Zaa hc2.1 7).trans rfl)
     obtain⟨kl,hkl⟩:=key95 (p:=(i:Int)) (q:=(j:Int)) (r:=c) (t:=t) ⟨by omega,by have:=HL.out;have:=hi;omega⟩ ⟨by omega,by have:=HL.out;have:=hJ.out;omega⟩ HC64.out HT64.out;have HKL:=Zrw.mk hkl;clear hkl
     go_wp2_with fail
     refine Zcw ?_
     go_region_law (first | (go_simp;go_at_call 42;(with_reducible refine (HNUM.out W1 _ vo _ (HO.out.i.below (by repeat (first | exact Zbr | refine Zag ?_ _ | refine Zdm ?_ | refine Zao ?_)))).mono ?_);rintro e8 w8 ⟨rfl,hn8⟩;have HN8:=Zrw.mk hn8;have q8:w8.cell? ⟨D.gd,7,none⟩=some (.map (some D.br)):=(by (obtain⟨_,_,hc2⟩:=hn8.ds.cell;exact (Zaa hc2.1 7).trans rfl));obtain⟨Mr,hMr,hMs⟩:=hn8.ds.ret;obtain⟨M',hM1,hM2⟩:=Zoj Mr (k4 i j c t) (.int .i64 ((number normP D.most total s).1:Nat));obtain⟨es',cl',hrun,hm9,hg9⟩:=hMr.store keyed95 Tryz.underlying82 (key:=k4 i j c t) HKL.out hM1 hM2;generalize Go.ChangeMaps.setBlock w8 D.br (.map es' cl')=w9 at hrun hm9 hg9;have HM9:=Zrw.mk hm9;have HG9:=Zrw.mk hg9;have HMR:=Zrw.mk hMr;have HMS:=Zrw.mk hMs;have HU1:=Zrw.mk hM1;have HU2:=Zrw.mk hM2;change (Instr.mapUpdate 82 (.map (some D.br)) (.agg #[.int .i64 i,.int .i64 j,.int .i64 c,.int .i64 t]) (.int .i64 ((number normP D.most total s).1:Nat))).run Tryz.prog w8=_ at hrun;clear hn8 hMr hMs hM1 hM2 hm9 hg9) | fail)
     all_goals (
      go_simp;go_wp2
      go_end0)
     all_goals (
      have hds:=(HN8.out.ds.putRet HK.out HM9.out HG9.out HMS.out HU1.out HU2.out).mono (ok':=okN ok W) (fun k hk _=>by
       rcases hk with hk | hk
       ·exact .inl hk
       ·exact .inr (Nat.le_trans HBW.out.size hk))
      have ho9:=OneBlk.of_grown HG9.out;refine⟨rfl,?_⟩;rw[HSR.out];exact⟨hds,(Same3.below HBW.out).trans (HO.out.i.same.trans (HN8.out.same.trans (Same3.one ho9 HMR.out))),Nat.le_trans HBW.out.size (Nat.le_trans HO.out.i.size (Nat.le_trans HN8.out.size ho9.size))⟩)
end Go.Proofs.YtaokkliamoghbaaGreatDoor.PVpa
