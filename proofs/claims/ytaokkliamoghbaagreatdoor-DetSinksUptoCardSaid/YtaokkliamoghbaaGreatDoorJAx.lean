/- Joined from texts of this seat, in their order. -/
import Derived.Test.YtaokkliamoghbaaGreatDoorJAm
import Derived.Test.YtaokkliamoghbaaGreatDoorJAe
import Derived.Test.YtaokkliamoghbaaGreatDoorJAt
import Derived.Test.YtaokkliamoghbaaGreatDoorJAw
import Derived.Test.YtaokkliamoghbaaGreatDoorJAg
import Derived.Test.YtaokkliamoghbaaGreatDoorJAn
import Derived.Test.YtaokkliamoghbaaGreatDoorJAv
set_option linter.unusedVariables false
set_option linter.unusedSimpArgs false
set_option linter.unusedSectionVars false
set_option maxRecDepth 100000
namespace Go.Proofs.YtaokkliamoghbaaGreatDoor.PVpa
open Go.RowKit Go.Proofs.YtaokkliamoghbaaGreatDoorW.PrintWords Go.Proofs.YtaokkliamoghbaaGreatDoorW.PrintLast Go.Proofs.YtaokkliamoghbaaGreatDoorW.PrintMore
def p0:S76:=⟨2,[⟨#[97]⟩],[],[]⟩
def r0:S52:=⟨0,true,[⟨nO,p0⟩]⟩
def g0:S26:=⟨T4,[r0]⟩
def m0:Mach:=(Zbl 9 g0 1).mach
theorem p0_mk:Mk nAB nO nC 1 1 p0:=.inr (.inl ⟨rfl,⟨by simp[p0],0,1,rfl⟩,rfl,rfl,Nat.le_refl _⟩)
end Go.Proofs.YtaokkliamoghbaaGreatDoor.PVpa
set_option linter.unusedVariables false
namespace Go.Proofs.YtaokkliamoghbaaGreatDoor.PVpa
open Go.RowKit Go.Proofs.YtaokkliamoghbaaGreatDoorW.PrintWords Go.Proofs.YtaokkliamoghbaaGreatDoorW.PrintLast Go.Proofs.YtaokkliamoghbaaGreatDoorW.PrintMore
open PDet (VM VOk Wf In Zbi toks number)
def rD:S52:=⟨0,false,[⟨[],p0⟩]⟩
def gE:S26:=⟨T4,[]⟩
def gD:S26:=⟨T4,[rD]⟩
theorem gD_gram:Zmu gD:=by
 refine⟨by decide,by decide,fun i hi=>tok4 i hi,by decide,fun i hi=>?_⟩;obtain rfl:i=0:=by simp[gD]at hi;omega
 refine⟨by decide,by decide,by decide,fun j hj=>?_⟩;obtain rfl:j=0:=by simp[gD,rD]at hj;omega
 exact⟨rfl,Zfh _ _ _ (by decide) (fun i hi=>(by cases hi)) (fun h=>absurd h (by decide)),1,1,1,p0_mk.good Zmf.1 Zmf.2.1 Zmf.2.2,p0_mk.fit,by decide,by decide⟩
theorem gD_rules:RulesOk 9 gD:=by
 refine⟨fun i k hi hk=>?_,by decide⟩;obtain rfl:i=0:=by simp[gD]at hi;omega
 obtain rfl:k=0:=by
  have hk:k<1:=hk;omega
 exact (p0_mk.mono (by decide:1≤9)).patOk (by decide) (by decide) (by decide)
theorem gD_calls:Zog gD:=by
 refine⟨fun i j hi0 hi hj0 hj=>?_,fun i hi0 hi=>?_⟩
 ·obtain rfl:i=0:=by have hi:i<1:=hi;omega
  obtain rfl:j=0:=by have hj:j<1:=hj;omega
  decide
 ·obtain rfl:i=0:=by have hi:i<1:=hi;omega
  decide
theorem gD_ok:GramD gD:=⟨gD_gram,gD_rules,gD_calls,by decide +kernel⟩
def normI (l:List (Int × Int)):List (Int × Int):=l.foldl (fun o x=>insP x o) []
theorem normP_I:normP=normI:=funext normP_ins
def callI (G:S26)(M:Mach)(p t:Int):List (Int × Int):=if Zmh G M p t 1=true then normI (rawC G M p t)else []
def vmI (G:S26):VM:=⟨intL G (Zek G),callI G (Zek G),Zdv G (Zek G),retL G (Zek G),Zlx (Zek G),G.f0.map (·.f1)⟩
theorem vOf_I (G:S26):vOf G=vmI G:=by
 have:Zla G (Zek G)=callI G (Zek G):=by
  funext p t
  unfold Zla callI;rw[normP_I]
 unfold vOf Zqc vmI;rw[this]
theorem tab_I (G:S26)(most:Nat):Zbz G most=PDet.table (vmI G) normI most (most+2):=by
 unfold Zbz;rw[vOf_I,normP_I]
theorem tabE:(PDet.table (vmI gE) normI 5 7).large=false∧(PDet.table (vmI gE) normI 5 7).L=[[]]:=by decide +kernel
def sD:PDet.St:=PDet.table (vmI gD) normI 50 52
theorem tabD:sD.large=false∧sD.L.length=3∧Zmx gD sD 0 0 0=2∧Zmx gD sD 0 2 0=-1∧Zmx gD sD 0 0 1=-1∧retI gD sD 0 99 2 3=-1∧ruleD (Zek gD) (sD.L.getD 2 [])=0∧ruleD (Zek gD) (sD.L.getD 0 [])=-1:=by decide +kernel
end Go.Proofs.YtaokkliamoghbaaGreatDoor.PVpa
namespace Go.Proofs.YtaokkliamoghbaaGreatDoor.PVpa
open Go.RowKit Go.Proofs.YtaokkliamoghbaaGreatDoorW.PrintWords Go.Proofs.YtaokkliamoghbaaGreatDoorW.PrintLast Go.Proofs.YtaokkliamoghbaaGreatDoorW.PrintMore
section
variable {w1 w3:World}{g1:Nat}{T R:Value}
theorem blk_at {w:World}{k:Nat}{o:Obj}(hk:k=w.heap.size):(w.alloc o).heap[k]?=some o:=by
 subst hk;exact Zaj w o
end
end Go.Proofs.YtaokkliamoghbaaGreatDoor.PVpa
set_option linter.unusedVariables false
namespace Go.Proofs.YtaokkliamoghbaaGreatDoor.PVpa
open Go.RowKit Go.Proofs.YtaokkliamoghbaaGreatDoorW.PrintWords Go.Proofs.YtaokkliamoghbaaGreatDoorW.PrintLast Go.Proofs.YtaokkliamoghbaaGreatDoorW.PrintMore
section
variable {w1 w3:World}{g1:Nat}{T R:Value}
def Zlp (w3:World)(g1:Nat):World:=
 (((w3.alloc (.cells #[.string ⟨#[97]⟩] 9)).alloc (.cells #[.slice none 0 0,.int .i64 2,.slice (some ⟨w3.heap.size,0,none⟩) 1 1,.slice none 0 0,.slice none 0 0] 76)).alloc
  (.cells #[.int .i64 0,.bool false,.slice (some ⟨w3.heap.size+1,0,none⟩) 1 1] 70)).setCell ⟨g1,1,none⟩ (.slice (some ⟨w3.heap.size+1+1,0,none⟩) 1 1)
theorem Zqg (hb:Below w1.heap.size w1 w3)(hg:g1=w1.heap.size)(hk:w3.heap[g1]?=some (.cells #[T,R] 26 (0,0))) :
 Below w1.heap.size w1 (Zlp w3 g1)∧GBox (Zlp w3 g1) g1 T (.slice (some ⟨w3.heap.size+1+1,0,none⟩) 1 1)∧k52.C (Zlp w3 g1) (some ⟨w3.heap.size+1+1,0,none⟩) 1 [rD]∧∀k,k<w3.heap.size→k≠g1→(Zlp w3 g1).heap[k]?=w3.heap[k]?:=by
 have hlt:g1<w3.heap.size:=Zdx hk;have k4:=Zai (Zai (Zai hk (.cells #[.string ⟨#[97]⟩] 9)) (.cells #[.slice none 0 0,.int .i64 2,.slice (some ⟨w3.heap.size,0,none⟩) 1 1,.slice none 0 0,.slice none 0 0] 76)) (.cells #[.int .i64 0,.bool false,.slice (some ⟨w3.heap.size+1,0,none⟩) 1 1] 70);have b4:=Zab (Zab (Zab (Below.refl _ w3) (.cells #[.string ⟨#[97]⟩] 9)) (.cells #[.slice none 0 0,.int .i64 2,.slice (some ⟨w3.heap.size,0,none⟩) 1 1,.slice none 0 0,.slice none 0 0] 76)) (.cells #[.int .i64 0,.bool false,.slice (some ⟨w3.heap.size+1,0,none⟩) 1 1] 70);have e1:=Zai (Zai (Zaj w3 (.cells #[.string ⟨#[97]⟩] 9)) (.cells #[.slice none 0 0,.int .i64 2,.slice (some ⟨w3.heap.size,0,none⟩) 1 1,.slice none 0 0,.slice none 0 0] 76)) (.cells #[.int .i64 0,.bool false,.slice (some ⟨w3.heap.size+1,0,none⟩) 1 1] 70);have e2:=Zai (blk_at (w:=w3.alloc (.cells #[.string ⟨#[97]⟩] 9)) (k:=w3.heap.size+1) (o:=.cells #[.slice none 0 0,.int .i64 2,.slice (some ⟨w3.heap.size,0,none⟩) 1 1,.slice none 0 0,.slice none 0 0] 76) (by simp)) (.cells #[.int .i64 0,.bool false,.slice (some ⟨w3.heap.size+1,0,none⟩) 1 1] 70);have e3:=blk_at (w:=(w3.alloc (.cells #[.string ⟨#[97]⟩] 9)).alloc (.cells #[.slice none 0 0,.int .i64 2,.slice (some ⟨w3.heap.size,0,none⟩) 1 1,.slice none 0 0,.slice none 0 0] 76)) (k:=w3.heap.size+1+1) (o:=.cells #[.int .i64 0,.bool false,.slice (some ⟨w3.heap.size+1,0,none⟩) 1 1] 70) (by simp);have far:∀k,k≠g1→∀X:World,(X.setCell ⟨g1,1,none⟩ (.slice (some ⟨w3.heap.size+1+1,0,none⟩) 1 1)).heap[k]?=X.heap[k]?:=fun k hk X=>Below.heap_setCell X ⟨g1,1,none⟩ _ k hk
 have n1:w3.heap.size≠g1:=by omega
 have n2:w3.heap.size+1≠g1:=by omega
 have n3:w3.heap.size+1+1≠g1:=by omega
 have f1:=(far _ n1 _).trans e1;have f2:=(far _ n2 _).trans e2;have f3:=(far _ n3 _).trans e3;refine⟨(Zae hb b4).setCell (p:=⟨g1,1,none⟩) (by show w1.heap.size≤g1;omega) _,?_,?_,fun k hk2 hne=>(far k hne _).trans (b4.block k hk2)⟩
 ·have h:=Zcd k4 1 (.slice (some ⟨w3.heap.size+1+1,0,none⟩) 1 1);simpa[GBox,Zlp]using h
 ·have s2:Kd.F Kd.string (Zlp w3 g1) (fun _=>True) (some ⟨w3.heap.size,0,none⟩) 1 [⟨#[97]⟩]:=Zdy (cs:=[.string ⟨#[97]⟩]) f1 trivial (fun _ _=>rfl);have s3:Kd.F k79 (Zlp w3 g1) (fun _=>True) (some ⟨w3.heap.size+1,0,none⟩) 1 [⟨[],p0⟩]:=Zdy (cs:=[.slice none 0 0,.int .i64 2,.slice (some ⟨w3.heap.size,0,none⟩) 1 1,.slice none 0 0,.slice none 0 0]) f2 trivial
   (Znj (Zlp w3 g1) _ ⟨[],p0⟩ (Nat.le_refl _) (Kd.F_nil _ _ _) (Nat.le_refl _) s2 (Nat.le_refl _) (Kd.F_nil _ _ _) (Nat.le_refl _) (Kd.F_nil _ _ _))
  exact Kd.F_now (Zdy (ok:=fun _=>True) (cs:=[.int .i64 0,.bool false,.slice (some ⟨w3.heap.size+1,0,none⟩) 1 1]) f3 trivial (k52_mkF (Zlp w3 g1) _ rD (Nat.le_refl _) s3))
end
theorem tabE5:(Zbz gE 5).large=false∧(Zbz gE 5).L=[[]]:=by rw[tab_I];exact tabE
theorem Zfq:Zbz gD 50=sD:=tab_I gD 50
set_option maxHeartbeats 4000000 in
theorem toldD_call (w:World)(ho:Own w)(ht:TabW w)(hmk:∀W,Calls Tryz.prog 10 #[.slice none 0 0] W fun e w'=>∃G At Ar ct cr,e=.returned (.agg #[.slice At G.f0.length ct,.slice Ar G.f1.length cr])∧MakeOk 0 G∧GramR w' G At Ar ct cr∧Below W.heap.size W w') :
 Calls Tryz.prog 12 #[] w fun e w'=>e=.returned (.bool true)∧Below w.heap.size w w':=by
 have HO:=Zrw.mk ho;have HT:=Zrw.mk ht;have HMK:Zrw (∀W,Calls Tryz.prog 10 #[.slice none 0 0] W fun e w'=>∃At Ar ct cr,e=.returned (.agg #[.slice At gE.f0.length ct,.slice Ar gE.f1.length cr])∧GramR w' gE At Ar ct cr∧MakeOk 0 gE∧Below W.heap.size W w'):=⟨fun W=>(hmk W).mono (fun e w' ⟨G,At,Ar,ct,cr,he,hm,hg,hb⟩=>by
  have hT4:G.f0=T4:=by
   obtain⟨a1,a2,hk,_⟩:=hm.kind
   rcases hk with⟨_,h,_⟩ | ⟨h,_⟩
   ·exact h
   ·omega
  have hT0:G.f1=[]:=List.length_eq_zero_iff.1 (Nat.le_zero.1 hm.fewer);have hG:G=gE:=by
   cases G
   simp only at hT4 hT0;subst hT4 hT0
   rfl
  subst hG;exact⟨At,Ar,ct,cr,he,hg,hm,hb⟩)⟩
 clear ho ht hmk;obtain⟨nt,hnt⟩:∃nt,nt=gE.f0.length:=⟨_,rfl⟩
 obtain⟨nr,hnr⟩:∃nr,nr=gE.f1.length:=⟨_,rfl⟩
 rw[←hnt,←hnr]at HMK;have HNT:=Zrw.mk hnt;have HNR:=Zrw.mk hnr;clear hnt hnr
 go_enter Tryz.func12,Tryz.ntmps12
 go_upto_region 2 with (go_at_call 10;(with_reducible refine (HMK.out _).mono ?_);rintro e w1 ⟨At,Ar,ct,cr,rfl,hg,hm,hb1⟩;have HM:=Zrw.mk hm;have HG:=Zrw.mk hg;have HB1:=Zrw.mk hb1;clear hm hg hb1)
 have hbx:=Zab (Below.refl _ w1) (.cells #[.slice At nt ct,.slice Ar nr cr] 26);have hkx:=Zaj w1 (.cells #[.slice At nt ct,.slice Ar nr cr] 26);generalize w1.alloc (.cells #[.slice At nt ct,.slice Ar nr cr] 26)=X at *;obtain⟨g1,hg1⟩:∃g1,g1=w1.heap.size:=⟨_,rfl⟩
 rw[←hg1]at hkx ⊢;have HBX:=Zrw.mk (Zae HB1.out hbx);have HGX:=Zrw.mk (HG.out.below hbx);have HKX:=Zrw.mk hkx;have HG1:Zrw (w.heap.size≤g1):=⟨by have:=HB1.out.size;omega⟩
 have q0:=(Zaa hkx 0).trans rfl;have q1:=(Zaa hkx 1).trans rfl;have HBG:Zrw (Calls Tryz.prog 11 #[.agg #[.slice At nt ct,.slice Ar nr cr],.int .i64 5] X fun e w'=>∃gd,e=.returned (.tuple #[.pointer (some ⟨gd,0,none⟩),.int .i64 0])∧Peek w' gd∧Below X.heap.size X w'):=⟨by
  rw[HNT.out,HNR.out];refine (Zgn X At Ar ct cr gE HGX.out HM.out.gramD (HO.out.below HBX.out) (tab_at HT.out HBX.out) 5 (by decide) (by decide)).mono (fun e w' h=>?_);obtain⟨gd,he,hd,hb⟩:=h.good tabE5.1;exact⟨gd,he,hd.peek tabE5.2,hb⟩⟩
 have HXB:=Zrw.mk hbx;have HGE:=Zrw.mk hg1;clear hbx hkx hg1
 go_upto_region 3 with (go_at_call 11;(with_reducible refine HBG.out.mono ?_);rintro e w2 ⟨ga,rfl,hp2,hb2⟩;have HP2:=Zrw.mk hp2;have HB2:=Zrw.mk hb2;clear hp2 hb2)
 have HK2:=Zrw.mk (Zaf HKX.out HB2.out);have q0:=(Zaa HK2.out 0).trans rfl;have q1:=(Zaa HK2.out 1).trans rfl;have HBZ:Zrw (Calls Tryz.prog 11 #[.agg #[.slice At nt ct,.slice Ar nr cr],.int .i64 0] w2 fun e w'=>e=.returned (.tuple #[.pointer none,.int .i64 1])∧Below w2.heap.size w2 w'):=⟨by
  rw[HNT.out,HNR.out];exact Zns w2 At Ar ct cr gE (HGX.out.below HB2.out) HM.out.gramD (HO.out.below (Zae HBX.out HB2.out))⟩
 go_upto_region 4 with (go_at_call 11;(with_reducible refine HBZ.out.mono ?_);rintro e w2b ⟨rfl,hb2⟩;have HB2b:=Zrw.mk (Zae HB2.out hb2);have HP2:=Zrw.mk (HP2.out.below hb2);clear hb2)
 have HBAD:Zrw (Calls Tryz.prog 11 #[.agg #[.slice none 0 0,.slice none 0 0],.int .i64 5] w2b fun e w'=>e=.returned (.tuple #[.pointer none,.int .i64 6])∧Below w2b.heap.size w2b w'):=⟨Zpp w2b 5⟩
 go_upto_region 5 with (go_at_call 11;(with_reducible refine HBAD.out.mono ?_);rintro e w3 ⟨rfl,hb3⟩;have HB3:=Zrw.mk (Zae HB2b.out hb3);have HP3:=Zrw.mk (HP2.out.below hb3);clear hb3)
 have HK3:=Zrw.mk (Zaf HKX.out HB3.out);have q0:=(Zaa HK3.out 0).trans rfl;have q1:=(Zaa HK3.out 1).trans rfl;have q1a:∀o1 o2 o3,(((w3.alloc o1).alloc o2).alloc o3).cell? ⟨g1,1,none⟩=some (.slice Ar nr cr):=fun o1 o2 o3=>(Zaa (Zai (Zai (Zai HK3.out o1) o2) o3) 1).trans rfl
 have z1a:∀o1 o2 o3,(((w3.alloc o1).alloc o2).alloc o3).frozen? ⟨g1,1,none⟩=false:=fun o1 o2 o3=>Zam (Zai (Zai (Zai HK3.out o1) o2) o3) 1
 go_upto_region 6 with fail
 have hy:=Zqg (w1:=w1) (w3:=w3) (g1:=g1) (T:=.slice At nt ct) (R:=.slice Ar nr cr) (Zae HXB.out HB3.out) HGE.out HK3.out;obtain⟨hy1,hy2,hy3,hy4⟩:=hy;clear q0 q1 q1a z1a;unfold Zlp at hy1 hy2 hy3 hy4;generalize (((w3.alloc (.cells #[.string ⟨#[97]⟩] 9)).alloc (.cells #[.slice none 0 0,.int .i64 2,.slice (some ⟨w3.heap.size,0,none⟩) 1 1,.slice none 0 0,.slice none 0 0] 76)).alloc
  (.cells #[.int .i64 0,.bool false,.slice (some ⟨w3.heap.size+1,0,none⟩) 1 1] 70)).setCell ⟨g1,1,none⟩ (.slice (some ⟨w3.heap.size+1+1,0,none⟩) 1 1)=Y at *
 obtain⟨gR,hgR⟩:∃gR,gR=w3.heap.size+1+1:=⟨_,rfl⟩
 rw[←hgR]at hy2 hy3 ⊢;have HGR:Zrw (GramR Y gD At (some ⟨gR,0,none⟩) ct 1):=⟨⟨HG.out.lt,Kd.C_below HG.out.toks hy1,Nat.le_refl _,hy3⟩⟩
 have HYW:=Zrw.mk (Zae HB1.out hy1);have HBG2:Zrw (Calls Tryz.prog 11 #[.agg #[.slice At nt ct,.slice (some ⟨gR,0,none⟩) 1 1],.int .i64 50] Y fun e w'=>∃gd,e=.returned (.tuple #[.pointer (some ⟨gd,0,none⟩),.int .i64 0])∧DetAt w' gd gD 50∧Below Y.heap.size Y w'):=⟨by
  rw[HNT.out];exact (Zgn Y At (some ⟨gR,0,none⟩) ct 1 gD HGR.out gD_ok (HO.out.below HYW.out) (tab_at HT.out HYW.out) 50 (by decide) (by decide)).mono (fun e w' h=>h.good (by rw[Zfq];exact tabD.1))⟩
 have p0:=(Zaa hy2 0).trans rfl;have p1:=(Zaa hy2 1).trans rfl;have HPY:Zrw (Peek Y ga):=⟨HP3.out.keep (fun k cells q hc hq=>hy4 k (Zau hc) (fun e=>by
  rw[e,HK3.out]at hc;injection hc with hc
  injection hc with _ hc
  exact hq hc.symm))⟩
 clear hy1 hy2 hy3 hy4 hgR
 go_upto_region 7 with (go_at_call 11;(with_reducible refine HBG2.out.mono ?_);rintro e w4 ⟨gv,rfl,hd4,hb4⟩;have HD4:=Zrw.mk hd4;have HB4:=Zrw.mk hb4;have HP4:=Zrw.mk (HPY.out.below hb4);clear hd4 hb4)
 have HLG:Zrw ((Zbz gD 50).large=false):=⟨by rw[Zfq];exact tabD.1⟩
 have HC13:Zrw (∀W,Below w4.heap.size w4 W→Calls Tryz.prog 13 #[.pointer (some ⟨gv,0,none⟩)] W fun e w'=>e=.returned (.int .i64 3)∧w'=W):=
  ⟨fun W hb=>(HD4.out.below hb).len.mono (fun e w' h=>by rw[Zfq,tabD.2.1]at h;exact h)⟩
 have HC13a:Zrw (∀W,Below w4.heap.size w4 W→Calls Tryz.prog 13 #[.pointer (some ⟨ga,0,none⟩)] W fun e w'=>e=.returned (.int .i64 1)∧w'=W):=⟨fun W hb=>(HP4.out.below hb).len⟩
 have HC14:Zrw (∀W,Below w4.heap.size w4 W→Calls Tryz.prog 14 #[.pointer (some ⟨ga,0,none⟩),.int .i64 0] W fun e w'=>∃A c,e=.returned (.slice A 0 c)∧Below W.heap.size W w'):=⟨fun W hb=>(HP4.out.below hb).pairs⟩
 have HC15:Zrw (∀W,Below w4.heap.size w4 W→Calls Tryz.prog 15 #[.pointer (some ⟨gv,0,none⟩),.int .i64 0,.int .i64 0] W fun e w'=>e=.returned (.int .i64 2)∧w'=W):=
  ⟨fun W hb=>((HD4.out.below hb).int HLG.out 0 0).mono (fun e w' h=>by rw[Zfq,tabD.2.2.1]at h;exact h)⟩
 have HC15b:Zrw (∀W,Below w4.heap.size w4 W→Calls Tryz.prog 15 #[.pointer (some ⟨gv,0,none⟩),.int .i64 0,.int .i64 2] W fun e w'=>e=.returned (.int .i64 (-1))∧w'=W):=
  ⟨fun W hb=>((HD4.out.below hb).int HLG.out 0 2).mono (fun e w' h=>by rw[Zfq,tabD.2.2.2.1]at h;exact h)⟩
 have HC16:Zrw (∀W,Below w4.heap.size w4 W→Calls Tryz.prog 16 #[.pointer (some ⟨gv,0,none⟩),.int .i64 0,.int .i64 0] W fun e w'=>e=.returned (.int .i64 (-1))∧w'=W):=
  ⟨fun W hb=>((HD4.out.below hb).call HLG.out 0 0).mono (fun e w' h=>by rw[Zfq,tabD.2.2.2.2.1]at h;exact h)⟩
 have HC18:Zrw (∀W,Below w4.heap.size w4 W→Calls Tryz.prog 18 #[.pointer (some ⟨gv,0,none⟩),.int .i64 0,.int .i64 99,.int .i64 2,.int .i64 3] W fun e w'=>e=.returned (.int .i64 (-1))∧w'=W):=
  ⟨fun W hb=>((HD4.out.below hb).ret (by decide) HLG.out 0 99 2 3).mono (fun e w' h=>by rw[Zfq,tabD.2.2.2.2.2.1]at h;exact h)⟩
 have HC19:Zrw (∀W,Below w4.heap.size w4 W→Calls Tryz.prog 19 #[.pointer (some ⟨gv,0,none⟩),.int .i64 2] W fun e w'=>e=.returned (.int .i64 0)∧Below W.heap.size W w'):=
  ⟨fun W hb=>((HD4.out.below hb).rule 2 (by rw[Zfq,tabD.2.1];decide)).mono (fun e w' h=>by rw[Zfq,tabD.2.2.2.2.2.2.1]at h;exact h)⟩
 have HC19b:Zrw (∀W,Below w4.heap.size w4 W→Calls Tryz.prog 19 #[.pointer (some ⟨gv,0,none⟩),.int .i64 0] W fun e w'=>e=.returned (.int .i64 (-1))∧Below W.heap.size W w'):=
  ⟨fun W hb=>((HD4.out.below hb).rule 0 (by rw[Zfq,tabD.2.1];decide)).mono (fun e w' h=>by rw[Zfq,tabD.2.2.2.2.2.2.2]at h;exact h)⟩
 have HW4:=Zrw.mk (Zae HYW.out HB4.out);have HB6C:=Zrw.mk (Below.refl w4.heap.size w4);clear p0 p1
 go_wp2_with (first
  | (go_at_call 13;first
   | ((with_reducible refine (HC13a.out _ HB6C.out).mono ?_);rintro e w7 ⟨rfl,hw⟩;obtain rfl:=hw.symm)
   | ((with_reducible refine (HC13.out _ HB6C.out).mono ?_);rintro e w7 ⟨rfl,hw⟩;obtain rfl:=hw.symm)
   | ((with_reducible refine (lenD_nil _).mono ?_);rintro e w7 ⟨rfl,hw⟩;obtain rfl:=hw.symm))
  | (go_at_call 14;(with_reducible refine (HC14.out _ HB6C.out).mono ?_);rintro e w7 ⟨aS,ks,rfl,hb⟩;have HB6C:=Zrw.mk (Zae HB6C.out hb);clear hb)
  | (go_at_call 15;first
   | ((with_reducible refine (HC15.out _ HB6C.out).mono ?_);rintro e w7 ⟨rfl,hw⟩;obtain rfl:=hw.symm)
   | ((with_reducible refine (HC15b.out _ HB6C.out).mono ?_);rintro e w7 ⟨rfl,hw⟩;obtain rfl:=hw.symm)
   | ((with_reducible refine (int_nilD _ _ _).mono ?_);rintro e w7 ⟨rfl,hw⟩;obtain rfl:=hw.symm))
  | (go_at_call 19;first
   | ((with_reducible refine (HC19.out _ HB6C.out).mono ?_);rintro e w7 ⟨rfl,hb⟩;have HB6C:=Zrw.mk (Zae HB6C.out hb);clear hb)
   | ((with_reducible refine (HC19b.out _ HB6C.out).mono ?_);rintro e w7 ⟨rfl,hb⟩;have HB6C:=Zrw.mk (Zae HB6C.out hb);clear hb))
  | (go_at_call 16;(with_reducible refine (HC16.out _ HB6C.out).mono ?_);rintro e w7 ⟨rfl,hw⟩;obtain rfl:=hw.symm)
  | (go_at_call 18;(with_reducible refine (HC18.out _ HB6C.out).mono ?_);rintro e w7 ⟨rfl,hw⟩;obtain rfl:=hw.symm))
 go_ret
 exact⟨rfl,Zae HW4.out HB6C.out⟩
end Go.Proofs.YtaokkliamoghbaaGreatDoor.PVpa
