/- Joined from texts of this seat, in their order. -/
import Derived.Test.YtpagbjdmiepgmaaGreatDoorJAf
import Derived.Test.YtpagbjdmiepgmaaGreatDoorJAb
import Derived.Test.YtpagbjdmiepgmaaGreatDoorJAc
import Derived.Test.YtpagbjdmiepgmaaGreatDoorJAg
import Derived.Test.YtpagbjdmiepgmaaGreatDoorJAh
import Derived.Test.YtpagbjdmiepgmaaGreatDoorJAi
set_option linter.unusedVariables false
set_option linter.unusedSimpArgs false
set_option linter.unusedSectionVars false
set_option maxRecDepth 100000
namespace Go.Proofs.YtpagbjdmiepgmaaGreatDoor.PVpa
open Go.RowKit Go.Proofs.YtpagbjdmiepgmaaGreatDoorW.PrintWords Go.Proofs.YtpagbjdmiepgmaaGreatDoorW.PrintLast Go.Proofs.YtpagbjdmiepgmaaGreatDoorW.PrintMore
def p0:S76:=⟨2,[⟨#[97]⟩],[],[]⟩
def r0:S52:=⟨0,true,[⟨nO,p0⟩]⟩
def g0:S26:=⟨T4,[r0]⟩
def m0:Mach:=(Zaw 9 g0 1).mach
theorem p0_mk:Mk nAB nO nC 1 1 p0:=.inr (.inl ⟨rfl,⟨by simp[p0],0,1,rfl⟩,rfl,rfl,Nat.le_refl _⟩)
theorem g0_gram:Zsk g0:=by
 refine⟨by decide,by decide,fun i hi=>tok4 i hi,by decide,fun i hi=>?_⟩;obtain rfl:i=0:=by simp[g0]at hi;omega
 refine⟨by decide,by decide,by decide,fun j hj=>?_⟩;obtain rfl:j=0:=by simp[g0,r0]at hj;omega
 exact⟨rfl,Zmd.2.1,1,1,1,p0_mk.good Zmd.1 Zmd.2.1 Zmd.2.2,p0_mk.fit,by decide,by decide⟩
theorem g0_rules:RulesOk 9 g0:=by
 refine⟨fun i k hi hk=>?_,by decide⟩;obtain rfl:i=0:=by simp[g0]at hi;omega
 obtain rfl:k=0:=by
  have hk:k<1:=hk;omega
 exact (p0_mk.mono (by decide:1≤9)).patOk (by decide) (by decide) (by decide)
theorem g0_calls:Zqc g0:=by
 refine⟨fun i j hi0 hi hj0 hj=>?_,fun i hi0 hi=>?_⟩
 ·obtain rfl:i=0:=by have hi:i<1:=hi;omega
  obtain rfl:j=0:=by have hj:j<1:=hj;omega
  decide
 ·obtain rfl:i=0:=by have hi:i<1:=hi;omega
  decide
theorem m0_len:m0.pl.length=4:=by decide +kernel
theorem m0_start:startL m0=[1]:=by decide +kernel
theorem m0_rule3:Zhh m0 3=0:=by decide +kernel
theorem m0_rule2:Zhh m0 2=-1:=by decide +kernel
theorem m0_bottom:(Zdu g0 m0 1 3).length=1:=by decide +kernel
theorem m0_int:Ztx g0 m0 2 0=[3]:=by decide +kernel
theorem m0_ret:Zqd g0 m0 2 1 3=[]:=by decide +kernel
theorem m0_raw:Zqv g0 m0 1 2=[(1,1),(2,-1)]:=by decide +kernel
theorem m0_may:Zja g0 m0 1 2 1=true:=by decide +kernel
theorem m0_call:Zix g0 m0 1 2=[(1,1),(2,-1)]:=by
 unfold Zix;rw[if_pos m0_may,m0_raw];exact List.mergeSort_of_pairwise (by decide)
theorem m0_nodup:(Zqv g0 m0 1 2).Nodup:=by decide +kernel
theorem len_at (w:World)(gb:Nat)(Ap:Option Addr)(n cp:Nat)(h:w.cell? ⟨gb,2,none⟩=some (.slice Ap n cp)) :
 Calls Tryz.prog 10 #[.pointer (some ⟨gb,0,none⟩)] w fun e w'=>e=.returned (.int .i64 n)∧w'=w:=by
 go_enter Tryz.func10,Tryz.ntmps10
 go_wp2
 go_ret
 exact⟨rfl,rfl⟩
section
variable {w1 w3:World}{g1:Nat}{T R:Value}
def Zll (w3:World)(g1:Nat):World:=
 ((((w3.alloc (.cells #[.string ⟨#[111]⟩] 9)).alloc (.cells #[.string ⟨#[97]⟩] 9)).alloc (.cells #[.slice (some ⟨w3.heap.size,0,none⟩) 1 1,.int .i64 2,.slice (some ⟨w3.heap.size+1,0,none⟩) 1 1,.slice none 0 0,.slice none 0 0] 79)).alloc
  (.cells #[.int .i64 0,.bool true,.slice (some ⟨w3.heap.size+1+1,0,none⟩) 1 1] 52)).setCell ⟨g1,1,none⟩ (.slice (some ⟨w3.heap.size+1+1+1,0,none⟩) 1 1)
theorem blk_at {w:World}{k:Nat}{o:Obj}(hk:k=w.heap.size):(w.alloc o).heap[k]?=some o:=by
 subst hk;exact Zaq w o
theorem Zso (hb:Below w1.heap.size w1 w3)(hg:g1=w1.heap.size)(hk:w3.heap[g1]?=some (.cells #[T,R] 26 (0,0))) :
 Below w1.heap.size w1 (Zll w3 g1)∧GBox (Zll w3 g1) g1 T (.slice (some ⟨w3.heap.size+1+1+1,0,none⟩) 1 1)∧k52.C (Zll w3 g1) (some ⟨w3.heap.size+1+1+1,0,none⟩) 1 [r0]∧∀k,k<w3.heap.size→k≠g1→(Zll w3 g1).heap[k]?=w3.heap[k]?:=by
 have hlt:g1<w3.heap.size:=Zew hk;have k4:=Zan (Zan (Zan (Zan hk (.cells #[.string ⟨#[111]⟩] 9)) (.cells #[.string ⟨#[97]⟩] 9)) (.cells #[.slice (some ⟨w3.heap.size,0,none⟩) 1 1,.int .i64 2,.slice (some ⟨w3.heap.size+1,0,none⟩) 1 1,.slice none 0 0,.slice none 0 0] 79)) (.cells #[.int .i64 0,.bool true,.slice (some ⟨w3.heap.size+1+1,0,none⟩) 1 1] 52);have b4:=Zae (Zae (Zae (Zae (Below.refl _ w3) (.cells #[.string ⟨#[111]⟩] 9)) (.cells #[.string ⟨#[97]⟩] 9)) (.cells #[.slice (some ⟨w3.heap.size,0,none⟩) 1 1,.int .i64 2,.slice (some ⟨w3.heap.size+1,0,none⟩) 1 1,.slice none 0 0,.slice none 0 0] 79)) (.cells #[.int .i64 0,.bool true,.slice (some ⟨w3.heap.size+1+1,0,none⟩) 1 1] 52);have e0:=Zan (Zan (Zan (Zaq w3 (.cells #[.string ⟨#[111]⟩] 9)) (.cells #[.string ⟨#[97]⟩] 9)) (.cells #[.slice (some ⟨w3.heap.size,0,none⟩) 1 1,.int .i64 2,.slice (some ⟨w3.heap.size+1,0,none⟩) 1 1,.slice none 0 0,.slice none 0 0] 79)) (.cells #[.int .i64 0,.bool true,.slice (some ⟨w3.heap.size+1+1,0,none⟩) 1 1] 52);have e1:=Zan (Zan (blk_at (w:=w3.alloc (.cells #[.string ⟨#[111]⟩] 9)) (k:=w3.heap.size+1) (o:=.cells #[.string ⟨#[97]⟩] 9) (by simp)) (.cells #[.slice (some ⟨w3.heap.size,0,none⟩) 1 1,.int .i64 2,.slice (some ⟨w3.heap.size+1,0,none⟩) 1 1,.slice none 0 0,.slice none 0 0] 79)) (.cells #[.int .i64 0,.bool true,.slice (some ⟨w3.heap.size+1+1,0,none⟩) 1 1] 52);have e2:=Zan (blk_at (w:=(w3.alloc (.cells #[.string ⟨#[111]⟩] 9)).alloc (.cells #[.string ⟨#[97]⟩] 9)) (k:=w3.heap.size+1+1) (o:=.cells #[.slice (some ⟨w3.heap.size,0,none⟩) 1 1,.int .i64 2,.slice (some ⟨w3.heap.size+1,0,none⟩) 1 1,.slice none 0 0,.slice none 0 0] 79) (by simp)) (.cells #[.int .i64 0,.bool true,.slice (some ⟨w3.heap.size+1+1,0,none⟩) 1 1] 52);have e3:=blk_at (w:=((w3.alloc (.cells #[.string ⟨#[111]⟩] 9)).alloc (.cells #[.string ⟨#[97]⟩] 9)).alloc (.cells #[.slice (some ⟨w3.heap.size,0,none⟩) 1 1,.int .i64 2,.slice (some ⟨w3.heap.size+1,0,none⟩) 1 1,.slice none 0 0,.slice none 0 0] 79)) (k:=w3.heap.size+1+1+1) (o:=.cells #[.int .i64 0,.bool true,.slice (some ⟨w3.heap.size+1+1,0,none⟩) 1 1] 52) (by simp);have far:∀k,k≠g1→∀X:World,(X.setCell ⟨g1,1,none⟩ (.slice (some ⟨w3.heap.size+1+1+1,0,none⟩) 1 1)).heap[k]?=X.heap[k]?:=fun k hk X=>Below.heap_setCell X ⟨g1,1,none⟩ _ k hk
 have n0:w3.heap.size≠g1:=by omega
 have n1:w3.heap.size+1≠g1:=by omega
 have n2:w3.heap.size+1+1≠g1:=by omega
 have n3:w3.heap.size+1+1+1≠g1:=by omega
 have f0:=(far _ n0 _).trans e0;have f1:=(far _ n1 _).trans e1;have f2:=(far _ n2 _).trans e2;have f3:=(far _ n3 _).trans e3;refine⟨(Zaf hb b4).setCell (p:=⟨g1,1,none⟩) (by show w1.heap.size≤g1;omega) _,?_,?_,fun k hk2 hne=>(far k hne _).trans (b4.block k hk2)⟩
 ·have h:=Zef k4 1 (.slice (some ⟨w3.heap.size+1+1+1,0,none⟩) 1 1);simpa[GBox,Zll]using h
 ·have s1:Kd.F Kd.string (Zll w3 g1) (fun _=>True) (some ⟨w3.heap.size,0,none⟩) 1 [⟨#[111]⟩]:=Zex (cs:=[.string ⟨#[111]⟩]) f0 trivial (fun _ _=>rfl);have s2:Kd.F Kd.string (Zll w3 g1) (fun _=>True) (some ⟨w3.heap.size+1,0,none⟩) 1 [⟨#[97]⟩]:=Zex (cs:=[.string ⟨#[97]⟩]) f1 trivial (fun _ _=>rfl);have s3:Kd.F k79 (Zll w3 g1) (fun _=>True) (some ⟨w3.heap.size+1+1,0,none⟩) 1 [⟨nO,p0⟩]:=Zex (cs:=[.slice (some ⟨w3.heap.size,0,none⟩) 1 1,.int .i64 2,.slice (some ⟨w3.heap.size+1,0,none⟩) 1 1,.slice none 0 0,.slice none 0 0]) f2 trivial
   (Zpi (Zll w3 g1) _ ⟨nO,p0⟩ (Nat.le_refl _) s1 (Nat.le_refl _) s2 (Nat.le_refl _) (Kd.F_nil _ _ _) (Nat.le_refl _) (Kd.F_nil _ _ _))
  exact Kd.F_now (Zex (ok:=fun _=>True) (cs:=[.int .i64 0,.bool true,.slice (some ⟨w3.heap.size+1+1,0,none⟩) 1 1]) f3 trivial (k52_mkF (Zll w3 g1) _ r0 (Nat.le_refl _) s3))
end
theorem Zrp {w w':World}{l:List Int}{e:Ending}(h:Zea w l e w'):∃A c,e=.returned (.slice A l.length c)∧Below w.heap.size w w':=by
 obtain⟨v,rfl,hr,hb⟩:=h;obtain⟨A,c,rfl,_⟩:=Kd.R_reads hr;exact⟨A,c,rfl,hb⟩
theorem Zrq {w w':World}{q:Int}{l:List Int}{e:Ending}(h:Zea w (q :: l) e w'):∃ad c,e=.returned (.slice (some ad) (l.length+1) c)∧w'.cell? ad=some (.int .i64 q)∧Below w.heap.size w w':=by
 obtain⟨v,rfl,hr,hb⟩:=h;obtain⟨A,c,rfl,_,hc⟩:=Kd.R_reads hr;obtain⟨ad,rfl,h0⟩:=Kd.at_int hc (0:Int) (by omega) (by simp);have e0:ad.add (0:Int).toNat=ad:=Addr.add_zero' ad;rw[e0]at h0;exact⟨ad,c,rfl,h0,hb⟩
theorem givesP_two {w w':World}{a b c d:Int}{e:Ending}(h:GivesP w [(a,b),(c,d)] e w'):∃g k,e=.returned (.slice (some ⟨g,0,none⟩) 2 k)∧w'.cell? ⟨g,0,none⟩=some (.int .i64 a)∧w'.cell? ⟨g,1,none⟩=some (.int .i64 b)∧w'.cell? ⟨g,2,none⟩=some (.int .i64 c)∧w'.cell? ⟨g,3,none⟩=some (.int .i64 d)∧Below w.heap.size w w':=by
 obtain⟨v,rfl,ho,hb⟩:=h;obtain⟨_,ho⟩:=ho
 rcases ho with⟨_,h2⟩ | ⟨g,cap,cur,rfl,_,hk,_,_,_,hx⟩
 ·cases h2
 ·have hcell:∀(j:Nat) (v:Value),(Zdf [(a,b),(c,d)])[j]?=some v→w'.cell? ⟨g,j,none⟩=some v:=fun j v hj=>by
   rw[←hx,List.getElem?_take]at hj
   split at hj
   ·rw[Zac hk];simpa using hj
   ·cases hj
  exact⟨g,cap,rfl,hcell 0 _ rfl,hcell 1 _ rfl,hcell 2 _ rfl,hcell 3 _ rfl,hb⟩
abbrev Zjo (a b:Int):Value:=.iface 122 (.agg #[.int .i64 a,.int .i64 b])
theorem must_bad (gc:Nat)(c wh:Int)(w:World)(h:w.cell? ⟨gc,2,none⟩=some (.int .i64 wh)):Calls Tryz.prog 61 #[.pointer (some ⟨gc,0,none⟩),.bool false,.int .i64 c] w fun e w'=>e=.panicked [{ v:=Zjo c wh,recovered:=false }]∧w'=w:=by
 have hp:∀(v:Value) (w:World),(Instr.panic (.iface 122 v)).run Tryz.prog w=.halt (.panic (.iface 122 v)) w:=fun _ _=>rfl
 go_enter Tryz.func61,Tryz.ntmps61
 go_wp2
 simp[bodyPost]
theorem work_bad (w:World)(gg:Nat)(hgg:w.heap[gg]?=some (.cells #[.slice none 0 0,.slice none 0 0] 26 (0,0))) :
 Calls Tryz.prog 60 #[.pointer (some ⟨gg,0,none⟩)] w fun e w'=>e=.panicked [{ v:=Zjo 6 0,recovered:=false }]∧Below w.heap.size w w':=by
 have q0:w.cell? ⟨gg,0,none⟩=some (.slice none 0 0):=(Zac hgg 0).trans rfl;have q1:w.cell? ⟨gg,1,none⟩=some (.slice none 0 0):=(Zac hgg 1).trans rfl;have q2:∀o,(w.alloc o).cell? ⟨gg,0,none⟩=some (.slice none 0 0):=fun o=>(Zac (Zan hgg o) 0).trans rfl
 have HB:=Zaa.mk (Zae (Below.refl _ w) (.cells #[.slice none 0 0,.slice none 0 0,.int .i64 0] 126));have HM:=Zaa.mk (must_bad w.heap.size 6 0 (w.alloc (.cells #[.slice none 0 0,.slice none 0 0,.int .i64 0] 126)) ((Zac (Zaq w _) 2).trans rfl));clear hgg
 go_enter Tryz.func60,Tryz.ntmps60
 go_wp2_with (go_at_call 61;(with_reducible refine HM.out.mono ?_);rintro e w7 ⟨rfl,rfl⟩)
 simp[bodyPost];exact HB.out
set_option maxHeartbeats 2000000 in
theorem Zke (g:Nat)(a b x y:Int)(older:List PanicEntry)(w:World)(h0:w.heap[g]?=some (.cells #[.int .i64 x,.int .i64 y] 122 (0,0))) :
 CallsD Tryz.prog 83 #[.pointer (some ⟨g,0,none⟩)] (.panicking ({ v:=Zjo a b,recovered:=false } :: older)) w fun e u' w'=>e=.returned (.tuple #[])∧u'=.panicking ({ v:=Zjo a b,recovered:=true } :: older)∧∃o,w'=((w.setCell ⟨g,0,none⟩ (.int .i64 a)).setCell ⟨g,1,none⟩ (.int .i64 b)).alloc o:=by
 have hta:∀w:World,(Instr.typeAssert (Zjo a b) 20 122 true).run Tryz.prog w=.ok (.tuple #[.agg #[.int .i64 a,.int .i64 b],.bool true]) w:=fun _=>by kernel_rfl
 have hgl:=Zbj h0;have q0:w.cell? ⟨g,0,none⟩=some (.int .i64 x):=(Zac h0 0).trans rfl;have q1:w.cell? ⟨g,1,none⟩=some (.int .i64 y):=(Zac h0 1).trans rfl;have z0:∀i,w.frozen? ⟨g,i,none⟩=false:=fun i=>Zat h0 i
 refine callsD_of_wpS Tryz.func83 rfl fun c₀ cs hu=>?_
 apply wpS_seq;apply wpS_region;simp[wpOpsS,go_sem,recoverD,hu,Tryz.ntmps83,Exit.thenS];apply wpS_seq;apply wpS_region;simp[wpOpsS,go_sem,Exit.thenS];refine wpS_cond (t:=true) (by simp[Act.eval,Array.replicate]) ?_
 simp only[if_true];refine wpS_of_wp ?_
 change Code.wp _ _ _ ⟨#[.pointer (some ⟨g,0,none⟩),Zjo a b,undef,undef,Zjo a b,Zjo a b,.bool true,undef,undef,undef,undef,undef,undef,undef,undef,undef],[]⟩ w;go_wp2
 cases c₀
 simp[bodyPostS,results,Tryz.results83];exact⟨_,rfl⟩
set_option maxHeartbeats 2000000 in
theorem caught_bad (w:World)(gg:Nat)(hw:∀W,Below w.heap.size w W→Calls Tryz.prog 60 #[.pointer (some ⟨gg,0,none⟩)] W fun e w'=>e=.panicked [{ v:=Zjo 6 0,recovered:=false }]∧Below W.heap.size W w') :
 Calls Tryz.prog 59 #[.func (.func 60) #[] #[.pointer (some ⟨gg,0,none⟩)]] w fun e w'=>e=.returned (.agg #[.int .i64 6,.int .i64 0])∧Below w.heap.size w w':=by
 have hmf:∀(fn:Fn) (first cap:Array Value) (w:World),(Instr.makeFunc fn first cap).run Tryz.prog w=.ok (.func fn first cap) w:=fun _ _ _ _=>rfl
 have eg:∀args w,(callFunc 60 args).run Tryz.prog w=.ok (.enter 60 args) w:=enters_of Tryz.func60 (by kernel_rfl) rfl;have HB:=Zaa.mk (Zae (Below.refl _ w) (.cells #[.int .i64 0,.int .i64 0] 122));have HK:=Zaa.mk (Zaq w (.cells #[.int .i64 0,.int .i64 0] 122));have HW:=Zaa.mk (hw _ HB.out);clear hw
 go_enter_defers Tryz.func59,Tryz.ntmps59
 go_wp2_with (go_at_fn 60;(with_reducible refine HW.out.mono ?_);rintro e w1 ⟨rfl,hb⟩;have HB1:=Zaa.mk (Zaf HB.out hb);have HK1:=Zaa.mk (Zag HK.out hb);clear hb)
 refine leaves_cons (f:=83) (args:=#[.pointer (some ⟨w.heap.size,0,none⟩)]) (by simp) (by simp[go_sem]) ?_
 refine (Zke w.heap.size 6 0 0 0 [] _ HK1.out).mono ?_
 rintro e u' w'' ⟨rfl,rfl,o,rfl⟩;have HBY:=Zae (Zds (j:=1) (v:=.int .i64 0) (Zds (j:=0) (v:=.int .i64 6) HB1.out (Nat.le_refl _)) (Nat.le_refl _)) o;have kY:=Zan (Zcd (Zcd HK1.out 0 (.int .i64 6) rfl) 1 (.int .i64 0) rfl) o;generalize ((w1.setCell ⟨w.heap.size,0,none⟩ (.int .i64 6)).setCell ⟨w.heap.size,1,none⟩ (.int .i64 0)).alloc o=Y at *;have y0:Y.cell? ⟨w.heap.size,0,none⟩=some (.int .i64 6):=(Zac kY 0).trans rfl;have y1:Y.cell? ⟨w.heap.size,1,none⟩=some (.int .i64 0):=(Zac kY 1).trans rfl;clear HK1 HB1 HW HK HB;simp[Leaves,settle,results,Tryz.results59,go_sem,y0,y1];exact HBY
set_option maxHeartbeats 1000000 in
theorem check_bad (w:World) :
 Calls Tryz.prog 31 #[.agg #[.slice none 0 0,.slice none 0 0]] w fun e w'=>e=.returned (.tuple #[.int .i64 6,.int .i64 0])∧Below w.heap.size w w':=by
 have hmf:∀(fn:Fn) (first cap:Array Value) (w:World),(Instr.makeFunc fn first cap).run Tryz.prog w=.ok (.func fn first cap) w:=fun _ _ _ _=>rfl
 have HB:=Zaa.mk (Zae (Below.refl _ w) (.cells #[.slice none 0 0,.slice none 0 0] 26));have HK:=Zaa.mk (Zaq w (.cells #[.slice none 0 0,.slice none 0 0] 26));have HC:=Zaa.mk (caught_bad (w.alloc (.cells #[.slice none 0 0,.slice none 0 0] 26)) w.heap.size (fun W hb=>work_bad W w.heap.size (Zag HK.out hb)))
 go_enter Tryz.func31,Tryz.ntmps31
 go_upto_region 2 with (go_at_call 59;(with_reducible refine HC.out.mono ?_);rintro e w1 ⟨rfl,hb⟩;have HB1:=Zaa.mk (Zaf HB.out hb);clear hb)
 go_quiet (fail)
 go_wp2
 go_ret2
 exact⟨rfl,Zah (Zaf HB1.out (Zae Zbr _)) _⟩
set_option maxHeartbeats 1000000 in
theorem build_bad (w:World) :
 Calls Tryz.prog 8 #[.agg #[.slice none 0 0,.slice none 0 0]] w fun e w'=>e=.returned (.tuple #[.pointer none,.int .i64 6])∧Below w.heap.size w w':=by
 have HB0:=Zaa.mk (Zae (Below.refl _ w) (.cells #[.slice none 0 0,.slice none 0 0] 26));have HC:=Zaa.mk (check_bad (w.alloc (.cells #[.slice none 0 0,.slice none 0 0] 26)))
 go_enter Tryz.func8,Tryz.ntmps8
 go_wp2_with (go_at_call 31;(with_reducible refine HC.out.mono ?_);rintro e w1 ⟨rfl,hb1⟩;have HB1:=Zaa.mk (Zaf HB0.out hb1);clear hb1)
 go_wp2
 go_ret2
 exact⟨rfl,HB1.out⟩
set_option maxHeartbeats 2000000 in
theorem told_call (w:World)(ho:Own w)(hmk:∀W,Calls Tryz.prog 7 #[.slice none 0 0] W fun e w'=>∃G At Ar ct cr,e=.returned (.agg #[.slice At G.f0.length ct,.slice Ar G.f1.length cr])∧MakeOk 0 G∧GramR w' G At Ar ct cr∧Below W.heap.size W w') :
 Calls Tryz.prog 24 #[] w fun e w'=>e=.returned (.bool true)∧Below w.heap.size w w':=by
 have HO:=Zaa.mk ho;have HMK:=Zaa.mk hmk;clear ho hmk
 go_enter Tryz.func24,Tryz.ntmps24
 go_upto_region 2 with (go_at_call 7;(with_reducible refine (HMK.out _).mono ?_);rintro e w1 ⟨G,At,Ar,ct,cr,rfl,hm,hg,hb1⟩;have HM:=Zaa.mk hm;have HG:=Zaa.mk hg;have HB1:=Zaa.mk hb1;clear hm hg hb1)
 have hbx:=Zae (Below.refl _ w1) (.cells #[.slice At G.f0.length ct,.slice Ar G.f1.length cr] 26);have hkx:=Zaq w1 (.cells #[.slice At G.f0.length ct,.slice Ar G.f1.length cr] 26);generalize w1.alloc (.cells #[.slice At G.f0.length ct,.slice Ar G.f1.length cr] 26)=X at *;obtain⟨g1,hg1⟩:∃g1,g1=w1.heap.size:=⟨_,rfl⟩
 rw[←hg1]at hkx ⊢;have HBX:=Zaa.mk (Zaf HB1.out hbx);have HGX:=Zaa.mk (HG.out.below hbx);have HKX:=Zaa.mk hkx;have HG1:Zaa (w.heap.size≤g1):=⟨by have:=HB1.out.size;omega⟩
 have q0:=(Zac hkx 0).trans rfl;have q1:=(Zac hkx 1).trans rfl;have HBG:=Zaa.mk (Zig X At Ar ct cr G 9 HGX.out HM.out.gram HM.out.rulesOk (HO.out.below HBX.out));have HXB:=Zaa.mk hbx;have HGE:=Zaa.mk hg1;clear hbx hkx hg1
 go_upto_region 3 with (go_at_call 8;(with_reducible refine HBG.out.mono ?_);rintro e w2 ⟨ga,φa,rfl,hv2,ho2,hb2⟩;have HV2:=Zaa.mk hv2;have HB2:=Zaa.mk hb2;clear hv2 ho2 hb2)
 go_upto_region 4 with (go_at_call 8;(with_reducible refine (build_bad _).mono ?_);rintro e w3 ⟨rfl,hb3⟩;have HB3:=Zaa.mk hb3;clear hb3)
 have HK3:=Zaa.mk (Zag (Zag HKX.out HB2.out) HB3.out);have q0:=(Zac HK3.out 0).trans rfl;have q1:=(Zac HK3.out 1).trans rfl;have q1a:∀o1 o2 o3 o4,((((w3.alloc o1).alloc o2).alloc o3).alloc o4).cell? ⟨g1,1,none⟩=some (.slice Ar G.f1.length cr):=fun o1 o2 o3 o4=>(Zac (Zan (Zan (Zan (Zan HK3.out o1) o2) o3) o4) 1).trans rfl
 have z1a:∀o1 o2 o3 o4,((((w3.alloc o1).alloc o2).alloc o3).alloc o4).frozen? ⟨g1,1,none⟩=false:=fun o1 o2 o3 o4=>Zat (Zan (Zan (Zan (Zan HK3.out o1) o2) o3) o4) 1
 have HB3W:=Zaa.mk (Zaf (Zaf HBX.out HB2.out) HB3.out);have HV3:=Zaa.mk (HV2.out.below HB3.out);have HG3:=Zaa.mk ((HGX.out.below HB2.out).below HB3.out)
 go_upto_region 5 with fail
 have hy:=Zso (w1:=w1) (w3:=w3) (g1:=g1) (T:=.slice At G.f0.length ct) (R:=.slice Ar G.f1.length cr) (Zaf (Zaf HXB.out HB2.out) HB3.out) HGE.out HK3.out;obtain⟨hy1,hy2,hy3,hy4⟩:=hy;clear q0 q1 q1a z1a;unfold Zll at hy1 hy2 hy3 hy4;generalize ((((w3.alloc (.cells #[.string ⟨#[111]⟩] 9)).alloc (.cells #[.string ⟨#[97]⟩] 9)).alloc (.cells #[.slice (some ⟨w3.heap.size,0,none⟩) 1 1,.int .i64 2,.slice (some ⟨w3.heap.size+1,0,none⟩) 1 1,.slice none 0 0,.slice none 0 0] 79)).alloc
  (.cells #[.int .i64 0,.bool true,.slice (some ⟨w3.heap.size+1+1,0,none⟩) 1 1] 52)).setCell ⟨g1,1,none⟩ (.slice (some ⟨w3.heap.size+1+1+1,0,none⟩) 1 1)=Y at *
 obtain⟨gR,hgR⟩:∃gR,gR=w3.heap.size+1+1+1:=⟨_,rfl⟩
 rw[←hgR]at hy2 hy3 ⊢;have hT4:G.f0=T4:=by
  obtain⟨a1,a2,hk,_⟩:=HM.out.kind
  rcases hk with⟨_,h,_⟩ | ⟨h,_⟩
  ·exact h
  ·omega
 have HGR:Zaa (GramR Y g0 At (some ⟨gR,0,none⟩) ct 1):=⟨⟨by have:=HG.out.lt;rw[hT4]at this;exact this,by have h9:=Kd.C_below HG.out.toks hy1;rw[hT4]at h9;exact h9,Nat.le_refl _,hy3⟩⟩
 have HYW:=Zaa.mk (Zaf HB1.out hy1);have HBG2:Zaa (Calls Tryz.prog 8 #[.agg #[.slice At T4.length ct,.slice (some ⟨gR,0,none⟩) 1 1]] Y fun e w'=>∃gb φ,e=.returned (.tuple #[.pointer (some ⟨gb,0,none⟩),.int .i64 0])∧VR w' gb g0 m0 φ∧m0.Ok φ∧Below Y.heap.size Y w'):=⟨Zig Y At (some ⟨gR,0,none⟩) ct 1 g0 9 HGR.out g0_gram g0_rules (HO.out.below HYW.out)⟩
 have p0:=(Zac hy2 0).trans rfl;have p1:=(Zac hy2 1).trans rfl;rw[hT4]at p0;have HY4:=Zaa.mk hy4;clear hy1 hy2 hy3 hy4 hgR
 go_upto_region 6 with (go_at_call 8;(with_reducible refine HBG2.out.mono ?_);rintro e w4 ⟨gv,φ,rfl,hv4,ho4,hb4⟩;have HV4:=Zaa.mk hv4;have HO4:=Zaa.mk ho4;have HB4:=Zaa.mk hb4;clear hv4 ho4 hb4)
 have HV:=Zaa.mk (fun W (hb:Below w4.heap.size w4 W)=>HV4.out.below hb);have HFT:=Zaa.mk (Zop 9 g0 g0_calls);have HFT2:=Zaa.mk (Ziz 9 g0);have HC16:Zaa (∀W,Below w4.heap.size w4 W→Calls Tryz.prog 16 #[.pointer (some ⟨gv,0,none⟩),.int .i64 1,.int .i64 2] W fun e w'=>∃g k,e=.returned (.slice (some ⟨g,0,none⟩) 2 k)∧w'.cell? ⟨g,0,none⟩=some (.int .i64 1)∧w'.cell? ⟨g,1,none⟩=some (.int .i64 1)∧w'.cell? ⟨g,2,none⟩=some (.int .i64 2)∧w'.cell? ⟨g,3,none⟩=some (.int .i64 (-1))∧Below W.heap.size W w'):=
  ⟨fun W hb=>(Zsb W gv g0 m0 φ (HV.out W hb) HO4.out HFT.out HFT2.out 1 2 m0_nodup).mono (fun e w' h=>by rw[m0_call]at h;exact givesP_two h)⟩
 have HC13:Zaa (∀W,Below w4.heap.size w4 W→Calls Tryz.prog 13 #[.pointer (some ⟨gv,0,none⟩),.int .i64 2,.int .i64 0] W fun e w'=>∃ad c,e=.returned (.slice (some ad) 1 c)∧w'.cell? ad=some (.int .i64 3)∧Below W.heap.size W w'):=
  ⟨fun W hb=>(int_call W gv g0 m0 φ (HV.out W hb) HO4.out 2 0).mono (fun e w' h=>by rw[m0_int]at h;exact Zrq h)⟩
 have HC12:Zaa (∀W,Below w4.heap.size w4 W→Calls Tryz.prog 12 #[.pointer (some ⟨gv,0,none⟩)] W fun e w'=>∃ad c,e=.returned (.slice (some ad) 1 c)∧w'.cell? ad=some (.int .i64 1)∧Below W.heap.size W w'):=
  ⟨fun W hb=>(Znz W gv g0 m0 φ (HV.out W hb) HO4.out).mono (fun e w' h=>by rw[m0_start]at h;exact Zrq h)⟩
 have HC20:Zaa (∀W,Below w4.heap.size w4 W→Calls Tryz.prog 20 #[.pointer (some ⟨gv,0,none⟩),.int .i64 1,.int .i64 3] W fun e w'=>∃A c,e=.returned (.slice A 1 c)∧Below W.heap.size W w'):=
  ⟨fun W hb=>(Zmt W gv g0 m0 φ (HV.out W hb) 1 3).mono (fun e w' h=>by have h:=Zrp h;rw[m0_bottom]at h;exact h)⟩
 have HC18:Zaa (∀W,Below w4.heap.size w4 W→Calls Tryz.prog 18 #[.pointer (some ⟨gv,0,none⟩),.int .i64 2,.int .i64 1,.int .i64 3] W fun e w'=>∃A c,e=.returned (.slice A 0 c)∧Below W.heap.size W w'):=
  ⟨fun W hb=>(ret_call W gv g0 m0 φ (HV.out W hb) HO4.out 2 1 3).mono (fun e w' h=>by rw[m0_ret]at h;exact Zrp h)⟩
 have HC10:Zaa (∀W,Below w4.heap.size w4 W→Calls Tryz.prog 10 #[.pointer (some ⟨gv,0,none⟩)] W fun e w'=>e=.returned (.int .i64 4)∧w'=W):=
  ⟨fun W hb=>(len_call W gv g0 m0 φ (HV.out W hb)).mono (fun e w' h=>by rw[m0_len]at h;exact h)⟩
 have HC22:Zaa (∀W,Below w4.heap.size w4 W→Calls Tryz.prog 22 #[.pointer (some ⟨gv,0,none⟩),.int .i64 3] W fun e w'=>e=.returned (.int .i64 0)∧Below W.heap.size W w'):=
  ⟨fun W hb=>(Zlo W gv g0 m0 φ (HV.out W hb) HO4.out 3).mono (fun e w' h=>by rw[m0_rule3]at h;exact⟨h.1,h.2.below⟩)⟩
 have HC22b:Zaa (∀W,Below w4.heap.size w4 W→Calls Tryz.prog 22 #[.pointer (some ⟨gv,0,none⟩),.int .i64 2] W fun e w'=>e=.returned (.int .i64 (-1))∧Below W.heap.size W w'):=
  ⟨fun W hb=>(Zlo W gv g0 m0 φ (HV.out W hb) HO4.out 2).mono (fun e w' h=>by rw[m0_rule2]at h;exact⟨h.1,h.2.below⟩)⟩
 obtain⟨At0,ct0,Ar0,cr0,Apa,cpa,Asa,csa,Afa,cfa,hca,_⟩:=HV2.out.cells;have hpa:w2.cell? ⟨ga,2,none⟩=some (.slice Apa 1 cpa):=by
  have h1:w2.cell? ⟨ga,2,none⟩=some (.slice Apa (Zaw 9 G G.f1.length).mach.pl.length cpa):=(Zac hca 2).trans rfl;have h2:G.f1.length=0:=Nat.le_zero.1 HM.out.fewer;rw[h2]at h1;exact h1
 have hne:ga≠g1:=Zrj (Zag hca HB3.out) HK3.out (by decide);have hpy:Y.cell? ⟨ga,2,none⟩=some (.slice Apa 1 cpa):=by
  have h3:=Zab HB3.out hpa;have h4:=HY4.out ga (Zew (Zag hca HB3.out)) hne;rw[←World.cell?_of_block (a:=⟨ga,2,none⟩) h4]at h3;exact h3
 have HC10a:Zaa (∀W,Below w4.heap.size w4 W→Calls Tryz.prog 10 #[.pointer (some ⟨ga,0,none⟩)] W fun e w'=>e=.returned (.int .i64 1)∧w'=W):=
  ⟨fun W hb=>len_at W ga Apa 1 cpa (Zab hb (Zab HB4.out hpy))⟩
 have HW4:=Zaa.mk (Zaf HYW.out HB4.out);clear hca hpa hne hpy p0 p1
 go_upto_region 9 with (go_at_call 16;(with_reducible refine (HC16.out _ Zbr).mono ?_);rintro e w5 ⟨gc,kc,rfl,c0,c1,c2,c3,hb5⟩;have HB5:=Zaa.mk hb5;have C0:=Zaa.mk c0;have C1:=Zaa.mk c1;have C2:=Zaa.mk c2;have C3:=Zaa.mk c3;clear c0 c1 c2 c3 hb5)
 go_upto_region 10 with (go_at_call 13;(with_reducible refine (HC13.out _ HB5.out).mono ?_);rintro e w6 ⟨ai,ki,rfl,i0,hb6⟩;have I0:=Zaa.mk i0;have HB6:=Zaa.mk (Zaf HB5.out hb6);have C0:=Zaa.mk (Zab hb6 C0.out);have C1:=Zaa.mk (Zab hb6 C1.out);have C2:=Zaa.mk (Zab hb6 C2.out);have C3:=Zaa.mk (Zab hb6 C3.out);clear i0 hb6)
 have heq1:∀W,(Op.equalIn 10000 53 (.agg #[.int .i64 1,.int .i64 1]) (.agg #[.int .i64 1,.int .i64 1])).run Tryz.prog W=.ok true W:=fun W=>by kernel_rfl
 have heq2:∀W,(Op.equalIn 10000 53 (.agg #[.int .i64 2,.int .i64 (-1)]) (.agg #[.int .i64 2,.int .i64 (-1)])).run Tryz.prog W=.ok true W:=fun W=>by kernel_rfl
 have HB6C:=Zaa.mk (Below.refl w6.heap.size w6)
 go_wp2_with (first
  | (go_at_call 10;first
   | ((with_reducible refine (HC10a.out _ (Zaf HB6.out HB6C.out)).mono ?_);rintro e w7 ⟨rfl,hw⟩;obtain rfl:=hw.symm)
   | ((with_reducible refine (HC10.out _ (Zaf HB6.out HB6C.out)).mono ?_);rintro e w7 ⟨rfl,hw⟩;obtain rfl:=hw.symm)
   | ((with_reducible refine (len_nil _).mono ?_);rintro e w7 ⟨rfl,hw⟩;obtain rfl:=hw.symm))
  | (go_at_call 12;(with_reducible refine (HC12.out _ (Zaf HB6.out HB6C.out)).mono ?_);rintro e w7 ⟨aS,ks,rfl,s0,hb⟩;have HB6C:=Zaa.mk (Zaf HB6C.out hb);have c0:=Zab HB6C.out C0.out;have c1:=Zab HB6C.out C1.out;have c2:=Zab HB6C.out C2.out;have c3:=Zab HB6C.out C3.out;have i0:=Zab HB6C.out I0.out;clear hb)
  | (go_at_call 22;first
   | ((with_reducible refine (HC22.out _ (Zaf HB6.out HB6C.out)).mono ?_);rintro e w7 ⟨rfl,hb⟩;have HB6C:=Zaa.mk (Zaf HB6C.out hb);clear hb)
   | ((with_reducible refine (HC22b.out _ (Zaf HB6.out HB6C.out)).mono ?_);rintro e w7 ⟨rfl,hb⟩;have HB6C:=Zaa.mk (Zaf HB6C.out hb);clear hb)
   | ((with_reducible refine (rule_nil _ _).mono ?_);rintro e w7 ⟨rfl,hw⟩;obtain rfl:=hw.symm))
  | (go_at_call 20;(with_reducible refine (HC20.out _ (Zaf HB6.out HB6C.out)).mono ?_);rintro e w7 ⟨aB,kb,rfl,hb⟩;have HB6C:=Zaa.mk (Zaf HB6C.out hb);clear hb)
  | (go_at_call 18;(with_reducible refine (HC18.out _ (Zaf HB6.out HB6C.out)).mono ?_);rintro e w7 ⟨aR,kr,rfl,hb⟩;have HB6C:=Zaa.mk (Zaf HB6C.out hb);clear hb))
 go_ret
 exact⟨rfl,Zaf HW4.out (Zaf HB6.out HB6C.out)⟩
theorem Zmg (w:World)(A:Option Addr)(cl:Nat)(l:List (List Int))(hl:(Kd.slice 3 (Kd.int .i64)).C w A l.length l)(hs:∀x∈l,x.length≤1048576) :
 Calls Tryz.prog 7 #[.slice A l.length cl] w fun e w'=>∃G At Ar ct cr,e=.returned (.agg #[.slice At G.f0.length ct,.slice Ar G.f1.length cr])∧MakeOk l.length G∧GramR w' G At Ar ct cr∧Below w.heap.size w w':=by
 by_cases h3:l.length≤3
 ·exact make4_call w A cl l h3 hl hs
 ·exact make6_call w A cl l h3 hl hs
theorem Zqf (w:World)(ho:Own w):Calls Tryz.prog 24 #[] w fun e w'=>e=.returned (.bool true)∧Below w.heap.size w w':=
 told_call w ho (fun W=>Zmg W none 0 [] (Kd.C_nil _ _) (fun x hx=>by cases hx))
end Go.Proofs.YtpagbjdmiepgmaaGreatDoor.PVpa
