/- Joined from texts of this seat, in their order. -/
import Derived.Test.YtaokkliamoghbaaGreatDoorJAg
import Derived.Test.YtaokkliamoghbaaGreatDoorJAt
set_option linter.unusedVariables false
set_option linter.unusedSimpArgs false
set_option linter.unusedSectionVars false
set_option maxRecDepth 100000
namespace Go.Proofs.YtaokkliamoghbaaGreatDoor.PVpa
open Go.RowKit Go.Proofs.YtaokkliamoghbaaGreatDoorW.PrintWords Go.Proofs.YtaokkliamoghbaaGreatDoorW.PrintLast Go.Proofs.YtaokkliamoghbaaGreatDoorW.PrintMore
abbrev Zia (a b:Int):Value:=.iface 132 (.agg #[.int .i64 a,.int .i64 b])
theorem must_bad (gc:Nat)(c wh:Int)(w:World)(h:w.cell? ⟨gc,2,none⟩=some (.int .i64 wh)):Calls Tryz.prog 72 #[.pointer (some ⟨gc,0,none⟩),.bool false,.int .i64 c] w fun e w'=>e=.panicked [{ v:=Zia c wh,recovered:=false }]∧w'=w:=by
 have hp:∀(v:Value) (w:World),(Instr.panic (.iface 132 v)).run Tryz.prog w=.halt (.panic (.iface 132 v)) w:=fun _ _=>rfl
 go_enter Tryz.func72,Tryz.ntmps72
 go_wp2
 simp[bodyPost]
theorem work_bad (w:World)(gg:Nat)(hgg:w.heap[gg]?=some (.cells #[.slice none 0 0,.slice none 0 0] 26 (0,0))) :
 Calls Tryz.prog 71 #[.pointer (some ⟨gg,0,none⟩)] w fun e w'=>e=.panicked [{ v:=Zia 6 0,recovered:=false }]∧Below w.heap.size w w':=by
 have q0:w.cell? ⟨gg,0,none⟩=some (.slice none 0 0):=(Zaa hgg 0).trans rfl;have q1:w.cell? ⟨gg,1,none⟩=some (.slice none 0 0):=(Zaa hgg 1).trans rfl;have q2:∀o,(w.alloc o).cell? ⟨gg,0,none⟩=some (.slice none 0 0):=fun o=>(Zaa (Zai hgg o) 0).trans rfl
 have HB:=Zrw.mk (Zab (Below.refl _ w) (.cells #[.slice none 0 0,.slice none 0 0,.int .i64 0] 136));have HM:=Zrw.mk (must_bad w.heap.size 6 0 (w.alloc (.cells #[.slice none 0 0,.slice none 0 0,.int .i64 0] 136)) ((Zaa (Zaj w _) 2).trans rfl));clear hgg
 go_enter Tryz.func71,Tryz.ntmps71
 go_wp2_with (go_at_call 72;(with_reducible refine HM.out.mono ?_);rintro e w7 ⟨rfl,rfl⟩)
 simp[bodyPost];exact HB.out
set_option maxHeartbeats 2000000 in
theorem Zit (g:Nat)(a b x y:Int)(older:List PanicEntry)(w:World)(h0:w.heap[g]?=some (.cells #[.int .i64 x,.int .i64 y] 132 (0,0))) :
 CallsD Tryz.prog 87 #[.pointer (some ⟨g,0,none⟩)] (.panicking ({ v:=Zia a b,recovered:=false } :: older)) w fun e u' w'=>e=.returned (.tuple #[])∧u'=.panicking ({ v:=Zia a b,recovered:=true } :: older)∧∃o,w'=((w.setCell ⟨g,0,none⟩ (.int .i64 a)).setCell ⟨g,1,none⟩ (.int .i64 b)).alloc o:=by
 have hta:∀w:World,(Instr.typeAssert (Zia a b) 20 132 true).run Tryz.prog w=.ok (.tuple #[.agg #[.int .i64 a,.int .i64 b],.bool true]) w:=fun _=>by kernel_rfl
 have hgl:=Zau h0;have q0:w.cell? ⟨g,0,none⟩=some (.int .i64 x):=(Zaa h0 0).trans rfl;have q1:w.cell? ⟨g,1,none⟩=some (.int .i64 y):=(Zaa h0 1).trans rfl;have z0:∀i,w.frozen? ⟨g,i,none⟩=false:=fun i=>Zam h0 i
 refine callsD_of_wpS Tryz.func87 rfl fun c₀ cs hu=>?_
 apply wpS_seq;apply wpS_region;simp[wpOpsS,go_sem,recoverD,hu,Tryz.ntmps87,Exit.thenS];apply wpS_seq;apply wpS_region;simp[wpOpsS,go_sem,Exit.thenS];refine wpS_cond (t:=true) (by simp[Act.eval,Array.replicate]) ?_
 simp only[if_true];refine wpS_of_wp ?_
 change Code.wp _ _ _ ⟨#[.pointer (some ⟨g,0,none⟩),Zia a b,undef,undef,Zia a b,Zia a b,.bool true,undef,undef,undef,undef,undef,undef,undef,undef,undef],[]⟩ w;go_wp2
 cases c₀
 simp[bodyPostS,results,Tryz.results83];exact⟨_,rfl⟩
set_option maxHeartbeats 2000000 in
theorem caught_bad (w:World)(gg:Nat)(hw:∀W,Below w.heap.size w W→Calls Tryz.prog 71 #[.pointer (some ⟨gg,0,none⟩)] W fun e w'=>e=.panicked [{ v:=Zia 6 0,recovered:=false }]∧Below W.heap.size W w') :
 Calls Tryz.prog 70 #[.func (.func 71) #[] #[.pointer (some ⟨gg,0,none⟩)]] w fun e w'=>e=.returned (.agg #[.int .i64 6,.int .i64 0])∧Below w.heap.size w w':=by
 have hmf:∀(fn:Fn) (first cap:Array Value) (w:World),(Instr.makeFunc fn first cap).run Tryz.prog w=.ok (.func fn first cap) w:=fun _ _ _ _=>rfl
 have eg:∀args w,(callFunc 71 args).run Tryz.prog w=.ok (.enter 71 args) w:=enters_of Tryz.func71 (by kernel_rfl) rfl;have HB:=Zrw.mk (Zab (Below.refl _ w) (.cells #[.int .i64 0,.int .i64 0] 132));have HK:=Zrw.mk (Zaj w (.cells #[.int .i64 0,.int .i64 0] 132));have HW:=Zrw.mk (hw _ HB.out);clear hw
 go_enter_defers Tryz.func70,Tryz.ntmps70
 go_wp2_with (go_at_fn 71;(with_reducible refine HW.out.mono ?_);rintro e w1 ⟨rfl,hb⟩;have HB1:=Zrw.mk (Zae HB.out hb);have HK1:=Zrw.mk (Zaf HK.out hb);clear hb)
 refine leaves_cons (f:=87) (args:=#[.pointer (some ⟨w.heap.size,0,none⟩)]) (by simp) (by simp[go_sem]) ?_
 refine (Zit w.heap.size 6 0 0 0 [] _ HK1.out).mono ?_
 rintro e u' w'' ⟨rfl,rfl,o,rfl⟩;have HBY:=Zab (Zcp (j:=1) (v:=.int .i64 0) (Zcp (j:=0) (v:=.int .i64 6) HB1.out (Nat.le_refl _)) (Nat.le_refl _)) o;have kY:=Zai (Zce (Zce HK1.out 0 (.int .i64 6) rfl) 1 (.int .i64 0) rfl) o;generalize ((w1.setCell ⟨w.heap.size,0,none⟩ (.int .i64 6)).setCell ⟨w.heap.size,1,none⟩ (.int .i64 0)).alloc o=Y at *;have y0:Y.cell? ⟨w.heap.size,0,none⟩=some (.int .i64 6):=(Zaa kY 0).trans rfl;have y1:Y.cell? ⟨w.heap.size,1,none⟩=some (.int .i64 0):=(Zaa kY 1).trans rfl;clear HK1 HB1 HW HK HB;simp[Leaves,settle,results,Tryz.results59,go_sem,y0,y1];exact HBY
set_option maxHeartbeats 1000000 in
theorem check_bad (w:World) :
 Calls Tryz.prog 58 #[.agg #[.slice none 0 0,.slice none 0 0]] w fun e w'=>e=.returned (.tuple #[.int .i64 6,.int .i64 0])∧Below w.heap.size w w':=by
 have hmf:∀(fn:Fn) (first cap:Array Value) (w:World),(Instr.makeFunc fn first cap).run Tryz.prog w=.ok (.func fn first cap) w:=fun _ _ _ _=>rfl
 have HB:=Zrw.mk (Zab (Below.refl _ w) (.cells #[.slice none 0 0,.slice none 0 0] 26));have HK:=Zrw.mk (Zaj w (.cells #[.slice none 0 0,.slice none 0 0] 26));have HC:=Zrw.mk (caught_bad (w.alloc (.cells #[.slice none 0 0,.slice none 0 0] 26)) w.heap.size (fun W hb=>work_bad W w.heap.size (Zaf HK.out hb)))
 go_enter Tryz.func58,Tryz.ntmps58
 go_upto_region 2 with (go_at_call 70;(with_reducible refine HC.out.mono ?_);rintro e w1 ⟨rfl,hb⟩;have HB1:=Zrw.mk (Zae HB.out hb);clear hb)
 go_quiet (fail)
 go_wp2
 go_ret2
 exact⟨rfl,Zag (Zae HB1.out (Zab Zbr _)) _⟩
set_option maxHeartbeats 1000000 in
theorem build_bad (w:World) :
 Calls Tryz.prog 40 #[.agg #[.slice none 0 0,.slice none 0 0]] w fun e w'=>e=.returned (.tuple #[.pointer none,.int .i64 6])∧Below w.heap.size w w':=by
 have HB0:=Zrw.mk (Zab (Below.refl _ w) (.cells #[.slice none 0 0,.slice none 0 0] 26));have HC:=Zrw.mk (check_bad (w.alloc (.cells #[.slice none 0 0,.slice none 0 0] 26)))
 go_enter Tryz.func40,Tryz.ntmps40
 go_wp2_with (go_at_call 58;(with_reducible refine HC.out.mono ?_);rintro e w1 ⟨rfl,hb1⟩;have HB1:=Zrw.mk (Zae HB0.out hb1);clear hb1)
 go_wp2
 go_ret2
 exact⟨rfl,HB1.out⟩
end Go.Proofs.YtaokkliamoghbaaGreatDoor.PVpa
set_option linter.unusedVariables false
namespace Go.Proofs.YtaokkliamoghbaaGreatDoor.PVpa
open Go.RowKit Go.Proofs.YtaokkliamoghbaaGreatDoorW.PrintWords Go.Proofs.YtaokkliamoghbaaGreatDoorW.PrintLast Go.Proofs.YtaokkliamoghbaaGreatDoorW.PrintMore
set_option maxHeartbeats 2000000 in
theorem Zns (w:World)(At Ar:Option Addr)(ct cr:Nat)(G:S26)(hr:GramR w G At Ar ct cr)(hG:GramD G)(ho:Own w) :
 Calls Tryz.prog 11 #[.agg #[.slice At G.f0.length ct,.slice Ar G.f1.length cr],.int .i64 0] w fun e w'=>e=.returned (.tuple #[.pointer none,.int .i64 1])∧Below w.heap.size w w':=by
 have hbx:(w.alloc (.cells #[.slice At G.f0.length ct,.slice Ar G.f1.length cr] 26)).heap[w.heap.size]?=some (.cells #[.slice At G.f0.length ct,.slice Ar G.f1.length cr] 26 (0,0)):=Zaj _ _;have hb0:Below w.heap.size w (w.alloc (.cells #[.slice At G.f0.length ct,.slice Ar G.f1.length cr] 26)):=Zab Zbr _;have HBUILD:=Zrw.mk (Zmq (w.alloc (.cells #[.slice At G.f0.length ct,.slice Ar G.f1.length cr] 26)) At Ar ct cr G 9 (hr.below hb0) hG.gram hG.rules (ho.below hb0));have b0:(w.alloc (.cells #[.slice At G.f0.length ct,.slice Ar G.f1.length cr] 26)).cell? ⟨w.heap.size,0,none⟩=some (.slice At G.f0.length ct):=(Zaa hbx 0).trans rfl;have b1:(w.alloc (.cells #[.slice At G.f0.length ct,.slice Ar G.f1.length cr] 26)).cell? ⟨w.heap.size,1,none⟩=some (.slice Ar G.f1.length cr):=(Zaa hbx 1).trans rfl;have HB0:=Zrw.mk hb0;obtain⟨nt,hnt⟩:∃nt,nt=G.f0.length:=⟨_,rfl⟩
 obtain⟨nr,hnr⟩:∃nr,nr=G.f1.length:=⟨_,rfl⟩
 rw[←hnt,←hnr]at HBUILD b0 b1 HB0 ⊢;clear hr hG ho hbx hb0 hnt hnr
 go_enter Tryz.func11,Tryz.ntmps11
 go_wp2_with (go_at_call 40;(with_reducible refine HBUILD.out.mono ?_);rintro e1 V0 ⟨gb,φ,rfl,_,_,hbv⟩;have HBV:=Zrw.mk hbv;clear hbv)
 go_ret2
 exact⟨rfl,Zae HB0.out HBV.out⟩
set_option maxHeartbeats 2000000 in
theorem Zpp (w:World)(most:Nat) :
 Calls Tryz.prog 11 #[.agg #[.slice none 0 0,.slice none 0 0],.int .i64 most] w fun e w'=>e=.returned (.tuple #[.pointer none,.int .i64 6])∧Below w.heap.size w w':=by
 have HB0:=Zrw.mk (Zab (Below.refl _ w) (.cells #[.slice none 0 0,.slice none 0 0] 26));have HC:=Zrw.mk (build_bad (w.alloc (.cells #[.slice none 0 0,.slice none 0 0] 26)))
 go_enter Tryz.func11,Tryz.ntmps11
 go_wp2_with (go_at_call 40;(with_reducible refine HC.out.mono ?_);rintro e w1 ⟨rfl,hb1⟩;have HB1:=Zrw.mk (Zae HB0.out hb1);clear hb1)
 go_ret2
 exact⟨rfl,HB1.out⟩
end Go.Proofs.YtaokkliamoghbaaGreatDoor.PVpa
