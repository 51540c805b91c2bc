/- Joined from texts of this seat, in their order. -/
import Derived.Test.YtaokkliamoghbaaGreatDoorJAg
import Derived.Test.YtaokkliamoghbaaGreatDoorJAc
import Derived.BigQuiet
set_option linter.unusedVariables false
set_option linter.unusedSimpArgs false
set_option linter.unusedSectionVars false
set_option maxRecDepth 100000
namespace Go.Proofs.YtaokkliamoghbaaGreatDoor.PVpa
open Go.RowKit Go.Proofs.YtaokkliamoghbaaGreatDoorW.PrintWords Go.Proofs.YtaokkliamoghbaaGreatDoorW.PrintLast Go.Proofs.YtaokkliamoghbaaGreatDoorW.PrintMore
theorem Zfm:(Tryz.prog.info? 73).map (fun i=>(i.zero,i.size,i.bytes))=some (some (.agg #[.int .i64 0,.slice none 0 0,.slice none 0 0,.slice none 0 0]),4,80):=by kernel_rfl
theorem Zqi (k:Int):∃c:Nat,c<11∧(IntKind.u64.wrap k).tmod 11=c:=by
 have h:IntKind.u64.wrap k=k % 18446744073709551616:=by rw[IntKind.wrap_u64]
 rw[h];have h0:0≤k % 18446744073709551616:=Int.emod_nonneg _ (by decide);rw[Int.tmod_eq_emod_of_nonneg h0];exact⟨(k % 18446744073709551616 % 11).toNat,by omega,by omega⟩
theorem far_own {α:Type}{d:Kd α}{e b:Nat}{w:World}{ok:Nat→Prop}{v:Value}{xs:List α}(h:Kd.N d e w b ok v xs){k:Nat}(hk:k<b):some k≠v.ownBlock:=fun he=>by
 have:=Kd.N_base h k he.symm;omega
theorem LitS.lt {w:World}{g:Nat}{l:List ByteArray}(h:LitS w g l):g<w.heap.size:=by
 have:=h.blk
 rcases Nat.lt_or_ge g w.heap.size with hlt | hge
 ·exact hlt
 ·rw[Array.getElem?_eq_none hge]at this;cases this
theorem Zew (g n:Nat)(l:List ByteArray)(hl:l.length=n)(hn:n=1∨n=2)(k:Int)(w:World)(h:LitS w g l) :
 Calls Tryz.prog 39 #[.slice (some ⟨g,0,none⟩) n n,.int .i64 k] w fun e w'=>(∃A c l',e=.returned (.slice A l'.length c)∧l'.length≤c∧Some0 l l'∧Kd.F Kd.string w (fun b=>b=g) A l'.length l')∧w'=w:=by
 refine (pick_call g n hn k w).mono ?_
 rintro e w' ⟨⟨v,rfl,hp⟩,rfl⟩;refine⟨?_,rfl⟩;obtain⟨A,c,l',rfl,h1,h2,h3,h4⟩:=picked_all hl (by omega) hp;exact⟨A,c,l',rfl,h1,⟨h2,h3⟩,fun W' hW=>h4 W' ⟨(hW g rfl h.lt).trans h.blk⟩⟩
theorem Zee (W:World)(ok:Nat→Prop)(k:Int):Kd.FK k76 W ok (⟨k,[],[],[]⟩:S76) [.int .i64 k,.slice none 0 0,.slice none 0 0,.slice none 0 0]:=
 Zku W ok ⟨k,[],[],[]⟩ (Nat.le_refl _) (Kd.F_nil _ _ _) (Nat.le_refl _) (Kd.F_nil _ _ _) (Nat.le_refl _) (Kd.F_nil _ _ _)
theorem Zrb (W:World)(ok:Nat→Prop)(k:Int)(A:Option Addr)(c:Nat)(l:List ByteArray)(hc:l.length≤c)(hf:Kd.F Kd.string W ok A l.length l):Kd.FK k76 W ok (⟨k,l,[],[]⟩:S76) [.int .i64 k,.slice A l.length c,.slice none 0 0,.slice none 0 0]:=
 Zku W ok ⟨k,l,[],[]⟩ hc hf (Nat.le_refl _) (Kd.F_nil _ _ _) (Nat.le_refl _) (Kd.F_nil _ _ _)
def Zbu:Nat→List Nat
 | 2=>[1]
 | 5=>[4]
 | 6=>[3,5]
 | 9=>[8]
 | 10=>[7,9]
 | 13=>[12]
 | 14=>[11,13]
 | 15=>[14]
 | 16=>[15]
 | 17=>[6,10,16]
 | _=>[]
def phiP18 (sv:Value)(m k:Nat)(x:Int)(g1 n1 g2 n2:Nat)(a1 a2:List ByteArray)(g lo:Nat)(ycs:Array Value):Nat→List Value→World→Prop
 | 0,[v],_=>v=sv
 | 1,[v],_=>v=.int .i64 (m:Int)
 | 2,[v,_],_=>v=.int .i64 (k:Int)
 | 3,[v],_=>v=.slice (some ⟨g1,0,none⟩) n1 n1
 | 4,[v],_=>v=.int .i64 x
 | 5,[v,_],_=>∃q,v=.int .i64 q
 | 6,[v,_,_],W=>∃A c l,v=.slice A l.length c∧l.length≤c∧Some0 a1 l∧Kd.F Kd.string W (fun b=>b=g1) A l.length l
 | 7,[v],_=>v=.slice (some ⟨g2,0,none⟩) n2 n2
 | 8,[v],_=>v=.int .i64 x
 | 9,[v,_],_=>∃q,v=.int .i64 q
 | 10,[v,_,_],W=>∃A c l,v=.slice A l.length c∧l.length≤c∧Some0 a2 l∧Kd.F Kd.string W (fun b=>b=g2) A l.length l
 | 11,[v],_=>v=sv
 | 12,[v],_=>v=.int .i64 (m:Int)
 | 13,[v,_],_=>v=.int .i64 (k:Int)
 | 14,[v,_,_],_=>v=.pointer (some ⟨g,k*4,none⟩)
 | 15,[v,_],_=>v=.agg ycs
 | 16,[v,_],W=>∃gl,v=.slice (some ⟨gl,0,none⟩) 1 1∧lo≤gl∧W.heap[gl]?=some (.cells ycs 73 (0,0))
 | 17,[v,x6,x10,x16],_=>v=.agg #[.int .i64 3,x6,x10,x16]
 | _,_,_=>True
theorem Zqt (sv:Value)(m k:Nat)(x:Int)(g1 n1 g2 n2:Nat)(a1 a2:List ByteArray)(g lo:Nat)(ycs:Array Value):∀i vs w w',phiP18 sv m k x g1 n1 g2 n2 a1 a2 g lo ycs i vs w→Zca w w'→phiP18 sv m k x g1 n1 g2 n2 a1 a2 g lo ycs i vs w':=by
 intro i vs w w' h hb;unfold phiP18 at h ⊢
 split at h
 case h_6=>
  exact h
 case h_7=>
  obtain⟨A,c,l,h1,h2,h3,h4⟩:=h;exact⟨A,c,l,h1,h2,h3,Kd.F_below h4 hb⟩
 case h_10=>
  exact h
 case h_11=>
  obtain⟨A,c,l,h1,h2,h3,h4⟩:=h;exact⟨A,c,l,h1,h2,h3,Kd.F_below h4 hb⟩
 case h_17=>
  obtain⟨gl,h1,h2,h3⟩:=h;exact⟨gl,h1,h2,Zaf h3 hb⟩
 all_goals exact h
def Zar:Nat→List Nat
 | 3=>[2]
 | 4=>[1,3]
 | 7=>[6]
 | 8=>[5,7]
 | 11=>[10]
 | 12=>[11]
 | 13=>[9,12]
 | 14=>[13]
 | 15=>[14]
 | 16=>[15]
 | 17=>[4,8,16]
 | 18=>[17]
 | _=>[]
def Zov (sv:Value)(x:Int)(g1 n1 g2 n2:Nat)(a1 a2:List ByteArray)(lo:Nat):Nat→List Value→World→Prop
 | 0,[v],_=>v=sv
 | 1,[v],_=>v=.slice (some ⟨g1,0,none⟩) n1 n1
 | 2,[v],_=>v=.int .i64 x
 | 3,[v,_],_=>∃q,v=.int .i64 q
 | 4,[v,_,_],W=>∃A c l,v=.slice A l.length c∧l.length≤c∧Some0 a1 l∧Kd.F Kd.string W (fun b=>b=g1) A l.length l
 | 5,[v],_=>v=.slice (some ⟨g2,0,none⟩) n2 n2
 | 6,[v],_=>v=.int .i64 x
 | 7,[v,_],_=>∃q,v=.int .i64 q
 | 8,[v,_,_],W=>∃A c l,v=.slice A l.length c∧l.length≤c∧Some0 a2 l∧Kd.F Kd.string W (fun b=>b=g2) A l.length l
 | 9,[v],W=>∃gl,v=.slice (some ⟨gl,0,none⟩) 2 2∧W.heap[gl]?=some (.cells #[.int .i64 1,.int .i64 4] 3 (0,0))
 | 10,[v],_=>v=.int .i64 x
 | 11,[v,_],_=>∃q,v=.int .i64 q
 | 12,[v,_],_=>v=.int .i64 0∨v=.int .i64 1
 | 13,[v,_,_],W=>∃gl q,v=.pointer (some ⟨gl,q,none⟩)∧(q=0∨q=1)∧W.heap[gl]?=some (.cells #[.int .i64 1,.int .i64 4] 3 (0,0))
 | 14,[v,_],_=>v=.int .i64 1∨v=.int .i64 4
 | 15,[v,_],_=>∃e:Int,(e=1∨e=4)∧v=.agg #[.int .i64 e,.slice none 0 0,.slice none 0 0,.slice none 0 0]
 | 16,[v,_],W=>∃(gl:Nat) (e:Int),(e=1∨e=4)∧v=.slice (some ⟨gl,0,none⟩) 1 1∧lo≤gl∧W.heap[gl]?=some (.cells #[.int .i64 e,.slice none 0 0,.slice none 0 0,.slice none 0 0] 73 (0,0))
 | 17,[v,x4,x8,x16],_=>∃(A1:Option Addr) (k1 c1:Nat) (A2:Option Addr) (k2 c2 g3:Nat),x4=.slice A1 k1 c1∧x8=.slice A2 k2 c2∧x16=.slice (some ⟨g3,0,none⟩) 1 1∧v=.agg #[.int .i64 3,.slice A1 k1 c1,.slice A2 k2 c2,.slice (some ⟨g3,0,none⟩) 1 1]
 | 18,[v,x17],W=>∃gl c,v=.slice (some ⟨gl,0,none⟩) 1 1∧lo≤gl∧x17=.agg c∧W.heap[gl]?=some (.cells c 73 (0,0))
 | _,_,_=>True
theorem Zkm (sv:Value)(x:Int)(g1 n1 g2 n2:Nat)(a1 a2:List ByteArray)(lo:Nat):∀i vs w w',Zov sv x g1 n1 g2 n2 a1 a2 lo i vs w→Zca w w'→Zov sv x g1 n1 g2 n2 a1 a2 lo i vs w':=by
 intro i vs w w' h hb;unfold Zov at h ⊢
 split at h
 case h_4=>
  exact h
 case h_5=>
  obtain⟨A,c,l,h1,h2,h3,h4⟩:=h;exact⟨A,c,l,h1,h2,h3,Kd.F_below h4 hb⟩
 case h_8=>
  exact h
 case h_9=>
  obtain⟨A,c,l,h1,h2,h3,h4⟩:=h;exact⟨A,c,l,h1,h2,h3,Kd.F_below h4 hb⟩
 case h_10=>
  obtain⟨gl,h1,h2⟩:=h;exact⟨gl,h1,Zaf h2 hb⟩
 case h_12=>
  exact h
 case h_13=>
  exact h
 case h_14=>
  obtain⟨gl,q,h1,h2,h3⟩:=h;exact⟨gl,q,h1,h2,Zaf h3 hb⟩
 case h_15=>
  exact h
 case h_16=>
  exact h
 case h_17=>
  obtain⟨gl,e,h1,h2,h3,h4⟩:=h;exact⟨gl,e,h1,h2,h3,Zaf h4 hb⟩
 case h_18=>
  exact h
 case h_19=>
  obtain⟨gl,c,h1,h2,h3,h4⟩:=h;exact⟨gl,c,h1,h2,h3,Zaf h4 hb⟩
 all_goals exact h
def Zas:Nat→List Nat
 | 2=>[1]
 | 4=>[3]
 | 5=>[0,2,4]
 | 8=>[7]
 | 9=>[6,8]
 | 10=>[9]
 | 13=>[12]
 | 14=>[11,13]
 | 15=>[14]
 | 16=>[10,15]
 | 17=>[16]
 | 18=>[17]
 | _=>[]
def Zou (sv:Value)(m j k g:Nat)(xcs ycs zcs:Array Value)(lo:Nat):Nat→List Value→World→Prop
 | 0,[v],_=>v=sv
 | 1,[v],_=>v=.int .i64 (m:Int)
 | 2,[v,_],_=>v=.int .i64 (j:Int)
 | 3,[v],_=>v=.int .i64 (m:Int)
 | 4,[v,_],_=>v=.int .i64 (j:Int)
 | 5,[v,_,_,_],_=>v=.slice (some ⟨g,0,none⟩) j j
 | 6,[v],_=>v=sv
 | 7,[v],_=>v=.int .i64 (m:Int)
 | 8,[v,_],_=>v=.int .i64 (j:Int)
 | 9,[v,_,_],_=>v=.pointer (some ⟨g,j*4,none⟩)
 | 10,[v,_],_=>v=.agg xcs
 | 11,[v],_=>v=sv
 | 12,[v],_=>v=.int .i64 (m:Int)
 | 13,[v,_],_=>v=.int .i64 (k:Int)
 | 14,[v,_,_],_=>v=.pointer (some ⟨g,k*4,none⟩)
 | 15,[v,_],_=>v=.agg ycs
 | 16,[v,_,_],W=>∃gl,v=.slice (some ⟨gl,0,none⟩) 2 2∧lo≤gl∧W.heap[gl]?=some (.cells zcs 73 (0,0))
 | 17,[v,_],W=>∃gl,v=.agg #[.int .i64 5,.slice none 0 0,.slice none 0 0,.slice (some ⟨gl,0,none⟩) 2 2]∧lo≤gl∧W.heap[gl]?=some (.cells zcs 73 (0,0))
 | 18,[v,_],W=>∃gl g2,v=.slice (some ⟨g2,0,none⟩) 1 1∧lo≤gl∧lo≤g2∧W.heap[gl]?=some (.cells zcs 73 (0,0))∧W.heap[g2]?=some (.cells #[.int .i64 5,.slice none 0 0,.slice none 0 0,.slice (some ⟨gl,0,none⟩) 2 2] 73 (0,0))
 | _,_,_=>True
theorem Zkl (sv:Value)(m j k g:Nat)(xcs ycs zcs:Array Value)(lo:Nat):∀i vs w w',Zou sv m j k g xcs ycs zcs lo i vs w→Zca w w'→Zou sv m j k g xcs ycs zcs lo i vs w':=by
 intro i vs w w' h hb;unfold Zou at h ⊢
 split at h
 case h_17=>
  obtain⟨gl,h1,h2,h3⟩:=h;exact⟨gl,h1,h2,Zaf h3 hb⟩
 case h_18=>
  obtain⟨gl,h1,h2,h3⟩:=h;exact⟨gl,h1,h2,Zaf h3 hb⟩
 case h_19=>
  obtain⟨gl,g2,h1,h2,h5,h3,h4⟩:=h;exact⟨gl,g2,h1,h2,h5,Zaf h3 hb,Zaf h4 hb⟩
 all_goals exact h
def Zbn:Nat→List Nat
 | 2=>[1]
 | 4=>[3]
 | 5=>[0,2,4]
 | 8=>[7]
 | 9=>[6,8]
 | 10=>[9]
 | 13=>[12]
 | 14=>[11,13]
 | 15=>[14]
 | 16=>[10,15]
 | 17=>[16]
 | 18=>[17]
 | _=>[]
def phiP22 (sv:Value)(m j k g:Nat)(xcs ycs zcs:Array Value)(lo:Nat):Nat→List Value→World→Prop
 | 0,[v],_=>v=sv
 | 1,[v],_=>v=.int .i64 (m:Int)
 | 2,[v,_],_=>v=.int .i64 (j:Int)
 | 3,[v],_=>v=.int .i64 (m:Int)
 | 4,[v,_],_=>v=.int .i64 (j:Int)
 | 5,[v,_,_,_],_=>v=.slice (some ⟨g,0,none⟩) j j
 | 6,[v],_=>v=sv
 | 7,[v],_=>v=.int .i64 (m:Int)
 | 8,[v,_],_=>v=.int .i64 (j:Int)
 | 9,[v,_,_],_=>v=.pointer (some ⟨g,j*4,none⟩)
 | 10,[v,_],_=>v=.agg xcs
 | 11,[v],_=>v=sv
 | 12,[v],_=>v=.int .i64 (m:Int)
 | 13,[v,_],_=>v=.int .i64 (k:Int)
 | 14,[v,_,_],_=>v=.pointer (some ⟨g,k*4,none⟩)
 | 15,[v,_],_=>v=.agg ycs
 | 16,[v,_,_],W=>∃gl,v=.slice (some ⟨gl,0,none⟩) 2 2∧lo≤gl∧W.heap[gl]?=some (.cells zcs 73 (0,0))
 | 17,[v,_],W=>∃gl,v=.agg #[.int .i64 6,.slice none 0 0,.slice none 0 0,.slice (some ⟨gl,0,none⟩) 2 2]∧lo≤gl∧W.heap[gl]?=some (.cells zcs 73 (0,0))
 | 18,[v,_],W=>∃gl g2,v=.slice (some ⟨g2,0,none⟩) 1 1∧lo≤gl∧lo≤g2∧W.heap[gl]?=some (.cells zcs 73 (0,0))∧W.heap[g2]?=some (.cells #[.int .i64 6,.slice none 0 0,.slice none 0 0,.slice (some ⟨gl,0,none⟩) 2 2] 73 (0,0))
 | _,_,_=>True
theorem Zqs (sv:Value)(m j k g:Nat)(xcs ycs zcs:Array Value)(lo:Nat):∀i vs w w',phiP22 sv m j k g xcs ycs zcs lo i vs w→Zca w w'→phiP22 sv m j k g xcs ycs zcs lo i vs w':=by
 intro i vs w w' h hb;unfold phiP22 at h ⊢
 split at h
 case h_17=>
  obtain⟨gl,h1,h2,h3⟩:=h;exact⟨gl,h1,h2,Zaf h3 hb⟩
 case h_18=>
  obtain⟨gl,h1,h2,h3⟩:=h;exact⟨gl,h1,h2,Zaf h3 hb⟩
 case h_19=>
  obtain⟨gl,g2,h1,h2,h5,h3,h4⟩:=h;exact⟨gl,g2,h1,h2,h5,Zaf h3 hb,Zaf h4 hb⟩
 all_goals exact h
def Zcf:Nat→List Nat
 | 3=>[1,2]
 | 4=>[3]
 | 5=>[0,4]
 | 6=>[5]
 | _=>[]
def Zot (sv:Value)(m j g:Nat)(xcs ycs zcs:Array Value)(lo:Nat):Nat→List Value→World→Prop
 | 0,[v],_=>v=.agg xcs
 | 1,[v],_=>v=sv
 | 2,[v],_=>v=.int .i64 (j:Int)
 | 3,[v,_,_],_=>v=.pointer (some ⟨g,j*4,none⟩)
 | 4,[v,_],_=>v=.agg ycs
 | 5,[v,_,_],W=>∃gl,v=.slice (some ⟨gl,0,none⟩) 2 2∧lo≤gl∧W.heap[gl]?=some (.cells zcs 73 (0,0))
 | 6,[v,_],W=>∃gl,v=.agg #[.int .i64 5,.slice none 0 0,.slice none 0 0,.slice (some ⟨gl,0,none⟩) 2 2]∧lo≤gl∧W.heap[gl]?=some (.cells zcs 73 (0,0))
 | _,_,_=>True
theorem Zkk (sv:Value)(m j g:Nat)(xcs ycs zcs:Array Value)(lo:Nat):∀i vs w w',Zot sv m j g xcs ycs zcs lo i vs w→Zca w w'→Zot sv m j g xcs ycs zcs lo i vs w':=by
 intro i vs w w' h hb;unfold Zot at h ⊢
 split at h
 case h_6=>
  obtain⟨gl,h1,h2,h3⟩:=h;exact⟨gl,h1,h2,Zaf h3 hb⟩
 case h_7=>
  obtain⟨gl,h1,h2,h3⟩:=h;exact⟨gl,h1,h2,Zaf h3 hb⟩
 all_goals exact h
set_option maxHeartbeats 40000000 in
theorem Zja (w:World)(A:Option Addr)(cl:Nat)(ls:List Int)(hls:(Kd.int .i64).C w A ls.length ls)(g0 n0 g1 n1 g2 n2:Nat)(a0 a1 a2:List ByteArray)(h0:LitS w g0 a0)(h1:LitS w g1 a1)(h2:LitS w g2 a2)
 (e0:a0.length=n0) (e1:a1.length=n1) (e2:a2.length=n2) (m0:n0=1∨n0=2) (m1:n1=1∨n1=2) (m2:n2=1∨n2=2) :
 Calls Tryz.prog 38 #[.slice A ls.length cl,.slice (some ⟨g0,0,none⟩) n0 n0,.slice (some ⟨g1,0,none⟩) n1 n1,.slice (some ⟨g2,0,none⟩) n2 n2] w fun e w'=>∃p cs,e=.returned (.agg cs.toArray)∧(∃D N,Mk a0 a1 a2 D N p∧D≤9∧N≤23)∧Kd.FK k76 w' (Okp g0 g1 g2 w.heap.size) p cs∧Below w.heap.size w w':=by
 have HLS:=Zrw.mk hls;have H0:=Zrw.mk h0;have H1:=Zrw.mk h1;have H2:=Zrw.mk h2;clear hls h0 h1 h2
 go_enter Tryz.func38,Tryz.ntmps38
 go_upto_region 2 with fail
 have hk8:=Zaj w (.cells #[.int .i64 0,.slice none 0 0,.slice none 0 0,.slice none 0 0] 73);have HB8:=Zrw.mk (Zab (Below.refl _ w) (.cells #[.int .i64 0,.slice none 0 0,.slice none 0 0,.slice none 0 0] 73));have hn8:Kd.N k76 73 (w.alloc (.cells #[.int .i64 0,.slice none 0 0,.slice none 0 0,.slice none 0 0] 73)) w.heap.size (fun k=>k=w.heap.size∨Okp g0 g1 g2 (w.alloc (.cells #[.int .i64 0,.slice none 0 0,.slice none 0 0,.slice none 0 0] 73)).heap.size k) (.slice (some ⟨w.heap.size,0,none⟩) 1 1) [z76]:=box_N (cs:=[.int .i64 0,.slice none 0 0,.slice none 0 0,.slice none 0 0]) (Zee w (fun _=>False) 0) (fun _ h=>h.elim) (.inl rfl);have ht0:=H0.out.lt;have ht1:=H1.out.lt;have ht2:=H2.out.lt;obtain⟨g8,hg8⟩:∃g8,g8=w.heap.size:=⟨_,rfl⟩
 have HG8:=Zrw.mk hg8;rw[←hg8]at hk8 hn8 ⊢;clear hg8;have HSX:Zrw (w.heap.size<(w.alloc (.cells #[.int .i64 0,.slice none 0 0,.slice none 0 0,.slice none 0 0] 73)).heap.size):=⟨by simp⟩
 have HX8:Zrw (∀k,Okp g0 g1 g2 (w.alloc (.cells #[.int .i64 0,.slice none 0 0,.slice none 0 0,.slice none 0 0] 73)).heap.size k→k≠g8):=⟨fun k hk=>by have h1:=HSX.out;have h2:=HG8.out;rcases hk with rfl | rfl | rfl | hk <;> omega⟩
 have HW8:Zrw (∀k,Okp g0 g1 g2 (w.alloc (.cells #[.int .i64 0,.slice none 0 0,.slice none 0 0,.slice none 0 0] 73)).heap.size k→Okp g0 g1 g2 w.heap.size k):=⟨fun k hk=>by have h1:=HSX.out;rcases hk with hk | hk | hk | hk;exact .inl hk;exact .inr (.inl hk);exact .inr (.inr (.inl hk));exact .inr (.inr (.inr (by omega)))⟩
 clear ht0 ht1 ht2;generalize w.alloc (.cells #[.int .i64 0,.slice none 0 0,.slice none 0 0,.slice none 0 0] 73)=X at *;have HN8:=Zrw.mk hn8;have HF8:Zrw (∀k,X.heap.size≤k→Okp g0 g1 g2 X.heap.size k):=⟨fun k hk=>.inr (.inr (.inr hk))⟩
 have HO0:Zrw (Okp g0 g1 g2 X.heap.size g0):=⟨.inl rfl⟩
 have HO1:Zrw (Okp g0 g1 g2 X.heap.size g1):=⟨.inr (.inl rfl)⟩
 have HO2:Zrw (Okp g0 g1 g2 X.heap.size g2):=⟨.inr (.inr (.inl rfl))⟩
 clear hn8;have HK8:=Zrw.mk hk8;clear hk8;go_wp2
 go_loopw [9,10] (fun s q wr=>∃(i:Nat) (xs:List S76),i≤8∧i≤ls.length∧q=.int .i64 i∧Zrw (PcsAt a0 a1 a2 i xs)∧Zrw (Kd.N k76 73 wr X.heap.size (Okp g0 g1 g2 X.heap.size) s xs)∧Zrw (Below X.heap.size X wr)) (fun _ q _=>ls.length-(intOf q).toNat)
 case atStart=>exact⟨0,[],by omega,by omega,rfl,⟨PcsAt.nil⟩,⟨Kd.N_nil _ _ _ _ _⟩,⟨Zbr⟩⟩
 case round=>
  obtain⟨i,xs,hi8,hil,rfl,HP,HN,HB⟩:=hrel;obtain⟨As,cs,rfl⟩:=Kd.N_slice HN.out;by_cases hc:i<ls.length∧i<8
  ·obtain⟨hc1,hc2⟩:=hc;obtain⟨ad,rfl,hq0⟩:=Kd.at_int (Kd.C_below (Kd.C_below HLS.out HB8.out) HB.out) (i:Int) (by omega) (by omega);rw[Int.toNat_natCast]at hq0;obtain⟨x,hx⟩:∃x,x=rd ls (i:Int):=⟨_,rfl⟩
   rw[←hx]at hq0;clear hx;obtain⟨c,hc,hcx⟩:=Zqi x;have hm:(IntKind.i64.wrap (c:Int))=c:=by rw[IntKind.wrap_i64];omega
   have hil2:=(Kd.C_below (Kd.C_below HLS.out HB8.out) HB.out).2.1
   go_upto_region 5 with fail
   go_quiet (fail)
   have HLX:Zrw (xs.length≤8):=⟨by obtain⟨D,p1,p2,_⟩:=HP.out;omega⟩
   go_upto_region 7 with fail
   have HN':=Zrw.mk (Kd.N_drewN HN.out nq);have HB':=Zrw.mk (Zag HB.out nq);clear HN HB hq0;generalize wr.drewN nq=Y at *;have HN:=HN';have HB:=HB';have HBY:=Zrw.mk (Zae HB8.out HB.out);have HPK0:=Zrw.mk (fun k W hb=>Zew g0 n0 a0 e0 m0 k W (H0.out.below hb));have HPK1:=Zrw.mk (fun k W hb=>Zew g1 n1 a1 e1 m1 k W (H1.out.below hb));have HPK2:=Zrw.mk (fun k W hb=>Zew g2 n2 a2 e2 m2 k W (H2.out.below hb));have HG0:Zrw (g0<X.heap.size):=⟨Nat.lt_trans H0.out.lt HSX.out⟩
   have HG1:Zrw (g1<X.heap.size):=⟨Nat.lt_trans H1.out.lt HSX.out⟩
   have HG2:Zrw (g2<X.heap.size):=⟨Nat.lt_trans H2.out.lt HSX.out⟩
   clear HN' HB';by_cases z:xs.length=0
   ·obtain rfl:xs=[]:=List.eq_nil_of_length_eq_zero z;clear z;by_cases c3:c=3
    ·subst c3
     as_aux_lemma=>
      go_wp2_with ((with_reducible refine Zal (b:=.append) (xs:=#[.tmp 58,.tmp 60]) rfl ?_);at_builtin;refine Kd.N_append k76 (w0:=X) (W:=Y) X.heap.size rfl (.tmp 58) (.tmp 60) 71 73 (.agg #[.int .i64 0,.slice none 0 0,.slice none 0 0,.slice none 0 0]) 80 rfl Tryz.underlying71 Zfm rfl (by decide) (by omega) _ [] (⟨4,[],[],[]⟩:S76) [.int .i64 4,.slice none 0 0,.slice none 0 0,.slice none 0 0] (Okp g0 g1 g2 X.heap.size) (fun _=>False) rfl rfl (Zee _ _ _) (fun _ hk=>hk.elim) (fun k hk=>HF8.out k (Nat.le_trans HB.out.size hk)) HN.out HB.out HB.out.size ?aL ?_;(case aL=>have:=HLX.out;omega);intro v6 w6 ho6 hb6 hg6 hat6;have HN6:=Zrw.mk ho6;have HB6:=Zrw.mk hb6;clear ho6 hb6 hg6 hat6)
      go_wp2
      clear hcx hm
      go_roundw
      case rel=>exact⟨i+1,_,by omega,by omega,by simp,⟨HP.out.push (.inl ⟨.inr rfl,rfl,rfl,rfl,by omega⟩)⟩,HN6,HB6⟩
      case measure=>show ls.length-((i:Int)+1).toNat<ls.length-(i:Int).toNat;omega
    by_cases c4:c=4
    ·subst c4
     as_aux_lemma=>
      go_wp2_with ((with_reducible refine Zal (b:=.append) (xs:=#[.tmp 65,.tmp 67]) rfl ?_);at_builtin;refine Kd.N_append k76 (w0:=X) (W:=Y) X.heap.size rfl (.tmp 65) (.tmp 67) 71 73 (.agg #[.int .i64 0,.slice none 0 0,.slice none 0 0,.slice none 0 0]) 80 rfl Tryz.underlying71 Zfm rfl (by decide) (by omega) _ [] (⟨1,[],[],[]⟩:S76) [.int .i64 1,.slice none 0 0,.slice none 0 0,.slice none 0 0] (Okp g0 g1 g2 X.heap.size) (fun _=>False) rfl rfl (Zee _ _ _) (fun _ hk=>hk.elim) (fun k hk=>HF8.out k (Nat.le_trans HB.out.size hk)) HN.out HB.out HB.out.size ?aL ?_;(case aL=>have:=HLX.out;omega);intro v6 w6 ho6 hb6 hg6 hat6;have HN6:=Zrw.mk ho6;have HB6:=Zrw.mk hb6;clear ho6 hb6 hg6 hat6)
      go_wp2
      clear hcx hm
      go_roundw
      case rel=>exact⟨i+1,_,by omega,by omega,by simp,⟨HP.out.push (.inl ⟨.inl rfl,rfl,rfl,rfl,by omega⟩)⟩,HN6,HB6⟩
      case measure=>show ls.length-((i:Int)+1).toNat<ls.length-(i:Int).toNat;omega
    by_cases clt:c<3
    ·as_aux_lemma=>
      go_wp2_with (first
       | (go_at_call 39;(with_reducible refine (HPK0.out _ _ HBY.out).mono ?_);rintro e w1 ⟨⟨A1,c1,l1,rfl,hc1,hs1,hf1⟩,hw1⟩;obtain rfl:=hw1.symm;have HC1:=Zrw.mk hc1;have HS1:=Zrw.mk hs1;have HF1:=Zrw.mk hf1;clear hc1 hs1 hf1)
       | ((with_reducible refine Zal (b:=.append) (xs:=#[.tmp 47,.tmp 53]) rfl ?_);at_builtin;refine Kd.N_append k76 (w0:=X) (W:=Y) X.heap.size rfl (.tmp 47) (.tmp 53) 71 73 (.agg #[.int .i64 0,.slice none 0 0,.slice none 0 0,.slice none 0 0]) 80 rfl Tryz.underlying71 Zfm rfl (by decide) (by omega) _ [] (⟨2,l1,[],[]⟩:S76) [.int .i64 2,.slice A1 l1.length c1,.slice none 0 0,.slice none 0 0] (Okp g0 g1 g2 X.heap.size) (fun b=>b=g0) rfl rfl (Zrb _ _ _ _ _ _ HC1.out HF1.out) (fun b hb=>⟨by rw[hb];exact HO0.out,by rw[hb];exact far_own HN.out HG0.out⟩) (fun k hk=>HF8.out k (Nat.le_trans HB.out.size hk)) HN.out HB.out HB.out.size ?aL ?_;(case aL=>have:=HLX.out;omega);intro v6 w6 ho6 hb6 hg6 hat6;have HN6:=Zrw.mk ho6;have HB6:=Zrw.mk hb6;clear ho6 hb6 hg6 hat6))
      go_wp2
      clear hcx hm
      go_roundw
      case rel=>exact⟨i+1,_,by omega,by omega,by simp,⟨HP.out.push (.inr (.inl ⟨rfl,HS1.out,rfl,rfl,by omega⟩))⟩,HN6,HB6⟩
      case measure=>show ls.length-((i:Int)+1).toNat<ls.length-(i:Int).toNat;omega
    by_cases c5:c=5
    ·subst c5
     as_aux_lemma=>
      clear hm hcx
      go_upto_region 14 with fail
      refine Zba 19 _ Zar (Zov (.slice As 0 cs) x g1 n1 g2 n2 a1 a2 Y.heap.size) Zca (by kernel_rfl) (by kernel_rfl) (by kernel_rfl) rfl Zbh Zbc (Zkm _ _ _ _ _ _ _ _ _) ?step ?fin
      case step=>
       repeat (rename_i z;clear z)
       refine⟨?_,?_,?_,?_,?_,?_,?_,?_,?_,?_,?_,?_,?_,?_,?_,?_,?_,?_,?_,trivial⟩ <;> intro vals W hR0 hd <;> have hR:=Zae (Zao (Below.refl _ Y)) hR0
       ·refine Zac (W':=W) ?_ ⟨Zbr,rfl⟩
        clear hd;simp only[Zan,Zar,Zah];go_simp
       ·refine Zac (W':=W) ?_ ⟨Zbr,rfl⟩
        clear hd;simp only[Zan,Zar,Zah];go_simp
       ·refine Zac (W':=W) ?_ ⟨Zbr,rfl⟩
        clear hd;simp only[Zan,Zar,Zah];go_simp
       ·have h2:vals 2=.int .i64 x:=hd 2 (by simp[Zar]);clear hd;refine Zac (W':=W) (v:=.int .i64 (IntKind.i64.wrap (x.tdiv 11))) ?_ ⟨Zbr,_,rfl⟩
        simp only[Zan,Zar,Zah,h2];go_simp
       ·have h1:vals 1=.slice (some ⟨g1,0,none⟩) n1 n1:=hd 1 (by simp[Zar]);have h3:∃q,(vals 3)=.int .i64 q:=hd 3 (by simp[Zar]);obtain⟨q,hq5⟩:=h3;clear hd;refine Zbp (W':=W) (f:=39) (args:=#[.slice (some ⟨g1,0,none⟩) n1 n1,.int .i64 q]) ?_ ((HPK1.out _ W (Zae HBY.out hR)).mono ?_)
        ·simp only[Zan,Zar,Zah,h1,hq5];go_simp
        ·rintro e w1 ⟨⟨A1,c1,l1,rfl,hc1,hs1,hf1⟩,rfl⟩;exact⟨_,rfl,Zbr,A1,c1,l1,rfl,hc1,hs1,hf1⟩
       ·refine Zac (W':=W) ?_ ⟨Zbr,rfl⟩
        clear hd;simp only[Zan,Zar,Zah];go_simp
       ·refine Zac (W':=W) ?_ ⟨Zbr,rfl⟩
        clear hd;simp only[Zan,Zar,Zah];go_simp
       ·have h6:vals 6=.int .i64 x:=hd 6 (by simp[Zar]);clear hd;refine Zac (W':=W) (v:=.int .i64 (IntKind.i64.wrap (x.tdiv 13))) ?_ ⟨Zbr,_,rfl⟩
        simp only[Zan,Zar,Zah,h6];go_simp
       ·have h5:vals 5=.slice (some ⟨g2,0,none⟩) n2 n2:=hd 5 (by simp[Zar]);have h7:∃q,(vals 7)=.int .i64 q:=hd 7 (by simp[Zar]);obtain⟨q,hq5⟩:=h7;clear hd;refine Zbp (W':=W) (f:=39) (args:=#[.slice (some ⟨g2,0,none⟩) n2 n2,.int .i64 q]) ?_ ((HPK2.out _ W (Zae HBY.out hR)).mono ?_)
        ·simp only[Zan,Zar,Zah,h5,hq5];go_simp
        ·rintro e w1 ⟨⟨A1,c1,l1,rfl,hc1,hs1,hf1⟩,rfl⟩;exact⟨_,rfl,Zbr,A1,c1,l1,rfl,hc1,hs1,hf1⟩
       ·clear hd;refine Zac (W':=W.alloc (.cells #[.int .i64 1,.int .i64 4] 3)) (v:=.slice (some ⟨W.heap.size,0,none⟩) 2 2) ?_ ⟨Zab Zbr _,W.heap.size,rfl,Zaj W _⟩
        simp only[Zan,Zar,Zah];go_simp
       ·refine Zac (W':=W) ?_ ⟨Zbr,rfl⟩
        clear hd;simp only[Zan,Zar,Zah];go_simp
       ·have h10:vals 10=.int .i64 x:=hd 10 (by simp[Zar]);clear hd;refine Zac (W':=W) (v:=.int .i64 (IntKind.i64.wrap (x.tdiv 17))) ?_ ⟨Zbr,_,rfl⟩
        simp only[Zan,Zar,Zah,h10];go_simp
       ·have h11:∃q,(vals 11)=.int .i64 q:=hd 11 (by simp[Zar]);obtain⟨q,hq11⟩:=h11;clear hd
        rcases and1 q with hb1 | hb1
        ·refine Zac (W':=W) (v:=.int .i64 0) ?_ ⟨Zbr,.inl rfl⟩
         simp only[Zan,Zar,Zah,hq11];go_simp
        ·refine Zac (W':=W) (v:=.int .i64 1) ?_ ⟨Zbr,.inr rfl⟩
         simp only[Zan,Zar,Zah,hq11];go_simp
       ·have h9:∃gl,(vals 9)=.slice (some ⟨gl,0,none⟩) 2 2∧W.heap[gl]?=some (.cells #[.int .i64 1,.int .i64 4] 3 (0,0)):=hd 9 (by simp[Zar]);have h12:(vals 12)=.int .i64 0∨(vals 12)=.int .i64 1:=hd 12 (by simp[Zar]);obtain⟨gl,e9,hk9⟩:=h9;clear hd
        rcases h12 with e12 | e12
        ·refine Zac (W':=W) (v:=.pointer (some ⟨gl,0,none⟩)) ?_ ⟨Zbr,gl,0,rfl,.inl rfl,hk9⟩
         simp only[Zan,Zar,Zah,e9,e12];go_simp
        ·refine Zac (W':=W) (v:=.pointer (some ⟨gl,1,none⟩)) ?_ ⟨Zbr,gl,1,rfl,.inr rfl,hk9⟩
         simp only[Zan,Zar,Zah,e9,e12];go_simp
       ·have h13:∃gl q,(vals 13)=.pointer (some ⟨gl,q,none⟩)∧(q=0∨q=1)∧W.heap[gl]?=some (.cells #[.int .i64 1,.int .i64 4] 3 (0,0)):=hd 13 (by simp[Zar]);obtain⟨gl,q,e13,hq13,hk13⟩:=h13;clear hd;have z0:=(Zaa hk13 0).trans rfl;have z1:=(Zaa hk13 1).trans rfl
        rcases hq13 with rfl | rfl
        ·refine Zac (W':=W) (v:=.int .i64 1) ?_ ⟨Zbr,.inl rfl⟩
         simp only[Zan,Zar,Zah,e13];go_simp
        ·refine Zac (W':=W) (v:=.int .i64 4) ?_ ⟨Zbr,.inr rfl⟩
         simp only[Zan,Zar,Zah,e13];go_simp
       ·have h14:(vals 14)=.int .i64 1∨(vals 14)=.int .i64 4:=hd 14 (by simp[Zar]);obtain⟨e,he,e14⟩:∃e:Int,(e=1∨e=4)∧vals 14=.int .i64 e:=by
         rcases h14 with h | h
         ·exact⟨1,.inl rfl,h⟩
         ·exact⟨4,.inr rfl,h⟩
        clear hd;refine Zac (W':=W) (v:=.agg #[.int .i64 e,.slice none 0 0,.slice none 0 0,.slice none 0 0]) ?_ ⟨Zbr,e,he,rfl⟩
        simp only[Zan,Zar,Zah,e14];go_simp
       ·have h15:∃e:Int,(e=1∨e=4)∧(vals 15)=.agg #[.int .i64 e,.slice none 0 0,.slice none 0 0,.slice none 0 0]:=hd 15 (by simp[Zar]);obtain⟨e,he,e15⟩:=h15;clear hd;refine Zac (W':=W.alloc (.cells #[.int .i64 e,.slice none 0 0,.slice none 0 0,.slice none 0 0] 73)) (v:=.slice (some ⟨W.heap.size,0,none⟩) 1 1) ?_ ⟨Zab Zbr _,W.heap.size,e,he,rfl,hR.size,Zaj W _⟩
        simp only[Zan,Zar,Zah,e15];go_simp
       ·have h4:∃A c l,(vals 4)=.slice A l.length c∧l.length≤c∧Some0 a1 l∧Kd.F Kd.string W (fun b=>b=g1) A l.length l:=hd 4 (by simp[Zar]);have h8:∃A c l,(vals 8)=.slice A l.length c∧l.length≤c∧Some0 a2 l∧Kd.F Kd.string W (fun b=>b=g2) A l.length l:=hd 8 (by simp[Zar]);have h16:∃(gl:Nat) (e:Int),(e=1∨e=4)∧(vals 16)=.slice (some ⟨gl,0,none⟩) 1 1∧Y.heap.size≤gl∧W.heap[gl]?=some (.cells #[.int .i64 e,.slice none 0 0,.slice none 0 0,.slice none 0 0] 73 (0,0)):=hd 16 (by simp[Zar]);obtain⟨A4,c4,l4,e4,_⟩:=h4;obtain⟨A8,c8,l8,e8,_⟩:=h8;obtain⟨g16,q16,_,e16,_⟩:=h16;refine Zac (W':=W) (v:=.agg #[.int .i64 3,.slice A4 l4.length c4,.slice A8 l8.length c8,.slice (some ⟨g16,0,none⟩) 1 1]) ?_ ⟨Zbr,_,_,_,_,_,_,_,e4,e8,e16,rfl⟩
        clear hd;simp only[Zan,Zar,Zah,e4,e8,e16];go_simp
       ·have h17:∃(A1:Option Addr) (k1 c1:Nat) (A2:Option Addr) (k2 c2 g3:Nat),(vals 4)=.slice A1 k1 c1∧(vals 8)=.slice A2 k2 c2∧(vals 16)=.slice (some ⟨g3,0,none⟩) 1 1∧(vals 17)=.agg #[.int .i64 3,.slice A1 k1 c1,.slice A2 k2 c2,.slice (some ⟨g3,0,none⟩) 1 1]:=hd 17 (by simp[Zar]);obtain⟨B1,k1,d1,B2,k2,d2,g3,_,_,_,e17⟩:=h17;clear hd;refine Zac (W':=W.alloc (.cells #[.int .i64 3,.slice B1 k1 d1,.slice B2 k2 d2,.slice (some ⟨g3,0,none⟩) 1 1] 73)) (v:=.slice (some ⟨W.heap.size,0,none⟩) 1 1) ?_ ⟨Zab Zbr _,W.heap.size,_,rfl,hR.size,e17,Zaj W _⟩
        simp only[Zan,Zar,Zah,e17];go_simp
      case fin=>
       intro vals W hR0 hF;have hR:=Zae (Zao (Below.refl _ Y)) hR0;have f0:vals 0=(.slice As 0 cs):=hF 0 (by decide);have f1:vals 1=.slice (some ⟨g1,0,none⟩) n1 n1:=hF 1 (by decide);have f2:vals 2=.int .i64 x:=hF 2 (by decide);have f3:∃q,(vals 3)=.int .i64 q:=hF 3 (by decide);have f4:∃A c l,(vals 4)=.slice A l.length c∧l.length≤c∧Some0 a1 l∧Kd.F Kd.string W (fun b=>b=g1) A l.length l:=hF 4 (by decide);have f5:vals 5=.slice (some ⟨g2,0,none⟩) n2 n2:=hF 5 (by decide);have f6:vals 6=.int .i64 x:=hF 6 (by decide);have f7:∃q,(vals 7)=.int .i64 q:=hF 7 (by decide);have f8:∃A c l,(vals 8)=.slice A l.length c∧l.length≤c∧Some0 a2 l∧Kd.F Kd.string W (fun b=>b=g2) A l.length l:=hF 8 (by decide);have f9:∃gl,(vals 9)=.slice (some ⟨gl,0,none⟩) 2 2∧W.heap[gl]?=some (.cells #[.int .i64 1,.int .i64 4] 3 (0,0)):=hF 9 (by decide);have f10:vals 10=.int .i64 x:=hF 10 (by decide);have f11:∃q,(vals 11)=.int .i64 q:=hF 11 (by decide);have f12:(vals 12)=.int .i64 0∨(vals 12)=.int .i64 1:=hF 12 (by decide);have f13:∃gl q,(vals 13)=.pointer (some ⟨gl,q,none⟩)∧(q=0∨q=1)∧W.heap[gl]?=some (.cells #[.int .i64 1,.int .i64 4] 3 (0,0)):=hF 13 (by decide);have f14:(vals 14)=.int .i64 1∨(vals 14)=.int .i64 4:=hF 14 (by decide);have f15:∃e:Int,(e=1∨e=4)∧(vals 15)=.agg #[.int .i64 e,.slice none 0 0,.slice none 0 0,.slice none 0 0]:=hF 15 (by decide);have f16:∃(gl:Nat) (e:Int),(e=1∨e=4)∧(vals 16)=.slice (some ⟨gl,0,none⟩) 1 1∧Y.heap.size≤gl∧W.heap[gl]?=some (.cells #[.int .i64 e,.slice none 0 0,.slice none 0 0,.slice none 0 0] 73 (0,0)):=hF 16 (by decide);have f17:∃(A1:Option Addr) (k1 c1:Nat) (A2:Option Addr) (k2 c2 g3:Nat),(vals 4)=.slice A1 k1 c1∧(vals 8)=.slice A2 k2 c2∧(vals 16)=.slice (some ⟨g3,0,none⟩) 1 1∧(vals 17)=.agg #[.int .i64 3,.slice A1 k1 c1,.slice A2 k2 c2,.slice (some ⟨g3,0,none⟩) 1 1]:=hF 17 (by decide);have f18:∃gl c,(vals 18)=.slice (some ⟨gl,0,none⟩) 1 1∧Y.heap.size≤gl∧(vals 17)=.agg c∧W.heap[gl]?=some (.cells c 73 (0,0)):=hF 18 (by decide);clear hF hR0;rw[show List.range 19=[0,1,2,3,4,5,6,7,8,9,10,11,12,13,14,15,16,17,18]from rfl];simp only[Zan,Zah,Act.put,List.getElem?_toArray,List.getElem?_cons_zero,List.getElem?_cons_succ,Option.bind_some,List.setIfInBounds_toArray,List.set_cons_zero,List.set_cons_succ,List.drop_succ_cons,List.drop_zero,f0,f1,f2,f5,f6,f10];obtain⟨A1,c1,l1,e4,hc1,hs1,hf1⟩:=f4;obtain⟨A2,c2,l2,e8,hc2,hs2,hf2⟩:=f8;obtain⟨gl,ee,hee,e16,hgl,kl⟩:=f16;obtain⟨B1,k1,d1,B2,k2,d2,g3,u1,u2,u3,e17⟩:=f17;rw[e4]at u1;rw[e8]at u2;rw[e16]at u3;injection u1 with u11 u12 u13
       injection u2 with u21 u22 u23
       injection u3 with u31 _ _
       injection u31 with u31
       injection u31 with u31
       subst u11 u12 u13 u21 u22 u23 u31;obtain⟨g18,cc,e18,hg18,ec,k18⟩:=f18;rw[e17]at ec;injection ec with ec
       subst ec;have HNW:=Zrw.mk (Kd.N_below HN.out hR);have HBW:=Zrw.mk (Zae HB.out hR);have hlo:∀b:Nat,Y.heap.size≤b→Okp g0 g1 g2 X.heap.size b∧some b≠(Value.slice As 0 cs).ownBlock:=fun b hb=>⟨HF8.out b (Nat.le_trans HB.out.size hb),fun he=>by have:=Kd.N_lt HN.out b he.symm;omega⟩
       have HRW:Zrw (Kd.F k76 W (fun b=>Okp g0 g1 g2 X.heap.size b∧some b≠(Value.slice As 0 cs).ownBlock) (some ⟨g18,0,none⟩) 1 [(⟨3,l1,l2,[⟨ee,[],[],[]⟩]⟩:S76)]):=
        ⟨Zdy (cs:=[.int .i64 3,.slice A1 l1.length c1,.slice A2 l2.length c2,.slice (some ⟨gl,0,none⟩) 1 1]) k18 (hlo _ hg18) (Zro hc1 (Kd.F_mono hf1 (fun b hb=>⟨by rw[hb];exact HO1.out,by rw[hb];exact far_own HN.out HG1.out⟩)) hc2 (Kd.F_mono hf2 (fun b hb=>⟨by rw[hb];exact HO2.out,by rw[hb];exact far_own HN.out HG2.out⟩)) (Zdy (cs:=[.int .i64 ee,.slice none 0 0,.slice none 0 0,.slice none 0 0]) kl (hlo _ hgl) (Zee _ _ _)))⟩
       have HP7:Zrw (PcsAt a0 a1 a2 (i+1) ([]++[(⟨3,l1,l2,[⟨ee,[],[],[]⟩]⟩:S76)])):=⟨HP.out.push (.inr (.inr (.inl ⟨rfl,hs1,hs2,_,1,rfl,.inl ⟨hee,rfl,rfl,rfl,Nat.le_refl _⟩,Nat.le_refl _⟩)))⟩
       simp only[e4,e8,e16,e17,e18];clear hR hc1 hs1 hf1 hc2 hs2 hf2 hee hgl kl hg18 k18 hlo
       go_wp2_with ((with_reducible refine Zal (b:=.append) (xs:=#[.tmp 72,.tmp 90]) rfl ?_);at_builtin;refine Kd.N_append_rows k76 (w0:=X) (W:=W) X.heap.size rfl (.tmp 72) (.tmp 90) 71 73 (.agg #[.int .i64 0,.slice none 0 0,.slice none 0 0,.slice none 0 0]) 80 rfl Tryz.underlying71 Zfm rfl (by decide) (by omega) (.slice As 0 cs) [] [(⟨3,l1,l2,[⟨ee,[],[],[]⟩]⟩:S76)] (some ⟨g18,0,none⟩) 1 1 (Okp g0 g1 g2 X.heap.size) _ rfl rfl HNW.out HRW.out (fun b hb=>hb) (fun k hk=>HF8.out k (Nat.le_trans HBW.out.size hk)) HBW.out HBW.out.size ?aL ?_;(case aL=>have:=HLX.out;omega);intro v6 w6 ho6 hb6 hg6 hat6;have HN6:=Zrw.mk ho6;have HB6:=Zrw.mk hb6;clear ho6 hb6 hg6 hat6)
       go_wp2
       go_roundw
       case rel=>exact⟨i+1,_,by omega,by omega,by simp,HP7,HN6,HB6⟩
       case measure=>show ls.length-((i:Int)+1).toNat<ls.length-(i:Int).toNat;omega
    have cgt:5<c:=by omega
    as_aux_lemma=>
     go_wp2_with (first
      | (go_at_call 39;(with_reducible refine (HPK0.out _ _ HBY.out).mono ?_);rintro e w1 ⟨⟨A1,c1,l1,rfl,hc1,hs1,hf1⟩,hw1⟩;obtain rfl:=hw1.symm;have HC1:=Zrw.mk hc1;have HS1:=Zrw.mk hs1;have HF1:=Zrw.mk hf1;clear hc1 hs1 hf1)
      | ((with_reducible refine Zal (b:=.append) (xs:=#[.tmp 47,.tmp 53]) rfl ?_);at_builtin;refine Kd.N_append k76 (w0:=X) (W:=Y) X.heap.size rfl (.tmp 47) (.tmp 53) 71 73 (.agg #[.int .i64 0,.slice none 0 0,.slice none 0 0,.slice none 0 0]) 80 rfl Tryz.underlying71 Zfm rfl (by decide) (by omega) _ [] (⟨2,l1,[],[]⟩:S76) [.int .i64 2,.slice A1 l1.length c1,.slice none 0 0,.slice none 0 0] (Okp g0 g1 g2 X.heap.size) (fun b=>b=g0) rfl rfl (Zrb _ _ _ _ _ _ HC1.out HF1.out) (fun b hb=>⟨by rw[hb];exact HO0.out,by rw[hb];exact far_own HN.out HG0.out⟩) (fun k hk=>HF8.out k (Nat.le_trans HB.out.size hk)) HN.out HB.out HB.out.size ?aL ?_;(case aL=>have:=HLX.out;omega);intro v6 w6 ho6 hb6 hg6 hat6;have HN6:=Zrw.mk ho6;have HB6:=Zrw.mk hb6;clear ho6 hb6 hg6 hat6))
     go_wp2
     clear hcx hm
     go_roundw
     case rel=>exact⟨i+1,_,by omega,by omega,by simp,⟨HP.out.push (.inr (.inl ⟨rfl,HS1.out,rfl,rfl,by omega⟩))⟩,HN6,HB6⟩
     case measure=>show ls.length-((i:Int)+1).toNat<ls.length-(i:Int).toNat;omega
   ·obtain⟨k,hk⟩:∃k,xs.length=k+1:=⟨xs.length-1,by omega⟩
    clear z;have hk8:k<8:=by have:=HLX.out;omega
    obtain⟨g,cap,hs,hgX,hgY,_⟩:=Kd.N_form HN.out (by omega);injection hs with hs1 hs2 hs3
    subst hs1;subst hs3;clear hs2;have HGX:=Zrw.mk hgX;have HGY:=Zrw.mk hgY;obtain⟨m,hmx⟩:∃m,m=xs.length:=⟨_,rfl⟩
    have HXL:=Zrw.mk hmx;have HMK:Zrw (m=k+1):=⟨by omega⟩
    rw[←hmx]at HN hk ⊢;have hkm:k<m:=by omega
    have hq:wrap64 ((m:Int)-1)=k:=(by rw[hk];unfold wrap64;omega)
    have hmz:¬m=0:=by omega
    have hmp:0<m:=by omega
    obtain⟨el,hel1,hel2,hel3,hel4⟩:=Kd.N_elem HN.out z76 (k:Int) (by omega) (by omega);rw[Int.toNat_natCast]at hel2 hel3 hel4;obtain⟨B1,d1,B2,d2,B3,d3,rfl,_⟩:=Zbj (Kd.FK_now hel2);have HEL:=Zrw.mk hel2;obtain⟨y,hy⟩:∃y,y=xs.getD k z76:=⟨_,rfl⟩
    have HY:=Zrw.mk hy;rw[←hy]at HEL hel3;have HCC:=Zrw.mk hel3;have x0:Y.cell? ⟨g,k*4,none⟩=some (.int .i64 y.f0):=hel3 0 _ rfl;have x1:Y.cell? ⟨g,k*4+1,none⟩=some (.slice B1 y.f1.length d1):=hel3 1 _ rfl;have x2:Y.cell? ⟨g,k*4+2,none⟩=some (.slice B2 y.f2.length d2):=hel3 2 _ rfl;have x3:Y.cell? ⟨g,k*4+3,none⟩=some (.slice B3 y.f3.length d3):=hel3 3 _ rfl;have fr0:Y.frozen? ⟨g,k*4,none⟩=false:=hel4 0;clear hel1 hel2 hel3 hel4 hy hgX hgY hk hmx hk8;by_cases c3:c=3
    ·subst c3
     as_aux_lemma=>
      go_wp2_with ((with_reducible refine Zal (b:=.append) (xs:=#[.tmp 58,.tmp 60]) rfl ?_);at_builtin;refine Kd.N_append k76 (w0:=X) (W:=Y) X.heap.size rfl (.tmp 58) (.tmp 60) 71 73 (.agg #[.int .i64 0,.slice none 0 0,.slice none 0 0,.slice none 0 0]) 80 rfl Tryz.underlying71 Zfm rfl (by decide) (by omega) _ xs (⟨4,[],[],[]⟩:S76) [.int .i64 4,.slice none 0 0,.slice none 0 0,.slice none 0 0] (Okp g0 g1 g2 X.heap.size) (fun _=>False) rfl rfl (Zee _ _ _) (fun _ hk=>hk.elim) (fun k hk=>HF8.out k (Nat.le_trans HB.out.size hk)) HN.out HB.out HB.out.size ?aL ?_;(case aL=>have:=HLX.out;omega);intro v6 w6 ho6 hb6 hg6 hat6;have HN6:=Zrw.mk ho6;have HB6:=Zrw.mk hb6;clear ho6 hb6 hg6 hat6)
      go_wp2
      clear hcx hm
      go_roundw
      case rel=>exact⟨i+1,_,by omega,by omega,by simp,⟨HP.out.push (.inl ⟨.inr rfl,rfl,rfl,rfl,by omega⟩)⟩,HN6,HB6⟩
      case measure=>show ls.length-((i:Int)+1).toNat<ls.length-(i:Int).toNat;omega
    by_cases c4:c=4
    ·subst c4
     as_aux_lemma=>
      go_wp2_with ((with_reducible refine Zal (b:=.append) (xs:=#[.tmp 65,.tmp 67]) rfl ?_);at_builtin;refine Kd.N_append k76 (w0:=X) (W:=Y) X.heap.size rfl (.tmp 65) (.tmp 67) 71 73 (.agg #[.int .i64 0,.slice none 0 0,.slice none 0 0,.slice none 0 0]) 80 rfl Tryz.underlying71 Zfm rfl (by decide) (by omega) _ xs (⟨1,[],[],[]⟩:S76) [.int .i64 1,.slice none 0 0,.slice none 0 0,.slice none 0 0] (Okp g0 g1 g2 X.heap.size) (fun _=>False) rfl rfl (Zee _ _ _) (fun _ hk=>hk.elim) (fun k hk=>HF8.out k (Nat.le_trans HB.out.size hk)) HN.out HB.out HB.out.size ?aL ?_;(case aL=>have:=HLX.out;omega);intro v6 w6 ho6 hb6 hg6 hat6;have HN6:=Zrw.mk ho6;have HB6:=Zrw.mk hb6;clear ho6 hb6 hg6 hat6)
      go_wp2
      clear hcx hm
      go_roundw
      case rel=>exact⟨i+1,_,by omega,by omega,by simp,⟨HP.out.push (.inl ⟨.inl rfl,rfl,rfl,rfl,by omega⟩)⟩,HN6,HB6⟩
      case measure=>show ls.length-((i:Int)+1).toNat<ls.length-(i:Int).toNat;omega
    by_cases clt:c<3
    ·as_aux_lemma=>
      go_wp2_with (first
       | (go_at_call 39;(with_reducible refine (HPK0.out _ _ HBY.out).mono ?_);rintro e w1 ⟨⟨A1,c1,l1,rfl,hc1,hs1,hf1⟩,hw1⟩;obtain rfl:=hw1.symm;have HC1:=Zrw.mk hc1;have HS1:=Zrw.mk hs1;have HF1:=Zrw.mk hf1;clear hc1 hs1 hf1)
       | ((with_reducible refine Zal (b:=.append) (xs:=#[.tmp 47,.tmp 53]) rfl ?_);at_builtin;refine Kd.N_append k76 (w0:=X) (W:=Y) X.heap.size rfl (.tmp 47) (.tmp 53) 71 73 (.agg #[.int .i64 0,.slice none 0 0,.slice none 0 0,.slice none 0 0]) 80 rfl Tryz.underlying71 Zfm rfl (by decide) (by omega) _ xs (⟨2,l1,[],[]⟩:S76) [.int .i64 2,.slice A1 l1.length c1,.slice none 0 0,.slice none 0 0] (Okp g0 g1 g2 X.heap.size) (fun b=>b=g0) rfl rfl (Zrb _ _ _ _ _ _ HC1.out HF1.out) (fun b hb=>⟨by rw[hb];exact HO0.out,by rw[hb];exact far_own HN.out HG0.out⟩) (fun k hk=>HF8.out k (Nat.le_trans HB.out.size hk)) HN.out HB.out HB.out.size ?aL ?_;(case aL=>have:=HLX.out;omega);intro v6 w6 ho6 hb6 hg6 hat6;have HN6:=Zrw.mk ho6;have HB6:=Zrw.mk hb6;clear ho6 hb6 hg6 hat6))
      go_wp2
      clear hcx hm
      go_roundw
      case rel=>exact⟨i+1,_,by omega,by omega,by simp,⟨HP.out.push (.inr (.inl ⟨rfl,HS1.out,rfl,rfl,by omega⟩))⟩,HN6,HB6⟩
      case measure=>show ls.length-((i:Int)+1).toNat<ls.length-(i:Int).toNat;omega
    by_cases c5:c=5
    ·subst c5
     as_aux_lemma=>
      clear hm hcx hq x0 x1 x2 x3 fr0 hkm
      go_upto_region 14 with fail
      refine Zba 19 _ Zar (Zov (.slice (some ⟨g,0,none⟩) m cs) x g1 n1 g2 n2 a1 a2 Y.heap.size) Zca (by kernel_rfl) (by kernel_rfl) (by kernel_rfl) rfl Zbh Zbc (Zkm _ _ _ _ _ _ _ _ _) ?step ?fin
      case step=>
       repeat (rename_i z;clear z)
       refine⟨?_,?_,?_,?_,?_,?_,?_,?_,?_,?_,?_,?_,?_,?_,?_,?_,?_,?_,?_,trivial⟩ <;> intro vals W hR0 hd <;> have hR:=Zae (Zao (Below.refl _ Y)) hR0
       ·refine Zac (W':=W) ?_ ⟨Zbr,rfl⟩
        clear hd;simp only[Zan,Zar,Zah];go_simp
       ·refine Zac (W':=W) ?_ ⟨Zbr,rfl⟩
        clear hd;simp only[Zan,Zar,Zah];go_simp
       ·refine Zac (W':=W) ?_ ⟨Zbr,rfl⟩
        clear hd;simp only[Zan,Zar,Zah];go_simp
       ·have h2:vals 2=.int .i64 x:=hd 2 (by simp[Zar]);clear hd;refine Zac (W':=W) (v:=.int .i64 (IntKind.i64.wrap (x.tdiv 11))) ?_ ⟨Zbr,_,rfl⟩
        simp only[Zan,Zar,Zah,h2];go_simp
       ·have h1:vals 1=.slice (some ⟨g1,0,none⟩) n1 n1:=hd 1 (by simp[Zar]);have h3:∃q,(vals 3)=.int .i64 q:=hd 3 (by simp[Zar]);obtain⟨q,hq5⟩:=h3;clear hd;refine Zbp (W':=W) (f:=39) (args:=#[.slice (some ⟨g1,0,none⟩) n1 n1,.int .i64 q]) ?_ ((HPK1.out _ W (Zae HBY.out hR)).mono ?_)
        ·simp only[Zan,Zar,Zah,h1,hq5];go_simp
        ·rintro e w1 ⟨⟨A1,c1,l1,rfl,hc1,hs1,hf1⟩,rfl⟩;exact⟨_,rfl,Zbr,A1,c1,l1,rfl,hc1,hs1,hf1⟩
       ·refine Zac (W':=W) ?_ ⟨Zbr,rfl⟩
        clear hd;simp only[Zan,Zar,Zah];go_simp
       ·refine Zac (W':=W) ?_ ⟨Zbr,rfl⟩
        clear hd;simp only[Zan,Zar,Zah];go_simp
       ·have h6:vals 6=.int .i64 x:=hd 6 (by simp[Zar]);clear hd;refine Zac (W':=W) (v:=.int .i64 (IntKind.i64.wrap (x.tdiv 13))) ?_ ⟨Zbr,_,rfl⟩
        simp only[Zan,Zar,Zah,h6];go_simp
       ·have h5:vals 5=.slice (some ⟨g2,0,none⟩) n2 n2:=hd 5 (by simp[Zar]);have h7:∃q,(vals 7)=.int .i64 q:=hd 7 (by simp[Zar]);obtain⟨q,hq5⟩:=h7;clear hd;refine Zbp (W':=W) (f:=39) (args:=#[.slice (some ⟨g2,0,none⟩) n2 n2,.int .i64 q]) ?_ ((HPK2.out _ W (Zae HBY.out hR)).mono ?_)
        ·simp only[Zan,Zar,Zah,h5,hq5];go_simp
        ·rintro e w1 ⟨⟨A1,c1,l1,rfl,hc1,hs1,hf1⟩,rfl⟩;exact⟨_,rfl,Zbr,A1,c1,l1,rfl,hc1,hs1,hf1⟩
       ·clear hd;refine Zac (W':=W.alloc (.cells #[.int .i64 1,.int .i64 4] 3)) (v:=.slice (some ⟨W.heap.size,0,none⟩) 2 2) ?_ ⟨Zab Zbr _,W.heap.size,rfl,Zaj W _⟩
        simp only[Zan,Zar,Zah];go_simp
       ·refine Zac (W':=W) ?_ ⟨Zbr,rfl⟩
        clear hd;simp only[Zan,Zar,Zah];go_simp
       ·have h10:vals 10=.int .i64 x:=hd 10 (by simp[Zar]);clear hd;refine Zac (W':=W) (v:=.int .i64 (IntKind.i64.wrap (x.tdiv 17))) ?_ ⟨Zbr,_,rfl⟩
        simp only[Zan,Zar,Zah,h10];go_simp
       ·have h11:∃q,(vals 11)=.int .i64 q:=hd 11 (by simp[Zar]);obtain⟨q,hq11⟩:=h11;clear hd
        rcases and1 q with hb1 | hb1
        ·refine Zac (W':=W) (v:=.int .i64 0) ?_ ⟨Zbr,.inl rfl⟩
         simp only[Zan,Zar,Zah,hq11];go_simp
        ·refine Zac (W':=W) (v:=.int .i64 1) ?_ ⟨Zbr,.inr rfl⟩
         simp only[Zan,Zar,Zah,hq11];go_simp
       ·have h9:∃gl,(vals 9)=.slice (some ⟨gl,0,none⟩) 2 2∧W.heap[gl]?=some (.cells #[.int .i64 1,.int .i64 4] 3 (0,0)):=hd 9 (by simp[Zar]);have h12:(vals 12)=.int .i64 0∨(vals 12)=.int .i64 1:=hd 12 (by simp[Zar]);obtain⟨gl,e9,hk9⟩:=h9;clear hd
        rcases h12 with e12 | e12
        ·refine Zac (W':=W) (v:=.pointer (some ⟨gl,0,none⟩)) ?_ ⟨Zbr,gl,0,rfl,.inl rfl,hk9⟩
         simp only[Zan,Zar,Zah,e9,e12];go_simp
        ·refine Zac (W':=W) (v:=.pointer (some ⟨gl,1,none⟩)) ?_ ⟨Zbr,gl,1,rfl,.inr rfl,hk9⟩
         simp only[Zan,Zar,Zah,e9,e12];go_simp
       ·have h13:∃gl q,(vals 13)=.pointer (some ⟨gl,q,none⟩)∧(q=0∨q=1)∧W.heap[gl]?=some (.cells #[.int .i64 1,.int .i64 4] 3 (0,0)):=hd 13 (by simp[Zar]);obtain⟨gl,q,e13,hq13,hk13⟩:=h13;clear hd;have z0:=(Zaa hk13 0).trans rfl;have z1:=(Zaa hk13 1).trans rfl
        rcases hq13 with rfl | rfl
        ·refine Zac (W':=W) (v:=.int .i64 1) ?_ ⟨Zbr,.inl rfl⟩
         simp only[Zan,Zar,Zah,e13];go_simp
        ·refine Zac (W':=W) (v:=.int .i64 4) ?_ ⟨Zbr,.inr rfl⟩
         simp only[Zan,Zar,Zah,e13];go_simp
       ·have h14:(vals 14)=.int .i64 1∨(vals 14)=.int .i64 4:=hd 14 (by simp[Zar]);obtain⟨e,he,e14⟩:∃e:Int,(e=1∨e=4)∧vals 14=.int .i64 e:=by
         rcases h14 with h | h
         ·exact⟨1,.inl rfl,h⟩
         ·exact⟨4,.inr rfl,h⟩
        clear hd;refine Zac (W':=W) (v:=.agg #[.int .i64 e,.slice none 0 0,.slice none 0 0,.slice none 0 0]) ?_ ⟨Zbr,e,he,rfl⟩
        simp only[Zan,Zar,Zah,e14];go_simp
       ·have h15:∃e:Int,(e=1∨e=4)∧(vals 15)=.agg #[.int .i64 e,.slice none 0 0,.slice none 0 0,.slice none 0 0]:=hd 15 (by simp[Zar]);obtain⟨e,he,e15⟩:=h15;clear hd;refine Zac (W':=W.alloc (.cells #[.int .i64 e,.slice none 0 0,.slice none 0 0,.slice none 0 0] 73)) (v:=.slice (some ⟨W.heap.size,0,none⟩) 1 1) ?_ ⟨Zab Zbr _,W.heap.size,e,he,rfl,hR.size,Zaj W _⟩
        simp only[Zan,Zar,Zah,e15];go_simp
       ·have h4:∃A c l,(vals 4)=.slice A l.length c∧l.length≤c∧Some0 a1 l∧Kd.F Kd.string W (fun b=>b=g1) A l.length l:=hd 4 (by simp[Zar]);have h8:∃A c l,(vals 8)=.slice A l.length c∧l.length≤c∧Some0 a2 l∧Kd.F Kd.string W (fun b=>b=g2) A l.length l:=hd 8 (by simp[Zar]);have h16:∃(gl:Nat) (e:Int),(e=1∨e=4)∧(vals 16)=.slice (some ⟨gl,0,none⟩) 1 1∧Y.heap.size≤gl∧W.heap[gl]?=some (.cells #[.int .i64 e,.slice none 0 0,.slice none 0 0,.slice none 0 0] 73 (0,0)):=hd 16 (by simp[Zar]);obtain⟨A4,c4,l4,e4,_⟩:=h4;obtain⟨A8,c8,l8,e8,_⟩:=h8;obtain⟨g16,q16,_,e16,_⟩:=h16;refine Zac (W':=W) (v:=.agg #[.int .i64 3,.slice A4 l4.length c4,.slice A8 l8.length c8,.slice (some ⟨g16,0,none⟩) 1 1]) ?_ ⟨Zbr,_,_,_,_,_,_,_,e4,e8,e16,rfl⟩
        clear hd;simp only[Zan,Zar,Zah,e4,e8,e16];go_simp
       ·have h17:∃(A1:Option Addr) (k1 c1:Nat) (A2:Option Addr) (k2 c2 g3:Nat),(vals 4)=.slice A1 k1 c1∧(vals 8)=.slice A2 k2 c2∧(vals 16)=.slice (some ⟨g3,0,none⟩) 1 1∧(vals 17)=.agg #[.int .i64 3,.slice A1 k1 c1,.slice A2 k2 c2,.slice (some ⟨g3,0,none⟩) 1 1]:=hd 17 (by simp[Zar]);obtain⟨B1,k1,d1,B2,k2,d2,g3,_,_,_,e17⟩:=h17;clear hd;refine Zac (W':=W.alloc (.cells #[.int .i64 3,.slice B1 k1 d1,.slice B2 k2 d2,.slice (some ⟨g3,0,none⟩) 1 1] 73)) (v:=.slice (some ⟨W.heap.size,0,none⟩) 1 1) ?_ ⟨Zab Zbr _,W.heap.size,_,rfl,hR.size,e17,Zaj W _⟩
        simp only[Zan,Zar,Zah,e17];go_simp
      case fin=>
       intro vals W hR0 hF;have hR:=Zae (Zao (Below.refl _ Y)) hR0;have f0:vals 0=(.slice (some ⟨g,0,none⟩) m cs):=hF 0 (by decide);have f1:vals 1=.slice (some ⟨g1,0,none⟩) n1 n1:=hF 1 (by decide);have f2:vals 2=.int .i64 x:=hF 2 (by decide);have f3:∃q,(vals 3)=.int .i64 q:=hF 3 (by decide);have f4:∃A c l,(vals 4)=.slice A l.length c∧l.length≤c∧Some0 a1 l∧Kd.F Kd.string W (fun b=>b=g1) A l.length l:=hF 4 (by decide);have f5:vals 5=.slice (some ⟨g2,0,none⟩) n2 n2:=hF 5 (by decide);have f6:vals 6=.int .i64 x:=hF 6 (by decide);have f7:∃q,(vals 7)=.int .i64 q:=hF 7 (by decide);have f8:∃A c l,(vals 8)=.slice A l.length c∧l.length≤c∧Some0 a2 l∧Kd.F Kd.string W (fun b=>b=g2) A l.length l:=hF 8 (by decide);have f9:∃gl,(vals 9)=.slice (some ⟨gl,0,none⟩) 2 2∧W.heap[gl]?=some (.cells #[.int .i64 1,.int .i64 4] 3 (0,0)):=hF 9 (by decide);have f10:vals 10=.int .i64 x:=hF 10 (by decide);have f11:∃q,(vals 11)=.int .i64 q:=hF 11 (by decide);have f12:(vals 12)=.int .i64 0∨(vals 12)=.int .i64 1:=hF 12 (by decide);have f13:∃gl q,(vals 13)=.pointer (some ⟨gl,q,none⟩)∧(q=0∨q=1)∧W.heap[gl]?=some (.cells #[.int .i64 1,.int .i64 4] 3 (0,0)):=hF 13 (by decide);have f14:(vals 14)=.int .i64 1∨(vals 14)=.int .i64 4:=hF 14 (by decide);have f15:∃e:Int,(e=1∨e=4)∧(vals 15)=.agg #[.int .i64 e,.slice none 0 0,.slice none 0 0,.slice none 0 0]:=hF 15 (by decide);have f16:∃(gl:Nat) (e:Int),(e=1∨e=4)∧(vals 16)=.slice (some ⟨gl,0,none⟩) 1 1∧Y.heap.size≤gl∧W.heap[gl]?=some (.cells #[.int .i64 e,.slice none 0 0,.slice none 0 0,.slice none 0 0] 73 (0,0)):=hF 16 (by decide);have f17:∃(A1:Option Addr) (k1 c1:Nat) (A2:Option Addr) (k2 c2 g3:Nat),(vals 4)=.slice A1 k1 c1∧(vals 8)=.slice A2 k2 c2∧(vals 16)=.slice (some ⟨g3,0,none⟩) 1 1∧(vals 17)=.agg #[.int .i64 3,.slice A1 k1 c1,.slice A2 k2 c2,.slice (some ⟨g3,0,none⟩) 1 1]:=hF 17 (by decide);have f18:∃gl c,(vals 18)=.slice (some ⟨gl,0,none⟩) 1 1∧Y.heap.size≤gl∧(vals 17)=.agg c∧W.heap[gl]?=some (.cells c 73 (0,0)):=hF 18 (by decide);clear hF hR0;rw[show List.range 19=[0,1,2,3,4,5,6,7,8,9,10,11,12,13,14,15,16,17,18]from rfl];simp only[Zan,Zah,Act.put,List.getElem?_toArray,List.getElem?_cons_zero,List.getElem?_cons_succ,Option.bind_some,List.setIfInBounds_toArray,List.set_cons_zero,List.set_cons_succ,List.drop_succ_cons,List.drop_zero,f0,f1,f2,f5,f6,f10];obtain⟨A1,c1,l1,e4,hc1,hs1,hf1⟩:=f4;obtain⟨A2,c2,l2,e8,hc2,hs2,hf2⟩:=f8;obtain⟨gl,ee,hee,e16,hgl,kl⟩:=f16;obtain⟨B1,k1,d1,B2,k2,d2,g3,u1,u2,u3,e17⟩:=f17;rw[e4]at u1;rw[e8]at u2;rw[e16]at u3;injection u1 with u11 u12 u13
       injection u2 with u21 u22 u23
       injection u3 with u31 _ _
       injection u31 with u31
       injection u31 with u31
       subst u11 u12 u13 u21 u22 u23 u31;obtain⟨g18,cc,e18,hg18,ec,k18⟩:=f18;rw[e17]at ec;injection ec with ec
       subst ec;have HNW:=Zrw.mk (Kd.N_below HN.out hR);have HBW:=Zrw.mk (Zae HB.out hR);have hlo:∀b:Nat,Y.heap.size≤b→Okp g0 g1 g2 X.heap.size b∧some b≠(Value.slice (some ⟨g,0,none⟩) m cs).ownBlock:=fun b hb=>⟨HF8.out b (Nat.le_trans HB.out.size hb),fun he=>by have:=Kd.N_lt HN.out b he.symm;omega⟩
       have HRW:Zrw (Kd.F k76 W (fun b=>Okp g0 g1 g2 X.heap.size b∧some b≠(Value.slice (some ⟨g,0,none⟩) m cs).ownBlock) (some ⟨g18,0,none⟩) 1 [(⟨3,l1,l2,[⟨ee,[],[],[]⟩]⟩:S76)]):=
        ⟨Zdy (cs:=[.int .i64 3,.slice A1 l1.length c1,.slice A2 l2.length c2,.slice (some ⟨gl,0,none⟩) 1 1]) k18 (hlo _ hg18) (Zro hc1 (Kd.F_mono hf1 (fun b hb=>⟨by rw[hb];exact HO1.out,by rw[hb];exact far_own HN.out HG1.out⟩)) hc2 (Kd.F_mono hf2 (fun b hb=>⟨by rw[hb];exact HO2.out,by rw[hb];exact far_own HN.out HG2.out⟩)) (Zdy (cs:=[.int .i64 ee,.slice none 0 0,.slice none 0 0,.slice none 0 0]) kl (hlo _ hgl) (Zee _ _ _)))⟩
       have HP7:Zrw (PcsAt a0 a1 a2 (i+1) (xs++[(⟨3,l1,l2,[⟨ee,[],[],[]⟩]⟩:S76)])):=⟨HP.out.push (.inr (.inr (.inl ⟨rfl,hs1,hs2,_,1,rfl,.inl ⟨hee,rfl,rfl,rfl,Nat.le_refl _⟩,Nat.le_refl _⟩)))⟩
       simp only[e4,e8,e16,e17,e18];clear hR hc1 hs1 hf1 hc2 hs2 hf2 hee hgl kl hg18 k18 hlo
       go_wp2_with ((with_reducible refine Zal (b:=.append) (xs:=#[.tmp 72,.tmp 90]) rfl ?_);at_builtin;refine Kd.N_append_rows k76 (w0:=X) (W:=W) X.heap.size rfl (.tmp 72) (.tmp 90) 71 73 (.agg #[.int .i64 0,.slice none 0 0,.slice none 0 0,.slice none 0 0]) 80 rfl Tryz.underlying71 Zfm rfl (by decide) (by omega) (.slice (some ⟨g,0,none⟩) m cs) xs [(⟨3,l1,l2,[⟨ee,[],[],[]⟩]⟩:S76)] (some ⟨g18,0,none⟩) 1 1 (Okp g0 g1 g2 X.heap.size) _ rfl rfl HNW.out HRW.out (fun b hb=>hb) (fun k hk=>HF8.out k (Nat.le_trans HBW.out.size hk)) HBW.out HBW.out.size ?aL ?_;(case aL=>have:=HLX.out;omega);intro v6 w6 ho6 hb6 hg6 hat6;have HN6:=Zrw.mk ho6;have HB6:=Zrw.mk hb6;clear ho6 hb6 hg6 hat6)
       go_wp2
       go_roundw
       case rel=>exact⟨i+1,_,by omega,by omega,by simp,HP7,HN6,HB6⟩
       case measure=>show ls.length-((i:Int)+1).toNat<ls.length-(i:Int).toNat;omega
    by_cases c6:c=6
    ·subst c6
     as_aux_lemma=>
      clear hm HPK0 HPK1 HPK2
      go_upto_region 16 with fail
      clear hcx;have HLY:=Zrw.mk (Zaj Y (.cells #[.int .i64 y.f0,.slice B1 y.f1.length d1,.slice B2 y.f2.length d2,.slice B3 y.f3.length d3] 73));have HNL:=Zrw.mk (Kd.N_alloc HN.out (.cells #[.int .i64 y.f0,.slice B1 y.f1.length d1,.slice B2 y.f2.length d2,.slice B3 y.f3.length d3] 73));have HBL:=Zrw.mk (Zab HB.out (.cells #[.int .i64 y.f0,.slice B1 y.f1.length d1,.slice B2 y.f2.length d2,.slice B3 y.f3.length d3] 73));have HBZ:=Zrw.mk (Zab (Below.refl _ Y) (.cells #[.int .i64 y.f0,.slice B1 y.f1.length d1,.slice B2 y.f2.length d2,.slice B3 y.f3.length d3] 73));have HW7:Zrw (PcsAt a0 a1 a2 (i+1) (xs.set (k:Int).toNat ⟨7,[],[],[y]⟩)):=⟨by
       have e1:=HXL.out;have e2:=HMK.out;have e3:xs.length-1=k:=by omega
       have hp:=HP.out.wrap (x:=⟨7,[],[],[y]⟩) (by omega) (fun D n h=>.inr (.inr (.inr (.inl ⟨rfl,rfl,rfl,_,n,rfl,by rw[e3]at h;rw[HY.out];exact h,by omega⟩))));rw[e3]at hp;rw[Int.toNat_natCast];exact hp⟩
      go_wp2_with ((with_reducible refine Zbb (t:=73) (p:=117) rfl ?_);refine Kd.N_store k76 (w0:=X) X.heap.size rfl rfl 73 (.tmp 117) (.tmp 116) rfl 73 (k:Int) 0 xs ⟨7,[],[],[y]⟩ (.agg #[.int .i64 7,.slice none 0 0,.slice none 0 0,.slice (some ⟨Y.heap.size,0,none⟩) 1 1]) [.int .i64 7,.slice none 0 0,.slice none 0 0,.slice (some ⟨Y.heap.size,0,none⟩) 1 1] [.int .i64 y.f0,.slice B1 y.f1.length d1,.slice B2 y.f2.length d2,.slice B3 y.f3.length d3] (Okp g0 g1 g2 X.heap.size) (fun b=>Okp g0 g1 g2 X.heap.size b∧b≠g) rfl ?sO rfl rfl rfl ?s1 HNL.out ?s2 ?s3 rfl ?s4 ?s5 ?s6 (fun _ h=>h) HBL.out ?_;(case sO=>rfl);(case s1=>first | decide | (intro q hq2;simp at hq2;rcases hq2 with rfl | rfl | rfl | rfl <;> rfl));(case s2=>omega);(case s3=>omega);(case s4=>intro j u hu;exact Zad HBZ.out (HCC.out j u hu));(case s5=>exact Nat.le_refl 4);(case s6=>exact Zjo 7 (Zdy HLY.out ⟨HF8.out _ HB.out.size,fun h=>by have:=HGY.out;omega⟩ (Kd.FK_below HEL.out HBZ.out)));intro w6 ho6 hb6 hg6;have HN6:=Zrw.mk ho6;have HB6:=Zrw.mk hb6;clear ho6 hb6 hg6)
      go_roundw
      case rel=>exact⟨i+1,_,by omega,by omega,by simp,HW7,HN6,HB6⟩
      case measure=>show ls.length-((i:Int)+1).toNat<ls.length-(i:Int).toNat;omega
    by_cases c7:c=7
    ·subst c7
     as_aux_lemma=>
      clear hm hcx;have HQ:Zrw (IntKind.i64.wrap ((m:Int)-1)=k):=⟨by have:=HMK.out;have:=HLX.out;have:=HXL.out;rw[IntKind.wrap_i64];omega⟩
      have HKM:=Zrw.mk hkm;have X0:=Zrw.mk x0;have X1:=Zrw.mk x1;have X2:=Zrw.mk x2;have X3:=Zrw.mk x3;have FR0:=Zrw.mk fr0;by_cases m1x:m<2
      all_goals (
       go_upto_region 18 with fail
       clear hq x0 x1 x2 x3 fr0 m1x;refine Zba 18 _ Zbu (phiP18 (.slice (some ⟨g,0,none⟩) m cs) m k x g1 n1 g2 n2 a1 a2 g Y.heap.size #[.int .i64 y.f0,.slice B1 y.f1.length d1,.slice B2 y.f2.length d2,.slice B3 y.f3.length d3]) Zca (by kernel_rfl) (by kernel_rfl) (by kernel_rfl) rfl Zbh Zbc (Zqt _ _ _ _ _ _ _ _ _ _ _ _ _) ?step ?fin
       case step=>
        repeat (rename_i z;clear z)
        refine⟨?_,?_,?_,?_,?_,?_,?_,?_,?_,?_,?_,?_,?_,?_,?_,?_,?_,?_,trivial⟩ <;> intro vals W hR0 hd <;> have hR:=Zae (Zao (Below.refl _ Y)) hR0
        ·refine Zac (W':=W) ?_ ⟨Zbr,rfl⟩
         clear hd;simp only[Zan,Zbu,Zah];go_simp
        ·refine Zac (W':=W) ?_ ⟨Zbr,rfl⟩
         clear hd;simp only[Zan,Zbu,Zah];go_simp
        ·have h1:vals 1=.int .i64 (m:Int):=hd 1 (by simp[Zbu]);have hq:IntKind.i64.wrap ((m:Int)-1)=k:=HQ.out;refine Zac (W':=W) ?_ ⟨Zbr,rfl⟩
         clear hd;simp only[Zan,Zbu,Zah,h1];go_simp
        ·refine Zac (W':=W) ?_ ⟨Zbr,rfl⟩
         clear hd;simp only[Zan,Zbu,Zah];go_simp
        ·refine Zac (W':=W) ?_ ⟨Zbr,rfl⟩
         clear hd;simp only[Zan,Zbu,Zah];go_simp
        ·have h4:vals 4=.int .i64 x:=hd 4 (by simp[Zbu]);clear hd;refine Zac (W':=W) (v:=.int .i64 (IntKind.i64.wrap (x.tdiv 11))) ?_ ⟨Zbr,_,rfl⟩
         simp only[Zan,Zbu,Zah,h4];go_simp
        ·have h3:vals 3=.slice (some ⟨g1,0,none⟩) n1 n1:=hd 3 (by simp[Zbu]);have h5:∃q,(vals 5)=.int .i64 q:=hd 5 (by simp[Zbu]);obtain⟨q,hq5⟩:=h5;clear hd;refine Zbp (W':=W) (f:=39) (args:=#[.slice (some ⟨g1,0,none⟩) n1 n1,.int .i64 q]) ?_ ((HPK1.out _ W (Zae HBY.out hR)).mono ?_)
         ·simp only[Zan,Zbu,Zah,h3,hq5];go_simp
         ·rintro e w1 ⟨⟨A1,c1,l1,rfl,hc1,hs1,hf1⟩,rfl⟩;exact⟨_,rfl,Zbr,A1,c1,l1,rfl,hc1,hs1,hf1⟩
        ·refine Zac (W':=W) ?_ ⟨Zbr,rfl⟩
         clear hd;simp only[Zan,Zbu,Zah];go_simp
        ·refine Zac (W':=W) ?_ ⟨Zbr,rfl⟩
         clear hd;simp only[Zan,Zbu,Zah];go_simp
        ·have h8:vals 8=.int .i64 x:=hd 8 (by simp[Zbu]);clear hd;refine Zac (W':=W) (v:=.int .i64 (IntKind.i64.wrap (x.tdiv 13))) ?_ ⟨Zbr,_,rfl⟩
         simp only[Zan,Zbu,Zah,h8];go_simp
        ·have h7:vals 7=.slice (some ⟨g2,0,none⟩) n2 n2:=hd 7 (by simp[Zbu]);have h9:∃q,(vals 9)=.int .i64 q:=hd 9 (by simp[Zbu]);obtain⟨q,hq5⟩:=h9;clear hd;refine Zbp (W':=W) (f:=39) (args:=#[.slice (some ⟨g2,0,none⟩) n2 n2,.int .i64 q]) ?_ ((HPK2.out _ W (Zae HBY.out hR)).mono ?_)
         ·simp only[Zan,Zbu,Zah,h7,hq5];go_simp
         ·rintro e w1 ⟨⟨A1,c1,l1,rfl,hc1,hs1,hf1⟩,rfl⟩;exact⟨_,rfl,Zbr,A1,c1,l1,rfl,hc1,hs1,hf1⟩
        ·refine Zac (W':=W) ?_ ⟨Zbr,rfl⟩
         clear hd;simp only[Zan,Zbu,Zah];go_simp
        ·refine Zac (W':=W) ?_ ⟨Zbr,rfl⟩
         clear hd;simp only[Zan,Zbu,Zah];go_simp
        ·have h12:vals 12=.int .i64 (m:Int):=hd 12 (by simp[Zbu]);have hq:IntKind.i64.wrap ((m:Int)-1)=k:=HQ.out;refine Zac (W':=W) ?_ ⟨Zbr,rfl⟩
         clear hd;simp only[Zan,Zbu,Zah,h12];go_simp
        ·have h11:vals 11=(.slice (some ⟨g,0,none⟩) m cs):=hd 11 (by simp[Zbu]);have h13:vals 13=.int .i64 (k:Int):=hd 13 (by simp[Zbu]);have hkm2:=HKM.out;refine Zac (W':=W) ?_ ⟨Zbr,rfl⟩
         clear hd;simp only[Zan,Zbu,Zah,h11,h13];go_simp
        ·have h14:vals 14=.pointer (some ⟨g,k*4,none⟩):=hd 14 (by simp[Zbu]);have x0b:=Zad hR X0.out;have x1b:=Zad hR X1.out;have x2b:=Zad hR X2.out;have x3b:=Zad hR X3.out;refine Zac (W':=W) ?_ ⟨Zbr,rfl⟩
         clear hd;simp only[Zan,Zbu,Zah,h14];go_simp
        ·have h15:vals 15=.agg #[.int .i64 y.f0,.slice B1 y.f1.length d1,.slice B2 y.f2.length d2,.slice B3 y.f3.length d3]:=hd 15 (by simp[Zbu]);clear hd;refine Zac (W':=W.alloc (.cells #[.int .i64 y.f0,.slice B1 y.f1.length d1,.slice B2 y.f2.length d2,.slice B3 y.f3.length d3] 73)) (v:=.slice (some ⟨W.heap.size,0,none⟩) 1 1) ?_ ⟨Zab Zbr _,W.heap.size,rfl,hR.size,Zaj W _⟩
         simp only[Zan,Zbu,Zah,h15];go_simp
        ·have h6:∃A c l,(vals 6)=.slice A l.length c∧l.length≤c∧Some0 a1 l∧Kd.F Kd.string W (fun b=>b=g1) A l.length l:=hd 6 (by simp[Zbu]);have h10:∃A c l,(vals 10)=.slice A l.length c∧l.length≤c∧Some0 a2 l∧Kd.F Kd.string W (fun b=>b=g2) A l.length l:=hd 10 (by simp[Zbu]);have h16:∃gl,(vals 16)=.slice (some ⟨gl,0,none⟩) 1 1∧Y.heap.size≤gl∧W.heap[gl]?=some (.cells #[.int .i64 y.f0,.slice B1 y.f1.length d1,.slice B2 y.f2.length d2,.slice B3 y.f3.length d3] 73 (0,0)):=hd 16 (by simp[Zbu]);obtain⟨A6,c6,l6,e6,_⟩:=h6;obtain⟨A10,c10,l10,e10,_⟩:=h10;obtain⟨g16,e16,_⟩:=h16;refine Zac (W':=W) ?_ ⟨Zbr,rfl⟩
         clear hd;simp only[Zan,Zbu,Zah,e6,e10,e16];go_simp
       case fin=>
        intro vals W hR0 hF;have hR:=Zae (Zao (Below.refl _ Y)) hR0;have f0:vals 0=(.slice (some ⟨g,0,none⟩) m cs):=hF 0 (by decide);have f1:vals 1=.int .i64 (m:Int):=hF 1 (by decide);have f2:vals 2=.int .i64 (k:Int):=hF 2 (by decide);have f3:vals 3=.slice (some ⟨g1,0,none⟩) n1 n1:=hF 3 (by decide);have f4:vals 4=.int .i64 x:=hF 4 (by decide);have f5:∃q,(vals 5)=.int .i64 q:=hF 5 (by decide);have f6:∃A c l,(vals 6)=.slice A l.length c∧l.length≤c∧Some0 a1 l∧Kd.F Kd.string W (fun b=>b=g1) A l.length l:=hF 6 (by decide);have f7:vals 7=.slice (some ⟨g2,0,none⟩) n2 n2:=hF 7 (by decide);have f8:vals 8=.int .i64 x:=hF 8 (by decide);have f9:∃q,(vals 9)=.int .i64 q:=hF 9 (by decide);have f10:∃A c l,(vals 10)=.slice A l.length c∧l.length≤c∧Some0 a2 l∧Kd.F Kd.string W (fun b=>b=g2) A l.length l:=hF 10 (by decide);have f11:vals 11=(.slice (some ⟨g,0,none⟩) m cs):=hF 11 (by decide);have f12:vals 12=.int .i64 (m:Int):=hF 12 (by decide);have f13:vals 13=.int .i64 (k:Int):=hF 13 (by decide);have f14:vals 14=.pointer (some ⟨g,k*4,none⟩):=hF 14 (by decide);have f15:vals 15=.agg #[.int .i64 y.f0,.slice B1 y.f1.length d1,.slice B2 y.f2.length d2,.slice B3 y.f3.length d3]:=hF 15 (by decide);have f16:∃gl,(vals 16)=.slice (some ⟨gl,0,none⟩) 1 1∧Y.heap.size≤gl∧W.heap[gl]?=some (.cells #[.int .i64 y.f0,.slice B1 y.f1.length d1,.slice B2 y.f2.length d2,.slice B3 y.f3.length d3] 73 (0,0)):=hF 16 (by decide);have f17:vals 17=.agg #[.int .i64 3,(vals 6),(vals 10),(vals 16)]:=hF 17 (by decide);clear hF hR0;rw[show List.range 18=[0,1,2,3,4,5,6,7,8,9,10,11,12,13,14,15,16,17]from rfl];simp only[Zan,Zah,Act.put,List.getElem?_toArray,List.getElem?_cons_zero,List.getElem?_cons_succ,Option.bind_some,List.setIfInBounds_toArray,List.set_cons_zero,List.set_cons_succ,List.drop_succ_cons,List.drop_zero,f0,f1,f2,f3,f4,f7,f8,f11,f12,f13,f14,f15,f17];obtain⟨A1,c1,l1,f6,hc1,hs1,hf1⟩:=f6;obtain⟨A2,c2,l2,f10,hc2,hs2,hf2⟩:=f10;obtain⟨gl,f16,hgl,kl⟩:=f16;obtain⟨q5,f5⟩:=f5;obtain⟨q9,f9⟩:=f9;rw[f6,f10,f16]at f17;have HNW:=Zrw.mk (Kd.N_below HN.out hR);have HBW:=Zrw.mk (Zae HB.out hR);have HCW:=Zrw.mk (fun (jj:Nat) (u:Value) hu=>Zad hR (HCC.out jj u hu));have HKW:Zrw (Kd.FK k76 W (fun b=>Okp g0 g1 g2 X.heap.size b∧b≠g) (⟨3,l1,l2,[y]⟩:S76) [.int .i64 3,.slice A1 l1.length c1,.slice A2 l2.length c2,.slice (some ⟨gl,0,none⟩) 1 1]):=
         ⟨Zro hc1 (Kd.F_mono hf1 (fun b hb=>⟨by rw[hb];exact HO1.out,fun h=>by have:=HG1.out;have:=HGX.out;omega⟩)) hc2 (Kd.F_mono hf2 (fun b hb=>⟨by rw[hb];exact HO2.out,fun h=>by have:=HG2.out;have:=HGX.out;omega⟩)) (Zdy kl ⟨HF8.out _ (Nat.le_trans HB.out.size hgl),fun h=>by have:=HGY.out;omega⟩ (Kd.FK_below HEL.out hR))⟩
        have HW7:Zrw (PcsAt a0 a1 a2 (i+1) (xs.set (k:Int).toNat ⟨3,l1,l2,[y]⟩)):=⟨by
         have e1:=HXL.out;have e2:=HMK.out;have e3:xs.length-1=k:=by omega
         have hp:=HP.out.wrap (x:=⟨3,l1,l2,[y]⟩) (by omega) (fun D n h=>.inr (.inr (.inl ⟨rfl,hs1,hs2,_,n,rfl,by rw[e3]at h;rw[HY.out];exact h,by omega⟩)));rw[e3]at hp;rw[Int.toNat_natCast];exact hp⟩
        simp only[f6,f10,f16,f5,f9,f17];clear hc1 hs1 hf1 hc2 hs2 hf2 hgl kl;have hkm2:(k:Int)<m:=by have:=HKM.out;omega
        have fr1:W.frozen? ⟨g,k*4,none⟩=false:=by rw[World.frozen?_of_block (hR.block g HGY.out)];exact FR0.out
        clear hR
        go_wp2_with ((with_reducible refine Zbb (t:=73) (p:=143) rfl ?_);refine Kd.N_store k76 (w0:=X) X.heap.size rfl rfl 73 (.tmp 143) (.tmp 142) rfl 73 (k:Int) 0 xs ⟨3,l1,l2,[y]⟩ (.agg #[.int .i64 3,.slice A1 l1.length c1,.slice A2 l2.length c2,.slice (some ⟨gl,0,none⟩) 1 1]) [.int .i64 3,.slice A1 l1.length c1,.slice A2 l2.length c2,.slice (some ⟨gl,0,none⟩) 1 1] [.int .i64 y.f0,.slice B1 y.f1.length d1,.slice B2 y.f2.length d2,.slice B3 y.f3.length d3] (Okp g0 g1 g2 X.heap.size) (fun b=>Okp g0 g1 g2 X.heap.size b∧b≠g) rfl ?sO rfl rfl rfl ?s1 HNW.out ?s2 ?s3 rfl ?s4 ?s5 ?s6 (fun _ h=>h) HBW.out ?_;(case sO=>rfl);(case s1=>first | decide | (intro q hq2;simp at hq2;rcases hq2 with rfl | rfl | rfl | rfl <;> rfl));(case s2=>omega);(case s3=>omega);(case s4=>intro j u hu;exact HCW.out j u hu);(case s5=>exact Nat.le_refl 4);(case s6=>exact HKW.out);intro w6 ho6 hb6 hg6;have HN6:=Zrw.mk ho6;have HB6:=Zrw.mk hb6;clear ho6 hb6 hg6)
        go_roundw
        case rel=>exact⟨i+1,_,by omega,by omega,by simp,HW7,HN6,HB6⟩
        case measure=>show ls.length-((i:Int)+1).toNat<ls.length-(i:Int).toNat;omega)
    have c8:c=8∨c=9∨c=10:=by omega
    clear c3 c4 clt c5 c6 c7;by_cases m1x:m<2
    ·obtain rfl:m=1:=by omega
     obtain rfl:k=0:=by omega
     clear hmz hmp m1x;rw[show 0*4=0 from rfl]at x0 x1 x2 x3 fr0
     rcases c8 with rfl | rfl | rfl
     ·as_aux_lemma=>
       clear hm HPK0 HPK1 HPK2
       go_upto_region 16 with fail
       clear hcx;have HLY:=Zrw.mk (Zaj Y (.cells #[.int .i64 y.f0,.slice B1 y.f1.length d1,.slice B2 y.f2.length d2,.slice B3 y.f3.length d3] 73));have HNL:=Zrw.mk (Kd.N_alloc HN.out (.cells #[.int .i64 y.f0,.slice B1 y.f1.length d1,.slice B2 y.f2.length d2,.slice B3 y.f3.length d3] 73));have HBL:=Zrw.mk (Zab HB.out (.cells #[.int .i64 y.f0,.slice B1 y.f1.length d1,.slice B2 y.f2.length d2,.slice B3 y.f3.length d3] 73));have HBZ:=Zrw.mk (Zab (Below.refl _ Y) (.cells #[.int .i64 y.f0,.slice B1 y.f1.length d1,.slice B2 y.f2.length d2,.slice B3 y.f3.length d3] 73));have HW7:Zrw (PcsAt a0 a1 a2 (i+1) (xs.set ((0:Nat):Int).toNat ⟨7,[],[],[y]⟩)):=⟨by
        have e1:=HXL.out;have e2:=HMK.out;have e3:xs.length-1=0:=by omega
        have hp:=HP.out.wrap (x:=⟨7,[],[],[y]⟩) (by omega) (fun D n h=>.inr (.inr (.inr (.inl ⟨rfl,rfl,rfl,_,n,rfl,by rw[e3]at h;rw[HY.out];exact h,by omega⟩))));rw[e3]at hp;rw[Int.toNat_natCast];exact hp⟩
       go_wp2_with ((with_reducible refine Zbb (t:=73) (p:=117) rfl ?_);refine Kd.N_store k76 (w0:=X) X.heap.size rfl rfl 73 (.tmp 117) (.tmp 116) rfl 73 ((0:Nat):Int) 0 xs ⟨7,[],[],[y]⟩ (.agg #[.int .i64 7,.slice none 0 0,.slice none 0 0,.slice (some ⟨Y.heap.size,0,none⟩) 1 1]) [.int .i64 7,.slice none 0 0,.slice none 0 0,.slice (some ⟨Y.heap.size,0,none⟩) 1 1] [.int .i64 y.f0,.slice B1 y.f1.length d1,.slice B2 y.f2.length d2,.slice B3 y.f3.length d3] (Okp g0 g1 g2 X.heap.size) (fun b=>Okp g0 g1 g2 X.heap.size b∧b≠g) rfl ?sO rfl rfl rfl ?s1 HNL.out ?s2 ?s3 rfl ?s4 ?s5 ?s6 (fun _ h=>h) HBL.out ?_;(case sO=>rfl);(case s1=>first | decide | (intro q hq2;simp at hq2;rcases hq2 with rfl | rfl | rfl | rfl <;> rfl));(case s2=>omega);(case s3=>omega);(case s4=>intro j u hu;exact Zad HBZ.out (HCC.out j u hu));(case s5=>exact Nat.le_refl 4);(case s6=>exact Zjo 7 (Zdy HLY.out ⟨HF8.out _ HB.out.size,fun h=>by have:=HGY.out;omega⟩ (Kd.FK_below HEL.out HBZ.out)));intro w6 ho6 hb6 hg6;have HN6:=Zrw.mk ho6;have HB6:=Zrw.mk hb6;clear ho6 hb6 hg6)
       go_roundw
       case rel=>exact⟨i+1,_,by omega,by omega,by simp,HW7,HN6,HB6⟩
       case measure=>show ls.length-((i:Int)+1).toNat<ls.length-(i:Int).toNat;omega
     ·as_aux_lemma=>
       clear hm HPK0 HPK1 HPK2
       go_upto_region 16 with fail
       clear hcx;have HLY:=Zrw.mk (Zaj Y (.cells #[.int .i64 y.f0,.slice B1 y.f1.length d1,.slice B2 y.f2.length d2,.slice B3 y.f3.length d3] 73));have HNL:=Zrw.mk (Kd.N_alloc HN.out (.cells #[.int .i64 y.f0,.slice B1 y.f1.length d1,.slice B2 y.f2.length d2,.slice B3 y.f3.length d3] 73));have HBL:=Zrw.mk (Zab HB.out (.cells #[.int .i64 y.f0,.slice B1 y.f1.length d1,.slice B2 y.f2.length d2,.slice B3 y.f3.length d3] 73));have HBZ:=Zrw.mk (Zab (Below.refl _ Y) (.cells #[.int .i64 y.f0,.slice B1 y.f1.length d1,.slice B2 y.f2.length d2,.slice B3 y.f3.length d3] 73));have HW7:Zrw (PcsAt a0 a1 a2 (i+1) (xs.set ((0:Nat):Int).toNat ⟨7,[],[],[y]⟩)):=⟨by
        have e1:=HXL.out;have e2:=HMK.out;have e3:xs.length-1=0:=by omega
        have hp:=HP.out.wrap (x:=⟨7,[],[],[y]⟩) (by omega) (fun D n h=>.inr (.inr (.inr (.inl ⟨rfl,rfl,rfl,_,n,rfl,by rw[e3]at h;rw[HY.out];exact h,by omega⟩))));rw[e3]at hp;rw[Int.toNat_natCast];exact hp⟩
       go_wp2_with ((with_reducible refine Zbb (t:=73) (p:=117) rfl ?_);refine Kd.N_store k76 (w0:=X) X.heap.size rfl rfl 73 (.tmp 117) (.tmp 116) rfl 73 ((0:Nat):Int) 0 xs ⟨7,[],[],[y]⟩ (.agg #[.int .i64 7,.slice none 0 0,.slice none 0 0,.slice (some ⟨Y.heap.size,0,none⟩) 1 1]) [.int .i64 7,.slice none 0 0,.slice none 0 0,.slice (some ⟨Y.heap.size,0,none⟩) 1 1] [.int .i64 y.f0,.slice B1 y.f1.length d1,.slice B2 y.f2.length d2,.slice B3 y.f3.length d3] (Okp g0 g1 g2 X.heap.size) (fun b=>Okp g0 g1 g2 X.heap.size b∧b≠g) rfl ?sO rfl rfl rfl ?s1 HNL.out ?s2 ?s3 rfl ?s4 ?s5 ?s6 (fun _ h=>h) HBL.out ?_;(case sO=>rfl);(case s1=>first | decide | (intro q hq2;simp at hq2;rcases hq2 with rfl | rfl | rfl | rfl <;> rfl));(case s2=>omega);(case s3=>omega);(case s4=>intro j u hu;exact Zad HBZ.out (HCC.out j u hu));(case s5=>exact Nat.le_refl 4);(case s6=>exact Zjo 7 (Zdy HLY.out ⟨HF8.out _ HB.out.size,fun h=>by have:=HGY.out;omega⟩ (Kd.FK_below HEL.out HBZ.out)));intro w6 ho6 hb6 hg6;have HN6:=Zrw.mk ho6;have HB6:=Zrw.mk hb6;clear ho6 hb6 hg6)
       go_roundw
       case rel=>exact⟨i+1,_,by omega,by omega,by simp,HW7,HN6,HB6⟩
       case measure=>show ls.length-((i:Int)+1).toNat<ls.length-(i:Int).toNat;omega
     ·as_aux_lemma=>
       clear hm HPK0 HPK1 HPK2
       go_upto_region 16 with fail
       clear hcx;have HLY:=Zrw.mk (Zaj Y (.cells #[.int .i64 y.f0,.slice B1 y.f1.length d1,.slice B2 y.f2.length d2,.slice B3 y.f3.length d3] 73));have HNL:=Zrw.mk (Kd.N_alloc HN.out (.cells #[.int .i64 y.f0,.slice B1 y.f1.length d1,.slice B2 y.f2.length d2,.slice B3 y.f3.length d3] 73));have HBL:=Zrw.mk (Zab HB.out (.cells #[.int .i64 y.f0,.slice B1 y.f1.length d1,.slice B2 y.f2.length d2,.slice B3 y.f3.length d3] 73));have HBZ:=Zrw.mk (Zab (Below.refl _ Y) (.cells #[.int .i64 y.f0,.slice B1 y.f1.length d1,.slice B2 y.f2.length d2,.slice B3 y.f3.length d3] 73));have HW7:Zrw (PcsAt a0 a1 a2 (i+1) (xs.set ((0:Nat):Int).toNat ⟨7,[],[],[y]⟩)):=⟨by
        have e1:=HXL.out;have e2:=HMK.out;have e3:xs.length-1=0:=by omega
        have hp:=HP.out.wrap (x:=⟨7,[],[],[y]⟩) (by omega) (fun D n h=>.inr (.inr (.inr (.inl ⟨rfl,rfl,rfl,_,n,rfl,by rw[e3]at h;rw[HY.out];exact h,by omega⟩))));rw[e3]at hp;rw[Int.toNat_natCast];exact hp⟩
       go_wp2_with ((with_reducible refine Zbb (t:=73) (p:=117) rfl ?_);refine Kd.N_store k76 (w0:=X) X.heap.size rfl rfl 73 (.tmp 117) (.tmp 116) rfl 73 ((0:Nat):Int) 0 xs ⟨7,[],[],[y]⟩ (.agg #[.int .i64 7,.slice none 0 0,.slice none 0 0,.slice (some ⟨Y.heap.size,0,none⟩) 1 1]) [.int .i64 7,.slice none 0 0,.slice none 0 0,.slice (some ⟨Y.heap.size,0,none⟩) 1 1] [.int .i64 y.f0,.slice B1 y.f1.length d1,.slice B2 y.f2.length d2,.slice B3 y.f3.length d3] (Okp g0 g1 g2 X.heap.size) (fun b=>Okp g0 g1 g2 X.heap.size b∧b≠g) rfl ?sO rfl rfl rfl ?s1 HNL.out ?s2 ?s3 rfl ?s4 ?s5 ?s6 (fun _ h=>h) HBL.out ?_;(case sO=>rfl);(case s1=>first | decide | (intro q hq2;simp at hq2;rcases hq2 with rfl | rfl | rfl | rfl <;> rfl));(case s2=>omega);(case s3=>omega);(case s4=>intro j u hu;exact Zad HBZ.out (HCC.out j u hu));(case s5=>exact Nat.le_refl 4);(case s6=>exact Zjo 7 (Zdy HLY.out ⟨HF8.out _ HB.out.size,fun h=>by have:=HGY.out;omega⟩ (Kd.FK_below HEL.out HBZ.out)));intro w6 ho6 hb6 hg6;have HN6:=Zrw.mk ho6;have HB6:=Zrw.mk hb6;clear ho6 hb6 hg6)
       go_roundw
       case rel=>exact⟨i+1,_,by omega,by omega,by simp,HW7,HN6,HB6⟩
       case measure=>show ls.length-((i:Int)+1).toNat<ls.length-(i:Int).toNat;omega
    obtain⟨j,hjm⟩:∃j,m=j+2:=⟨m-2,by omega⟩
    have hkj:k=j+1:=by have:=HMK.out;omega
    have HJ2:Zrw (m=j+2):=⟨hjm⟩
    have HJM:Zrw (j<m):=⟨by omega⟩
    have HKM:Zrw (k<m):=⟨by omega⟩
    have HCS:Zrw (m≤cs):=⟨(Kd.N_reads' HN.out).2.1⟩
    have HQ:Zrw (IntKind.i64.wrap ((m:Int)-1)=k):=⟨by have:=HMK.out;have:=HLX.out;have:=HXL.out;rw[IntKind.wrap_i64];omega⟩
    have HQ2:Zrw (IntKind.i64.wrap ((m:Int)-2)=j):=⟨by have:=HLX.out;have:=HXL.out;rw[IntKind.wrap_i64];omega⟩
    obtain⟨el2,_,q2,q3,_⟩:=Kd.N_elem HN.out z76 (j:Int) (by omega) (by omega);rw[Int.toNat_natCast]at q2 q3;obtain⟨C1,b1,C2,b2,C3,b3,rfl,_⟩:=Zbj (Kd.FK_now q2);have HEL2:=Zrw.mk q2;obtain⟨u,hu⟩:∃u,u=xs.getD j z76:=⟨_,rfl⟩
    have HU:=Zrw.mk hu;rw[←hu]at HEL2 q3;have X0:Zrw (Y.cell? ⟨g,j*4,none⟩=some (.int .i64 u.f0)):=⟨q3 0 _ rfl⟩
    have X1:Zrw (Y.cell? ⟨g,j*4+1,none⟩=some (.slice C1 u.f1.length b1)):=⟨q3 1 _ rfl⟩
    have X2:Zrw (Y.cell? ⟨g,j*4+2,none⟩=some (.slice C2 u.f2.length b2)):=⟨q3 2 _ rfl⟩
    have X3:Zrw (Y.cell? ⟨g,j*4+3,none⟩=some (.slice C3 u.f3.length b3)):=⟨q3 3 _ rfl⟩
    have Y0:=Zrw.mk x0;have Y1:=Zrw.mk x1;have Y2:=Zrw.mk x2;have Y3:=Zrw.mk x3;clear q2 q3 hu hm hcx HPK0 HPK1 HPK2 hjm hkj
    rcases c8 with rfl | rfl | rfl
    ·go_upto_region 20 with fail
     clear hq x0 x1 x2 x3 fr0 m1x hkm hmz hmp;refine Zba 19 _ Zas (Zou (.slice (some ⟨g,0,none⟩) m cs) m j k g #[.int .i64 u.f0,.slice C1 u.f1.length b1,.slice C2 u.f2.length b2,.slice C3 u.f3.length b3] #[.int .i64 y.f0,.slice B1 y.f1.length d1,.slice B2 y.f2.length d2,.slice B3 y.f3.length d3] #[.int .i64 u.f0,.slice C1 u.f1.length b1,.slice C2 u.f2.length b2,.slice C3 u.f3.length b3,.int .i64 y.f0,.slice B1 y.f1.length d1,.slice B2 y.f2.length d2,.slice B3 y.f3.length d3] Y.heap.size) Zca (by kernel_rfl) (by kernel_rfl) (by kernel_rfl) rfl Zbh Zbc (Zkl _ _ _ _ _ _ _ _ _) ?step ?fin
     case step=>
      repeat (rename_i z;clear z)
      refine⟨?_,?_,?_,?_,?_,?_,?_,?_,?_,?_,?_,?_,?_,?_,?_,?_,?_,?_,?_,trivial⟩ <;> intro vals W hR0 hd <;> have hR:=Zae (Zao (Below.refl _ Y)) hR0
      ·refine Zac (W':=W) ?_ ⟨Zbr,rfl⟩
       clear hd;simp only[Zan,Zas,Zah];go_simp
      ·refine Zac (W':=W) ?_ ⟨Zbr,rfl⟩
       clear hd;simp only[Zan,Zas,Zah];go_simp
      ·have h1:vals 1=.int .i64 (m:Int):=hd 1 (by simp[Zas]);have hq2:IntKind.i64.wrap ((m:Int)-2)=j:=HQ2.out;refine Zac (W':=W) ?_ ⟨Zbr,rfl⟩
       clear hd;simp only[Zan,Zas,Zah,h1];go_simp
      ·refine Zac (W':=W) ?_ ⟨Zbr,rfl⟩
       clear hd;simp only[Zan,Zas,Zah];go_simp
      ·have h3:vals 3=.int .i64 (m:Int):=hd 3 (by simp[Zas]);have hq2:IntKind.i64.wrap ((m:Int)-2)=j:=HQ2.out;refine Zac (W':=W) ?_ ⟨Zbr,rfl⟩
       clear hd;simp only[Zan,Zas,Zah,h3];go_simp
      ·have h0:vals 0=(.slice (some ⟨g,0,none⟩) m cs):=hd 0 (by simp[Zas]);have h2:vals 2=.int .i64 (j:Int):=hd 2 (by simp[Zas]);have h4:vals 4=.int .i64 (j:Int):=hd 4 (by simp[Zas]);have hjm:=HJM.out;have hkm2:=HKM.out;have hjc:¬cs<j:=by have:=HCS.out;omega
       refine Zac (W':=W) ?_ ⟨Zbr,rfl⟩
       clear hd;simp only[Zan,Zas,Zah,h0,h2,h4];go_simp
      ·refine Zac (W':=W) ?_ ⟨Zbr,rfl⟩
       clear hd;simp only[Zan,Zas,Zah];go_simp
      ·refine Zac (W':=W) ?_ ⟨Zbr,rfl⟩
       clear hd;simp only[Zan,Zas,Zah];go_simp
      ·have h7:vals 7=.int .i64 (m:Int):=hd 7 (by simp[Zas]);have hq2:IntKind.i64.wrap ((m:Int)-2)=j:=HQ2.out;refine Zac (W':=W) ?_ ⟨Zbr,rfl⟩
       clear hd;simp only[Zan,Zas,Zah,h7];go_simp
      ·have h6:vals 6=(.slice (some ⟨g,0,none⟩) m cs):=hd 6 (by simp[Zas]);have h8:vals 8=.int .i64 (j:Int):=hd 8 (by simp[Zas]);have hjm:=HJM.out;have hkm2:=HKM.out;have hjc:¬cs<j:=by have:=HCS.out;omega
       refine Zac (W':=W) ?_ ⟨Zbr,rfl⟩
       clear hd;simp only[Zan,Zas,Zah,h6,h8];go_simp
      ·have h9:vals 9=.pointer (some ⟨g,j*4,none⟩):=hd 9 (by simp[Zas]);have x0b:=Zad hR X0.out;have x1b:=Zad hR X1.out;have x2b:=Zad hR X2.out;have x3b:=Zad hR X3.out;refine Zac (W':=W) ?_ ⟨Zbr,rfl⟩
       clear hd;simp only[Zan,Zas,Zah,h9];go_simp
      ·refine Zac (W':=W) ?_ ⟨Zbr,rfl⟩
       clear hd;simp only[Zan,Zas,Zah];go_simp
      ·refine Zac (W':=W) ?_ ⟨Zbr,rfl⟩
       clear hd;simp only[Zan,Zas,Zah];go_simp
      ·have h12:vals 12=.int .i64 (m:Int):=hd 12 (by simp[Zas]);have hq:IntKind.i64.wrap ((m:Int)-1)=k:=HQ.out;refine Zac (W':=W) ?_ ⟨Zbr,rfl⟩
       clear hd;simp only[Zan,Zas,Zah,h12];go_simp
      ·have h11:vals 11=(.slice (some ⟨g,0,none⟩) m cs):=hd 11 (by simp[Zas]);have h13:vals 13=.int .i64 (k:Int):=hd 13 (by simp[Zas]);have hjm:=HJM.out;have hkm2:=HKM.out;have hjc:¬cs<j:=by have:=HCS.out;omega
       refine Zac (W':=W) ?_ ⟨Zbr,rfl⟩
       clear hd;simp only[Zan,Zas,Zah,h11,h13];go_simp
      ·have h14:vals 14=.pointer (some ⟨g,k*4,none⟩):=hd 14 (by simp[Zas]);have x0b:=Zad hR Y0.out;have x1b:=Zad hR Y1.out;have x2b:=Zad hR Y2.out;have x3b:=Zad hR Y3.out;refine Zac (W':=W) ?_ ⟨Zbr,rfl⟩
       clear hd;simp only[Zan,Zas,Zah,h14];go_simp
      ·have h10:vals 10=.agg #[.int .i64 u.f0,.slice C1 u.f1.length b1,.slice C2 u.f2.length b2,.slice C3 u.f3.length b3]:=hd 10 (by simp[Zas]);have h15:vals 15=.agg #[.int .i64 y.f0,.slice B1 y.f1.length d1,.slice B2 y.f2.length d2,.slice B3 y.f3.length d3]:=hd 15 (by simp[Zas]);clear hd;refine Zac (W':=W.alloc (.cells #[.int .i64 u.f0,.slice C1 u.f1.length b1,.slice C2 u.f2.length b2,.slice C3 u.f3.length b3,.int .i64 y.f0,.slice B1 y.f1.length d1,.slice B2 y.f2.length d2,.slice B3 y.f3.length d3] 73)) (v:=.slice (some ⟨W.heap.size,0,none⟩) 2 2) ?_ ⟨Zab Zbr _,W.heap.size,rfl,hR.size,Zaj W _⟩
       simp only[Zan,Zas,Zah,h10,h15];go_simp
      ·have h16:∃gl,(vals 16)=.slice (some ⟨gl,0,none⟩) 2 2∧Y.heap.size≤gl∧W.heap[gl]?=some (.cells #[.int .i64 u.f0,.slice C1 u.f1.length b1,.slice C2 u.f2.length b2,.slice C3 u.f3.length b3,.int .i64 y.f0,.slice B1 y.f1.length d1,.slice B2 y.f2.length d2,.slice B3 y.f3.length d3] 73 (0,0)):=hd 16 (by simp[Zas]);obtain⟨gl,e16,hg16,hk16⟩:=h16;clear hd;refine Zac (W':=W) (v:=.agg #[.int .i64 5,.slice none 0 0,.slice none 0 0,.slice (some ⟨gl,0,none⟩) 2 2]) ?_ ⟨Zbr,gl,rfl,hg16,hk16⟩
       simp only[Zan,Zas,Zah,e16];go_simp
      ·have h17:∃gl,(vals 17)=.agg #[.int .i64 5,.slice none 0 0,.slice none 0 0,.slice (some ⟨gl,0,none⟩) 2 2]∧Y.heap.size≤gl∧W.heap[gl]?=some (.cells #[.int .i64 u.f0,.slice C1 u.f1.length b1,.slice C2 u.f2.length b2,.slice C3 u.f3.length b3,.int .i64 y.f0,.slice B1 y.f1.length d1,.slice B2 y.f2.length d2,.slice B3 y.f3.length d3] 73 (0,0)):=hd 17 (by simp[Zas]);obtain⟨gl,e17,hg17,hk17⟩:=h17;clear hd;refine Zac (W':=W.alloc (.cells #[.int .i64 5,.slice none 0 0,.slice none 0 0,.slice (some ⟨gl,0,none⟩) 2 2] 73)) (v:=.slice (some ⟨W.heap.size,0,none⟩) 1 1) ?_ ⟨Zab Zbr _,gl,W.heap.size,rfl,hg17,hR.size,Zai hk17 _,Zaj W _⟩
       simp only[Zan,Zas,Zah,e17];go_simp
     case fin=>
      intro vals W hR0 hF;have hR:=Zae (Zao (Below.refl _ Y)) hR0;have f0:vals 0=(.slice (some ⟨g,0,none⟩) m cs):=hF 0 (by decide);have f1:vals 1=.int .i64 (m:Int):=hF 1 (by decide);have f2:vals 2=.int .i64 (j:Int):=hF 2 (by decide);have f3:vals 3=.int .i64 (m:Int):=hF 3 (by decide);have f4:vals 4=.int .i64 (j:Int):=hF 4 (by decide);have f5:vals 5=.slice (some ⟨g,0,none⟩) j j:=hF 5 (by decide);have f6:vals 6=(.slice (some ⟨g,0,none⟩) m cs):=hF 6 (by decide);have f7:vals 7=.int .i64 (m:Int):=hF 7 (by decide);have f8:vals 8=.int .i64 (j:Int):=hF 8 (by decide);have f9:vals 9=.pointer (some ⟨g,j*4,none⟩):=hF 9 (by decide);have f10:vals 10=.agg #[.int .i64 u.f0,.slice C1 u.f1.length b1,.slice C2 u.f2.length b2,.slice C3 u.f3.length b3]:=hF 10 (by decide);have f11:vals 11=(.slice (some ⟨g,0,none⟩) m cs):=hF 11 (by decide);have f12:vals 12=.int .i64 (m:Int):=hF 12 (by decide);have f13:vals 13=.int .i64 (k:Int):=hF 13 (by decide);have f14:vals 14=.pointer (some ⟨g,k*4,none⟩):=hF 14 (by decide);have f15:vals 15=.agg #[.int .i64 y.f0,.slice B1 y.f1.length d1,.slice B2 y.f2.length d2,.slice B3 y.f3.length d3]:=hF 15 (by decide);have f16:∃gl,(vals 16)=.slice (some ⟨gl,0,none⟩) 2 2∧Y.heap.size≤gl∧W.heap[gl]?=some (.cells #[.int .i64 u.f0,.slice C1 u.f1.length b1,.slice C2 u.f2.length b2,.slice C3 u.f3.length b3,.int .i64 y.f0,.slice B1 y.f1.length d1,.slice B2 y.f2.length d2,.slice B3 y.f3.length d3] 73 (0,0)):=hF 16 (by decide);have f17:∃gl,(vals 17)=.agg #[.int .i64 5,.slice none 0 0,.slice none 0 0,.slice (some ⟨gl,0,none⟩) 2 2]∧Y.heap.size≤gl∧W.heap[gl]?=some (.cells #[.int .i64 u.f0,.slice C1 u.f1.length b1,.slice C2 u.f2.length b2,.slice C3 u.f3.length b3,.int .i64 y.f0,.slice B1 y.f1.length d1,.slice B2 y.f2.length d2,.slice B3 y.f3.length d3] 73 (0,0)):=hF 17 (by decide);have f18:∃gl g2,(vals 18)=.slice (some ⟨g2,0,none⟩) 1 1∧Y.heap.size≤gl∧Y.heap.size≤g2∧W.heap[gl]?=some (.cells #[.int .i64 u.f0,.slice C1 u.f1.length b1,.slice C2 u.f2.length b2,.slice C3 u.f3.length b3,.int .i64 y.f0,.slice B1 y.f1.length d1,.slice B2 y.f2.length d2,.slice B3 y.f3.length d3] 73 (0,0))∧W.heap[g2]?=some (.cells #[.int .i64 5,.slice none 0 0,.slice none 0 0,.slice (some ⟨gl,0,none⟩) 2 2] 73 (0,0)):=hF 18 (by decide);clear hF hR0;rw[show List.range 19=[0,1,2,3,4,5,6,7,8,9,10,11,12,13,14,15,16,17,18]from rfl];simp only[Zan,Zah,Act.put,List.getElem?_toArray,List.getElem?_cons_zero,List.getElem?_cons_succ,Option.bind_some,List.setIfInBounds_toArray,List.set_cons_zero,List.set_cons_succ,List.drop_succ_cons,List.drop_zero,f0,f1,f2,f3,f4,f5,f6,f7,f8,f9,f10,f11,f12,f13,f14,f15];obtain⟨_,e16,_,_⟩:=f16;obtain⟨_,e17,_,_⟩:=f17;obtain⟨gl,gt2,e18,hgl,hg2,hk1,hk2⟩:=f18;have HNW:=Zrw.mk (Kd.N_below HN.out hR);have HBW:=Zrw.mk (Zae HB.out hR);have HOW:Zrw (Kd.F k76 W (Okp g0 g1 g2 X.heap.size) (some ⟨g,0,none⟩) j (xs.take j)):=⟨Kd.N_F (Kd.N_take HNW.out (by have:=HJM.out;have:=HXL.out;omega))⟩
      have HRW:Zrw (Kd.F k76 W (Okp g0 g1 g2 X.heap.size) (some ⟨gt2,0,none⟩) 1 [(⟨5,[],[],[u,y]⟩:S76)]):=
       ⟨Zdy (cs:=[.int .i64 5,.slice none 0 0,.slice none 0 0,.slice (some ⟨gl,0,none⟩) 2 2]) hk2 (HF8.out _ (Nat.le_trans HB.out.size hg2)) (Zhr 5 (Zjb (c1:=[.int .i64 u.f0,.slice C1 u.f1.length b1,.slice C2 u.f2.length b2,.slice C3 u.f3.length b3]) (c2:=[.int .i64 y.f0,.slice B1 y.f1.length d1,.slice B2 y.f2.length d2,.slice B3 y.f3.length d3]) hk1 (HF8.out _ (Nat.le_trans HB.out.size hgl)) (Kd.FK_mono (Kd.FK_below HEL2.out hR) (fun _ h=>h.1)) (Kd.FK_mono (Kd.FK_below HEL.out hR) (fun _ h=>h.1))))⟩
      have HP7:Zrw (PcsAt a0 a1 a2 (i+1) (xs.take j++[(⟨5,[],[],[u,y]⟩:S76)])):=⟨by
       have e1:xs.length-2=j:=by have:=HXL.out;have:=HJ2.out;omega
       have e2:xs.length-1=k:=by have:=HXL.out;have:=HMK.out;omega
       have hp:=HP.out.join (x:=⟨5,[],[],[u,y]⟩) (by have:=HXL.out;have:=HJ2.out;omega) (fun D n q h1 h2=>.inr (.inr (.inr (.inr ⟨.inl rfl,rfl,rfl,_,_,n,q,rfl,by rw[e1]at h1;rw[HU.out];exact h1,by rw[e2]at h2;rw[HY.out];exact h2,by omega⟩))));rw[e1]at hp;exact hp⟩
      simp only[e16,e17,e18];clear hR hgl hg2 hk1 hk2
      go_wp2_with ((with_reducible refine Zal (b:=.append) (xs:=#[.tmp 156,.tmp 169]) rfl ?_);at_builtin;refine Zea k76 (w0:=X) (W:=W) X.heap.size rfl (.tmp 156) (.tmp 169) 71 73 (.agg #[.int .i64 0,.slice none 0 0,.slice none 0 0,.slice none 0 0]) 80 rfl Tryz.underlying71 Zfm rfl (by omega) ⟨g,0,none⟩ ⟨gt2,0,none⟩ j 1 1 (xs.take j) [(⟨5,[],[],[u,y]⟩:S76)] (Okp g0 g1 g2 X.heap.size) (Okp g0 g1 g2 X.heap.size) rfl rfl (by omega) HOW.out HRW.out (fun _ h=>h) (HF8.out _ HBW.out.size) HBW.out HBW.out.size ?aL ?_;(case aL=>have:=HLX.out;have:=HJM.out;have:=HXL.out;omega);intro v6 w6 ho6 hb6;have HN6:=Zrw.mk ho6;have HB6:=Zrw.mk hb6;clear ho6 hb6)
      go_wp2
      go_roundw
      case rel=>exact⟨i+1,_,by omega,by omega,by simp,HP7,HN6,HB6⟩
      case measure=>show ls.length-((i:Int)+1).toNat<ls.length-(i:Int).toNat;omega
    ·go_upto_region 20 with fail
     clear hq x0 x1 x2 x3 fr0 m1x hkm hmz hmp;refine Zba 19 _ Zas (Zou (.slice (some ⟨g,0,none⟩) m cs) m j k g #[.int .i64 u.f0,.slice C1 u.f1.length b1,.slice C2 u.f2.length b2,.slice C3 u.f3.length b3] #[.int .i64 y.f0,.slice B1 y.f1.length d1,.slice B2 y.f2.length d2,.slice B3 y.f3.length d3] #[.int .i64 u.f0,.slice C1 u.f1.length b1,.slice C2 u.f2.length b2,.slice C3 u.f3.length b3,.int .i64 y.f0,.slice B1 y.f1.length d1,.slice B2 y.f2.length d2,.slice B3 y.f3.length d3] Y.heap.size) Zca (by kernel_rfl) (by kernel_rfl) (by kernel_rfl) rfl Zbh Zbc (Zkl _ _ _ _ _ _ _ _ _) ?step ?fin
     case step=>
      repeat (rename_i z;clear z)
      refine⟨?_,?_,?_,?_,?_,?_,?_,?_,?_,?_,?_,?_,?_,?_,?_,?_,?_,?_,?_,trivial⟩ <;> intro vals W hR0 hd <;> have hR:=Zae (Zao (Below.refl _ Y)) hR0
      ·refine Zac (W':=W) ?_ ⟨Zbr,rfl⟩
       clear hd;simp only[Zan,Zas,Zah];go_simp
      ·refine Zac (W':=W) ?_ ⟨Zbr,rfl⟩
       clear hd;simp only[Zan,Zas,Zah];go_simp
      ·have h1:vals 1=.int .i64 (m:Int):=hd 1 (by simp[Zas]);have hq2:IntKind.i64.wrap ((m:Int)-2)=j:=HQ2.out;refine Zac (W':=W) ?_ ⟨Zbr,rfl⟩
       clear hd;simp only[Zan,Zas,Zah,h1];go_simp
      ·refine Zac (W':=W) ?_ ⟨Zbr,rfl⟩
       clear hd;simp only[Zan,Zas,Zah];go_simp
      ·have h3:vals 3=.int .i64 (m:Int):=hd 3 (by simp[Zas]);have hq2:IntKind.i64.wrap ((m:Int)-2)=j:=HQ2.out;refine Zac (W':=W) ?_ ⟨Zbr,rfl⟩
       clear hd;simp only[Zan,Zas,Zah,h3];go_simp
      ·have h0:vals 0=(.slice (some ⟨g,0,none⟩) m cs):=hd 0 (by simp[Zas]);have h2:vals 2=.int .i64 (j:Int):=hd 2 (by simp[Zas]);have h4:vals 4=.int .i64 (j:Int):=hd 4 (by simp[Zas]);have hjm:=HJM.out;have hkm2:=HKM.out;have hjc:¬cs<j:=by have:=HCS.out;omega
       refine Zac (W':=W) ?_ ⟨Zbr,rfl⟩
       clear hd;simp only[Zan,Zas,Zah,h0,h2,h4];go_simp
      ·refine Zac (W':=W) ?_ ⟨Zbr,rfl⟩
       clear hd;simp only[Zan,Zas,Zah];go_simp
      ·refine Zac (W':=W) ?_ ⟨Zbr,rfl⟩
       clear hd;simp only[Zan,Zas,Zah];go_simp
      ·have h7:vals 7=.int .i64 (m:Int):=hd 7 (by simp[Zas]);have hq2:IntKind.i64.wrap ((m:Int)-2)=j:=HQ2.out;refine Zac (W':=W) ?_ ⟨Zbr,rfl⟩
       clear hd;simp only[Zan,Zas,Zah,h7];go_simp
      ·have h6:vals 6=(.slice (some ⟨g,0,none⟩) m cs):=hd 6 (by simp[Zas]);have h8:vals 8=.int .i64 (j:Int):=hd 8 (by simp[Zas]);have hjm:=HJM.out;have hkm2:=HKM.out;have hjc:¬cs<j:=by have:=HCS.out;omega
       refine Zac (W':=W) ?_ ⟨Zbr,rfl⟩
       clear hd;simp only[Zan,Zas,Zah,h6,h8];go_simp
      ·have h9:vals 9=.pointer (some ⟨g,j*4,none⟩):=hd 9 (by simp[Zas]);have x0b:=Zad hR X0.out;have x1b:=Zad hR X1.out;have x2b:=Zad hR X2.out;have x3b:=Zad hR X3.out;refine Zac (W':=W) ?_ ⟨Zbr,rfl⟩
       clear hd;simp only[Zan,Zas,Zah,h9];go_simp
      ·refine Zac (W':=W) ?_ ⟨Zbr,rfl⟩
       clear hd;simp only[Zan,Zas,Zah];go_simp
      ·refine Zac (W':=W) ?_ ⟨Zbr,rfl⟩
       clear hd;simp only[Zan,Zas,Zah];go_simp
      ·have h12:vals 12=.int .i64 (m:Int):=hd 12 (by simp[Zas]);have hq:IntKind.i64.wrap ((m:Int)-1)=k:=HQ.out;refine Zac (W':=W) ?_ ⟨Zbr,rfl⟩
       clear hd;simp only[Zan,Zas,Zah,h12];go_simp
      ·have h11:vals 11=(.slice (some ⟨g,0,none⟩) m cs):=hd 11 (by simp[Zas]);have h13:vals 13=.int .i64 (k:Int):=hd 13 (by simp[Zas]);have hjm:=HJM.out;have hkm2:=HKM.out;have hjc:¬cs<j:=by have:=HCS.out;omega
       refine Zac (W':=W) ?_ ⟨Zbr,rfl⟩
       clear hd;simp only[Zan,Zas,Zah,h11,h13];go_simp
      ·have h14:vals 14=.pointer (some ⟨g,k*4,none⟩):=hd 14 (by simp[Zas]);have x0b:=Zad hR Y0.out;have x1b:=Zad hR Y1.out;have x2b:=Zad hR Y2.out;have x3b:=Zad hR Y3.out;refine Zac (W':=W) ?_ ⟨Zbr,rfl⟩
       clear hd;simp only[Zan,Zas,Zah,h14];go_simp
      ·have h10:vals 10=.agg #[.int .i64 u.f0,.slice C1 u.f1.length b1,.slice C2 u.f2.length b2,.slice C3 u.f3.length b3]:=hd 10 (by simp[Zas]);have h15:vals 15=.agg #[.int .i64 y.f0,.slice B1 y.f1.length d1,.slice B2 y.f2.length d2,.slice B3 y.f3.length d3]:=hd 15 (by simp[Zas]);clear hd;refine Zac (W':=W.alloc (.cells #[.int .i64 u.f0,.slice C1 u.f1.length b1,.slice C2 u.f2.length b2,.slice C3 u.f3.length b3,.int .i64 y.f0,.slice B1 y.f1.length d1,.slice B2 y.f2.length d2,.slice B3 y.f3.length d3] 73)) (v:=.slice (some ⟨W.heap.size,0,none⟩) 2 2) ?_ ⟨Zab Zbr _,W.heap.size,rfl,hR.size,Zaj W _⟩
       simp only[Zan,Zas,Zah,h10,h15];go_simp
      ·have h16:∃gl,(vals 16)=.slice (some ⟨gl,0,none⟩) 2 2∧Y.heap.size≤gl∧W.heap[gl]?=some (.cells #[.int .i64 u.f0,.slice C1 u.f1.length b1,.slice C2 u.f2.length b2,.slice C3 u.f3.length b3,.int .i64 y.f0,.slice B1 y.f1.length d1,.slice B2 y.f2.length d2,.slice B3 y.f3.length d3] 73 (0,0)):=hd 16 (by simp[Zas]);obtain⟨gl,e16,hg16,hk16⟩:=h16;clear hd;refine Zac (W':=W) (v:=.agg #[.int .i64 5,.slice none 0 0,.slice none 0 0,.slice (some ⟨gl,0,none⟩) 2 2]) ?_ ⟨Zbr,gl,rfl,hg16,hk16⟩
       simp only[Zan,Zas,Zah,e16];go_simp
      ·have h17:∃gl,(vals 17)=.agg #[.int .i64 5,.slice none 0 0,.slice none 0 0,.slice (some ⟨gl,0,none⟩) 2 2]∧Y.heap.size≤gl∧W.heap[gl]?=some (.cells #[.int .i64 u.f0,.slice C1 u.f1.length b1,.slice C2 u.f2.length b2,.slice C3 u.f3.length b3,.int .i64 y.f0,.slice B1 y.f1.length d1,.slice B2 y.f2.length d2,.slice B3 y.f3.length d3] 73 (0,0)):=hd 17 (by simp[Zas]);obtain⟨gl,e17,hg17,hk17⟩:=h17;clear hd;refine Zac (W':=W.alloc (.cells #[.int .i64 5,.slice none 0 0,.slice none 0 0,.slice (some ⟨gl,0,none⟩) 2 2] 73)) (v:=.slice (some ⟨W.heap.size,0,none⟩) 1 1) ?_ ⟨Zab Zbr _,gl,W.heap.size,rfl,hg17,hR.size,Zai hk17 _,Zaj W _⟩
       simp only[Zan,Zas,Zah,e17];go_simp
     case fin=>
      intro vals W hR0 hF;have hR:=Zae (Zao (Below.refl _ Y)) hR0;have f0:vals 0=(.slice (some ⟨g,0,none⟩) m cs):=hF 0 (by decide);have f1:vals 1=.int .i64 (m:Int):=hF 1 (by decide);have f2:vals 2=.int .i64 (j:Int):=hF 2 (by decide);have f3:vals 3=.int .i64 (m:Int):=hF 3 (by decide);have f4:vals 4=.int .i64 (j:Int):=hF 4 (by decide);have f5:vals 5=.slice (some ⟨g,0,none⟩) j j:=hF 5 (by decide);have f6:vals 6=(.slice (some ⟨g,0,none⟩) m cs):=hF 6 (by decide);have f7:vals 7=.int .i64 (m:Int):=hF 7 (by decide);have f8:vals 8=.int .i64 (j:Int):=hF 8 (by decide);have f9:vals 9=.pointer (some ⟨g,j*4,none⟩):=hF 9 (by decide);have f10:vals 10=.agg #[.int .i64 u.f0,.slice C1 u.f1.length b1,.slice C2 u.f2.length b2,.slice C3 u.f3.length b3]:=hF 10 (by decide);have f11:vals 11=(.slice (some ⟨g,0,none⟩) m cs):=hF 11 (by decide);have f12:vals 12=.int .i64 (m:Int):=hF 12 (by decide);have f13:vals 13=.int .i64 (k:Int):=hF 13 (by decide);have f14:vals 14=.pointer (some ⟨g,k*4,none⟩):=hF 14 (by decide);have f15:vals 15=.agg #[.int .i64 y.f0,.slice B1 y.f1.length d1,.slice B2 y.f2.length d2,.slice B3 y.f3.length d3]:=hF 15 (by decide);have f16:∃gl,(vals 16)=.slice (some ⟨gl,0,none⟩) 2 2∧Y.heap.size≤gl∧W.heap[gl]?=some (.cells #[.int .i64 u.f0,.slice C1 u.f1.length b1,.slice C2 u.f2.length b2,.slice C3 u.f3.length b3,.int .i64 y.f0,.slice B1 y.f1.length d1,.slice B2 y.f2.length d2,.slice B3 y.f3.length d3] 73 (0,0)):=hF 16 (by decide);have f17:∃gl,(vals 17)=.agg #[.int .i64 5,.slice none 0 0,.slice none 0 0,.slice (some ⟨gl,0,none⟩) 2 2]∧Y.heap.size≤gl∧W.heap[gl]?=some (.cells #[.int .i64 u.f0,.slice C1 u.f1.length b1,.slice C2 u.f2.length b2,.slice C3 u.f3.length b3,.int .i64 y.f0,.slice B1 y.f1.length d1,.slice B2 y.f2.length d2,.slice B3 y.f3.length d3] 73 (0,0)):=hF 17 (by decide);have f18:∃gl g2,(vals 18)=.slice (some ⟨g2,0,none⟩) 1 1∧Y.heap.size≤gl∧Y.heap.size≤g2∧W.heap[gl]?=some (.cells #[.int .i64 u.f0,.slice C1 u.f1.length b1,.slice C2 u.f2.length b2,.slice C3 u.f3.length b3,.int .i64 y.f0,.slice B1 y.f1.length d1,.slice B2 y.f2.length d2,.slice B3 y.f3.length d3] 73 (0,0))∧W.heap[g2]?=some (.cells #[.int .i64 5,.slice none 0 0,.slice none 0 0,.slice (some ⟨gl,0,none⟩) 2 2] 73 (0,0)):=hF 18 (by decide);clear hF hR0;rw[show List.range 19=[0,1,2,3,4,5,6,7,8,9,10,11,12,13,14,15,16,17,18]from rfl];simp only[Zan,Zah,Act.put,List.getElem?_toArray,List.getElem?_cons_zero,List.getElem?_cons_succ,Option.bind_some,List.setIfInBounds_toArray,List.set_cons_zero,List.set_cons_succ,List.drop_succ_cons,List.drop_zero,f0,f1,f2,f3,f4,f5,f6,f7,f8,f9,f10,f11,f12,f13,f14,f15];obtain⟨_,e16,_,_⟩:=f16;obtain⟨_,e17,_,_⟩:=f17;obtain⟨gl,gt2,e18,hgl,hg2,hk1,hk2⟩:=f18;have HNW:=Zrw.mk (Kd.N_below HN.out hR);have HBW:=Zrw.mk (Zae HB.out hR);have HOW:Zrw (Kd.F k76 W (Okp g0 g1 g2 X.heap.size) (some ⟨g,0,none⟩) j (xs.take j)):=⟨Kd.N_F (Kd.N_take HNW.out (by have:=HJM.out;have:=HXL.out;omega))⟩
      have HRW:Zrw (Kd.F k76 W (Okp g0 g1 g2 X.heap.size) (some ⟨gt2,0,none⟩) 1 [(⟨5,[],[],[u,y]⟩:S76)]):=
       ⟨Zdy (cs:=[.int .i64 5,.slice none 0 0,.slice none 0 0,.slice (some ⟨gl,0,none⟩) 2 2]) hk2 (HF8.out _ (Nat.le_trans HB.out.size hg2)) (Zhr 5 (Zjb (c1:=[.int .i64 u.f0,.slice C1 u.f1.length b1,.slice C2 u.f2.length b2,.slice C3 u.f3.length b3]) (c2:=[.int .i64 y.f0,.slice B1 y.f1.length d1,.slice B2 y.f2.length d2,.slice B3 y.f3.length d3]) hk1 (HF8.out _ (Nat.le_trans HB.out.size hgl)) (Kd.FK_mono (Kd.FK_below HEL2.out hR) (fun _ h=>h.1)) (Kd.FK_mono (Kd.FK_below HEL.out hR) (fun _ h=>h.1))))⟩
      have HP7:Zrw (PcsAt a0 a1 a2 (i+1) (xs.take j++[(⟨5,[],[],[u,y]⟩:S76)])):=⟨by
       have e1:xs.length-2=j:=by have:=HXL.out;have:=HJ2.out;omega
       have e2:xs.length-1=k:=by have:=HXL.out;have:=HMK.out;omega
       have hp:=HP.out.join (x:=⟨5,[],[],[u,y]⟩) (by have:=HXL.out;have:=HJ2.out;omega) (fun D n q h1 h2=>.inr (.inr (.inr (.inr ⟨.inl rfl,rfl,rfl,_,_,n,q,rfl,by rw[e1]at h1;rw[HU.out];exact h1,by rw[e2]at h2;rw[HY.out];exact h2,by omega⟩))));rw[e1]at hp;exact hp⟩
      simp only[e16,e17,e18];clear hR hgl hg2 hk1 hk2
      go_wp2_with ((with_reducible refine Zal (b:=.append) (xs:=#[.tmp 156,.tmp 169]) rfl ?_);at_builtin;refine Zea k76 (w0:=X) (W:=W) X.heap.size rfl (.tmp 156) (.tmp 169) 71 73 (.agg #[.int .i64 0,.slice none 0 0,.slice none 0 0,.slice none 0 0]) 80 rfl Tryz.underlying71 Zfm rfl (by omega) ⟨g,0,none⟩ ⟨gt2,0,none⟩ j 1 1 (xs.take j) [(⟨5,[],[],[u,y]⟩:S76)] (Okp g0 g1 g2 X.heap.size) (Okp g0 g1 g2 X.heap.size) rfl rfl (by omega) HOW.out HRW.out (fun _ h=>h) (HF8.out _ HBW.out.size) HBW.out HBW.out.size ?aL ?_;(case aL=>have:=HLX.out;have:=HJM.out;have:=HXL.out;omega);intro v6 w6 ho6 hb6;have HN6:=Zrw.mk ho6;have HB6:=Zrw.mk hb6;clear ho6 hb6)
      go_wp2
      go_roundw
      case rel=>exact⟨i+1,_,by omega,by omega,by simp,HP7,HN6,HB6⟩
      case measure=>show ls.length-((i:Int)+1).toNat<ls.length-(i:Int).toNat;omega
    ·go_upto_region 22 with fail
     clear hq x0 x1 x2 x3 fr0 m1x hkm hmz hmp;refine Zba 19 _ Zbn (phiP22 (.slice (some ⟨g,0,none⟩) m cs) m j k g #[.int .i64 u.f0,.slice C1 u.f1.length b1,.slice C2 u.f2.length b2,.slice C3 u.f3.length b3] #[.int .i64 y.f0,.slice B1 y.f1.length d1,.slice B2 y.f2.length d2,.slice B3 y.f3.length d3] #[.int .i64 u.f0,.slice C1 u.f1.length b1,.slice C2 u.f2.length b2,.slice C3 u.f3.length b3,.int .i64 y.f0,.slice B1 y.f1.length d1,.slice B2 y.f2.length d2,.slice B3 y.f3.length d3] Y.heap.size) Zca (by kernel_rfl) (by kernel_rfl) (by kernel_rfl) rfl Zbh Zbc (Zqs _ _ _ _ _ _ _ _ _) ?step ?fin
     case step=>
      repeat (rename_i z;clear z)
      refine⟨?_,?_,?_,?_,?_,?_,?_,?_,?_,?_,?_,?_,?_,?_,?_,?_,?_,?_,?_,trivial⟩ <;> intro vals W hR0 hd <;> have hR:=Zae (Zao (Below.refl _ Y)) hR0
      ·refine Zac (W':=W) ?_ ⟨Zbr,rfl⟩
       clear hd;simp only[Zan,Zbn,Zah];go_simp
      ·refine Zac (W':=W) ?_ ⟨Zbr,rfl⟩
       clear hd;simp only[Zan,Zbn,Zah];go_simp
      ·have h1:vals 1=.int .i64 (m:Int):=hd 1 (by simp[Zbn]);have hq2:IntKind.i64.wrap ((m:Int)-2)=j:=HQ2.out;refine Zac (W':=W) ?_ ⟨Zbr,rfl⟩
       clear hd;simp only[Zan,Zbn,Zah,h1];go_simp
      ·refine Zac (W':=W) ?_ ⟨Zbr,rfl⟩
       clear hd;simp only[Zan,Zbn,Zah];go_simp
      ·have h3:vals 3=.int .i64 (m:Int):=hd 3 (by simp[Zbn]);have hq2:IntKind.i64.wrap ((m:Int)-2)=j:=HQ2.out;refine Zac (W':=W) ?_ ⟨Zbr,rfl⟩
       clear hd;simp only[Zan,Zbn,Zah,h3];go_simp
      ·have h0:vals 0=(.slice (some ⟨g,0,none⟩) m cs):=hd 0 (by simp[Zbn]);have h2:vals 2=.int .i64 (j:Int):=hd 2 (by simp[Zbn]);have h4:vals 4=.int .i64 (j:Int):=hd 4 (by simp[Zbn]);have hjm:=HJM.out;have hkm2:=HKM.out;have hjc:¬cs<j:=by have:=HCS.out;omega
       refine Zac (W':=W) ?_ ⟨Zbr,rfl⟩
       clear hd;simp only[Zan,Zbn,Zah,h0,h2,h4];go_simp
      ·refine Zac (W':=W) ?_ ⟨Zbr,rfl⟩
       clear hd;simp only[Zan,Zbn,Zah];go_simp
      ·refine Zac (W':=W) ?_ ⟨Zbr,rfl⟩
       clear hd;simp only[Zan,Zbn,Zah];go_simp
      ·have h7:vals 7=.int .i64 (m:Int):=hd 7 (by simp[Zbn]);have hq2:IntKind.i64.wrap ((m:Int)-2)=j:=HQ2.out;refine Zac (W':=W) ?_ ⟨Zbr,rfl⟩
       clear hd;simp only[Zan,Zbn,Zah,h7];go_simp
      ·have h6:vals 6=(.slice (some ⟨g,0,none⟩) m cs):=hd 6 (by simp[Zbn]);have h8:vals 8=.int .i64 (j:Int):=hd 8 (by simp[Zbn]);have hjm:=HJM.out;have hkm2:=HKM.out;have hjc:¬cs<j:=by have:=HCS.out;omega
       refine Zac (W':=W) ?_ ⟨Zbr,rfl⟩
       clear hd;simp only[Zan,Zbn,Zah,h6,h8];go_simp
      ·have h9:vals 9=.pointer (some ⟨g,j*4,none⟩):=hd 9 (by simp[Zbn]);have x0b:=Zad hR X0.out;have x1b:=Zad hR X1.out;have x2b:=Zad hR X2.out;have x3b:=Zad hR X3.out;refine Zac (W':=W) ?_ ⟨Zbr,rfl⟩
       clear hd;simp only[Zan,Zbn,Zah,h9];go_simp
      ·refine Zac (W':=W) ?_ ⟨Zbr,rfl⟩
       clear hd;simp only[Zan,Zbn,Zah];go_simp
      ·refine Zac (W':=W) ?_ ⟨Zbr,rfl⟩
       clear hd;simp only[Zan,Zbn,Zah];go_simp
      ·have h12:vals 12=.int .i64 (m:Int):=hd 12 (by simp[Zbn]);have hq:IntKind.i64.wrap ((m:Int)-1)=k:=HQ.out;refine Zac (W':=W) ?_ ⟨Zbr,rfl⟩
       clear hd;simp only[Zan,Zbn,Zah,h12];go_simp
      ·have h11:vals 11=(.slice (some ⟨g,0,none⟩) m cs):=hd 11 (by simp[Zbn]);have h13:vals 13=.int .i64 (k:Int):=hd 13 (by simp[Zbn]);have hjm:=HJM.out;have hkm2:=HKM.out;have hjc:¬cs<j:=by have:=HCS.out;omega
       refine Zac (W':=W) ?_ ⟨Zbr,rfl⟩
       clear hd;simp only[Zan,Zbn,Zah,h11,h13];go_simp
      ·have h14:vals 14=.pointer (some ⟨g,k*4,none⟩):=hd 14 (by simp[Zbn]);have x0b:=Zad hR Y0.out;have x1b:=Zad hR Y1.out;have x2b:=Zad hR Y2.out;have x3b:=Zad hR Y3.out;refine Zac (W':=W) ?_ ⟨Zbr,rfl⟩
       clear hd;simp only[Zan,Zbn,Zah,h14];go_simp
      ·have h10:vals 10=.agg #[.int .i64 u.f0,.slice C1 u.f1.length b1,.slice C2 u.f2.length b2,.slice C3 u.f3.length b3]:=hd 10 (by simp[Zbn]);have h15:vals 15=.agg #[.int .i64 y.f0,.slice B1 y.f1.length d1,.slice B2 y.f2.length d2,.slice B3 y.f3.length d3]:=hd 15 (by simp[Zbn]);clear hd;refine Zac (W':=W.alloc (.cells #[.int .i64 u.f0,.slice C1 u.f1.length b1,.slice C2 u.f2.length b2,.slice C3 u.f3.length b3,.int .i64 y.f0,.slice B1 y.f1.length d1,.slice B2 y.f2.length d2,.slice B3 y.f3.length d3] 73)) (v:=.slice (some ⟨W.heap.size,0,none⟩) 2 2) ?_ ⟨Zab Zbr _,W.heap.size,rfl,hR.size,Zaj W _⟩
       simp only[Zan,Zbn,Zah,h10,h15];go_simp
      ·have h16:∃gl,(vals 16)=.slice (some ⟨gl,0,none⟩) 2 2∧Y.heap.size≤gl∧W.heap[gl]?=some (.cells #[.int .i64 u.f0,.slice C1 u.f1.length b1,.slice C2 u.f2.length b2,.slice C3 u.f3.length b3,.int .i64 y.f0,.slice B1 y.f1.length d1,.slice B2 y.f2.length d2,.slice B3 y.f3.length d3] 73 (0,0)):=hd 16 (by simp[Zbn]);obtain⟨gl,e16,hg16,hk16⟩:=h16;clear hd;refine Zac (W':=W) (v:=.agg #[.int .i64 6,.slice none 0 0,.slice none 0 0,.slice (some ⟨gl,0,none⟩) 2 2]) ?_ ⟨Zbr,gl,rfl,hg16,hk16⟩
       simp only[Zan,Zbn,Zah,e16];go_simp
      ·have h17:∃gl,(vals 17)=.agg #[.int .i64 6,.slice none 0 0,.slice none 0 0,.slice (some ⟨gl,0,none⟩) 2 2]∧Y.heap.size≤gl∧W.heap[gl]?=some (.cells #[.int .i64 u.f0,.slice C1 u.f1.length b1,.slice C2 u.f2.length b2,.slice C3 u.f3.length b3,.int .i64 y.f0,.slice B1 y.f1.length d1,.slice B2 y.f2.length d2,.slice B3 y.f3.length d3] 73 (0,0)):=hd 17 (by simp[Zbn]);obtain⟨gl,e17,hg17,hk17⟩:=h17;clear hd;refine Zac (W':=W.alloc (.cells #[.int .i64 6,.slice none 0 0,.slice none 0 0,.slice (some ⟨gl,0,none⟩) 2 2] 73)) (v:=.slice (some ⟨W.heap.size,0,none⟩) 1 1) ?_ ⟨Zab Zbr _,gl,W.heap.size,rfl,hg17,hR.size,Zai hk17 _,Zaj W _⟩
       simp only[Zan,Zbn,Zah,e17];go_simp
     case fin=>
      intro vals W hR0 hF;have hR:=Zae (Zao (Below.refl _ Y)) hR0;have f0:vals 0=(.slice (some ⟨g,0,none⟩) m cs):=hF 0 (by decide);have f1:vals 1=.int .i64 (m:Int):=hF 1 (by decide);have f2:vals 2=.int .i64 (j:Int):=hF 2 (by decide);have f3:vals 3=.int .i64 (m:Int):=hF 3 (by decide);have f4:vals 4=.int .i64 (j:Int):=hF 4 (by decide);have f5:vals 5=.slice (some ⟨g,0,none⟩) j j:=hF 5 (by decide);have f6:vals 6=(.slice (some ⟨g,0,none⟩) m cs):=hF 6 (by decide);have f7:vals 7=.int .i64 (m:Int):=hF 7 (by decide);have f8:vals 8=.int .i64 (j:Int):=hF 8 (by decide);have f9:vals 9=.pointer (some ⟨g,j*4,none⟩):=hF 9 (by decide);have f10:vals 10=.agg #[.int .i64 u.f0,.slice C1 u.f1.length b1,.slice C2 u.f2.length b2,.slice C3 u.f3.length b3]:=hF 10 (by decide);have f11:vals 11=(.slice (some ⟨g,0,none⟩) m cs):=hF 11 (by decide);have f12:vals 12=.int .i64 (m:Int):=hF 12 (by decide);have f13:vals 13=.int .i64 (k:Int):=hF 13 (by decide);have f14:vals 14=.pointer (some ⟨g,k*4,none⟩):=hF 14 (by decide);have f15:vals 15=.agg #[.int .i64 y.f0,.slice B1 y.f1.length d1,.slice B2 y.f2.length d2,.slice B3 y.f3.length d3]:=hF 15 (by decide);have f16:∃gl,(vals 16)=.slice (some ⟨gl,0,none⟩) 2 2∧Y.heap.size≤gl∧W.heap[gl]?=some (.cells #[.int .i64 u.f0,.slice C1 u.f1.length b1,.slice C2 u.f2.length b2,.slice C3 u.f3.length b3,.int .i64 y.f0,.slice B1 y.f1.length d1,.slice B2 y.f2.length d2,.slice B3 y.f3.length d3] 73 (0,0)):=hF 16 (by decide);have f17:∃gl,(vals 17)=.agg #[.int .i64 6,.slice none 0 0,.slice none 0 0,.slice (some ⟨gl,0,none⟩) 2 2]∧Y.heap.size≤gl∧W.heap[gl]?=some (.cells #[.int .i64 u.f0,.slice C1 u.f1.length b1,.slice C2 u.f2.length b2,.slice C3 u.f3.length b3,.int .i64 y.f0,.slice B1 y.f1.length d1,.slice B2 y.f2.length d2,.slice B3 y.f3.length d3] 73 (0,0)):=hF 17 (by decide);have f18:∃gl g2,(vals 18)=.slice (some ⟨g2,0,none⟩) 1 1∧Y.heap.size≤gl∧Y.heap.size≤g2∧W.heap[gl]?=some (.cells #[.int .i64 u.f0,.slice C1 u.f1.length b1,.slice C2 u.f2.length b2,.slice C3 u.f3.length b3,.int .i64 y.f0,.slice B1 y.f1.length d1,.slice B2 y.f2.length d2,.slice B3 y.f3.length d3] 73 (0,0))∧W.heap[g2]?=some (.cells #[.int .i64 6,.slice none 0 0,.slice none 0 0,.slice (some ⟨gl,0,none⟩) 2 2] 73 (0,0)):=hF 18 (by decide);clear hF hR0;rw[show List.range 19=[0,1,2,3,4,5,6,7,8,9,10,11,12,13,14,15,16,17,18]from rfl];simp only[Zan,Zah,Act.put,List.getElem?_toArray,List.getElem?_cons_zero,List.getElem?_cons_succ,Option.bind_some,List.setIfInBounds_toArray,List.set_cons_zero,List.set_cons_succ,List.drop_succ_cons,List.drop_zero,f0,f1,f2,f3,f4,f5,f6,f7,f8,f9,f10,f11,f12,f13,f14,f15];obtain⟨_,e16,_,_⟩:=f16;obtain⟨_,e17,_,_⟩:=f17;obtain⟨gl,gt2,e18,hgl,hg2,hk1,hk2⟩:=f18;have HNW:=Zrw.mk (Kd.N_below HN.out hR);have HBW:=Zrw.mk (Zae HB.out hR);have HOW:Zrw (Kd.F k76 W (Okp g0 g1 g2 X.heap.size) (some ⟨g,0,none⟩) j (xs.take j)):=⟨Kd.N_F (Kd.N_take HNW.out (by have:=HJM.out;have:=HXL.out;omega))⟩
      have HRW:Zrw (Kd.F k76 W (Okp g0 g1 g2 X.heap.size) (some ⟨gt2,0,none⟩) 1 [(⟨6,[],[],[u,y]⟩:S76)]):=
       ⟨Zdy (cs:=[.int .i64 6,.slice none 0 0,.slice none 0 0,.slice (some ⟨gl,0,none⟩) 2 2]) hk2 (HF8.out _ (Nat.le_trans HB.out.size hg2)) (Zhr 6 (Zjb (c1:=[.int .i64 u.f0,.slice C1 u.f1.length b1,.slice C2 u.f2.length b2,.slice C3 u.f3.length b3]) (c2:=[.int .i64 y.f0,.slice B1 y.f1.length d1,.slice B2 y.f2.length d2,.slice B3 y.f3.length d3]) hk1 (HF8.out _ (Nat.le_trans HB.out.size hgl)) (Kd.FK_mono (Kd.FK_below HEL2.out hR) (fun _ h=>h.1)) (Kd.FK_mono (Kd.FK_below HEL.out hR) (fun _ h=>h.1))))⟩
      have HP7:Zrw (PcsAt a0 a1 a2 (i+1) (xs.take j++[(⟨6,[],[],[u,y]⟩:S76)])):=⟨by
       have e1:xs.length-2=j:=by have:=HXL.out;have:=HJ2.out;omega
       have e2:xs.length-1=k:=by have:=HXL.out;have:=HMK.out;omega
       have hp:=HP.out.join (x:=⟨6,[],[],[u,y]⟩) (by have:=HXL.out;have:=HJ2.out;omega) (fun D n q h1 h2=>.inr (.inr (.inr (.inr ⟨.inr rfl,rfl,rfl,_,_,n,q,rfl,by rw[e1]at h1;rw[HU.out];exact h1,by rw[e2]at h2;rw[HY.out];exact h2,by omega⟩))));rw[e1]at hp;exact hp⟩
      simp only[e16,e17,e18];clear hR hgl hg2 hk1 hk2
      go_wp2_with ((with_reducible refine Zal (b:=.append) (xs:=#[.tmp 179,.tmp 192]) rfl ?_);at_builtin;refine Zea k76 (w0:=X) (W:=W) X.heap.size rfl (.tmp 179) (.tmp 192) 71 73 (.agg #[.int .i64 0,.slice none 0 0,.slice none 0 0,.slice none 0 0]) 80 rfl Tryz.underlying71 Zfm rfl (by omega) ⟨g,0,none⟩ ⟨gt2,0,none⟩ j 1 1 (xs.take j) [(⟨6,[],[],[u,y]⟩:S76)] (Okp g0 g1 g2 X.heap.size) (Okp g0 g1 g2 X.heap.size) rfl rfl (by omega) HOW.out HRW.out (fun _ h=>h) (HF8.out _ HBW.out.size) HBW.out HBW.out.size ?aL ?_;(case aL=>have:=HLX.out;have:=HJM.out;have:=HXL.out;omega);intro v6 w6 ho6 hb6;have HN6:=Zrw.mk ho6;have HB6:=Zrw.mk hb6;clear ho6 hb6)
      go_wp2
      go_roundw
      case rel=>exact⟨i+1,_,by omega,by omega,by simp,HP7,HN6,HB6⟩
      case measure=>show ls.length-((i:Int)+1).toNat<ls.length-(i:Int).toNat;omega
  ·have HB0:Zrw (Below g8 w wr):=⟨by rw[HG8.out];exact Zae HB8.out HB.out⟩
   have HN8W:=Zrw.mk (Kd.N_below HN8.out HB.out);have HK8W:=Zrw.mk (Zaf HK8.out HB.out);have hc1:¬i<ls.length∨(i<ls.length∧¬i<8):=by omega
   clear hc;by_cases z:xs.length=0
   ·obtain rfl:xs=[]:=List.eq_nil_of_length_eq_zero z;clear z
    rcases hc1 with h1 | ⟨h1,h2⟩
    ·as_aux_lemma=>
      go_wp2_with ((with_reducible refine Zbb (t:=73) (p:=8) rfl ?_);refine Kd.N_store k76 (w0:=w) (W:=wr) g8 rfl rfl 73 (.tmp 8) (.tmp 197) rfl 73 (0:Int) 0 [z76] (⟨4,[],[],[]⟩:S76) (.agg #[.int .i64 4,.slice none 0 0,.slice none 0 0,.slice none 0 0]) [.int .i64 4,.slice none 0 0,.slice none 0 0,.slice none 0 0] [.int .i64 0,.slice none 0 0,.slice none 0 0,.slice none 0 0] (fun k=>k=g8∨Okp g0 g1 g2 X.heap.size k) (fun _=>False) rfl ?sO rfl rfl rfl ?s1 HN8W.out ?s2 ?s3 rfl ?s4 ?s5 (Zee _ _ _) (fun _ h=>h.elim) HB0.out ?_;(case sO=>rfl);(case s1=>first | decide | (intro q hq2;simp at hq2;rcases hq2 with rfl | rfl | rfl | rfl <;> rfl));(case s2=>omega);(case s3=>omega);(case s4=>exact Zbo HK8W.out 4);(case s5=>exact Nat.le_refl 4);intro w6 ho6 hb6 hg6;have HN6:=Zrw.mk ho6;have HB6:=Zrw.mk hb6;clear ho6 hb6 hg6)
      go_wp2
      obtain⟨cb,hcb,hfb⟩:=Zcb HN6.out;have hfb:=Kd.FK_mono hfb (fun k h=>HW8.out k (h.1.resolve_left h.2));rw[HG8.out]at HB6;obtain⟨E1,j1,E2,j2,E3,j3,rfl,_⟩:=Zbj (Kd.FK_now hfb);refine bodyPost_ret (results_cell_row rfl _ _ g8 73 _ (0,0) _ rfl hcb Tryz.underlying73 rfl (by kernel_rfl)) rfl ?_
      exact⟨_,_,rfl,⟨1,1,.inl ⟨.inr rfl,rfl,rfl,rfl,Nat.le_refl _⟩,by omega,by omega⟩,hfb,HB6.out⟩
    ·as_aux_lemma=>
      go_wp2_with ((with_reducible refine Zbb (t:=73) (p:=8) rfl ?_);refine Kd.N_store k76 (w0:=w) (W:=wr) g8 rfl rfl 73 (.tmp 8) (.tmp 197) rfl 73 (0:Int) 0 [z76] (⟨4,[],[],[]⟩:S76) (.agg #[.int .i64 4,.slice none 0 0,.slice none 0 0,.slice none 0 0]) [.int .i64 4,.slice none 0 0,.slice none 0 0,.slice none 0 0] [.int .i64 0,.slice none 0 0,.slice none 0 0,.slice none 0 0] (fun k=>k=g8∨Okp g0 g1 g2 X.heap.size k) (fun _=>False) rfl ?sO rfl rfl rfl ?s1 HN8W.out ?s2 ?s3 rfl ?s4 ?s5 (Zee _ _ _) (fun _ h=>h.elim) HB0.out ?_;(case sO=>rfl);(case s1=>first | decide | (intro q hq2;simp at hq2;rcases hq2 with rfl | rfl | rfl | rfl <;> rfl));(case s2=>omega);(case s3=>omega);(case s4=>exact Zbo HK8W.out 4);(case s5=>exact Nat.le_refl 4);intro w6 ho6 hb6 hg6;have HN6:=Zrw.mk ho6;have HB6:=Zrw.mk hb6;clear ho6 hb6 hg6)
      go_wp2
      obtain⟨cb,hcb,hfb⟩:=Zcb HN6.out;have hfb:=Kd.FK_mono hfb (fun k h=>HW8.out k (h.1.resolve_left h.2));rw[HG8.out]at HB6;obtain⟨E1,j1,E2,j2,E3,j3,rfl,_⟩:=Zbj (Kd.FK_now hfb);refine bodyPost_ret (results_cell_row rfl _ _ g8 73 _ (0,0) _ rfl hcb Tryz.underlying73 rfl (by kernel_rfl)) rfl ?_
      exact⟨_,_,rfl,⟨1,1,.inl ⟨.inr rfl,rfl,rfl,rfl,Nat.le_refl _⟩,by omega,by omega⟩,hfb,HB6.out⟩
   ·rcases hc1 with h1 | ⟨h1,h2⟩
    ·obtain⟨g,cap,hs,hgX,hgY,_⟩:=Kd.N_form HN.out (by omega);injection hs with hs1 hs2 hs3
     subst hs1;subst hs3;clear hs2;have HGX:=Zrw.mk hgX;have HGY:=Zrw.mk hgY;obtain⟨m,hmx⟩:∃m,m=xs.length:=⟨_,rfl⟩
     have HXL:=Zrw.mk hmx;rw[←hmx]at HN ⊢;have hm0:0<m:=by omega
     have hmz:¬m=0:=by omega
     obtain⟨el,hel1,hel2,hel3,hel4⟩:=Kd.N_elem HN.out z76 ((0:Nat):Int) (by omega) (by omega);rw[Int.toNat_natCast]at hel2 hel3 hel4;obtain⟨B1,d1,B2,d2,B3,d3,rfl,_⟩:=Zbj (Kd.FK_now hel2);have HEL:=Zrw.mk (Kd.FK_bound hel2);obtain⟨y,hy⟩:∃y,y=xs.getD 0 z76:=⟨_,rfl⟩
     have HY:=Zrw.mk hy;rw[←hy]at HEL hel3;have x0:wr.cell? ⟨g,0,none⟩=some (.int .i64 y.f0):=hel3 0 _ rfl;have x1:wr.cell? ⟨g,1,none⟩=some (.slice B1 y.f1.length d1):=hel3 1 _ rfl;have x2:wr.cell? ⟨g,2,none⟩=some (.slice B2 y.f2.length d2):=hel3 2 _ rfl;have x3:wr.cell? ⟨g,3,none⟩=some (.slice B3 y.f3.length d3):=hel3 3 _ rfl;have HBX:=Zrw.mk (box_N (d:=k76) (w:=wr) (e:=73) (x:=z76) (cs:=[.int .i64 0,.slice none 0 0,.slice none 0 0,.slice none 0 0]) (ok:=Okp g0 g1 g2 X.heap.size) (Zee wr (fun _=>False) 0) (fun _ h=>h.elim) (HF8.out _ HB.out.size));have HBX2:=Zrw.mk (Zaj wr (.cells #[.int .i64 0,.slice none 0 0,.slice none 0 0,.slice none 0 0] 73));have HBA:=Zrw.mk (Zab (Below.refl _ wr) (.cells #[.int .i64 0,.slice none 0 0,.slice none 0 0,.slice none 0 0] 73));have HP1:Zrw (FoldAt a0 a1 a2 xs 1 y):=⟨by rw[HY.out];exact HP.out.fold hi8 (by have:=HXL.out;omega)⟩
     have HL8:Zrw (m≤8):=⟨by obtain⟨D,p1,p2,_⟩:=HP.out;have:=HXL.out;omega⟩
     clear hel1 hel2 hel3 hel4 hy hgX hgY hmx z
     go_wp2_with ((with_reducible refine Zbb (t:=73) (p:=14) rfl ?_);refine Kd.N_store k76 (w0:=wr) (W:=wr.alloc (.cells #[.int .i64 0,.slice none 0 0,.slice none 0 0,.slice none 0 0] 73)) wr.heap.size rfl rfl 73 (.tmp 14) (.tmp 200) rfl 73 (0:Int) 0 [z76] y (.agg #[.int .i64 y.f0,.slice B1 y.f1.length d1,.slice B2 y.f2.length d2,.slice B3 y.f3.length d3]) [.int .i64 y.f0,.slice B1 y.f1.length d1,.slice B2 y.f2.length d2,.slice B3 y.f3.length d3] [.int .i64 0,.slice none 0 0,.slice none 0 0,.slice none 0 0] (Okp g0 g1 g2 X.heap.size) (fun k=>(Okp g0 g1 g2 X.heap.size k∧k≠g)∧k<wr.heap.size) rfl ?sO rfl rfl rfl ?s1 HBX.out ?s2 ?s3 rfl ?s4 ?s5 (Kd.FK_below HEL.out HBA.out) (fun k hk=>⟨hk.1.1,by have:=hk.2;omega⟩) HBA.out ?_;(case sO=>rfl);(case s1=>first | decide | (intro q hq2;simp at hq2;rcases hq2 with rfl | rfl | rfl | rfl <;> rfl));(case s2=>omega);(case s3=>omega);(case s4=>exact Zbo HBX2.out 4);(case s5=>exact Nat.le_refl 4);intro w6 ho6 hb6 hg6;have HN6:Zrw (Kd.N k76 73 w6 wr.heap.size (Okp g0 g1 g2 X.heap.size) (.slice (some ⟨wr.heap.size,0,none⟩) 1 1) [y]):=⟨ho6⟩;have HB6:=Zrw.mk hb6;clear ho6 hb6 hg6)
     obtain⟨gb,hgb⟩:∃gb,gb=wr.heap.size:=⟨_,rfl⟩
     have HGB:=Zrw.mk hgb;rw[←hgb]at HN6 ⊢;have HGL:Zrw (g<gb):=⟨by have:=HGY.out;omega⟩
     clear hgb x0 x1 x2 x3 hi8 hil;obtain⟨Z,hZ⟩:∃Z,Z=wr:=⟨_,rfl⟩
     subst hZ;go_wp2
     go_loopw [15] (fun q wr=>∃(j:Nat) (pp:S76),1≤j∧j≤m∧q=.int .i64 j∧Zrw (FoldAt a0 a1 a2 xs j pp)∧Zrw (Kd.N k76 73 wr gb (Okp g0 g1 g2 X.heap.size) (.slice (some ⟨gb,0,none⟩) 1 1) [pp])∧Zrw (Below gb Z wr)) (fun q _=>m-(intOf q).toNat)
     case atStart=>exact⟨1,y,by omega,by omega,rfl,⟨HP1.out⟩,⟨HN6.out⟩,⟨by rw[HGB.out];exact HB6.out⟩⟩
     case round=>
      obtain⟨j,pp,hj1,hjm,rfl,HPJ,HNB,HBJ⟩:=hrel;by_cases hjl:j<m
      ·obtain⟨el,hel1,hel2,hel3,hel4⟩:=Kd.N_elem HN.out z76 (j:Int) (by omega) (by omega);rw[Int.toNat_natCast]at hel2 hel3 hel4;obtain⟨B1,d1,B2,d2,B3,d3,rfl,_⟩:=Zbj (Kd.FK_now hel2);have HBZ:Zrw (Below Z.heap.size Z wr):=⟨by rw[←HGB.out];exact HBJ.out⟩
       have HEY:=Zrw.mk (Kd.FK_below (Kd.FK_bound hel2) HBZ.out);obtain⟨y,hy⟩:∃y,y=xs.getD j z76:=⟨_,rfl⟩
       have HY:=Zrw.mk hy;rw[←hy]at HEY hel3;have Y0:Zrw (wr.cell? ⟨g,j*4,none⟩=some (.int .i64 y.f0)):=⟨Zad HBZ.out (hel3 0 _ rfl)⟩
       have Y1:Zrw (wr.cell? ⟨g,j*4+1,none⟩=some (.slice B1 y.f1.length d1)):=⟨Zad HBZ.out (hel3 1 _ rfl)⟩
       have Y2:Zrw (wr.cell? ⟨g,j*4+2,none⟩=some (.slice B2 y.f2.length d2)):=⟨Zad HBZ.out (hel3 2 _ rfl)⟩
       have Y3:Zrw (wr.cell? ⟨g,j*4+3,none⟩=some (.slice B3 y.f3.length d3)):=⟨Zad HBZ.out (hel3 3 _ rfl)⟩
       obtain⟨cb,hcb,hfb⟩:=Zcb HNB.out;obtain⟨C1,b1,C2,b2,C3,b3,rfl,_⟩:=Zbj (Kd.FK_now hfb);have HCB:=Zrw.mk hcb;have HFB:=Zrw.mk hfb;have X0:Zrw (wr.cell? ⟨gb,0,none⟩=some (.int .i64 pp.f0)):=⟨(Zaa hcb 0).trans rfl⟩
       have X1:Zrw (wr.cell? ⟨gb,1,none⟩=some (.slice C1 pp.f1.length b1)):=⟨(Zaa hcb 1).trans rfl⟩
       have X2:Zrw (wr.cell? ⟨gb,2,none⟩=some (.slice C2 pp.f2.length b2)):=⟨(Zaa hcb 2).trans rfl⟩
       have X3:Zrw (wr.cell? ⟨gb,3,none⟩=some (.slice C3 pp.f3.length b3)):=⟨(Zaa hcb 3).trans rfl⟩
       have HJM:Zrw (j<m):=⟨hjl⟩
       have HLB:Zrw (gb<wr.heap.size):=⟨Zdx hcb⟩
       have hfr:wr.frozen? ⟨gb,0,none⟩=false:=by simp[World.frozen?,hcb]
       have HFR:=Zrw.mk hfr;clear hel1 hel2 hel3 hel4 hy hcb hfb hfr
       go_upto_region 29 with fail
       obtain⟨Y,hY⟩:∃Y,Y=wr:=⟨_,rfl⟩
       subst hY;clear hjl;refine Zba 7 _ Zcf (Zot (.slice (some ⟨g,0,none⟩) m cs) m j g #[.int .i64 pp.f0,.slice C1 pp.f1.length b1,.slice C2 pp.f2.length b2,.slice C3 pp.f3.length b3] #[.int .i64 y.f0,.slice B1 y.f1.length d1,.slice B2 y.f2.length d2,.slice B3 y.f3.length d3] #[.int .i64 pp.f0,.slice C1 pp.f1.length b1,.slice C2 pp.f2.length b2,.slice C3 pp.f3.length b3,.int .i64 y.f0,.slice B1 y.f1.length d1,.slice B2 y.f2.length d2,.slice B3 y.f3.length d3] Y.heap.size) Zca (by kernel_rfl) (by kernel_rfl) (by kernel_rfl) rfl Zbh Zbc (Zkk _ _ _ _ _ _ _ _) ?step ?fin
       case step=>
        repeat (rename_i z;clear z)
        refine⟨?_,?_,?_,?_,?_,?_,?_,trivial⟩ <;> intro vals W hR0 hd <;> have hR:=Zae (Zao (Below.refl _ Y)) hR0
        ·have x0b:=Zad hR X0.out;have x1b:=Zad hR X1.out;have x2b:=Zad hR X2.out;have x3b:=Zad hR X3.out;refine Zac (W':=W) ?_ ⟨Zbr,rfl⟩
         clear hd;simp only[Zan,Zcf,Zah];go_simp
        ·refine Zac (W':=W) ?_ ⟨Zbr,rfl⟩
         clear hd;simp only[Zan,Zcf,Zah];go_simp
        ·refine Zac (W':=W) ?_ ⟨Zbr,rfl⟩
         clear hd;simp only[Zan,Zcf,Zah];go_simp
        ·have h1:vals 1=(.slice (some ⟨g,0,none⟩) m cs):=hd 1 (by simp[Zcf]);have h2:vals 2=.int .i64 (j:Int):=hd 2 (by simp[Zcf]);have hjm:=HJM.out;refine Zac (W':=W) ?_ ⟨Zbr,rfl⟩
         clear hd;simp only[Zan,Zcf,Zah,h1,h2];go_simp
        ·have h3:vals 3=.pointer (some ⟨g,j*4,none⟩):=hd 3 (by simp[Zcf]);have x0b:=Zad hR Y0.out;have x1b:=Zad hR Y1.out;have x2b:=Zad hR Y2.out;have x3b:=Zad hR Y3.out;refine Zac (W':=W) ?_ ⟨Zbr,rfl⟩
         clear hd;simp only[Zan,Zcf,Zah,h3];go_simp
        ·have h0:vals 0=.agg #[.int .i64 pp.f0,.slice C1 pp.f1.length b1,.slice C2 pp.f2.length b2,.slice C3 pp.f3.length b3]:=hd 0 (by simp[Zcf]);have h4:vals 4=.agg #[.int .i64 y.f0,.slice B1 y.f1.length d1,.slice B2 y.f2.length d2,.slice B3 y.f3.length d3]:=hd 4 (by simp[Zcf]);clear hd;refine Zac (W':=W.alloc (.cells #[.int .i64 pp.f0,.slice C1 pp.f1.length b1,.slice C2 pp.f2.length b2,.slice C3 pp.f3.length b3,.int .i64 y.f0,.slice B1 y.f1.length d1,.slice B2 y.f2.length d2,.slice B3 y.f3.length d3] 73)) (v:=.slice (some ⟨W.heap.size,0,none⟩) 2 2) ?_ ⟨Zab Zbr _,W.heap.size,rfl,hR.size,Zaj W _⟩
         simp only[Zan,Zcf,Zah,h0,h4];go_simp
        ·have h5:∃gl,(vals 5)=.slice (some ⟨gl,0,none⟩) 2 2∧Y.heap.size≤gl∧W.heap[gl]?=some (.cells #[.int .i64 pp.f0,.slice C1 pp.f1.length b1,.slice C2 pp.f2.length b2,.slice C3 pp.f3.length b3,.int .i64 y.f0,.slice B1 y.f1.length d1,.slice B2 y.f2.length d2,.slice B3 y.f3.length d3] 73 (0,0)):=hd 5 (by simp[Zcf]);obtain⟨gl,e5,hg5,hk5⟩:=h5;clear hd;refine Zac (W':=W) (v:=.agg #[.int .i64 5,.slice none 0 0,.slice none 0 0,.slice (some ⟨gl,0,none⟩) 2 2]) ?_ ⟨Zbr,gl,rfl,hg5,hk5⟩
         simp only[Zan,Zcf,Zah,e5];go_simp
       case fin=>
        intro vals W hR0 hF;have hR:=Zae (Zao (Below.refl _ Y)) hR0;have f0:vals 0=.agg #[.int .i64 pp.f0,.slice C1 pp.f1.length b1,.slice C2 pp.f2.length b2,.slice C3 pp.f3.length b3]:=hF 0 (by decide);have f1:vals 1=(.slice (some ⟨g,0,none⟩) m cs):=hF 1 (by decide);have f2:vals 2=.int .i64 (j:Int):=hF 2 (by decide);have f3:vals 3=.pointer (some ⟨g,j*4,none⟩):=hF 3 (by decide);have f4:vals 4=.agg #[.int .i64 y.f0,.slice B1 y.f1.length d1,.slice B2 y.f2.length d2,.slice B3 y.f3.length d3]:=hF 4 (by decide);have f5:∃gl,(vals 5)=.slice (some ⟨gl,0,none⟩) 2 2∧Y.heap.size≤gl∧W.heap[gl]?=some (.cells #[.int .i64 pp.f0,.slice C1 pp.f1.length b1,.slice C2 pp.f2.length b2,.slice C3 pp.f3.length b3,.int .i64 y.f0,.slice B1 y.f1.length d1,.slice B2 y.f2.length d2,.slice B3 y.f3.length d3] 73 (0,0)):=hF 5 (by decide);have f6:∃gl,(vals 6)=.agg #[.int .i64 5,.slice none 0 0,.slice none 0 0,.slice (some ⟨gl,0,none⟩) 2 2]∧Y.heap.size≤gl∧W.heap[gl]?=some (.cells #[.int .i64 pp.f0,.slice C1 pp.f1.length b1,.slice C2 pp.f2.length b2,.slice C3 pp.f3.length b3,.int .i64 y.f0,.slice B1 y.f1.length d1,.slice B2 y.f2.length d2,.slice B3 y.f3.length d3] 73 (0,0)):=hF 6 (by decide);clear hF hR0;rw[show List.range 7=[0,1,2,3,4,5,6]from rfl];simp only[Zan,Zah,Act.put,List.getElem?_toArray,List.getElem?_cons_zero,List.getElem?_cons_succ,Option.bind_some,List.setIfInBounds_toArray,List.set_cons_zero,List.set_cons_succ,List.drop_succ_cons,List.drop_zero,f0,f1,f2,f3,f4];obtain⟨gl5,f5,_,_⟩:=f5;obtain⟨gl,f6,hgl,kl⟩:=f6;have HBW:Zrw (Below gb Z W):=⟨Below.trans HBJ.out (Below.mono hR (Nat.le_of_lt HLB.out))⟩
        have HNW:=Zrw.mk (Kd.N_below HNB.out hR);have HCW:=Zrw.mk (Zaf HCB.out hR);have fr1:W.frozen? ⟨gb,0,none⟩=false:=by rw[World.frozen?_of_block (hR.block gb HLB.out)];exact HFR.out
        have HKW:Zrw (Kd.FK k76 W (fun k=>Okp g0 g1 g2 X.heap.size k∧k≠gb) (⟨5,[],[],[pp,y]⟩:S76) [.int .i64 5,.slice none 0 0,.slice none 0 0,.slice (some ⟨gl,0,none⟩) 2 2]):=
         ⟨Zhr 5 (Zjb (c1:=[.int .i64 pp.f0,.slice C1 pp.f1.length b1,.slice C2 pp.f2.length b2,.slice C3 pp.f3.length b3]) (c2:=[.int .i64 y.f0,.slice B1 y.f1.length d1,.slice B2 y.f2.length d2,.slice B3 y.f3.length d3]) kl ⟨HF8.out _ (by have:=HB.out.size;have:=HGB.out;have:=HLB.out;omega),by have:=HLB.out;omega⟩ (Kd.FK_below HFB.out hR) (Kd.FK_mono (Kd.FK_below HEY.out hR) (fun k hk=>⟨hk.1.1,by have:=hk.2;have:=HGB.out;omega⟩)))⟩
        have HP7:Zrw (FoldAt a0 a1 a2 xs (j+1) (⟨5,[],[],[pp,y]⟩:S76)):=⟨HPJ.out.step (by have:=HJM.out;have:=HXL.out;omega) (fun D n q h1 h2=>.inr (.inr (.inr (.inr ⟨.inl rfl,rfl,rfl,_,_,n,q,rfl,h1,by rw[HY.out];exact h2,by omega⟩))))⟩
        have hjm2:j+1≤m:=by have:=HJM.out;omega
        have hj8:j<8:=by have:=HL8.out;omega
        simp only[f5,f6];clear hR hgl kl
        go_wp2_with ((with_reducible refine Zbb (t:=73) (p:=14) rfl ?_);refine Kd.N_store k76 (w0:=Z) (W:=W) gb rfl rfl 73 (.tmp 14) (.tmp 213) rfl 73 (0:Int) 0 [pp] (⟨5,[],[],[pp,y]⟩:S76) (.agg #[.int .i64 5,.slice none 0 0,.slice none 0 0,.slice (some ⟨gl,0,none⟩) 2 2]) [.int .i64 5,.slice none 0 0,.slice none 0 0,.slice (some ⟨gl,0,none⟩) 2 2] [.int .i64 pp.f0,.slice C1 pp.f1.length b1,.slice C2 pp.f2.length b2,.slice C3 pp.f3.length b3] (Okp g0 g1 g2 X.heap.size) (fun k=>Okp g0 g1 g2 X.heap.size k∧k≠gb) rfl ?sO rfl rfl rfl ?s1 HNW.out ?s2 ?s3 rfl ?s4 ?s5 HKW.out (fun _ h=>h) HBW.out ?_;(case sO=>rfl);(case s1=>first | decide | (intro q hq2;simp at hq2;rcases hq2 with rfl | rfl | rfl | rfl <;> rfl));(case s2=>omega);(case s3=>omega);(case s4=>exact Zbo HCW.out 4);(case s5=>exact Nat.le_refl 4);intro w6 ho6 hb6 hg6;have HN7:=Zrw.mk ho6;have HB7:=Zrw.mk hb6;clear ho6 hb6 hg6)
        go_roundw
        case rel=>exact⟨j+1,_,by omega,hjm2,by simp,HP7,HN7,HB7⟩
        case measure=>show m-((j:Int)+1).toNat<m-(j:Int).toNat;omega
      ·obtain rfl:j=m:=by omega
       have HBZ:Zrw (Below Z.heap.size Z wr):=⟨by rw[←HGB.out];exact HBJ.out⟩
       obtain⟨cb,hcb,hfb⟩:=Zcb HNB.out;obtain⟨C1,b1,C2,b2,C3,b3,rfl,_⟩:=Zbj (Kd.FK_now hfb);have HFB:=Zrw.mk hfb;have x0:wr.cell? ⟨gb,0,none⟩=some (.int .i64 pp.f0):=(Zaa hcb 0).trans rfl;have x1:wr.cell? ⟨gb,1,none⟩=some (.slice C1 pp.f1.length b1):=(Zaa hcb 1).trans rfl;have x2:wr.cell? ⟨gb,2,none⟩=some (.slice C2 pp.f2.length b2):=(Zaa hcb 2).trans rfl;have x3:wr.cell? ⟨gb,3,none⟩=some (.slice C3 pp.f3.length b3):=(Zaa hcb 3).trans rfl;have HN8X:=HN8W;have HK8X:=HK8W;have HN8W:=Zrw.mk (Kd.N_below HN8X.out HBZ.out);have HK8W:=Zrw.mk (Zaf HK8X.out HBZ.out);have HB1:=Zrw.mk (Below.trans HB0.out (Below.mono HBZ.out (by have:=HB0.out.size;have:=HG8.out;omega)));have HMM:Zrw (FoldAt a0 a1 a2 xs xs.length pp):=⟨by have:=HXL.out;rw[←this];exact HPJ.out⟩
       clear hcb hfb
       go_wp2_with ((with_reducible refine Zbb (t:=73) (p:=8) rfl ?_);refine Kd.N_store k76 (w0:=w) (W:=wr) g8 rfl rfl 73 (.tmp 8) (.tmp 214) rfl 73 (0:Int) 0 [z76] pp (.agg #[.int .i64 pp.f0,.slice C1 pp.f1.length b1,.slice C2 pp.f2.length b2,.slice C3 pp.f3.length b3]) [.int .i64 pp.f0,.slice C1 pp.f1.length b1,.slice C2 pp.f2.length b2,.slice C3 pp.f3.length b3] [.int .i64 0,.slice none 0 0,.slice none 0 0,.slice none 0 0] (fun k=>k=g8∨Okp g0 g1 g2 X.heap.size k) (fun k=>Okp g0 g1 g2 X.heap.size k∧k≠gb) rfl ?sO rfl rfl rfl ?s1 HN8W.out ?s2 ?s3 rfl ?s4 ?s5 HFB.out (fun k h=>⟨.inr h.1,HX8.out k h.1⟩) HB1.out ?_;(case sO=>rfl);(case s1=>first | decide | (intro q hq2;simp at hq2;rcases hq2 with rfl | rfl | rfl | rfl <;> rfl));(case s2=>omega);(case s3=>omega);(case s4=>exact Zbo HK8W.out 4);(case s5=>exact Nat.le_refl 4);intro w6 ho6 hb6 hg6;have HN6:=Zrw.mk ho6;have HB6:=Zrw.mk hb6;clear ho6 hb6 hg6)
       go_wp2
       obtain⟨cb,hcb,hfb⟩:=Zcb HN6.out;have hfb:=Kd.FK_mono hfb (fun k h=>HW8.out k (h.1.resolve_left h.2));rw[HG8.out]at HB6;obtain⟨E1,j1,E2,j2,E3,j3,rfl,_⟩:=Zbj (Kd.FK_now hfb);refine bodyPost_ret (results_cell_row rfl _ _ g8 73 _ (0,0) _ rfl hcb Tryz.underlying73 rfl (by kernel_rfl)) rfl ?_
       obtain⟨D,N,hM,hD,hN⟩:=HMM.out.all;exact⟨pp,_,rfl,⟨D,N,hM,hD,by have:=HL8.out;have:=HXL.out;omega⟩,hfb,HB6.out⟩
    ·obtain⟨g,cap,hs,hgX,hgY,_⟩:=Kd.N_form HN.out (by omega);injection hs with hs1 hs2 hs3
     subst hs1;subst hs3;clear hs2;have HGX:=Zrw.mk hgX;have HGY:=Zrw.mk hgY;obtain⟨m,hmx⟩:∃m,m=xs.length:=⟨_,rfl⟩
     have HXL:=Zrw.mk hmx;rw[←hmx]at HN ⊢;have hm0:0<m:=by omega
     have hmz:¬m=0:=by omega
     obtain⟨el,hel1,hel2,hel3,hel4⟩:=Kd.N_elem HN.out z76 ((0:Nat):Int) (by omega) (by omega);rw[Int.toNat_natCast]at hel2 hel3 hel4;obtain⟨B1,d1,B2,d2,B3,d3,rfl,_⟩:=Zbj (Kd.FK_now hel2);have HEL:=Zrw.mk (Kd.FK_bound hel2);obtain⟨y,hy⟩:∃y,y=xs.getD 0 z76:=⟨_,rfl⟩
     have HY:=Zrw.mk hy;rw[←hy]at HEL hel3;have x0:wr.cell? ⟨g,0,none⟩=some (.int .i64 y.f0):=hel3 0 _ rfl;have x1:wr.cell? ⟨g,1,none⟩=some (.slice B1 y.f1.length d1):=hel3 1 _ rfl;have x2:wr.cell? ⟨g,2,none⟩=some (.slice B2 y.f2.length d2):=hel3 2 _ rfl;have x3:wr.cell? ⟨g,3,none⟩=some (.slice B3 y.f3.length d3):=hel3 3 _ rfl;have HBX:=Zrw.mk (box_N (d:=k76) (w:=wr) (e:=73) (x:=z76) (cs:=[.int .i64 0,.slice none 0 0,.slice none 0 0,.slice none 0 0]) (ok:=Okp g0 g1 g2 X.heap.size) (Zee wr (fun _=>False) 0) (fun _ h=>h.elim) (HF8.out _ HB.out.size));have HBX2:=Zrw.mk (Zaj wr (.cells #[.int .i64 0,.slice none 0 0,.slice none 0 0,.slice none 0 0] 73));have HBA:=Zrw.mk (Zab (Below.refl _ wr) (.cells #[.int .i64 0,.slice none 0 0,.slice none 0 0,.slice none 0 0] 73));have HP1:Zrw (FoldAt a0 a1 a2 xs 1 y):=⟨by rw[HY.out];exact HP.out.fold hi8 (by have:=HXL.out;omega)⟩
     have HL8:Zrw (m≤8):=⟨by obtain⟨D,p1,p2,_⟩:=HP.out;have:=HXL.out;omega⟩
     clear hel1 hel2 hel3 hel4 hy hgX hgY hmx z
     go_wp2_with ((with_reducible refine Zbb (t:=73) (p:=14) rfl ?_);refine Kd.N_store k76 (w0:=wr) (W:=wr.alloc (.cells #[.int .i64 0,.slice none 0 0,.slice none 0 0,.slice none 0 0] 73)) wr.heap.size rfl rfl 73 (.tmp 14) (.tmp 200) rfl 73 (0:Int) 0 [z76] y (.agg #[.int .i64 y.f0,.slice B1 y.f1.length d1,.slice B2 y.f2.length d2,.slice B3 y.f3.length d3]) [.int .i64 y.f0,.slice B1 y.f1.length d1,.slice B2 y.f2.length d2,.slice B3 y.f3.length d3] [.int .i64 0,.slice none 0 0,.slice none 0 0,.slice none 0 0] (Okp g0 g1 g2 X.heap.size) (fun k=>(Okp g0 g1 g2 X.heap.size k∧k≠g)∧k<wr.heap.size) rfl ?sO rfl rfl rfl ?s1 HBX.out ?s2 ?s3 rfl ?s4 ?s5 (Kd.FK_below HEL.out HBA.out) (fun k hk=>⟨hk.1.1,by have:=hk.2;omega⟩) HBA.out ?_;(case sO=>rfl);(case s1=>first | decide | (intro q hq2;simp at hq2;rcases hq2 with rfl | rfl | rfl | rfl <;> rfl));(case s2=>omega);(case s3=>omega);(case s4=>exact Zbo HBX2.out 4);(case s5=>exact Nat.le_refl 4);intro w6 ho6 hb6 hg6;have HN6:Zrw (Kd.N k76 73 w6 wr.heap.size (Okp g0 g1 g2 X.heap.size) (.slice (some ⟨wr.heap.size,0,none⟩) 1 1) [y]):=⟨ho6⟩;have HB6:=Zrw.mk hb6;clear ho6 hb6 hg6)
     obtain⟨gb,hgb⟩:∃gb,gb=wr.heap.size:=⟨_,rfl⟩
     have HGB:=Zrw.mk hgb;rw[←hgb]at HN6 ⊢;have HGL:Zrw (g<gb):=⟨by have:=HGY.out;omega⟩
     clear hgb x0 x1 x2 x3 hi8 hil;obtain⟨Z,hZ⟩:∃Z,Z=wr:=⟨_,rfl⟩
     subst hZ;go_wp2
     go_loopw [15] (fun q wr=>∃(j:Nat) (pp:S76),1≤j∧j≤m∧q=.int .i64 j∧Zrw (FoldAt a0 a1 a2 xs j pp)∧Zrw (Kd.N k76 73 wr gb (Okp g0 g1 g2 X.heap.size) (.slice (some ⟨gb,0,none⟩) 1 1) [pp])∧Zrw (Below gb Z wr)) (fun q _=>m-(intOf q).toNat)
     case atStart=>exact⟨1,y,by omega,by omega,rfl,⟨HP1.out⟩,⟨HN6.out⟩,⟨by rw[HGB.out];exact HB6.out⟩⟩
     case round=>
      obtain⟨j,pp,hj1,hjm,rfl,HPJ,HNB,HBJ⟩:=hrel;by_cases hjl:j<m
      ·obtain⟨el,hel1,hel2,hel3,hel4⟩:=Kd.N_elem HN.out z76 (j:Int) (by omega) (by omega);rw[Int.toNat_natCast]at hel2 hel3 hel4;obtain⟨B1,d1,B2,d2,B3,d3,rfl,_⟩:=Zbj (Kd.FK_now hel2);have HBZ:Zrw (Below Z.heap.size Z wr):=⟨by rw[←HGB.out];exact HBJ.out⟩
       have HEY:=Zrw.mk (Kd.FK_below (Kd.FK_bound hel2) HBZ.out);obtain⟨y,hy⟩:∃y,y=xs.getD j z76:=⟨_,rfl⟩
       have HY:=Zrw.mk hy;rw[←hy]at HEY hel3;have Y0:Zrw (wr.cell? ⟨g,j*4,none⟩=some (.int .i64 y.f0)):=⟨Zad HBZ.out (hel3 0 _ rfl)⟩
       have Y1:Zrw (wr.cell? ⟨g,j*4+1,none⟩=some (.slice B1 y.f1.length d1)):=⟨Zad HBZ.out (hel3 1 _ rfl)⟩
       have Y2:Zrw (wr.cell? ⟨g,j*4+2,none⟩=some (.slice B2 y.f2.length d2)):=⟨Zad HBZ.out (hel3 2 _ rfl)⟩
       have Y3:Zrw (wr.cell? ⟨g,j*4+3,none⟩=some (.slice B3 y.f3.length d3)):=⟨Zad HBZ.out (hel3 3 _ rfl)⟩
       obtain⟨cb,hcb,hfb⟩:=Zcb HNB.out;obtain⟨C1,b1,C2,b2,C3,b3,rfl,_⟩:=Zbj (Kd.FK_now hfb);have HCB:=Zrw.mk hcb;have HFB:=Zrw.mk hfb;have X0:Zrw (wr.cell? ⟨gb,0,none⟩=some (.int .i64 pp.f0)):=⟨(Zaa hcb 0).trans rfl⟩
       have X1:Zrw (wr.cell? ⟨gb,1,none⟩=some (.slice C1 pp.f1.length b1)):=⟨(Zaa hcb 1).trans rfl⟩
       have X2:Zrw (wr.cell? ⟨gb,2,none⟩=some (.slice C2 pp.f2.length b2)):=⟨(Zaa hcb 2).trans rfl⟩
       have X3:Zrw (wr.cell? ⟨gb,3,none⟩=some (.slice C3 pp.f3.length b3)):=⟨(Zaa hcb 3).trans rfl⟩
       have HJM:Zrw (j<m):=⟨hjl⟩
       have HLB:Zrw (gb<wr.heap.size):=⟨Zdx hcb⟩
       have hfr:wr.frozen? ⟨gb,0,none⟩=false:=by simp[World.frozen?,hcb]
       have HFR:=Zrw.mk hfr;clear hel1 hel2 hel3 hel4 hy hcb hfb hfr
       go_upto_region 29 with fail
       obtain⟨Y,hY⟩:∃Y,Y=wr:=⟨_,rfl⟩
       subst hY;clear hjl;refine Zba 7 _ Zcf (Zot (.slice (some ⟨g,0,none⟩) m cs) m j g #[.int .i64 pp.f0,.slice C1 pp.f1.length b1,.slice C2 pp.f2.length b2,.slice C3 pp.f3.length b3] #[.int .i64 y.f0,.slice B1 y.f1.length d1,.slice B2 y.f2.length d2,.slice B3 y.f3.length d3] #[.int .i64 pp.f0,.slice C1 pp.f1.length b1,.slice C2 pp.f2.length b2,.slice C3 pp.f3.length b3,.int .i64 y.f0,.slice B1 y.f1.length d1,.slice B2 y.f2.length d2,.slice B3 y.f3.length d3] Y.heap.size) Zca (by kernel_rfl) (by kernel_rfl) (by kernel_rfl) rfl Zbh Zbc (Zkk _ _ _ _ _ _ _ _) ?step ?fin
       case step=>
        repeat (rename_i z;clear z)
        refine⟨?_,?_,?_,?_,?_,?_,?_,trivial⟩ <;> intro vals W hR0 hd <;> have hR:=Zae (Zao (Below.refl _ Y)) hR0
        ·have x0b:=Zad hR X0.out;have x1b:=Zad hR X1.out;have x2b:=Zad hR X2.out;have x3b:=Zad hR X3.out;refine Zac (W':=W) ?_ ⟨Zbr,rfl⟩
         clear hd;simp only[Zan,Zcf,Zah];go_simp
        ·refine Zac (W':=W) ?_ ⟨Zbr,rfl⟩
         clear hd;simp only[Zan,Zcf,Zah];go_simp
        ·refine Zac (W':=W) ?_ ⟨Zbr,rfl⟩
         clear hd;simp only[Zan,Zcf,Zah];go_simp
        ·have h1:vals 1=(.slice (some ⟨g,0,none⟩) m cs):=hd 1 (by simp[Zcf]);have h2:vals 2=.int .i64 (j:Int):=hd 2 (by simp[Zcf]);have hjm:=HJM.out;refine Zac (W':=W) ?_ ⟨Zbr,rfl⟩
         clear hd;simp only[Zan,Zcf,Zah,h1,h2];go_simp
        ·have h3:vals 3=.pointer (some ⟨g,j*4,none⟩):=hd 3 (by simp[Zcf]);have x0b:=Zad hR Y0.out;have x1b:=Zad hR Y1.out;have x2b:=Zad hR Y2.out;have x3b:=Zad hR Y3.out;refine Zac (W':=W) ?_ ⟨Zbr,rfl⟩
         clear hd;simp only[Zan,Zcf,Zah,h3];go_simp
        ·have h0:vals 0=.agg #[.int .i64 pp.f0,.slice C1 pp.f1.length b1,.slice C2 pp.f2.length b2,.slice C3 pp.f3.length b3]:=hd 0 (by simp[Zcf]);have h4:vals 4=.agg #[.int .i64 y.f0,.slice B1 y.f1.length d1,.slice B2 y.f2.length d2,.slice B3 y.f3.length d3]:=hd 4 (by simp[Zcf]);clear hd;refine Zac (W':=W.alloc (.cells #[.int .i64 pp.f0,.slice C1 pp.f1.length b1,.slice C2 pp.f2.length b2,.slice C3 pp.f3.length b3,.int .i64 y.f0,.slice B1 y.f1.length d1,.slice B2 y.f2.length d2,.slice B3 y.f3.length d3] 73)) (v:=.slice (some ⟨W.heap.size,0,none⟩) 2 2) ?_ ⟨Zab Zbr _,W.heap.size,rfl,hR.size,Zaj W _⟩
         simp only[Zan,Zcf,Zah,h0,h4];go_simp
        ·have h5:∃gl,(vals 5)=.slice (some ⟨gl,0,none⟩) 2 2∧Y.heap.size≤gl∧W.heap[gl]?=some (.cells #[.int .i64 pp.f0,.slice C1 pp.f1.length b1,.slice C2 pp.f2.length b2,.slice C3 pp.f3.length b3,.int .i64 y.f0,.slice B1 y.f1.length d1,.slice B2 y.f2.length d2,.slice B3 y.f3.length d3] 73 (0,0)):=hd 5 (by simp[Zcf]);obtain⟨gl,e5,hg5,hk5⟩:=h5;clear hd;refine Zac (W':=W) (v:=.agg #[.int .i64 5,.slice none 0 0,.slice none 0 0,.slice (some ⟨gl,0,none⟩) 2 2]) ?_ ⟨Zbr,gl,rfl,hg5,hk5⟩
         simp only[Zan,Zcf,Zah,e5];go_simp
       case fin=>
        intro vals W hR0 hF;have hR:=Zae (Zao (Below.refl _ Y)) hR0;have f0:vals 0=.agg #[.int .i64 pp.f0,.slice C1 pp.f1.length b1,.slice C2 pp.f2.length b2,.slice C3 pp.f3.length b3]:=hF 0 (by decide);have f1:vals 1=(.slice (some ⟨g,0,none⟩) m cs):=hF 1 (by decide);have f2:vals 2=.int .i64 (j:Int):=hF 2 (by decide);have f3:vals 3=.pointer (some ⟨g,j*4,none⟩):=hF 3 (by decide);have f4:vals 4=.agg #[.int .i64 y.f0,.slice B1 y.f1.length d1,.slice B2 y.f2.length d2,.slice B3 y.f3.length d3]:=hF 4 (by decide);have f5:∃gl,(vals 5)=.slice (some ⟨gl,0,none⟩) 2 2∧Y.heap.size≤gl∧W.heap[gl]?=some (.cells #[.int .i64 pp.f0,.slice C1 pp.f1.length b1,.slice C2 pp.f2.length b2,.slice C3 pp.f3.length b3,.int .i64 y.f0,.slice B1 y.f1.length d1,.slice B2 y.f2.length d2,.slice B3 y.f3.length d3] 73 (0,0)):=hF 5 (by decide);have f6:∃gl,(vals 6)=.agg #[.int .i64 5,.slice none 0 0,.slice none 0 0,.slice (some ⟨gl,0,none⟩) 2 2]∧Y.heap.size≤gl∧W.heap[gl]?=some (.cells #[.int .i64 pp.f0,.slice C1 pp.f1.length b1,.slice C2 pp.f2.length b2,.slice C3 pp.f3.length b3,.int .i64 y.f0,.slice B1 y.f1.length d1,.slice B2 y.f2.length d2,.slice B3 y.f3.length d3] 73 (0,0)):=hF 6 (by decide);clear hF hR0;rw[show List.range 7=[0,1,2,3,4,5,6]from rfl];simp only[Zan,Zah,Act.put,List.getElem?_toArray,List.getElem?_cons_zero,List.getElem?_cons_succ,Option.bind_some,List.setIfInBounds_toArray,List.set_cons_zero,List.set_cons_succ,List.drop_succ_cons,List.drop_zero,f0,f1,f2,f3,f4];obtain⟨gl5,f5,_,_⟩:=f5;obtain⟨gl,f6,hgl,kl⟩:=f6;have HBW:Zrw (Below gb Z W):=⟨Below.trans HBJ.out (Below.mono hR (Nat.le_of_lt HLB.out))⟩
        have HNW:=Zrw.mk (Kd.N_below HNB.out hR);have HCW:=Zrw.mk (Zaf HCB.out hR);have fr1:W.frozen? ⟨gb,0,none⟩=false:=by rw[World.frozen?_of_block (hR.block gb HLB.out)];exact HFR.out
        have HKW:Zrw (Kd.FK k76 W (fun k=>Okp g0 g1 g2 X.heap.size k∧k≠gb) (⟨5,[],[],[pp,y]⟩:S76) [.int .i64 5,.slice none 0 0,.slice none 0 0,.slice (some ⟨gl,0,none⟩) 2 2]):=
         ⟨Zhr 5 (Zjb (c1:=[.int .i64 pp.f0,.slice C1 pp.f1.length b1,.slice C2 pp.f2.length b2,.slice C3 pp.f3.length b3]) (c2:=[.int .i64 y.f0,.slice B1 y.f1.length d1,.slice B2 y.f2.length d2,.slice B3 y.f3.length d3]) kl ⟨HF8.out _ (by have:=HB.out.size;have:=HGB.out;have:=HLB.out;omega),by have:=HLB.out;omega⟩ (Kd.FK_below HFB.out hR) (Kd.FK_mono (Kd.FK_below HEY.out hR) (fun k hk=>⟨hk.1.1,by have:=hk.2;have:=HGB.out;omega⟩)))⟩
        have HP7:Zrw (FoldAt a0 a1 a2 xs (j+1) (⟨5,[],[],[pp,y]⟩:S76)):=⟨HPJ.out.step (by have:=HJM.out;have:=HXL.out;omega) (fun D n q h1 h2=>.inr (.inr (.inr (.inr ⟨.inl rfl,rfl,rfl,_,_,n,q,rfl,h1,by rw[HY.out];exact h2,by omega⟩))))⟩
        have hjm2:j+1≤m:=by have:=HJM.out;omega
        have hj8:j<8:=by have:=HL8.out;omega
        simp only[f5,f6];clear hR hgl kl
        go_wp2_with ((with_reducible refine Zbb (t:=73) (p:=14) rfl ?_);refine Kd.N_store k76 (w0:=Z) (W:=W) gb rfl rfl 73 (.tmp 14) (.tmp 213) rfl 73 (0:Int) 0 [pp] (⟨5,[],[],[pp,y]⟩:S76) (.agg #[.int .i64 5,.slice none 0 0,.slice none 0 0,.slice (some ⟨gl,0,none⟩) 2 2]) [.int .i64 5,.slice none 0 0,.slice none 0 0,.slice (some ⟨gl,0,none⟩) 2 2] [.int .i64 pp.f0,.slice C1 pp.f1.length b1,.slice C2 pp.f2.length b2,.slice C3 pp.f3.length b3] (Okp g0 g1 g2 X.heap.size) (fun k=>Okp g0 g1 g2 X.heap.size k∧k≠gb) rfl ?sO rfl rfl rfl ?s1 HNW.out ?s2 ?s3 rfl ?s4 ?s5 HKW.out (fun _ h=>h) HBW.out ?_;(case sO=>rfl);(case s1=>first | decide | (intro q hq2;simp at hq2;rcases hq2 with rfl | rfl | rfl | rfl <;> rfl));(case s2=>omega);(case s3=>omega);(case s4=>exact Zbo HCW.out 4);(case s5=>exact Nat.le_refl 4);intro w6 ho6 hb6 hg6;have HN7:=Zrw.mk ho6;have HB7:=Zrw.mk hb6;clear ho6 hb6 hg6)
        go_roundw
        case rel=>exact⟨j+1,_,by omega,hjm2,by simp,HP7,HN7,HB7⟩
        case measure=>show m-((j:Int)+1).toNat<m-(j:Int).toNat;omega
      ·obtain rfl:j=m:=by omega
       have HBZ:Zrw (Below Z.heap.size Z wr):=⟨by rw[←HGB.out];exact HBJ.out⟩
       obtain⟨cb,hcb,hfb⟩:=Zcb HNB.out;obtain⟨C1,b1,C2,b2,C3,b3,rfl,_⟩:=Zbj (Kd.FK_now hfb);have HFB:=Zrw.mk hfb;have x0:wr.cell? ⟨gb,0,none⟩=some (.int .i64 pp.f0):=(Zaa hcb 0).trans rfl;have x1:wr.cell? ⟨gb,1,none⟩=some (.slice C1 pp.f1.length b1):=(Zaa hcb 1).trans rfl;have x2:wr.cell? ⟨gb,2,none⟩=some (.slice C2 pp.f2.length b2):=(Zaa hcb 2).trans rfl;have x3:wr.cell? ⟨gb,3,none⟩=some (.slice C3 pp.f3.length b3):=(Zaa hcb 3).trans rfl;have HN8X:=HN8W;have HK8X:=HK8W;have HN8W:=Zrw.mk (Kd.N_below HN8X.out HBZ.out);have HK8W:=Zrw.mk (Zaf HK8X.out HBZ.out);have HB1:=Zrw.mk (Below.trans HB0.out (Below.mono HBZ.out (by have:=HB0.out.size;have:=HG8.out;omega)));have HMM:Zrw (FoldAt a0 a1 a2 xs xs.length pp):=⟨by have:=HXL.out;rw[←this];exact HPJ.out⟩
       clear hcb hfb
       go_wp2_with ((with_reducible refine Zbb (t:=73) (p:=8) rfl ?_);refine Kd.N_store k76 (w0:=w) (W:=wr) g8 rfl rfl 73 (.tmp 8) (.tmp 214) rfl 73 (0:Int) 0 [z76] pp (.agg #[.int .i64 pp.f0,.slice C1 pp.f1.length b1,.slice C2 pp.f2.length b2,.slice C3 pp.f3.length b3]) [.int .i64 pp.f0,.slice C1 pp.f1.length b1,.slice C2 pp.f2.length b2,.slice C3 pp.f3.length b3] [.int .i64 0,.slice none 0 0,.slice none 0 0,.slice none 0 0] (fun k=>k=g8∨Okp g0 g1 g2 X.heap.size k) (fun k=>Okp g0 g1 g2 X.heap.size k∧k≠gb) rfl ?sO rfl rfl rfl ?s1 HN8W.out ?s2 ?s3 rfl ?s4 ?s5 HFB.out (fun k h=>⟨.inr h.1,HX8.out k h.1⟩) HB1.out ?_;(case sO=>rfl);(case s1=>first | decide | (intro q hq2;simp at hq2;rcases hq2 with rfl | rfl | rfl | rfl <;> rfl));(case s2=>omega);(case s3=>omega);(case s4=>exact Zbo HK8W.out 4);(case s5=>exact Nat.le_refl 4);intro w6 ho6 hb6 hg6;have HN6:=Zrw.mk ho6;have HB6:=Zrw.mk hb6;clear ho6 hb6 hg6)
       go_wp2
       obtain⟨cb,hcb,hfb⟩:=Zcb HN6.out;have hfb:=Kd.FK_mono hfb (fun k h=>HW8.out k (h.1.resolve_left h.2));rw[HG8.out]at HB6;obtain⟨E1,j1,E2,j2,E3,j3,rfl,_⟩:=Zbj (Kd.FK_now hfb);refine bodyPost_ret (results_cell_row rfl _ _ g8 73 _ (0,0) _ rfl hcb Tryz.underlying73 rfl (by kernel_rfl)) rfl ?_
       obtain⟨D,N,hM,hD,hN⟩:=HMM.out.all;exact⟨pp,_,rfl,⟨D,N,hM,hD,by have:=HL8.out;have:=HXL.out;omega⟩,hfb,HB6.out⟩
end Go.Proofs.YtaokkliamoghbaaGreatDoor.PVpa
