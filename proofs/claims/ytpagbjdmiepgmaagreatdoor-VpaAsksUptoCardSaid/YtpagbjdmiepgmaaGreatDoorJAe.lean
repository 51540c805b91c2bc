/- Joined from texts of this seat, in their order. -/
import Derived.Test.YtpagbjdmiepgmaaGreatDoorJAc
import Derived.Test.YtpagbjdmiepgmaaGreatDoorJAb
import Derived.BigQuiet
set_option linter.unusedVariables false
set_option linter.unusedSimpArgs false
set_option linter.unusedSectionVars false
set_option maxRecDepth 100000
namespace Go.Proofs.YtpagbjdmiepgmaaGreatDoor.PVpa
open Go.RowKit Go.Proofs.YtpagbjdmiepgmaaGreatDoorW.PrintWords Go.Proofs.YtpagbjdmiepgmaaGreatDoorW.PrintLast Go.Proofs.YtpagbjdmiepgmaaGreatDoorW.PrintMore
theorem Zgz:(Tryz.prog.info? 76).map (fun i=>(i.zero,i.size,i.bytes))=some (some (.agg #[.int .i64 0,.slice none 0 0,.slice none 0 0,.slice none 0 0]),4,80):=by kernel_rfl
theorem Zsp (k:Int):∃c:Nat,c<11∧(IntKind.u64.wrap k).tmod 11=c:=by
 have h:IntKind.u64.wrap k=k % 18446744073709551616:=by rw[IntKind.wrap_u64]
 rw[h];have h0:0≤k % 18446744073709551616:=Int.emod_nonneg _ (by decide);rw[Int.tmod_eq_emod_of_nonneg h0];exact⟨(k % 18446744073709551616 % 11).toNat,by omega,by omega⟩
theorem far_own {α:Type}{d:Kd α}{e b:Nat}{w:World}{ok:Nat→Prop}{v:Value}{xs:List α}(h:Kd.N d e w b ok v xs){k:Nat}(hk:k<b):some k≠v.ownBlock:=fun he=>by
 have:=Kd.N_base h k he.symm;omega
theorem LitS.lt {w:World}{g:Nat}{l:List ByteArray}(h:LitS w g l):g<w.heap.size:=by
 have:=h.blk
 rcases Nat.lt_or_ge g w.heap.size with hlt | hge
 ·exact hlt
 ·rw[Array.getElem?_eq_none hge]at this;cases this
theorem Zgf (g n:Nat)(l:List ByteArray)(hl:l.length=n)(hn:n=1∨n=2)(k:Int)(w:World)(h:LitS w g l) :
 Calls Tryz.prog 30 #[.slice (some ⟨g,0,none⟩) n n,.int .i64 k] w fun e w'=>(∃A c l',e=.returned (.slice A l'.length c)∧l'.length≤c∧Some0 l l'∧Kd.F Kd.string w (fun b=>b=g) A l'.length l')∧w'=w:=by
 refine (pick_call g n hn k w).mono ?_
 rintro e w' ⟨⟨v,rfl,hp⟩,rfl⟩;refine⟨?_,rfl⟩;obtain⟨A,c,l',rfl,h1,h2,h3,h4⟩:=picked_all hl (by omega) hp;exact⟨A,c,l',rfl,h1,⟨h2,h3⟩,fun W' hW=>h4 W' ⟨(hW g rfl h.lt).trans h.blk⟩⟩
theorem Zfn (W:World)(ok:Nat→Prop)(k:Int):Kd.FK k76 W ok (⟨k,[],[],[]⟩:S76) [.int .i64 k,.slice none 0 0,.slice none 0 0,.slice none 0 0]:=
 Zmk W ok ⟨k,[],[],[]⟩ (Nat.le_refl _) (Kd.F_nil _ _ _) (Nat.le_refl _) (Kd.F_nil _ _ _) (Nat.le_refl _) (Kd.F_nil _ _ _)
theorem Ztu (W:World)(ok:Nat→Prop)(k:Int)(A:Option Addr)(c:Nat)(l:List ByteArray)(hc:l.length≤c)(hf:Kd.F Kd.string W ok A l.length l):Kd.FK k76 W ok (⟨k,l,[],[]⟩:S76) [.int .i64 k,.slice A l.length c,.slice none 0 0,.slice none 0 0]:=
 Zmk W ok ⟨k,l,[],[]⟩ hc hf (Nat.le_refl _) (Kd.F_nil _ _ _) (Nat.le_refl _) (Kd.F_nil _ _ _)
def Zcl:Nat→List Nat
 | 2=>[1]
 | 5=>[4]
 | 6=>[3,5]
 | 9=>[8]
 | 10=>[7,9]
 | 13=>[12]
 | 14=>[11,13]
 | 15=>[14]
 | 16=>[15]
 | 17=>[6,10,16]
 | _=>[]
def phiP18 (sv:Value)(m k:Nat)(x:Int)(g1 n1 g2 n2:Nat)(a1 a2:List ByteArray)(g lo:Nat)(ycs:Array Value):Nat→List Value→World→Prop
 | 0,[v],_=>v=sv
 | 1,[v],_=>v=.int .i64 (m:Int)
 | 2,[v,_],_=>v=.int .i64 (k:Int)
 | 3,[v],_=>v=.slice (some ⟨g1,0,none⟩) n1 n1
 | 4,[v],_=>v=.int .i64 x
 | 5,[v,_],_=>∃q,v=.int .i64 q
 | 6,[v,_,_],W=>∃A c l,v=.slice A l.length c∧l.length≤c∧Some0 a1 l∧Kd.F Kd.string W (fun b=>b=g1) A l.length l
 | 7,[v],_=>v=.slice (some ⟨g2,0,none⟩) n2 n2
 | 8,[v],_=>v=.int .i64 x
 | 9,[v,_],_=>∃q,v=.int .i64 q
 | 10,[v,_,_],W=>∃A c l,v=.slice A l.length c∧l.length≤c∧Some0 a2 l∧Kd.F Kd.string W (fun b=>b=g2) A l.length l
 | 11,[v],_=>v=sv
 | 12,[v],_=>v=.int .i64 (m:Int)
 | 13,[v,_],_=>v=.int .i64 (k:Int)
 | 14,[v,_,_],_=>v=.pointer (some ⟨g,k*4,none⟩)
 | 15,[v,_],_=>v=.agg ycs
 | 16,[v,_],W=>∃gl,v=.slice (some ⟨gl,0,none⟩) 1 1∧lo≤gl∧W.heap[gl]?=some (.cells ycs 76 (0,0))
 | 17,[v,x6,x10,x16],_=>v=.agg #[.int .i64 3,x6,x10,x16]
 | _,_,_=>True
theorem Ztm (sv:Value)(m k:Nat)(x:Int)(g1 n1 g2 n2:Nat)(a1 a2:List ByteArray)(g lo:Nat)(ycs:Array Value):∀i vs w w',phiP18 sv m k x g1 n1 g2 n2 a1 a2 g lo ycs i vs w→Zca w w'→phiP18 sv m k x g1 n1 g2 n2 a1 a2 g lo ycs i vs w':=by
 intro i vs w w' h hb;unfold phiP18 at h ⊢
 split at h
 case h_6=>
  exact h
 case h_7=>
  obtain⟨A,c,l,h1,h2,h3,h4⟩:=h;exact⟨A,c,l,h1,h2,h3,Kd.F_below h4 hb⟩
 case h_10=>
  exact h
 case h_11=>
  obtain⟨A,c,l,h1,h2,h3,h4⟩:=h;exact⟨A,c,l,h1,h2,h3,Kd.F_below h4 hb⟩
 case h_17=>
  obtain⟨gl,h1,h2,h3⟩:=h;exact⟨gl,h1,h2,Zag h3 hb⟩
 all_goals exact h
def Zba:Nat→List Nat
 | 3=>[2]
 | 4=>[1,3]
 | 7=>[6]
 | 8=>[5,7]
 | 11=>[10]
 | 12=>[11]
 | 13=>[9,12]
 | 14=>[13]
 | 15=>[14]
 | 16=>[15]
 | 17=>[4,8,16]
 | 18=>[17]
 | _=>[]
def Zrd (sv:Value)(x:Int)(g1 n1 g2 n2:Nat)(a1 a2:List ByteArray)(lo:Nat):Nat→List Value→World→Prop
 | 0,[v],_=>v=sv
 | 1,[v],_=>v=.slice (some ⟨g1,0,none⟩) n1 n1
 | 2,[v],_=>v=.int .i64 x
 | 3,[v,_],_=>∃q,v=.int .i64 q
 | 4,[v,_,_],W=>∃A c l,v=.slice A l.length c∧l.length≤c∧Some0 a1 l∧Kd.F Kd.string W (fun b=>b=g1) A l.length l
 | 5,[v],_=>v=.slice (some ⟨g2,0,none⟩) n2 n2
 | 6,[v],_=>v=.int .i64 x
 | 7,[v,_],_=>∃q,v=.int .i64 q
 | 8,[v,_,_],W=>∃A c l,v=.slice A l.length c∧l.length≤c∧Some0 a2 l∧Kd.F Kd.string W (fun b=>b=g2) A l.length l
 | 9,[v],W=>∃gl,v=.slice (some ⟨gl,0,none⟩) 2 2∧W.heap[gl]?=some (.cells #[.int .i64 1,.int .i64 4] 3 (0,0))
 | 10,[v],_=>v=.int .i64 x
 | 11,[v,_],_=>∃q,v=.int .i64 q
 | 12,[v,_],_=>v=.int .i64 0∨v=.int .i64 1
 | 13,[v,_,_],W=>∃gl q,v=.pointer (some ⟨gl,q,none⟩)∧(q=0∨q=1)∧W.heap[gl]?=some (.cells #[.int .i64 1,.int .i64 4] 3 (0,0))
 | 14,[v,_],_=>v=.int .i64 1∨v=.int .i64 4
 | 15,[v,_],_=>∃e:Int,(e=1∨e=4)∧v=.agg #[.int .i64 e,.slice none 0 0,.slice none 0 0,.slice none 0 0]
 | 16,[v,_],W=>∃(gl:Nat) (e:Int),(e=1∨e=4)∧v=.slice (some ⟨gl,0,none⟩) 1 1∧lo≤gl∧W.heap[gl]?=some (.cells #[.int .i64 e,.slice none 0 0,.slice none 0 0,.slice none 0 0] 76 (0,0))
 | 17,[v,x4,x8,x16],_=>∃(A1:Option Addr) (k1 c1:Nat) (A2:Option Addr) (k2 c2 g3:Nat),x4=.slice A1 k1 c1∧x8=.slice A2 k2 c2∧x16=.slice (some ⟨g3,0,none⟩) 1 1∧v=.agg #[.int .i64 3,.slice A1 k1 c1,.slice A2 k2 c2,.slice (some ⟨g3,0,none⟩) 1 1]
 | 18,[v,x17],W=>∃gl c,v=.slice (some ⟨gl,0,none⟩) 1 1∧lo≤gl∧x17=.agg c∧W.heap[gl]?=some (.cells c 76 (0,0))
 | _,_,_=>True
theorem Zma (sv:Value)(x:Int)(g1 n1 g2 n2:Nat)(a1 a2:List ByteArray)(lo:Nat):∀i vs w w',Zrd sv x g1 n1 g2 n2 a1 a2 lo i vs w→Zca w w'→Zrd sv x g1 n1 g2 n2 a1 a2 lo i vs w':=by
 intro i vs w w' h hb;unfold Zrd at h ⊢
 split at h
 case h_4=>
  exact h
 case h_5=>
  obtain⟨A,c,l,h1,h2,h3,h4⟩:=h;exact⟨A,c,l,h1,h2,h3,Kd.F_below h4 hb⟩
 case h_8=>
  exact h
 case h_9=>
  obtain⟨A,c,l,h1,h2,h3,h4⟩:=h;exact⟨A,c,l,h1,h2,h3,Kd.F_below h4 hb⟩
 case h_10=>
  obtain⟨gl,h1,h2⟩:=h;exact⟨gl,h1,Zag h2 hb⟩
 case h_12=>
  exact h
 case h_13=>
  exact h
 case h_14=>
  obtain⟨gl,q,h1,h2,h3⟩:=h;exact⟨gl,q,h1,h2,Zag h3 hb⟩
 case h_15=>
  exact h
 case h_16=>
  exact h
 case h_17=>
  obtain⟨gl,e,h1,h2,h3,h4⟩:=h;exact⟨gl,e,h1,h2,h3,Zag h4 hb⟩
 case h_18=>
  exact h
 case h_19=>
  obtain⟨gl,c,h1,h2,h3,h4⟩:=h;exact⟨gl,c,h1,h2,h3,Zag h4 hb⟩
 all_goals exact h
def Zbd:Nat→List Nat
 | 2=>[1]
 | 4=>[3]
 | 5=>[0,2,4]
 | 8=>[7]
 | 9=>[6,8]
 | 10=>[9]
 | 13=>[12]
 | 14=>[11,13]
 | 15=>[14]
 | 16=>[10,15]
 | 17=>[16]
 | 18=>[17]
 | _=>[]
def Zrc (sv:Value)(m j k g:Nat)(xcs ycs zcs:Array Value)(lo:Nat):Nat→List Value→World→Prop
 | 0,[v],_=>v=sv
 | 1,[v],_=>v=.int .i64 (m:Int)
 | 2,[v,_],_=>v=.int .i64 (j:Int)
 | 3,[v],_=>v=.int .i64 (m:Int)
 | 4,[v,_],_=>v=.int .i64 (j:Int)
 | 5,[v,_,_,_],_=>v=.slice (some ⟨g,0,none⟩) j j
 | 6,[v],_=>v=sv
 | 7,[v],_=>v=.int .i64 (m:Int)
 | 8,[v,_],_=>v=.int .i64 (j:Int)
 | 9,[v,_,_],_=>v=.pointer (some ⟨g,j*4,none⟩)
 | 10,[v,_],_=>v=.agg xcs
 | 11,[v],_=>v=sv
 | 12,[v],_=>v=.int .i64 (m:Int)
 | 13,[v,_],_=>v=.int .i64 (k:Int)
 | 14,[v,_,_],_=>v=.pointer (some ⟨g,k*4,none⟩)
 | 15,[v,_],_=>v=.agg ycs
 | 16,[v,_,_],W=>∃gl,v=.slice (some ⟨gl,0,none⟩) 2 2∧lo≤gl∧W.heap[gl]?=some (.cells zcs 76 (0,0))
 | 17,[v,_],W=>∃gl,v=.agg #[.int .i64 5,.slice none 0 0,.slice none 0 0,.slice (some ⟨gl,0,none⟩) 2 2]∧lo≤gl∧W.heap[gl]?=some (.cells zcs 76 (0,0))
 | 18,[v,_],W=>∃gl g2,v=.slice (some ⟨g2,0,none⟩) 1 1∧lo≤gl∧lo≤g2∧W.heap[gl]?=some (.cells zcs 76 (0,0))∧W.heap[g2]?=some (.cells #[.int .i64 5,.slice none 0 0,.slice none 0 0,.slice (some ⟨gl,0,none⟩) 2 2] 76 (0,0))
 | _,_,_=>True
theorem Zlz (sv:Value)(m j k g:Nat)(xcs ycs zcs:Array Value)(lo:Nat):∀i vs w w',Zrc sv m j k g xcs ycs zcs lo i vs w→Zca w w'→Zrc sv m j k g xcs ycs zcs lo i vs w':=by
 intro i vs w w' h hb;unfold Zrc at h ⊢
 split at h
 case h_17=>
  obtain⟨gl,h1,h2,h3⟩:=h;exact⟨gl,h1,h2,Zag h3 hb⟩
 case h_18=>
  obtain⟨gl,h1,h2,h3⟩:=h;exact⟨gl,h1,h2,Zag h3 hb⟩
 case h_19=>
  obtain⟨gl,g2,h1,h2,h5,h3,h4⟩:=h;exact⟨gl,g2,h1,h2,h5,Zag h3 hb,Zag h4 hb⟩
 all_goals exact h
def Zch:Nat→List Nat
 | 2=>[1]
 | 4=>[3]
 | 5=>[0,2,4]
 | 8=>[7]
 | 9=>[6,8]
 | 10=>[9]
 | 13=>[12]
 | 14=>[11,13]
 | 15=>[14]
 | 16=>[10,15]
 | 17=>[16]
 | 18=>[17]
 | _=>[]
def phiP22 (sv:Value)(m j k g:Nat)(xcs ycs zcs:Array Value)(lo:Nat):Nat→List Value→World→Prop
 | 0,[v],_=>v=sv
 | 1,[v],_=>v=.int .i64 (m:Int)
 | 2,[v,_],_=>v=.int .i64 (j:Int)
 | 3,[v],_=>v=.int .i64 (m:Int)
 | 4,[v,_],_=>v=.int .i64 (j:Int)
 | 5,[v,_,_,_],_=>v=.slice (some ⟨g,0,none⟩) j j
 | 6,[v],_=>v=sv
 | 7,[v],_=>v=.int .i64 (m:Int)
 | 8,[v,_],_=>v=.int .i64 (j:Int)
 | 9,[v,_,_],_=>v=.pointer (some ⟨g,j*4,none⟩)
 | 10,[v,_],_=>v=.agg xcs
 | 11,[v],_=>v=sv
 | 12,[v],_=>v=.int .i64 (m:Int)
 | 13,[v,_],_=>v=.int .i64 (k:Int)
 | 14,[v,_,_],_=>v=.pointer (some ⟨g,k*4,none⟩)
 | 15,[v,_],_=>v=.agg ycs
 | 16,[v,_,_],W=>∃gl,v=.slice (some ⟨gl,0,none⟩) 2 2∧lo≤gl∧W.heap[gl]?=some (.cells zcs 76 (0,0))
 | 17,[v,_],W=>∃gl,v=.agg #[.int .i64 6,.slice none 0 0,.slice none 0 0,.slice (some ⟨gl,0,none⟩) 2 2]∧lo≤gl∧W.heap[gl]?=some (.cells zcs 76 (0,0))
 | 18,[v,_],W=>∃gl g2,v=.slice (some ⟨g2,0,none⟩) 1 1∧lo≤gl∧lo≤g2∧W.heap[gl]?=some (.cells zcs 76 (0,0))∧W.heap[g2]?=some (.cells #[.int .i64 6,.slice none 0 0,.slice none 0 0,.slice (some ⟨gl,0,none⟩) 2 2] 76 (0,0))
 | _,_,_=>True
theorem Ztl (sv:Value)(m j k g:Nat)(xcs ycs zcs:Array Value)(lo:Nat):∀i vs w w',phiP22 sv m j k g xcs ycs zcs lo i vs w→Zca w w'→phiP22 sv m j k g xcs ycs zcs lo i vs w':=by
 intro i vs w w' h hb;unfold phiP22 at h ⊢
 split at h
 case h_17=>
  obtain⟨gl,h1,h2,h3⟩:=h;exact⟨gl,h1,h2,Zag h3 hb⟩
 case h_18=>
  obtain⟨gl,h1,h2,h3⟩:=h;exact⟨gl,h1,h2,Zag h3 hb⟩
 case h_19=>
  obtain⟨gl,g2,h1,h2,h5,h3,h4⟩:=h;exact⟨gl,g2,h1,h2,h5,Zag h3 hb,Zag h4 hb⟩
 all_goals exact h
def Zcz:Nat→List Nat
 | 3=>[1,2]
 | 4=>[3]
 | 5=>[0,4]
 | 6=>[5]
 | _=>[]
def Zrb (sv:Value)(m j g:Nat)(xcs ycs zcs:Array Value)(lo:Nat):Nat→List Value→World→Prop
 | 0,[v],_=>v=.agg xcs
 | 1,[v],_=>v=sv
 | 2,[v],_=>v=.int .i64 (j:Int)
 | 3,[v,_,_],_=>v=.pointer (some ⟨g,j*4,none⟩)
 | 4,[v,_],_=>v=.agg ycs
 | 5,[v,_,_],W=>∃gl,v=.slice (some ⟨gl,0,none⟩) 2 2∧lo≤gl∧W.heap[gl]?=some (.cells zcs 76 (0,0))
 | 6,[v,_],W=>∃gl,v=.agg #[.int .i64 5,.slice none 0 0,.slice none 0 0,.slice (some ⟨gl,0,none⟩) 2 2]∧lo≤gl∧W.heap[gl]?=some (.cells zcs 76 (0,0))
 | _,_,_=>True
theorem Zly (sv:Value)(m j g:Nat)(xcs ycs zcs:Array Value)(lo:Nat):∀i vs w w',Zrb sv m j g xcs ycs zcs lo i vs w→Zca w w'→Zrb sv m j g xcs ycs zcs lo i vs w':=by
 intro i vs w w' h hb;unfold Zrb at h ⊢
 split at h
 case h_6=>
  obtain⟨gl,h1,h2,h3⟩:=h;exact⟨gl,h1,h2,Zag h3 hb⟩
 case h_7=>
  obtain⟨gl,h1,h2,h3⟩:=h;exact⟨gl,h1,h2,Zag h3 hb⟩
 all_goals exact h
set_option maxHeartbeats 40000000 in
theorem Zkl (w:World)(A:Option Addr)(cl:Nat)(ls:List Int)(hls:(Kd.int .i64).C w A ls.length ls)(g0 n0 g1 n1 g2 n2:Nat)(a0 a1 a2:List ByteArray)(h0:LitS w g0 a0)(h1:LitS w g1 a1)(h2:LitS w g2 a2)
 (e0:a0.length=n0) (e1:a1.length=n1) (e2:a2.length=n2) (m0:n0=1∨n0=2) (m1:n1=1∨n1=2) (m2:n2=1∨n2=2) :
 Calls Tryz.prog 29 #[.slice A ls.length cl,.slice (some ⟨g0,0,none⟩) n0 n0,.slice (some ⟨g1,0,none⟩) n1 n1,.slice (some ⟨g2,0,none⟩) n2 n2] w fun e w'=>∃p cs,e=.returned (.agg cs.toArray)∧(∃D N,Mk a0 a1 a2 D N p∧D≤9∧N≤23)∧Kd.FK k76 w' (Okp g0 g1 g2 w.heap.size) p cs∧Below w.heap.size w w':=by
 have HLS:=Zaa.mk hls;have H0:=Zaa.mk h0;have H1:=Zaa.mk h1;have H2:=Zaa.mk h2;clear hls h0 h1 h2
 go_enter Tryz.func29,Tryz.ntmps29
 go_upto_region 2 with fail
 have hk8:=Zaq w (.cells #[.int .i64 0,.slice none 0 0,.slice none 0 0,.slice none 0 0] 76);have HB8:=Zaa.mk (Zae (Below.refl _ w) (.cells #[.int .i64 0,.slice none 0 0,.slice none 0 0,.slice none 0 0] 76));have hn8:Kd.N k76 76 (w.alloc (.cells #[.int .i64 0,.slice none 0 0,.slice none 0 0,.slice none 0 0] 76)) w.heap.size (fun k=>k=w.heap.size∨Okp g0 g1 g2 (w.alloc (.cells #[.int .i64 0,.slice none 0 0,.slice none 0 0,.slice none 0 0] 76)).heap.size k) (.slice (some ⟨w.heap.size,0,none⟩) 1 1) [z76]:=box_N (cs:=[.int .i64 0,.slice none 0 0,.slice none 0 0,.slice none 0 0]) (Zfn w (fun _=>False) 0) (fun _ h=>h.elim) (.inl rfl);have ht0:=H0.out.lt;have ht1:=H1.out.lt;have ht2:=H2.out.lt;obtain⟨g8,hg8⟩:∃g8,g8=w.heap.size:=⟨_,rfl⟩
 have HG8:=Zaa.mk hg8;rw[←hg8]at hk8 hn8 ⊢;clear hg8;have HSX:Zaa (w.heap.size<(w.alloc (.cells #[.int .i64 0,.slice none 0 0,.slice none 0 0,.slice none 0 0] 76)).heap.size):=⟨by simp⟩
 have HX8:Zaa (∀k,Okp g0 g1 g2 (w.alloc (.cells #[.int .i64 0,.slice none 0 0,.slice none 0 0,.slice none 0 0] 76)).heap.size k→k≠g8):=⟨fun k hk=>by have h1:=HSX.out;have h2:=HG8.out;rcases hk with rfl | rfl | rfl | hk <;> omega⟩
 have HW8:Zaa (∀k,Okp g0 g1 g2 (w.alloc (.cells #[.int .i64 0,.slice none 0 0,.slice none 0 0,.slice none 0 0] 76)).heap.size k→Okp g0 g1 g2 w.heap.size k):=⟨fun k hk=>by have h1:=HSX.out;rcases hk with hk | hk | hk | hk;exact .inl hk;exact .inr (.inl hk);exact .inr (.inr (.inl hk));exact .inr (.inr (.inr (by omega)))⟩
 clear ht0 ht1 ht2;generalize w.alloc (.cells #[.int .i64 0,.slice none 0 0,.slice none 0 0,.slice none 0 0] 76)=X at *;have HN8:=Zaa.mk hn8;have HF8:Zaa (∀k,X.heap.size≤k→Okp g0 g1 g2 X.heap.size k):=⟨fun k hk=>.inr (.inr (.inr hk))⟩
 have HO0:Zaa (Okp g0 g1 g2 X.heap.size g0):=⟨.inl rfl⟩
 have HO1:Zaa (Okp g0 g1 g2 X.heap.size g1):=⟨.inr (.inl rfl)⟩
 have HO2:Zaa (Okp g0 g1 g2 X.heap.size g2):=⟨.inr (.inr (.inl rfl))⟩
 clear hn8;have HK8:=Zaa.mk hk8;clear hk8;go_wp2
 go_loopw [9,10] (fun s q wr=>∃(i:Nat) (xs:List S76),i≤8∧i≤ls.length∧q=.int .i64 i∧Zaa (PcsAt a0 a1 a2 i xs)∧Zaa (Kd.N k76 76 wr X.heap.size (Okp g0 g1 g2 X.heap.size) s xs)∧Zaa (Below X.heap.size X wr)) (fun _ q _=>ls.length-(intOf q).toNat)
 case atStart=>exact⟨0,[],by omega,by omega,rfl,⟨PcsAt.nil⟩,⟨Kd.N_nil _ _ _ _ _⟩,⟨Zbr⟩⟩
 case round=>
  obtain⟨i,xs,hi8,hil,rfl,HP,HN,HB⟩:=hrel;obtain⟨As,cs,rfl⟩:=Kd.N_slice HN.out;by_cases hc:i<ls.length∧i<8
  ·obtain⟨hc1,hc2⟩:=hc;obtain⟨ad,rfl,hq0⟩:=Kd.at_int (Kd.C_below (Kd.C_below HLS.out HB8.out) HB.out) (i:Int) (by omega) (by omega);rw[Int.toNat_natCast]at hq0;obtain⟨x,hx⟩:∃x,x=rd ls (i:Int):=⟨_,rfl⟩
   rw[←hx]at hq0;clear hx;obtain⟨c,hc,hcx⟩:=Zsp x;have hm:(IntKind.i64.wrap (c:Int))=c:=by rw[IntKind.wrap_i64];omega
   have hil2:=(Kd.C_below (Kd.C_below HLS.out HB8.out) HB.out).2.1
   go_upto_region 5 with fail
   go_quiet (fail)
   have HLX:Zaa (xs.length≤8):=⟨by obtain⟨D,p1,p2,_⟩:=HP.out;omega⟩
   go_upto_region 7 with fail
   have HN':=Zaa.mk (Kd.N_drewN HN.out nq);have HB':=Zaa.mk (Zah HB.out nq);clear HN HB hq0;generalize wr.drewN nq=Y at *;have HN:=HN';have HB:=HB';have HBY:=Zaa.mk (Zaf HB8.out HB.out);have HPK0:=Zaa.mk (fun k W hb=>Zgf g0 n0 a0 e0 m0 k W (H0.out.below hb));have HPK1:=Zaa.mk (fun k W hb=>Zgf g1 n1 a1 e1 m1 k W (H1.out.below hb));have HPK2:=Zaa.mk (fun k W hb=>Zgf g2 n2 a2 e2 m2 k W (H2.out.below hb));have HG0:Zaa (g0<X.heap.size):=⟨Nat.lt_trans H0.out.lt HSX.out⟩
   have HG1:Zaa (g1<X.heap.size):=⟨Nat.lt_trans H1.out.lt HSX.out⟩
   have HG2:Zaa (g2<X.heap.size):=⟨Nat.lt_trans H2.out.lt HSX.out⟩
   clear HN' HB';by_cases z:xs.length=0
   ·obtain rfl:xs=[]:=List.eq_nil_of_length_eq_zero z;clear z;by_cases c3:c=3
    ·subst c3
     as_aux_lemma=>
      go_wp2_with ((with_reducible refine Zas (b:=.append) (xs:=#[.tmp 58,.tmp 60]) rfl ?_);at_builtin;refine Kd.N_append k76 (w0:=X) (W:=Y) X.heap.size rfl (.tmp 58) (.tmp 60) 74 76 (.agg #[.int .i64 0,.slice none 0 0,.slice none 0 0,.slice none 0 0]) 80 rfl Tryz.underlying74 Zgz rfl (by decide) (by omega) _ [] (⟨4,[],[],[]⟩:S76) [.int .i64 4,.slice none 0 0,.slice none 0 0,.slice none 0 0] (Okp g0 g1 g2 X.heap.size) (fun _=>False) rfl rfl (Zfn _ _ _) (fun _ hk=>hk.elim) (fun k hk=>HF8.out k (Nat.le_trans HB.out.size hk)) HN.out HB.out HB.out.size ?aL ?_;(case aL=>have:=HLX.out;omega);intro v6 w6 ho6 hb6 hg6 hat6;have HN6:=Zaa.mk ho6;have HB6:=Zaa.mk hb6;clear ho6 hb6 hg6 hat6)
      go_wp2
      clear hcx hm
      go_roundw
      case rel=>exact⟨i+1,_,by omega,by omega,by simp,⟨HP.out.push (.inl ⟨.inr rfl,rfl,rfl,rfl,by omega⟩)⟩,HN6,HB6⟩
      case measure=>show ls.length-((i:Int)+1).toNat<ls.length-(i:Int).toNat;omega
    by_cases c4:c=4
    ·subst c4
     as_aux_lemma=>
      go_wp2_with ((with_reducible refine Zas (b:=.append) (xs:=#[.tmp 65,.tmp 67]) rfl ?_);at_builtin;refine Kd.N_append k76 (w0:=X) (W:=Y) X.heap.size rfl (.tmp 65) (.tmp 67) 74 76 (.agg #[.int .i64 0,.slice none 0 0,.slice none 0 0,.slice none 0 0]) 80 rfl Tryz.underlying74 Zgz rfl (by decide) (by omega) _ [] (⟨1,[],[],[]⟩:S76) [.int .i64 1,.slice none 0 0,.slice none 0 0,.slice none 0 0] (Okp g0 g1 g2 X.heap.size) (fun _=>False) rfl rfl (Zfn _ _ _) (fun _ hk=>hk.elim) (fun k hk=>HF8.out k (Nat.le_trans HB.out.size hk)) HN.out HB.out HB.out.size ?aL ?_;(case aL=>have:=HLX.out;omega);intro v6 w6 ho6 hb6 hg6 hat6;have HN6:=Zaa.mk ho6;have HB6:=Zaa.mk hb6;clear ho6 hb6 hg6 hat6)
      go_wp2
      clear hcx hm
      go_roundw
      case rel=>exact⟨i+1,_,by omega,by omega,by simp,⟨HP.out.push (.inl ⟨.inl rfl,rfl,rfl,rfl,by omega⟩)⟩,HN6,HB6⟩
      case measure=>show ls.length-((i:Int)+1).toNat<ls.length-(i:Int).toNat;omega
    by_cases clt:c<3
    ·as_aux_lemma=>
      go_wp2_with (first
       | (go_at_call 30;(with_reducible refine (HPK0.out _ _ HBY.out).mono ?_);rintro e w1 ⟨⟨A1,c1,l1,rfl,hc1,hs1,hf1⟩,hw1⟩;obtain rfl:=hw1.symm;have HC1:=Zaa.mk hc1;have HS1:=Zaa.mk hs1;have HF1:=Zaa.mk hf1;clear hc1 hs1 hf1)
       | ((with_reducible refine Zas (b:=.append) (xs:=#[.tmp 47,.tmp 53]) rfl ?_);at_builtin;refine Kd.N_append k76 (w0:=X) (W:=Y) X.heap.size rfl (.tmp 47) (.tmp 53) 74 76 (.agg #[.int .i64 0,.slice none 0 0,.slice none 0 0,.slice none 0 0]) 80 rfl Tryz.underlying74 Zgz rfl (by decide) (by omega) _ [] (⟨2,l1,[],[]⟩:S76) [.int .i64 2,.slice A1 l1.length c1,.slice none 0 0,.slice none 0 0] (Okp g0 g1 g2 X.heap.size) (fun b=>b=g0) rfl rfl (Ztu _ _ _ _ _ _ HC1.out HF1.out) (fun b hb=>⟨by rw[hb];exact HO0.out,by rw[hb];exact far_own HN.out HG0.out⟩) (fun k hk=>HF8.out k (Nat.le_trans HB.out.size hk)) HN.out HB.out HB.out.size ?aL ?_;(case aL=>have:=HLX.out;omega);intro v6 w6 ho6 hb6 hg6 hat6;have HN6:=Zaa.mk ho6;have HB6:=Zaa.mk hb6;clear ho6 hb6 hg6 hat6))
      go_wp2
      clear hcx hm
      go_roundw
      case rel=>exact⟨i+1,_,by omega,by omega,by simp,⟨HP.out.push (.inr (.inl ⟨rfl,HS1.out,rfl,rfl,by omega⟩))⟩,HN6,HB6⟩
      case measure=>show ls.length-((i:Int)+1).toNat<ls.length-(i:Int).toNat;omega
    by_cases c5:c=5
    ·subst c5
     as_aux_lemma=>
      clear hm hcx
      go_upto_region 14 with fail
      refine Zbq 19 _ Zba (Zrd (.slice As 0 cs) x g1 n1 g2 n2 a1 a2 Y.heap.size) Zca (by kernel_rfl) (by kernel_rfl) (by kernel_rfl) rfl Zbk Zbf (Zma _ _ _ _ _ _ _ _ _) ?step ?fin
      case step=>
       repeat (rename_i z;clear z)
       refine⟨?_,?_,?_,?_,?_,?_,?_,?_,?_,?_,?_,?_,?_,?_,?_,?_,?_,?_,?_,trivial⟩ <;> intro vals W hR0 hd <;> have hR:=Zaf (Zam (Below.refl _ Y)) hR0
       ·refine Zad (W':=W) ?_ ⟨Zbr,rfl⟩
        clear hd;simp only[Zao,Zba,Zai];go_simp
       ·refine Zad (W':=W) ?_ ⟨Zbr,rfl⟩
        clear hd;simp only[Zao,Zba,Zai];go_simp
       ·refine Zad (W':=W) ?_ ⟨Zbr,rfl⟩
        clear hd;simp only[Zao,Zba,Zai];go_simp
       ·have h2:vals 2=.int .i64 x:=hd 2 (by simp[Zba]);clear hd;refine Zad (W':=W) (v:=.int .i64 (IntKind.i64.wrap (x.tdiv 11))) ?_ ⟨Zbr,_,rfl⟩
        simp only[Zao,Zba,Zai,h2];go_simp
       ·have h1:vals 1=.slice (some ⟨g1,0,none⟩) n1 n1:=hd 1 (by simp[Zba]);have h3:∃q,(vals 3)=.int .i64 q:=hd 3 (by simp[Zba]);obtain⟨q,hq5⟩:=h3;clear hd;refine Zbi (W':=W) (f:=30) (args:=#[.slice (some ⟨g1,0,none⟩) n1 n1,.int .i64 q]) ?_ ((HPK1.out _ W (Zaf HBY.out hR)).mono ?_)
        ·simp only[Zao,Zba,Zai,h1,hq5];go_simp
        ·rintro e w1 ⟨⟨A1,c1,l1,rfl,hc1,hs1,hf1⟩,rfl⟩;exact⟨_,rfl,Zbr,A1,c1,l1,rfl,hc1,hs1,hf1⟩
       ·refine Zad (W':=W) ?_ ⟨Zbr,rfl⟩
        clear hd;simp only[Zao,Zba,Zai];go_simp
       ·refine Zad (W':=W) ?_ ⟨Zbr,rfl⟩
        clear hd;simp only[Zao,Zba,Zai];go_simp
       ·have h6:vals 6=.int .i64 x:=hd 6 (by simp[Zba]);clear hd;refine Zad (W':=W) (v:=.int .i64 (IntKind.i64.wrap (x.tdiv 13))) ?_ ⟨Zbr,_,rfl⟩
        simp only[Zao,Zba,Zai,h6];go_simp
       ·have h5:vals 5=.slice (some ⟨g2,0,none⟩) n2 n2:=hd 5 (by simp[Zba]);have h7:∃q,(vals 7)=.int .i64 q:=hd 7 (by simp[Zba]);obtain⟨q,hq5⟩:=h7;clear hd;refine Zbi (W':=W) (f:=30) (args:=#[.slice (some ⟨g2,0,none⟩) n2 n2,.int .i64 q]) ?_ ((HPK2.out _ W (Zaf HBY.out hR)).mono ?_)
        ·simp only[Zao,Zba,Zai,h5,hq5];go_simp
        ·rintro e w1 ⟨⟨A1,c1,l1,rfl,hc1,hs1,hf1⟩,rfl⟩;exact⟨_,rfl,Zbr,A1,c1,l1,rfl,hc1,hs1,hf1⟩
       ·clear hd;refine Zad (W':=W.alloc (.cells #[.int .i64 1,.int .i64 4] 3)) (v:=.slice (some ⟨W.heap.size,0,none⟩) 2 2) ?_ ⟨Zae Zbr _,W.heap.size,rfl,Zaq W _⟩
        simp only[Zao,Zba,Zai];go_simp
       ·refine Zad (W':=W) ?_ ⟨Zbr,rfl⟩
        clear hd;simp only[Zao,Zba,Zai];go_simp
       ·have h10:vals 10=.int .i64 x:=hd 10 (by simp[Zba]);clear hd;refine Zad (W':=W) (v:=.int .i64 (IntKind.i64.wrap (x.tdiv 17))) ?_ ⟨Zbr,_,rfl⟩
        simp only[Zao,Zba,Zai,h10];go_simp
       ·have h11:∃q,(vals 11)=.int .i64 q:=hd 11 (by simp[Zba]);obtain⟨q,hq11⟩:=h11;clear hd
        rcases and1 q with hb1 | hb1
        ·refine Zad (W':=W) (v:=.int .i64 0) ?_ ⟨Zbr,.inl rfl⟩
         simp only[Zao,Zba,Zai,hq11];go_simp
        ·refine Zad (W':=W) (v:=.int .i64 1) ?_ ⟨Zbr,.inr rfl⟩
         simp only[Zao,Zba,Zai,hq11];go_simp
       ·have h9:∃gl,(vals 9)=.slice (some ⟨gl,0,none⟩) 2 2∧W.heap[gl]?=some (.cells #[.int .i64 1,.int .i64 4] 3 (0,0)):=hd 9 (by simp[Zba]);have h12:(vals 12)=.int .i64 0∨(vals 12)=.int .i64 1:=hd 12 (by simp[Zba]);obtain⟨gl,e9,hk9⟩:=h9;clear hd
        rcases h12 with e12 | e12
        ·refine Zad (W':=W) (v:=.pointer (some ⟨gl,0,none⟩)) ?_ ⟨Zbr,gl,0,rfl,.inl rfl,hk9⟩
         simp only[Zao,Zba,Zai,e9,e12];go_simp
        ·refine Zad (W':=W) (v:=.pointer (some ⟨gl,1,none⟩)) ?_ ⟨Zbr,gl,1,rfl,.inr rfl,hk9⟩
         simp only[Zao,Zba,Zai,e9,e12];go_simp
       ·have h13:∃gl q,(vals 13)=.pointer (some ⟨gl,q,none⟩)∧(q=0∨q=1)∧W.heap[gl]?=some (.cells #[.int .i64 1,.int .i64 4] 3 (0,0)):=hd 13 (by simp[Zba]);obtain⟨gl,q,e13,hq13,hk13⟩:=h13;clear hd;have z0:=(Zac hk13 0).trans rfl;have z1:=(Zac hk13 1).trans rfl
        rcases hq13 with rfl | rfl
        ·refine Zad (W':=W) (v:=.int .i64 1) ?_ ⟨Zbr,.inl rfl⟩
         simp only[Zao,Zba,Zai,e13];go_simp
        ·refine Zad (W':=W) (v:=.int .i64 4) ?_ ⟨Zbr,.inr rfl⟩
         simp only[Zao,Zba,Zai,e13];go_simp
       ·have h14:(vals 14)=.int .i64 1∨(vals 14)=.int .i64 4:=hd 14 (by simp[Zba]);obtain⟨e,he,e14⟩:∃e:Int,(e=1∨e=4)∧vals 14=.int .i64 e:=by
         rcases h14 with h | h
         ·exact⟨1,.inl rfl,h⟩
         ·exact⟨4,.inr rfl,h⟩
        clear hd;refine Zad (W':=W) (v:=.agg #[.int .i64 e,.slice none 0 0,.slice none 0 0,.slice none 0 0]) ?_ ⟨Zbr,e,he,rfl⟩
        simp only[Zao,Zba,Zai,e14];go_simp
       ·have h15:∃e:Int,(e=1∨e=4)∧(vals 15)=.agg #[.int .i64 e,.slice none 0 0,.slice none 0 0,.slice none 0 0]:=hd 15 (by simp[Zba]);obtain⟨e,he,e15⟩:=h15;clear hd;refine Zad (W':=W.alloc (.cells #[.int .i64 e,.slice none 0 0,.slice none 0 0,.slice none 0 0] 76)) (v:=.slice (some ⟨W.heap.size,0,none⟩) 1 1) ?_ ⟨Zae Zbr _,W.heap.size,e,he,rfl,hR.size,Zaq W _⟩
        simp only[Zao,Zba,Zai,e15];go_simp
       ·have h4:∃A c l,(vals 4)=.slice A l.length c∧l.length≤c∧Some0 a1 l∧Kd.F Kd.string W (fun b=>b=g1) A l.length l:=hd 4 (by simp[Zba]);have h8:∃A c l,(vals 8)=.slice A l.length c∧l.length≤c∧Some0 a2 l∧Kd.F Kd.string W (fun b=>b=g2) A l.length l:=hd 8 (by simp[Zba]);have h16:∃(gl:Nat) (e:Int),(e=1∨e=4)∧(vals 16)=.slice (some ⟨gl,0,none⟩) 1 1∧Y.heap.size≤gl∧W.heap[gl]?=some (.cells #[.int .i64 e,.slice none 0 0,.slice none 0 0,.slice none 0 0] 76 (0,0)):=hd 16 (by simp[Zba]);obtain⟨A4,c4,l4,e4,_⟩:=h4;obtain⟨A8,c8,l8,e8,_⟩:=h8;obtain⟨g16,q16,_,e16,_⟩:=h16;refine Zad (W':=W) (v:=.agg #[.int .i64 3,.slice A4 l4.length c4,.slice A8 l8.length c8,.slice (some ⟨g16,0,none⟩) 1 1]) ?_ ⟨Zbr,_,_,_,_,_,_,_,e4,e8,e16,rfl⟩
        clear hd;simp only[Zao,Zba,Zai,e4,e8,e16];go_simp
       ·have h17:∃(A1:Option Addr) (k1 c1:Nat) (A2:Option Addr) (k2 c2 g3:Nat),(vals 4)=.slice A1 k1 c1∧(vals 8)=.slice A2 k2 c2∧(vals 16)=.slice (some ⟨g3,0,none⟩) 1 1∧(vals 17)=.agg #[.int .i64 3,.slice A1 k1 c1,.slice A2 k2 c2,.slice (some ⟨g3,0,none⟩) 1 1]:=hd 17 (by simp[Zba]);obtain⟨B1,k1,d1,B2,k2,d2,g3,_,_,_,e17⟩:=h17;clear hd;refine Zad (W':=W.alloc (.cells #[.int .i64 3,.slice B1 k1 d1,.slice B2 k2 d2,.slice (some ⟨g3,0,none⟩) 1 1] 76)) (v:=.slice (some ⟨W.heap.size,0,none⟩) 1 1) ?_ ⟨Zae Zbr _,W.heap.size,_,rfl,hR.size,e17,Zaq W _⟩
        simp only[Zao,Zba,Zai,e17];go_simp
      case fin=>
       intro vals W hR0 hF;have hR:=Zaf (Zam (Below.refl _ Y)) hR0;have f0:vals 0=(.slice As 0 cs):=hF 0 (by decide);have f1:vals 1=.slice (some ⟨g1,0,none⟩) n1 n1:=hF 1 (by decide);have f2:vals 2=.int .i64 x:=hF 2 (by decide);have f3:∃q,(vals 3)=.int .i64 q:=hF 3 (by decide);have f4:∃A c l,(vals 4)=.slice A l.length c∧l.length≤c∧Some0 a1 l∧Kd.F Kd.string W (fun b=>b=g1) A l.length l:=hF 4 (by decide);have f5:vals 5=.slice (some ⟨g2,0,none⟩) n2 n2:=hF 5 (by decide);have f6:vals 6=.int .i64 x:=hF 6 (by decide);have f7:∃q,(vals 7)=.int .i64 q:=hF 7 (by decide);have f8:∃A c l,(vals 8)=.slice A l.length c∧l.length≤c∧Some0 a2 l∧Kd.F Kd.string W (fun b=>b=g2) A l.length l:=hF 8 (by decide);have f9:∃gl,(vals 9)=.slice (some ⟨gl,0,none⟩) 2 2∧W.heap[gl]?=some (.cells #[.int .i64 1,.int .i64 4] 3 (0,0)):=hF 9 (by decide);have f10:vals 10=.int .i64 x:=hF 10 (by decide);have f11:∃q,(vals 11)=.int .i64 q:=hF 11 (by decide);have f12:(vals 12)=.int .i64 0∨(vals 12)=.int .i64 1:=hF 12 (by decide);have f13:∃gl q,(vals 13)=.pointer (some ⟨gl,q,none⟩)∧(q=0∨q=1)∧W.heap[gl]?=some (.cells #[.int .i64 1,.int .i64 4] 3 (0,0)):=hF 13 (by decide);have f14:(vals 14)=.int .i64 1∨(vals 14)=.int .i64 4:=hF 14 (by decide);have f15:∃e:Int,(e=1∨e=4)∧(vals 15)=.agg #[.int .i64 e,.slice none 0 0,.slice none 0 0,.slice none 0 0]:=hF 15 (by decide);have f16:∃(gl:Nat) (e:Int),(e=1∨e=4)∧(vals 16)=.slice (some ⟨gl,0,none⟩) 1 1∧Y.heap.size≤gl∧W.heap[gl]?=some (.cells #[.int .i64 e,.slice none 0 0,.slice none 0 0,.slice none 0 0] 76 (0,0)):=hF 16 (by decide);have f17:∃(A1:Option Addr) (k1 c1:Nat) (A2:Option Addr) (k2 c2 g3:Nat),(vals 4)=.slice A1 k1 c1∧(vals 8)=.slice A2 k2 c2∧(vals 16)=.slice (some ⟨g3,0,none⟩) 1 1∧(vals 17)=.agg #[.int .i64 3,.slice A1 k1 c1,.slice A2 k2 c2,.slice (some ⟨g3,0,none⟩) 1 1]:=hF 17 (by decide);have f18:∃gl c,(vals 18)=.slice (some ⟨gl,0,none⟩) 1 1∧Y.heap.size≤gl∧(vals 17)=.agg c∧W.heap[gl]?=some (.cells c 76 (0,0)):=hF 18 (by decide);clear hF hR0;rw[show List.range 19=[0,1,2,3,4,5,6,7,8,9,10,11,12,13,14,15,16,17,18]from rfl];simp only[Zao,Zai,Act.put,List.getElem?_toArray,List.getElem?_cons_zero,List.getElem?_cons_succ,Option.bind_some,List.setIfInBounds_toArray,List.set_cons_zero,List.set_cons_succ,List.drop_succ_cons,List.drop_zero,f0,f1,f2,f5,f6,f10];obtain⟨A1,c1,l1,e4,hc1,hs1,hf1⟩:=f4;obtain⟨A2,c2,l2,e8,hc2,hs2,hf2⟩:=f8;obtain⟨gl,ee,hee,e16,hgl,kl⟩:=f16;obtain⟨B1,k1,d1,B2,k2,d2,g3,u1,u2,u3,e17⟩:=f17;rw[e4]at u1;rw[e8]at u2;rw[e16]at u3;injection u1 with u11 u12 u13
       injection u2 with u21 u22 u23
       injection u3 with u31 _ _
       injection u31 with u31
       injection u31 with u31
       subst u11 u12 u13 u21 u22 u23 u31;obtain⟨g18,cc,e18,hg18,ec,k18⟩:=f18;rw[e17]at ec;injection ec with ec
       subst ec;have HNW:=Zaa.mk (Kd.N_below HN.out hR);have HBW:=Zaa.mk (Zaf HB.out hR);have hlo:∀b:Nat,Y.heap.size≤b→Okp g0 g1 g2 X.heap.size b∧some b≠(Value.slice As 0 cs).ownBlock:=fun b hb=>⟨HF8.out b (Nat.le_trans HB.out.size hb),fun he=>by have:=Kd.N_lt HN.out b he.symm;omega⟩
       have HRW:Zaa (Kd.F k76 W (fun b=>Okp g0 g1 g2 X.heap.size b∧some b≠(Value.slice As 0 cs).ownBlock) (some ⟨g18,0,none⟩) 1 [(⟨3,l1,l2,[⟨ee,[],[],[]⟩]⟩:S76)]):=
        ⟨Zex (cs:=[.int .i64 3,.slice A1 l1.length c1,.slice A2 l2.length c2,.slice (some ⟨gl,0,none⟩) 1 1]) k18 (hlo _ hg18) (Zug hc1 (Kd.F_mono hf1 (fun b hb=>⟨by rw[hb];exact HO1.out,by rw[hb];exact far_own HN.out HG1.out⟩)) hc2 (Kd.F_mono hf2 (fun b hb=>⟨by rw[hb];exact HO2.out,by rw[hb];exact far_own HN.out HG2.out⟩)) (Zex (cs:=[.int .i64 ee,.slice none 0 0,.slice none 0 0,.slice none 0 0]) kl (hlo _ hgl) (Zfn _ _ _)))⟩
       have HP7:Zaa (PcsAt a0 a1 a2 (i+1) ([]++[(⟨3,l1,l2,[⟨ee,[],[],[]⟩]⟩:S76)])):=⟨HP.out.push (.inr (.inr (.inl ⟨rfl,hs1,hs2,_,1,rfl,.inl ⟨hee,rfl,rfl,rfl,Nat.le_refl _⟩,Nat.le_refl _⟩)))⟩
       simp only[e4,e8,e16,e17,e18];clear hR hc1 hs1 hf1 hc2 hs2 hf2 hee hgl kl hg18 k18 hlo
       go_wp2_with ((with_reducible refine Zas (b:=.append) (xs:=#[.tmp 72,.tmp 90]) rfl ?_);at_builtin;refine Kd.N_append_rows k76 (w0:=X) (W:=W) X.heap.size rfl (.tmp 72) (.tmp 90) 74 76 (.agg #[.int .i64 0,.slice none 0 0,.slice none 0 0,.slice none 0 0]) 80 rfl Tryz.underlying74 Zgz rfl (by decide) (by omega) (.slice As 0 cs) [] [(⟨3,l1,l2,[⟨ee,[],[],[]⟩]⟩:S76)] (some ⟨g18,0,none⟩) 1 1 (Okp g0 g1 g2 X.heap.size) _ rfl rfl HNW.out HRW.out (fun b hb=>hb) (fun k hk=>HF8.out k (Nat.le_trans HBW.out.size hk)) HBW.out HBW.out.size ?aL ?_;(case aL=>have:=HLX.out;omega);intro v6 w6 ho6 hb6 hg6 hat6;have HN6:=Zaa.mk ho6;have HB6:=Zaa.mk hb6;clear ho6 hb6 hg6 hat6)
       go_wp2
       go_roundw
       case rel=>exact⟨i+1,_,by omega,by omega,by simp,HP7,HN6,HB6⟩
       case measure=>show ls.length-((i:Int)+1).toNat<ls.length-(i:Int).toNat;omega
    have cgt:5<c:=by omega
    as_aux_lemma=>
     go_wp2_with (first
      | (go_at_call 30;(with_reducible refine (HPK0.out _ _ HBY.out).mono ?_);rintro e w1 ⟨⟨A1,c1,l1,rfl,hc1,hs1,hf1⟩,hw1⟩;obtain rfl:=hw1.symm;have HC1:=Zaa.mk hc1;have HS1:=Zaa.mk hs1;have HF1:=Zaa.mk hf1;clear hc1 hs1 hf1)
      | ((with_reducible refine Zas (b:=.append) (xs:=#[.tmp 47,.tmp 53]) rfl ?_);at_builtin;refine Kd.N_append k76 (w0:=X) (W:=Y) X.heap.size rfl (.tmp 47) (.tmp 53) 74 76 (.agg #[.int .i64 0,.slice none 0 0,.slice none 0 0,.slice none 0 0]) 80 rfl Tryz.underlying74 Zgz rfl (by decide) (by omega) _ [] (⟨2,l1,[],[]⟩:S76) [.int .i64 2,.slice A1 l1.length c1,.slice none 0 0,.slice none 0 0] (Okp g0 g1 g2 X.heap.size) (fun b=>b=g0) rfl rfl (Ztu _ _ _ _ _ _ HC1.out HF1.out) (fun b hb=>⟨by rw[hb];exact HO0.out,by rw[hb];exact far_own HN.out HG0.out⟩) (fun k hk=>HF8.out k (Nat.le_trans HB.out.size hk)) HN.out HB.out HB.out.size ?aL ?_;(case aL=>have:=HLX.out;omega);intro v6 w6 ho6 hb6 hg6 hat6;have HN6:=Zaa.mk ho6;have HB6:=Zaa.mk hb6;clear ho6 hb6 hg6 hat6))
     go_wp2
     clear hcx hm
     go_roundw
     case rel=>exact⟨i+1,_,by omega,by omega,by simp,⟨HP.out.push (.inr (.inl ⟨rfl,HS1.out,rfl,rfl,by omega⟩))⟩,HN6,HB6⟩
     case measure=>show ls.length-((i:Int)+1).toNat<ls.length-(i:Int).toNat;omega
   ·obtain⟨k,hk⟩:∃k,xs.length=k+1:=⟨xs.length-1,by omega⟩
    clear z;have hk8:k<8:=by have:=HLX.out;omega
    obtain⟨g,cap,hs,hgX,hgY,_⟩:=Kd.N_form HN.out (by omega);injection hs with hs1 hs2 hs3
    subst hs1;subst hs3;clear hs2;have HGX:=Zaa.mk hgX;have HGY:=Zaa.mk hgY;obtain⟨m,hmx⟩:∃m,m=xs.length:=⟨_,rfl⟩
    have HXL:=Zaa.mk hmx;have HMK:Zaa (m=k+1):=⟨by omega⟩
    rw[←hmx]at HN hk ⊢;have hkm:k<m:=by omega
    have hq:wrap64 ((m:Int)-1)=k:=(by rw[hk];unfold wrap64;omega)
    have hmz:¬m=0:=by omega
    have hmp:0<m:=by omega
    obtain⟨el,hel1,hel2,hel3,hel4⟩:=Kd.N_elem HN.out z76 (k:Int) (by omega) (by omega);rw[Int.toNat_natCast]at hel2 hel3 hel4;obtain⟨B1,d1,B2,d2,B3,d3,rfl,_⟩:=Zcb (Kd.FK_now hel2);have HEL:=Zaa.mk hel2;obtain⟨y,hy⟩:∃y,y=xs.getD k z76:=⟨_,rfl⟩
    have HY:=Zaa.mk hy;rw[←hy]at HEL hel3;have HCC:=Zaa.mk hel3;have x0:Y.cell? ⟨g,k*4,none⟩=some (.int .i64 y.f0):=hel3 0 _ rfl;have x1:Y.cell? ⟨g,k*4+1,none⟩=some (.slice B1 y.f1.length d1):=hel3 1 _ rfl;have x2:Y.cell? ⟨g,k*4+2,none⟩=some (.slice B2 y.f2.length d2):=hel3 2 _ rfl;have x3:Y.cell? ⟨g,k*4+3,none⟩=some (.slice B3 y.f3.length d3):=hel3 3 _ rfl;have fr0:Y.frozen? ⟨g,k*4,none⟩=false:=hel4 0;clear hel1 hel2 hel3 hel4 hy hgX hgY hk hmx hk8;by_cases c3:c=3
    ·subst c3
     as_aux_lemma=>
      go_wp2_with ((with_reducible refine Zas (b:=.append) (xs:=#[.tmp 58,.tmp 60]) rfl ?_);at_builtin;refine Kd.N_append k76 (w0:=X) (W:=Y) X.heap.size rfl (.tmp 58) (.tmp 60) 74 76 (.agg #[.int .i64 0,.slice none 0 0,.slice none 0 0,.slice none 0 0]) 80 rfl Tryz.underlying74 Zgz rfl (by decide) (by omega) _ xs (⟨4,[],[],[]⟩:S76) [.int .i64 4,.slice none 0 0,.slice none 0 0,.slice none 0 0] (Okp g0 g1 g2 X.heap.size) (fun _=>False) rfl rfl (Zfn _ _ _) (fun _ hk=>hk.elim) (fun k hk=>HF8.out k (Nat.le_trans HB.out.size hk)) HN.out HB.out HB.out.size ?aL ?_;(case aL=>have:=HLX.out;omega);intro v6 w6 ho6 hb6 hg6 hat6;have HN6:=Zaa.mk ho6;have HB6:=Zaa.mk hb6;clear ho6 hb6 hg6 hat6)
      go_wp2
      clear hcx hm
      go_roundw
      case rel=>exact⟨i+1,_,by omega,by omega,by simp,⟨HP.out.push (.inl ⟨.inr rfl,rfl,rfl,rfl,by omega⟩)⟩,HN6,HB6⟩
      case measure=>show ls.length-((i:Int)+1).toNat<ls.length-(i:Int).toNat;omega
    by_cases c4:c=4
    ·subst c4
     as_aux_lemma=>
      go_wp2_with ((with_reducible refine Zas (b:=.append) (xs:=#[.tmp 65,.tmp 67]) rfl ?_);at_builtin;refine Kd.N_append k76 (w0:=X) (W:=Y) X.heap.size rfl (.tmp 65) (.tmp 67) 74 76 (.agg #[.int .i64 0,.slice none 0 0,.slice none 0 0,.slice none 0 0]) 80 rfl Tryz.underlying74 Zgz rfl (by decide) (by omega) _ xs (⟨1,[],[],[]⟩:S76) [.int .i64 1,.slice none 0 0,.slice none 0 0,.slice none 0 0] (Okp g0 g1 g2 X.heap.size) (fun _=>False) rfl rfl (Zfn _ _ _) (fun _ hk=>hk.elim) (fun k hk=>HF8.out k (Nat.le_trans HB.out.size hk)) HN.out HB.out HB.out.size ?aL ?_;(case aL=>have:=HLX.out;omega);intro v6 w6 ho6 hb6 hg6 hat6;have HN6:=Zaa.mk ho6;have HB6:=Zaa.mk hb6;clear ho6 hb6 hg6 hat6)
      go_wp2
      clear hcx hm
      go_roundw
      case rel=>exact⟨i+1,_,by omega,by omega,by simp,⟨HP.out.push (.inl ⟨.inl rfl,rfl,rfl,rfl,by omega⟩)⟩,HN6,HB6⟩
      case measure=>show ls.length-((i:Int)+1).toNat<ls.length-(i:Int).toNat;omega
    by_cases clt:c<3
    ·as_aux_lemma=>
      go_wp2_with (first
       | (go_at_call 30;(with_reducible refine (HPK0.out _ _ HBY.out).mono ?_);rintro e w1 ⟨⟨A1,c1,l1,rfl,hc1,hs1,hf1⟩,hw1⟩;obtain rfl:=hw1.symm;have HC1:=Zaa.mk hc1;have HS1:=Zaa.mk hs1;have HF1:=Zaa.mk hf1;clear hc1 hs1 hf1)
       | ((with_reducible refine Zas (b:=.append) (xs:=#[.tmp 47,.tmp 53]) rfl ?_);at_builtin;refine Kd.N_append k76 (w0:=X) (W:=Y) X.heap.size rfl (.tmp 47) (.tmp 53) 74 76 (.agg #[.int .i64 0,.slice none 0 0,.slice none 0 0,.slice none 0 0]) 80 rfl Tryz.underlying74 Zgz rfl (by decide) (by omega) _ xs (⟨2,l1,[],[]⟩:S76) [.int .i64 2,.slice A1 l1.length c1,.slice none 0 0,.slice none 0 0] (Okp g0 g1 g2 X.heap.size) (fun b=>b=g0) rfl rfl (Ztu _ _ _ _ _ _ HC1.out HF1.out) (fun b hb=>⟨by rw[hb];exact HO0.out,by rw[hb];exact far_own HN.out HG0.out⟩) (fun k hk=>HF8.out k (Nat.le_trans HB.out.size hk)) HN.out HB.out HB.out.size ?aL ?_;(case aL=>have:=HLX.out;omega);intro v6 w6 ho6 hb6 hg6 hat6;have HN6:=Zaa.mk ho6;have HB6:=Zaa.mk hb6;clear ho6 hb6 hg6 hat6))
      go_wp2
      clear hcx hm
      go_roundw
      case rel=>exact⟨i+1,_,by omega,by omega,by simp,⟨HP.out.push (.inr (.inl ⟨rfl,HS1.out,rfl,rfl,by omega⟩))⟩,HN6,HB6⟩
      case measure=>show ls.length-((i:Int)+1).toNat<ls.length-(i:Int).toNat;omega
    by_cases c5:c=5
    ·subst c5
     as_aux_lemma=>
      clear hm hcx hq x0 x1 x2 x3 fr0 hkm
      go_upto_region 14 with fail
      refine Zbq 19 _ Zba (Zrd (.slice (some ⟨g,0,none⟩) m cs) x g1 n1 g2 n2 a1 a2 Y.heap.size) Zca (by kernel_rfl) (by kernel_rfl) (by kernel_rfl) rfl Zbk Zbf (Zma _ _ _ _ _ _ _ _ _) ?step ?fin
      case step=>
       repeat (rename_i z;clear z)
       refine⟨?_,?_,?_,?_,?_,?_,?_,?_,?_,?_,?_,?_,?_,?_,?_,?_,?_,?_,?_,trivial⟩ <;> intro vals W hR0 hd <;> have hR:=Zaf (Zam (Below.refl _ Y)) hR0
       ·refine Zad (W':=W) ?_ ⟨Zbr,rfl⟩
        clear hd;simp only[Zao,Zba,Zai];go_simp
       ·refine Zad (W':=W) ?_ ⟨Zbr,rfl⟩
        clear hd;simp only[Zao,Zba,Zai];go_simp
       ·refine Zad (W':=W) ?_ ⟨Zbr,rfl⟩
        clear hd;simp only[Zao,Zba,Zai];go_simp
       ·have h2:vals 2=.int .i64 x:=hd 2 (by simp[Zba]);clear hd;refine Zad (W':=W) (v:=.int .i64 (IntKind.i64.wrap (x.tdiv 11))) ?_ ⟨Zbr,_,rfl⟩
        simp only[Zao,Zba,Zai,h2];go_simp
       ·have h1:vals 1=.slice (some ⟨g1,0,none⟩) n1 n1:=hd 1 (by simp[Zba]);have h3:∃q,(vals 3)=.int .i64 q:=hd 3 (by simp[Zba]);obtain⟨q,hq5⟩:=h3;clear hd;refine Zbi (W':=W) (f:=30) (args:=#[.slice (some ⟨g1,0,none⟩) n1 n1,.int .i64 q]) ?_ ((HPK1.out _ W (Zaf HBY.out hR)).mono ?_)
        ·simp only[Zao,Zba,Zai,h1,hq5];go_simp
        ·rintro e w1 ⟨⟨A1,c1,l1,rfl,hc1,hs1,hf1⟩,rfl⟩;exact⟨_,rfl,Zbr,A1,c1,l1,rfl,hc1,hs1,hf1⟩
       ·refine Zad (W':=W) ?_ ⟨Zbr,rfl⟩
        clear hd;simp only[Zao,Zba,Zai];go_simp
       ·refine Zad (W':=W) ?_ ⟨Zbr,rfl⟩
        clear hd;simp only[Zao,Zba,Zai];go_simp
       ·have h6:vals 6=.int .i64 x:=hd 6 (by simp[Zba]);clear hd;refine Zad (W':=W) (v:=.int .i64 (IntKind.i64.wrap (x.tdiv 13))) ?_ ⟨Zbr,_,rfl⟩
        simp only[Zao,Zba,Zai,h6];go_simp
       ·have h5:vals 5=.slice (some ⟨g2,0,none⟩) n2 n2:=hd 5 (by simp[Zba]);have h7:∃q,(vals 7)=.int .i64 q:=hd 7 (by simp[Zba]);obtain⟨q,hq5⟩:=h7;clear hd;refine Zbi (W':=W) (f:=30) (args:=#[.slice (some ⟨g2,0,none⟩) n2 n2,.int .i64 q]) ?_ ((HPK2.out _ W (Zaf HBY.out hR)).mono ?_)
        ·simp only[Zao,Zba,Zai,h5,hq5];go_simp
        ·rintro e w1 ⟨⟨A1,c1,l1,rfl,hc1,hs1,hf1⟩,rfl⟩;exact⟨_,rfl,Zbr,A1,c1,l1,rfl,hc1,hs1,hf1⟩
       ·clear hd;refine Zad (W':=W.alloc (.cells #[.int .i64 1,.int .i64 4] 3)) (v:=.slice (some ⟨W.heap.size,0,none⟩) 2 2) ?_ ⟨Zae Zbr _,W.heap.size,rfl,Zaq W _⟩
        simp only[Zao,Zba,Zai];go_simp
       ·refine Zad (W':=W) ?_ ⟨Zbr,rfl⟩
        clear hd;simp only[Zao,Zba,Zai];go_simp
       ·have h10:vals 10=.int .i64 x:=hd 10 (by simp[Zba]);clear hd;refine Zad (W':=W) (v:=.int .i64 (IntKind.i64.wrap (x.tdiv 17))) ?_ ⟨Zbr,_,rfl⟩
        simp only[Zao,Zba,Zai,h10];go_simp
       ·have h11:∃q,(vals 11)=.int .i64 q:=hd 11 (by simp[Zba]);obtain⟨q,hq11⟩:=h11;clear hd
        rcases and1 q with hb1 | hb1
        ·refine Zad (W':=W) (v:=.int .i64 0) ?_ ⟨Zbr,.inl rfl⟩
         simp only[Zao,Zba,Zai,hq11];go_simp
        ·refine Zad (W':=W) (v:=.int .i64 1) ?_ ⟨Zbr,.inr rfl⟩
         simp only[Zao,Zba,Zai,hq11];go_simp
       ·have h9:∃gl,(vals 9)=.slice (some ⟨gl,0,none⟩) 2 2∧W.heap[gl]?=some (.cells #[.int .i64 1,.int .i64 4] 3 (0,0)):=hd 9 (by simp[Zba]);have h12:(vals 12)=.int .i64 0∨(vals 12)=.int .i64 1:=hd 12 (by simp[Zba]);obtain⟨gl,e9,hk9⟩:=h9;clear hd
        rcases h12 with e12 | e12
        ·refine Zad (W':=W) (v:=.pointer (some ⟨gl,0,none⟩)) ?_ ⟨Zbr,gl,0,rfl,.inl rfl,hk9⟩
         simp only[Zao,Zba,Zai,e9,e12];go_simp
        ·refine Zad (W':=W) (v:=.pointer (some ⟨gl,1,none⟩)) ?_ ⟨Zbr,gl,1,rfl,.inr rfl,hk9⟩
         simp only[Zao,Zba,Zai,e9,e12];go_simp
       ·have h13:∃gl q,(vals 13)=.pointer (some ⟨gl,q,none⟩)∧(q=0∨q=1)∧W.heap[gl]?=some (.cells #[.int .i64 1,.int .i64 4] 3 (0,0)):=hd 13 (by simp[Zba]);obtain⟨gl,q,e13,hq13,hk13⟩:=h13;clear hd;have z0:=(Zac hk13 0).trans rfl;have z1:=(Zac hk13 1).trans rfl
        rcases hq13 with rfl | rfl
        ·refine Zad (W':=W) (v:=.int .i64 1) ?_ ⟨Zbr,.inl rfl⟩
         simp only[Zao,Zba,Zai,e13];go_simp
        ·refine Zad (W':=W) (v:=.int .i64 4) ?_ ⟨Zbr,.inr rfl⟩
         simp only[Zao,Zba,Zai,e13];go_simp
       ·have h14:(vals 14)=.int .i64 1∨(vals 14)=.int .i64 4:=hd 14 (by simp[Zba]);obtain⟨e,he,e14⟩:∃e:Int,(e=1∨e=4)∧vals 14=.int .i64 e:=by
         rcases h14 with h | h
         ·exact⟨1,.inl rfl,h⟩
         ·exact⟨4,.inr rfl,h⟩
        clear hd;refine Zad (W':=W) (v:=.agg #[.int .i64 e,.slice none 0 0,.slice none 0 0,.slice none 0 0]) ?_ ⟨Zbr,e,he,rfl⟩
        simp only[Zao,Zba,Zai,e14];go_simp
       ·have h15:∃e:Int,(e=1∨e=4)∧(vals 15)=.agg #[.int .i64 e,.slice none 0 0,.slice none 0 0,.slice none 0 0]:=hd 15 (by simp[Zba]);obtain⟨e,he,e15⟩:=h15;clear hd;refine Zad (W':=W.alloc (.cells #[.int .i64 e,.slice none 0 0,.slice none 0 0,.slice none 0 0] 76)) (v:=.slice (some ⟨W.heap.size,0,none⟩) 1 1) ?_ ⟨Zae Zbr _,W.heap.size,e,he,rfl,hR.size,Zaq W _⟩
        simp only[Zao,Zba,Zai,e15];go_simp
       ·have h4:∃A c l,(vals 4)=.slice A l.length c∧l.length≤c∧Some0 a1 l∧Kd.F Kd.string W (fun b=>b=g1) A l.length l:=hd 4 (by simp[Zba]);have h8:∃A c l,(vals 8)=.slice A l.length c∧l.length≤c∧Some0 a2 l∧Kd.F Kd.string W (fun b=>b=g2) A l.length l:=hd 8 (by simp[Zba]);have h16:∃(gl:Nat) (e:Int),(e=1∨e=4)∧(vals 16)=.slice (some ⟨gl,0,none⟩) 1 1∧Y.heap.size≤gl∧W.heap[gl]?=some (.cells #[.int .i64 e,.slice none 0 0,.slice none 0 0,.slice none 0 0] 76 (0,0)):=hd 16 (by simp[Zba]);obtain⟨A4,c4,l4,e4,_⟩:=h4;obtain⟨A8,c8,l8,e8,_⟩:=h8;obtain⟨g16,q16,_,e16,_⟩:=h16;refine Zad (W':=W) (v:=.agg #[.int .i64 3,.slice A4 l4.length c4,.slice A8 l8.length c8,.slice (some ⟨g16,0,none⟩) 1 1]) ?_ ⟨Zbr,_,_,_,_,_,_,_,e4,e8,e16,rfl⟩
        clear hd;simp only[Zao,Zba,Zai,e4,e8,e16];go_simp
       ·have h17:∃(A1:Option Addr) (k1 c1:Nat) (A2:Option Addr) (k2 c2 g3:Nat),(vals 4)=.slice A1 k1 c1∧(vals 8)=.slice A2 k2 c2∧(vals 16)=.slice (some ⟨g3,0,none⟩) 1 1∧(vals 17)=.agg #[.int .i64 3,.slice A1 k1 c1,.slice A2 k2 c2,.slice (some ⟨g3,0,none⟩) 1 1]:=hd 17 (by simp[Zba]);obtain⟨B1,k1,d1,B2,k2,d2,g3,_,_,_,e17⟩:=h17;clear hd;refine Zad (W':=W.alloc (.cells #[.int .i64 3,.slice B1 k1 d1,.slice B2 k2 d2,.slice (some ⟨g3,0,none⟩) 1 1] 76)) (v:=.slice (some ⟨W.heap.size,0,none⟩) 1 1) ?_ ⟨Zae Zbr _,W.heap.size,_,rfl,hR.size,e17,Zaq W _⟩
        simp only[Zao,Zba,Zai,e17];go_simp
      case fin=>
       intro vals W hR0 hF;have hR:=Zaf (Zam (Below.refl _ Y)) hR0;have f0:vals 0=(.slice (some ⟨g,0,none⟩) m cs):=hF 0 (by decide);have f1:vals 1=.slice (some ⟨g1,0,none⟩) n1 n1:=hF 1 (by decide);have f2:vals 2=.int .i64 x:=hF 2 (by decide);have f3:∃q,(vals 3)=.int .i64 q:=hF 3 (by decide);have f4:∃A c l,(vals 4)=.slice A l.length c∧l.length≤c∧Some0 a1 l∧Kd.F Kd.string W (fun b=>b=g1) A l.length l:=hF 4 (by decide);have f5:vals 5=.slice (some ⟨g2,0,none⟩) n2 n2:=hF 5 (by decide);have f6:vals 6=.int .i64 x:=hF 6 (by decide);have f7:∃q,(vals 7)=.int .i64 q:=hF 7 (by decide);have f8:∃A c l,(vals 8)=.slice A l.length c∧l.length≤c∧Some0 a2 l∧Kd.F Kd.string W (fun b=>b=g2) A l.length l:=hF 8 (by decide);have f9:∃gl,(vals 9)=.slice (some ⟨gl,0,none⟩) 2 2∧W.heap[gl]?=some (.cells #[.int .i64 1,.int .i64 4] 3 (0,0)):=hF 9 (by decide);have f10:vals 10=.int .i64 x:=hF 10 (by decide);have f11:∃q,(vals 11)=.int .i64 q:=hF 11 (by decide);have f12:(vals 12)=.int .i64 0∨(vals 12)=.int .i64 1:=hF 12 (by decide);have f13:∃gl q,(vals 13)=.pointer (some ⟨gl,q,none⟩)∧(q=0∨q=1)∧W.heap[gl]?=some (.cells #[.int .i64 1,.int .i64 4] 3 (0,0)):=hF 13 (by decide);have f14:(vals 14)=.int .i64 1∨(vals 14)=.int .i64 4:=hF 14 (by decide);have f15:∃e:Int,(e=1∨e=4)∧(vals 15)=.agg #[.int .i64 e,.slice none 0 0,.slice none 0 0,.slice none 0 0]:=hF 15 (by decide);have f16:∃(gl:Nat) (e:Int),(e=1∨e=4)∧(vals 16)=.slice (some ⟨gl,0,none⟩) 1 1∧Y.heap.size≤gl∧W.heap[gl]?=some (.cells #[.int .i64 e,.slice none 0 0,.slice none 0 0,.slice none 0 0] 76 (0,0)):=hF 16 (by decide);have f17:∃(A1:Option Addr) (k1 c1:Nat) (A2:Option Addr) (k2 c2 g3:Nat),(vals 4)=.slice A1 k1 c1∧(vals 8)=.slice A2 k2 c2∧(vals 16)=.slice (some ⟨g3,0,none⟩) 1 1∧(vals 17)=.agg #[.int .i64 3,.slice A1 k1 c1,.slice A2 k2 c2,.slice (some ⟨g3,0,none⟩) 1 1]:=hF 17 (by decide);have f18:∃gl c,(vals 18)=.slice (some ⟨gl,0,none⟩) 1 1∧Y.heap.size≤gl∧(vals 17)=.agg c∧W.heap[gl]?=some (.cells c 76 (0,0)):=hF 18 (by decide);clear hF hR0;rw[show List.range 19=[0,1,2,3,4,5,6,7,8,9,10,11,12,13,14,15,16,17,18]from rfl];simp only[Zao,Zai,Act.put,List.getElem?_toArray,List.getElem?_cons_zero,List.getElem?_cons_succ,Option.bind_some,List.setIfInBounds_toArray,List.set_cons_zero,List.set_cons_succ,List.drop_succ_cons,List.drop_zero,f0,f1,f2,f5,f6,f10];obtain⟨A1,c1,l1,e4,hc1,hs1,hf1⟩:=f4;obtain⟨A2,c2,l2,e8,hc2,hs2,hf2⟩:=f8;obtain⟨gl,ee,hee,e16,hgl,kl⟩:=f16;obtain⟨B1,k1,d1,B2,k2,d2,g3,u1,u2,u3,e17⟩:=f17;rw[e4]at u1;rw[e8]at u2;rw[e16]at u3;injection u1 with u11 u12 u13
       injection u2 with u21 u22 u23
       injection u3 with u31 _ _
       injection u31 with u31
       injection u31 with u31
       subst u11 u12 u13 u21 u22 u23 u31;obtain⟨g18,cc,e18,hg18,ec,k18⟩:=f18;rw[e17]at ec;injection ec with ec
       subst ec;have HNW:=Zaa.mk (Kd.N_below HN.out hR);have HBW:=Zaa.mk (Zaf HB.out hR);have hlo:∀b:Nat,Y.heap.size≤b→Okp g0 g1 g2 X.heap.size b∧some b≠(Value.slice (some ⟨g,0,none⟩) m cs).ownBlock:=fun b hb=>⟨HF8.out b (Nat.le_trans HB.out.size hb),fun he=>by have:=Kd.N_lt HN.out b he.symm;omega⟩
       have HRW:Zaa (Kd.F k76 W (fun b=>Okp g0 g1 g2 X.heap.size b∧some b≠(Value.slice (some ⟨g,0,none⟩) m cs).ownBlock) (some ⟨g18,0,none⟩) 1 [(⟨3,l1,l2,[⟨ee,[],[],[]⟩]⟩:S76)]):=
        ⟨Zex (cs:=[.int .i64 3,.slice A1 l1.length c1,.slice A2 l2.length c2,.slice (some ⟨gl,0,none⟩) 1 1]) k18 (hlo _ hg18) (Zug hc1 (Kd.F_mono hf1 (fun b hb=>⟨by rw[hb];exact HO1.out,by rw[hb];exact far_own HN.out HG1.out⟩)) hc2 (Kd.F_mono hf2 (fun b hb=>⟨by rw[hb];exact HO2.out,by rw[hb];exact far_own HN.out HG2.out⟩)) (Zex (cs:=[.int .i64 ee,.slice none 0 0,.slice none 0 0,.slice none 0 0]) kl (hlo _ hgl) (Zfn _ _ _)))⟩
       have HP7:Zaa (PcsAt a0 a1 a2 (i+1) (xs++[(⟨3,l1,l2,[⟨ee,[],[],[]⟩]⟩:S76)])):=⟨HP.out.push (.inr (.inr (.inl ⟨rfl,hs1,hs2,_,1,rfl,.inl ⟨hee,rfl,rfl,rfl,Nat.le_refl _⟩,Nat.le_refl _⟩)))⟩
       simp only[e4,e8,e16,e17,e18];clear hR hc1 hs1 hf1 hc2 hs2 hf2 hee hgl kl hg18 k18 hlo
       go_wp2_with ((with_reducible refine Zas (b:=.append) (xs:=#[.tmp 72,.tmp 90]) rfl ?_);at_builtin;refine Kd.N_append_rows k76 (w0:=X) (W:=W) X.heap.size rfl (.tmp 72) (.tmp 90) 74 76 (.agg #[.int .i64 0,.slice none 0 0,.slice none 0 0,.slice none 0 0]) 80 rfl Tryz.underlying74 Zgz rfl (by decide) (by omega) (.slice (some ⟨g,0,none⟩) m cs) xs [(⟨3,l1,l2,[⟨ee,[],[],[]⟩]⟩:S76)] (some ⟨g18,0,none⟩) 1 1 (Okp g0 g1 g2 X.heap.size) _ rfl rfl HNW.out HRW.out (fun b hb=>hb) (fun k hk=>HF8.out k (Nat.le_trans HBW.out.size hk)) HBW.out HBW.out.size ?aL ?_;(case aL=>have:=HLX.out;omega);intro v6 w6 ho6 hb6 hg6 hat6;have HN6:=Zaa.mk ho6;have HB6:=Zaa.mk hb6;clear ho6 hb6 hg6 hat6)
       go_wp2
       go_roundw
       case rel=>exact⟨i+1,_,by omega,by omega,by simp,HP7,HN6,HB6⟩
       case measure=>show ls.length-((i:Int)+1).toNat<ls.length-(i:Int).toNat;omega
    by_cases c6:c=6
    ·subst c6
     as_aux_lemma=>
      clear hm HPK0 HPK1 HPK2
      go_upto_region 16 with fail
      clear hcx;have HLY:=Zaa.mk (Zaq Y (.cells #[.int .i64 y.f0,.slice B1 y.f1.length d1,.slice B2 y.f2.length d2,.slice B3 y.f3.length d3] 76));have HNL:=Zaa.mk (Kd.N_alloc HN.out (.cells #[.int .i64 y.f0,.slice B1 y.f1.length d1,.slice B2 y.f2.length d2,.slice B3 y.f3.length d3] 76));have HBL:=Zaa.mk (Zae HB.out (.cells #[.int .i64 y.f0,.slice B1 y.f1.length d1,.slice B2 y.f2.length d2,.slice B3 y.f3.length d3] 76));have HBZ:=Zaa.mk (Zae (Below.refl _ Y) (.cells #[.int .i64 y.f0,.slice B1 y.f1.length d1,.slice B2 y.f2.length d2,.slice B3 y.f3.length d3] 76));have HW7:Zaa (PcsAt a0 a1 a2 (i+1) (xs.set (k:Int).toNat ⟨7,[],[],[y]⟩)):=⟨by
       have e1:=HXL.out;have e2:=HMK.out;have e3:xs.length-1=k:=by omega
       have hp:=HP.out.wrap (x:=⟨7,[],[],[y]⟩) (by omega) (fun D n h=>.inr (.inr (.inr (.inl ⟨rfl,rfl,rfl,_,n,rfl,by rw[e3]at h;rw[HY.out];exact h,by omega⟩))));rw[e3]at hp;rw[Int.toNat_natCast];exact hp⟩
      go_wp2_with ((with_reducible refine Zbt (t:=76) (p:=117) rfl ?_);refine Kd.N_store k76 (w0:=X) X.heap.size rfl rfl 76 (.tmp 117) (.tmp 116) rfl 76 (k:Int) 0 xs ⟨7,[],[],[y]⟩ (.agg #[.int .i64 7,.slice none 0 0,.slice none 0 0,.slice (some ⟨Y.heap.size,0,none⟩) 1 1]) [.int .i64 7,.slice none 0 0,.slice none 0 0,.slice (some ⟨Y.heap.size,0,none⟩) 1 1] [.int .i64 y.f0,.slice B1 y.f1.length d1,.slice B2 y.f2.length d2,.slice B3 y.f3.length d3] (Okp g0 g1 g2 X.heap.size) (fun b=>Okp g0 g1 g2 X.heap.size b∧b≠g) rfl ?sO rfl rfl rfl ?s1 HNL.out ?s2 ?s3 rfl ?s4 ?s5 ?s6 (fun _ h=>h) HBL.out ?_;(case sO=>rfl);(case s1=>first | decide | (intro q hq2;simp at hq2;rcases hq2 with rfl | rfl | rfl | rfl <;> rfl));(case s2=>omega);(case s3=>omega);(case s4=>intro j u hu;exact Zab HBZ.out (HCC.out j u hu));(case s5=>exact Nat.le_refl 4);(case s6=>exact Zlb 7 (Zex HLY.out ⟨HF8.out _ HB.out.size,fun h=>by have:=HGY.out;omega⟩ (Kd.FK_below HEL.out HBZ.out)));intro w6 ho6 hb6 hg6;have HN6:=Zaa.mk ho6;have HB6:=Zaa.mk hb6;clear ho6 hb6 hg6)
      go_roundw
      case rel=>exact⟨i+1,_,by omega,by omega,by simp,HW7,HN6,HB6⟩
      case measure=>show ls.length-((i:Int)+1).toNat<ls.length-(i:Int).toNat;omega
    by_cases c7:c=7
    ·subst c7
     as_aux_lemma=>
      clear hm hcx;have HQ:Zaa (IntKind.i64.wrap ((m:Int)-1)=k):=⟨by have:=HMK.out;have:=HLX.out;have:=HXL.out;rw[IntKind.wrap_i64];omega⟩
      have HKM:=Zaa.mk hkm;have X0:=Zaa.mk x0;have X1:=Zaa.mk x1;have X2:=Zaa.mk x2;have X3:=Zaa.mk x3;have FR0:=Zaa.mk fr0;by_cases m1x:m<2
      all_goals (
       go_upto_region 18 with fail
       clear hq x0 x1 x2 x3 fr0 m1x;refine Zbq 18 _ Zcl (phiP18 (.slice (some ⟨g,0,none⟩) m cs) m k x g1 n1 g2 n2 a1 a2 g Y.heap.size #[.int .i64 y.f0,.slice B1 y.f1.length d1,.slice B2 y.f2.length d2,.slice B3 y.f3.length d3]) Zca (by kernel_rfl) (by kernel_rfl) (by kernel_rfl) rfl Zbk Zbf (Ztm _ _ _ _ _ _ _ _ _ _ _ _ _) ?step ?fin
       case step=>
        repeat (rename_i z;clear z)
        refine⟨?_,?_,?_,?_,?_,?_,?_,?_,?_,?_,?_,?_,?_,?_,?_,?_,?_,?_,trivial⟩ <;> intro vals W hR0 hd <;> have hR:=Zaf (Zam (Below.refl _ Y)) hR0
        ·refine Zad (W':=W) ?_ ⟨Zbr,rfl⟩
         clear hd;simp only[Zao,Zcl,Zai];go_simp
        ·refine Zad (W':=W) ?_ ⟨Zbr,rfl⟩
         clear hd;simp only[Zao,Zcl,Zai];go_simp
        ·have h1:vals 1=.int .i64 (m:Int):=hd 1 (by simp[Zcl]);have hq:IntKind.i64.wrap ((m:Int)-1)=k:=HQ.out;refine Zad (W':=W) ?_ ⟨Zbr,rfl⟩
         clear hd;simp only[Zao,Zcl,Zai,h1];go_simp
        ·refine Zad (W':=W) ?_ ⟨Zbr,rfl⟩
         clear hd;simp only[Zao,Zcl,Zai];go_simp
        ·refine Zad (W':=W) ?_ ⟨Zbr,rfl⟩
         clear hd;simp only[Zao,Zcl,Zai];go_simp
        ·have h4:vals 4=.int .i64 x:=hd 4 (by simp[Zcl]);clear hd;refine Zad (W':=W) (v:=.int .i64 (IntKind.i64.wrap (x.tdiv 11))) ?_ ⟨Zbr,_,rfl⟩
         simp only[Zao,Zcl,Zai,h4];go_simp
        ·have h3:vals 3=.slice (some ⟨g1,0,none⟩) n1 n1:=hd 3 (by simp[Zcl]);have h5:∃q,(vals 5)=.int .i64 q:=hd 5 (by simp[Zcl]);obtain⟨q,hq5⟩:=h5;clear hd;refine Zbi (W':=W) (f:=30) (args:=#[.slice (some ⟨g1,0,none⟩) n1 n1,.int .i64 q]) ?_ ((HPK1.out _ W (Zaf HBY.out hR)).mono ?_)
         ·simp only[Zao,Zcl,Zai,h3,hq5];go_simp
         ·rintro e w1 ⟨⟨A1,c1,l1,rfl,hc1,hs1,hf1⟩,rfl⟩;exact⟨_,rfl,Zbr,A1,c1,l1,rfl,hc1,hs1,hf1⟩
        ·refine Zad (W':=W) ?_ ⟨Zbr,rfl⟩
         clear hd;simp only[Zao,Zcl,Zai];go_simp
        ·refine Zad (W':=W) ?_ ⟨Zbr,rfl⟩
         clear hd;simp only[Zao,Zcl,Zai];go_simp
        ·have h8:vals 8=.int .i64 x:=hd 8 (by simp[Zcl]);clear hd;refine Zad (W':=W) (v:=.int .i64 (IntKind.i64.wrap (x.tdiv 13))) ?_ ⟨Zbr,_,rfl⟩
         simp only[Zao,Zcl,Zai,h8];go_simp
        ·have h7:vals 7=.slice (some ⟨g2,0,none⟩) n2 n2:=hd 7 (by simp[Zcl]);have h9:∃q,(vals 9)=.int .i64 q:=hd 9 (by simp[Zcl]);obtain⟨q,hq5⟩:=h9;clear hd;refine Zbi (W':=W) (f:=30) (args:=#[.slice (some ⟨g2,0,none⟩) n2 n2,.int .i64 q]) ?_ ((HPK2.out _ W (Zaf HBY.out hR)).mono ?_)
         ·simp only[Zao,Zcl,Zai,h7,hq5];go_simp
         ·rintro e w1 ⟨⟨A1,c1,l1,rfl,hc1,hs1,hf1⟩,rfl⟩;exact⟨_,rfl,Zbr,A1,c1,l1,rfl,hc1,hs1,hf1⟩
        ·refine Zad (W':=W) ?_ ⟨Zbr,rfl⟩
         clear hd;simp only[Zao,Zcl,Zai];go_simp
        ·refine Zad (W':=W) ?_ ⟨Zbr,rfl⟩
         clear hd;simp only[Zao,Zcl,Zai];go_simp
        ·have h12:vals 12=.int .i64 (m:Int):=hd 12 (by simp[Zcl]);have hq:IntKind.i64.wrap ((m:Int)-1)=k:=HQ.out;refine Zad (W':=W) ?_ ⟨Zbr,rfl⟩
         clear hd;simp only[Zao,Zcl,Zai,h12];go_simp
        ·have h11:vals 11=(.slice (some ⟨g,0,none⟩) m cs):=hd 11 (by simp[Zcl]);have h13:vals 13=.int .i64 (k:Int):=hd 13 (by simp[Zcl]);have hkm2:=HKM.out;refine Zad (W':=W) ?_ ⟨Zbr,rfl⟩
         clear hd;simp only[Zao,Zcl,Zai,h11,h13];go_simp
        ·have h14:vals 14=.pointer (some ⟨g,k*4,none⟩):=hd 14 (by simp[Zcl]);have x0b:=Zab hR X0.out;have x1b:=Zab hR X1.out;have x2b:=Zab hR X2.out;have x3b:=Zab hR X3.out;refine Zad (W':=W) ?_ ⟨Zbr,rfl⟩
         clear hd;simp only[Zao,Zcl,Zai,h14];go_simp
        ·have h15:vals 15=.agg #[.int .i64 y.f0,.slice B1 y.f1.length d1,.slice B2 y.f2.length d2,.slice B3 y.f3.length d3]:=hd 15 (by simp[Zcl]);clear hd;refine Zad (W':=W.alloc (.cells #[.int .i64 y.f0,.slice B1 y.f1.length d1,.slice B2 y.f2.length d2,.slice B3 y.f3.length d3] 76)) (v:=.slice (some ⟨W.heap.size,0,none⟩) 1 1) ?_ ⟨Zae Zbr _,W.heap.size,rfl,hR.size,Zaq W _⟩
         simp only[Zao,Zcl,Zai,h15];go_simp
        ·have h6:∃A c l,(vals 6)=.slice A l.length c∧l.length≤c∧Some0 a1 l∧Kd.F Kd.string W (fun b=>b=g1) A l.length l:=hd 6 (by simp[Zcl]);have h10:∃A c l,(vals 10)=.slice A l.length c∧l.length≤c∧Some0 a2 l∧Kd.F Kd.string W (fun b=>b=g2) A l.length l:=hd 10 (by simp[Zcl]);have h16:∃gl,(vals 16)=.slice (some ⟨gl,0,none⟩) 1 1∧Y.heap.size≤gl∧W.heap[gl]?=some (.cells #[.int .i64 y.f0,.slice B1 y.f1.length d1,.slice B2 y.f2.length d2,.slice B3 y.f3.length d3] 76 (0,0)):=hd 16 (by simp[Zcl]);obtain⟨A6,c6,l6,e6,_⟩:=h6;obtain⟨A10,c10,l10,e10,_⟩:=h10;obtain⟨g16,e16,_⟩:=h16;refine Zad (W':=W) ?_ ⟨Zbr,rfl⟩
         clear hd;simp only[Zao,Zcl,Zai,e6,e10,e16];go_simp
       case fin=>
        intro vals W hR0 hF;have hR:=Zaf (Zam (Below.refl _ Y)) hR0;have f0:vals 0=(.slice (some ⟨g,0,none⟩) m cs):=hF 0 (by decide);have f1:vals 1=.int .i64 (m:Int):=hF 1 (by decide);have f2:vals 2=.int .i64 (k:Int):=hF 2 (by decide);have f3:vals 3=.slice (some ⟨g1,0,none⟩) n1 n1:=hF 3 (by decide);have f4:vals 4=.int .i64 x:=hF 4 (by decide);have f5:∃q,(vals 5)=.int .i64 q:=hF 5 (by decide);have f6:∃A c l,(vals 6)=.slice A l.length c∧l.length≤c∧Some0 a1 l∧Kd.F Kd.string W (fun b=>b=g1) A l.length l:=hF 6 (by decide);have f7:vals 7=.slice (some ⟨g2,0,none⟩) n2 n2:=hF 7 (by decide);have f8:vals 8=.int .i64 x:=hF 8 (by decide);have f9:∃q,(vals 9)=.int .i64 q:=hF 9 (by decide);have f10:∃A c l,(vals 10)=.slice A l.length c∧l.length≤c∧Some0 a2 l∧Kd.F Kd.string W (fun b=>b=g2) A l.length l:=hF 10 (by decide);have f11:vals 11=(.slice (some ⟨g,0,none⟩) m cs):=hF 11 (by decide);have f12:vals 12=.int .i64 (m:Int):=hF 12 (by decide);have f13:vals 13=.int .i64 (k:Int):=hF 13 (by decide);have f14:vals 14=.pointer (some ⟨g,k*4,none⟩):=hF 14 (by decide);have f15:vals 15=.agg #[.int .i64 y.f0,.slice B1 y.f1.length d1,.slice B2 y.f2.length d2,.slice B3 y.f3.length d3]:=hF 15 (by decide);have f16:∃gl,(vals 16)=.slice (some ⟨gl,0,none⟩) 1 1∧Y.heap.size≤gl∧W.heap[gl]?=some (.cells #[.int .i64 y.f0,.slice B1 y.f1.length d1,.slice B2 y.f2.length d2,.slice B3 y.f3.length d3] 76 (0,0)):=hF 16 (by decide);have f17:vals 17=.agg #[.int .i64 3,(vals 6),(vals 10),(vals 16)]:=hF 17 (by decide);clear hF hR0;rw[show List.range 18=[0,1,2,3,4,5,6,7,8,9,10,11,12,13,14,15,16,17]from rfl];simp only[Zao,Zai,Act.put,List.getElem?_toArray,List.getElem?_cons_zero,List.getElem?_cons_succ,Option.bind_some,List.setIfInBounds_toArray,List.set_cons_zero,List.set_cons_succ,List.drop_succ_cons,List.drop_zero,f0,f1,f2,f3,f4,f7,f8,f11,f12,f13,f14,f15,f17];obtain⟨A1,c1,l1,f6,hc1,hs1,hf1⟩:=f6;obtain⟨A2,c2,l2,f10,hc2,hs2,hf2⟩:=f10;obtain⟨gl,f16,hgl,kl⟩:=f16;obtain⟨q5,f5⟩:=f5;obtain⟨q9,f9⟩:=f9;rw[f6,f10,f16]at f17;have HNW:=Zaa.mk (Kd.N_below HN.out hR);have HBW:=Zaa.mk (Zaf HB.out hR);have HCW:=Zaa.mk (fun (jj:Nat) (u:Value) hu=>Zab hR (HCC.out jj u hu));have HKW:Zaa (Kd.FK k76 W (fun b=>Okp g0 g1 g2 X.heap.size b∧b≠g) (⟨3,l1,l2,[y]⟩:S76) [.int .i64 3,.slice A1 l1.length c1,.slice A2 l2.length c2,.slice (some ⟨gl,0,none⟩) 1 1]):=
         ⟨Zug hc1 (Kd.F_mono hf1 (fun b hb=>⟨by rw[hb];exact HO1.out,fun h=>by have:=HG1.out;have:=HGX.out;omega⟩)) hc2 (Kd.F_mono hf2 (fun b hb=>⟨by rw[hb];exact HO2.out,fun h=>by have:=HG2.out;have:=HGX.out;omega⟩)) (Zex kl ⟨HF8.out _ (Nat.le_trans HB.out.size hgl),fun h=>by have:=HGY.out;omega⟩ (Kd.FK_below HEL.out hR))⟩
        have HW7:Zaa (PcsAt a0 a1 a2 (i+1) (xs.set (k:Int).toNat ⟨3,l1,l2,[y]⟩)):=⟨by
         have e1:=HXL.out;have e2:=HMK.out;have e3:xs.length-1=k:=by omega
         have hp:=HP.out.wrap (x:=⟨3,l1,l2,[y]⟩) (by omega) (fun D n h=>.inr (.inr (.inl ⟨rfl,hs1,hs2,_,n,rfl,by rw[e3]at h;rw[HY.out];exact h,by omega⟩)));rw[e3]at hp;rw[Int.toNat_natCast];exact hp⟩
        simp only[f6,f10,f16,f5,f9,f17];clear hc1 hs1 hf1 hc2 hs2 hf2 hgl kl;have hkm2:(k:Int)<m:=by have:=HKM.out;omega
        have fr1:W.frozen? ⟨g,k*4,none⟩=false:=by rw[World.frozen?_of_block (hR.block g HGY.out)];exact FR0.out
        clear hR
        go_wp2_with ((with_reducible refine Zbt (t:=76) (p:=143) rfl ?_);refine Kd.N_store k76 (w0:=X) X.heap.size rfl rfl 76 (.tmp 143) (.tmp 142) rfl 76 (k:Int) 0 xs ⟨3,l1,l2,[y]⟩ (.agg #[.int .i64 3,.slice A1 l1.length c1,.slice A2 l2.length c2,.slice (some ⟨gl,0,none⟩) 1 1]) [.int .i64 3,.slice A1 l1.length c1,.slice A2 l2.length c2,.slice (some ⟨gl,0,none⟩) 1 1] [.int .i64 y.f0,.slice B1 y.f1.length d1,.slice B2 y.f2.length d2,.slice B3 y.f3.length d3] (Okp g0 g1 g2 X.heap.size) (fun b=>Okp g0 g1 g2 X.heap.size b∧b≠g) rfl ?sO rfl rfl rfl ?s1 HNW.out ?s2 ?s3 rfl ?s4 ?s5 ?s6 (fun _ h=>h) HBW.out ?_;(case sO=>rfl);(case s1=>first | decide | (intro q hq2;simp at hq2;rcases hq2 with rfl | rfl | rfl | rfl <;> rfl));(case s2=>omega);(case s3=>omega);(case s4=>intro j u hu;exact HCW.out j u hu);(case s5=>exact Nat.le_refl 4);(case s6=>exact HKW.out);intro w6 ho6 hb6 hg6;have HN6:=Zaa.mk ho6;have HB6:=Zaa.mk hb6;clear ho6 hb6 hg6)
        go_roundw
        case rel=>exact⟨i+1,_,by omega,by omega,by simp,HW7,HN6,HB6⟩
        case measure=>show ls.length-((i:Int)+1).toNat<ls.length-(i:Int).toNat;omega)
    have c8:c=8∨c=9∨c=10:=by omega
    clear c3 c4 clt c5 c6 c7;by_cases m1x:m<2
    ·obtain rfl:m=1:=by omega
     obtain rfl:k=0:=by omega
     clear hmz hmp m1x;rw[show 0*4=0 from rfl]at x0 x1 x2 x3 fr0
     rcases c8 with rfl | rfl | rfl
     ·as_aux_lemma=>
       clear hm HPK0 HPK1 HPK2
       go_upto_region 16 with fail
       clear hcx;have HLY:=Zaa.mk (Zaq Y (.cells #[.int .i64 y.f0,.slice B1 y.f1.length d1,.slice B2 y.f2.length d2,.slice B3 y.f3.length d3] 76));have HNL:=Zaa.mk (Kd.N_alloc HN.out (.cells #[.int .i64 y.f0,.slice B1 y.f1.length d1,.slice B2 y.f2.length d2,.slice B3 y.f3.length d3] 76));have HBL:=Zaa.mk (Zae HB.out (.cells #[.int .i64 y.f0,.slice B1 y.f1.length d1,.slice B2 y.f2.length d2,.slice B3 y.f3.length d3] 76));have HBZ:=Zaa.mk (Zae (Below.refl _ Y) (.cells #[.int .i64 y.f0,.slice B1 y.f1.length d1,.slice B2 y.f2.length d2,.slice B3 y.f3.length d3] 76));have HW7:Zaa (PcsAt a0 a1 a2 (i+1) (xs.set ((0:Nat):Int).toNat ⟨7,[],[],[y]⟩)):=⟨by
        have e1:=HXL.out;have e2:=HMK.out;have e3:xs.length-1=0:=by omega
        have hp:=HP.out.wrap (x:=⟨7,[],[],[y]⟩) (by omega) (fun D n h=>.inr (.inr (.inr (.inl ⟨rfl,rfl,rfl,_,n,rfl,by rw[e3]at h;rw[HY.out];exact h,by omega⟩))));rw[e3]at hp;rw[Int.toNat_natCast];exact hp⟩
       go_wp2_with ((with_reducible refine Zbt (t:=76) (p:=117) rfl ?_);refine Kd.N_store k76 (w0:=X) X.heap.size rfl rfl 76 (.tmp 117) (.tmp 116) rfl 76 ((0:Nat):Int) 0 xs ⟨7,[],[],[y]⟩ (.agg #[.int .i64 7,.slice none 0 0,.slice none 0 0,.slice (some ⟨Y.heap.size,0,none⟩) 1 1]) [.int .i64 7,.slice none 0 0,.slice none 0 0,.slice (some ⟨Y.heap.size,0,none⟩) 1 1] [.int .i64 y.f0,.slice B1 y.f1.length d1,.slice B2 y.f2.length d2,.slice B3 y.f3.length d3] (Okp g0 g1 g2 X.heap.size) (fun b=>Okp g0 g1 g2 X.heap.size b∧b≠g) rfl ?sO rfl rfl rfl ?s1 HNL.out ?s2 ?s3 rfl ?s4 ?s5 ?s6 (fun _ h=>h) HBL.out ?_;(case sO=>rfl);(case s1=>first | decide | (intro q hq2;simp at hq2;rcases hq2 with rfl | rfl | rfl | rfl <;> rfl));(case s2=>omega);(case s3=>omega);(case s4=>intro j u hu;exact Zab HBZ.out (HCC.out j u hu));(case s5=>exact Nat.le_refl 4);(case s6=>exact Zlb 7 (Zex HLY.out ⟨HF8.out _ HB.out.size,fun h=>by have:=HGY.out;omega⟩ (Kd.FK_below HEL.out HBZ.out)));intro w6 ho6 hb6 hg6;have HN6:=Zaa.mk ho6;have HB6:=Zaa.mk hb6;clear ho6 hb6 hg6)
       go_roundw
       case rel=>exact⟨i+1,_,by omega,by omega,by simp,HW7,HN6,HB6⟩
       case measure=>show ls.length-((i:Int)+1).toNat<ls.length-(i:Int).toNat;omega
     ·as_aux_lemma=>
       clear hm HPK0 HPK1 HPK2
       go_upto_region 16 with fail
       clear hcx;have HLY:=Zaa.mk (Zaq Y (.cells #[.int .i64 y.f0,.slice B1 y.f1.length d1,.slice B2 y.f2.length d2,.slice B3 y.f3.length d3] 76));have HNL:=Zaa.mk (Kd.N_alloc HN.out (.cells #[.int .i64 y.f0,.slice B1 y.f1.length d1,.slice B2 y.f2.length d2,.slice B3 y.f3.length d3] 76));have HBL:=Zaa.mk (Zae HB.out (.cells #[.int .i64 y.f0,.slice B1 y.f1.length d1,.slice B2 y.f2.length d2,.slice B3 y.f3.length d3] 76));have HBZ:=Zaa.mk (Zae (Below.refl _ Y) (.cells #[.int .i64 y.f0,.slice B1 y.f1.length d1,.slice B2 y.f2.length d2,.slice B3 y.f3.length d3] 76));have HW7:Zaa (PcsAt a0 a1 a2 (i+1) (xs.set ((0:Nat):Int).toNat ⟨7,[],[],[y]⟩)):=⟨by
        have e1:=HXL.out;have e2:=HMK.out;have e3:xs.length-1=0:=by omega
        have hp:=HP.out.wrap (x:=⟨7,[],[],[y]⟩) (by omega) (fun D n h=>.inr (.inr (.inr (.inl ⟨rfl,rfl,rfl,_,n,rfl,by rw[e3]at h;rw[HY.out];exact h,by omega⟩))));rw[e3]at hp;rw[Int.toNat_natCast];exact hp⟩
       go_wp2_with ((with_reducible refine Zbt (t:=76) (p:=117) rfl ?_);refine Kd.N_store k76 (w0:=X) X.heap.size rfl rfl 76 (.tmp 117) (.tmp 116) rfl 76 ((0:Nat):Int) 0 xs ⟨7,[],[],[y]⟩ (.agg #[.int .i64 7,.slice none 0 0,.slice none 0 0,.slice (some ⟨Y.heap.size,0,none⟩) 1 1]) [.int .i64 7,.slice none 0 0,.slice none 0 0,.slice (some ⟨Y.heap.size,0,none⟩) 1 1] [.int .i64 y.f0,.slice B1 y.f1.length d1,.slice B2 y.f2.length d2,.slice B3 y.f3.length d3] (Okp g0 g1 g2 X.heap.size) (fun b=>Okp g0 g1 g2 X.heap.size b∧b≠g) rfl ?sO rfl rfl rfl ?s1 HNL.out ?s2 ?s3 rfl ?s4 ?s5 ?s6 (fun _ h=>h) HBL.out ?_;(case sO=>rfl);(case s1=>first | decide | (intro q hq2;simp at hq2;rcases hq2 with rfl | rfl | rfl | rfl <;> rfl));(case s2=>omega);(case s3=>omega);(case s4=>intro j u hu;exact Zab HBZ.out (HCC.out j u hu));(case s5=>exact Nat.le_refl 4);(case s6=>exact Zlb 7 (Zex HLY.out ⟨HF8.out _ HB.out.size,fun h=>by have:=HGY.out;omega⟩ (Kd.FK_below HEL.out HBZ.out)));intro w6 ho6 hb6 hg6;have HN6:=Zaa.mk ho6;have HB6:=Zaa.mk hb6;clear ho6 hb6 hg6)
       go_roundw
       case rel=>exact⟨i+1,_,by omega,by omega,by simp,HW7,HN6,HB6⟩
       case measure=>show ls.length-((i:Int)+1).toNat<ls.length-(i:Int).toNat;omega
     ·as_aux_lemma=>
       clear hm HPK0 HPK1 HPK2
       go_upto_region 16 with fail
       clear hcx;have HLY:=Zaa.mk (Zaq Y (.cells #[.int .i64 y.f0,.slice B1 y.f1.length d1,.slice B2 y.f2.length d2,.slice B3 y.f3.length d3] 76));have HNL:=Zaa.mk (Kd.N_alloc HN.out (.cells #[.int .i64 y.f0,.slice B1 y.f1.length d1,.slice B2 y.f2.length d2,.slice B3 y.f3.length d3] 76));have HBL:=Zaa.mk (Zae HB.out (.cells #[.int .i64 y.f0,.slice B1 y.f1.length d1,.slice B2 y.f2.length d2,.slice B3 y.f3.length d3] 76));have HBZ:=Zaa.mk (Zae (Below.refl _ Y) (.cells #[.int .i64 y.f0,.slice B1 y.f1.length d1,.slice B2 y.f2.length d2,.slice B3 y.f3.length d3] 76));have HW7:Zaa (PcsAt a0 a1 a2 (i+1) (xs.set ((0:Nat):Int).toNat ⟨7,[],[],[y]⟩)):=⟨by
        have e1:=HXL.out;have e2:=HMK.out;have e3:xs.length-1=0:=by omega
        have hp:=HP.out.wrap (x:=⟨7,[],[],[y]⟩) (by omega) (fun D n h=>.inr (.inr (.inr (.inl ⟨rfl,rfl,rfl,_,n,rfl,by rw[e3]at h;rw[HY.out];exact h,by omega⟩))));rw[e3]at hp;rw[Int.toNat_natCast];exact hp⟩
       go_wp2_with ((with_reducible refine Zbt (t:=76) (p:=117) rfl ?_);refine Kd.N_store k76 (w0:=X) X.heap.size rfl rfl 76 (.tmp 117) (.tmp 116) rfl 76 ((0:Nat):Int) 0 xs ⟨7,[],[],[y]⟩ (.agg #[.int .i64 7,.slice none 0 0,.slice none 0 0,.slice (some ⟨Y.heap.size,0,none⟩) 1 1]) [.int .i64 7,.slice none 0 0,.slice none 0 0,.slice (some ⟨Y.heap.size,0,none⟩) 1 1] [.int .i64 y.f0,.slice B1 y.f1.length d1,.slice B2 y.f2.length d2,.slice B3 y.f3.length d3] (Okp g0 g1 g2 X.heap.size) (fun b=>Okp g0 g1 g2 X.heap.size b∧b≠g) rfl ?sO rfl rfl rfl ?s1 HNL.out ?s2 ?s3 rfl ?s4 ?s5 ?s6 (fun _ h=>h) HBL.out ?_;(case sO=>rfl);(case s1=>first | decide | (intro q hq2;simp at hq2;rcases hq2 with rfl | rfl | rfl | rfl <;> rfl));(case s2=>omega);(case s3=>omega);(case s4=>intro j u hu;exact Zab HBZ.out (HCC.out j u hu));(case s5=>exact Nat.le_refl 4);(case s6=>exact Zlb 7 (Zex HLY.out ⟨HF8.out _ HB.out.size,fun h=>by have:=HGY.out;omega⟩ (Kd.FK_below HEL.out HBZ.out)));intro w6 ho6 hb6 hg6;have HN6:=Zaa.mk ho6;have HB6:=Zaa.mk hb6;clear ho6 hb6 hg6)
       go_roundw
       case rel=>exact⟨i+1,_,by omega,by omega,by simp,HW7,HN6,HB6⟩
       case measure=>show ls.length-((i:Int)+1).toNat<ls.length-(i:Int).toNat;omega
    obtain⟨j,hjm⟩:∃j,m=j+2:=⟨m-2,by omega⟩
    have hkj:k=j+1:=by have:=HMK.out;omega
    have HJ2:Zaa (m=j+2):=⟨hjm⟩
    have HJM:Zaa (j<m):=⟨by omega⟩
    have HKM:Zaa (k<m):=⟨by omega⟩
    have HCS:Zaa (m≤cs):=⟨(Kd.N_reads' HN.out).2.1⟩
    have HQ:Zaa (IntKind.i64.wrap ((m:Int)-1)=k):=⟨by have:=HMK.out;have:=HLX.out;have:=HXL.out;rw[IntKind.wrap_i64];omega⟩
    have HQ2:Zaa (IntKind.i64.wrap ((m:Int)-2)=j):=⟨by have:=HLX.out;have:=HXL.out;rw[IntKind.wrap_i64];omega⟩
    obtain⟨el2,_,q2,q3,_⟩:=Kd.N_elem HN.out z76 (j:Int) (by omega) (by omega);rw[Int.toNat_natCast]at q2 q3;obtain⟨C1,b1,C2,b2,C3,b3,rfl,_⟩:=Zcb (Kd.FK_now q2);have HEL2:=Zaa.mk q2;obtain⟨u,hu⟩:∃u,u=xs.getD j z76:=⟨_,rfl⟩
    have HU:=Zaa.mk hu;rw[←hu]at HEL2 q3;have X0:Zaa (Y.cell? ⟨g,j*4,none⟩=some (.int .i64 u.f0)):=⟨q3 0 _ rfl⟩
    have X1:Zaa (Y.cell? ⟨g,j*4+1,none⟩=some (.slice C1 u.f1.length b1)):=⟨q3 1 _ rfl⟩
    have X2:Zaa (Y.cell? ⟨g,j*4+2,none⟩=some (.slice C2 u.f2.length b2)):=⟨q3 2 _ rfl⟩
    have X3:Zaa (Y.cell? ⟨g,j*4+3,none⟩=some (.slice C3 u.f3.length b3)):=⟨q3 3 _ rfl⟩
    have Y0:=Zaa.mk x0;have Y1:=Zaa.mk x1;have Y2:=Zaa.mk x2;have Y3:=Zaa.mk x3;clear q2 q3 hu hm hcx HPK0 HPK1 HPK2 hjm hkj
    rcases c8 with rfl | rfl | rfl
    ·go_upto_region 20 with fail
     clear hq x0 x1 x2 x3 fr0 m1x hkm hmz hmp;refine Zbq 19 _ Zbd (Zrc (.slice (some ⟨g,0,none⟩) m cs) m j k g #[.int .i64 u.f0,.slice C1 u.f1.length b1,.slice C2 u.f2.length b2,.slice C3 u.f3.length b3] #[.int .i64 y.f0,.slice B1 y.f1.length d1,.slice B2 y.f2.length d2,.slice B3 y.f3.length d3] #[.int .i64 u.f0,.slice C1 u.f1.length b1,.slice C2 u.f2.length b2,.slice C3 u.f3.length b3,.int .i64 y.f0,.slice B1 y.f1.length d1,.slice B2 y.f2.length d2,.slice B3 y.f3.length d3] Y.heap.size) Zca (by kernel_rfl) (by kernel_rfl) (by kernel_rfl) rfl Zbk Zbf (Zlz _ _ _ _ _ _ _ _ _) ?step ?fin
     case step=>
      repeat (rename_i z;clear z)
      refine⟨?_,?_,?_,?_,?_,?_,?_,?_,?_,?_,?_,?_,?_,?_,?_,?_,?_,?_,?_,trivial⟩ <;> intro vals W hR0 hd <;> have hR:=Zaf (Zam (Below.refl _ Y)) hR0
      ·refine Zad (W':=W) ?_ ⟨Zbr,rfl⟩
       clear hd;simp only[Zao,Zbd,Zai];go_simp
      ·refine Zad (W':=W) ?_ ⟨Zbr,rfl⟩
       clear hd;simp only[Zao,Zbd,Zai];go_simp
      ·have h1:vals 1=.int .i64 (m:Int):=hd 1 (by simp[Zbd]);have hq2:IntKind.i64.wrap ((m:Int)-2)=j:=HQ2.out;refine Zad (W':=W) ?_ ⟨Zbr,rfl⟩
       clear hd;simp only[Zao,Zbd,Zai,h1];go_simp
      ·refine Zad (W':=W) ?_ ⟨Zbr,rfl⟩
       clear hd;simp only[Zao,Zbd,Zai];go_simp
      ·have h3:vals 3=.int .i64 (m:Int):=hd 3 (by simp[Zbd]);have hq2:IntKind.i64.wrap ((m:Int)-2)=j:=HQ2.out;refine Zad (W':=W) ?_ ⟨Zbr,rfl⟩
       clear hd;simp only[Zao,Zbd,Zai,h3];go_simp
      ·have h0:vals 0=(.slice (some ⟨g,0,none⟩) m cs):=hd 0 (by simp[Zbd]);have h2:vals 2=.int .i64 (j:Int):=hd 2 (by simp[Zbd]);have h4:vals 4=.int .i64 (j:Int):=hd 4 (by simp[Zbd]);have hjm:=HJM.out;have hkm2:=HKM.out;have hjc:¬cs<j:=by have:=HCS.out;omega
       refine Zad (W':=W) ?_ ⟨Zbr,rfl⟩
       clear hd;simp only[Zao,Zbd,Zai,h0,h2,h4];go_simp
      ·refine Zad (W':=W) ?_ ⟨Zbr,rfl⟩
       clear hd;simp only[Zao,Zbd,Zai];go_simp
      ·refine Zad (W':=W) ?_ ⟨Zbr,rfl⟩
       clear hd;simp only[Zao,Zbd,Zai];go_simp
      ·have h7:vals 7=.int .i64 (m:Int):=hd 7 (by simp[Zbd]);have hq2:IntKind.i64.wrap ((m:Int)-2)=j:=HQ2.out;refine Zad (W':=W) ?_ ⟨Zbr,rfl⟩
       clear hd;simp only[Zao,Zbd,Zai,h7];go_simp
      ·have h6:vals 6=(.slice (some ⟨g,0,none⟩) m cs):=hd 6 (by simp[Zbd]);have h8:vals 8=.int .i64 (j:Int):=hd 8 (by simp[Zbd]);have hjm:=HJM.out;have hkm2:=HKM.out;have hjc:¬cs<j:=by have:=HCS.out;omega
       refine Zad (W':=W) ?_ ⟨Zbr,rfl⟩
       clear hd;simp only[Zao,Zbd,Zai,h6,h8];go_simp
      ·have h9:vals 9=.pointer (some ⟨g,j*4,none⟩):=hd 9 (by simp[Zbd]);have x0b:=Zab hR X0.out;have x1b:=Zab hR X1.out;have x2b:=Zab hR X2.out;have x3b:=Zab hR X3.out;refine Zad (W':=W) ?_ ⟨Zbr,rfl⟩
       clear hd;simp only[Zao,Zbd,Zai,h9];go_simp
      ·refine Zad (W':=W) ?_ ⟨Zbr,rfl⟩
       clear hd;simp only[Zao,Zbd,Zai];go_simp
      ·refine Zad (W':=W) ?_ ⟨Zbr,rfl⟩
       clear hd;simp only[Zao,Zbd,Zai];go_simp
      ·have h12:vals 12=.int .i64 (m:Int):=hd 12 (by simp[Zbd]);have hq:IntKind.i64.wrap ((m:Int)-1)=k:=HQ.out;refine Zad (W':=W) ?_ ⟨Zbr,rfl⟩
       clear hd;simp only[Zao,Zbd,Zai,h12];go_simp
      ·have h11:vals 11=(.slice (some ⟨g,0,none⟩) m cs):=hd 11 (by simp[Zbd]);have h13:vals 13=.int .i64 (k:Int):=hd 13 (by simp[Zbd]);have hjm:=HJM.out;have hkm2:=HKM.out;have hjc:¬cs<j:=by have:=HCS.out;omega
       refine Zad (W':=W) ?_ ⟨Zbr,rfl⟩
       clear hd;simp only[Zao,Zbd,Zai,h11,h13];go_simp
      ·have h14:vals 14=.pointer (some ⟨g,k*4,none⟩):=hd 14 (by simp[Zbd]);have x0b:=Zab hR Y0.out;have x1b:=Zab hR Y1.out;have x2b:=Zab hR Y2.out;have x3b:=Zab hR Y3.out;refine Zad (W':=W) ?_ ⟨Zbr,rfl⟩
       clear hd;simp only[Zao,Zbd,Zai,h14];go_simp
      ·have h10:vals 10=.agg #[.int .i64 u.f0,.slice C1 u.f1.length b1,.slice C2 u.f2.length b2,.slice C3 u.f3.length b3]:=hd 10 (by simp[Zbd]);have h15:vals 15=.agg #[.int .i64 y.f0,.slice B1 y.f1.length d1,.slice B2 y.f2.length d2,.slice B3 y.f3.length d3]:=hd 15 (by simp[Zbd]);clear hd;refine Zad (W':=W.alloc (.cells #[.int .i64 u.f0,.slice C1 u.f1.length b1,.slice C2 u.f2.length b2,.slice C3 u.f3.length b3,.int .i64 y.f0,.slice B1 y.f1.length d1,.slice B2 y.f2.length d2,.slice B3 y.f3.length d3] 76)) (v:=.slice (some ⟨W.heap.size,0,none⟩) 2 2) ?_ ⟨Zae Zbr _,W.heap.size,rfl,hR.size,Zaq W _⟩
       simp only[Zao,Zbd,Zai,h10,h15];go_simp
      ·have h16:∃gl,(vals 16)=.slice (some ⟨gl,0,none⟩) 2 2∧Y.heap.size≤gl∧W.heap[gl]?=some (.cells #[.int .i64 u.f0,.slice C1 u.f1.length b1,.slice C2 u.f2.length b2,.slice C3 u.f3.length b3,.int .i64 y.f0,.slice B1 y.f1.length d1,.slice B2 y.f2.length d2,.slice B3 y.f3.length d3] 76 (0,0)):=hd 16 (by simp[Zbd]);obtain⟨gl,e16,hg16,hk16⟩:=h16;clear hd;refine Zad (W':=W) (v:=.agg #[.int .i64 5,.slice none 0 0,.slice none 0 0,.slice (some ⟨gl,0,none⟩) 2 2]) ?_ ⟨Zbr,gl,rfl,hg16,hk16⟩
       simp only[Zao,Zbd,Zai,e16];go_simp
      ·have h17:∃gl,(vals 17)=.agg #[.int .i64 5,.slice none 0 0,.slice none 0 0,.slice (some ⟨gl,0,none⟩) 2 2]∧Y.heap.size≤gl∧W.heap[gl]?=some (.cells #[.int .i64 u.f0,.slice C1 u.f1.length b1,.slice C2 u.f2.length b2,.slice C3 u.f3.length b3,.int .i64 y.f0,.slice B1 y.f1.length d1,.slice B2 y.f2.length d2,.slice B3 y.f3.length d3] 76 (0,0)):=hd 17 (by simp[Zbd]);obtain⟨gl,e17,hg17,hk17⟩:=h17;clear hd;refine Zad (W':=W.alloc (.cells #[.int .i64 5,.slice none 0 0,.slice none 0 0,.slice (some ⟨gl,0,none⟩) 2 2] 76)) (v:=.slice (some ⟨W.heap.size,0,none⟩) 1 1) ?_ ⟨Zae Zbr _,gl,W.heap.size,rfl,hg17,hR.size,Zan hk17 _,Zaq W _⟩
       simp only[Zao,Zbd,Zai,e17];go_simp
     case fin=>
      intro vals W hR0 hF;have hR:=Zaf (Zam (Below.refl _ Y)) hR0;have f0:vals 0=(.slice (some ⟨g,0,none⟩) m cs):=hF 0 (by decide);have f1:vals 1=.int .i64 (m:Int):=hF 1 (by decide);have f2:vals 2=.int .i64 (j:Int):=hF 2 (by decide);have f3:vals 3=.int .i64 (m:Int):=hF 3 (by decide);have f4:vals 4=.int .i64 (j:Int):=hF 4 (by decide);have f5:vals 5=.slice (some ⟨g,0,none⟩) j j:=hF 5 (by decide);have f6:vals 6=(.slice (some ⟨g,0,none⟩) m cs):=hF 6 (by decide);have f7:vals 7=.int .i64 (m:Int):=hF 7 (by decide);have f8:vals 8=.int .i64 (j:Int):=hF 8 (by decide);have f9:vals 9=.pointer (some ⟨g,j*4,none⟩):=hF 9 (by decide);have f10:vals 10=.agg #[.int .i64 u.f0,.slice C1 u.f1.length b1,.slice C2 u.f2.length b2,.slice C3 u.f3.length b3]:=hF 10 (by decide);have f11:vals 11=(.slice (some ⟨g,0,none⟩) m cs):=hF 11 (by decide);have f12:vals 12=.int .i64 (m:Int):=hF 12 (by decide);have f13:vals 13=.int .i64 (k:Int):=hF 13 (by decide);have f14:vals 14=.pointer (some ⟨g,k*4,none⟩):=hF 14 (by decide);have f15:vals 15=.agg #[.int .i64 y.f0,.slice B1 y.f1.length d1,.slice B2 y.f2.length d2,.slice B3 y.f3.length d3]:=hF 15 (by decide);have f16:∃gl,(vals 16)=.slice (some ⟨gl,0,none⟩) 2 2∧Y.heap.size≤gl∧W.heap[gl]?=some (.cells #[.int .i64 u.f0,.slice C1 u.f1.length b1,.slice C2 u.f2.length b2,.slice C3 u.f3.length b3,.int .i64 y.f0,.slice B1 y.f1.length d1,.slice B2 y.f2.length d2,.slice B3 y.f3.length d3] 76 (0,0)):=hF 16 (by decide);have f17:∃gl,(vals 17)=.agg #[.int .i64 5,.slice none 0 0,.slice none 0 0,.slice (some ⟨gl,0,none⟩) 2 2]∧Y.heap.size≤gl∧W.heap[gl]?=some (.cells #[.int .i64 u.f0,.slice C1 u.f1.length b1,.slice C2 u.f2.length b2,.slice C3 u.f3.length b3,.int .i64 y.f0,.slice B1 y.f1.length d1,.slice B2 y.f2.length d2,.slice B3 y.f3.length d3] 76 (0,0)):=hF 17 (by decide);have f18:∃gl g2,(vals 18)=.slice (some ⟨g2,0,none⟩) 1 1∧Y.heap.size≤gl∧Y.heap.size≤g2∧W.heap[gl]?=some (.cells #[.int .i64 u.f0,.slice C1 u.f1.length b1,.slice C2 u.f2.length b2,.slice C3 u.f3.length b3,.int .i64 y.f0,.slice B1 y.f1.length d1,.slice B2 y.f2.length d2,.slice B3 y.f3.length d3] 76 (0,0))∧W.heap[g2]?=some (.cells #[.int .i64 5,.slice none 0 0,.slice none 0 0,.slice (some ⟨gl,0,none⟩) 2 2] 76 (0,0)):=hF 18 (by decide);clear hF hR0;rw[show List.range 19=[0,1,2,3,4,5,6,7,8,9,10,11,12,13,14,15,16,17,18]from rfl];simp only[Zao,Zai,Act.put,List.getElem?_toArray,List.getElem?_cons_zero,List.getElem?_cons_succ,Option.bind_some,List.setIfInBounds_toArray,List.set_cons_zero,List.set_cons_succ,List.drop_succ_cons,List.drop_zero,f0,f1,f2,f3,f4,f5,f6,f7,f8,f9,f10,f11,f12,f13,f14,f15];obtain⟨_,e16,_,_⟩:=f16;obtain⟨_,e17,_,_⟩:=f17;obtain⟨gl,gt2,e18,hgl,hg2,hk1,hk2⟩:=f18;have HNW:=Zaa.mk (Kd.N_below HN.out hR);have HBW:=Zaa.mk (Zaf HB.out hR);have HOW:Zaa (Kd.F k76 W (Okp g0 g1 g2 X.heap.size) (some ⟨g,0,none⟩) j (xs.take j)):=⟨Kd.N_F (Kd.N_take HNW.out (by have:=HJM.out;have:=HXL.out;omega))⟩
      have HRW:Zaa (Kd.F k76 W (Okp g0 g1 g2 X.heap.size) (some ⟨gt2,0,none⟩) 1 [(⟨5,[],[],[u,y]⟩:S76)]):=
       ⟨Zex (cs:=[.int .i64 5,.slice none 0 0,.slice none 0 0,.slice (some ⟨gl,0,none⟩) 2 2]) hk2 (HF8.out _ (Nat.le_trans HB.out.size hg2)) (Zjj 5 (Zkm (c1:=[.int .i64 u.f0,.slice C1 u.f1.length b1,.slice C2 u.f2.length b2,.slice C3 u.f3.length b3]) (c2:=[.int .i64 y.f0,.slice B1 y.f1.length d1,.slice B2 y.f2.length d2,.slice B3 y.f3.length d3]) hk1 (HF8.out _ (Nat.le_trans HB.out.size hgl)) (Kd.FK_mono (Kd.FK_below HEL2.out hR) (fun _ h=>h.1)) (Kd.FK_mono (Kd.FK_below HEL.out hR) (fun _ h=>h.1))))⟩
      have HP7:Zaa (PcsAt a0 a1 a2 (i+1) (xs.take j++[(⟨5,[],[],[u,y]⟩:S76)])):=⟨by
       have e1:xs.length-2=j:=by have:=HXL.out;have:=HJ2.out;omega
       have e2:xs.length-1=k:=by have:=HXL.out;have:=HMK.out;omega
       have hp:=HP.out.join (x:=⟨5,[],[],[u,y]⟩) (by have:=HXL.out;have:=HJ2.out;omega) (fun D n q h1 h2=>.inr (.inr (.inr (.inr ⟨.inl rfl,rfl,rfl,_,_,n,q,rfl,by rw[e1]at h1;rw[HU.out];exact h1,by rw[e2]at h2;rw[HY.out];exact h2,by omega⟩))));rw[e1]at hp;exact hp⟩
      simp only[e16,e17,e18];clear hR hgl hg2 hk1 hk2
      go_wp2_with ((with_reducible refine Zas (b:=.append) (xs:=#[.tmp 156,.tmp 169]) rfl ?_);at_builtin;refine Zfg k76 (w0:=X) (W:=W) X.heap.size rfl (.tmp 156) (.tmp 169) 74 76 (.agg #[.int .i64 0,.slice none 0 0,.slice none 0 0,.slice none 0 0]) 80 rfl Tryz.underlying74 Zgz rfl (by omega) ⟨g,0,none⟩ ⟨gt2,0,none⟩ j 1 1 (xs.take j) [(⟨5,[],[],[u,y]⟩:S76)] (Okp g0 g1 g2 X.heap.size) (Okp g0 g1 g2 X.heap.size) rfl rfl (by omega) HOW.out HRW.out (fun _ h=>h) (HF8.out _ HBW.out.size) HBW.out HBW.out.size ?aL ?_;(case aL=>have:=HLX.out;have:=HJM.out;have:=HXL.out;omega);intro v6 w6 ho6 hb6;have HN6:=Zaa.mk ho6;have HB6:=Zaa.mk hb6;clear ho6 hb6)
      go_wp2
      go_roundw
      case rel=>exact⟨i+1,_,by omega,by omega,by simp,HP7,HN6,HB6⟩
      case measure=>show ls.length-((i:Int)+1).toNat<ls.length-(i:Int).toNat;omega
    ·go_upto_region 20 with fail
     clear hq x0 x1 x2 x3 fr0 m1x hkm hmz hmp;refine Zbq 19 _ Zbd (Zrc (.slice (some ⟨g,0,none⟩) m cs) m j k g #[.int .i64 u.f0,.slice C1 u.f1.length b1,.slice C2 u.f2.length b2,.slice C3 u.f3.length b3] #[.int .i64 y.f0,.slice B1 y.f1.length d1,.slice B2 y.f2.length d2,.slice B3 y.f3.length d3] #[.int .i64 u.f0,.slice C1 u.f1.length b1,.slice C2 u.f2.length b2,.slice C3 u.f3.length b3,.int .i64 y.f0,.slice B1 y.f1.length d1,.slice B2 y.f2.length d2,.slice B3 y.f3.length d3] Y.heap.size) Zca (by kernel_rfl) (by kernel_rfl) (by kernel_rfl) rfl Zbk Zbf (Zlz _ _ _ _ _ _ _ _ _) ?step ?fin
     case step=>
      repeat (rename_i z;clear z)
      refine⟨?_,?_,?_,?_,?_,?_,?_,?_,?_,?_,?_,?_,?_,?_,?_,?_,?_,?_,?_,trivial⟩ <;> intro vals W hR0 hd <;> have hR:=Zaf (Zam (Below.refl _ Y)) hR0
      ·refine Zad (W':=W) ?_ ⟨Zbr,rfl⟩
       clear hd;simp only[Zao,Zbd,Zai];go_simp
      ·refine Zad (W':=W) ?_ ⟨Zbr,rfl⟩
       clear hd;simp only[Zao,Zbd,Zai];go_simp
      ·have h1:vals 1=.int .i64 (m:Int):=hd 1 (by simp[Zbd]);have hq2:IntKind.i64.wrap ((m:Int)-2)=j:=HQ2.out;refine Zad (W':=W) ?_ ⟨Zbr,rfl⟩
       clear hd;simp only[Zao,Zbd,Zai,h1];go_simp
      ·refine Zad (W':=W) ?_ ⟨Zbr,rfl⟩
       clear hd;simp only[Zao,Zbd,Zai];go_simp
      ·have h3:vals 3=.int .i64 (m:Int):=hd 3 (by simp[Zbd]);have hq2:IntKind.i64.wrap ((m:Int)-2)=j:=HQ2.out;refine Zad (W':=W) ?_ ⟨Zbr,rfl⟩
       clear hd;simp only[Zao,Zbd,Zai,h3];go_simp
      ·have h0:vals 0=(.slice (some ⟨g,0,none⟩) m cs):=hd 0 (by simp[Zbd]);have h2:vals 2=.int .i64 (j:Int):=hd 2 (by simp[Zbd]);have h4:vals 4=.int .i64 (j:Int):=hd 4 (by simp[Zbd]);have hjm:=HJM.out;have hkm2:=HKM.out;have hjc:¬cs<j:=by have:=HCS.out;omega
       refine Zad (W':=W) ?_ ⟨Zbr,rfl⟩
       clear hd;simp only[Zao,Zbd,Zai,h0,h2,h4];go_simp
      ·refine Zad (W':=W) ?_ ⟨Zbr,rfl⟩
       clear hd;simp only[Zao,Zbd,Zai];go_simp
      ·refine Zad (W':=W) ?_ ⟨Zbr,rfl⟩
       clear hd;simp only[Zao,Zbd,Zai];go_simp
      ·have h7:vals 7=.int .i64 (m:Int):=hd 7 (by simp[Zbd]);have hq2:IntKind.i64.wrap ((m:Int)-2)=j:=HQ2.out;refine Zad (W':=W) ?_ ⟨Zbr,rfl⟩
       clear hd;simp only[Zao,Zbd,Zai,h7];go_simp
      ·have h6:vals 6=(.slice (some ⟨g,0,none⟩) m cs):=hd 6 (by simp[Zbd]);have h8:vals 8=.int .i64 (j:Int):=hd 8 (by simp[Zbd]);have hjm:=HJM.out;have hkm2:=HKM.out;have hjc:¬cs<j:=by have:=HCS.out;omega
       refine Zad (W':=W) ?_ ⟨Zbr,rfl⟩
       clear hd;simp only[Zao,Zbd,Zai,h6,h8];go_simp
      ·have h9:vals 9=.pointer (some ⟨g,j*4,none⟩):=hd 9 (by simp[Zbd]);have x0b:=Zab hR X0.out;have x1b:=Zab hR X1.out;have x2b:=Zab hR X2.out;have x3b:=Zab hR X3.out;refine Zad (W':=W) ?_ ⟨Zbr,rfl⟩
       clear hd;simp only[Zao,Zbd,Zai,h9];go_simp
      ·refine Zad (W':=W) ?_ ⟨Zbr,rfl⟩
       clear hd;simp only[Zao,Zbd,Zai];go_simp
      ·refine Zad (W':=W) ?_ ⟨Zbr,rfl⟩
       clear hd;simp only[Zao,Zbd,Zai];go_simp
      ·have h12:vals 12=.int .i64 (m:Int):=hd 12 (by simp[Zbd]);have hq:IntKind.i64.wrap ((m:Int)-1)=k:=HQ.out;refine Zad (W':=W) ?_ ⟨Zbr,rfl⟩
       clear hd;simp only[Zao,Zbd,Zai,h12];go_simp
      ·have h11:vals 11=(.slice (some ⟨g,0,none⟩) m cs):=hd 11 (by simp[Zbd]);have h13:vals 13=.int .i64 (k:Int):=hd 13 (by simp[Zbd]);have hjm:=HJM.out;have hkm2:=HKM.out;have hjc:¬cs<j:=by have:=HCS.out;omega
       refine Zad (W':=W) ?_ ⟨Zbr,rfl⟩
       clear hd;simp only[Zao,Zbd,Zai,h11,h13];go_simp
      ·have h14:vals 14=.pointer (some ⟨g,k*4,none⟩):=hd 14 (by simp[Zbd]);have x0b:=Zab hR Y0.out;have x1b:=Zab hR Y1.out;have x2b:=Zab hR Y2.out;have x3b:=Zab hR Y3.out;refine Zad (W':=W) ?_ ⟨Zbr,rfl⟩
       clear hd;simp only[Zao,Zbd,Zai,h14];go_simp
      ·have h10:vals 10=.agg #[.int .i64 u.f0,.slice C1 u.f1.length b1,.slice C2 u.f2.length b2,.slice C3 u.f3.length b3]:=hd 10 (by simp[Zbd]);have h15:vals 15=.agg #[.int .i64 y.f0,.slice B1 y.f1.length d1,.slice B2 y.f2.length d2,.slice B3 y.f3.length d3]:=hd 15 (by simp[Zbd]);clear hd;refine Zad (W':=W.alloc (.cells #[.int .i64 u.f0,.slice C1 u.f1.length b1,.slice C2 u.f2.length b2,.slice C3 u.f3.length b3,.int .i64 y.f0,.slice B1 y.f1.length d1,.slice B2 y.f2.length d2,.slice B3 y.f3.length d3] 76)) (v:=.slice (some ⟨W.heap.size,0,none⟩) 2 2) ?_ ⟨Zae Zbr _,W.heap.size,rfl,hR.size,Zaq W _⟩
       simp only[Zao,Zbd,Zai,h10,h15];go_simp
      ·have h16:∃gl,(vals 16)=.slice (some ⟨gl,0,none⟩) 2 2∧Y.heap.size≤gl∧W.heap[gl]?=some (.cells #[.int .i64 u.f0,.slice C1 u.f1.length b1,.slice C2 u.f2.length b2,.slice C3 u.f3.length b3,.int .i64 y.f0,.slice B1 y.f1.length d1,.slice B2 y.f2.length d2,.slice B3 y.f3.length d3] 76 (0,0)):=hd 16 (by simp[Zbd]);obtain⟨gl,e16,hg16,hk16⟩:=h16;clear hd;refine Zad (W':=W) (v:=.agg #[.int .i64 5,.slice none 0 0,.slice none 0 0,.slice (some ⟨gl,0,none⟩) 2 2]) ?_ ⟨Zbr,gl,rfl,hg16,hk16⟩
       simp only[Zao,Zbd,Zai,e16];go_simp
      ·have h17:∃gl,(vals 17)=.agg #[.int .i64 5,.slice none 0 0,.slice none 0 0,.slice (some ⟨gl,0,none⟩) 2 2]∧Y.heap.size≤gl∧W.heap[gl]?=some (.cells #[.int .i64 u.f0,.slice C1 u.f1.length b1,.slice C2 u.f2.length b2,.slice C3 u.f3.length b3,.int .i64 y.f0,.slice B1 y.f1.length d1,.slice B2 y.f2.length d2,.slice B3 y.f3.length d3] 76 (0,0)):=hd 17 (by simp[Zbd]);obtain⟨gl,e17,hg17,hk17⟩:=h17;clear hd;refine Zad (W':=W.alloc (.cells #[.int .i64 5,.slice none 0 0,.slice none 0 0,.slice (some ⟨gl,0,none⟩) 2 2] 76)) (v:=.slice (some ⟨W.heap.size,0,none⟩) 1 1) ?_ ⟨Zae Zbr _,gl,W.heap.size,rfl,hg17,hR.size,Zan hk17 _,Zaq W _⟩
       simp only[Zao,Zbd,Zai,e17];go_simp
     case fin=>
      intro vals W hR0 hF;have hR:=Zaf (Zam (Below.refl _ Y)) hR0;have f0:vals 0=(.slice (some ⟨g,0,none⟩) m cs):=hF 0 (by decide);have f1:vals 1=.int .i64 (m:Int):=hF 1 (by decide);have f2:vals 2=.int .i64 (j:Int):=hF 2 (by decide);have f3:vals 3=.int .i64 (m:Int):=hF 3 (by decide);have f4:vals 4=.int .i64 (j:Int):=hF 4 (by decide);have f5:vals 5=.slice (some ⟨g,0,none⟩) j j:=hF 5 (by decide);have f6:vals 6=(.slice (some ⟨g,0,none⟩) m cs):=hF 6 (by decide);have f7:vals 7=.int .i64 (m:Int):=hF 7 (by decide);have f8:vals 8=.int .i64 (j:Int):=hF 8 (by decide);have f9:vals 9=.pointer (some ⟨g,j*4,none⟩):=hF 9 (by decide);have f10:vals 10=.agg #[.int .i64 u.f0,.slice C1 u.f1.length b1,.slice C2 u.f2.length b2,.slice C3 u.f3.length b3]:=hF 10 (by decide);have f11:vals 11=(.slice (some ⟨g,0,none⟩) m cs):=hF 11 (by decide);have f12:vals 12=.int .i64 (m:Int):=hF 12 (by decide);have f13:vals 13=.int .i64 (k:Int):=hF 13 (by decide);have f14:vals 14=.pointer (some ⟨g,k*4,none⟩):=hF 14 (by decide);have f15:vals 15=.agg #[.int .i64 y.f0,.slice B1 y.f1.length d1,.slice B2 y.f2.length d2,.slice B3 y.f3.length d3]:=hF 15 (by decide);have f16:∃gl,(vals 16)=.slice (some ⟨gl,0,none⟩) 2 2∧Y.heap.size≤gl∧W.heap[gl]?=some (.cells #[.int .i64 u.f0,.slice C1 u.f1.length b1,.slice C2 u.f2.length b2,.slice C3 u.f3.length b3,.int .i64 y.f0,.slice B1 y.f1.length d1,.slice B2 y.f2.length d2,.slice B3 y.f3.length d3] 76 (0,0)):=hF 16 (by decide);have f17:∃gl,(vals 17)=.agg #[.int .i64 5,.slice none 0 0,.slice none 0 0,.slice (some ⟨gl,0,none⟩) 2 2]∧Y.heap.size≤gl∧W.heap[gl]?=some (.cells #[.int .i64 u.f0,.slice C1 u.f1.length b1,.slice C2 u.f2.length b2,.slice C3 u.f3.length b3,.int .i64 y.f0,.slice B1 y.f1.length d1,.slice B2 y.f2.length d2,.slice B3 y.f3.length d3] 76 (0,0)):=hF 17 (by decide);have f18:∃gl g2,(vals 18)=.slice (some ⟨g2,0,none⟩) 1 1∧Y.heap.size≤gl∧Y.heap.size≤g2∧W.heap[gl]?=some (.cells #[.int .i64 u.f0,.slice C1 u.f1.length b1,.slice C2 u.f2.length b2,.slice C3 u.f3.length b3,.int .i64 y.f0,.slice B1 y.f1.length d1,.slice B2 y.f2.length d2,.slice B3 y.f3.length d3] 76 (0,0))∧W.heap[g2]?=some (.cells #[.int .i64 5,.slice none 0 0,.slice none 0 0,.slice (some ⟨gl,0,none⟩) 2 2] 76 (0,0)):=hF 18 (by decide);clear hF hR0;rw[show List.range 19=[0,1,2,3,4,5,6,7,8,9,10,11,12,13,14,15,16,17,18]from rfl];simp only[Zao,Zai,Act.put,List.getElem?_toArray,List.getElem?_cons_zero,List.getElem?_cons_succ,Option.bind_some,List.setIfInBounds_toArray,List.set_cons_zero,List.set_cons_succ,List.drop_succ_cons,List.drop_zero,f0,f1,f2,f3,f4,f5,f6,f7,f8,f9,f10,f11,f12,f13,f14,f15];obtain⟨_,e16,_,_⟩:=f16;obtain⟨_,e17,_,_⟩:=f17;obtain⟨gl,gt2,e18,hgl,hg2,hk1,hk2⟩:=f18;have HNW:=Zaa.mk (Kd.N_below HN.out hR);have HBW:=Zaa.mk (Zaf HB.out hR);have HOW:Zaa (Kd.F k76 W (Okp g0 g1 g2 X.heap.size) (some ⟨g,0,none⟩) j (xs.take j)):=⟨Kd.N_F (Kd.N_take HNW.out (by have:=HJM.out;have:=HXL.out;omega))⟩
      have HRW:Zaa (Kd.F k76 W (Okp g0 g1 g2 X.heap.size) (some ⟨gt2,0,none⟩) 1 [(⟨5,[],[],[u,y]⟩:S76)]):=
       ⟨Zex (cs:=[.int .i64 5,.slice none 0 0,.slice none 0 0,.slice (some ⟨gl,0,none⟩) 2 2]) hk2 (HF8.out _ (Nat.le_trans HB.out.size hg2)) (Zjj 5 (Zkm (c1:=[.int .i64 u.f0,.slice C1 u.f1.length b1,.slice C2 u.f2.length b2,.slice C3 u.f3.length b3]) (c2:=[.int .i64 y.f0,.slice B1 y.f1.length d1,.slice B2 y.f2.length d2,.slice B3 y.f3.length d3]) hk1 (HF8.out _ (Nat.le_trans HB.out.size hgl)) (Kd.FK_mono (Kd.FK_below HEL2.out hR) (fun _ h=>h.1)) (Kd.FK_mono (Kd.FK_below HEL.out hR) (fun _ h=>h.1))))⟩
      have HP7:Zaa (PcsAt a0 a1 a2 (i+1) (xs.take j++[(⟨5,[],[],[u,y]⟩:S76)])):=⟨by
       have e1:xs.length-2=j:=by have:=HXL.out;have:=HJ2.out;omega
       have e2:xs.length-1=k:=by have:=HXL.out;have:=HMK.out;omega
       have hp:=HP.out.join (x:=⟨5,[],[],[u,y]⟩) (by have:=HXL.out;have:=HJ2.out;omega) (fun D n q h1 h2=>.inr (.inr (.inr (.inr ⟨.inl rfl,rfl,rfl,_,_,n,q,rfl,by rw[e1]at h1;rw[HU.out];exact h1,by rw[e2]at h2;rw[HY.out];exact h2,by omega⟩))));rw[e1]at hp;exact hp⟩
      simp only[e16,e17,e18];clear hR hgl hg2 hk1 hk2
      go_wp2_with ((with_reducible refine Zas (b:=.append) (xs:=#[.tmp 156,.tmp 169]) rfl ?_);at_builtin;refine Zfg k76 (w0:=X) (W:=W) X.heap.size rfl (.tmp 156) (.tmp 169) 74 76 (.agg #[.int .i64 0,.slice none 0 0,.slice none 0 0,.slice none 0 0]) 80 rfl Tryz.underlying74 Zgz rfl (by omega) ⟨g,0,none⟩ ⟨gt2,0,none⟩ j 1 1 (xs.take j) [(⟨5,[],[],[u,y]⟩:S76)] (Okp g0 g1 g2 X.heap.size) (Okp g0 g1 g2 X.heap.size) rfl rfl (by omega) HOW.out HRW.out (fun _ h=>h) (HF8.out _ HBW.out.size) HBW.out HBW.out.size ?aL ?_;(case aL=>have:=HLX.out;have:=HJM.out;have:=HXL.out;omega);intro v6 w6 ho6 hb6;have HN6:=Zaa.mk ho6;have HB6:=Zaa.mk hb6;clear ho6 hb6)
      go_wp2
      go_roundw
      case rel=>exact⟨i+1,_,by omega,by omega,by simp,HP7,HN6,HB6⟩
      case measure=>show ls.length-((i:Int)+1).toNat<ls.length-(i:Int).toNat;omega
    ·go_upto_region 22 with fail
     clear hq x0 x1 x2 x3 fr0 m1x hkm hmz hmp;refine Zbq 19 _ Zch (phiP22 (.slice (some ⟨g,0,none⟩) m cs) m j k g #[.int .i64 u.f0,.slice C1 u.f1.length b1,.slice C2 u.f2.length b2,.slice C3 u.f3.length b3] #[.int .i64 y.f0,.slice B1 y.f1.length d1,.slice B2 y.f2.length d2,.slice B3 y.f3.length d3] #[.int .i64 u.f0,.slice C1 u.f1.length b1,.slice C2 u.f2.length b2,.slice C3 u.f3.length b3,.int .i64 y.f0,.slice B1 y.f1.length d1,.slice B2 y.f2.length d2,.slice B3 y.f3.length d3] Y.heap.size) Zca (by kernel_rfl) (by kernel_rfl) (by kernel_rfl) rfl Zbk Zbf (Ztl _ _ _ _ _ _ _ _ _) ?step ?fin
     case step=>
      repeat (rename_i z;clear z)
      refine⟨?_,?_,?_,?_,?_,?_,?_,?_,?_,?_,?_,?_,?_,?_,?_,?_,?_,?_,?_,trivial⟩ <;> intro vals W hR0 hd <;> have hR:=Zaf (Zam (Below.refl _ Y)) hR0
      ·refine Zad (W':=W) ?_ ⟨Zbr,rfl⟩
       clear hd;simp only[Zao,Zch,Zai];go_simp
      ·refine Zad (W':=W) ?_ ⟨Zbr,rfl⟩
       clear hd;simp only[Zao,Zch,Zai];go_simp
      ·have h1:vals 1=.int .i64 (m:Int):=hd 1 (by simp[Zch]);have hq2:IntKind.i64.wrap ((m:Int)-2)=j:=HQ2.out;refine Zad (W':=W) ?_ ⟨Zbr,rfl⟩
       clear hd;simp only[Zao,Zch,Zai,h1];go_simp
      ·refine Zad (W':=W) ?_ ⟨Zbr,rfl⟩
       clear hd;simp only[Zao,Zch,Zai];go_simp
      ·have h3:vals 3=.int .i64 (m:Int):=hd 3 (by simp[Zch]);have hq2:IntKind.i64.wrap ((m:Int)-2)=j:=HQ2.out;refine Zad (W':=W) ?_ ⟨Zbr,rfl⟩
       clear hd;simp only[Zao,Zch,Zai,h3];go_simp
      ·have h0:vals 0=(.slice (some ⟨g,0,none⟩) m cs):=hd 0 (by simp[Zch]);have h2:vals 2=.int .i64 (j:Int):=hd 2 (by simp[Zch]);have h4:vals 4=.int .i64 (j:Int):=hd 4 (by simp[Zch]);have hjm:=HJM.out;have hkm2:=HKM.out;have hjc:¬cs<j:=by have:=HCS.out;omega
       refine Zad (W':=W) ?_ ⟨Zbr,rfl⟩
       clear hd;simp only[Zao,Zch,Zai,h0,h2,h4];go_simp
      ·refine Zad (W':=W) ?_ ⟨Zbr,rfl⟩
       clear hd;simp only[Zao,Zch,Zai];go_simp
      ·refine Zad (W':=W) ?_ ⟨Zbr,rfl⟩
       clear hd;simp only[Zao,Zch,Zai];go_simp
      ·have h7:vals 7=.int .i64 (m:Int):=hd 7 (by simp[Zch]);have hq2:IntKind.i64.wrap ((m:Int)-2)=j:=HQ2.out;refine Zad (W':=W) ?_ ⟨Zbr,rfl⟩
       clear hd;simp only[Zao,Zch,Zai,h7];go_simp
      ·have h6:vals 6=(.slice (some ⟨g,0,none⟩) m cs):=hd 6 (by simp[Zch]);have h8:vals 8=.int .i64 (j:Int):=hd 8 (by simp[Zch]);have hjm:=HJM.out;have hkm2:=HKM.out;have hjc:¬cs<j:=by have:=HCS.out;omega
       refine Zad (W':=W) ?_ ⟨Zbr,rfl⟩
       clear hd;simp only[Zao,Zch,Zai,h6,h8];go_simp
      ·have h9:vals 9=.pointer (some ⟨g,j*4,none⟩):=hd 9 (by simp[Zch]);have x0b:=Zab hR X0.out;have x1b:=Zab hR X1.out;have x2b:=Zab hR X2.out;have x3b:=Zab hR X3.out;refine Zad (W':=W) ?_ ⟨Zbr,rfl⟩
       clear hd;simp only[Zao,Zch,Zai,h9];go_simp
      ·refine Zad (W':=W) ?_ ⟨Zbr,rfl⟩
       clear hd;simp only[Zao,Zch,Zai];go_simp
      ·refine Zad (W':=W) ?_ ⟨Zbr,rfl⟩
       clear hd;simp only[Zao,Zch,Zai];go_simp
      ·have h12:vals 12=.int .i64 (m:Int):=hd 12 (by simp[Zch]);have hq:IntKind.i64.wrap ((m:Int)-1)=k:=HQ.out;refine Zad (W':=W) ?_ ⟨Zbr,rfl⟩
       clear hd;simp only[Zao,Zch,Zai,h12];go_simp
      ·have h11:vals 11=(.slice (some ⟨g,0,none⟩) m cs):=hd 11 (by simp[Zch]);have h13:vals 13=.int .i64 (k:Int):=hd 13 (by simp[Zch]);have hjm:=HJM.out;have hkm2:=HKM.out;have hjc:¬cs<j:=by have:=HCS.out;omega
       refine Zad (W':=W) ?_ ⟨Zbr,rfl⟩
       clear hd;simp only[Zao,Zch,Zai,h11,h13];go_simp
      ·have h14:vals 14=.pointer (some ⟨g,k*4,none⟩):=hd 14 (by simp[Zch]);have x0b:=Zab hR Y0.out;have x1b:=Zab hR Y1.out;have x2b:=Zab hR Y2.out;have x3b:=Zab hR Y3.out;refine Zad (W':=W) ?_ ⟨Zbr,rfl⟩
       clear hd;simp only[Zao,Zch,Zai,h14];go_simp
      ·have h10:vals 10=.agg #[.int .i64 u.f0,.slice C1 u.f1.length b1,.slice C2 u.f2.length b2,.slice C3 u.f3.length b3]:=hd 10 (by simp[Zch]);have h15:vals 15=.agg #[.int .i64 y.f0,.slice B1 y.f1.length d1,.slice B2 y.f2.length d2,.slice B3 y.f3.length d3]:=hd 15 (by simp[Zch]);clear hd;refine Zad (W':=W.alloc (.cells #[.int .i64 u.f0,.slice C1 u.f1.length b1,.slice C2 u.f2.length b2,.slice C3 u.f3.length b3,.int .i64 y.f0,.slice B1 y.f1.length d1,.slice B2 y.f2.length d2,.slice B3 y.f3.length d3] 76)) (v:=.slice (some ⟨W.heap.size,0,none⟩) 2 2) ?_ ⟨Zae Zbr _,W.heap.size,rfl,hR.size,Zaq W _⟩
       simp only[Zao,Zch,Zai,h10,h15];go_simp
      ·have h16:∃gl,(vals 16)=.slice (some ⟨gl,0,none⟩) 2 2∧Y.heap.size≤gl∧W.heap[gl]?=some (.cells #[.int .i64 u.f0,.slice C1 u.f1.length b1,.slice C2 u.f2.length b2,.slice C3 u.f3.length b3,.int .i64 y.f0,.slice B1 y.f1.length d1,.slice B2 y.f2.length d2,.slice B3 y.f3.length d3] 76 (0,0)):=hd 16 (by simp[Zch]);obtain⟨gl,e16,hg16,hk16⟩:=h16;clear hd;refine Zad (W':=W) (v:=.agg #[.int .i64 6,.slice none 0 0,.slice none 0 0,.slice (some ⟨gl,0,none⟩) 2 2]) ?_ ⟨Zbr,gl,rfl,hg16,hk16⟩
       simp only[Zao,Zch,Zai,e16];go_simp
      ·have h17:∃gl,(vals 17)=.agg #[.int .i64 6,.slice none 0 0,.slice none 0 0,.slice (some ⟨gl,0,none⟩) 2 2]∧Y.heap.size≤gl∧W.heap[gl]?=some (.cells #[.int .i64 u.f0,.slice C1 u.f1.length b1,.slice C2 u.f2.length b2,.slice C3 u.f3.length b3,.int .i64 y.f0,.slice B1 y.f1.length d1,.slice B2 y.f2.length d2,.slice B3 y.f3.length d3] 76 (0,0)):=hd 17 (by simp[Zch]);obtain⟨gl,e17,hg17,hk17⟩:=h17;clear hd;refine Zad (W':=W.alloc (.cells #[.int .i64 6,.slice none 0 0,.slice none 0 0,.slice (some ⟨gl,0,none⟩) 2 2] 76)) (v:=.slice (some ⟨W.heap.size,0,none⟩) 1 1) ?_ ⟨Zae Zbr _,gl,W.heap.size,rfl,hg17,hR.size,Zan hk17 _,Zaq W _⟩
       simp only[Zao,Zch,Zai,e17];go_simp
     case fin=>
      intro vals W hR0 hF;have hR:=Zaf (Zam (Below.refl _ Y)) hR0;have f0:vals 0=(.slice (some ⟨g,0,none⟩) m cs):=hF 0 (by decide);have f1:vals 1=.int .i64 (m:Int):=hF 1 (by decide);have f2:vals 2=.int .i64 (j:Int):=hF 2 (by decide);have f3:vals 3=.int .i64 (m:Int):=hF 3 (by decide);have f4:vals 4=.int .i64 (j:Int):=hF 4 (by decide);have f5:vals 5=.slice (some ⟨g,0,none⟩) j j:=hF 5 (by decide);have f6:vals 6=(.slice (some ⟨g,0,none⟩) m cs):=hF 6 (by decide);have f7:vals 7=.int .i64 (m:Int):=hF 7 (by decide);have f8:vals 8=.int .i64 (j:Int):=hF 8 (by decide);have f9:vals 9=.pointer (some ⟨g,j*4,none⟩):=hF 9 (by decide);have f10:vals 10=.agg #[.int .i64 u.f0,.slice C1 u.f1.length b1,.slice C2 u.f2.length b2,.slice C3 u.f3.length b3]:=hF 10 (by decide);have f11:vals 11=(.slice (some ⟨g,0,none⟩) m cs):=hF 11 (by decide);have f12:vals 12=.int .i64 (m:Int):=hF 12 (by decide);have f13:vals 13=.int .i64 (k:Int):=hF 13 (by decide);have f14:vals 14=.pointer (some ⟨g,k*4,none⟩):=hF 14 (by decide);have f15:vals 15=.agg #[.int .i64 y.f0,.slice B1 y.f1.length d1,.slice B2 y.f2.length d2,.slice B3 y.f3.length d3]:=hF 15 (by decide);have f16:∃gl,(vals 16)=.slice (some ⟨gl,0,none⟩) 2 2∧Y.heap.size≤gl∧W.heap[gl]?=some (.cells #[.int .i64 u.f0,.slice C1 u.f1.length b1,.slice C2 u.f2.length b2,.slice C3 u.f3.length b3,.int .i64 y.f0,.slice B1 y.f1.length d1,.slice B2 y.f2.length d2,.slice B3 y.f3.length d3] 76 (0,0)):=hF 16 (by decide);have f17:∃gl,(vals 17)=.agg #[.int .i64 6,.slice none 0 0,.slice none 0 0,.slice (some ⟨gl,0,none⟩) 2 2]∧Y.heap.size≤gl∧W.heap[gl]?=some (.cells #[.int .i64 u.f0,.slice C1 u.f1.length b1,.slice C2 u.f2.length b2,.slice C3 u.f3.length b3,.int .i64 y.f0,.slice B1 y.f1.length d1,.slice B2 y.f2.length d2,.slice B3 y.f3.length d3] 76 (0,0)):=hF 17 (by decide);have f18:∃gl g2,(vals 18)=.slice (some ⟨g2,0,none⟩) 1 1∧Y.heap.size≤gl∧Y.heap.size≤g2∧W.heap[gl]?=some (.cells #[.int .i64 u.f0,.slice C1 u.f1.length b1,.slice C2 u.f2.length b2,.slice C3 u.f3.length b3,.int .i64 y.f0,.slice B1 y.f1.length d1,.slice B2 y.f2.length d2,.slice B3 y.f3.length d3] 76 (0,0))∧W.heap[g2]?=some (.cells #[.int .i64 6,.slice none 0 0,.slice none 0 0,.slice (some ⟨gl,0,none⟩) 2 2] 76 (0,0)):=hF 18 (by decide);clear hF hR0;rw[show List.range 19=[0,1,2,3,4,5,6,7,8,9,10,11,12,13,14,15,16,17,18]from rfl];simp only[Zao,Zai,Act.put,List.getElem?_toArray,List.getElem?_cons_zero,List.getElem?_cons_succ,Option.bind_some,List.setIfInBounds_toArray,List.set_cons_zero,List.set_cons_succ,List.drop_succ_cons,List.drop_zero,f0,f1,f2,f3,f4,f5,f6,f7,f8,f9,f10,f11,f12,f13,f14,f15];obtain⟨_,e16,_,_⟩:=f16;obtain⟨_,e17,_,_⟩:=f17;obtain⟨gl,gt2,e18,hgl,hg2,hk1,hk2⟩:=f18;have HNW:=Zaa.mk (Kd.N_below HN.out hR);have HBW:=Zaa.mk (Zaf HB.out hR);have HOW:Zaa (Kd.F k76 W (Okp g0 g1 g2 X.heap.size) (some ⟨g,0,none⟩) j (xs.take j)):=⟨Kd.N_F (Kd.N_take HNW.out (by have:=HJM.out;have:=HXL.out;omega))⟩
      have HRW:Zaa (Kd.F k76 W (Okp g0 g1 g2 X.heap.size) (some ⟨gt2,0,none⟩) 1 [(⟨6,[],[],[u,y]⟩:S76)]):=
       ⟨Zex (cs:=[.int .i64 6,.slice none 0 0,.slice none 0 0,.slice (some ⟨gl,0,none⟩) 2 2]) hk2 (HF8.out _ (Nat.le_trans HB.out.size hg2)) (Zjj 6 (Zkm (c1:=[.int .i64 u.f0,.slice C1 u.f1.length b1,.slice C2 u.f2.length b2,.slice C3 u.f3.length b3]) (c2:=[.int .i64 y.f0,.slice B1 y.f1.length d1,.slice B2 y.f2.length d2,.slice B3 y.f3.length d3]) hk1 (HF8.out _ (Nat.le_trans HB.out.size hgl)) (Kd.FK_mono (Kd.FK_below HEL2.out hR) (fun _ h=>h.1)) (Kd.FK_mono (Kd.FK_below HEL.out hR) (fun _ h=>h.1))))⟩
      have HP7:Zaa (PcsAt a0 a1 a2 (i+1) (xs.take j++[(⟨6,[],[],[u,y]⟩:S76)])):=⟨by
       have e1:xs.length-2=j:=by have:=HXL.out;have:=HJ2.out;omega
       have e2:xs.length-1=k:=by have:=HXL.out;have:=HMK.out;omega
       have hp:=HP.out.join (x:=⟨6,[],[],[u,y]⟩) (by have:=HXL.out;have:=HJ2.out;omega) (fun D n q h1 h2=>.inr (.inr (.inr (.inr ⟨.inr rfl,rfl,rfl,_,_,n,q,rfl,by rw[e1]at h1;rw[HU.out];exact h1,by rw[e2]at h2;rw[HY.out];exact h2,by omega⟩))));rw[e1]at hp;exact hp⟩
      simp only[e16,e17,e18];clear hR hgl hg2 hk1 hk2
      go_wp2_with ((with_reducible refine Zas (b:=.append) (xs:=#[.tmp 179,.tmp 192]) rfl ?_);at_builtin;refine Zfg k76 (w0:=X) (W:=W) X.heap.size rfl (.tmp 179) (.tmp 192) 74 76 (.agg #[.int .i64 0,.slice none 0 0,.slice none 0 0,.slice none 0 0]) 80 rfl Tryz.underlying74 Zgz rfl (by omega) ⟨g,0,none⟩ ⟨gt2,0,none⟩ j 1 1 (xs.take j) [(⟨6,[],[],[u,y]⟩:S76)] (Okp g0 g1 g2 X.heap.size) (Okp g0 g1 g2 X.heap.size) rfl rfl (by omega) HOW.out HRW.out (fun _ h=>h) (HF8.out _ HBW.out.size) HBW.out HBW.out.size ?aL ?_;(case aL=>have:=HLX.out;have:=HJM.out;have:=HXL.out;omega);intro v6 w6 ho6 hb6;have HN6:=Zaa.mk ho6;have HB6:=Zaa.mk hb6;clear ho6 hb6)
      go_wp2
      go_roundw
      case rel=>exact⟨i+1,_,by omega,by omega,by simp,HP7,HN6,HB6⟩
      case measure=>show ls.length-((i:Int)+1).toNat<ls.length-(i:Int).toNat;omega
  ·have HB0:Zaa (Below g8 w wr):=⟨by rw[HG8.out];exact Zaf HB8.out HB.out⟩
   have HN8W:=Zaa.mk (Kd.N_below HN8.out HB.out);have HK8W:=Zaa.mk (Zag HK8.out HB.out);have hc1:¬i<ls.length∨(i<ls.length∧¬i<8):=by omega
   clear hc;by_cases z:xs.length=0
   ·obtain rfl:xs=[]:=List.eq_nil_of_length_eq_zero z;clear z
    rcases hc1 with h1 | ⟨h1,h2⟩
    ·as_aux_lemma=>
      go_wp2_with ((with_reducible refine Zbt (t:=76) (p:=8) rfl ?_);refine Kd.N_store k76 (w0:=w) (W:=wr) g8 rfl rfl 76 (.tmp 8) (.tmp 197) rfl 76 (0:Int) 0 [z76] (⟨4,[],[],[]⟩:S76) (.agg #[.int .i64 4,.slice none 0 0,.slice none 0 0,.slice none 0 0]) [.int .i64 4,.slice none 0 0,.slice none 0 0,.slice none 0 0] [.int .i64 0,.slice none 0 0,.slice none 0 0,.slice none 0 0] (fun k=>k=g8∨Okp g0 g1 g2 X.heap.size k) (fun _=>False) rfl ?sO rfl rfl rfl ?s1 HN8W.out ?s2 ?s3 rfl ?s4 ?s5 (Zfn _ _ _) (fun _ h=>h.elim) HB0.out ?_;(case sO=>rfl);(case s1=>first | decide | (intro q hq2;simp at hq2;rcases hq2 with rfl | rfl | rfl | rfl <;> rfl));(case s2=>omega);(case s3=>omega);(case s4=>exact Zci HK8W.out 4);(case s5=>exact Nat.le_refl 4);intro w6 ho6 hb6 hg6;have HN6:=Zaa.mk ho6;have HB6:=Zaa.mk hb6;clear ho6 hb6 hg6)
      go_wp2
      obtain⟨cb,hcb,hfb⟩:=Zcp HN6.out;have hfb:=Kd.FK_mono hfb (fun k h=>HW8.out k (h.1.resolve_left h.2));rw[HG8.out]at HB6;obtain⟨E1,j1,E2,j2,E3,j3,rfl,_⟩:=Zcb (Kd.FK_now hfb);refine bodyPost_ret (results_cell_row rfl _ _ g8 76 _ (0,0) _ rfl hcb Tryz.underlying76 rfl (by kernel_rfl)) rfl ?_
      exact⟨_,_,rfl,⟨1,1,.inl ⟨.inr rfl,rfl,rfl,rfl,Nat.le_refl _⟩,by omega,by omega⟩,hfb,HB6.out⟩
    ·as_aux_lemma=>
      go_wp2_with ((with_reducible refine Zbt (t:=76) (p:=8) rfl ?_);refine Kd.N_store k76 (w0:=w) (W:=wr) g8 rfl rfl 76 (.tmp 8) (.tmp 197) rfl 76 (0:Int) 0 [z76] (⟨4,[],[],[]⟩:S76) (.agg #[.int .i64 4,.slice none 0 0,.slice none 0 0,.slice none 0 0]) [.int .i64 4,.slice none 0 0,.slice none 0 0,.slice none 0 0] [.int .i64 0,.slice none 0 0,.slice none 0 0,.slice none 0 0] (fun k=>k=g8∨Okp g0 g1 g2 X.heap.size k) (fun _=>False) rfl ?sO rfl rfl rfl ?s1 HN8W.out ?s2 ?s3 rfl ?s4 ?s5 (Zfn _ _ _) (fun _ h=>h.elim) HB0.out ?_;(case sO=>rfl);(case s1=>first | decide | (intro q hq2;simp at hq2;rcases hq2 with rfl | rfl | rfl | rfl <;> rfl));(case s2=>omega);(case s3=>omega);(case s4=>exact Zci HK8W.out 4);(case s5=>exact Nat.le_refl 4);intro w6 ho6 hb6 hg6;have HN6:=Zaa.mk ho6;have HB6:=Zaa.mk hb6;clear ho6 hb6 hg6)
      go_wp2
      obtain⟨cb,hcb,hfb⟩:=Zcp HN6.out;have hfb:=Kd.FK_mono hfb (fun k h=>HW8.out k (h.1.resolve_left h.2));rw[HG8.out]at HB6;obtain⟨E1,j1,E2,j2,E3,j3,rfl,_⟩:=Zcb (Kd.FK_now hfb);refine bodyPost_ret (results_cell_row rfl _ _ g8 76 _ (0,0) _ rfl hcb Tryz.underlying76 rfl (by kernel_rfl)) rfl ?_
      exact⟨_,_,rfl,⟨1,1,.inl ⟨.inr rfl,rfl,rfl,rfl,Nat.le_refl _⟩,by omega,by omega⟩,hfb,HB6.out⟩
   ·rcases hc1 with h1 | ⟨h1,h2⟩
    ·obtain⟨g,cap,hs,hgX,hgY,_⟩:=Kd.N_form HN.out (by omega);injection hs with hs1 hs2 hs3
     subst hs1;subst hs3;clear hs2;have HGX:=Zaa.mk hgX;have HGY:=Zaa.mk hgY;obtain⟨m,hmx⟩:∃m,m=xs.length:=⟨_,rfl⟩
     have HXL:=Zaa.mk hmx;rw[←hmx]at HN ⊢;have hm0:0<m:=by omega
     have hmz:¬m=0:=by omega
     obtain⟨el,hel1,hel2,hel3,hel4⟩:=Kd.N_elem HN.out z76 ((0:Nat):Int) (by omega) (by omega);rw[Int.toNat_natCast]at hel2 hel3 hel4;obtain⟨B1,d1,B2,d2,B3,d3,rfl,_⟩:=Zcb (Kd.FK_now hel2);have HEL:=Zaa.mk (Kd.FK_bound hel2);obtain⟨y,hy⟩:∃y,y=xs.getD 0 z76:=⟨_,rfl⟩
     have HY:=Zaa.mk hy;rw[←hy]at HEL hel3;have x0:wr.cell? ⟨g,0,none⟩=some (.int .i64 y.f0):=hel3 0 _ rfl;have x1:wr.cell? ⟨g,1,none⟩=some (.slice B1 y.f1.length d1):=hel3 1 _ rfl;have x2:wr.cell? ⟨g,2,none⟩=some (.slice B2 y.f2.length d2):=hel3 2 _ rfl;have x3:wr.cell? ⟨g,3,none⟩=some (.slice B3 y.f3.length d3):=hel3 3 _ rfl;have HBX:=Zaa.mk (box_N (d:=k76) (w:=wr) (e:=76) (x:=z76) (cs:=[.int .i64 0,.slice none 0 0,.slice none 0 0,.slice none 0 0]) (ok:=Okp g0 g1 g2 X.heap.size) (Zfn wr (fun _=>False) 0) (fun _ h=>h.elim) (HF8.out _ HB.out.size));have HBX2:=Zaa.mk (Zaq wr (.cells #[.int .i64 0,.slice none 0 0,.slice none 0 0,.slice none 0 0] 76));have HBA:=Zaa.mk (Zae (Below.refl _ wr) (.cells #[.int .i64 0,.slice none 0 0,.slice none 0 0,.slice none 0 0] 76));have HP1:Zaa (FoldAt a0 a1 a2 xs 1 y):=⟨by rw[HY.out];exact HP.out.fold hi8 (by have:=HXL.out;omega)⟩
     have HL8:Zaa (m≤8):=⟨by obtain⟨D,p1,p2,_⟩:=HP.out;have:=HXL.out;omega⟩
     clear hel1 hel2 hel3 hel4 hy hgX hgY hmx z
     go_wp2_with ((with_reducible refine Zbt (t:=76) (p:=14) rfl ?_);refine Kd.N_store k76 (w0:=wr) (W:=wr.alloc (.cells #[.int .i64 0,.slice none 0 0,.slice none 0 0,.slice none 0 0] 76)) wr.heap.size rfl rfl 76 (.tmp 14) (.tmp 200) rfl 76 (0:Int) 0 [z76] y (.agg #[.int .i64 y.f0,.slice B1 y.f1.length d1,.slice B2 y.f2.length d2,.slice B3 y.f3.length d3]) [.int .i64 y.f0,.slice B1 y.f1.length d1,.slice B2 y.f2.length d2,.slice B3 y.f3.length d3] [.int .i64 0,.slice none 0 0,.slice none 0 0,.slice none 0 0] (Okp g0 g1 g2 X.heap.size) (fun k=>(Okp g0 g1 g2 X.heap.size k∧k≠g)∧k<wr.heap.size) rfl ?sO rfl rfl rfl ?s1 HBX.out ?s2 ?s3 rfl ?s4 ?s5 (Kd.FK_below HEL.out HBA.out) (fun k hk=>⟨hk.1.1,by have:=hk.2;omega⟩) HBA.out ?_;(case sO=>rfl);(case s1=>first | decide | (intro q hq2;simp at hq2;rcases hq2 with rfl | rfl | rfl | rfl <;> rfl));(case s2=>omega);(case s3=>omega);(case s4=>exact Zci HBX2.out 4);(case s5=>exact Nat.le_refl 4);intro w6 ho6 hb6 hg6;have HN6:Zaa (Kd.N k76 76 w6 wr.heap.size (Okp g0 g1 g2 X.heap.size) (.slice (some ⟨wr.heap.size,0,none⟩) 1 1) [y]):=⟨ho6⟩;have HB6:=Zaa.mk hb6;clear ho6 hb6 hg6)
     obtain⟨gb,hgb⟩:∃gb,gb=wr.heap.size:=⟨_,rfl⟩
     have HGB:=Zaa.mk hgb;rw[←hgb]at HN6 ⊢;have HGL:Zaa (g<gb):=⟨by have:=HGY.out;omega⟩
     clear hgb x0 x1 x2 x3 hi8 hil;obtain⟨Z,hZ⟩:∃Z,Z=wr:=⟨_,rfl⟩
     subst hZ;go_wp2
     go_loopw [15] (fun q wr=>∃(j:Nat) (pp:S76),1≤j∧j≤m∧q=.int .i64 j∧Zaa (FoldAt a0 a1 a2 xs j pp)∧Zaa (Kd.N k76 76 wr gb (Okp g0 g1 g2 X.heap.size) (.slice (some ⟨gb,0,none⟩) 1 1) [pp])∧Zaa (Below gb Z wr)) (fun q _=>m-(intOf q).toNat)
     case atStart=>exact⟨1,y,by omega,by omega,rfl,⟨HP1.out⟩,⟨HN6.out⟩,⟨by rw[HGB.out];exact HB6.out⟩⟩
     case round=>
      obtain⟨j,pp,hj1,hjm,rfl,HPJ,HNB,HBJ⟩:=hrel;by_cases hjl:j<m
      ·obtain⟨el,hel1,hel2,hel3,hel4⟩:=Kd.N_elem HN.out z76 (j:Int) (by omega) (by omega);rw[Int.toNat_natCast]at hel2 hel3 hel4;obtain⟨B1,d1,B2,d2,B3,d3,rfl,_⟩:=Zcb (Kd.FK_now hel2);have HBZ:Zaa (Below Z.heap.size Z wr):=⟨by rw[←HGB.out];exact HBJ.out⟩
       have HEY:=Zaa.mk (Kd.FK_below (Kd.FK_bound hel2) HBZ.out);obtain⟨y,hy⟩:∃y,y=xs.getD j z76:=⟨_,rfl⟩
       have HY:=Zaa.mk hy;rw[←hy]at HEY hel3;have Y0:Zaa (wr.cell? ⟨g,j*4,none⟩=some (.int .i64 y.f0)):=⟨Zab HBZ.out (hel3 0 _ rfl)⟩
       have Y1:Zaa (wr.cell? ⟨g,j*4+1,none⟩=some (.slice B1 y.f1.length d1)):=⟨Zab HBZ.out (hel3 1 _ rfl)⟩
       have Y2:Zaa (wr.cell? ⟨g,j*4+2,none⟩=some (.slice B2 y.f2.length d2)):=⟨Zab HBZ.out (hel3 2 _ rfl)⟩
       have Y3:Zaa (wr.cell? ⟨g,j*4+3,none⟩=some (.slice B3 y.f3.length d3)):=⟨Zab HBZ.out (hel3 3 _ rfl)⟩
       obtain⟨cb,hcb,hfb⟩:=Zcp HNB.out;obtain⟨C1,b1,C2,b2,C3,b3,rfl,_⟩:=Zcb (Kd.FK_now hfb);have HCB:=Zaa.mk hcb;have HFB:=Zaa.mk hfb;have X0:Zaa (wr.cell? ⟨gb,0,none⟩=some (.int .i64 pp.f0)):=⟨(Zac hcb 0).trans rfl⟩
       have X1:Zaa (wr.cell? ⟨gb,1,none⟩=some (.slice C1 pp.f1.length b1)):=⟨(Zac hcb 1).trans rfl⟩
       have X2:Zaa (wr.cell? ⟨gb,2,none⟩=some (.slice C2 pp.f2.length b2)):=⟨(Zac hcb 2).trans rfl⟩
       have X3:Zaa (wr.cell? ⟨gb,3,none⟩=some (.slice C3 pp.f3.length b3)):=⟨(Zac hcb 3).trans rfl⟩
       have HJM:Zaa (j<m):=⟨hjl⟩
       have HLB:Zaa (gb<wr.heap.size):=⟨Zew hcb⟩
       have hfr:wr.frozen? ⟨gb,0,none⟩=false:=by simp[World.frozen?,hcb]
       have HFR:=Zaa.mk hfr;clear hel1 hel2 hel3 hel4 hy hcb hfb hfr
       go_upto_region 29 with fail
       obtain⟨Y,hY⟩:∃Y,Y=wr:=⟨_,rfl⟩
       subst hY;clear hjl;refine Zbq 7 _ Zcz (Zrb (.slice (some ⟨g,0,none⟩) m cs) m j g #[.int .i64 pp.f0,.slice C1 pp.f1.length b1,.slice C2 pp.f2.length b2,.slice C3 pp.f3.length b3] #[.int .i64 y.f0,.slice B1 y.f1.length d1,.slice B2 y.f2.length d2,.slice B3 y.f3.length d3] #[.int .i64 pp.f0,.slice C1 pp.f1.length b1,.slice C2 pp.f2.length b2,.slice C3 pp.f3.length b3,.int .i64 y.f0,.slice B1 y.f1.length d1,.slice B2 y.f2.length d2,.slice B3 y.f3.length d3] Y.heap.size) Zca (by kernel_rfl) (by kernel_rfl) (by kernel_rfl) rfl Zbk Zbf (Zly _ _ _ _ _ _ _ _) ?step ?fin
       case step=>
        repeat (rename_i z;clear z)
        refine⟨?_,?_,?_,?_,?_,?_,?_,trivial⟩ <;> intro vals W hR0 hd <;> have hR:=Zaf (Zam (Below.refl _ Y)) hR0
        ·have x0b:=Zab hR X0.out;have x1b:=Zab hR X1.out;have x2b:=Zab hR X2.out;have x3b:=Zab hR X3.out;refine Zad (W':=W) ?_ ⟨Zbr,rfl⟩
         clear hd;simp only[Zao,Zcz,Zai];go_simp
        ·refine Zad (W':=W) ?_ ⟨Zbr,rfl⟩
         clear hd;simp only[Zao,Zcz,Zai];go_simp
        ·refine Zad (W':=W) ?_ ⟨Zbr,rfl⟩
         clear hd;simp only[Zao,Zcz,Zai];go_simp
        ·have h1:vals 1=(.slice (some ⟨g,0,none⟩) m cs):=hd 1 (by simp[Zcz]);have h2:vals 2=.int .i64 (j:Int):=hd 2 (by simp[Zcz]);have hjm:=HJM.out;refine Zad (W':=W) ?_ ⟨Zbr,rfl⟩
         clear hd;simp only[Zao,Zcz,Zai,h1,h2];go_simp
        ·have h3:vals 3=.pointer (some ⟨g,j*4,none⟩):=hd 3 (by simp[Zcz]);have x0b:=Zab hR Y0.out;have x1b:=Zab hR Y1.out;have x2b:=Zab hR Y2.out;have x3b:=Zab hR Y3.out;refine Zad (W':=W) ?_ ⟨Zbr,rfl⟩
         clear hd;simp only[Zao,Zcz,Zai,h3];go_simp
        ·have h0:vals 0=.agg #[.int .i64 pp.f0,.slice C1 pp.f1.length b1,.slice C2 pp.f2.length b2,.slice C3 pp.f3.length b3]:=hd 0 (by simp[Zcz]);have h4:vals 4=.agg #[.int .i64 y.f0,.slice B1 y.f1.length d1,.slice B2 y.f2.length d2,.slice B3 y.f3.length d3]:=hd 4 (by simp[Zcz]);clear hd;refine Zad (W':=W.alloc (.cells #[.int .i64 pp.f0,.slice C1 pp.f1.length b1,.slice C2 pp.f2.length b2,.slice C3 pp.f3.length b3,.int .i64 y.f0,.slice B1 y.f1.length d1,.slice B2 y.f2.length d2,.slice B3 y.f3.length d3] 76)) (v:=.slice (some ⟨W.heap.size,0,none⟩) 2 2) ?_ ⟨Zae Zbr _,W.heap.size,rfl,hR.size,Zaq W _⟩
         simp only[Zao,Zcz,Zai,h0,h4];go_simp
        ·have h5:∃gl,(vals 5)=.slice (some ⟨gl,0,none⟩) 2 2∧Y.heap.size≤gl∧W.heap[gl]?=some (.cells #[.int .i64 pp.f0,.slice C1 pp.f1.length b1,.slice C2 pp.f2.length b2,.slice C3 pp.f3.length b3,.int .i64 y.f0,.slice B1 y.f1.length d1,.slice B2 y.f2.length d2,.slice B3 y.f3.length d3] 76 (0,0)):=hd 5 (by simp[Zcz]);obtain⟨gl,e5,hg5,hk5⟩:=h5;clear hd;refine Zad (W':=W) (v:=.agg #[.int .i64 5,.slice none 0 0,.slice none 0 0,.slice (some ⟨gl,0,none⟩) 2 2]) ?_ ⟨Zbr,gl,rfl,hg5,hk5⟩
         simp only[Zao,Zcz,Zai,e5];go_simp
       case fin=>
        intro vals W hR0 hF;have hR:=Zaf (Zam (Below.refl _ Y)) hR0;have f0:vals 0=.agg #[.int .i64 pp.f0,.slice C1 pp.f1.length b1,.slice C2 pp.f2.length b2,.slice C3 pp.f3.length b3]:=hF 0 (by decide);have f1:vals 1=(.slice (some ⟨g,0,none⟩) m cs):=hF 1 (by decide);have f2:vals 2=.int .i64 (j:Int):=hF 2 (by decide);have f3:vals 3=.pointer (some ⟨g,j*4,none⟩):=hF 3 (by decide);have f4:vals 4=.agg #[.int .i64 y.f0,.slice B1 y.f1.length d1,.slice B2 y.f2.length d2,.slice B3 y.f3.length d3]:=hF 4 (by decide);have f5:∃gl,(vals 5)=.slice (some ⟨gl,0,none⟩) 2 2∧Y.heap.size≤gl∧W.heap[gl]?=some (.cells #[.int .i64 pp.f0,.slice C1 pp.f1.length b1,.slice C2 pp.f2.length b2,.slice C3 pp.f3.length b3,.int .i64 y.f0,.slice B1 y.f1.length d1,.slice B2 y.f2.length d2,.slice B3 y.f3.length d3] 76 (0,0)):=hF 5 (by decide);have f6:∃gl,(vals 6)=.agg #[.int .i64 5,.slice none 0 0,.slice none 0 0,.slice (some ⟨gl,0,none⟩) 2 2]∧Y.heap.size≤gl∧W.heap[gl]?=some (.cells #[.int .i64 pp.f0,.slice C1 pp.f1.length b1,.slice C2 pp.f2.length b2,.slice C3 pp.f3.length b3,.int .i64 y.f0,.slice B1 y.f1.length d1,.slice B2 y.f2.length d2,.slice B3 y.f3.length d3] 76 (0,0)):=hF 6 (by decide);clear hF hR0;rw[show List.range 7=[0,1,2,3,4,5,6]from rfl];simp only[Zao,Zai,Act.put,List.getElem?_toArray,List.getElem?_cons_zero,List.getElem?_cons_succ,Option.bind_some,List.setIfInBounds_toArray,List.set_cons_zero,List.set_cons_succ,List.drop_succ_cons,List.drop_zero,f0,f1,f2,f3,f4];obtain⟨gl5,f5,_,_⟩:=f5;obtain⟨gl,f6,hgl,kl⟩:=f6;have HBW:Zaa (Below gb Z W):=⟨Below.trans HBJ.out (Below.mono hR (Nat.le_of_lt HLB.out))⟩
        have HNW:=Zaa.mk (Kd.N_below HNB.out hR);have HCW:=Zaa.mk (Zag HCB.out hR);have fr1:W.frozen? ⟨gb,0,none⟩=false:=by rw[World.frozen?_of_block (hR.block gb HLB.out)];exact HFR.out
        have HKW:Zaa (Kd.FK k76 W (fun k=>Okp g0 g1 g2 X.heap.size k∧k≠gb) (⟨5,[],[],[pp,y]⟩:S76) [.int .i64 5,.slice none 0 0,.slice none 0 0,.slice (some ⟨gl,0,none⟩) 2 2]):=
         ⟨Zjj 5 (Zkm (c1:=[.int .i64 pp.f0,.slice C1 pp.f1.length b1,.slice C2 pp.f2.length b2,.slice C3 pp.f3.length b3]) (c2:=[.int .i64 y.f0,.slice B1 y.f1.length d1,.slice B2 y.f2.length d2,.slice B3 y.f3.length d3]) kl ⟨HF8.out _ (by have:=HB.out.size;have:=HGB.out;have:=HLB.out;omega),by have:=HLB.out;omega⟩ (Kd.FK_below HFB.out hR) (Kd.FK_mono (Kd.FK_below HEY.out hR) (fun k hk=>⟨hk.1.1,by have:=hk.2;have:=HGB.out;omega⟩)))⟩
        have HP7:Zaa (FoldAt a0 a1 a2 xs (j+1) (⟨5,[],[],[pp,y]⟩:S76)):=⟨HPJ.out.step (by have:=HJM.out;have:=HXL.out;omega) (fun D n q h1 h2=>.inr (.inr (.inr (.inr ⟨.inl rfl,rfl,rfl,_,_,n,q,rfl,h1,by rw[HY.out];exact h2,by omega⟩))))⟩
        have hjm2:j+1≤m:=by have:=HJM.out;omega
        have hj8:j<8:=by have:=HL8.out;omega
        simp only[f5,f6];clear hR hgl kl
        go_wp2_with ((with_reducible refine Zbt (t:=76) (p:=14) rfl ?_);refine Kd.N_store k76 (w0:=Z) (W:=W) gb rfl rfl 76 (.tmp 14) (.tmp 213) rfl 76 (0:Int) 0 [pp] (⟨5,[],[],[pp,y]⟩:S76) (.agg #[.int .i64 5,.slice none 0 0,.slice none 0 0,.slice (some ⟨gl,0,none⟩) 2 2]) [.int .i64 5,.slice none 0 0,.slice none 0 0,.slice (some ⟨gl,0,none⟩) 2 2] [.int .i64 pp.f0,.slice C1 pp.f1.length b1,.slice C2 pp.f2.length b2,.slice C3 pp.f3.length b3] (Okp g0 g1 g2 X.heap.size) (fun k=>Okp g0 g1 g2 X.heap.size k∧k≠gb) rfl ?sO rfl rfl rfl ?s1 HNW.out ?s2 ?s3 rfl ?s4 ?s5 HKW.out (fun _ h=>h) HBW.out ?_;(case sO=>rfl);(case s1=>first | decide | (intro q hq2;simp at hq2;rcases hq2 with rfl | rfl | rfl | rfl <;> rfl));(case s2=>omega);(case s3=>omega);(case s4=>exact Zci HCW.out 4);(case s5=>exact Nat.le_refl 4);intro w6 ho6 hb6 hg6;have HN7:=Zaa.mk ho6;have HB7:=Zaa.mk hb6;clear ho6 hb6 hg6)
        go_roundw
        case rel=>exact⟨j+1,_,by omega,hjm2,by simp,HP7,HN7,HB7⟩
        case measure=>show m-((j:Int)+1).toNat<m-(j:Int).toNat;omega
      ·obtain rfl:j=m:=by omega
       have HBZ:Zaa (Below Z.heap.size Z wr):=⟨by rw[←HGB.out];exact HBJ.out⟩
       obtain⟨cb,hcb,hfb⟩:=Zcp HNB.out;obtain⟨C1,b1,C2,b2,C3,b3,rfl,_⟩:=Zcb (Kd.FK_now hfb);have HFB:=Zaa.mk hfb;have x0:wr.cell? ⟨gb,0,none⟩=some (.int .i64 pp.f0):=(Zac hcb 0).trans rfl;have x1:wr.cell? ⟨gb,1,none⟩=some (.slice C1 pp.f1.length b1):=(Zac hcb 1).trans rfl;have x2:wr.cell? ⟨gb,2,none⟩=some (.slice C2 pp.f2.length b2):=(Zac hcb 2).trans rfl;have x3:wr.cell? ⟨gb,3,none⟩=some (.slice C3 pp.f3.length b3):=(Zac hcb 3).trans rfl;have HN8X:=HN8W;have HK8X:=HK8W;have HN8W:=Zaa.mk (Kd.N_below HN8X.out HBZ.out);have HK8W:=Zaa.mk (Zag HK8X.out HBZ.out);have HB1:=Zaa.mk (Below.trans HB0.out (Below.mono HBZ.out (by have:=HB0.out.size;have:=HG8.out;omega)));have HMM:Zaa (FoldAt a0 a1 a2 xs xs.length pp):=⟨by have:=HXL.out;rw[←this];exact HPJ.out⟩
       clear hcb hfb
       go_wp2_with ((with_reducible refine Zbt (t:=76) (p:=8) rfl ?_);refine Kd.N_store k76 (w0:=w) (W:=wr) g8 rfl rfl 76 (.tmp 8) (.tmp 214) rfl 76 (0:Int) 0 [z76] pp (.agg #[.int .i64 pp.f0,.slice C1 pp.f1.length b1,.slice C2 pp.f2.length b2,.slice C3 pp.f3.length b3]) [.int .i64 pp.f0,.slice C1 pp.f1.length b1,.slice C2 pp.f2.length b2,.slice C3 pp.f3.length b3] [.int .i64 0,.slice none 0 0,.slice none 0 0,.slice none 0 0] (fun k=>k=g8∨Okp g0 g1 g2 X.heap.size k) (fun k=>Okp g0 g1 g2 X.heap.size k∧k≠gb) rfl ?sO rfl rfl rfl ?s1 HN8W.out ?s2 ?s3 rfl ?s4 ?s5 HFB.out (fun k h=>⟨.inr h.1,HX8.out k h.1⟩) HB1.out ?_;(case sO=>rfl);(case s1=>first | decide | (intro q hq2;simp at hq2;rcases hq2 with rfl | rfl | rfl | rfl <;> rfl));(case s2=>omega);(case s3=>omega);(case s4=>exact Zci HK8W.out 4);(case s5=>exact Nat.le_refl 4);intro w6 ho6 hb6 hg6;have HN6:=Zaa.mk ho6;have HB6:=Zaa.mk hb6;clear ho6 hb6 hg6)
       go_wp2
       obtain⟨cb,hcb,hfb⟩:=Zcp HN6.out;have hfb:=Kd.FK_mono hfb (fun k h=>HW8.out k (h.1.resolve_left h.2));rw[HG8.out]at HB6;obtain⟨E1,j1,E2,j2,E3,j3,rfl,_⟩:=Zcb (Kd.FK_now hfb);refine bodyPost_ret (results_cell_row rfl _ _ g8 76 _ (0,0) _ rfl hcb Tryz.underlying76 rfl (by kernel_rfl)) rfl ?_
       obtain⟨D,N,hM,hD,hN⟩:=HMM.out.all;exact⟨pp,_,rfl,⟨D,N,hM,hD,by have:=HL8.out;have:=HXL.out;omega⟩,hfb,HB6.out⟩
    ·obtain⟨g,cap,hs,hgX,hgY,_⟩:=Kd.N_form HN.out (by omega);injection hs with hs1 hs2 hs3
     subst hs1;subst hs3;clear hs2;have HGX:=Zaa.mk hgX;have HGY:=Zaa.mk hgY;obtain⟨m,hmx⟩:∃m,m=xs.length:=⟨_,rfl⟩
     have HXL:=Zaa.mk hmx;rw[←hmx]at HN ⊢;have hm0:0<m:=by omega
     have hmz:¬m=0:=by omega
     obtain⟨el,hel1,hel2,hel3,hel4⟩:=Kd.N_elem HN.out z76 ((0:Nat):Int) (by omega) (by omega);rw[Int.toNat_natCast]at hel2 hel3 hel4;obtain⟨B1,d1,B2,d2,B3,d3,rfl,_⟩:=Zcb (Kd.FK_now hel2);have HEL:=Zaa.mk (Kd.FK_bound hel2);obtain⟨y,hy⟩:∃y,y=xs.getD 0 z76:=⟨_,rfl⟩
     have HY:=Zaa.mk hy;rw[←hy]at HEL hel3;have x0:wr.cell? ⟨g,0,none⟩=some (.int .i64 y.f0):=hel3 0 _ rfl;have x1:wr.cell? ⟨g,1,none⟩=some (.slice B1 y.f1.length d1):=hel3 1 _ rfl;have x2:wr.cell? ⟨g,2,none⟩=some (.slice B2 y.f2.length d2):=hel3 2 _ rfl;have x3:wr.cell? ⟨g,3,none⟩=some (.slice B3 y.f3.length d3):=hel3 3 _ rfl;have HBX:=Zaa.mk (box_N (d:=k76) (w:=wr) (e:=76) (x:=z76) (cs:=[.int .i64 0,.slice none 0 0,.slice none 0 0,.slice none 0 0]) (ok:=Okp g0 g1 g2 X.heap.size) (Zfn wr (fun _=>False) 0) (fun _ h=>h.elim) (HF8.out _ HB.out.size));have HBX2:=Zaa.mk (Zaq wr (.cells #[.int .i64 0,.slice none 0 0,.slice none 0 0,.slice none 0 0] 76));have HBA:=Zaa.mk (Zae (Below.refl _ wr) (.cells #[.int .i64 0,.slice none 0 0,.slice none 0 0,.slice none 0 0] 76));have HP1:Zaa (FoldAt a0 a1 a2 xs 1 y):=⟨by rw[HY.out];exact HP.out.fold hi8 (by have:=HXL.out;omega)⟩
     have HL8:Zaa (m≤8):=⟨by obtain⟨D,p1,p2,_⟩:=HP.out;have:=HXL.out;omega⟩
     clear hel1 hel2 hel3 hel4 hy hgX hgY hmx z
     go_wp2_with ((with_reducible refine Zbt (t:=76) (p:=14) rfl ?_);refine Kd.N_store k76 (w0:=wr) (W:=wr.alloc (.cells #[.int .i64 0,.slice none 0 0,.slice none 0 0,.slice none 0 0] 76)) wr.heap.size rfl rfl 76 (.tmp 14) (.tmp 200) rfl 76 (0:Int) 0 [z76] y (.agg #[.int .i64 y.f0,.slice B1 y.f1.length d1,.slice B2 y.f2.length d2,.slice B3 y.f3.length d3]) [.int .i64 y.f0,.slice B1 y.f1.length d1,.slice B2 y.f2.length d2,.slice B3 y.f3.length d3] [.int .i64 0,.slice none 0 0,.slice none 0 0,.slice none 0 0] (Okp g0 g1 g2 X.heap.size) (fun k=>(Okp g0 g1 g2 X.heap.size k∧k≠g)∧k<wr.heap.size) rfl ?sO rfl rfl rfl ?s1 HBX.out ?s2 ?s3 rfl ?s4 ?s5 (Kd.FK_below HEL.out HBA.out) (fun k hk=>⟨hk.1.1,by have:=hk.2;omega⟩) HBA.out ?_;(case sO=>rfl);(case s1=>first | decide | (intro q hq2;simp at hq2;rcases hq2 with rfl | rfl | rfl | rfl <;> rfl));(case s2=>omega);(case s3=>omega);(case s4=>exact Zci HBX2.out 4);(case s5=>exact Nat.le_refl 4);intro w6 ho6 hb6 hg6;have HN6:Zaa (Kd.N k76 76 w6 wr.heap.size (Okp g0 g1 g2 X.heap.size) (.slice (some ⟨wr.heap.size,0,none⟩) 1 1) [y]):=⟨ho6⟩;have HB6:=Zaa.mk hb6;clear ho6 hb6 hg6)
     obtain⟨gb,hgb⟩:∃gb,gb=wr.heap.size:=⟨_,rfl⟩
     have HGB:=Zaa.mk hgb;rw[←hgb]at HN6 ⊢;have HGL:Zaa (g<gb):=⟨by have:=HGY.out;omega⟩
     clear hgb x0 x1 x2 x3 hi8 hil;obtain⟨Z,hZ⟩:∃Z,Z=wr:=⟨_,rfl⟩
     subst hZ;go_wp2
     go_loopw [15] (fun q wr=>∃(j:Nat) (pp:S76),1≤j∧j≤m∧q=.int .i64 j∧Zaa (FoldAt a0 a1 a2 xs j pp)∧Zaa (Kd.N k76 76 wr gb (Okp g0 g1 g2 X.heap.size) (.slice (some ⟨gb,0,none⟩) 1 1) [pp])∧Zaa (Below gb Z wr)) (fun q _=>m-(intOf q).toNat)
     case atStart=>exact⟨1,y,by omega,by omega,rfl,⟨HP1.out⟩,⟨HN6.out⟩,⟨by rw[HGB.out];exact HB6.out⟩⟩
     case round=>
      obtain⟨j,pp,hj1,hjm,rfl,HPJ,HNB,HBJ⟩:=hrel;by_cases hjl:j<m
      ·obtain⟨el,hel1,hel2,hel3,hel4⟩:=Kd.N_elem HN.out z76 (j:Int) (by omega) (by omega);rw[Int.toNat_natCast]at hel2 hel3 hel4;obtain⟨B1,d1,B2,d2,B3,d3,rfl,_⟩:=Zcb (Kd.FK_now hel2);have HBZ:Zaa (Below Z.heap.size Z wr):=⟨by rw[←HGB.out];exact HBJ.out⟩
       have HEY:=Zaa.mk (Kd.FK_below (Kd.FK_bound hel2) HBZ.out);obtain⟨y,hy⟩:∃y,y=xs.getD j z76:=⟨_,rfl⟩
       have HY:=Zaa.mk hy;rw[←hy]at HEY hel3;have Y0:Zaa (wr.cell? ⟨g,j*4,none⟩=some (.int .i64 y.f0)):=⟨Zab HBZ.out (hel3 0 _ rfl)⟩
       have Y1:Zaa (wr.cell? ⟨g,j*4+1,none⟩=some (.slice B1 y.f1.length d1)):=⟨Zab HBZ.out (hel3 1 _ rfl)⟩
       have Y2:Zaa (wr.cell? ⟨g,j*4+2,none⟩=some (.slice B2 y.f2.length d2)):=⟨Zab HBZ.out (hel3 2 _ rfl)⟩
       have Y3:Zaa (wr.cell? ⟨g,j*4+3,none⟩=some (.slice B3 y.f3.length d3)):=⟨Zab HBZ.out (hel3 3 _ rfl)⟩
       obtain⟨cb,hcb,hfb⟩:=Zcp HNB.out;obtain⟨C1,b1,C2,b2,C3,b3,rfl,_⟩:=Zcb (Kd.FK_now hfb);have HCB:=Zaa.mk hcb;have HFB:=Zaa.mk hfb;have X0:Zaa (wr.cell? ⟨gb,0,none⟩=some (.int .i64 pp.f0)):=⟨(Zac hcb 0).trans rfl⟩
       have X1:Zaa (wr.cell? ⟨gb,1,none⟩=some (.slice C1 pp.f1.length b1)):=⟨(Zac hcb 1).trans rfl⟩
       have X2:Zaa (wr.cell? ⟨gb,2,none⟩=some (.slice C2 pp.f2.length b2)):=⟨(Zac hcb 2).trans rfl⟩
       have X3:Zaa (wr.cell? ⟨gb,3,none⟩=some (.slice C3 pp.f3.length b3)):=⟨(Zac hcb 3).trans rfl⟩
       have HJM:Zaa (j<m):=⟨hjl⟩
       have HLB:Zaa (gb<wr.heap.size):=⟨Zew hcb⟩
       have hfr:wr.frozen? ⟨gb,0,none⟩=false:=by simp[World.frozen?,hcb]
       have HFR:=Zaa.mk hfr;clear hel1 hel2 hel3 hel4 hy hcb hfb hfr
       go_upto_region 29 with fail
       obtain⟨Y,hY⟩:∃Y,Y=wr:=⟨_,rfl⟩
       subst hY;clear hjl;refine Zbq 7 _ Zcz (Zrb (.slice (some ⟨g,0,none⟩) m cs) m j g #[.int .i64 pp.f0,.slice C1 pp.f1.length b1,.slice C2 pp.f2.length b2,.slice C3 pp.f3.length b3] #[.int .i64 y.f0,.slice B1 y.f1.length d1,.slice B2 y.f2.length d2,.slice B3 y.f3.length d3] #[.int .i64 pp.f0,.slice C1 pp.f1.length b1,.slice C2 pp.f2.length b2,.slice C3 pp.f3.length b3,.int .i64 y.f0,.slice B1 y.f1.length d1,.slice B2 y.f2.length d2,.slice B3 y.f3.length d3] Y.heap.size) Zca (by kernel_rfl) (by kernel_rfl) (by kernel_rfl) rfl Zbk Zbf (Zly _ _ _ _ _ _ _ _) ?step ?fin
       case step=>
        repeat (rename_i z;clear z)
        refine⟨?_,?_,?_,?_,?_,?_,?_,trivial⟩ <;> intro vals W hR0 hd <;> have hR:=Zaf (Zam (Below.refl _ Y)) hR0
        ·have x0b:=Zab hR X0.out;have x1b:=Zab hR X1.out;have x2b:=Zab hR X2.out;have x3b:=Zab hR X3.out;refine Zad (W':=W) ?_ ⟨Zbr,rfl⟩
         clear hd;simp only[Zao,Zcz,Zai];go_simp
        ·refine Zad (W':=W) ?_ ⟨Zbr,rfl⟩
         clear hd;simp only[Zao,Zcz,Zai];go_simp
        ·refine Zad (W':=W) ?_ ⟨Zbr,rfl⟩
         clear hd;simp only[Zao,Zcz,Zai];go_simp
        ·have h1:vals 1=(.slice (some ⟨g,0,none⟩) m cs):=hd 1 (by simp[Zcz]);have h2:vals 2=.int .i64 (j:Int):=hd 2 (by simp[Zcz]);have hjm:=HJM.out;refine Zad (W':=W) ?_ ⟨Zbr,rfl⟩
         clear hd;simp only[Zao,Zcz,Zai,h1,h2];go_simp
        ·have h3:vals 3=.pointer (some ⟨g,j*4,none⟩):=hd 3 (by simp[Zcz]);have x0b:=Zab hR Y0.out;have x1b:=Zab hR Y1.out;have x2b:=Zab hR Y2.out;have x3b:=Zab hR Y3.out;refine Zad (W':=W) ?_ ⟨Zbr,rfl⟩
         clear hd;simp only[Zao,Zcz,Zai,h3];go_simp
        ·have h0:vals 0=.agg #[.int .i64 pp.f0,.slice C1 pp.f1.length b1,.slice C2 pp.f2.length b2,.slice C3 pp.f3.length b3]:=hd 0 (by simp[Zcz]);have h4:vals 4=.agg #[.int .i64 y.f0,.slice B1 y.f1.length d1,.slice B2 y.f2.length d2,.slice B3 y.f3.length d3]:=hd 4 (by simp[Zcz]);clear hd;refine Zad (W':=W.alloc (.cells #[.int .i64 pp.f0,.slice C1 pp.f1.length b1,.slice C2 pp.f2.length b2,.slice C3 pp.f3.length b3,.int .i64 y.f0,.slice B1 y.f1.length d1,.slice B2 y.f2.length d2,.slice B3 y.f3.length d3] 76)) (v:=.slice (some ⟨W.heap.size,0,none⟩) 2 2) ?_ ⟨Zae Zbr _,W.heap.size,rfl,hR.size,Zaq W _⟩
         simp only[Zao,Zcz,Zai,h0,h4];go_simp
        ·have h5:∃gl,(vals 5)=.slice (some ⟨gl,0,none⟩) 2 2∧Y.heap.size≤gl∧W.heap[gl]?=some (.cells #[.int .i64 pp.f0,.slice C1 pp.f1.length b1,.slice C2 pp.f2.length b2,.slice C3 pp.f3.length b3,.int .i64 y.f0,.slice B1 y.f1.length d1,.slice B2 y.f2.length d2,.slice B3 y.f3.length d3] 76 (0,0)):=hd 5 (by simp[Zcz]);obtain⟨gl,e5,hg5,hk5⟩:=h5;clear hd;refine Zad (W':=W) (v:=.agg #[.int .i64 5,.slice none 0 0,.slice none 0 0,.slice (some ⟨gl,0,none⟩) 2 2]) ?_ ⟨Zbr,gl,rfl,hg5,hk5⟩
         simp only[Zao,Zcz,Zai,e5];go_simp
       case fin=>
        intro vals W hR0 hF;have hR:=Zaf (Zam (Below.refl _ Y)) hR0;have f0:vals 0=.agg #[.int .i64 pp.f0,.slice C1 pp.f1.length b1,.slice C2 pp.f2.length b2,.slice C3 pp.f3.length b3]:=hF 0 (by decide);have f1:vals 1=(.slice (some ⟨g,0,none⟩) m cs):=hF 1 (by decide);have f2:vals 2=.int .i64 (j:Int):=hF 2 (by decide);have f3:vals 3=.pointer (some ⟨g,j*4,none⟩):=hF 3 (by decide);have f4:vals 4=.agg #[.int .i64 y.f0,.slice B1 y.f1.length d1,.slice B2 y.f2.length d2,.slice B3 y.f3.length d3]:=hF 4 (by decide);have f5:∃gl,(vals 5)=.slice (some ⟨gl,0,none⟩) 2 2∧Y.heap.size≤gl∧W.heap[gl]?=some (.cells #[.int .i64 pp.f0,.slice C1 pp.f1.length b1,.slice C2 pp.f2.length b2,.slice C3 pp.f3.length b3,.int .i64 y.f0,.slice B1 y.f1.length d1,.slice B2 y.f2.length d2,.slice B3 y.f3.length d3] 76 (0,0)):=hF 5 (by decide);have f6:∃gl,(vals 6)=.agg #[.int .i64 5,.slice none 0 0,.slice none 0 0,.slice (some ⟨gl,0,none⟩) 2 2]∧Y.heap.size≤gl∧W.heap[gl]?=some (.cells #[.int .i64 pp.f0,.slice C1 pp.f1.length b1,.slice C2 pp.f2.length b2,.slice C3 pp.f3.length b3,.int .i64 y.f0,.slice B1 y.f1.length d1,.slice B2 y.f2.length d2,.slice B3 y.f3.length d3] 76 (0,0)):=hF 6 (by decide);clear hF hR0;rw[show List.range 7=[0,1,2,3,4,5,6]from rfl];simp only[Zao,Zai,Act.put,List.getElem?_toArray,List.getElem?_cons_zero,List.getElem?_cons_succ,Option.bind_some,List.setIfInBounds_toArray,List.set_cons_zero,List.set_cons_succ,List.drop_succ_cons,List.drop_zero,f0,f1,f2,f3,f4];obtain⟨gl5,f5,_,_⟩:=f5;obtain⟨gl,f6,hgl,kl⟩:=f6;have HBW:Zaa (Below gb Z W):=⟨Below.trans HBJ.out (Below.mono hR (Nat.le_of_lt HLB.out))⟩
        have HNW:=Zaa.mk (Kd.N_below HNB.out hR);have HCW:=Zaa.mk (Zag HCB.out hR);have fr1:W.frozen? ⟨gb,0,none⟩=false:=by rw[World.frozen?_of_block (hR.block gb HLB.out)];exact HFR.out
        have HKW:Zaa (Kd.FK k76 W (fun k=>Okp g0 g1 g2 X.heap.size k∧k≠gb) (⟨5,[],[],[pp,y]⟩:S76) [.int .i64 5,.slice none 0 0,.slice none 0 0,.slice (some ⟨gl,0,none⟩) 2 2]):=
         ⟨Zjj 5 (Zkm (c1:=[.int .i64 pp.f0,.slice C1 pp.f1.length b1,.slice C2 pp.f2.length b2,.slice C3 pp.f3.length b3]) (c2:=[.int .i64 y.f0,.slice B1 y.f1.length d1,.slice B2 y.f2.length d2,.slice B3 y.f3.length d3]) kl ⟨HF8.out _ (by have:=HB.out.size;have:=HGB.out;have:=HLB.out;omega),by have:=HLB.out;omega⟩ (Kd.FK_below HFB.out hR) (Kd.FK_mono (Kd.FK_below HEY.out hR) (fun k hk=>⟨hk.1.1,by have:=hk.2;have:=HGB.out;omega⟩)))⟩
        have HP7:Zaa (FoldAt a0 a1 a2 xs (j+1) (⟨5,[],[],[pp,y]⟩:S76)):=⟨HPJ.out.step (by have:=HJM.out;have:=HXL.out;omega) (fun D n q h1 h2=>.inr (.inr (.inr (.inr ⟨.inl rfl,rfl,rfl,_,_,n,q,rfl,h1,by rw[HY.out];exact h2,by omega⟩))))⟩
        have hjm2:j+1≤m:=by have:=HJM.out;omega
        have hj8:j<8:=by have:=HL8.out;omega
        simp only[f5,f6];clear hR hgl kl
        go_wp2_with ((with_reducible refine Zbt (t:=76) (p:=14) rfl ?_);refine Kd.N_store k76 (w0:=Z) (W:=W) gb rfl rfl 76 (.tmp 14) (.tmp 213) rfl 76 (0:Int) 0 [pp] (⟨5,[],[],[pp,y]⟩:S76) (.agg #[.int .i64 5,.slice none 0 0,.slice none 0 0,.slice (some ⟨gl,0,none⟩) 2 2]) [.int .i64 5,.slice none 0 0,.slice none 0 0,.slice (some ⟨gl,0,none⟩) 2 2] [.int .i64 pp.f0,.slice C1 pp.f1.length b1,.slice C2 pp.f2.length b2,.slice C3 pp.f3.length b3] (Okp g0 g1 g2 X.heap.size) (fun k=>Okp g0 g1 g2 X.heap.size k∧k≠gb) rfl ?sO rfl rfl rfl ?s1 HNW.out ?s2 ?s3 rfl ?s4 ?s5 HKW.out (fun _ h=>h) HBW.out ?_;(case sO=>rfl);(case s1=>first | decide | (intro q hq2;simp at hq2;rcases hq2 with rfl | rfl | rfl | rfl <;> rfl));(case s2=>omega);(case s3=>omega);(case s4=>exact Zci HCW.out 4);(case s5=>exact Nat.le_refl 4);intro w6 ho6 hb6 hg6;have HN7:=Zaa.mk ho6;have HB7:=Zaa.mk hb6;clear ho6 hb6 hg6)
        go_roundw
        case rel=>exact⟨j+1,_,by omega,hjm2,by simp,HP7,HN7,HB7⟩
        case measure=>show m-((j:Int)+1).toNat<m-(j:Int).toNat;omega
      ·obtain rfl:j=m:=by omega
       have HBZ:Zaa (Below Z.heap.size Z wr):=⟨by rw[←HGB.out];exact HBJ.out⟩
       obtain⟨cb,hcb,hfb⟩:=Zcp HNB.out;obtain⟨C1,b1,C2,b2,C3,b3,rfl,_⟩:=Zcb (Kd.FK_now hfb);have HFB:=Zaa.mk hfb;have x0:wr.cell? ⟨gb,0,none⟩=some (.int .i64 pp.f0):=(Zac hcb 0).trans rfl;have x1:wr.cell? ⟨gb,1,none⟩=some (.slice C1 pp.f1.length b1):=(Zac hcb 1).trans rfl;have x2:wr.cell? ⟨gb,2,none⟩=some (.slice C2 pp.f2.length b2):=(Zac hcb 2).trans rfl;have x3:wr.cell? ⟨gb,3,none⟩=some (.slice C3 pp.f3.length b3):=(Zac hcb 3).trans rfl;have HN8X:=HN8W;have HK8X:=HK8W;have HN8W:=Zaa.mk (Kd.N_below HN8X.out HBZ.out);have HK8W:=Zaa.mk (Zag HK8X.out HBZ.out);have HB1:=Zaa.mk (Below.trans HB0.out (Below.mono HBZ.out (by have:=HB0.out.size;have:=HG8.out;omega)));have HMM:Zaa (FoldAt a0 a1 a2 xs xs.length pp):=⟨by have:=HXL.out;rw[←this];exact HPJ.out⟩
       clear hcb hfb
       go_wp2_with ((with_reducible refine Zbt (t:=76) (p:=8) rfl ?_);refine Kd.N_store k76 (w0:=w) (W:=wr) g8 rfl rfl 76 (.tmp 8) (.tmp 214) rfl 76 (0:Int) 0 [z76] pp (.agg #[.int .i64 pp.f0,.slice C1 pp.f1.length b1,.slice C2 pp.f2.length b2,.slice C3 pp.f3.length b3]) [.int .i64 pp.f0,.slice C1 pp.f1.length b1,.slice C2 pp.f2.length b2,.slice C3 pp.f3.length b3] [.int .i64 0,.slice none 0 0,.slice none 0 0,.slice none 0 0] (fun k=>k=g8∨Okp g0 g1 g2 X.heap.size k) (fun k=>Okp g0 g1 g2 X.heap.size k∧k≠gb) rfl ?sO rfl rfl rfl ?s1 HN8W.out ?s2 ?s3 rfl ?s4 ?s5 HFB.out (fun k h=>⟨.inr h.1,HX8.out k h.1⟩) HB1.out ?_;(case sO=>rfl);(case s1=>first | decide | (intro q hq2;simp at hq2;rcases hq2 with rfl | rfl | rfl | rfl <;> rfl));(case s2=>omega);(case s3=>omega);(case s4=>exact Zci HK8W.out 4);(case s5=>exact Nat.le_refl 4);intro w6 ho6 hb6 hg6;have HN6:=Zaa.mk ho6;have HB6:=Zaa.mk hb6;clear ho6 hb6 hg6)
       go_wp2
       obtain⟨cb,hcb,hfb⟩:=Zcp HN6.out;have hfb:=Kd.FK_mono hfb (fun k h=>HW8.out k (h.1.resolve_left h.2));rw[HG8.out]at HB6;obtain⟨E1,j1,E2,j2,E3,j3,rfl,_⟩:=Zcb (Kd.FK_now hfb);refine bodyPost_ret (results_cell_row rfl _ _ g8 76 _ (0,0) _ rfl hcb Tryz.underlying76 rfl (by kernel_rfl)) rfl ?_
       obtain⟨D,N,hM,hD,hN⟩:=HMM.out.all;exact⟨pp,_,rfl,⟨D,N,hM,hD,by have:=HL8.out;have:=HXL.out;omega⟩,hfb,HB6.out⟩
end Go.Proofs.YtpagbjdmiepgmaaGreatDoor.PVpa
