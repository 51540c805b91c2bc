/- Joined from texts of this seat, in their order. -/
import Derived.Test.YtpagbjdmiepgmaaGreatDoorJAj
import Derived.Test.YtpagbjdmiepgmaaGreatDoorJAd
import Derived.Test.YtpagbjdmiepgmaaGreatDoorJAb
import Derived.Test.YtpagbjdmiepgmaaGreatDoorJAc
import Derived.StillTailTactics
set_option linter.unusedVariables false
set_option linter.unusedSimpArgs false
set_option linter.unusedSectionVars false
set_option maxRecDepth 100000
namespace Go.Proofs.YtpagbjdmiepgmaaGreatDoor.PVpa
open Go.RowKit Go.Proofs.YtpagbjdmiepgmaaGreatDoorW.PrintWords Go.Proofs.YtpagbjdmiepgmaaGreatDoorW.PrintLast Go.Proofs.YtpagbjdmiepgmaaGreatDoorW.PrintMore
def endT (t:S94):S94:={ t with f3:=true }
def Zir (rule step owner:Int)(t:S94):S94:={ t with f5:=rule,f6:=step,f7:=owner }
theorem Zml {its its1:List S94}(f:S94→S94)(h:Fore its its1)(l:List Int)(hl:∀z∈l,(its.length:Int)≤z):∀i,i≤l.length→Fore its (Znh f its1 l i)
 | 0,_=>h
 | i+1,hi=>(Zml f h l hl i (by omega)).set _ (by have:=hl _ (Zfv (show i<l.length by omega));omega) _
structure WE (w0:W0)(W Z:World)(gb:Nat)(h0 h1 vs v v2:Value)(its:List S94)(bx:Nat)(e:Bool)(c1 c2:Value)(x:Sx):Prop where
 rs:RS w0 Z gb h0 h1 vs v2 its
 box:Z.heap[bx]?=some (.cells (Zht e c1 c2) 132 (0,0))
 r1:Ri w0 Z c1 x.first
 r2:Ri w0 Z c2 x.last
 kv:KeptV W Z gb v
theorem WE.below {w0:W0}{W Z Z':World}{gb:Nat}{h0 h1 vs v v2:Value}{its:List S94}{bx:Nat}{e:Bool}{c1 c2:Value}{x:Sx}(h:WE w0 W Z gb h0 h1 vs v v2 its bx e c1 c2 x)(hn:NewOr W v v2)(hb:Below Z.heap.size Z Z'):WE w0 W Z' gb h0 h1 vs v v2 its bx e c1 c2 x:=
 ⟨h.rs.below hb,Zag h.box hb,Zap h.r1 hb,Zap h.r2 hb,h.kv.trans (v1:=v2) (KeptV.of_below hb gb v2) hn⟩
theorem WE.set {w0:W0}{W Z:World}{gb:Nat}{h0 h1 vs v v2:Value}{its its':List S94}{bx:Nat}{e:Bool}{c1 c2:Value}{x:Sx}(h:WE w0 W Z gb h0 h1 vs v v2 its bx e c1 c2 x)(hn:NewOr W v v2){Z':World}(hs:RS w0 Z' gb h0 h1 vs v2 its'∧KeptV Z Z' gb v2):WE w0 W Z' gb h0 h1 vs v v2 its' bx e c1 c2 x:=
 ⟨hs.1,h.rs.keep hs.2 h.box (by decide) (by decide),h.r1.same (h.rs.same3 hs.2),h.r2.same (h.rs.same3 hs.2),h.kv.trans hs.2 hn⟩
theorem whole_get (its2:List S94)(k:Nat)(x:Sx)(own:List Int)(rule step owner:Int)(hl:∀z∈x.last,0≤z)(ho:∀z∈own,0≤z)(q:Nat)(hq:q<its2.length)(hkl:¬(k:Int)∈x.last) :
 (Znh (Zir rule step owner) (Znh endT ((its2.set k { its2.getD k z94 with f2:=x.first }).set k { (its2.set k { its2.getD k z94 with f2:=x.first }).getD k z94 with f3:=x.empty }) x.last x.last.length) own own.length).getD q z94=Zki k x own rule step owner q (its2.getD q z94):=by
 rw[Zkz (Zir rule step owner) (fun t=>rfl) _ _ ho q (by rw[Zee];simpa using hq) _ (Nat.le_refl _),List.take_length,Zkz endT (fun t=>rfl) _ _ hl q (by simpa using hq) _ (Nat.le_refl _),List.take_length,Zdr,Zdr,Zdr,List.length_set];by_cases hk:k=q
 ·subst hk;by_cases h1:(k:Int)∈own <;> simp[Zki,Zir,h1,hkl,hq]
 ·have hk2:¬q=k:=fun h=>hk h.symm
  by_cases h1:(q:Int)∈own <;> by_cases h2:(q:Int)∈x.last <;> simp[Zki,Zir,endT,h1,h2,hk,hk2]
section
variable {ops:Array Oper}{rest:List Oper}{o:Oper}{a:Act}{Q:Exit→Act→World→Prop}
theorem Zos {w0:W0}{W:World}{gb:Nat}{h0 h1 vs v:Value}{its:List S94}(hgd:o.guard=none)(s x:Operand)(ho:o.op=.call { callee:=.builtin .append,args:=#[s,x],argTypes:=#[34,34] })
 (h:RS w0 W gb h0 h1 vs v its) (p:S94) (cs:List Value) (hp:ItS w0 W p cs) (g:Nat)
 (hs:a.eval s=v) (hx:a.eval x=.slice (some ⟨g,0,none⟩) 1 1) (hg:g=W.heap.size) (hl:its.length≤1000000)
 (hK:∀v1 w1,OwnRow (ItS w0 W) 94 11 w1 w0.heap.size v1 (its++[p])→Below w0.heap.size w0 w1→W.grownBy w1 v.ownBlock→(v1.ownBlock=v.ownBlock∨∃b,v1.ownBlock=some b∧W.heap.size≤b)→wpList Tryz.prog ops Q rest (a.put o.dst v1) w1) :
 wpList Tryz.prog ops Q (o :: rest) a (W.alloc (.cells cs.toArray 94)):=by
 subst hg;exact OwnRow.append (w0:=w0) w0.heap.size hgd s x 34 94 _ 11 152 ho Tryz.underlying34 info94 rfl (by omega) (by omega) v its p cs hs hx hp hp.len hp.one h.row h.bel h.bel.size (by omega) hK
end
theorem Zsh (w0:W0)(W:World)(rule step owner:Int):ItS w0 W (Zsi rule step owner) [.int .i64 2,.int .i64 0,.slice none 0 0,.slice none 0 0,.slice none 0 0,.slice none 0 0,.bool false,.int .i64 0,.int .i64 rule,.int .i64 step,.int .i64 owner]:=
 ⟨none,0,none,0,none,0,.slice none 0 0,rfl,Nat.le_refl _,Kd.C_nil _ _,Nat.le_refl _,Kd.C_nil _ _,Nat.le_refl _,Kd.C_nil _ _,Kd.R_nil _ _ _ _ _⟩
def itL (it:List S94)(q:Nat)(r s o:Int):Nat→List S94
 | 0=>it
 | 1=>it.set q { it.getD q z94 with f5:=r }
 | 2=>it.set q { it.getD q z94 with f5:=r,f6:=s }
 | _=>it.set q (Zir r s o (it.getD q z94))
theorem itL_len (it:List S94)(q:Nat)(r s o:Int)(k:Nat):(itL it q r s o k).length=it.length:=by
 unfold itL
 split <;> simp
theorem Zcw (it:List S94)(q:Nat)(y:S94)(h:q<it.length):(it.set q y).getD q z94=y:=by rw[Zdr,if_pos ⟨rfl,h⟩]
theorem itL_1 (it:List S94)(q:Nat)(r s o:Int)(h:q<it.length):∀k,(itL it q r s o k).set q { (itL it q r s o k).getD q z94 with f5:=r }=itL it q r s o (max k 1)
 | 0=>rfl
 | 1=>by show _=itL it q r s o 1;simp only[itL,Zcw _ _ _ h,List.set_set]
 | 2=>by show _=itL it q r s o 2;simp only[itL,Zcw _ _ _ h,List.set_set]
 | k+3=>by
  have e:max (k+3) 1=k+3:=by omega
  rw[e];simp only[itL,Zir,Zcw _ _ _ h,List.set_set]
theorem itL_2 (it:List S94)(q:Nat)(r s o:Int)(h:q<it.length):∀k,1≤k→(itL it q r s o k).set q { (itL it q r s o k).getD q z94 with f6:=s }=itL it q r s o (max k 2)
 | 0,h0=>by omega
 | 1,_=>by show _=itL it q r s o 2;simp only[itL,Zcw _ _ _ h,List.set_set]
 | 2,_=>by show _=itL it q r s o 2;simp only[itL,Zcw _ _ _ h,List.set_set]
 | k+3,_=>by
  have e:max (k+3) 2=k+3:=by omega
  rw[e];simp only[itL,Zir,Zcw _ _ _ h,List.set_set]
theorem itL_3 (it:List S94)(q:Nat)(r s o:Int)(h:q<it.length):∀k,2≤k→(itL it q r s o k).set q { (itL it q r s o k).getD q z94 with f7:=o }=itL it q r s o (max k 3)
 | 0,h0=>by omega
 | 1,h0=>by omega
 | 2,_=>by show _=itL it q r s o 3;simp only[itL,Zir,Zcw _ _ _ h,List.set_set]
 | k+3,_=>by
  have e:max (k+3) 3=k+3:=by omega
  rw[e];simp only[itL,Zir,Zcw _ _ _ h,List.set_set]
theorem itL_end (it:List S94)(q:Nat)(r s o:Int):∀k,3≤k→itL it q r s o k=it.set q (Zir r s o (it.getD q z94))
 | 0,h=>by omega
 | 1,h=>by omega
 | 2,h=>by omega
 | _+3,_=>rfl
def Evo (P:Nat→World→Prop)(w w':World):Prop:=∀k,P k w→∃k',k≤k'∧P k' w'
theorem Zbn (P:Nat→World→Prop)(w:World):Evo P w w:=fun k h=>⟨k,Nat.le_refl _,h⟩
theorem evo_trans (P:Nat→World→Prop)(w w1 w2:World)(h:Evo P w w1)(k:Evo P w1 w2):Evo P w w2:=fun n hn=>by
 obtain⟨n1,h1,h2⟩:=h n hn;obtain⟨n2,h3,h4⟩:=k n1 h2;exact⟨n2,Nat.le_trans h1 h3,h4⟩
structure LV (w0:W0)(W:World)(gb:Nat)(h0 h1 vs v v2:Value)(it:List S94)(q:Nat)(r s o:Int)(bx:Nat)(e:Bool)(c1 c2:Value)(x:Sx)(u:Value)(L:List Int)(k:Nat)(Z:World):Prop where
 we:WE w0 W Z gb h0 h1 vs v v2 (itL it q r s o k) bx e c1 c2 x
 ri:Ri w0 Z u L
section
variable {w0:W0}{W:World}{gb:Nat}{h0 h1 vs v:Value}{it:List S94}{q:Nat}{r s o:Int}{bx:Nat}{e:Bool}{c1 c2:Value}{x:Sx}{u:Value}{L:List Int}{k n8 c8:Nat}{ad:Addr}{Z:World}
theorem LV.drew (h:LV w0 W gb h0 h1 vs v (.slice (some ad) n8 c8) it q r s o bx e c1 c2 x u L k Z)(hn:NewOr W v (.slice (some ad) n8 c8)):LV w0 W gb h0 h1 vs v (.slice (some ad) n8 c8) it q r s o bx e c1 c2 x u L k Z.drew:=
 ⟨h.we.below hn (Zam Zbr),Zap h.ri (Zam Zbr)⟩
theorem LV.at_ (h:LV w0 W gb h0 h1 vs v (.slice (some ad) n8 c8) it q r s o bx e c1 c2 x u L k Z)(h8:n8=it.length)(hq:q<it.length)(f:Nat)(hf:f=8∨f=9∨f=10) :
 (∃z,Z.cell? ⟨(ad.add (q*11)).block,(ad.add (q*11)).off+f,none⟩=some (.int .i64 z))∧Z.frozen? ⟨(ad.add (q*11)).block,(ad.add (q*11)).off+f,none⟩=false:=by
 have hl:=itL_len it q r s o k;obtain⟨ad',cs,e8,hps,hcell,hfz⟩:=h.we.rs.at_ (A:=some ad) (c:=c8) (by rw[hl,h8]) q (by rw[hl];exact hq);obtain rfl:=Option.some.inj e8;obtain⟨E1,g1,E2,g2,E3,g3,v4,rfl,_⟩:=hps;refine⟨?_,hfz f⟩
 rcases hf with rfl | rfl | rfl
 ·exact⟨_,hcell 8 _ rfl⟩
 ·exact⟨_,hcell 9 _ rfl⟩
 ·exact⟨_,hcell 10 _ rfl⟩
theorem LV.put (h:LV w0 W gb h0 h1 vs v (.slice (some ad) n8 c8) it q r s o bx e c1 c2 x u L k Z)(hn:NewOr W v (.slice (some ad) n8 c8))(h8:n8=it.length)(hq:q<it.length){f:Nat}(hf:f<11){y:S94}{z:Value}{k':Nat}
 (hR:∀c,c.length=11→ItS w0 Z ((itL it q r s o k).getD q z94) c→ItS w0 Z y (c.set f z)) (hy:(itL it q r s o k).set q y=itL it q r s o k'):LV w0 W gb h0 h1 vs v (.slice (some ad) n8 c8) it q r s o bx e c1 c2 x u L k' (Z.setCell ⟨(ad.add (q*11)).block,(ad.add (q*11)).off+f,none⟩ z):=by
 have hl:=itL_len it q r s o k;have hs:=h.we.rs.setAt (A:=some ad) (c:=c8) (by rw[hl,h8]) rfl q (by rw[hl];exact hq) f hf z y hR;have h1:=h.we.set hn hs;rw[hy]at h1;exact⟨h1,h.ri.same (h.we.rs.same3 hs.2)⟩
end
def Zdh:Nat→List Nat
 | 2=>[1]
 | 3=>[2]
 | 4=>[3]
 | 7=>[5,6]
 | 8=>[7]
 | 9=>[4,8]
 | 10=>[9]
 | 11=>[10]
 | 12=>[0,11]
 | _=>[]
def phiQ34E (w0:W0)(gb q m n8 c8 cL lf d4 nL:Nat)(ad a2:Addr)(B4:Option Addr)(M:List Int):Nat→List Value→Prop
 | 0,[v]=>v=.slice (some a2) nL cL
 | 1,[v]=>v=.pointer (some ⟨gb,0,none⟩)
 | 2,[v,_]=>v=.pointer (some ⟨gb,0,none⟩)
 | 3,[v,_]=>v=.pointer (some ⟨gb,2,none⟩)
 | 4,[v,_]=>v=.slice (some ad) n8 c8
 | 5,[v]=>v=.slice (some a2) nL cL
 | 6,[v]=>v=.int .i64 m
 | 7,[v,_,_]=>v=.pointer (some (a2.add m))
 | 8,[v,_]=>v=.int .i64 q
 | 9,[v,_,_]=>v=.pointer (some (ad.add (q*11)))
 | 10,[v,_]=>v=.pointer (some ⟨(ad.add (q*11)).block,(ad.add (q*11)).off+5,none⟩)
 | 11,[v,_]=>v=.slice B4 lf d4
 | _,_=>True
def phiQ34X (w0:W0)(gb q m n8 c8 cL lf d4 nL:Nat)(ad a2:Addr)(B4:Option Addr)(M:List Int):Nat→List Value→World→Prop
 | 12,[v,_,_],W=>(∃A c,v=.slice A M.length c)∧Ri w0 W v M
 | _,_,_=>True
def phiQ34 (w0:W0)(gb q m n8 c8 cL lf d4 nL:Nat)(ad a2:Addr)(B4:Option Addr)(M:List Int)(i:Nat)(vs:List Value)(W:World):Prop:=phiQ34E w0 gb q m n8 c8 cL lf d4 nL ad a2 B4 M i vs∧phiQ34X w0 gb q m n8 c8 cL lf d4 nL ad a2 B4 M i vs W
theorem Zth (w0:W0)(gb q m n8 c8 cL lf d4 nL:Nat)(ad a2:Addr)(B4:Option Addr)(M:List Int):∀i vs w w',phiQ34 w0 gb q m n8 c8 cL lf d4 nL ad a2 B4 M i vs w→Zca w w'→phiQ34 w0 gb q m n8 c8 cL lf d4 nL ad a2 B4 M i vs w':=by
 intro i vs w w' h0 hb;refine⟨h0.1,?_⟩;have h:=h0.2;clear h0;unfold phiQ34X at h ⊢
 split at h
 case h_1=>
  exact⟨h.1,Zap h.2 hb⟩
 all_goals exact h
def Zav:Nat→List Nat
 | 1=>[0]
 | 2=>[1]
 | 3=>[2]
 | 6=>[4,5]
 | 7=>[6]
 | 9=>[8]
 | 10=>[9]
 | 11=>[10]
 | 14=>[12,13]
 | 15=>[14]
 | 17=>[16]
 | 18=>[17]
 | 19=>[18]
 | 22=>[20,21]
 | 23=>[22]
 | 27=>[3,7]
 | 28=>[27]
 | 29=>[24,28]
 | 30=>[11,15]
 | 31=>[30]
 | 32=>[25,29,31]
 | 33=>[19,23]
 | 34=>[33]
 | 35=>[26,32,34]
 | _=>[]
def phiQ318E (gb q j n8 c8 cL nL:Nat)(rule step owner:Int)(ad a2:Addr)(P:Nat→World→Prop):Nat→List Value→Prop
 | 0,[v]=>v=.pointer (some ⟨gb,0,none⟩)
 | 1,[v,_]=>v=.pointer (some ⟨gb,0,none⟩)
 | 2,[v,_]=>v=.pointer (some ⟨gb,2,none⟩)
 | 3,[v,_]=>v=.slice (some ad) n8 c8
 | 4,[v]=>v=.slice (some a2) nL cL
 | 5,[v]=>v=.int .i64 j
 | 6,[v,_,_]=>v=.pointer (some (a2.add j))
 | 7,[v,_]=>v=.int .i64 q
 | 8,[v]=>v=.pointer (some ⟨gb,0,none⟩)
 | 9,[v,_]=>v=.pointer (some ⟨gb,0,none⟩)
 | 10,[v,_]=>v=.pointer (some ⟨gb,2,none⟩)
 | 11,[v,_]=>v=.slice (some ad) n8 c8
 | 12,[v]=>v=.slice (some a2) nL cL
 | 13,[v]=>v=.int .i64 j
 | 14,[v,_,_]=>v=.pointer (some (a2.add j))
 | 15,[v,_]=>v=.int .i64 q
 | 16,[v]=>v=.pointer (some ⟨gb,0,none⟩)
 | 17,[v,_]=>v=.pointer (some ⟨gb,0,none⟩)
 | 18,[v,_]=>v=.pointer (some ⟨gb,2,none⟩)
 | 19,[v,_]=>v=.slice (some ad) n8 c8
 | 20,[v]=>v=.slice (some a2) nL cL
 | 21,[v]=>v=.int .i64 j
 | 22,[v,_,_]=>v=.pointer (some (a2.add j))
 | 23,[v,_]=>v=.int .i64 q
 | 24,[v]=>v=.int .i64 rule
 | 25,[v]=>v=.int .i64 step
 | 26,[v]=>v=.int .i64 owner
 | 27,[v,_,_]=>v=.pointer (some (ad.add (q*11)))
 | 28,[v,_]=>v=.pointer (some ⟨(ad.add (q*11)).block,(ad.add (q*11)).off+8,none⟩)
 | 30,[v,_,_]=>v=.pointer (some (ad.add (q*11)))
 | 31,[v,_]=>v=.pointer (some ⟨(ad.add (q*11)).block,(ad.add (q*11)).off+9,none⟩)
 | 33,[v,_,_]=>v=.pointer (some (ad.add (q*11)))
 | 34,[v,_]=>v=.pointer (some ⟨(ad.add (q*11)).block,(ad.add (q*11)).off+10,none⟩)
 | _,_=>True
def phiQ318X (gb q j n8 c8 cL nL:Nat)(rule step owner:Int)(ad a2:Addr)(P:Nat→World→Prop):Nat→List Value→World→Prop
 | 29,[v,_,_],W=>∃k,1≤k∧P k W
 | 32,[v,_,_,_],W=>∃k,2≤k∧P k W
 | 35,[v,_,_,_],W=>∃k,3≤k∧P k W
 | _,_,_=>True
def Zti (gb q j n8 c8 cL nL:Nat)(rule step owner:Int)(ad a2:Addr)(P:Nat→World→Prop)(i:Nat)(vs:List Value)(W:World):Prop:=phiQ318E gb q j n8 c8 cL nL rule step owner ad a2 P i vs∧phiQ318X gb q j n8 c8 cL nL rule step owner ad a2 P i vs W
theorem Zqy (gb q j n8 c8 cL nL:Nat)(rule step owner:Int)(ad a2:Addr)(P:Nat→World→Prop):∀i vs w w',Zti gb q j n8 c8 cL nL rule step owner ad a2 P i vs w→Evo P w w'→Zti gb q j n8 c8 cL nL rule step owner ad a2 P i vs w':=by
 intro i vs w w' h0 hb;refine⟨h0.1,?_⟩;have h:=h0.2;clear h0;unfold phiQ318X at h ⊢
 split at h
 case h_1=>
  obtain⟨k1,h1,h2⟩:=h;obtain⟨k2,h3,h4⟩:=hb k1 h2;exact⟨k2,Nat.le_trans h1 h3,h4⟩
 case h_2=>
  obtain⟨k1,h1,h2⟩:=h;obtain⟨k2,h3,h4⟩:=hb k1 h2;exact⟨k2,Nat.le_trans h1 h3,h4⟩
 case h_3=>
  obtain⟨k1,h1,h2⟩:=h;obtain⟨k2,h3,h4⟩:=hb k1 h2;exact⟨k2,Nat.le_trans h1 h3,h4⟩
 all_goals exact h
set_option maxHeartbeats 8000000 in
theorem Znq (n:Nat)(hw:NdC n)(hwg:Znd n):WhC n:=by
 intro w0 W gb h0 h1 vs v s its p vp rule step owner h hr hg hkb hok hpk hlen hp howner;have hp0:=hp;obtain⟨A1,c1,A2,c2,A3,c3,rfl,_⟩:=hp;have HV:=Zaa.mk h;obtain⟨A,c,rfl,lc⟩:=h.row.slice_;have hln:=hr.len;have hnew:∀x,(s.pl.length,x) ∉ s.sh:=fun x hx=>by have:=(hg.shs _ _ hx).1;omega
 have hal:(s.add (Zbc s.pl.length)).pl.length=s.pl.length+1:=by simp[St.add]
 have hgood:Good (s.add (Zbc s.pl.length)):=hg.add _ rfl (fun k hk=>by injection hk with hk;omega) (fun k hk=>by cases hk);have hkb1:KB (s.add (Zbc s.pl.length)):=hkb.add (x:=Zbc s.pl.length) (fun _=>rfl);have hpend:Pend s.pl.length (s.add (Zbc s.pl.length)):=⟨by rw[hal];omega,hnew⟩
 have hrel1:=hr.add (beginT_ok hnew rule step owner);have hwq:=hwg s.pl.length p _ hgood hpend.1;have hown:=Zfc n s.pl.length p _ hpend;have hpend2:=hpend.walk n s.pl.length p;have hshk:=shape_k (n:=n) (p:=p) hg hkb;have hst:=Zfr n s.pl.length p (s.add (Zbc s.pl.length));have hfr:=hst.old s.pl.length (by rw[hal];omega);have hbg:(s.add (Zbc s.pl.length)).pl.getD s.pl.length zPl=Zbc s.pl.length:=by
  show (s.pl++[Zbc s.pl.length]).getD s.pl.length zPl=_;rw[Zcg,if_pos rfl]
 rw[hbg]at hfr;have hc:=fun W v hv=>hw w0 W gb h0 h1 vs v (s.add (Zbc s.pl.length)) (its++[Zsi rule step owner]) s.pl.length p _ hv hrel1 hgood hkb1 hpend hok hpk (by rw[hal];omega) hp0
 have hpatW:Zgn (Zau n) p rule step s=(Zau n s.pl.length p (s.add (Zbc s.pl.length))).2.close s.pl.length (Zau n s.pl.length p (s.add (Zbc s.pl.length))).1 rule step:=rfl;rw[hpatW];rw[hal]at hown;rw[hal]at hwq;generalize (Zau n s.pl.length p (s.add (Zbc s.pl.length))).1=x at *;generalize (Zau n s.pl.length p (s.add (Zbc s.pl.length))).2=s2 at *;obtain⟨hg2,hl2,hr1,hr2⟩:=hwq;rw[←hln]at hown hpend2 hshk hfr howner ⊢;have HG2:=Zaa.mk hg2;have HRF:Zaa (Ris s2.pl.length x.first):=⟨by rw[hl2];exact hr1⟩
 have HRL:Zaa (Ris s2.pl.length x.last):=⟨by rw[hl2];exact hr2⟩
 have HOW:=Zaa.mk hown;have HPE:=Zaa.mk hpend2;have HSK:=Zaa.mk hshk;have HFK:=Zaa.mk hfr;have HOE:=Zaa.mk howner;have HC:=Zaa.mk hc;have HL2:Zaa (s2.pl.length≤90000∧its.length<s2.pl.length):=⟨by omega⟩
 clear hln h hr hg hkb hok hpk hlen hp0 hnew hal hgood hkb1 hpend hrel1 hown hpend2 hshk hst hfr hbg hc hpatW hg2 hl2 hr1 hr2 howner hw hwg
 go_enter Tryz.func34,Tryz.ntmps34
 go_upto_region 1 with (fail)
 have hbx:=Zae (Below.refl _ W) (.cells #[.int .i64 p.f0,.slice A1 p.f1.length c1,.slice A2 p.f2.length c2,.slice A3 p.f3.length c3] 76);have HBP:=Zaa.mk (Zaq W (.cells #[.int .i64 p.f0,.slice A1 p.f1.length c1,.slice A2 p.f2.length c2,.slice A3 p.f3.length c3] 76));have HVX:=Zaa.mk (HV.out.below hbx);have HKX:=Zaa.mk (KeptV.of_below hbx gb (.slice A its.length c));clear hbx;generalize W.alloc (.cells #[.int .i64 p.f0,.slice A1 p.f1.length c1,.slice A2 p.f2.length c2,.slice A3 p.f3.length c3] 76)=X at *;generalize W.heap.size=bp at HBP ⊢;have y2:=HVX.out.cell2;have y2a:∀o,(X.alloc o).cell? ⟨gb,2,none⟩=some (.slice A its.length c):=fun o=>(Zac (Zan HVX.out.blk o) 2).trans rfl
 go_upto_region 3 with ((with_reducible refine Zas (b:=.append) (xs:=#[.tmp 26,.tmp 31]) rfl ?_);at_builtin;refine Zos rfl (.tmp 26) (.tmp 31) rfl HVX.out (Zsi rule step owner) _ (Zsh w0 X rule step owner) _ rfl rfl rfl (by have:=HL2.out;omega) ?_;intro v7 w7 ho7 hb7 hg7 hat7;obtain⟨A7,c7,hv7,_⟩:=ho7.slice_;rw[List.length_append,List.length_singleton]at hv7;subst hv7;have ⟨hf7,hc7⟩:=HVX.out.grown2 hg7;have HPUT:=Zaa.mk (HVX.out.put ho7 hb7 hg7);have HA7:=Zaa.mk hat7;clear ho7 hb7 hg7 hat7)
 have HN7:Zaa (NewOr W (.slice A its.length c) (.slice A7 (its.length+1) c7)):=⟨HA7.out.elim .inl (fun⟨g,h1,h2⟩=>.inr ⟨g,h1,Nat.le_trans HKX.out.1 h2⟩)⟩
 have HV7:=Zaa.mk HPUT.out.1;have HXY:=Zaa.mk HPUT.out.2;clear HPUT hf7 hc7 y2 y2a HA7;generalize w7.setCell ⟨gb,2,none⟩ (.slice A7 (its.length+1) c7)=Y at *;have HBP:=Zaa.mk (HVX.out.keep HXY.out HBP.out (by decide) (by decide));have p0:=(Zac HBP.out 0).trans rfl;have p1:=(Zac HBP.out 1).trans rfl;have p2:=(Zac HBP.out 2).trans rfl;have p3:=(Zac HBP.out 3).trans rfl
 go_upto_region 4 with (go_at_call 65;(with_reducible refine (HC.out _ _ HV7.out).mono ?_);rintro e w8 ⟨x1,x2,v8,its8,rfl,hr1,hr2,hv8,hrel8,hk8,hn8,hfo8⟩;obtain⟨B1,e1,rfl,_,_⟩:=hr1.C;obtain⟨B2,e2,rfl,_,_⟩:=hr2.C;have HR1:=Zaa.mk hr1;have HR2:=Zaa.mk hr2;have HV8:=Zaa.mk hv8;have HRL8:=Zaa.mk hrel8;have HK8:=Zaa.mk hk8;have HN8:=Zaa.mk hn8;have HFO8:=Zaa.mk hfo8;clear hr1 hr2 hv8 hrel8 hk8 hn8 hfo8)
 have hb9:=Zae (Below.refl _ w8) (.cells (Zht x.empty (.slice B1 x.first.length e1) (.slice B2 x.last.length e2)) 132);have HN9:=Zaa.mk (NewOr.trans HN7.out HN8.out (HKX.out.trans HXY.out (NewOr.refl _ _)).1);have HWE:Zaa (WE w0 W (w8.alloc (.cells (Zht x.empty (.slice B1 x.first.length e1) (.slice B2 x.last.length e2)) 132)) gb h0 h1 vs (.slice A its.length c) v8 its8 w8.heap.size x.empty (.slice B1 x.first.length e1) (.slice B2 x.last.length e2) x):=
  ⟨HV8.out.below hb9,Zaq w8 _,Zap HR1.out hb9,Zap HR2.out hb9,((HKX.out.trans HXY.out (NewOr.refl _ _)).trans (v1:=.slice A7 (its.length+1) c7) HK8.out HN7.out).trans (v1:=v8) (KeptV.of_below hb9 gb v8) HN9.out⟩
 clear hb9 HR1 HR2 HV8 HK8 HXY HKX HV7 HVX p0 p1 p2 p3;generalize w8.alloc (.cells (Zht x.empty (.slice B1 x.first.length e1) (.slice B2 x.last.length e2)) 132)=Z at *;generalize w8.heap.size=bx at *;obtain⟨A8,c8,rfl,_⟩:=HWE.out.rs.row.slice_;have HL8:=Zaa.mk HRL8.out.len;have hkl:its.length<its8.length:=by have:=HL8.out;have:=HL2.out;omega
 have HKL:=Zaa.mk hkl;obtain⟨ad,cs,rfl,hps,hcell,hfz⟩:=HWE.out.rs.at_ (A:=A8) (c:=c8) rfl its.length hkl;obtain⟨E1,g1,E2,g2,E3,g3,v4,rfl,_,_,_,_,_,_,r4⟩:=hps;obtain⟨B4,d4,rfl,_,_⟩:=r4.C;have y5:=hcell 5 _ rfl;have y6:=hcell 6 _ rfl;have y2:=HWE.out.rs.cell2;have t1:=(Zac HWE.out.box 1).trans rfl;have f5:=hfz 5;have hlt:(its.length:Int)<(its8.length:Int):=by omega
 clear hcell r4
 go_still_tail 9,(by kernel_rfl)
 go_upto_region 5 with (fail)
 have HWE:=Zaa.mk (HWE.out.set HN9.out (HWE.out.rs.setAt (A:=some ad) (c:=c8) rfl rfl its.length HKL.out 5 (by omega) (.slice B1 x.first.length e1) { its8.getD its.length z94 with f2:=x.first } (fun c hc hp=>hp.setNext HWE.out.r1)));clear y5 y6 y2 t1 f5 hfz;have HWE:=Zaa.mk (HWE.out.below HN9.out (Zam Zbr));generalize (Z.setCell ⟨(ad.add (its.length*11)).block,(ad.add (its.length*11)).off+5,none⟩ (.slice B1 x.first.length e1)).drew=Z1 at *;obtain⟨it3,hit3⟩:∃it3,it3=its8.set its.length { its8.getD its.length z94 with f2:=x.first }:=⟨_,rfl⟩
 have HL3:Zaa (it3.length=its8.length):=⟨by rw[hit3,List.length_set]⟩
 rw[←hit3]at HWE;have H3:=Zaa.mk hit3;clear hit3 hlt;obtain⟨ad',cs,e8,hps,hcell,hfz⟩:=HWE.out.rs.at_ (A:=some ad) (c:=c8) (by rw[HL3.out]) its.length (by rw[HL3.out];exact HKL.out);obtain rfl:=Option.some.inj e8;obtain⟨E1,g1,E2,g2,E3,g3,v4,rfl,_⟩:=hps;have y6:=hcell 6 _ rfl;have y2:=HWE.out.rs.cell2;have t0:=(Zac HWE.out.box 0).trans rfl;have f6:=hfz 6;have hlt:(its.length:Int)<(its8.length:Int):=by have:=HKL.out;omega
 clear hcell e8
 go_still_tail 9,(by kernel_rfl)
 go_upto_region 6 with (fail)
 have HWE:=Zaa.mk (HWE.out.set HN9.out (HWE.out.rs.setAt (A:=some ad) (c:=c8) (by rw[HL3.out]) rfl its.length (by rw[HL3.out];exact HKL.out) 6 (by omega) (.bool x.empty) { it3.getD its.length z94 with f3:=x.empty } (fun c hc hp=>hp.setEnd x.empty)));clear y6 y2 t0 f6 hfz hlt;have HWE:=Zaa.mk (HWE.out.below HN9.out (Zam Zbr));generalize (Z1.setCell ⟨(ad.add (its.length*11)).block,(ad.add (its.length*11)).off+6,none⟩ (.bool x.empty)).drew=Z2 at *;obtain⟨it4,hit4⟩:∃it4,it4=it3.set its.length { it3.getD its.length z94 with f3:=x.empty }:=⟨_,rfl⟩
 have HL4:Zaa (it4.length=its8.length):=⟨by rw[hit4,List.length_set];exact HL3.out⟩
 rw[←hit4]at HWE;have H4:=Zaa.mk hit4;clear hit4;go_wp2
 go_loopw [13] (fun i wr=>∃j:Nat,j≤x.last.length∧i=.int .i64 j∧Zaa (WE w0 W wr gb h0 h1 vs (.slice A its.length c) (.slice (some ad) its8.length c8) (Znh endT it4 x.last j) bx x.empty (.slice B1 x.first.length e1) (.slice B2 x.last.length e2) x)) (fun i _=>x.last.length-(intOf i).toNat)
 case atStart=>exact⟨0,Nat.zero_le _,rfl,⟨HWE.out.below HN9.out (by repeat (first | exact Zbr | refine Zah ?_ _ | refine Zar ?_ | refine Zam ?_))⟩⟩
 case round=>
  obtain⟨j,hj,rfl,HW⟩:=hrel;have t2:=(Zac HW.out.box 2).trans rfl;by_cases hjn:j<x.last.length
  ·obtain⟨z0,z1⟩:=HRL.out.2 _ (Zfv hjn);have hlk:(Znh endT it4 x.last j).length=its8.length:=by rw[Zee];exact HL4.out
   have hz8:rd x.last j<(its8.length:Int):=by have:=HL8.out;omega
   obtain⟨ad',cs,e8,hps,hcell,hfz⟩:=HW.out.rs.at_ (A:=some ad) (c:=c8) (by rw[hlk]) (rd x.last j).toNat (by rw[hlk];omega);obtain rfl:=Option.some.inj e8;obtain⟨E1,g1,E2,g2,E3,g3,v4,rfl,_⟩:=hps;have y6:=hcell 6 _ rfl;have y2:=HW.out.rs.cell2;have f6:=hfz 6;obtain⟨a2,e2',hq0⟩:=Kd.at_int (Zgd HW.out.r2) (j:Int) (by omega) (by omega);subst e2';rw[Int.toNat_natCast]at hq0;change wr.cell? (a2.add j)=some (.int .i64 (rd x.last j))at hq0;have HSET:=Zaa.mk (HW.out.set HN9.out (HW.out.rs.setAt (A:=some ad) (c:=c8) (by rw[hlk]) rfl (rd x.last j).toNat (by rw[hlk];omega) 6 (by omega) (.bool true) (endT ((Znh endT it4 x.last j).getD (rd x.last j).toNat z94)) (fun c hc hp=>hp.setEnd true)));have HSE:Zaa (Znh endT it4 x.last (j+1)=(Znh endT it4 x.last j).set (rd x.last j).toNat (endT ((Znh endT it4 x.last j).getD (rd x.last j).toNat z94))):=⟨rfl⟩
   rw[←HSE.out]at HSET;have HJ:=Zaa.mk hjn;have HXL:Zaa (x.last.length≤2000000):=⟨by have:=HRL.out.len;have:=HL2.out;omega⟩
   clear hcell hfz hlk HSE hj;generalize rd x.last j=z at *
   go_upto_region 9 with (fail)
   go_still_tail 11,(by kernel_rfl)
   go_wp2
   go_roundw
   case rel=>exact⟨j+1,HJ.out,by rw[Zbz j (by have:=HJ.out;have:=HXL.out;omega)],⟨HSET.out.below HN9.out (by repeat (first | exact Zbr | refine Zah ?_ _ | refine Zar ?_ | refine Zam ?_))⟩⟩
   case measure=>exact Zcc x.last.length j HJ.out HXL.out
  ·obtain rfl:j=x.last.length:=by omega
   obtain⟨it5,hit5⟩:∃it5,it5=Znh endT it4 x.last x.last.length:=⟨_,rfl⟩
   have HL5:Zaa (it5.length=its8.length):=⟨by rw[hit5,Zee];exact HL4.out⟩
   rw[←hit5]at HW;have H5:=Zaa.mk hit5;have t1:=(Zac HW.out.box 1).trans rfl;have HAD:=Zaa.mk (Zfh B1 e1 x.first B2 e2 x.last wr (Zgd HW.out.r1) (Zgd HW.out.r2) (by have:=HRF.out.len;have:=HRL.out.len;have:=HL2.out;omega) HRF.out.1);clear hit5 hj
   go_upto_region 11 with (go_at_call 43;(with_reducible refine HAD.out.mono ?_);rintro e w10 ⟨u10,rfl,hu10,hb10⟩;obtain⟨A10,c10,rfl⟩:=Kd.R_slice hu10;have HU10:=Zaa.mk (HW.out.rs.ri hu10 (Nat.le_refl _));have HW:=Zaa.mk (HW.out.below HN9.out hb10);clear hu10 hb10)
   have HSC:=Zaa.mk (Scan.start HOW.out);have HFX:Zaa (∀q:Nat,Itm its.length (its.length+1) s2 q→(it5.getD q z94).f2=(s2.pl.getD q zPl).follow):=⟨fun q hq=>by
    have hqlt:q<its8.length:=by have:=hq.lt;have:=HL8.out;omega
    have hge:=hq.ge;have h1:=(HRL8.out.at_ q hq.lt).item hq.kind;have hne:¬its.length=q:=by omega
    have e3:it3.getD q z94=its8.getD q z94:=by rw[H3.out,Zdr,if_neg (fun h=>hne h.1)]
    have e4:it4.getD q z94=it3.getD q z94:=by rw[H4.out,Zdr,if_neg (fun h=>hne h.1)]
    rw[H5.out,Zkz endT (fun t=>rfl) _ _ (fun z hz=>(HRL.out.2 z hz).1) q (by rw[HL4.out];exact hqlt) _ (Nat.le_refl _),e4,e3,←h1]
    split <;> rfl⟩
   clear t1 t2;go_wp2
   go_loopw [14,15] (fun u i wr=>∃(m:Nat) (L:List Int),i=.int .i64 m∧Zaa (Scan its.length (its.length+1) s2 x m L)∧Zaa (Ri w0 wr u L)∧Zaa (WE w0 W wr gb h0 h1 vs (.slice A its.length c) (.slice (some ad) its8.length c8) it5 bx x.empty (.slice B1 x.first.length e1) (.slice B2 x.last.length e2) x)) (fun _ i _=>200000-(intOf i).toNat)
   case atStart=>exact⟨0,_,rfl,HSC,HU10,HW⟩
   case round=>
    obtain⟨m,L,rfl,HSC,HU,HW⟩:=hrel;obtain⟨AL,cL,rfl,_,_⟩:=HU.out.C;have HLL:Zaa (L.length≤90000):=⟨by have:=HSC.out.ris'.len;have:=HL2.out;omega⟩
    by_cases hmL:m<L.length
    ·have hmem:=at_mem hmL;obtain⟨q,hqe,hq⟩:=HSC.out.itm _ hmem;have hq8:q<its8.length:=by have:=hq.lt;have:=HL8.out;omega
     obtain⟨ad',cs,e8,hps,hcell,hfz⟩:=HW.out.rs.at_ (A:=some ad) (c:=c8) (by rw[HL5.out]) q (by rw[HL5.out];exact hq8);obtain rfl:=Option.some.inj e8;obtain⟨E1,g1,E2,g2,E3,g3,v4,rfl,_,_,_,_,_,_,r4⟩:=hps;rw[HFX.out q hq]at r4;obtain⟨B4,d4,rfl,_,_⟩:=r4.C;have y5:=hcell 5 _ rfl;have y2:=HW.out.rs.cell2;obtain⟨a2,e2',hq0⟩:=Kd.at_int (Zgd HU.out) (m:Int) (by omega) (by omega);subst e2';rw[Int.toNat_natCast]at hq0;change wr.cell? (a2.add m)=some (.int .i64 (L.getD m 0))at hq0;have HNX:=Zaa.mk (HSC.out.next HOW.out hmL);rw[hqe,Int.toNat_natCast]at HNX;rw[hqe]at hq0;have HAD:=Zaa.mk (fun W2 (hb:Below wr.heap.size wr W2)=>Zfh (some a2) cL L B4 d4 (s2.pl.getD q zPl).follow W2 (Zgd (Zap HU.out hb)) (Zgd (Zap r4 hb)) (by have:=HLL.out;have:=(HG2.out.ris q).len;have:=HL2.out;omega) HSC.out.ris);have HM:=Zaa.mk hmL;have hq9:(q:Int)<(its8.length:Int):=by omega
     clear hcell hfz hmem hqe hq hq8;have HNL:Zaa ((L.length:Int)=L.length):=⟨rfl⟩
     obtain⟨lf,hlf⟩:∃lf,lf=(s2.pl.getD q zPl).follow.length:=⟨_,rfl⟩
     rw[←hlf]at y5 HAD;have HHQ:=Zaa.mk (And.intro hq0 (And.intro y2 y5));have HMq:=Zaa.mk (And.intro hmL hq9);clear hlf y5 y2 hq0 hq9
     go_upto_region 14 with (fail)
     refine Zcr 13 _ Zdh (phiQ34 w0 gb q m its8.length c8 cL lf d4 L.length ad a2 B4 (Zay L (s2.pl.getD q zPl).follow)) Zca (by kernel_rfl) (by kernel_rfl) (by kernel_rfl) rfl Zbk Zbf (Zth _ _ _ _ _ _ _ _ _ _ _ _ _ _) ?step ?fin
     case step=>
      repeat (rename_i z;clear z)
      refine⟨?_,?_,?_,?_,?_,?_,?_,?_,?_,?_,?_,?_,?_,trivial⟩ <;> intro vals W hR0 hd <;> have hR:=Zaf (Zam (Below.refl _ wr)) hR0
      ·refine Zal rfl (Zad (W':=W) ?_ ⟨Zbr,rfl,trivial⟩);clear hd;simp only[Zao,Zdh,Zai];go_simp
      ·refine Zal rfl (Zad (W':=W) ?_ ⟨Zbr,rfl,trivial⟩);clear hd;simp only[Zao,Zdh,Zai];go_simp
      ·have h1:vals 1=.pointer (some ⟨gb,0,none⟩):=(hd 1 (by simp[Zdh])).1;refine Zal rfl (Zad (W':=W) ?_ ⟨Zbr,rfl,trivial⟩);clear hd;simp only[Zao,Zdh,Zai,h1];go_simp
      ·have h2:vals 2=.pointer (some ⟨gb,0,none⟩):=(hd 2 (by simp[Zdh])).1;refine Zal rfl (Zad (W':=W) ?_ ⟨Zbr,rfl,trivial⟩);clear hd;simp only[Zao,Zdh,Zai,h2];go_simp
      ·have h3:vals 3=.pointer (some ⟨gb,2,none⟩):=(hd 3 (by simp[Zdh])).1;have hc:W.cell? ⟨gb,2,none⟩=some (.slice (some ad) its8.length c8):=Zab hR HHQ.out.2.1;refine Zal rfl (Zad (W':=W) ?_ ⟨Zbr,rfl,trivial⟩);clear hd;simp only[Zao,Zdh,Zai,h3];go_simp
      ·refine Zal rfl (Zad (W':=W) ?_ ⟨Zbr,rfl,trivial⟩);clear hd;simp only[Zao,Zdh,Zai];go_simp
      ·refine Zal rfl (Zad (W':=W) ?_ ⟨Zbr,rfl,trivial⟩);clear hd;simp only[Zao,Zdh,Zai];go_simp
      ·have h5:vals 5=.slice (some a2) L.length cL:=(hd 5 (by simp[Zdh])).1;have h6:vals 6=.int .i64 m:=(hd 6 (by simp[Zdh])).1;have hc:=HMq.out.1;refine Zal rfl (Zad (W':=W) ?_ ⟨Zbr,rfl,trivial⟩);clear hd;simp only[Zao,Zdh,Zai,h5,h6];go_simp
      ·have h7:vals 7=.pointer (some (a2.add m)):=(hd 7 (by simp[Zdh])).1;have hc:W.cell? (a2.add m)=some (.int .i64 q):=Zab hR HHQ.out.1;refine Zal rfl (Zad (W':=W) ?_ ⟨Zbr,rfl,trivial⟩);clear hd;simp only[Zao,Zdh,Zai,h7];go_simp
      ·have h4:vals 4=.slice (some ad) its8.length c8:=(hd 4 (by simp[Zdh])).1;have h8:vals 8=.int .i64 q:=(hd 8 (by simp[Zdh])).1;have hc:=HMq.out.2;refine Zal rfl (Zad (W':=W) ?_ ⟨Zbr,rfl,trivial⟩);clear hd;simp only[Zao,Zdh,Zai,h4,h8];go_simp
      ·have h9:vals 9=.pointer (some (ad.add (q*11))):=(hd 9 (by simp[Zdh])).1;refine Zal rfl (Zad (W':=W) ?_ ⟨Zbr,rfl,trivial⟩);clear hd;simp only[Zao,Zdh,Zai,h9];go_simp
      ·have h10:vals 10=.pointer (some ⟨(ad.add (q*11)).block,(ad.add (q*11)).off+5,none⟩):=(hd 10 (by simp[Zdh])).1;have hc:W.cell? ⟨(ad.add (q*11)).block,(ad.add (q*11)).off+5,none⟩=some (.slice B4 lf d4):=Zab hR HHQ.out.2.2;refine Zal rfl (Zad (W':=W) ?_ ⟨Zbr,rfl,trivial⟩);clear hd;simp only[Zao,Zdh,Zai,h10];go_simp
      ·have h0:vals 0=.slice (some a2) L.length cL:=(hd 0 (by simp[Zdh])).1;have h11:vals 11=.slice B4 lf d4:=(hd 11 (by simp[Zdh])).1;clear hd;refine Zal rfl (Zbi (W':=W) (f:=43) (args:=#[.slice (some a2) L.length cL,.slice B4 lf d4]) ?_ ((HAD.out W hR).mono ?_))
       ·simp only[Zao,Zdh,Zai,h0,h11];go_simp
       ·rintro e w1 ⟨u,rfl,hu,hb⟩;obtain⟨Au,cu,rfl⟩:=Kd.R_slice hu;exact⟨_,rfl,hb,trivial,⟨Au,cu,rfl⟩,HW.out.rs.ri hu hR.size⟩
     case fin=>
      intro vals W hR0 hF;have hR:=Zaf (Zam (Below.refl _ wr)) hR0;have f0:vals 0=.slice (some a2) L.length cL:=(hF 0 (by decide)).1;have f1:vals 1=.pointer (some ⟨gb,0,none⟩):=(hF 1 (by decide)).1;have f2:vals 2=.pointer (some ⟨gb,0,none⟩):=(hF 2 (by decide)).1;have f3:vals 3=.pointer (some ⟨gb,2,none⟩):=(hF 3 (by decide)).1;have f4:vals 4=.slice (some ad) its8.length c8:=(hF 4 (by decide)).1;have f5:vals 5=.slice (some a2) L.length cL:=(hF 5 (by decide)).1;have f6:vals 6=.int .i64 m:=(hF 6 (by decide)).1;have f7:vals 7=.pointer (some (a2.add m)):=(hF 7 (by decide)).1;have f8:vals 8=.int .i64 q:=(hF 8 (by decide)).1;have f9:vals 9=.pointer (some (ad.add (q*11))):=(hF 9 (by decide)).1;have f10:vals 10=.pointer (some ⟨(ad.add (q*11)).block,(ad.add (q*11)).off+5,none⟩):=(hF 10 (by decide)).1;have f11:vals 11=.slice B4 lf d4:=(hF 11 (by decide)).1;have f12:(∃A c,(vals 12)=.slice A (Zay L (s2.pl.getD q zPl).follow).length c)∧Ri w0 W (vals 12) (Zay L (s2.pl.getD q zPl).follow):=(hF 12 (by decide)).2;clear hF hR0;rw[show List.range 13=[0,1,2,3,4,5,6,7,8,9,10,11,12]from rfl];simp only[Zao,Zai,Act.put,List.getElem?_toArray,List.getElem?_cons_zero,List.getElem?_cons_succ,Option.bind_some,List.setIfInBounds_toArray,List.set_cons_zero,List.set_cons_succ,List.drop_succ_cons,List.drop_zero,f0,f1,f2,f3,f4,f5,f6,f7,f8,f9,f10,f11];obtain⟨⟨Au,cu,f12⟩,r12⟩:=f12;rw[f12]at r12;simp only[f12];have HR12:=Zaa.mk r12;clear f0 f1 f2 f3 f4 f5 f6 f7 f8 f9 f10 f11 f12 r12;have HWE9:=Zaa.mk (HW.out.below HN9.out hR);clear hR;go_wp2
      go_roundw
      case rel=>exact⟨m+1,_,by rw[Zbz m (by have:=HM.out;have:=HLL.out;omega)],HNX,HR12,HWE9⟩
      case measure=>exact Zcc 200000 m (by have:=HM.out;have:=HLL.out;omega) (by omega)
    ·have hme:m=L.length:=by have:=HSC.out.le;omega
     subst hme;have HALL:=Zaa.mk (HSC.out.all HOW.out);have HRI:=Zaa.mk HSC.out.ris';go_wp2
     go_loopw [16] (fun i wr=>∃j:Nat,j≤L.length∧i=.int .i64 j∧Zaa (Ri w0 wr (.slice AL L.length cL) L)∧Zaa (WE w0 W wr gb h0 h1 vs (.slice A its.length c) (.slice (some ad) its8.length c8) (Znh (Zir rule step owner) it5 L j) bx x.empty (.slice B1 x.first.length e1) (.slice B2 x.last.length e2) x)) (fun i _=>L.length-(intOf i).toNat)
     case atStart=>exact⟨0,Nat.zero_le _,rfl,HU,HW⟩
     case round=>
      obtain⟨j,hj,rfl,HU,HW⟩:=hrel;by_cases hjL:j<L.length
      ·have hz:=HRI.out.2 _ (Zfv hjL);obtain⟨q,hq⟩:∃q:Nat,rd L j=(q:Int):=⟨(rd L j).toNat,by omega⟩
       have hq8:q<its8.length:=by have:=HL8.out;omega
       obtain⟨it6,hit6⟩:∃it6,it6=Znh (Zir rule step owner) it5 L j:=⟨_,rfl⟩
       have HL6:Zaa (it6.length=its8.length):=⟨by rw[hit6,Zee];exact HL5.out⟩
       have HNX:Zaa (Znh (Zir rule step owner) it5 L (j+1)=it6.set q (Zir rule step owner (it6.getD q z94))):=⟨by rw[hit6];show (Znh _ _ _ j).set (rd L j).toNat _=_;rw[hq,Int.toNat_natCast]⟩
       rw[←hit6]at HW;obtain⟨a2,e2',hq0⟩:=Kd.at_int (Zgd HU.out) (j:Int) (by omega) (by omega);subst e2';have HLV:Zaa (LV w0 W gb h0 h1 vs (.slice A its.length c) (.slice (some ad) its8.length c8) it6 q rule step owner bx x.empty (.slice B1 x.first.length e1) (.slice B2 x.last.length e2) x (.slice (some a2) L.length cL) L 0 wr):=⟨⟨HW.out,HU.out⟩⟩
       have HJQ:Zaa (∀Z':World,Ri w0 Z' (.slice (some a2) L.length cL) L→Z'.cell? (a2.add j)=some (.int .i64 (q:Int))):=⟨fun Z' hr=>by
        obtain⟨a2',e2',hq0'⟩:=Kd.at_int (Zgd hr) (j:Int) (by omega) (by omega);obtain rfl:=Option.some.inj e2';rw[Int.toNat_natCast]at hq0';change Z'.cell? (a2.add j)=some (.int .i64 (rd L j))at hq0';rw[hq]at hq0';exact hq0'⟩
       have HJ:=Zaa.mk hjL;have HQ8:Zaa (q<its8.length∧(q:Int)<(its8.length:Int)):=⟨hq8,by omega⟩
       clear hz hq hq8 hit6 hq0 HU HW hj;obtain⟨LP,hLP⟩:∃LP,LP=LV w0 W gb h0 h1 vs (.slice A its.length c) (.slice (some ad) its8.length c8) it6 q rule step owner bx x.empty (.slice B1 x.first.length e1) (.slice B2 x.last.length e2) x (.slice (some a2) L.length cL) L:=⟨_,rfl⟩
       have HY2:Zaa (∀k Z',LP k Z'→Z'.cell? ⟨gb,2,none⟩=some (.slice (some ad) its8.length c8)):=⟨fun k Z' h=>by rw[hLP]at h;exact h.we.rs.cell2⟩
       have HQ0:Zaa (∀k Z',LP k Z'→Z'.cell? (a2.add j)=some (.int .i64 (q:Int))):=⟨fun k Z' h=>by rw[hLP]at h;exact HJQ.out Z' h.ri⟩
       have HAT:Zaa (∀f,(f=8∨f=9∨f=10)→∀k Z',LP k Z'→(∃z,Z'.cell? ⟨(ad.add (q*11)).block,(ad.add (q*11)).off+f,none⟩=some (.int .i64 z))∧Z'.frozen? ⟨(ad.add (q*11)).block,(ad.add (q*11)).off+f,none⟩=false):=⟨fun f hf k Z' h=>by rw[hLP]at h;exact h.at_ HL6.out.symm (by rw[HL6.out];exact HQ8.out.1) f hf⟩
       have HP1:Zaa (∀k Z',LP k Z'→LP (max k 1) (Z'.setCell ⟨(ad.add (q*11)).block,(ad.add (q*11)).off+8,none⟩ (.int .i64 rule))):=⟨fun k Z' h=>by rw[hLP]at h ⊢;exact h.put HN9.out HL6.out.symm (by rw[HL6.out];exact HQ8.out.1) (by omega) (fun c hc hp=>hp.setRule rule) (itL_1 it6 q rule step owner (by rw[HL6.out];exact HQ8.out.1) k)⟩
       have HP2:Zaa (∀k Z',1≤k→LP k Z'→LP (max k 2) (Z'.setCell ⟨(ad.add (q*11)).block,(ad.add (q*11)).off+9,none⟩ (.int .i64 step))):=⟨fun k Z' hk h=>by rw[hLP]at h ⊢;exact h.put HN9.out HL6.out.symm (by rw[HL6.out];exact HQ8.out.1) (by omega) (fun c hc hp=>hp.setStep step) (itL_2 it6 q rule step owner (by rw[HL6.out];exact HQ8.out.1) k hk)⟩
       have HP3:Zaa (∀k Z',2≤k→LP k Z'→LP (max k 3) (Z'.setCell ⟨(ad.add (q*11)).block,(ad.add (q*11)).off+10,none⟩ (.int .i64 owner))):=⟨fun k Z' hk h=>by rw[hLP]at h ⊢;exact h.put HN9.out HL6.out.symm (by rw[HL6.out];exact HQ8.out.1) (by omega) (fun c hc hp=>hp.setOwner owner) (itL_3 it6 q rule step owner (by rw[HL6.out];exact HQ8.out.1) k hk)⟩
       have HL0:Zaa (LP 0 wr.drew):=⟨by rw[hLP];exact HLV.out.drew HN9.out⟩
       have HEND:Zaa (∀k Z',3≤k→LP k Z'→Ri w0 Z' (.slice (some a2) L.length cL) L∧WE w0 W Z' gb h0 h1 vs (.slice A its.length c) (.slice (some ad) its8.length c8) (Znh (Zir rule step owner) it5 L (j+1)) bx x.empty (.slice B1 x.first.length e1) (.slice B2 x.last.length e2) x):=⟨fun k Z' hk h=>by
        rw[hLP]at h;refine⟨h.ri,?_⟩;have h1:=h.we;rw[itL_end _ _ _ _ _ k hk,←HNX.out]at h1;exact h1⟩
       clear hLP
       go_upto_region 18 with (fail)
       refine Zcr 36 _ Zav (Zti gb q j its8.length c8 cL L.length rule step owner ad a2 LP) (Evo LP) (by kernel_rfl) (by kernel_rfl) (by kernel_rfl) rfl (Zbn LP) (evo_trans LP) (Zqy _ _ _ _ _ _ _ _ _ _ _ _ _) ?step ?fin
       case step=>
        repeat (rename_i z;clear z)
        refine⟨?_,?_,?_,?_,?_,?_,?_,?_,?_,?_,?_,?_,?_,?_,?_,?_,?_,?_,?_,?_,?_,?_,?_,?_,?_,?_,?_,?_,?_,?_,?_,?_,?_,?_,?_,?_,trivial⟩ <;> intro vals W hR0 hd
        ·refine Zal rfl (Zad (W':=W) ?_ ⟨Zbn LP _,rfl,trivial⟩);clear hd;simp only[Zao,Zav,Zai];go_simp
        ·have h0:vals 0=.pointer (some ⟨gb,0,none⟩):=(hd 0 (by simp[Zav])).1;refine Zal rfl (Zad (W':=W) ?_ ⟨Zbn LP _,rfl,trivial⟩);clear hd;simp only[Zao,Zav,Zai,h0];go_simp
        ·have h1:vals 1=.pointer (some ⟨gb,0,none⟩):=(hd 1 (by simp[Zav])).1;refine Zal rfl (Zad (W':=W) ?_ ⟨Zbn LP _,rfl,trivial⟩);clear hd;simp only[Zao,Zav,Zai,h1];go_simp
        ·have h2:vals 2=.pointer (some ⟨gb,2,none⟩):=(hd 2 (by simp[Zav])).1;obtain⟨kk,_,hlv⟩:=hR0 0 HL0.out;have hc:=HY2.out kk W hlv;refine Zal rfl (Zad (W':=W) ?_ ⟨Zbn LP _,rfl,trivial⟩);clear hd;simp only[Zao,Zav,Zai,h2];go_simp
        ·refine Zal rfl (Zad (W':=W) ?_ ⟨Zbn LP _,rfl,trivial⟩);clear hd;simp only[Zao,Zav,Zai];go_simp
        ·refine Zal rfl (Zad (W':=W) ?_ ⟨Zbn LP _,rfl,trivial⟩);clear hd;simp only[Zao,Zav,Zai];go_simp
        ·have h4:vals 4=.slice (some a2) L.length cL:=(hd 4 (by simp[Zav])).1;have h5:vals 5=.int .i64 j:=(hd 5 (by simp[Zav])).1;have hc:=HJ.out;refine Zal rfl (Zad (W':=W) ?_ ⟨Zbn LP _,rfl,trivial⟩);clear hd;simp only[Zao,Zav,Zai,h4,h5];go_simp
        ·have h6:vals 6=.pointer (some (a2.add j)):=(hd 6 (by simp[Zav])).1;obtain⟨kk,_,hlv⟩:=hR0 0 HL0.out;have hc:=HQ0.out kk W hlv;refine Zal rfl (Zad (W':=W) ?_ ⟨Zbn LP _,rfl,trivial⟩);clear hd;simp only[Zao,Zav,Zai,h6];go_simp
        ·refine Zal rfl (Zad (W':=W) ?_ ⟨Zbn LP _,rfl,trivial⟩);clear hd;simp only[Zao,Zav,Zai];go_simp
        ·have h8:vals 8=.pointer (some ⟨gb,0,none⟩):=(hd 8 (by simp[Zav])).1;refine Zal rfl (Zad (W':=W) ?_ ⟨Zbn LP _,rfl,trivial⟩);clear hd;simp only[Zao,Zav,Zai,h8];go_simp
        ·have h9:vals 9=.pointer (some ⟨gb,0,none⟩):=(hd 9 (by simp[Zav])).1;refine Zal rfl (Zad (W':=W) ?_ ⟨Zbn LP _,rfl,trivial⟩);clear hd;simp only[Zao,Zav,Zai,h9];go_simp
        ·have h10:vals 10=.pointer (some ⟨gb,2,none⟩):=(hd 10 (by simp[Zav])).1;obtain⟨kk,_,hlv⟩:=hR0 0 HL0.out;have hc:=HY2.out kk W hlv;refine Zal rfl (Zad (W':=W) ?_ ⟨Zbn LP _,rfl,trivial⟩);clear hd;simp only[Zao,Zav,Zai,h10];go_simp
        ·refine Zal rfl (Zad (W':=W) ?_ ⟨Zbn LP _,rfl,trivial⟩);clear hd;simp only[Zao,Zav,Zai];go_simp
        ·refine Zal rfl (Zad (W':=W) ?_ ⟨Zbn LP _,rfl,trivial⟩);clear hd;simp only[Zao,Zav,Zai];go_simp
        ·have h12:vals 12=.slice (some a2) L.length cL:=(hd 12 (by simp[Zav])).1;have h13:vals 13=.int .i64 j:=(hd 13 (by simp[Zav])).1;have hc:=HJ.out;refine Zal rfl (Zad (W':=W) ?_ ⟨Zbn LP _,rfl,trivial⟩);clear hd;simp only[Zao,Zav,Zai,h12,h13];go_simp
        ·have h14:vals 14=.pointer (some (a2.add j)):=(hd 14 (by simp[Zav])).1;obtain⟨kk,_,hlv⟩:=hR0 0 HL0.out;have hc:=HQ0.out kk W hlv;refine Zal rfl (Zad (W':=W) ?_ ⟨Zbn LP _,rfl,trivial⟩);clear hd;simp only[Zao,Zav,Zai,h14];go_simp
        ·refine Zal rfl (Zad (W':=W) ?_ ⟨Zbn LP _,rfl,trivial⟩);clear hd;simp only[Zao,Zav,Zai];go_simp
        ·have h16:vals 16=.pointer (some ⟨gb,0,none⟩):=(hd 16 (by simp[Zav])).1;refine Zal rfl (Zad (W':=W) ?_ ⟨Zbn LP _,rfl,trivial⟩);clear hd;simp only[Zao,Zav,Zai,h16];go_simp
        ·have h17:vals 17=.pointer (some ⟨gb,0,none⟩):=(hd 17 (by simp[Zav])).1;refine Zal rfl (Zad (W':=W) ?_ ⟨Zbn LP _,rfl,trivial⟩);clear hd;simp only[Zao,Zav,Zai,h17];go_simp
        ·have h18:vals 18=.pointer (some ⟨gb,2,none⟩):=(hd 18 (by simp[Zav])).1;obtain⟨kk,_,hlv⟩:=hR0 0 HL0.out;have hc:=HY2.out kk W hlv;refine Zal rfl (Zad (W':=W) ?_ ⟨Zbn LP _,rfl,trivial⟩);clear hd;simp only[Zao,Zav,Zai,h18];go_simp
        ·refine Zal rfl (Zad (W':=W) ?_ ⟨Zbn LP _,rfl,trivial⟩);clear hd;simp only[Zao,Zav,Zai];go_simp
        ·refine Zal rfl (Zad (W':=W) ?_ ⟨Zbn LP _,rfl,trivial⟩);clear hd;simp only[Zao,Zav,Zai];go_simp
        ·have h20:vals 20=.slice (some a2) L.length cL:=(hd 20 (by simp[Zav])).1;have h21:vals 21=.int .i64 j:=(hd 21 (by simp[Zav])).1;have hc:=HJ.out;refine Zal rfl (Zad (W':=W) ?_ ⟨Zbn LP _,rfl,trivial⟩);clear hd;simp only[Zao,Zav,Zai,h20,h21];go_simp
        ·have h22:vals 22=.pointer (some (a2.add j)):=(hd 22 (by simp[Zav])).1;obtain⟨kk,_,hlv⟩:=hR0 0 HL0.out;have hc:=HQ0.out kk W hlv;refine Zal rfl (Zad (W':=W) ?_ ⟨Zbn LP _,rfl,trivial⟩);clear hd;simp only[Zao,Zav,Zai,h22];go_simp
        ·refine Zal rfl (Zad (W':=W) ?_ ⟨Zbn LP _,rfl,trivial⟩);clear hd;simp only[Zao,Zav,Zai];go_simp
        ·refine Zal rfl (Zad (W':=W) ?_ ⟨Zbn LP _,rfl,trivial⟩);clear hd;simp only[Zao,Zav,Zai];go_simp
        ·refine Zal rfl (Zad (W':=W) ?_ ⟨Zbn LP _,rfl,trivial⟩);clear hd;simp only[Zao,Zav,Zai];go_simp
        ·have h3:vals 3=.slice (some ad) its8.length c8:=(hd 3 (by simp[Zav])).1;have h7:vals 7=.int .i64 q:=(hd 7 (by simp[Zav])).1;have hc:=HQ8.out.2;refine Zal rfl (Zad (W':=W) ?_ ⟨Zbn LP _,rfl,trivial⟩);clear hd;simp only[Zao,Zav,Zai,h3,h7];go_simp
        ·have h27:vals 27=.pointer (some (ad.add (q*11))):=(hd 27 (by simp[Zav])).1;refine Zal rfl (Zad (W':=W) ?_ ⟨Zbn LP _,rfl,trivial⟩);clear hd;simp only[Zao,Zav,Zai,h27];go_simp
        ·have h24:vals 24=.int .i64 rule:=(hd 24 (by simp[Zav])).1;have h28:vals 28=.pointer (some ⟨(ad.add (q*11)).block,(ad.add (q*11)).off+8,none⟩):=(hd 28 (by simp[Zav])).1;obtain⟨kk,_,hlv⟩:=hR0 0 HL0.out;obtain⟨⟨z,hold⟩,hfz⟩:=HAT.out 8 (by omega) kk W hlv;refine Zal rfl (Zjq (W':=W.setCell ⟨(ad.add (q*11)).block,(ad.add (q*11)).off+8,none⟩ (.int .i64 rule)) ?_ ⟨(fun k hk=>⟨max k 1,by omega,HP1.out k W hk⟩),trivial,max kk 1,by omega,HP1.out kk W hlv⟩);clear hd hlv;simp only[Zao,Zav,Zai,h24,h28];go_simp
        ·have h11:vals 11=.slice (some ad) its8.length c8:=(hd 11 (by simp[Zav])).1;have h15:vals 15=.int .i64 q:=(hd 15 (by simp[Zav])).1;have hc:=HQ8.out.2;refine Zal rfl (Zad (W':=W) ?_ ⟨Zbn LP _,rfl,trivial⟩);clear hd;simp only[Zao,Zav,Zai,h11,h15];go_simp
        ·have h30:vals 30=.pointer (some (ad.add (q*11))):=(hd 30 (by simp[Zav])).1;refine Zal rfl (Zad (W':=W) ?_ ⟨Zbn LP _,rfl,trivial⟩);clear hd;simp only[Zao,Zav,Zai,h30];go_simp
        ·have h25:vals 25=.int .i64 step:=(hd 25 (by simp[Zav])).1;have h29:∃k,1≤k∧LP k W:=(hd 29 (by simp[Zav])).2;have h31:vals 31=.pointer (some ⟨(ad.add (q*11)).block,(ad.add (q*11)).off+9,none⟩):=(hd 31 (by simp[Zav])).1;obtain⟨kk,hkk,hlv⟩:=h29;obtain⟨⟨z,hold⟩,hfz⟩:=HAT.out 9 (by omega) kk W hlv;refine Zal rfl (Zjq (W':=W.setCell ⟨(ad.add (q*11)).block,(ad.add (q*11)).off+9,none⟩ (.int .i64 step)) ?_ ⟨(fun k hk=>if hh:1≤k then ⟨max k 2,by omega,HP2.out k W hh hk⟩else ⟨max kk 2,by omega,HP2.out kk W hkk hlv⟩),trivial,max kk 2,by omega,HP2.out kk W hkk hlv⟩);clear hd hlv;simp only[Zao,Zav,Zai,h25,h31];go_simp
        ·have h19:vals 19=.slice (some ad) its8.length c8:=(hd 19 (by simp[Zav])).1;have h23:vals 23=.int .i64 q:=(hd 23 (by simp[Zav])).1;have hc:=HQ8.out.2;refine Zal rfl (Zad (W':=W) ?_ ⟨Zbn LP _,rfl,trivial⟩);clear hd;simp only[Zao,Zav,Zai,h19,h23];go_simp
        ·have h33:vals 33=.pointer (some (ad.add (q*11))):=(hd 33 (by simp[Zav])).1;refine Zal rfl (Zad (W':=W) ?_ ⟨Zbn LP _,rfl,trivial⟩);clear hd;simp only[Zao,Zav,Zai,h33];go_simp
        ·have h26:vals 26=.int .i64 owner:=(hd 26 (by simp[Zav])).1;have h32:∃k,2≤k∧LP k W:=(hd 32 (by simp[Zav])).2;have h34:vals 34=.pointer (some ⟨(ad.add (q*11)).block,(ad.add (q*11)).off+10,none⟩):=(hd 34 (by simp[Zav])).1;obtain⟨kk,hkk,hlv⟩:=h32;obtain⟨⟨z,hold⟩,hfz⟩:=HAT.out 10 (by omega) kk W hlv;refine Zal rfl (Zjq (W':=W.setCell ⟨(ad.add (q*11)).block,(ad.add (q*11)).off+10,none⟩ (.int .i64 owner)) ?_ ⟨(fun k hk=>if hh:2≤k then ⟨max k 3,by omega,HP3.out k W hh hk⟩else ⟨max kk 3,by omega,HP3.out kk W hkk hlv⟩),trivial,max kk 3,by omega,HP3.out kk W hkk hlv⟩);clear hd hlv;simp only[Zao,Zav,Zai,h26,h34];go_simp
       case fin=>
        intro vals W hR0 hF;have f0:vals 0=.pointer (some ⟨gb,0,none⟩):=(hF 0 (by decide)).1;have f1:vals 1=.pointer (some ⟨gb,0,none⟩):=(hF 1 (by decide)).1;have f2:vals 2=.pointer (some ⟨gb,2,none⟩):=(hF 2 (by decide)).1;have f3:vals 3=.slice (some ad) its8.length c8:=(hF 3 (by decide)).1;have f4:vals 4=.slice (some a2) L.length cL:=(hF 4 (by decide)).1;have f5:vals 5=.int .i64 j:=(hF 5 (by decide)).1;have f6:vals 6=.pointer (some (a2.add j)):=(hF 6 (by decide)).1;have f7:vals 7=.int .i64 q:=(hF 7 (by decide)).1;have f8:vals 8=.pointer (some ⟨gb,0,none⟩):=(hF 8 (by decide)).1;have f9:vals 9=.pointer (some ⟨gb,0,none⟩):=(hF 9 (by decide)).1;have f10:vals 10=.pointer (some ⟨gb,2,none⟩):=(hF 10 (by decide)).1;have f11:vals 11=.slice (some ad) its8.length c8:=(hF 11 (by decide)).1;have f12:vals 12=.slice (some a2) L.length cL:=(hF 12 (by decide)).1;have f13:vals 13=.int .i64 j:=(hF 13 (by decide)).1;have f14:vals 14=.pointer (some (a2.add j)):=(hF 14 (by decide)).1;have f15:vals 15=.int .i64 q:=(hF 15 (by decide)).1;have f16:vals 16=.pointer (some ⟨gb,0,none⟩):=(hF 16 (by decide)).1;have f17:vals 17=.pointer (some ⟨gb,0,none⟩):=(hF 17 (by decide)).1;have f18:vals 18=.pointer (some ⟨gb,2,none⟩):=(hF 18 (by decide)).1;have f19:vals 19=.slice (some ad) its8.length c8:=(hF 19 (by decide)).1;have f20:vals 20=.slice (some a2) L.length cL:=(hF 20 (by decide)).1;have f21:vals 21=.int .i64 j:=(hF 21 (by decide)).1;have f22:vals 22=.pointer (some (a2.add j)):=(hF 22 (by decide)).1;have f23:vals 23=.int .i64 q:=(hF 23 (by decide)).1;have f24:vals 24=.int .i64 rule:=(hF 24 (by decide)).1;have f25:vals 25=.int .i64 step:=(hF 25 (by decide)).1;have f26:vals 26=.int .i64 owner:=(hF 26 (by decide)).1;have f27:vals 27=.pointer (some (ad.add (q*11))):=(hF 27 (by decide)).1;have f28:vals 28=.pointer (some ⟨(ad.add (q*11)).block,(ad.add (q*11)).off+8,none⟩):=(hF 28 (by decide)).1;have f29:∃k,1≤k∧LP k W:=(hF 29 (by decide)).2;have f30:vals 30=.pointer (some (ad.add (q*11))):=(hF 30 (by decide)).1;have f31:vals 31=.pointer (some ⟨(ad.add (q*11)).block,(ad.add (q*11)).off+9,none⟩):=(hF 31 (by decide)).1;have f32:∃k,2≤k∧LP k W:=(hF 32 (by decide)).2;have f33:vals 33=.pointer (some (ad.add (q*11))):=(hF 33 (by decide)).1;have f34:vals 34=.pointer (some ⟨(ad.add (q*11)).block,(ad.add (q*11)).off+10,none⟩):=(hF 34 (by decide)).1;have f35:∃k,3≤k∧LP k W:=(hF 35 (by decide)).2;clear hF hR0;rw[show List.range 36=[0,1,2,3,4,5,6,7,8,9,10,11,12,13,14,15,16,17,18,19,20,21,22,23,24,25,26,27,28,29,30,31,32,33,34,35]from rfl];simp only[Zao,Zai,Act.put,List.getElem?_toArray,List.getElem?_cons_zero,List.getElem?_cons_succ,Option.bind_some,List.setIfInBounds_toArray,List.set_cons_zero,List.set_cons_succ,List.drop_succ_cons,List.drop_zero,f0,f1,f2,f3,f4,f5,f6,f7,f8,f9,f10,f11,f12,f13,f14,f15,f16,f17,f18,f19,f20,f21,f22,f23,f24,f25,f26,f27,f28,f30,f31,f33,f34];obtain⟨k9,hk9,hl9⟩:=f35;clear f0 f1 f2 f3 f4 f5 f6 f7 f8 f9 f10 f11 f12 f13 f14 f15 f16 f17 f18 f19 f20 f21 f22 f23 f24 f25 f26 f27 f28 f29 f30 f31 f32 f33 f34;obtain⟨hU9,hW9⟩:=HEND.out k9 _ hk9 hl9;have HU9:=Zaa.mk hU9;have HW9:=Zaa.mk hW9;clear hU9 hW9 hl9;go_wp2
        go_roundw
        case rel=>exact⟨j+1,HJ.out,by rw[Zbz j (by have:=HJ.out;have:=HLL.out;omega)],HU9,HW9⟩
        case measure=>exact Zcc L.length j HJ.out (by have:=HLL.out;omega)
      ·obtain rfl:j=L.length:=by omega
       go_wp2
       go_ret
       refine⟨rfl,_,_,HW.out.rs,?_,HW.out.kv,HN9.out,?_⟩
       ·have hkl2:¬((its.length:Nat):Int)∈x.last:=fun h=>by
         obtain⟨r,e,hr⟩:=HOW.out.lst _ h;have:=hr.ge;omega
        refine close_rel HRL8.out HPE.out HFK.out.kind HFK.out.shape ((HFO8.out its.length (by simp)).trans (by rw[Zid,if_pos rfl])) HOW.out HALL.out HOE.out HSK.out ?_ ?_
        ·rw[Zee];exact HL5.out
        ·intro q hq;rw[H5.out,H4.out,H3.out];exact whole_get its8 its.length x L rule step owner (fun z hz=>(HRL.out.2 z hz).1) (fun z hz=>(HRI.out.2 z hz).1) q hq hkl2
       ·have h1:Fore its its8:=(Fore.add its _).trans HFO8.out (by simp);have h3:Fore its it3:=by rw[H3.out];exact h1.set _ (Nat.le_refl _) _
        have h4:Fore its it4:=by rw[H4.out];exact h3.set _ (Nat.le_refl _) _
        have h5:Fore its it5:=by
         rw[H5.out];refine Zml _ h4 _ (fun z hz=>?_) _ (Nat.le_refl _);obtain⟨r,e,hr⟩:=HOW.out.lst _ hz;have:=hr.ge;omega
        refine Zml _ h5 _ (fun z hz=>?_) _ (Nat.le_refl _);have h0:=(HRI.out.2 z hz).1;have h6:=(HALL.out z.toNat).1 (by rw[Int.toNat_of_nonneg h0];exact hz);have:=h6.ge;omega
theorem nodeC:∀n,NdC n
 | 0=>fun _ _ _ _ _ _ _ _ _ _ _ _ _ _ _ _ _ hok _ _ _=>hok.elim
 | n+1=>by
  have ih:=nodeC n;have hwg:=Zgb n;intro w0 W gb h0 h1 vs v s its b p vp h hr hg hkb hb hok hpk hlen hp;obtain⟨_,_,k3,k56,k7⟩:=hok;obtain⟨⟨q0,q1⟩,q3,q56,q7⟩:=hpk;unfold Zau;unfold Zcx at hlen;by_cases c3:p.f0=3
  ·rw[if_pos (.inr (.inr c3))];rw[if_pos c3]at hlen;have e4:decide (p.f0=4)=false:=decide_eq_false (by omega);have e1:Zde b p s=s.add (Zax b p):=by unfold Zde;rw[if_neg (by omega)]
   have hal:(s.add (Zax b p)).pl.length=s.pl.length+1:=by simp[St.add]
   rw[e4];unfold Zeh;rw[if_pos c3,e1,hal];exact node_in n (Znq n ih hwg) hwg w0 W gb h0 h1 vs v s its b p vp h hr hb (by omega) hp c3 hg hkb (k3 c3).1 (k3 c3).2 (q3 c3) (by omega)
  ·rw[if_neg c3]at hlen;by_cases c2:p.f0=2
   ·rw[if_pos (.inl c2)];rw[if_pos (.inl c2)]at hlen;have e4:decide (p.f0=4)=false:=decide_eq_false (by omega);have e1:Zeh (Zau n) b p s=s.add (Zax b p):=by unfold Zeh Zde;rw[if_neg c3,if_neg (by omega)]
    rw[e4,e1];exact node_tok w0 W gb h0 h1 vs v s its b p vp h hr hb (by omega) hp c2
   ·by_cases c4:p.f0=4
    ·rw[if_pos (.inr (.inl c4))];rw[if_pos (.inr c4)]at hlen;have e4:decide (p.f0=4)=true:=decide_eq_true c4;have e1:Zeh (Zau n) b p s=Zde b p s:=by unfold Zeh;rw[if_neg c3]
     rw[e4,e1];exact node_well w0 W gb h0 h1 vs v s its b p vp h hr hb (by omega) hp c4
    ·rw[if_neg (show ¬(p.f0=2∨p.f0=4∨p.f0=3) by omega)];rw[if_neg (show ¬(p.f0=2∨p.f0=4) by omega)]at hlen;by_cases c5:p.f0=5
     ·rw[if_pos c5];rw[if_pos (.inl c5)]at hlen;exact node_seq n ih hwg w0 W gb h0 h1 vs v s its b p vp h hr hg hkb hb hp c5 (k56 (.inl c5)).1 (k56 (.inl c5)).2.1 (k56 (.inl c5)).2.2 (q56 (.inl c5)).1 (q56 (.inl c5)).2 hlen
     ·rw[if_neg c5];by_cases c6:p.f0=6
      ·rw[if_pos c6];rw[if_pos (.inr c6)]at hlen;exact node_alt n ih hwg w0 W gb h0 h1 vs v s its b p vp h hr hg hkb hb hp c6 (k56 (.inr c6)).1 (k56 (.inr c6)).2.1 (k56 (.inr c6)).2.2 (q56 (.inr c6)).1 (q56 (.inr c6)).2 hlen
      ·rw[if_neg c6];rw[if_neg (show ¬(p.f0=5∨p.f0=6) by omega)]at hlen;by_cases c7:p.f0=7
       ·rw[if_pos c7];rw[if_pos c7]at hlen;exact node_star n ih hwg w0 W gb h0 h1 vs v s its b p vp h hr hg hkb hb hp c7 (k7 c7).1 (k7 c7).2 (q7 c7) hlen
       ·rw[if_neg c7];exact node_empty w0 W gb h0 h1 vs v s its p vp h hr hp (by omega)
theorem wholeC (n:Nat):WhC n:=Znq n (nodeC n) (Zgb n)
def Zdi (D:Nat)(G:S26):Nat→List Int
 | 0=>[]
 | k+1=>Zdi D G k++[((Zaw D G k).st.pl.length:Int)]
theorem Ziq (D:Nat)(G:S26):∀k,(Zdi D G k).length=k
 | 0=>rfl
 | k+1=>by show (Zdi D G k++[_]).length=_;rw[List.length_append,Ziq D G k];rfl
def wideT:S94:=⟨0,z76,[],false,0,-1,0,-1⟩
def freeT (i:Int):S94:=⟨1,z76,[],false,0,i,0,-1⟩
theorem Zlx (w0:W0)(W:World)(t:S94)(h1:t.f1=z76)(h2:t.f2=[]):ItS w0 W t [.int .i64 t.f0,.int .i64 0,.slice none 0 0,.slice none 0 0,.slice none 0 0,.slice none 0 0,.bool t.f3,.int .i64 t.f4,.int .i64 t.f5,.int .i64 t.f6,.int .i64 t.f7]:=by
 refine⟨none,0,none,0,none,0,.slice none 0 0,?_,?_⟩
 ·rw[h1];rfl
 ·rw[h1,h2];exact⟨Nat.le_refl _,Kd.C_nil _ _,Nat.le_refl _,Kd.C_nil _ _,Nat.le_refl _,Kd.C_nil _ _,Kd.R_nil _ _ _ _ _⟩
theorem free_ok (s:St)(n:Nat)(i:Int):ItOk s n (Zhp i) (freeT i):=
 ⟨rfl,rfl,rfl,(fun h=>by have h:(1:Int)=3:=h;omega),fun _ _=>rfl,(fun b' h=>by have e:none=some b':=h;cases e),(fun h=>by have h:(1:Int)=3:=h;omega),fun _=>rfl⟩
theorem wide_rel:Rel ⟨[Zeo],[]⟩ [wideT]:=
 ⟨rfl,fun i hi=>by
  have hi:i<1:=hi;obtain rfl:i=0:=by omega
  exact⟨rfl,rfl,rfl,(fun h=>by have h:(0:Int)=3:=h;omega),fun _ _=>rfl,(fun b' h=>by have e:none=some b':=h;cases e),(fun h=>by have h:(0:Int)=3:=h;omega),(fun h=>by have h:(0:Int)=1:=h;omega)⟩⟩
theorem wide_kb:KB ⟨[Zeo],[]⟩:=fun q hq hk=>by
 have hq:q<1:=hq;obtain rfl:q=0:=by omega
 have h:(0:Int)=2:=hk;omega
theorem patW_kb (n:Nat)(p:S76)(rule step:Int)(s:St)(h:KB s):KB (Zgn (Zau n) p rule step s):=
 Zlk n s.pl.length p _ (h.add (x:=Zbc s.pl.length) (fun _=>rfl))
theorem ints_same {W W':World}{base:Nat}{v:Value}{l:List Int}(h:(Kd.int .i64).R 3 W base (fun _=>True) v l)(hs:Same3 W W'):(Kd.int .i64).R 3 W' base (fun _=>True) v l:=by
 have ho:=Kd.own_of_R h;exact Kd.R_of_own (Zek ho (fun k hk=>by obtain⟨cells,hc⟩:=Zbs ho k hk;exact hs k cells hc)) h.1
structure RB (w W:World)(gb:Nat)(h0 h1 vs v:Value)(s:St)(its:List S94)(ss:List Int):Prop where
 mach:RS (W0.off w vs) W gb h0 h1 vs v its
 rel:Rel s its
 ints:(Kd.int .i64).R 3 W w.heap.size (fun _=>True) vs ss
 kb:KB s
section
variable {w W W' W1:World}{gb:Nat}{h0 h1 vs v vs' v':Value}{s s':St}{its its':List S94}{ss ss':List Int}
theorem RB.below (h:RB w W gb h0 h1 vs v s its ss)(hb:Below W.heap.size W W'):RB w W' gb h0 h1 vs v s its ss:=⟨h.mach.below hb,h.rel,Kd.R_below h.ints hb,h.kb⟩
theorem RB.step (h:RB w W gb h0 h1 vs v s its ss)(hm:RS (W0.off w vs) W' gb h0 h1 vs v' its')(hk:KeptV W W' gb v)(hr:Rel s' its')(hkb:KB s'):RB w W' gb h0 h1 vs v' s' its' ss:=
 ⟨hm,hr,ints_same h.ints (h.mach.same3 hk),hkb⟩
theorem RS.rows (h:RS (W0.off w vs) W gb h0 h1 vs v its)(hg:W.grownBy W1 vs.ownBlock)(hb:Below w.heap.size w W1)(hf:∀k,vs.ownBlock=some k→∃cells,W.heap[k]?=some (.cells cells 3 (0,0)))
 (hn:vs'.ownBlock=vs.ownBlock∨∃k,vs'.ownBlock=some k∧W.heap.size≤k) (hlt:∀k,vs'.ownBlock=some k→k<W1.heap.size):RS (W0.off w vs') (W1.setCell ⟨gb,3,none⟩ vs') gb h0 h1 vs' v its:=by
 have nt:∀(g:Nat) (cs:Array Value) (e:Nat),W.heap[g]?=some (.cells cs e (0,0))→e≠3→some g≠vs.ownBlock:=fun g cs e hgc h3 he=>by
  obtain⟨c,hc⟩:=hf g he.symm;rw[hgc]at hc;injection hc with hc;injection hc with _ hc;exact h3 hc
 have kg:=Zby h.blk hg (nt gb _ 37 h.blk (by decide));have ri:∀(u:Value) (l:List Int),Ri (W0.off w vs) W u l→Ri (W0.off w vs') (W1.setCell ⟨gb,3,none⟩ vs') u l:=fun u l hr=>by
  have ho:=Kd.own_of_R hr;refine Kd.R_of_own (Zek ho (fun k hk'=>?_)) (fun k hk'=>?_)
  ·obtain⟨c1,hc1⟩:=Zbs ho k hk';have n1:some k≠vs.ownBlock:=fun he=>hr.1 k hk' he.symm
   have n2:k≠gb:=Zmu hc1 h.blk (by decide);rw[Below.heap_setCell W1 ⟨gb,3,none⟩ vs' k n2,Zby hc1 hg n1,hc1]
  ·show vs'.ownBlock≠some k
   rcases hn with hn | ⟨k',hk2,hle⟩
   ·rw[hn];exact hr.1 k hk'
   ·rw[hk2];intro he;injection he with he
    have:=Zgg ho k hk';omega
 obtain⟨inner,ho,hr⟩:=h.row;refine⟨h.ge,Zcd kg 3 vs' rfl,⟨inner,Zek ho (fun k hk'=>?_),hr.imp_ (fun x c hp=>?_)⟩,hb.setCell h.ge _,fun k hk' he=>?_⟩
 ·obtain⟨c1,hc1⟩:=Zbs ho k hk';have n2:k≠gb:=Zmu hc1 h.blk (by decide);rw[Below.heap_setCell W1 ⟨gb,3,none⟩ vs' k n2,Zby hc1 hg (nt k c1 94 hc1 (by decide)),hc1]
 ·obtain⟨A1,c1,A2,c2,A3,c3,v4,e,l1,g1,l2,g2,l3,g3,g4⟩:=hp;exact⟨A1,c1,A2,c2,A3,c3,v4,e,l1,g1,l2,g2,l3,g3,ri _ _ g4⟩
 ·have:=hlt k he;simp[World.setCell]at hk';omega
theorem RB.push (h:RB w W gb h0 h1 vs v s its ss)(hr:(Kd.int .i64).R 3 W1 w.heap.size (fun _=>True) vs' ss')(hb:Below w.heap.size w W1)(hg:W.grownBy W1 vs.ownBlock)(hn:vs'.ownBlock=vs.ownBlock∨∃k,vs'.ownBlock=some k∧W.heap.size≤k) :
 RB w (W1.setCell ⟨gb,3,none⟩ vs') gb h0 h1 vs' v s its ss':=by
 have ho:=Kd.own_of_R h.ints;have ho':=Kd.own_of_R hr;have kg:=Zby h.mach.blk hg (Zcn ho h.mach.blk (by decide));exact⟨h.mach.rows hg hb (fun k hk=>Zbs ho k hk) hn (fun k hk=>Zgg ho' k hk),h.rel,Kd.R_of_own (Zfm ho' (p:=⟨gb,3,none⟩) (Zcn ho' kg (by decide)) _) (fun _ _=>trivial),h.kb⟩
theorem RB.cells (h:RB w W gb h0 h1 vs v s its ss):W.cell? ⟨gb,2,none⟩=some v∧W.cell? ⟨gb,3,none⟩=some vs:=⟨(Zac h.mach.blk 2).trans rfl,(Zac h.mach.blk 3).trans rfl⟩
theorem RB.grown3 (h:RB w W gb h0 h1 vs v s its ss)(hg:W.grownBy W1 vs.ownBlock):W1.frozen? ⟨gb,3,none⟩=false∧W1.cell? ⟨gb,3,none⟩=some vs:=by
 have k:=Zby h.mach.blk hg (Zcn (Kd.own_of_R h.ints) h.mach.blk (by decide));exact⟨Zat k 3,(Zac k 3).trans rfl⟩
theorem RB.start (w:World)(o:Obj)(h0 h1:Value):RB w (((w.alloc o).alloc (.cells #[.int .i64 0,.int .i64 0,.slice none 0 0,.slice none 0 0,.slice none 0 0,.slice none 0 0,.bool false,.int .i64 0,.int .i64 (-1),.int .i64 0,.int .i64 (-1)] 94)).alloc (.cells #[h0,h1,.slice (some ⟨(w.alloc o).heap.size,0,none⟩) 1 1,.slice none 0 0] 37))
 ((w.alloc o).alloc (.cells #[.int .i64 0,.int .i64 0,.slice none 0 0,.slice none 0 0,.slice none 0 0,.slice none 0 0,.bool false,.int .i64 0,.int .i64 (-1),.int .i64 0,.int .i64 (-1)] 94)).heap.size h0 h1 (.slice none 0 0) (.slice (some ⟨(w.alloc o).heap.size,0,none⟩) 1 1) ⟨[Zeo],[]⟩ [wideT] []:=by
 have b1:=Zae (Below.refl w.heap.size w) o;have b2:=Zae (Below.refl (w.alloc o).heap.size (w.alloc o)) (.cells #[.int .i64 0,.int .i64 0,.slice none 0 0,.slice none 0 0,.slice none 0 0,.slice none 0 0,.bool false,.int .i64 0,.int .i64 (-1),.int .i64 0,.int .i64 (-1)] 94);have hrow:∀W9,OwnRow (ItS (W0.off w (.slice none 0 0)) W9) 94 11 ((w.alloc o).alloc (.cells #[.int .i64 0,.int .i64 0,.slice none 0 0,.slice none 0 0,.slice none 0 0,.slice none 0 0,.bool false,.int .i64 0,.int .i64 (-1),.int .i64 0,.int .i64 (-1)] 94)) w.heap.size (.slice (some ⟨(w.alloc o).heap.size,0,none⟩) 1 1) [wideT]:=fun W9=>
  OwnRow.lit (w.alloc o) w.heap.size (R:=ItS (W0.off w (.slice none 0 0)) W9) (Reps.snoc (Reps.none _ _) (Zlx _ W9 wideT rfl rfl) rfl) b1.size (by decide)
 refine⟨⟨?_,Zaq _ _,(hrow _).below (Zae Zbr _),?_,fun k _ he=>by cases he⟩,wide_rel,Kd.R_nil _ _ _ _ _,wide_kb⟩
 ·exact Nat.le_trans b1.size b2.size
 ·exact Zae (Zae b1 _) _
end
theorem Zul (w:World)(o:Obj):(w.alloc o).heap.size=w.heap.size+1:=by simp
theorem ref_start (w:World)(h0 h1:Value):RB w (((w.alloc (.cells #[h0,h1] 26)).alloc (.cells #[.int .i64 0,.int .i64 0,.slice none 0 0,.slice none 0 0,.slice none 0 0,.slice none 0 0,.bool false,.int .i64 0,.int .i64 (-1),.int .i64 0,.int .i64 (-1)] 94)).alloc (.cells #[h0,h1,.slice (some ⟨w.heap.size+1,0,none⟩) 1 1,.slice none 0 0] 37)) (w.heap.size+1+1) h0 h1 (.slice none 0 0) (.slice (some ⟨w.heap.size+1,0,none⟩) 1 1) ⟨[Zeo],[]⟩ [wideT] [] ∧
 (((w.alloc (.cells #[h0,h1] 26)).alloc (.cells #[.int .i64 0,.int .i64 0,.slice none 0 0,.slice none 0 0,.slice none 0 0,.slice none 0 0,.bool false,.int .i64 0,.int .i64 (-1),.int .i64 0,.int .i64 (-1)] 94)).alloc (.cells #[h0,h1,.slice (some ⟨w.heap.size+1,0,none⟩) 1 1,.slice none 0 0] 37)).heap[w.heap.size]?=some (.cells #[h0,h1] 26 (0,0)):=by
 have h:=RB.start w (.cells #[h0,h1] 26) h0 h1;simp only[Zul]at h;exact⟨h,Zan (Zan (Zaq w _) _) _⟩
theorem RB.keepS {w W W1:World}{gb:Nat}{h0 h1 vs v:Value}{s:St}{its:List S94}{ss:List Int}(h:RB w W gb h0 h1 vs v s its ss)(hg:W.grownBy W1 vs.ownBlock){g:Nat}{cs:Array Value}{e:Nat}(hgc:W.heap[g]?=some (.cells cs e (0,0)))(h37:e≠37)(h3:e≠3)(u:Value) :
 (W1.setCell ⟨gb,3,none⟩ u).heap[g]?=some (.cells cs e (0,0)):=by
 rw[Below.heap_setCell W1 ⟨gb,3,none⟩ u g (Zmu hgc h.mach.blk h37)];exact Zby hgc hg (Zcn (Kd.own_of_R h.ints) hgc (fun he=>h3 he.symm))
set_option maxHeartbeats 4000000 in
theorem Zqq (w:World)(At Ar:Option Addr)(ct cr:Nat)(G:S26)(D:Nat)(hr:k52.C w Ar G.f1.length G.f1)(hok:RulesOk D G)(hl:G.f1.length≤1000)(hfew:buildN D G G.f1.length≤90000)
 (hpk:∀i k:Nat,i<G.f1.length→k<(Zbm G i).f2.length→Zum D (Zei (Zbm G i) k).f1) :
 Calls Tryz.prog 9 #[.agg #[.slice At G.f0.length ct,.slice Ar G.f1.length cr]] w fun e w'=>∃gb vs v its,e=.returned (.pointer (some ⟨gb,0,none⟩))∧RB w w' gb (.slice At G.f0.length ct) (.slice Ar G.f1.length cr) vs v (Zaw D G G.f1.length).st its (Zdi D G G.f1.length):=by
 have HR:=Zaa.mk hr;have HOK:=Zaa.mk hok;have HPK:=Zaa.mk hpk;have HFW:=Zaa.mk hfew;clear hr hok hpk hfew
 go_enter Tryz.func9,Tryz.ntmps9
 go_upto_region 2 with (fail)
 obtain⟨hb0,hk0⟩:=ref_start w (.slice At G.f0.length ct) (.slice Ar G.f1.length cr);have HB0:=Zaa.mk hb0;have HK0:=Zaa.mk hk0;clear hb0 hk0;generalize (((w.alloc (.cells #[.slice At G.f0.length ct,.slice Ar G.f1.length cr] 26)).alloc (.cells #[.int .i64 0,.int .i64 0,.slice none 0 0,.slice none 0 0,.slice none 0 0,.slice none 0 0,.bool false,.int .i64 0,.int .i64 (-1),.int .i64 0,.int .i64 (-1)] 94)).alloc (.cells #[.slice At G.f0.length ct,.slice Ar G.f1.length cr,.slice (some ⟨w.heap.size+1,0,none⟩) 1 1,.slice none 0 0] 37))=X at *;obtain⟨gb,hgb⟩:∃gb,gb=w.heap.size+1+1:=⟨_,rfl⟩
 rw[←hgb]at HB0 ⊢;clear hgb;obtain⟨b0,hb0⟩:∃b0,b0=w.heap.size:=⟨_,rfl⟩
 rw[←hb0]at HK0 ⊢;clear hb0;go_wp2
 go_loopw [4] (fun i wr=>∃(k:Nat) (vs v:Value) (its:List S94),k≤G.f1.length∧i=.int .i64 k∧Zaa (RB w wr gb (.slice At G.f0.length ct) (.slice Ar G.f1.length cr) vs v (Zaw D G k).st its (Zdi D G k))∧Zaa (wr.heap[b0]?=some (.cells #[.slice At G.f0.length ct,.slice Ar G.f1.length cr] 26 (0,0)))) (fun i _=>G.f1.length-(intOf i).toNat)
 case atStart=>exact⟨0,_,_,_,Nat.zero_le _,rfl,HB0,HK0⟩
 case round=>
  obtain⟨k,vs,v,its,hk,rfl,HB,HK⟩:=hrel;have q1:=(Zac HK.out 1).trans rfl;by_cases hkn:k<G.f1.length
  ·have HGB:=Zaa.mk (Zcy D G k);obtain⟨ad,S2,sc,rfl,m0,m1,m2,ls2,hs2⟩:=Zmx HR.out (k:Int) (by omega) (by omega);have m0:=Zab HB.out.mach.bel m0;have m1:=Zab HB.out.mach.bel m1;have m2:=Zab HB.out.mach.bel m2;rw[Int.toNat_natCast]at m0 m1 m2;change wr.cell? ⟨_,_,none⟩=some (.slice S2 (Zbm G k).f2.length sc)at m2;change wr.cell? (ad.add (k*3))=some (.int .i64 (Zbm G k).f0)at m0;change wr.cell? ⟨_,_,none⟩=some (.bool (Zbm G k).f1)at m1;change (Zbm G k).f2.length≤sc at ls2;change k79.C w S2 (Zbm G k).f2.length (Zbm G k).f2 at hs2;have HS2:=Zaa.mk hs2;obtain⟨r,hr⟩:∃r,r=Zbm G k:=⟨_,rfl⟩
   have HBK:Zaa (Zaw D G (k+1)=Zqn D k r (Zaw D G k)):=⟨by rw[hr];rfl⟩
   have HSB:Zaa (Zdi D G (k+1)=Zdi D G k++[((Zaw D G k).st.pl.length:Int)]):=⟨rfl⟩
   have HSL:=Zaa.mk (Ziq D G k);have hfw:buildN D G k+((if r.f1=true then 1 else 0)+stepsN D r r.f2.length)≤90000:=by rw[hr];exact Nat.le_trans (Zms D G hkn) HFW.out
   have HPO:=Zaa.mk (fun n (hn:n<(Zbm G k).f2.length)=>HOK.out.pats k n hkn hn);have HPP:=Zaa.mk (fun n (hn:n<(Zbm G k).f2.length)=>HPK.out k n hkn hn);obtain⟨bt,hbt⟩:∃bt,bt=Zaw D G k:=⟨_,rfl⟩
   obtain⟨ss,hss⟩:∃ss,ss=Zdi D G k:=⟨_,rfl⟩
   rw[←hr]at m0 m1 m2 ls2 HS2 HPO HPP;rw[←hbt]at HB HBK HGB HSB;rw[←hss]at HB HSB HSL;rw[←HGB.out.2]at hfw;have HN:=Zaa.mk hfw;have HLE:Zaa (its.length=bt.st.pl.length):=⟨HB.out.rel.len⟩
   have hL:its.length≤90000:=by have:=HLE.out;omega
   have HLL:=Zaa.mk hL;have HKN:Zaa (k<G.f1.length∧G.f1.length≤1000):=⟨hkn,hl⟩
   clear hs2 hr hbt hss hfw hL;have HB8:=Zaa.mk (fun o=>HB.out.below (Zae (Below.refl _ wr) o));have HN8:=Zaa.mk (fun o=>Zaq wr o);have HK8:=Zaa.mk (fun o=>Zan HK.out o)
   go_upto_region 6 with (fail)
   have HBY:=Zaa.mk (HB8.out (.cells #[.int .i64 r.f0,.bool r.f1,.slice S2 r.f2.length sc] 52));have HNY:=Zaa.mk (HN8.out (.cells #[.int .i64 r.f0,.bool r.f1,.slice S2 r.f2.length sc] 52));have HKY:=Zaa.mk (HK8.out (.cells #[.int .i64 r.f0,.bool r.f1,.slice S2 r.f2.length sc] 52));clear HB8 HN8 HK8 m0 m1 m2 q1 HB HK;generalize wr.alloc (.cells #[.int .i64 r.f0,.bool r.f1,.slice S2 r.f2.length sc] 52)=Y at *;generalize wr.heap.size=b5 at *;obtain⟨Av,cv,rfl⟩:=Kd.R_slice HBY.out.ints;obtain⟨A,c,rfl,_⟩:=HBY.out.mach.row.slice_;have y2:=HBY.out.cells.1;have y3:=HBY.out.cells.2;have HBD:=Zaa.mk (HBY.out.below (Zah (Below.refl _ Y) 1));have HND:=Zaa.mk (Zag HNY.out (Zah (Below.refl _ Y) 1));have HKD:=Zaa.mk (Zag HKY.out (Zah (Below.refl _ Y) 1));have y2a:∀o,((Y.drewN 1).alloc o).cell? ⟨gb,2,none⟩=some (.slice A its.length c):=fun o=>(HBD.out.below (Zae Zbr o)).cells.1
   have y3a:∀o,((Y.drewN 1).alloc o).cell? ⟨gb,3,none⟩=some (.slice Av ss.length cv):=fun o=>(HBD.out.below (Zae Zbr o)).cells.2
   obtain⟨nl,hnl⟩:∃nl,nl=its.length:=⟨_,rfl⟩
   rw[←hnl]at y2 y2a;have HNLE:=Zaa.mk hnl;clear hnl;refine Zdb ?_
   go_region_law (first | (refine Kd.R_append_step (Kd.int .i64) (w0:=w) w.heap.size (by rfl) (.tmp 28) (.tmp 34) 35 3 (.int .i64 0) 8 rfl Tryz.underlying35 Zho rfl (by decide) (by omega) (.slice Av ss.length cv) ss (nl:Int) [.int .i64 nl] (fun _=>True) (fun _=>False) rfl ?ax rfl (fun _ hk=>hk.elim) (fun _ _=>trivial) ?aO ?aB ?aS ?aL ?_;(case ax=>first | rfl | simp);(case aO=>exact HBD.out.ints);(case aB=>exact HBD.out.mach.bel);(case aS=>exact HBD.out.mach.bel.size);(case aL=>have:=HSL.out;have:=HKN.out;omega);intro v7 w7 ho7 hb7 hg7 hat7;obtain⟨A7,c7,hv7⟩:=Kd.R_slice ho7;rw[List.length_append,List.length_singleton]at hv7;subst hv7;have ⟨hf7,hc7⟩:=HBD.out.grown3 hg7;have HG7:=Zaa.mk hg7;have HPUT:=Zaa.mk (HBD.out.push ho7 hb7 hg7 hat7);clear ho7 hb7 hg7 hat7) | fail)
   all_goals (
    have HBZ:=Zaa.mk HPUT.out;have HNZ:=Zaa.mk (HBD.out.keepS HG7.out HND.out (by decide) (by decide) (.slice A7 (ss.length+1) c7));have HKZ:=Zaa.mk (HBD.out.keepS HG7.out HKD.out (by decide) (by decide) (.slice A7 (ss.length+1) c7));clear hf7 hc7 y2 y3 y2a y3a HBD HND HKD HPUT HG7 HBY HNY HKY;generalize w7.setCell ⟨gb,3,none⟩ (.slice A7 (ss.length+1) c7)=Z at *;have n1:=(Zac HNZ.out 1).trans rfl;have HG1:=Zaa.mk (Zkc k r bt.st HGB.out.1.st);cases hfr:r.f1
    case' false=>
     rw[hfr]at n1 HNZ;have HF1:Zaa (RB w Z gb (.slice At G.f0.length ct) (.slice (some ad) G.f1.length cr) (.slice A7 (ss.length+1) c7) (.slice A its.length c) (Zcq k r bt.st) its (ss++[(nl:Int)])):=⟨by unfold Zcq;rw[if_neg (by simp[hfr])];exact HBZ.out⟩
     go_upto_region 9 with (fail)
     have HNF:=HNZ;have HKF:=HKZ;clear n1 HBZ HNZ HKZ;generalize Value.slice A its.length c=v1 at HF1;generalize its=its1 at HF1;generalize Z=Z1 at *;go_wp2
    case' true=>
     rw[hfr]at n1 HNZ;have y2:=HBZ.out.cells.1;have y2a:∀o,(Z.alloc o).cell? ⟨gb,2,none⟩=some (.slice A its.length c):=fun o=>(HBZ.out.below (Zae Zbr o)).cells.1
     go_upto_region 9 with ((with_reducible refine Zas (b:=.append) (xs:=#[.tmp 44,.tmp 47]) rfl ?_);at_builtin;refine Zos rfl (.tmp 44) (.tmp 47) rfl HBZ.out.mach (freeT k) _ (Zlx _ _ (freeT k) rfl rfl) _ rfl rfl rfl (by have:=HLL.out;omega) ?_;intro v8 w8 ho8 hb8 hg8 hat8;obtain⟨A8,c8,hv8,_⟩:=ho8.slice_;rw[List.length_append,List.length_singleton]at hv8;subst hv8;have ⟨hf8,hc8⟩:=HBZ.out.mach.grown2 hg8;have HPUT:=Zaa.mk (HBZ.out.mach.put ho8 hb8 hg8);clear ho8 hb8 hg8 hat8)
     have HF1:Zaa (RB w _ gb (.slice At G.f0.length ct) (.slice (some ad) G.f1.length cr) (.slice A7 (ss.length+1) c7) (.slice A8 (its.length+1) c8) (Zcq k r bt.st) (its++[freeT k]) (ss++[(nl:Int)])):=⟨by
      unfold Zcq;rw[if_pos hfr];exact HBZ.out.step HPUT.out.1 HPUT.out.2 (HBZ.out.rel.add (free_ok bt.st _ k)) (HBZ.out.kb.add (fun h=>by have h:(1:Int)=2:=h;omega))⟩
     have HNF:=Zaa.mk (HBZ.out.mach.keep HPUT.out.2 HNZ.out (by decide) (by decide));have HKF:=Zaa.mk (HBZ.out.mach.keep HPUT.out.2 HKZ.out (by decide) (by decide));clear n1 HBZ HNZ HKZ y2 y2a hf8 hc8 HPUT;generalize w8.setCell ⟨gb,2,none⟩ (.slice A8 (its.length+1) c8)=Z1 at *;generalize Value.slice A8 (its.length+1) c8=v1 at HF1;generalize its++[freeT k]=its1 at HF1;go_wp2
    all_goals (
     obtain⟨s1,hs1⟩:∃s1,s1=Zcq k r bt.st:=⟨_,rfl⟩
     have HS1:=Zaa.mk hs1;rw[←hs1]at HF1 HG1;clear hs1;have hs1l:s1.pl.length+stepsN D r r.f2.length≤90000:=by
      have h1:=HG1.out.2;have h2:=HN.out;omega
     have HS1L:=Zaa.mk hs1l;have HRL:Zaa (r.f2.length≤90000):=⟨by have:=Zqh D r r.f2.length;omega⟩
     clear hs1l
     go_loopw [6] (fun q wr=>∃(n:Nat) (v2:Value) (its2:List S94),n≤r.f2.length∧q=.int .i64 n∧Zaa (RB w wr gb (.slice At G.f0.length ct) (.slice (some ad) G.f1.length cr) (.slice A7 (ss.length+1) c7) v2 (Zaz D k r s1 n).1 its2 (ss++[(nl:Int)]))∧Zaa (wr.heap[b5]?=some (.cells #[.int .i64 r.f0,.bool r.f1,.slice S2 r.f2.length sc] 52 (0,0)))∧Zaa (wr.heap[b0]?=some (.cells #[.slice At G.f0.length ct,.slice (some ad) G.f1.length cr] 26 (0,0)))) (fun q _=>r.f2.length-(intOf q).toNat)
     case atStart=>exact⟨0,_,_,Nat.zero_le _,rfl,HF1,⟨by rw[hfr];exact HNF.out⟩,HKF⟩
     case round=>
      obtain⟨n,v2,its2,hn,rfl,HQ,HNQ,HKQ⟩:=hrel;have x2:=(Zac HNQ.out 2).trans rfl;by_cases hnn:n<r.f2.length
      ·obtain⟨td,T0,t0,T2,t2,T3,t3,T4,t4,rfl,_,z1,z2,z3,z4,_,_,hl2,hf2,hl3,hf3,hl4,hf4⟩:=Zoq HS2.out (n:Int) (by omega) (by omega);rw[Int.toNat_natCast]at z1 z2 z3 z4;have z1:=Zab HQ.out.mach.bel z1;have z2:=Zab HQ.out.mach.bel z2;have z3:=Zab HQ.out.mach.bel z3;have z4:=Zab HQ.out.mach.bel z4;have HPV:Zaa (Znk (W0.off w (.slice A7 (ss.length+1) c7)) (Zei r n).f1 (.agg #[.int .i64 (Zdg r.f2 n).f1.f0,.slice T2 (Zdg r.f2 n).f1.f1.length t2,.slice T3 (Zdg r.f2 n).f1.f2.length t3,.slice T4 (Zdg r.f2 n).f1.f3.length t4])):=⟨⟨T2,t2,T3,t3,T4,t4,rfl,hl2,hf2,hl3,hf3,hl4,hf4⟩⟩
       have HGQ:=Zaa.mk (Zip D k r s1 HG1.out.1 n);have hq1:=Zlm D r (show n+1≤r.f2.length by omega);have hq2:(Zaz D k r s1 n).1.pl.length+1+Zcx D (Zei r n).f1≤90000:=by
        have h1:=HGQ.out.2.1;have h2:=HS1L.out;have e9:stepsN D r (n+1)=stepsN D r n+(1+Zcx D (Zei r n).f1):=rfl;omega
       have HSN:Zaa ((Zaz D k r s1 (n+1)).1=Zgn (Zau D) (Zei r n).f1 k n (Zaz D k r s1 n).1):=⟨rfl⟩
       have HWC:=Zaa.mk (wholeC D (W0.off w (.slice A7 (ss.length+1) c7)) wr gb _ _ _ v2 (Zaz D k r s1 n).1 its2 (Zei r n).f1 _ k n (-1) HQ.out.mach HQ.out.rel HGQ.out.1 HQ.out.kb (HPO.out n hnn) (HPP.out n hnn) hq2 HPV.out (by unfold Zez;rw[if_neg (by omega)]));have HNN:=Zaa.mk hnn;clear hl2 hf2 hl3 hf3 hl4 hf4 hq1 hq2
       go_wp2_with (go_at_call 34;(with_reducible refine (HWC.out).mono ?_);intro e w5 he;obtain⟨rfl,v5,its5,hm5,hr5,hk5,_,_⟩:=he;have HQ5:=Zaa.mk (HQ.out.step hm5 hk5 hr5 (patW_kb D (Zei r n).f1 k n _ HQ.out.kb));have HN5:=Zaa.mk (HQ.out.mach.keep hk5 HNQ.out (by decide) (by decide));have HK5:=Zaa.mk (HQ.out.mach.keep hk5 HKQ.out (by decide) (by decide));clear hm5 hr5 hk5)
       go_roundw
       case rel=>exact⟨n+1,v5,its5,HNN.out,by rw[Zbz n (by have:=HNN.out;have:=HRL.out;omega)],⟨by rw[HSN.out];exact HQ5.out⟩,HN5,HK5⟩
       case measure=>exact Zcc r.f2.length n HNN.out (by have:=HRL.out;omega)
      ·obtain rfl:n=r.f2.length:=by omega
       have HEND:Zaa (RB w wr gb (.slice At G.f0.length ct) (.slice (some ad) G.f1.length cr) (.slice A7 (ss.length+1) c7) v2 (Zaw D G (k+1)).st its2 (Zdi D G (k+1))):=⟨by
        rw[HBK.out,HSB.out,←HLE.out,←HNLE.out];show RB w wr gb _ _ _ v2 (Zaz D k r (Zcq k r bt.st) r.f2.length).1 its2 _;rw[←HS1.out];exact HQ.out⟩
       go_wp2
       go_roundw
       case rel=>exact⟨k+1,_,v2,its2,HKN.out.1,by first | rw[Zbz k (by have:=HKN.out;omega)] | rfl,HEND,HKQ⟩
       case measure=>first | exact Zcc G.f1.length k HKN.out.1 (by have:=HKN.out;omega) | (simp only[intOf];omega)))
  ·obtain rfl:k=G.f1.length:=by omega
   go_wp2
   go_ret
   exact⟨gb,vs,v,its,rfl,HB.out⟩
structure RR (w:World)(gb:Nat)(G:S26)(its:List S94)(ss:List Int):Prop where
 cells:∃At ct Ar cr A c As cs,w.heap[gb]?=some (.cells #[.slice At G.f0.length ct,.slice Ar G.f1.length cr,.slice A its.length c,.slice As ss.length cs] 37 (0,0)) ∧
  G.f0.length≤ct∧k70.C w At G.f0.length G.f0∧G.f1.length≤cr∧k52.C w Ar G.f1.length G.f1∧its.length≤c∧k94.C w A its.length its∧ss.length≤cs∧(Kd.int .i64).C w As ss.length ss
theorem RR.below {w w1:World}{gb:Nat}{G:S26}{its:List S94}{ss:List Int}(h:RR w gb G its ss)(hb:Below w.heap.size w w1):RR w1 gb G its ss:=by
 obtain⟨At,ct,Ar,cr,A,c,As,cs,hc,l1,g1,l2,g2,l3,g3,l4,g4⟩:=h.cells;exact⟨At,ct,Ar,cr,A,c,As,cs,Zag hc hb,l1,Kd.C_below g1 hb,l2,Kd.C_below g2 hb,l3,Kd.C_below g3 hb,l4,Kd.C_below g4 hb⟩
theorem ItS.read {w0:W0}{W:World}{x:S94}{cs:List Value}(hb:Below w0.heap.size w0 W)(h:ItS w0 W x cs):k94.K W x cs:=by
 obtain⟨A1,c1,A2,c2,A3,c3,v4,rfl,l1,g1,l2,g2,l3,g3,g4⟩:=h;obtain⟨A4,c4,rfl,l4,h4⟩:=g4.C;exact k94_mk W x l1 (Kd.C_below g1 hb) l2 (Kd.C_below g2 hb) l3 (Kd.C_below g3 hb) l4 h4
theorem RB.read {w W:World}{gb:Nat}{At Ar:Option Addr}{ct cr:Nat}{G:S26}{vs v:Value}{s:St}{its:List S94}{ss:List Int}(h:RB w W gb (.slice At G.f0.length ct) (.slice Ar G.f1.length cr) vs v s its ss)
 (lt:G.f0.length≤ct) (ht:k70.C w At G.f0.length G.f0) (lr:G.f1.length≤cr) (hr:k52.C w Ar G.f1.length G.f1):RR W gb G its ss:=by
 have hb:=h.mach.bel;obtain⟨Ap,cp,rfl,lp,hp⟩:=h.mach.row.reads;obtain⟨As,cs,rfl,ls,hs⟩:=Kd.R_reads h.ints;exact⟨At,ct,Ar,cr,Ap,cp,As,cs,h.mach.blk,lt,Kd.C_below ht hb,lr,Kd.C_below hr hb,lp,hp.imp_ Zbr (fun _ _ hx=>hx.read hb),ls,hs⟩
def isB (its:List S94)(p:Int):Bool:=decide (0≤p)&&decide (p<its.length)
theorem Zfj (w:World)(gb:Nat)(G:S26)(its:List S94)(ss:List Int)(h:RR w gb G its ss)(p:Int) :
 Calls Tryz.prog 40 #[.pointer (some ⟨gb,0,none⟩),.int .i64 p] w fun e w'=>e=.returned (.bool (isB its p))∧w'=w:=by
 obtain⟨At,ct,Ar,cr,A,c,As,cs,hc,_⟩:=h.cells;have g2:w.cell? ⟨gb,2,none⟩=some (.slice A its.length c):=(Zac hc 2).trans rfl;clear h hc;unfold isB;cases q:decide (0≤p)with
 | false=>
  go_enter Tryz.func40,Tryz.ntmps40
  go_wp2
  go_ret
  exact⟨rfl,rfl⟩
 | true=>
  go_enter Tryz.func40,Tryz.ntmps40
  go_wp2
  go_ret
  exact⟨rfl,rfl⟩
def Zga (G:S26)(t k:Int):Bool:=decide (0≤t)&&(decide (t<G.f0.length)&&decide ((Zow G t).f1=k))
set_option maxHeartbeats 1000000 in
theorem Zfu (w:World)(gb:Nat)(G:S26)(its:List S94)(ss:List Int)(h:RR w gb G its ss)(t k:Int) :
 Calls Tryz.prog 41 #[.pointer (some ⟨gb,0,none⟩),.int .i64 t,.int .i64 k] w fun e w'=>e=.returned (.bool (Zga G t k))∧w'=w:=by
 obtain⟨At,ct,Ar,cr,A,c,As,cs,hc,lt,ht,_⟩:=h.cells;have g0:w.cell? ⟨gb,0,none⟩=some (.slice At G.f0.length ct):=(Zac hc 0).trans rfl;have HT:=Zaa.mk ht;clear h hc ht lt;unfold Zga;by_cases a0:0≤t
 rotate_left
 ·have q:decide (0≤t)=false:=decide_eq_false a0;rw[q];clear a0
  go_enter Tryz.func41,Tryz.ntmps41
  go_wp2
  go_ret
  exact⟨rfl,rfl⟩
 have q:decide (0≤t)=true:=decide_eq_true a0;rw[q];by_cases a1:t<G.f0.length
 rotate_left
 ·have q1:decide (t<(G.f0.length:Int))=false:=decide_eq_false a1;rw[q1];clear a0 a1
  go_enter Tryz.func41,Tryz.ntmps41
  go_wp2
  go_ret
  exact⟨rfl,rfl⟩
 have q1:decide (t<(G.f0.length:Int))=true:=decide_eq_true a1;rw[q1];obtain⟨ad,A4,c4,A5,c5,rfl,_,k1,_⟩:=Zmw HT.out t a0 a1;change w.cell? _=some (.int .i64 (Zow G t).f1)at k1;generalize (Zow G t).f1=f at *
 go_enter Tryz.func41,Tryz.ntmps41
 go_wp2
 go_ret
 exact⟨by by_cases e:f=k <;> simp[e],rfl⟩
def Zin (G:S26)(t:Int)(y:ByteArray):Bool:=decide (0≤t)&&(decide (t<G.f0.length)&&decide ((Zow G t).f0.toList=y.toList))
def Zcm (G:S26)(t:Int)(l:List ByteArray):Bool:=l.any (Zin G t)
theorem Zpy (f:ByteArray→Bool)(l:List ByteArray)(k:Nat)(hk:k<l.length)(h:(l.take k).any f=false)(h2:f (l.getD k ByteArray.empty)=false):(l.take (k+1)).any f=false:=by
 rw[List.take_succ_eq_append_getElem hk,List.any_append,h];rw[List.getD_eq_getElem?_getD,List.getElem?_eq_getElem hk]at h2;simpa using h2
theorem any_hit (f:ByteArray→Bool)(l:List ByteArray)(k:Nat)(hk:k<l.length)(h2:f (l.getD k ByteArray.empty)=true):l.any f=true:=by
 rw[List.getD_eq_getElem?_getD,List.getElem?_eq_getElem hk]at h2;exact List.any_eq_true.2 ⟨_,List.getElem_mem hk,h2⟩
set_option maxHeartbeats 2000000 in
theorem Zdw (w:World)(At Ar:Option Addr)(ct n1 cr:Nat)(G:S26)(ht:k70.C w At G.f0.length G.f0)(A:Option Addr)(c:Nat)(l:List ByteArray)(hr:Kd.string.C w A l.length l)(hl:l.length≤1000000)(t:Int) :
 Calls Tryz.prog 42 #[.agg #[.slice At G.f0.length ct,.slice Ar n1 cr],.slice A l.length c,.int .i64 t] w fun e w'=>e=.returned (.bool (Zcm G t l))∧Below w.heap.size w w':=by
 have HT:=Zaa.mk ht;have HR:=Zaa.mk hr;have HL:=Zaa.mk hl;clear ht hr hl
 go_enter Tryz.func42,Tryz.ntmps42
 go_upto_region 1 with (fail)
 have HB0:=Zaa.mk (Zae (Below.refl _ w) (.cells #[.slice At G.f0.length ct,.slice Ar n1 cr] 26));have HK0:=Zaa.mk (Zaq w (.cells #[.slice At G.f0.length ct,.slice Ar n1 cr] 26));generalize w.alloc (.cells #[.slice At G.f0.length ct,.slice Ar n1 cr] 26)=X at *;obtain⟨b0,hb0⟩:∃b0,b0=w.heap.size:=⟨_,rfl⟩
 rw[←hb0]at HK0 ⊢;clear hb0;go_wp2
 go_loopw [7] (fun i wr=>∃k:Nat,k≤l.length∧i=.int .i64 k∧Zaa (Below w.heap.size w wr)∧Zaa (wr.heap[b0]?=some (.cells #[.slice At G.f0.length ct,.slice Ar n1 cr] 26 (0,0)))∧Zaa ((l.take k).any (Zin G t)=false)) (fun i _=>l.length-(intOf i).toNat)
 case atStart=>exact⟨0,Nat.zero_le _,rfl,HB0,HK0,⟨rfl⟩⟩
 case round=>
  obtain⟨k,hk,rfl,HB,HK,HN⟩:=hrel;have q0:=(Zac HK.out 0).trans rfl;by_cases hkl:k<l.length
  ·obtain⟨ad,rfl,hy⟩:=at_S HR.out k hkl;have hy:=Zab HB.out hy;have HNX:=Zaa.mk (Zpy (Zin G t) l k hkl HN.out);have HHT:=Zaa.mk (any_hit (Zin G t) l k hkl);have HKL:=Zaa.mk hkl;by_cases a0:0≤t
   ·have t0:decide (0≤t)=true:=decide_eq_true a0;by_cases a1:t<G.f0.length
    ·have t1:decide (t<(G.f0.length:Int))=true:=decide_eq_true a1;obtain⟨td,A4,c4,A5,c5,rfl,k0,_⟩:=Zmw HT.out t a0 a1;change w.cell? _=some (.string (Zow G t).f0)at k0;have k0:=Zab HB.out k0;have e:Zin G t (l.getD k ByteArray.empty)=decide ((Zow G t).f0.toList=(l.getD k ByteArray.empty).toList):=by unfold Zin;rw[t0,t1];rfl
     rw[e]at HNX HHT;generalize (Zow G t).f0=s at k0 HNX HHT;generalize l.getD k ByteArray.empty=y at hy HNX HHT;clear e;cases hm:(s.toList==y.toList)with
     | true=>
      have e:Zcm G t l=true:=HHT.out (by simpa using hm);clear HNX HHT HN
      go_wp2_with fail
      go_quiet (fail)
      go_wp2
      go_ret
      exact⟨by rw[e];rfl,(by repeat (first | exact HB.out | refine Zah ?_ _ | refine Zar ?_))⟩
     | false=>
      have HN2:=Zaa.mk (HNX.out (by simpa using hm));clear HNX HHT HN
      go_wp2_with fail
      go_quiet (fail)
      go_wp2
      go_roundw
      case rel=>exact⟨k+1,HKL.out,by rw[Zbz k (by have:=HKL.out;have:=HL.out;omega)],⟨(by repeat (first | exact HB.out | refine Zah ?_ _ | refine Zar ?_))⟩,⟨Zag HK.out (by repeat (first | exact Zbr | refine Zah ?_ _ | refine Zar ?_))⟩,HN2⟩
      case measure=>exact Zcc l.length k HKL.out (by have:=HL.out;omega)
    ·have t1:decide (t<(G.f0.length:Int))=false:=decide_eq_false a1;have HN2:=Zaa.mk (HNX.out (by unfold Zin;rw[t1];simp));clear HNX HHT HN a1
     go_wp2_with fail
     go_quiet (fail)
     go_wp2
     go_roundw
     case rel=>exact⟨k+1,HKL.out,by rw[Zbz k (by have:=HKL.out;have:=HL.out;omega)],⟨(by repeat (first | exact HB.out | refine Zah ?_ _ | refine Zar ?_))⟩,⟨Zag HK.out (by repeat (first | exact Zbr | refine Zah ?_ _ | refine Zar ?_))⟩,HN2⟩
     case measure=>exact Zcc l.length k HKL.out (by have:=HL.out;omega)
   ·have t0:decide (0≤t)=false:=decide_eq_false a0;have HN2:=Zaa.mk (HNX.out (by unfold Zin;rw[t0];simp));clear HNX HHT HN a0
    go_wp2_with fail
    go_quiet (fail)
    go_wp2
    go_roundw
    case rel=>exact⟨k+1,HKL.out,by rw[Zbz k (by have:=HKL.out;have:=HL.out;omega)],⟨(by repeat (first | exact HB.out | refine Zah ?_ _ | refine Zar ?_))⟩,⟨Zag HK.out (by repeat (first | exact Zbr | refine Zah ?_ _ | refine Zar ?_))⟩,HN2⟩
    case measure=>exact Zcc l.length k HKL.out (by have:=HL.out;omega)
  ·obtain rfl:k=l.length:=by omega
   have e:Zcm G t l=false:=by have:=HN.out;rw[List.take_length]at this;exact this
   go_wp2
   go_ret
   exact⟨by rw[e];rfl,HB.out⟩
def Zjt (rule step:Int)(t:S94):Bool:=(t.f0==2)&&(decide (t.f7<0)&&((t.f5==rule)&&(t.f6==step)))
structure Zng (its:List S94)(rule step r:Int):Prop where
 out:(r=-1∧∀i,i<its.length→Zjt rule step (its.getD i z94)=false)∨∃i:Nat,r=i∧i<its.length∧Zjt rule step (its.getD i z94)=true
set_option maxHeartbeats 2000000 in
theorem Zje (w:World)(gb:Nat)(G:S26)(its:List S94)(ss:List Int)(h:RR w gb G its ss)(hl:its.length≤1000000)(rule step:Int) :
 Calls Tryz.prog 52 #[.pointer (some ⟨gb,0,none⟩),.int .i64 rule,.int .i64 step] w fun e w'=>∃r,e=.returned (.int .i64 r)∧Zng its rule step r∧w'=w:=by
 obtain⟨At,ct,Ar,cr,A,c,As,cs,hc,_,_,_,_,lc,hi,_⟩:=h.cells;have g1:w.cell? ⟨gb,2,none⟩=some (.slice A its.length c):=(Zac hc 2).trans rfl;have HI:=Zaa.mk hi;have HL:=Zaa.mk hl;clear h hc hi hl lc
 go_enter Tryz.func52,Tryz.ntmps52
 go_wp2
 go_loopw [7] (fun i wr=>∃k:Nat,k≤its.length∧i=.int .i64 k∧wr=w∧Zaa (∀i,i<k→Zjt rule step (its.getD i z94)=false)) (fun i _=>its.length-(intOf i).toNat)
 case atStart=>exact⟨0,Nat.zero_le _,rfl,rfl,⟨fun i hi=>by omega⟩⟩
 case round=>
  obtain⟨k,hk,rfl,hw,HN⟩:=hrel;subst hw;by_cases hkl:k<its.length
  ·obtain⟨ad,A2,c2,A3,c3,A4,c4,A5,c5,rfl,k0,_,_,_,_,_,_,_,k8,k9,k10,_⟩:=Zju HI.out (k:Int) (by omega) (by omega);rw[Int.toNat_natCast]at k0 k8 k9 k10;have HKL:=Zaa.mk hkl;have HNX:Zaa (Zjt rule step (Zak its k)=false→∀i,i<k+1→Zjt rule step (its.getD i z94)=false):=⟨fun hb i hi=>by
    rcases Nat.lt_or_ge i k with h | h
    ·exact HN.out i h
    ·obtain rfl:i=k:=by omega
     exact hb⟩
   have HHT:Zaa (Zjt rule step (Zak its k)=true→Zng its rule step k):=⟨fun hb=>⟨.inr ⟨k,rfl,HKL.out,hb⟩⟩⟩
   unfold Zjt at HNX HHT;generalize (Zak its k).f0=f0 at *;generalize (Zak its k).f5=f5 at *;generalize (Zak its k).f6=f6 at *;generalize (Zak its k).f7=f7 at *;cases h0:(f0==2)with
   | false=>
    have HN2:=Zaa.mk (HNX.out (by simp[h0]));clear HNX HHT HN;go_wp2
    go_roundw
    case rel=>exact⟨k+1,HKL.out,by rw[Zbz k (by have:=HKL.out;have:=HL.out;omega)],by trivial,HN2⟩
    case measure=>exact Zcc its.length k HKL.out (by have:=HL.out;omega)
   | true=>
    cases h7:(decide (f7<0))with
    | false=>
     have HN2:=Zaa.mk (HNX.out (by simp[h0,h7]));clear HNX HHT HN;go_wp2
     go_roundw
     case rel=>exact⟨k+1,HKL.out,by rw[Zbz k (by have:=HKL.out;have:=HL.out;omega)],by trivial,HN2⟩
     case measure=>exact Zcc its.length k HKL.out (by have:=HL.out;omega)
    | true=>
     cases h5:(f5==rule)with
     | false=>
      have HN2:=Zaa.mk (HNX.out (by simp[h0,h7,h5]));clear HNX HHT HN;go_wp2
      go_roundw
      case rel=>exact⟨k+1,HKL.out,by rw[Zbz k (by have:=HKL.out;have:=HL.out;omega)],by trivial,HN2⟩
      case measure=>exact Zcc its.length k HKL.out (by have:=HL.out;omega)
     | true=>
      cases h6:(f6==step)with
      | false=>
       have HN2:=Zaa.mk (HNX.out (by simp[h0,h7,h5,h6]));clear HNX HHT HN;go_wp2
       go_roundw
       case rel=>exact⟨k+1,HKL.out,by rw[Zbz k (by have:=HKL.out;have:=HL.out;omega)],by trivial,HN2⟩
       case measure=>exact Zcc its.length k HKL.out (by have:=HL.out;omega)
      | true=>
       have HE:=Zaa.mk (HHT.out (by simp[h0,h7,h5,h6]));clear HNX HHT HN;go_wp2
       go_ret
       exact⟨k,rfl,HE.out,rfl⟩
  ·obtain rfl:k=its.length:=by omega
   go_wp2
   go_ret
   exact⟨-1,rfl,⟨.inl ⟨rfl,HN.out⟩⟩,rfl⟩
def Zfo (G:S26)(its:List S94)(p t:Int):List Int:=if isB its p=true∧Zga G t 2=true∧(Zak its p).f0=1 then [p]else []
set_option maxHeartbeats 2000000 in
theorem Znn (w:World)(gb:Nat)(G:S26)(its:List S94)(ss:List Int)(h:RR w gb G its ss)(p t:Int) :
 Calls Tryz.prog 21 #[.pointer (some ⟨gb,0,none⟩),.int .i64 p,.int .i64 t] w (Zea w (Zfo G its p t)):=by
 have HM:=Zaa.mk (Zfj w gb G its ss h p);have HK:=Zaa.mk (Zfu w gb G its ss h t 2);obtain⟨At,ct,Ar,cr,A,c,As,cs,hc,_,_,_,_,lc,hi,_⟩:=h.cells;have g2:w.cell? ⟨gb,2,none⟩=some (.slice A its.length c):=(Zac hc 2).trans rfl;have HI:=Zaa.mk hi;clear h hc hi lc;cases hm:isB its p with
 | false=>
  have e:Zfo G its p t=[]:=by unfold Zfo;rw[if_neg (by simp[hm])]
  rw[hm]at HM;rw[e];clear e hm
  go_enter Tryz.func21,Tryz.ntmps21
  go_wp2_with (go_at_call 40;refine HM.out.mono ?_;rintro e w1 ⟨rfl,rfl⟩)
  go_ret
  exact Zcv _
 | true=>
  rw[hm]at HM;cases hk:Zga G t 2 with
  | false=>
   have e:Zfo G its p t=[]:=by unfold Zfo;rw[if_neg (by simp[hk])]
   rw[hk]at HK;rw[e];clear e hm hk
   go_enter Tryz.func21,Tryz.ntmps21
   go_wp2_with (first | (go_at_call 40;refine HM.out.mono ?_;rintro e w1 ⟨rfl,rfl⟩) | (go_at_call 41;refine HK.out.mono ?_;rintro e w1 ⟨rfl,rfl⟩))
   go_ret
   exact Zcv _
  | true=>
   rw[hk]at HK;have hm2:=hm;unfold isB at hm2;simp only[Bool.and_eq_true,decide_eq_true_eq]at hm2;obtain⟨p0,p1⟩:=hm2;obtain⟨ad,A2,c2,A3,c3,A4,c4,A5,c5,rfl,k0,_⟩:=Zju HI.out p p0 p1;by_cases e1:(Zak its p).f0=1
   ·have e:Zfo G its p t=[p]:=by unfold Zfo;rw[if_pos ⟨hm,hk,e1⟩]
    rw[e];rw[e1]at k0;clear e e1 hm hk
    go_enter Tryz.func21,Tryz.ntmps21
    go_wp2_with (first | (go_at_call 40;refine HM.out.mono ?_;rintro e w1 ⟨rfl,rfl⟩) | (go_at_call 41;refine HK.out.mono ?_;rintro e w1 ⟨rfl,rfl⟩))
    go_ret
    exact Zdq _ _ Zbr p
   ·have e:Zfo G its p t=[]:=by unfold Zfo;rw[if_neg (by simp[e1])]
    have q:((Zak its p).f0 != 1)=true:=by simpa using e1
    rw[e];generalize (Zak its p).f0=k at k0 q;clear e e1 hm hk
    go_enter Tryz.func21,Tryz.ntmps21
    go_wp2_with (first | (go_at_call 40;refine HM.out.mono ?_;rintro e w1 ⟨rfl,rfl⟩) | (go_at_call 41;refine HK.out.mono ?_;rintro e w1 ⟨rfl,rfl⟩))
    go_ret
    exact Zcv _
end Go.Proofs.YtpagbjdmiepgmaaGreatDoor.PVpa
