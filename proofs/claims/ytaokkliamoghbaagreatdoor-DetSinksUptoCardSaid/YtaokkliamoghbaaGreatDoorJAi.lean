/- Joined from texts of this seat, in their order. -/
import Derived.Test.YtaokkliamoghbaaGreatDoorJAg
import Derived.Test.YtaokkliamoghbaaGreatDoorJAh
set_option linter.unusedVariables false
set_option linter.unusedSimpArgs false
set_option linter.unusedSectionVars false
namespace Go.Proofs.YtaokkliamoghbaaGreatDoor.PVpa
open Go.RowKit Go.Proofs.YtaokkliamoghbaaGreatDoorW.PrintWords Go.Proofs.YtaokkliamoghbaaGreatDoorW.PrintLast Go.Proofs.YtaokkliamoghbaaGreatDoorW.PrintMore
structure Alike (x y:Pl):Prop where
 kind:x.kind=y.kind
 shape:x.shape=y.shape
 p:x.p=y.p
 inner:x.inner=y.inner
 rule:x.rule=y.rule
theorem Alike.refl (x:Pl):Alike x x:=⟨rfl,rfl,rfl,rfl,rfl⟩
theorem Alike.trans {x y z:Pl}(h:Alike x y)(k:Alike y z):Alike x z:=⟨h.1.trans k.1,h.2.trans k.2,h.3.trans k.3,h.4.trans k.4,h.5.trans k.5⟩
def Fin_ (s:St)(k:Nat):Prop:=∃y,(k,y)∈s.sh
structure NewOk (b:Nat)(s:St)(x:Pl):Prop where
 kind:x.kind=2∨x.kind=3
 shape:∃k,x.shape=some k∧(k=b∨Fin_ s k)
 inner:∀k,x.inner=some k→Fin_ s k
 pin:x.p.f0=3→∃k,x.inner=some k
structure Stp (b:Nat)(s s':St):Prop where
 len:s.pl.length≤s'.pl.length
 old:∀q,q<s.pl.length→Alike (s'.pl.getD q zPl) (s.pl.getD q zPl)
 sh:∀k x,(k,x)∈s.sh→(k,x)∈s'.sh
 keys:∀k x,(k,x)∈s'.sh→(k,x)∈s.sh∨(s.pl.length≤k∧x.rule=-1)
 new:∀q,s.pl.length≤q→q<s'.pl.length→NewOk b s' (s'.pl.getD q zPl)
theorem NewOk.alike {b:Nat}{s s':St}{x y:Pl}(h:NewOk b s x)(ha:Alike y x)(hs:∀k z,(k,z)∈s.sh→(k,z)∈s'.sh):NewOk b s' y:=by
 refine⟨by rw[ha.kind];exact h.kind,?_,fun k hk=>?_,fun hp=>?_⟩
 ·obtain⟨k,h1,h2⟩:=h.shape;exact⟨k,ha.shape.trans h1,h2.imp id (fun⟨y,hy⟩=>⟨y,hs _ _ hy⟩)⟩
 ·obtain⟨y,hy⟩:=h.inner k (ha.inner.symm.trans hk);exact⟨y,hs _ _ hy⟩
 ·rw[ha.p]at hp;obtain⟨k,hk⟩:=h.pin hp;exact⟨k,ha.inner.trans hk⟩
theorem Stp.refl (b:Nat)(s:St):Stp b s s:=⟨Nat.le_refl _,fun _ _=>Alike.refl _,fun _ _ h=>h,fun _ _ h=>.inl h,fun q h1 h2=>by omega⟩
theorem Stp.trans {b:Nat}{s s1 s2:St}(h:Stp b s s1)(k:Stp b s1 s2):Stp b s s2:=by
 have hl:=h.len;refine⟨Nat.le_trans h.len k.len,fun q hq=>(k.old q (by omega)).trans (h.old q hq),fun j x hj=>k.sh j x (h.sh j x hj),fun j x hj=>?_,fun q h1 h2=>?_⟩
 ·rcases k.keys j x hj with hj | ⟨hj,hr⟩
  ·exact h.keys j x hj
  ·exact .inr ⟨by omega,hr⟩
 ·rcases Nat.lt_or_ge q s1.pl.length with hq | hq
  ·exact (h.new q h1 hq).alike (k.old q hq) k.sh
  ·exact k.new q hq h2
theorem Stp.link (b:Nat)(s:St)(frm tt:List Int):Stp b s (s.link frm tt):=by
 have hl:(s.link frm tt).pl.length=s.pl.length:=Zdc _ _ _ _;refine⟨by omega,fun q _=>?_,fun _ _ h=>h,fun _ _ h=>.inl h,fun q h1 h2=>by omega⟩;obtain⟨h1,h2,h3,h4,h5⟩:=Zgj s.pl tt frm frm.length q;exact⟨h3,h1,h4,h2,h5⟩
theorem Stp.item {b:Nat}{s:St}{p:S76}(hp:p.f0≠3):Stp b s (s.add (Zbe b p)):=by
 have hl:(s.add (Zbe b p)).pl.length=s.pl.length+1:=by simp[St.add]
 refine⟨by omega,fun q hq=>?_,fun _ _ h=>h,fun _ _ h=>.inl h,fun q h1 h2=>?_⟩
 ·show Alike ((s.pl++[Zbe b p]).getD q zPl) _;rw[Zdf,if_neg (by omega)];exact Alike.refl _
 ·obtain rfl:q=s.pl.length:=by omega
  show NewOk b _ ((s.pl++[Zbe b p]).getD s.pl.length zPl);rw[Zdf,if_pos rfl];exact⟨.inr rfl,⟨b,rfl,.inl rfl⟩,(fun k hk=>(by cases hk)),fun h=>absurd h hp⟩
structure StpP (s s':St)(rule step:Int):Prop where
 len:s.pl.length<s'.pl.length
 old:∀q,q<s.pl.length→Alike (s'.pl.getD q zPl) (s.pl.getD q zPl)
 sh:∀k x,(k,x)∈s.sh→(k,x)∈s'.sh
 keys:∀k x,(k,x)∈s'.sh→(k,x)∈s.sh∨(s.pl.length<k∧x.rule=-1)∨(k=s.pl.length∧x.rule=rule∧x.step=step)
 fin:∃x,(s.pl.length,x)∈s'.sh
 new:∀q,s.pl.length≤q→q<s'.pl.length→NewOk s.pl.length s' (s'.pl.getD q zPl)
 front:Alike (s'.pl.getD s.pl.length zPl) (Zbq s.pl.length)
theorem StpP.of {n:Nat}(hw:∀b p s,Stp b s (Zax n b p s).2)(p:S76)(rule step:Int)(s:St):StpP s (Zhp (Zax n) p rule step s) rule step:=by
 have h:=hw s.pl.length p (s.add (Zbq s.pl.length));have hl:(s.add (Zbq s.pl.length)).pl.length=s.pl.length+1:=by simp[St.add]
 have hge:=h.len;have g0:((s.add (Zbq s.pl.length)).pl.getD s.pl.length zPl)=Zbq s.pl.length:=by
  show (s.pl++[Zbq s.pl.length]).getD s.pl.length zPl=_;rw[Zdf,if_pos rfl]
 have hsub:∀k z,(k,z)∈(Zax n s.pl.length p (s.add (Zbq s.pl.length))).2.sh→(k,z)∈(Zhp (Zax n) p rule step s).sh:=fun k z hk=>List.mem_append_left _ hk
 have hfr:=h.old s.pl.length (by omega);rw[g0]at hfr;have hfin:Fin_ (Zhp (Zax n) p rule step s) s.pl.length:=⟨_,List.mem_append_right _ (List.mem_singleton.2 rfl)⟩
 refine⟨?_,fun q hq=>?_,fun k x hk=>hsub k x (h.sh k x hk),fun k x hk=>?_,hfin,fun q h1 h2=>?_,hfr⟩
 ·show s.pl.length<(Zax n s.pl.length p (s.add (Zbq s.pl.length))).2.pl.length;omega
 ·have h1:=h.old q (by omega);have e:(s.add (Zbq s.pl.length)).pl.getD q zPl=s.pl.getD q zPl:=by
   show (s.pl++[Zbq s.pl.length]).getD q zPl=_;rw[Zdf,if_neg (by omega)]
  rw[e]at h1;exact h1
 ·rcases List.mem_append.1 hk with hk | hk
  ·rcases h.keys k x hk with hk | ⟨hk,hr⟩
   ·exact .inl hk
   ·exact .inr (.inl ⟨by omega,hr⟩)
  ·rw[List.mem_singleton]at hk;injection hk with e1 e2
   subst e1;subst e2;exact .inr (.inr ⟨rfl,rfl,rfl⟩)
 ·rcases Nat.lt_or_ge s.pl.length q with hq | hq
  ·exact (h.new q (by omega) h2).alike (Alike.refl _) hsub
  ·obtain rfl:q=s.pl.length:=by omega
   have hz:NewOk s.pl.length (Zhp (Zax n) p rule step s) (Zbq s.pl.length):=⟨.inl rfl,⟨_,rfl,.inl rfl⟩,(fun k hk=>(by cases hk)),fun h=>absurd (show (0:Int)=3 from h) (by decide)⟩
   exact hz.alike hfr (fun _ _ h=>h)
theorem Stp.within {n:Nat}(hw:∀b p s,Stp b s (Zax n b p s).2)(b:Nat)(p:S76)(s:St)(hp:p.f0=3):Stp b s (Zhv (Zax n) b p s):=by
 have e1:Zey b p s=s.add (Zbe b p):=by unfold Zey;rw[if_neg (by omega)]
 unfold Zhv;rw[if_pos hp,e1];have h:=StpP.of hw (Zak p.f3 0) (-1) (-1) (s.add (Zbe b p));have hl:(s.add (Zbe b p)).pl.length=s.pl.length+1:=by simp[St.add]
 generalize Zhp (Zax n) (Zak p.f3 0) (-1) (-1) (s.add (Zbe b p))=sp at h;have hlen:=h.len;have hli:(sp.inner s.pl.length (s.add (Zbe b p)).pl.length).pl.length=sp.pl.length:=by simp[St.inner]
 have hget:∀q,q≠s.pl.length→(sp.inner s.pl.length (s.add (Zbe b p)).pl.length).pl.getD q zPl=sp.pl.getD q zPl:=fun q hq=>by
  show (sp.pl.set _ _).getD q zPl=_;rw[Zen,if_neg (by omega)]
 have hself:(sp.inner s.pl.length (s.add (Zbe b p)).pl.length).pl.getD s.pl.length zPl={ sp.pl.getD s.pl.length zPl with inner:=some (s.add (Zbe b p)).pl.length }:=by
  show (sp.pl.set _ _).getD s.pl.length zPl=_;rw[Zen,if_pos ⟨rfl,by omega⟩]
 have hk:=h.old s.pl.length (by omega);have hg:(s.add (Zbe b p)).pl.getD s.pl.length zPl=Zbe b p:=by
  show (s.pl++[Zbe b p]).getD s.pl.length zPl=_;rw[Zdf,if_pos rfl]
 rw[hg]at hk;refine⟨by omega,fun q hq=>?_,fun k x hk=>h.sh k x hk,fun k x hk=>?_,fun q h1 h2=>?_⟩
 ·rw[hget q (by omega)];have h3:=h.old q (by omega);have e:(s.add (Zbe b p)).pl.getD q zPl=s.pl.getD q zPl:=by
   show (s.pl++[Zbe b p]).getD q zPl=_;rw[Zdf,if_neg (by omega)]
  rw[e]at h3;exact h3
 ·rcases h.keys k x hk with h3 | ⟨h3,h4⟩ | ⟨h3,h4,_⟩
  ·exact .inl h3
  ·exact .inr ⟨by omega,h4⟩
  ·exact .inr ⟨by omega,h4⟩
 ·by_cases hq:q=s.pl.length
  ·subst hq;rw[hself];refine⟨.inr hk.kind,⟨b,hk.shape,.inl rfl⟩,fun k hk'=>?_,fun _=>⟨_,rfl⟩⟩;injection hk' with hk'
   subst hk';exact h.fin
  ·rw[hget q hq];have h3:=h.new q (by omega) (by omega);refine⟨h3.kind,?_,h3.inner,h3.pin⟩;obtain⟨k,h4,h5⟩:=h3.shape;refine⟨k,h4,.inr ?_⟩
   rcases h5 with h5 | h5
   ·rw[h5];exact h.fin
   ·exact h5
theorem walk_stp:∀(n b:Nat) (p:S76) (s:St),Stp b s (Zax n b p s).2
 | 0,b,_,s=>Stp.refl b s
 | n+1,b,p,s=>by
  have ih:=walk_stp n;unfold Zax;by_cases c1:p.f0=2∨p.f0=4∨p.f0=3
  ·rw[if_pos c1];by_cases c3:p.f0=3
   ·exact Stp.within ih b p s c3
   ·have hi:=Stp.item (b:=b) (s:=s) c3;show Stp b s (Zhv (Zax n) b p s);unfold Zhv Zey;rw[if_neg c3]
    split
    ·exact hi.trans (Stp.link _ _ _ _)
    ·exact hi
  ·rw[if_neg c1]
   split
   ·exact ((ih b _ s).trans (ih b _ _)).trans (Stp.link _ _ _ _)
   ·split
    ·exact (ih b _ s).trans (ih b _ _)
    ·split
     ·exact (ih b _ s).trans (Stp.link _ _ _ _)
     ·exact Stp.refl b s
theorem pat_stp (n:Nat)(p:S76)(rule step:Int)(s:St):StpP s (Zhp (Zax n) p rule step s) rule step:=StpP.of (walk_stp n) p rule step s
structure StpS (s s':St)(l:List Nat)(i:Int):Prop where
 len:s.pl.length≤s'.pl.length
 old:∀q,q<s.pl.length→Alike (s'.pl.getD q zPl) (s.pl.getD q zPl)
 sh:∀k x,(k,x)∈s.sh→(k,x)∈s'.sh
 keys:∀k x,(k,x)∈s'.sh→(k,x)∈s.sh∨(s.pl.length≤k∧(x.rule=-1∨(x.rule=i∧∃j:Nat,j<l.length∧x.step=j∧l.getD j 0=k)))
 fin:∀q∈l,Fin_ s' q∧s.pl.length≤q∧q<s'.pl.length∧Alike (s'.pl.getD q zPl) (Zbq q)
 new:∀q,s.pl.length≤q→q<s'.pl.length→∃b,Fin_ s' b∧NewOk b s' (s'.pl.getD q zPl)
theorem stepsB_stp (D:Nat)(i:Int)(r:S52)(s:St)(n:Nat):StpS s (Zay D i r s n).1 (Zay D i r s n).2 i:=by
 induction n with
 | zero=>exact⟨Nat.le_refl _,fun _ _=>Alike.refl _,fun _ _ h=>h,fun _ _ h=>.inl h,(fun q hq=>(by cases hq)),fun q h1 h2=>absurd h2 (Nat.not_lt.2 h1)⟩
 | succ n ih=>
  have hp:=pat_stp D (Zgs r n).f1 i n (Zay D i r s n).1;show StpS s (Zhp (Zax D) (Zgs r n).f1 i n (Zay D i r s n).1) ((Zay D i r s n).2++[(Zay D i r s n).1.pl.length]) i;generalize Zhp (Zax D) (Zgs r n).f1 i n (Zay D i r s n).1=s2 at hp ⊢;have hnl:(Zay D i r s n).2.length=n:=by
   clear ih hp
   induction n with
   | zero=>rfl
   | succ n ih=>show ((Zay D i r s n).2++[_]).length=_;rw[List.length_append,ih];rfl
  generalize (Zay D i r s n).1=s1 at ih hp ⊢;generalize (Zay D i r s n).2=l at ih hnl ⊢;have hl1:=ih.len;have hl2:=hp.len;refine⟨by omega,fun q hq=>(hp.old q (by omega)).trans (ih.old q hq),fun k x hk=>hp.sh k x (ih.sh k x hk),fun k x hk=>?_,fun q hq=>?_,fun q h1 h2=>?_⟩
  ·rcases hp.keys k x hk with h | ⟨h,h2⟩ | ⟨h,h2,h3⟩
   ·rcases ih.keys k x h with h | ⟨h,h2⟩
    ·exact .inl h
    ·refine .inr ⟨h,h2.imp id (fun⟨h3,j,h4,h5,h6⟩=>⟨h3,j,by rw[List.length_append];omega,h5,?_⟩)⟩;rw[List.getD_eq_getElem?_getD,List.getElem?_append_left h4,←List.getD_eq_getElem?_getD];exact h6
   ·exact .inr ⟨by omega,.inl h2⟩
   ·refine .inr ⟨by omega,.inr ⟨h2,n,by rw[List.length_append,hnl];simp,h3,?_⟩⟩;rw[List.getD_eq_getElem?_getD,List.getElem?_append_right (by omega),hnl];simp[h]
  ·rcases List.mem_append.1 hq with hq | hq
   ·obtain⟨⟨y,h1⟩,h2,h3,h4⟩:=ih.fin q hq;exact⟨⟨y,hp.sh _ _ h1⟩,h2,by omega,(hp.old q h3).trans h4⟩
   ·rw[List.mem_singleton]at hq;subst hq;exact⟨hp.fin,by omega,hl2,hp.front⟩
  ·rcases Nat.lt_or_ge q s1.pl.length with hq | hq
   ·obtain⟨b,⟨y,h3⟩,h4⟩:=ih.new q h1 hq;exact⟨b,⟨y,hp.sh _ _ h3⟩,h4.alike (hp.old q hq) hp.sh⟩
   ·exact⟨s1.pl.length,hp.fin,hp.new q hq h2⟩
def PlaceOk (s:St)(nr:Nat)(x:Pl):Prop:=
 Alike x Zix∨(∃i:Nat,i<nr∧Alike x (Zgt i))∨∃b,Fin_ s b∧NewOk b s x
structure Built (b:Bt)(nr:Nat):Prop where
 n1:b.steps.length=nr
 n2:b.frees.length=nr
 front:0<b.st.pl.length∧Alike (b.st.pl.getD 0 zPl) Zix
 places:∀q,q<b.st.pl.length→PlaceOk b.st nr (b.st.pl.getD q zPl)
 keys:∀k x,(k,x)∈b.st.sh→x.rule=-1∨∃i j:Nat,i<nr∧x.rule=i∧j<(b.steps.getD i []).length∧x.step=j∧(b.steps.getD i []).getD j 0=k
 fin:∀i,∀q∈b.steps.getD i [],Fin_ b.st q∧q<b.st.pl.length∧Alike (b.st.pl.getD q zPl) (Zbq q)
 frees:∀i,i<nr→b.frees.getD i 0=-1∨(0≤b.frees.getD i 0∧b.frees.getD i 0<b.st.pl.length∧Alike (b.st.pl.getD (b.frees.getD i 0).toNat zPl) (Zgt i))
theorem PlaceOk.step {s s':St}{nr:Nat}{x y:Pl}(h:PlaceOk s nr x)(ha:Alike y x)(hs:∀k z,(k,z)∈s.sh→(k,z)∈s'.sh):PlaceOk s' (nr+1) y:=by
 rcases h with h | ⟨i,h1,h2⟩ | ⟨b,⟨z,h1⟩,h2⟩
 ·exact .inl (ha.trans h)
 ·exact .inr (.inl ⟨i,by omega,ha.trans h2⟩)
 ·exact .inr (.inr ⟨b,⟨z,hs _ _ h1⟩,h2.alike ha hs⟩)
theorem Zef {α:Type}(l:List α)(x d:α)(i:Nat):(l++[x]).getD i d=if i=l.length then x else l.getD i d:=by
 rw[List.getD_eq_getElem?_getD,List.getD_eq_getElem?_getD]
 rcases Nat.lt_trichotomy i l.length with hq | hq | hq
 ·rw[List.getElem?_append_left hq,if_neg (by omega)]
 ·subst hq;simp
 ·rw[List.getElem?_eq_none (by simp;omega),List.getElem?_eq_none (by omega),if_neg (by omega)]
theorem built_rule (D:Nat)(r:S52)(b:Bt)(nr:Nat)(h:Built b nr):Built (Zqn D nr r b) (nr+1):=by
 have hf:b.st.pl.length≤(Zdg nr r b.st).pl.length∧(Zdg nr r b.st).sh=b.st.sh∧(∀q,q<b.st.pl.length→(Zdg nr r b.st).pl.getD q zPl=b.st.pl.getD q zPl) ∧
  ((Zdg nr r b.st).pl.length=b.st.pl.length∧Zls r b.st=-1∨(Zdg nr r b.st).pl.length=b.st.pl.length+1∧Zls r b.st=b.st.pl.length∧(Zdg nr r b.st).pl.getD b.st.pl.length zPl=Zgt nr):=by
  unfold Zdg Zls;by_cases hr:r.f1=true
  ·rw[if_pos hr,if_pos hr];refine⟨by simp[St.add],rfl,fun q hq=>?_,.inr ⟨by simp[St.add],rfl,?_⟩⟩
   ·show (b.st.pl++[Zgt nr]).getD q zPl=_;rw[Zdf,if_neg (by omega)]
   ·show (b.st.pl++[Zgt nr]).getD b.st.pl.length zPl=_;rw[Zdf,if_pos rfl]
  ·rw[if_neg hr,if_neg hr];exact⟨Nat.le_refl _,rfl,fun _ _=>rfl,.inl ⟨rfl,rfl⟩⟩
 have hs:=stepsB_stp D nr r (Zdg nr r b.st) r.f2.length;unfold Zqn;generalize (Zay D nr r (Zdg nr r b.st) r.f2.length).1=s2 at hs ⊢;generalize (Zay D nr r (Zdg nr r b.st) r.f2.length).2=l at hs ⊢;generalize Zdg nr r b.st=s1 at hf hs;generalize Zls r b.st=f at hf ⊢;obtain⟨f1,f2,f3,f4⟩:=hf;have hlen:=hs.len;have hold:∀q,q<b.st.pl.length→Alike (s2.pl.getD q zPl) (b.st.pl.getD q zPl):=fun q hq=>by
  have:=hs.old q (by omega);rwa[f3 q hq]at this
 have hsub:∀k z,(k,z)∈b.st.sh→(k,z)∈s2.sh:=fun k z hk=>hs.sh k z (by rw[f2];exact hk)
 refine⟨by simp[h.n1],by simp[h.n2],⟨?_,?_⟩,fun q hq=>?_,fun k x hk=>?_,fun i q hq=>?_,fun i hi=>?_⟩
 ·show 0<s2.pl.length;have:=h.front.1;omega
 ·exact (hold 0 h.front.1).trans h.front.2
 ·show PlaceOk s2 (nr+1) (s2.pl.getD q zPl)
  rcases Nat.lt_or_ge q b.st.pl.length with h1 | h1
  ·exact (h.places q h1).step (hold q h1) hsub
  ·rcases Nat.lt_or_ge q s1.pl.length with h2 | h2
   ·rcases f4 with⟨f5,_⟩ | ⟨f5,_,f6⟩
    ·omega
    ·obtain rfl:q=b.st.pl.length:=by omega
     have h3:=hs.old b.st.pl.length h2;rw[f6]at h3;exact .inr (.inl ⟨nr,by omega,h3⟩)
   ·exact .inr (.inr (hs.new q h2 hq))
 ·rcases hs.keys k x hk with h1 | ⟨_,h1 | ⟨h2,j,h3,h4,h5⟩⟩
  ·rw[f2]at h1
   rcases h.keys k x h1 with h2 | ⟨i,j,h2,h3,h4,h5,h6⟩
   ·exact .inl h2
   ·refine .inr ⟨i,j,by omega,h3,?_,h5,?_⟩
    ·show j<((b.steps++[l]).getD i []).length;rw[Zef,if_neg (by rw[h.n1];omega)];exact h4
    ·show ((b.steps++[l]).getD i []).getD j 0=k;rw[Zef,if_neg (by rw[h.n1];omega)];exact h6
  ·exact .inl h1
  ·refine .inr ⟨nr,j,by omega,h2,?_,h4,?_⟩
   ·show j<((b.steps++[l]).getD nr []).length;rw[Zef,if_pos h.n1.symm];exact h3
   ·show ((b.steps++[l]).getD nr []).getD j 0=k;rw[Zef,if_pos h.n1.symm];exact h5
 ·have hq:q∈(b.steps++[l]).getD i []:=hq;rw[Zef]at hq
  split at hq
  ·obtain⟨h1,_,h2,h3⟩:=hs.fin q hq;exact⟨h1,h2,h3⟩
  ·obtain⟨⟨y,h1⟩,h2,h3⟩:=h.fin i q hq;exact⟨⟨y,hsub _ _ h1⟩,(by show q<s2.pl.length;omega),(hold q h2).trans h3⟩
 ·show (b.frees++[f]).getD i 0=-1∨(0≤(b.frees++[f]).getD i 0∧(b.frees++[f]).getD i 0<(s2.pl.length:Int)∧Alike (s2.pl.getD ((b.frees++[f]).getD i 0).toNat zPl) (Zgt i));rw[Zef]
  split
  ·rename_i hi2
   rw[h.n2]at hi2;subst hi2
   rcases f4 with⟨_,f5⟩ | ⟨f5,f6,f7⟩
   ·exact .inl f5
   ·refine .inr ⟨by omega,by omega,?_⟩;rw[f6,Int.toNat_natCast];have h3:=hs.old b.st.pl.length (by omega);rw[f7]at h3;exact h3
  ·rename_i hi2
   rw[h.n2]at hi2
   rcases h.frees i (by omega)with h1 | ⟨h1,h2,h3⟩
   ·exact .inl h1
   ·exact .inr ⟨h1,by omega,(hold _ (by omega)).trans h3⟩
theorem Zpx (D:Nat)(G:S26)(n:Nat):Built (Zbl D G n) n:=by
 induction n with
 | zero=>
  refine⟨rfl,rfl,⟨Nat.one_pos,Alike.refl _⟩,fun q hq=>?_,fun k x hk=>(by cases hk),fun i q hq=>?_,fun i hi=>(by omega)⟩
  ·obtain rfl:q=0:=by have hq:q<1:=hq;omega
   exact .inl (Alike.refl _)
  ·have hq:q∈([]:List (List Nat)).getD i []:=hq;simp at hq
 | succ n ih=>exact built_rule D (Zcq G n) _ n ih
structure RulesOk (D:Nat)(G:S26):Prop where
 pats:∀i k:Nat,i<G.f1.length→k<(Zcq G i).f2.length→Zfc D (Zgs (Zcq G i) k).f1
 few:buildN D G G.f1.length≤100000
theorem VS.start (w X:World)(gb:Nat)(h0 h1:Value)(φ:Nat→Nat)(hb:X.heap[gb]?=some (.cells #[h0,h1,.slice none 0 0,.slice none 0 0,.slice none 0 0] 118 (0,0)))(hge:w.heap.size≤gb)(hB:Below w.heap.size w X) :
 VS (W0.off w (.slice none 0 0)) X gb h0 h1 (.slice none 0 0) (.slice none 0 0) φ (.slice none 0 0) [] []:=
 ⟨hge,hb,OwnRow.none_ _ _ _ _ _,(fun _ _ h=>(by cases h)),hB,(fun k _=>(by show Value.ownBlock _≠some k;simp[Value.ownBlock]))⟩
theorem Zrr (D:Nat)(G:S26){i n:Nat}(h:i≤n):buildN D G i≤buildN D G n:=by
 induction h with
 | refl=>exact Nat.le_refl _
 | step _ ih=>exact Nat.le_trans ih (Nat.le_add_right _ _)
theorem Zqj (D:Nat)(r:S52){i n:Nat}(h:i≤n):stepsN D r i≤stepsN D r n:=by
 induction h with
 | refl=>exact Nat.le_refl _
 | step _ ih=>exact Nat.le_trans ih (Nat.le_add_right _ _)
theorem stepsN_ge (D:Nat)(r:S52)(n:Nat):n≤stepsN D r n:=by
 induction n with
 | zero=>exact Nat.le_refl _
 | succ n ih=>show n+1≤stepsN D r n+(1+Zcy D (Zgs r n).f1);omega
theorem RulesOk.fewer {D:Nat}{G:S26}(h:RulesOk D G){k:Nat}(hk:k<G.f1.length):buildN D G k+((if (Zcq G k).f1=true then 1 else 0)+stepsN D (Zcq G k) (Zcq G k).f2.length)≤100000:=Nat.le_trans (Zrr D G hk) h.few
theorem Zmy (D:Nat)(i:Int)(r:S52)(s:St)(n:Nat):(Zay D i r s n).2.length=n:=by
 induction n with
 | zero=>rfl
 | succ n ih=>show ((Zay D i r s n).2++[_]).length=_;rw[List.length_append,ih];rfl
theorem info88:(Tryz.prog.info? 120).map (fun i=>(i.zero,i.size,i.bytes))=some (some (.pointer none),1,8):=by kernel_rfl
theorem one_P {W:World}{φ:Nat→Nat}{g:Nat}(hg:g=W.heap.size)(q:Nat):(Zgl φ).C (W.alloc (.cells #[.pointer (some ⟨φ q,0,none⟩)] 120)) (some ⟨g,0,none⟩) 1 [q]:=by
 subst hg;have h:=OwnRow.lit (R:=fun (p:Nat) cs=>cs=[Value.pointer (some ⟨φ p,0,none⟩)]) (e:=120) (size:=1) (ps:=[q]) W W.heap.size (inner:=[.pointer (some ⟨φ q,0,none⟩)]) ⟨rfl,fun j p hj=>by
  cases j with
  | zero=>simp at hj;subst hj;rfl
  | succ j=>simp at hj⟩ (Nat.le_refl _) (by simp)
 obtain⟨A,c,e,_,hr⟩:=h.reads;injection e with e _ _
 subst e;exact hr.imp_ Zbr (fun _ _ hp=>hp)
def Bt.mach (b:Bt):Mach:=⟨b.st.pl,b.st.sh,b.steps,b.frees⟩
theorem shAt_mem {l:List (Nat × Sh)}{k:Nat}{x:Sh}(h:(k,x)∈l):(k,Zer l k)∈l:=by
 induction l with
 | nil=>cases h
 | cons a r ih=>
  obtain⟨j,y⟩:=a;unfold Zer;by_cases e:j=k
  ·rw[if_pos e];subst e;exact List.mem_cons_self
  ·rw[if_neg e];refine List.mem_cons_of_mem _ (ih ?_)
   rcases List.mem_cons.1 h with h | h
   ·injection h with h1 _;exact absurd h1.symm e
   ·exact h
theorem Zno {s:St}{k:Nat}(h:Fin_ s k):(k,Zer s.sh k)∈s.sh:=by
 obtain⟨x,hx⟩:=h;exact shAt_mem hx
def Short (b:Bt):Prop:=∀q,q<b.st.pl.length→(b.st.pl.getD q zPl).p.f1.length≤100000∧(b.st.pl.getD q zPl).p.f2.length≤100000
theorem built_ok {b:Bt}{nr:Nat}{φ:Nat→Nat}(h:Built b nr)(hg:Good b.st)(hi:Zge φ b.st.sh)(hs:Short b)(hl:b.st.pl.length≤100000)(hn:nr≤1000)(hr:∀i:Nat,(b.steps.getD i []).length≤1000)(hp:∀i:Nat,i<nr→∃k r,b.steps.getD i []=k :: r):b.mach.Ok φ:=by
 have at_:∀i:Int,0≤i→i<b.st.pl.length→i.toNat<b.st.pl.length:=fun i h0 h1=>by omega
 have pk:∀i:Int,0≤i→i<b.st.pl.length→PlaceOk b.st nr (Zbf b.st.pl i):=fun i h0 h1=>h.places i.toNat (at_ i h0 h1)
 have shp:∀x,PlaceOk b.st nr x→∀k,x.shape=some k→(k,Zer b.st.sh k)∈b.st.sh:=fun x hx k hk=>by
  rcases hx with hx | ⟨i,_,hx⟩ | ⟨j,hj,hx⟩
  ·rw[hx.shape]at hk;cases hk
  ·rw[hx.shape]at hk;cases hk
  ·obtain⟨k',h1,h2⟩:=hx.shape;rw[h1]at hk;injection hk with hk
   subst hk
   rcases h2 with h2 | h2
   ·subst h2;exact Zno hj
   ·exact Zno h2
 refine⟨fun i h0 h1 k hk=>shp _ (pk i h0 h1) k hk,fun i h0 h1 k hk=>?_,fun i h0 h1 hk=>?_,fun i h0 h1 hk=>?_,fun k k' s s' h1 h2 h3=>hi k k' s s' h1 h2 h3,hl,fun i h0 h1=>?_,fun k s hk h0=>?_,fun i hi'=>?_,fun i k hk=>?_,⟨by rw[show b.mach.steps.length=nr from h.n1];exact hn,by rw[show b.mach.frees.length=nr from h.n2];exact hn,hr⟩,fun k s hk=>?_⟩
 ·rcases pk i h0 h1 with hx | ⟨j,_,hx⟩ | ⟨j,hj,hx⟩
  ·have hk2:(Zbf b.st.pl i).inner=some k:=hk;rw[hx.inner]at hk2;cases hk2
  ·have hk2:(Zbf b.st.pl i).inner=some k:=hk;rw[hx.inner]at hk2;cases hk2
  ·exact Zno (hx.inner k hk)
 ·rcases pk i h0 h1 with hx | ⟨j,_,hx⟩ | ⟨j,hj,hx⟩
  ·have hk2:(Zbf b.st.pl i).kind=2:=hk;rw[hx.kind]at hk2;cases hk2
  ·have hk2:(Zbf b.st.pl i).kind=2:=hk;rw[hx.kind]at hk2;cases hk2
  ·obtain⟨k',h3,_⟩:=hx.shape;exact⟨k',h3⟩
 ·rcases pk i h0 h1 with hx | ⟨j,_,hx⟩ | ⟨j,hj,hx⟩
  ·have hk2:(Zbf b.st.pl i).p.f0=3:=hk;rw[hx.p]at hk2;cases hk2
  ·have hk2:(Zbf b.st.pl i).p.f0=3:=hk;rw[hx.p]at hk2;cases hk2
  ·exact hx.pin hk
 ·have h2:=hg.ris i.toNat;have h3:=hs i.toNat (at_ i h0 h1);exact⟨Nat.le_trans h2.len hl,h3.1,h3.2,h2.2⟩
 ·rcases h.keys k s hk with h1 | ⟨i,j,h1,h2,h3,h4,_⟩
  ·omega
  ·have:=hr i;refine⟨?_,by omega,by omega⟩;show s.rule<(b.steps.length:Int);rw[h.n1];omega
 ·have hi2:i<b.frees.length:=hi';rw[h.n2]at hi2;exact⟨by show i<b.steps.length;rw[h.n1];exact hi2,hp i hi2⟩
 ·exact Zno (h.fin i k hk).1
 ·have h1:=hg.shs k s hk;exact⟨Nat.le_trans h1.2.1.len hl,Nat.le_trans h1.2.2.len hl,h1.2.1.2⟩
theorem stepsB_len (D:Nat)(i:Int)(r:S52)(s:St)(n:Nat):(Zay D i r s n).2.length=n:=by
 induction n with
 | zero=>rfl
 | succ n ih=>show ((Zay D i r s n).2++[_]).length=_;rw[List.length_append,ih];rfl
theorem Ziu (D:Nat)(G:S26)(n i:Nat)(hi:i<n):((Zbl D G n).steps.getD i []).length=(Zcq G i).f2.length:=by
 induction n with
 | zero=>omega
 | succ n ih=>
  show (((Zbl D G n).steps++[(Zay D n (Zcq G n) (Zdg n (Zcq G n) (Zbl D G n).st) (Zcq G n).f2.length).2]).getD i []).length=_;rw[Zef,(Zpx D G n).n1]
  split
  ·rename_i h
   rw[stepsB_len,h]
  ·exact ih (by omega)
structure Zog (G:S26):Prop where
 calls:∀i j:Int,0≤i→i<G.f1.length→0≤j→j<(Zcq G i).f2.length→(Zgs (Zcq G i) j).f0.length≤100000
 short:∀i:Int,0≤i→i<G.f1.length→(Zcq G i).f2.length≤1000
theorem build_fits (D:Nat)(G:S26)(h:Zog G):Fits G (Zbl D G G.f1.length).mach:=by
 refine⟨fun i h0 h1=>⟨?_,?_⟩,h.calls,h.short⟩
 ·show i<((Zbl D G G.f1.length).steps.length:Int);rw[(Zpx D G _).n1];exact h1
 ·have h2:=Ziu D G G.f1.length i.toNat (by omega);rw[show ((i.toNat:Nat):Int)=i by omega]at h2;exact h2
theorem Zrq (D:Nat)(G:S26):Fits2 G (Zbl D G G.f1.length).mach:=by
 have hb:=Zpx D G G.f1.length;refine⟨hb.n1,fun i h0 h1 hk=>?_⟩;have h2:i.toNat<(Zbl D G G.f1.length).st.pl.length:=by
  have h1:i<((Zbl D G G.f1.length).st.pl.length:Int):=h1;omega
 have hk2:((Zbl D G G.f1.length).st.pl.getD i.toNat zPl).kind=1:=hk;show 0≤((Zbl D G G.f1.length).st.pl.getD i.toNat zPl).rule∧((Zbl D G G.f1.length).st.pl.getD i.toNat zPl).rule<G.f1.length
 rcases hb.places i.toNat h2 with hx | ⟨j,hj,hx⟩ | ⟨j,hj,hx⟩
 ·rw[hx.kind]at hk2;cases hk2
 ·rw[hx.rule];show (0:Int)≤(j:Int)∧(j:Int)<_;omega
 ·rcases hx.kind with h3 | h3 <;> rw[h3]at hk2 <;> cases hk2
end Go.Proofs.YtaokkliamoghbaaGreatDoor.PVpa
