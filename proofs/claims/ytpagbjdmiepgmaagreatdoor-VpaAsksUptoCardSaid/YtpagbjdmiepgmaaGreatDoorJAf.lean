/- Joined from texts of this seat, in their order. -/
import Derived.Test.YtpagbjdmiepgmaaGreatDoorJAb
import Derived.Test.YtpagbjdmiepgmaaGreatDoorJAd
import Derived.Test.YtpagbjdmiepgmaaGreatDoorJAc
set_option linter.unusedVariables false
set_option linter.unusedSimpArgs false
set_option linter.unusedSectionVars false
set_option maxRecDepth 100000
namespace Go
section
variable {P:Program}{ops:Array Oper}{md:Region.Mode}
structure GInv3 (md:Region.Mode)(ops:Array Oper)(m:Nat)(a0:Act)(deps:Nat→List Nat)(Φ:Nat→List Value→World→Prop)(Pre:Nat→World→Prop)(R:World→World→Prop)(w0:World)(listed:Array Bool)(a:Act)(vals:Nat→Value)(w:World):Prop where
 size:a.tmps.size=a0.tmps.size
 defers:a.defers=a0.defers
 lsize:listed.size=ops.size
 done:∀j,j<m→listed.getD j true=true→∀d,Zai ops j=some d→a.tmps.getD d undef=vals j
 open_:∀t,(∀j,j<m→listed.getD j true=true→Zai ops j≠some t)→a.tmps.getD t undef=a0.tmps.getD t undef
 facts:∀j,j<m→listed.getD j true=true→Φ j ((j :: deps j).map vals) w
 rel:R w0 w
 tail:∀t,m≤t→t<ops.size→listed.getD t true=false
 closed:∀j,j<m→listed.getD j true=true→∀i,Region.waitsFor md ops j i=true→listed.getD i false=true
 pre:∀j,j<m→listed.getD j true=false→Pre j w
def aftB (md:Region.Mode)(ops:Array Oper)(m:Nat)(aft:Nat→Nat→Bool):Bool:=
 (List.range m).all fun i=>(List.range m).all fun j=>aft i j||i==j||Region.waitsFor md ops i j||(List.range i).any fun k=>Region.waitsFor md ops i k&&!aft k j
theorem getD_tf {listed:Array Bool}{i:Nat}(h:listed.getD i false=true):listed.getD i true=true:=by
 by_cases hi:i<listed.size
 ·simp[hi]at h ⊢;exact h
 ·simp[Array.getElem?_eq_none (Nat.le_of_not_lt hi)]
theorem Zor {m:Nat}{aft:Nat→Nat→Bool}(hA:aftB md ops m aft=true){listed:Array Bool}(hc:∀i,i<m→listed.getD i true=true→∀j,Region.waitsFor md ops i j=true→listed.getD j false=true) :
 ∀i,i<m→(∀j,Region.waitsFor md ops i j=true→listed.getD j false=true)→∀j,j<m→i≠j→aft i j=false→listed.getD j false=true:=by
 intro i
 induction i using Nat.strongRecOn with
 | _ i ih=>
  intro hi hw j hj hne ha;simp only[aftB,List.all_eq_true,List.mem_range,Bool.or_eq_true,List.any_eq_true,Bool.and_eq_true,Bool.not_eq_true',beq_iff_eq]at hA
  rcases hA i hi j hj with ((h | h) | h) | ⟨k,hk,h1,h2⟩
  ·rw[ha]at h;cases h
  ·exact absurd h hne
  ·exact hw j h
  ·have hl:=hw k h1;by_cases hkj:k=j
   ·rw[←hkj];exact hl
   ·exact ih k hk (by omega) (fun j2 h2=>hc k (by omega) (getD_tf hl) j2 h2) j hj hkj h2
section main3
variable {Q:Exit→Act→World→Prop}{a0:Act}{w0:World}{m N:Nat}{deps:Nat→List Nat}{Φ:Nat→List Value→World→Prop}{aft:Nat→Nat→Bool}{Pre:Nat→World→Prop}{Rs:Nat→World→World→Prop}{R:World→World→Prop}
theorem grow_go3 (hB:Zhc md ops m N deps=true)(hT:Region.seqB md ops (ops.size-m) m (Zbv m ops.size)=true)(hN:a0.tmps.size=N)(hRt:∀w w1 w2,R w w1→R w1 w2→R w w2)
 (hRs:∀j w w',Rs j w w'→R w w') (hA:aftB md ops m aft=true) (stab:∀i j vs w w',i≠j→aft i j=true→R w0 w→Pre j w→Φ i vs w→Rs j w w'→Φ i vs w') (pstab:∀i j w w',i≠j→aft j i=true→R w0 w→Pre j w→Pre i w→Rs j w w'→Pre i w')
 (step:∀i o,i<m→ops[i]?=some o→∀(vals:Nat→Value) W,R w0 W→Pre i W→(∀j∈deps i,Φ j ((j :: deps j).map vals) W) →
  ∀K:Act→World→Prop,(∀v w',Rs i W w'→Φ i (v :: (deps i).map vals) w'→K ((Zao ops a0 vals (deps i)).put o.dst v) w')→if Region.wanted o (yielded ops (Zao ops a0 vals (deps i)).tmps)=true then Oper.wp P o (Zao ops a0 vals (deps i)) W K (fun _ _ _=>False)else K ((Zao ops a0 vals (deps i)).put o.dst undef) W)
 (fin:∀(vals:Nat→Value) W,R w0 W→(∀j,j<m→Φ j ((j :: deps j).map vals) W)→wpList P ops Q (ops.toList.drop m) (Zao ops a0 vals (List.range m)) W) :
 ∀k listed a w vals,Zjb listed m=k→GInv3 md ops m a0 deps Φ Pre R w0 listed a vals w→wpAny P md ops Q (ops.size-m+k) listed a w:=by
 simp only[Zhc,Bool.and_eq_true,Bool.or_eq_true,decide_eq_true_eq]at hB;obtain⟨⟨⟨hsel,hms⟩,hall⟩,hsink⟩:=hB;simp only[Bool.and_eq_true,List.all_eq_true,List.mem_range,decide_eq_true_eq]at hall;have hdst:∀j,j<m→∀e,Zai ops j=some e→e<a0.tmps.size:=fun j hj e he=>by
  have:=(hall j hj).1.2;rw[he]at this;rw[hN];simpa using this
 have hdis:∀i j,i<m→j<m→∀t,Zai ops i=some t→Zai ops j=some t→j=i:=fun i j hi hj t h1 h2=>by
  have:=(hall i hi).2 j hj;simp only[Bool.or_eq_true,beq_iff_eq,bne_iff_ne,ne_eq,h1,h2,Option.isNone_some,Bool.false_eq_true,or_false,not_true_eq_false]at this;exact this
 intro k
 induction k with
 | zero=>
  intro listed a w vals hc inv;have hl:=Zgk m hc;have e1:listed=Zbv m ops.size:=by
   apply Array.ext
   ·simp[Zbv,inv.lsize]
   ·intro i h1 h2;have hi:i<ops.size:=by rw[←inv.lsize];exact h1
    simp only[Zbv,Array.getElem_map,Array.getElem_range];by_cases him:i<m
    ·have:=hl i him;simp[h1]at this;rw[this,decide_eq_true him]
    ·have:=inv.tail i (by omega) hi;simp[h1]at this;rw[this,decide_eq_false him]
  have e2:a=Zao ops a0 vals (List.range m):=by
   refine Act.ext' (by rw[Zdl];exact inv.size) (by rw[Zdj];exact inv.defers) (fun t=>?_);have hg:=Zff (ops:=ops) a0 vals t (List.range m) (fun j hj=>hdst j (List.mem_range.1 hj));by_cases hx:∃j,j<m∧Zai ops j=some t
   ·obtain⟨j,hj,hd⟩:=hx;rw[hg.1 j (List.mem_range.2 hj) hd (fun i hi hd2=>hdis j i hj (List.mem_range.1 hi) t hd hd2)];exact inv.done j hj (hl j hj) t hd
   ·rw[hg.2 (fun j hj hd=>hx ⟨j,List.mem_range.1 hj,hd⟩)];exact inv.open_ t (fun j hj _ hd=>hx ⟨j,hj,hd⟩)
  rw[e1,e2];have hlen:(ops.toList.drop m).length=ops.size-m:=by simp
  have h3:=wpAny_of_seq (P:=P) (md:=md) (ops:=ops) (Q':=Q) (ops.toList.drop m) m (Zbv m ops.size) (Zao ops a0 vals (List.range m)) w (fun j=>by simp) (by rw[hlen];exact hT) (fin vals w inv.rel (fun j hj=>inv.facts j hj (hl j hj)));rw[hlen]at h3;exact h3
 | succ k ih=>
  intro listed a w vals hc inv;obtain⟨j0,hj0,hu0,hb0⟩:=Zgl m (by omega:Zjb listed m≠0);have hin:∀i,i<ops.size→listed.getD i true=true→listed.getD i false=true:=fun i hi h=>by
   have:i<listed.size:=by rw[inv.lsize];exact hi
   simp[this]at h ⊢;exact h
  refine⟨fun h0=>?_,fun i hi=>?_⟩
  ·have hr:j0∈Region.ready md ops listed:=by
    have h1:=(hall j0 hj0).1.1.1.1;cases ho:ops[j0]? with
    | none=>rw[ho]at h1;cases h1
    | some o=>
     rw[ho]at h1;simp only[Bool.and_eq_true,Array.all_eq_true_iff_forall_mem]at h1;refine mem_ready.2 ⟨hu0,o,ho,fun e he hb=>?_⟩;have h2:=h1.2 e he;rw[hb]at h2;simp at h2;exact hin _ (by omega) (hb0 _ h2)
   rw[h0]at hr;cases hr
  ·obtain⟨hui,o,ho,hafter⟩:=mem_ready.1 hi;have him:i<m:=by
    rcases Nat.lt_or_ge i m with h | h
    ·exact h
    ·exfalso
     have his:i<ops.size:=(Array.getElem?_eq_some_iff.1 ho).1
     rcases hsink with h2 | ⟨hs1,hs2⟩
     ·omega
     ·have hinv:HeadInv md ops m listed:=⟨inv.lsize,fun j oj hj hl e he hb=>?_,inv.tail⟩
      ·exact tail_waits hs1 hs2 (by omega) hinv (m-j0) j0 rfl hj0 hu0 i h hi
      ·have hjs:j<ops.size:=(Array.getElem?_eq_some_iff.1 hj).1;have hl2:listed.getD j true=true:=by
        have:j<listed.size:=by rw[inv.lsize];exact hjs
        simp[this]at hl ⊢;exact hl
       rcases Nat.lt_or_ge j m with hjm | hjm
       ·refine inv.closed j hjm hl2 e.on ?_
        unfold Region.waitsFor;rw[hj];exact Array.any_eq_true'.2 ⟨e,he,by simp[hb]⟩
       ·have:=inv.tail j hjm hjs;rw[hl2]at this;cases this
   have hfact:=hall i him;have hdl:∀j∈deps i,j<m∧listed.getD j true=true:=fun j hj=>by
    obtain⟨h2,h3⟩:=hfact.1.1.1.2 j hj;refine⟨h2,?_⟩;have h4:=Zct hi h3;cases hb:listed.getD j true with
    | true=>rfl
    | false=>have:=getD_both hb;rw[h4]at this;cases this
   have hdo:Zai ops i=o.dst:=by unfold Zai;rw[ho];rfl
   have hlk:looks ops i=o.looksAt ops:=by unfold looks;rw[ho]
   have hsame:∀t∈o.looksAt ops,a.tmps.getD t undef=(Zao ops a0 vals (deps i)).tmps.getD t undef:=fun t ht=>by
    have h1:=hfact.1.1.2;rw[hlk]at h1;have h1:=h1 t ht;simp only[Bool.or_eq_true,List.any_eq_true,List.all_eq_true,beq_iff_eq,bne_iff_ne,ne_eq,List.mem_range]at h1;have hg:=Zff (ops:=ops) a0 vals t (deps i) (fun j hj=>hdst j (hdl j hj).1)
    rcases h1 with⟨j,hj,hd⟩ | h2
    ·rw[hg.1 j hj hd (fun k hk hd2=>hdis j k (hdl j hj).1 (hdl k hk).1 t hd hd2)];exact inv.done j (hdl j hj).1 (hdl j hj).2 t hd
    ·have hno:∀j,j<m→listed.getD j true=true→Zai ops j≠some t:=fun j hj hlj hd=>by
      rcases h2 j hj with (h3 | h3) | h3
      ·exact h3 hd
      ·subst h3;rw[hui]at hlj;cases hlj
      ·have h5:=inv.closed j hj hlj i h3;have h4:=getD_both hui;rw[h5]at h4;cases h4
     rw[inv.open_ t hno,hg.2 (fun j hj=>hno j (hdl j hj).1 (hdl j hj).2)]
   have hgd:o.guard=none:=by
    have h1:=hfact.1.1.1.1;rw[ho]at h1;simp only[Bool.and_eq_true,Option.isNone_iff_eq_none]at h1;exact h1.1
   have hwant:∀tmps,Region.wanted o (yielded ops tmps)=true:=fun tmps=>by unfold Region.wanted;rw[hgd]
   have hnot:i ∉ deps i:=fun h=>by
    have:=(hdl i h).2;rw[hui]at this;cases this
   have hst:=step i o him ho vals w inv.rel (inv.pre i him hui) (fun j hj=>inv.facts j (hdl j hj).1 (hdl j hj).2)
    (fun a' w'=>∃v,a'=(Zao ops a0 vals (deps i)).put o.dst v∧Rs i w w'∧Φ i (v :: (deps i).map vals) w') (fun v w' h1 h2=>⟨v,rfl,h1,h2⟩)
   rw[if_pos (hwant _)]at hst;have hev:execOp a.eval o=execOp (Zao ops a0 vals (deps i)).eval o:=execOp_congr o (fun cs b=>Region.noSelect_spec hsel i o cs b ho) (fun x hx=>by
    cases x with
    | tmp t=>exact hsame t (List.mem_append_left _ (List.mem_filterMap.2 ⟨.tmp t,by simpa using hx,rfl⟩))
    | _=>rfl)
   unfold wpOp;simp only[ho,hwant,if_true];refine .inl (Zgo hev (fun e he=>by rw[Zdl];exact hdst i him e (hdo.trans he)) (by rw[Zdj];exact inv.defers) ?_ hst);rintro v w' ⟨hR,hΦ⟩;have hmap:∀l:List Nat,i ∉ l→l.map (fun j=>if j=i then v else vals j)=l.map vals:=fun l hl=>List.map_congr_left (fun j hj=>if_neg (fun e:j=i=>hl (by rw[←e];exact hj)))
   have his:i<listed.size:=by rw[inv.lsize];exact (Array.getElem?_eq_some_iff.1 ho).1
   have hset:∀j,(listed.setIfInBounds i true).getD j true=true→j≠i→listed.getD j true=true:=fun j hj hne=>by
    rw[getD_set_ne true (fun e=>hne e.symm)]at hj;exact hj
   have haft:∀j,j<m→listed.getD j true=true→aft j i=true:=fun j hj hlj=>by
    cases hb:aft j i with
    | true=>rfl
    | false=>
     have h9:=Zor hA inv.closed j hj (inv.closed j hj hlj) i him (fun e=>by subst e;rw[hui]at hlj;cases hlj) hb;have h8:=getD_both hui;rw[h9]at h8;cases h8
   have haft2:∀j,j<m→i≠j→listed.getD j true=false→aft i j=true:=fun j hj hne hlj=>by
    cases hb:aft i j with
    | true=>rfl
    | false=>
     have h9:=Zor hA inv.closed i him (fun k hk=>Zct hi hk) j hj hne hb;have h8:=getD_both hlj;rw[h9]at h8;cases h8
   refine ih (listed.setIfInBounds i true) (a.put o.dst v) w' (fun j=>if j=i then v else vals j) ?_ ⟨?_,?_,?_,?_,?_,?_,?_,?_,?_,?_⟩
   ·have:=Zjr hui m;rw[if_pos him]at this;omega
   ·rw[Zjh];exact inv.size
   ·rw[Zer];exact inv.defers
   ·simp[inv.lsize]
   ·intro j hj hlj d hd;rw[Zfl _ _ _ _ (fun e he=>by rw[inv.size];exact hdst i him e (hdo.trans he))];by_cases hji:j=i
    ·subst hji;rw[if_pos (hdo.symm.trans hd),if_pos rfl]
    ·rw[if_neg (fun h=>hji (hdis i j him hj d (hdo.trans h) hd)),if_neg hji];exact inv.done j hj (hset j hlj hji) d hd
   ·intro t ht;have hti:=ht i him (by simp[his]);rw[Zfl _ _ _ _ (fun e he=>by rw[inv.size];exact hdst i him e (hdo.trans he)),if_neg (fun h=>hti (hdo.trans h))];refine inv.open_ t (fun j hj hlj=>?_);by_cases hji:j=i
    ·subst hji;exact hti
    ·exact ht j hj (by rw[getD_set_ne true (fun e=>hji e.symm)];exact hlj)
   ·intro j hj hlj;by_cases hji:j=i
    ·subst hji;have e:(j :: deps j).map (fun k=>if k=j then v else vals k)=v :: (deps j).map vals:=by
      rw[List.map_cons,if_pos rfl,hmap _ hnot]
     rw[e];exact hΦ
    ·have hlj':=hset j hlj hji;rw[hmap (j :: deps j) (fun h=>by
      rcases List.mem_cons.1 h with h | h
      ·exact hji h.symm
      ·have h2:=inv.closed j hj hlj' i ((hall j hj).1.1.1.2 i h).2;have h4:=getD_both hui;rw[h2]at h4;cases h4)]
     exact stab _ _ _ _ _ hji (haft j hj hlj') inv.rel (inv.pre i him hui) (inv.facts j hj hlj') hR
   ·exact hRt _ _ _ inv.rel (hRs _ _ _ hR)
   ·intro t ht ht2;rw[getD_set_ne true (by omega)];exact inv.tail t ht ht2
   ·intro j hj hlj k hk;by_cases hki:k=i
    ·subst hki;simp[his]
    ·rw[getD_set_ne false (fun e=>hki e.symm)];by_cases hji:j=i
     ·subst hji;exact Zct hi hk
     ·exact inv.closed j hj (hset j hlj hji) k hk
   ·intro j hj hlj;have hji:j≠i:=fun e=>by
     subst e;have:(listed.setIfInBounds j true).getD j true=true:=by simp[his]
     rw[this]at hlj;cases hlj
    rw[getD_set_ne true (fun e=>hji e.symm)]at hlj;exact pstab j i _ _ hji (haft2 j hj (fun e=>hji e.symm) hlj) inv.rel (inv.pre i him hui) (inv.pre j hj hlj) hR
end main3
theorem Zli {id:Nat}{Q:Exit→Act→World→Prop}{a0:Act}{w:World}{l:List Oper}(m N:Nat)(deps:Nat→List Nat)(Φ:Nat→List Value→World→Prop)(aft:Nat→Nat→Bool)(Pre:Nat→World→Prop)(Rs:Nat→World→World→Prop)(R:World→World→Prop)
 (hm:P.follows .mixedOrders=true) (hB:Zhc .any l.toArray m N deps=true) (hT:Region.seqB .any l.toArray (l.toArray.size-m) m (Zbv m l.toArray.size)=true) (hN:a0.tmps.size=N)
 (hRr:∀w,R w w) (hRt:∀w w1 w2,R w w1→R w1 w2→R w w2) (hRs:∀j w w',Rs j w w'→R w w') (hA:aftB .any l.toArray m aft=true) (stab:∀i j vs w1 w',i≠j→aft i j=true→R w.drew w1→Pre j w1→Φ i vs w1→Rs j w1 w'→Φ i vs w') (pstab:∀i j w1 w',i≠j→aft j i=true→R w.drew w1→Pre j w1→Pre i w1→Rs j w1 w'→Pre i w') (hP:∀j,j<m→Pre j w.drew)
 (step:∀i o,i<m→l.toArray[i]?=some o→∀(vals:Nat→Value) W,R w.drew W→Pre i W→(∀j∈deps i,Φ j ((j :: deps j).map vals) W) →
  ∀K:Act→World→Prop,(∀v w',Rs i W w'→Φ i (v :: (deps i).map vals) w'→K ((Zao l.toArray a0 vals (deps i)).put o.dst v) w')→if Region.wanted o (yielded l.toArray (Zao l.toArray a0 vals (deps i)).tmps)=true then Oper.wp P o (Zao l.toArray a0 vals (deps i)) W K (fun _ _ _=>False)else K ((Zao l.toArray a0 vals (deps i)).put o.dst undef) W)
 (fin:∀(vals:Nat→Value) W,R w.drew W→(∀j,j<m→Φ j ((j :: deps j).map vals) W)→wpList P l.toArray Q (l.drop m) (Zao l.toArray a0 vals (List.range m)) W) :
 (Code.region id l.toArray true).wp P Q a0 w:=by
 refine wp_region_any hm ?_
 have hms:m≤l.toArray.size:=by
  simp only[Zhc,Bool.and_eq_true,decide_eq_true_eq]at hB;exact hB.1.1.2
 have h0:∀j,j<l.toArray.size→(Array.replicate l.toArray.size false).getD j true=false:=fun j hj=>getD_in (by simpa using hj) (getD_replicate_false _ _)
 have hc:Zjb (Array.replicate l.toArray.size false) m=m:=by
  have:∀n,n≤l.toArray.size→Zjb (Array.replicate l.toArray.size false) n=n:=fun n=>by
   induction n with
   | zero=>intro _;rfl
   | succ n ih=>intro hn;unfold Zjb;rw[ih (by omega),h0 n (by omega)];rfl
  exact this m hms
 have h:=grow_go3 (P:=P) (md:=.any) (ops:=l.toArray) (Q:=Q) (a0:=a0) (w0:=w.drew) (m:=m) (N:=N) (deps:=deps) (Φ:=Φ) (aft:=aft) (Pre:=Pre) (Rs:=Rs) (R:=R) hB hT hN hRt hRs hA stab pstab step (by simpa using fin) m (Array.replicate l.toArray.size false) a0 w.drew (fun _=>undef) hc
  ⟨rfl,rfl,by simp,(fun j hj hl=>by rw[h0 j (by omega)]at hl;exact absurd hl (by decide)),(fun t _=>rfl),(fun j hj hl=>by rw[h0 j (by omega)]at hl;exact absurd hl (by decide)),hRr _,(fun t ht ht2=>h0 t ht2),(fun j hj hl=>by rw[h0 j (by omega)]at hl;exact absurd hl (by decide)),(fun j hj _=>hP j hj)⟩
 have e:l.toArray.size-m+m=l.toArray.size:=by omega
 rw[e]at h;exact h
theorem Zku {id:Nat}{Q:Exit→Act→World→Prop}{a0:Act}{w:World}{l:List Oper}(m N:Nat)(deps:Nat→List Nat)(Φ:Nat→List Value→World→Prop)(aft:Nat→Nat→Bool)(Pre:Nat→World→Prop)(Rs:Nat→World→World→Prop)(R:World→World→Prop)
 (hm:P.follows .mixedOrders=true) (hB:Zhc .any l.toArray m N deps=true) (hT:Region.seqB .any l.toArray (l.toArray.size-m) m (Zbv m l.toArray.size)=true) (hN:a0.tmps.size=N)
 (hRr:∀w,R w w) (hRt:∀w w1 w2,R w w1→R w1 w2→R w w2) (hRs:∀j w w',Rs j w w'→R w w') (hA:aftB .any l.toArray m aft=true) (stab:∀i j vs w1 w',i≠j→aft i j=true→R w.drew w1→Pre j w1→Φ i vs w1→Rs j w1 w'→Φ i vs w') (pstab:∀i j w1 w',i≠j→aft j i=true→R w.drew w1→Pre j w1→Pre i w1→Rs j w1 w'→Pre i w') (hP:∀j,j<m→Pre j w.drew)
 (steps:AllSteps (fun i o=>∀(vals:Nat→Value) W,R w.drew W→Pre i W→(∀j∈deps i,Φ j ((j :: deps j).map vals) W)→Does P o (Zao l.toArray a0 vals (deps i)) W (fun v w'=>Rs i W w'∧Φ i (v :: (deps i).map vals) w')) 0 (l.take m))
 (fin:∀(vals:Nat→Value) W,R w.drew W→(∀j,j<m→Φ j ((j :: deps j).map vals) W)→wpList P l.toArray Q (l.drop m) (Zao l.toArray a0 vals (List.range m)) W) :
 (Code.region id l.toArray true).wp P Q a0 w:=by
 refine Zli m N deps Φ aft Pre Rs R hm hB hT hN hRr hRt hRs hA stab pstab hP (fun i o hi ho vals W hR hp hd K hK=>?_) fin;have h:=AllSteps.at_ steps i o (by rw[List.getElem?_take,if_pos hi];simpa using ho) vals W hR (by simpa using hp) (by simpa using hd) K
 split
 ·simp only[Nat.zero_add]at h;exact h (fun v w' ⟨h1,h2⟩=>hK v w' h1 h2)
 ·rename_i hw
  exfalso
  simp only[Zhc,Bool.and_eq_true,decide_eq_true_eq,List.all_eq_true,List.mem_range]at hB;have h1:=(hB.1.2 i hi).1.1.1.1;rw[ho]at h1;simp only[Bool.and_eq_true,Option.isNone_iff_eq_none]at h1;exact hw (by unfold Region.wanted;rw[h1.1])
end
end Go
namespace Go.Proofs.YtpagbjdmiepgmaaGreatDoor.PVpa
open Go.RowKit Go.Proofs.YtpagbjdmiepgmaaGreatDoorW.PrintWords Go.Proofs.YtpagbjdmiepgmaaGreatDoorW.PrintLast Go.Proofs.YtpagbjdmiepgmaaGreatDoorW.PrintMore
theorem Znj {n k:Nat}(h:k<n):n-((k:Int)+1).toNat<n-(k:Int).toNat:=by omega
theorem Zhd {k:Nat}(h:k<100000):wrap64 ((k:Int)+1)=k+1:=by unfold wrap64;omega
theorem Zgu {w w1 w2:World}{b:Option Nat}(h:w.grownBy w1 b)(k:w1.grownBy w2 b):w.grownBy w2 b:=
 ⟨k.os.trans h.os,k.tape.trans h.tape,k.output.trans h.output,Nat.le_trans h.size k.size,fun j hj hne=>(k.block j (Nat.lt_of_lt_of_le hj h.size) hne).trans (h.block j hj hne)⟩
theorem Zfa {w w1:World}(h:Below w.heap.size w w1)(b:Option Nat):w.grownBy w1 b:=⟨h.os,h.tape,h.output,h.size,fun j hj _=>h.block j hj⟩
theorem Zbx {w w1:World}{g:Nat}{o:Obj}{b:Option Nat}(h:w.heap[g]?=some o)(hg:w.grownBy w1 b)(hne:some g≠b):w1.heap[g]?=some o:=by
 have hlt:g<w.heap.size:=by
  rcases Nat.lt_or_ge g w.heap.size with hlt | hge
  ·exact hlt
  ·rw[Array.getElem?_eq_none hge]at h;cases h
 exact (hg.block g hlt hne).trans h
def Bf (gb:Nat)(h0 h1 v sv fv:Value)(W:World):Prop:=W.heap[gb]?=some (.cells #[h0,h1,v,sv,fv] 86 (0,0))
def rsB (gb:Nat)(h0 h1 v sv fv:Value):Nat→World→World→Prop
 | 7,w,w'=>Below w.heap.size w w'
 | 8,w,w'=>w.grownBy w' sv.ownBlock
 | 14,w,w'=>Below w.heap.size w w'
 | 15,w,w'=>w.grownBy w' fv.ownBlock
 | 18,w,w'=>w.heap.size≤w'.heap.size∧¬Bf gb h0 h1 v sv fv w'
 | _,w,w'=>w'=w
theorem rsB_size (gb:Nat)(h0 h1 v sv fv:Value):∀j w w',rsB gb h0 h1 v sv fv j w w'→w.heap.size≤w'.heap.size:=by
 intro j w w' h;unfold rsB at h
 split at h
 ·exact h.size
 ·exact h.size
 ·exact h.size
 ·exact h.size
 ·exact h.1
 ·rw[h];exact Nat.le_refl _
def preB (w wr:World)(gb:Nat)(h0 h1 v sv fv:Value):Nat→World→Prop
 | 1,_=>True
 | 8,W=>Below wr.heap.size wr W
 | 15,W=>wr.grownBy W sv.ownBlock
 | 18,W=>Bf gb h0 h1 v sv fv W∧Kept wr W (fun k=>sv.ownBlock=some k∨fv.ownBlock=some k)∧Below w.heap.size w W
 | _,W=>Bf gb h0 h1 v sv fv W
def Zmy:Nat→Nat→Bool
 | 18,j=>j==1
 | 17,j=>j==1||j==18
 | 16,j=>j==1||j==17||j==18
 | 15,j=>j==0||j==1||decide (16≤j)
 | 14,j=>!(j==13)
 | 12,j=>!(j==9||j==10||j==11)
 | 11,j=>!(j==9||j==10)
 | 10,j=>!(j==9)
 | 8,j=>!(decide (2≤j)&&decide (j≤7))
 | 7,j=>!(j==6)
 | 5,j=>!(j==2||j==3||j==4)
 | 4,j=>!(j==2||j==3)
 | 3,j=>!(j==2)
 | _,_=>true
section
variable {w wr:World}{gb:Nat}{h0 h1:Value}{φ:Nat→Nat}{b:Bt}{vs vf v u:Value}{l:List Nat}
theorem BU.ne_s (h:BU w wr gb h0 h1 φ b vs vf v u l):some gb≠vs.ownBlock:=by
 obtain⟨_,ho⟩:=Kd.R_own h.bs.steps;exact Zcn ho h.bs.mach.blk (by decide)
theorem BU.ne_f (h:BU w wr gb h0 h1 φ b vs vf v u l):some gb≠vf.ownBlock:=by
 obtain⟨_,ho⟩:=Kd.R_own h.bs.frees;exact Zcn ho h.bs.mach.blk (by decide)
theorem BU.lt_s (h:BU w wr gb h0 h1 φ b vs vf v u l)(k:Nat)(hk:vs.ownBlock=some k):k<wr.heap.size:=by
 obtain⟨_,ho⟩:=Kd.R_own h.bs.steps;exact Zgg ho k hk
theorem BU.lt_f (h:BU w wr gb h0 h1 φ b vs vf v u l)(k:Nat)(hk:vf.ownBlock=some k):k<wr.heap.size:=by
 obtain⟨_,ho⟩:=Kd.R_own h.bs.frees;exact Zgg ho k hk
theorem BU.ge_s (h:BU w wr gb h0 h1 φ b vs vf v u l)(k:Nat)(hk:vs.ownBlock=some k):w.heap.size≤k:=by
 obtain⟨_,ho⟩:=Kd.R_own h.bs.steps;exact Zfd ho k hk
theorem BU.ge_f (h:BU w wr gb h0 h1 φ b vs vf v u l)(k:Nat)(hk:vf.ownBlock=some k):w.heap.size≤k:=by
 obtain⟨_,ho⟩:=Kd.R_own h.bs.frees;exact Zfd ho k hk
theorem Zhj (h:BU w wr gb h0 h1 φ b vs vf v u l){j:Nat}{W:World}(hp:preB w wr gb h0 h1 v vs vf j W)(hj:j≠1):Bf gb h0 h1 v vs vf W:=by
 unfold preB at hp
 split at hp
 ·exact absurd rfl hj
 ·exact Zag h.bs.mach.blk hp
 ·exact Zbx h.bs.mach.blk hp h.ne_s
 ·exact hp.1
 ·exact hp
theorem Zpw (h:BU w wr gb h0 h1 φ b vs vf v u l){F:World→Prop}{j:Nat}{W W':World}(hp:preB w wr gb h0 h1 v vs vf j W)(hr:rsB gb h0 h1 v vs vf j W W')(hF:Bf gb h0 h1 v vs vf W→F W)
 (ha:Below W.heap.size W W'→F W→F W') (h8:j=8→W.grownBy W' vs.ownBlock→F W→F W') (h15:j=15→wr.grownBy W vs.ownBlock→W.grownBy W' vf.ownBlock→F W→F W'):Bf gb h0 h1 v vs vf W'→F W':=by
 unfold rsB at hr
 split at hr
 ·exact fun _=>ha hr (hF (Zhj h hp (by decide)))
 ·exact fun _=>h8 rfl hr (hF (Zhj h hp (by decide)))
 ·exact fun _=>ha hr (hF (Zhj h hp (by decide)))
 ·exact fun _=>h15 rfl hp hr (hF (Zhj h hp (by decide)))
 ·exact fun hb=>absurd hb hr.2
 ·rw[hr];exact hF
theorem preB_start (h:BU w wr gb h0 h1 φ b vs vf v u l)(j:Nat):preB w wr gb h0 h1 v vs vf j wr.drew:=by
 unfold preB
 split
 ·trivial
 ·exact Zam (Below.refl _ wr)
 ·exact Zfa (Zam (Below.refl _ wr)) _
 ·exact⟨h.bs.mach.blk,Kept.of_below (Zam (Below.refl _ wr)) _,Zam h.bs.mach.bel⟩
 ·exact h.bs.mach.blk
theorem not_bf {W:World}{Av A7:Option Addr}{n m cv c7:Nat}{x:Value}(h:Bf gb h0 h1 v (.slice Av n cv) x (W.setCell ⟨gb,3,none⟩ (.slice A7 m c7)))(hb:Bf gb h0 h1 v (.slice Av n cv) x W)(hn:n≠m):False:=by
 have e2:=Zef hb 3 (.slice A7 m c7);unfold Bf at h;rw[e2]at h;simp at h
 first | exact hn h.1.2.1.symm | exact hn h.2.1.symm | omega
theorem Zqj (W:World)(a:Addr)(x:Value):(W.setCell a x).heap.size=W.heap.size:=by simp
theorem preB_stab (h:BU w wr gb h0 h1 φ b vs vf v u l):∀i j W W',i≠j→Zmy j i=true→wr.heap.size≤W.heap.size→preB w wr gb h0 h1 v vs vf j W→preB w wr gb h0 h1 v vs vf i W→rsB gb h0 h1 v vs vf j W W'→preB w wr gb h0 h1 v vs vf i W':=by
 intro i j W W' hij ha hs hpj hpi hr;by_cases hw:W'=W
 ·rw[hw];exact hpi
 unfold rsB at hr
 split at hr
 case h_6=>exact absurd hr hw
 case h_5=>
  obtain rfl:i=1:=by simpa[Zmy]using ha
  trivial
 case h_1=>
  unfold preB at hpi ⊢
  split at hpi
  ·trivial
  ·exact Zaf hpi hr
  ·exact Zgu hpi (Zfa hr _)
  ·exact⟨Zag hpi.1 hr,hpi.2.1.below hr,Zaf hpi.2.2 hr⟩
  ·exact Zag hpi hr
 case h_3=>
  unfold preB at hpi ⊢
  split at hpi
  ·trivial
  ·exact Zaf hpi hr
  ·exact Zgu hpi (Zfa hr _)
  ·exact⟨Zag hpi.1 hr,hpi.2.1.below hr,Zaf hpi.2.2 hr⟩
  ·exact Zag hpi hr
 case h_2=>
  unfold preB at hpi ⊢
  split at hpi
  ·trivial
  ·exact absurd rfl hij
  ·exact Zgu hpi hr
  ·exact⟨Zbx hpi.1 hr h.ne_s,Kept.of_grown hr hpi.2.1 (fun k hk=>.inl (.inl hk)),hpi.2.2.grown hr hpi.2.2.size (fun k hk=>h.ge_s k hk)⟩
  ·exact Zbx hpi hr h.ne_s
 case h_4=>
  unfold preB at hpi ⊢
  split at hpi
  ·trivial
  ·simp[Zmy]at ha
  ·exact absurd rfl hij
  ·exact⟨Zbx hpi.1 hr h.ne_f,Kept.of_grown hr hpi.2.1 (fun k hk=>.inl (.inr hk)),hpi.2.2.grown hr hpi.2.2.size (fun k hk=>h.ge_f k hk)⟩
  ·exact Zbx hpi hr h.ne_f
end
def Zcf:Nat→List Nat
 | 3=>[2]
 | 4=>[3]
 | 5=>[4]
 | 7=>[6]
 | 8=>[5,7]
 | 10=>[9]
 | 11=>[10]
 | 12=>[11]
 | 14=>[13]
 | 15=>[12,14,8]
 | 16=>[0]
 | 17=>[16]
 | 18=>[17,8,15]
 | _=>[]
def phiR18 (w wr:World)(gb:Nat)(h0 h1 v2 sv fv ru:Value)(fn:Int)(φ:Nat→Nat)(ns:Nat)(xs:List (List Nat))(fr:List Int):Nat→List Value→World→Prop
 | 0,[v],_=>v=.pointer (some ⟨gb,0,none⟩)
 | 1,[v],_=>v=.pointer (some ⟨gb,0,none⟩)
 | 2,[v],_=>v=.pointer (some ⟨gb,0,none⟩)
 | 3,[v,_],_=>v=.pointer (some ⟨gb,0,none⟩)
 | 4,[v,_],_=>v=.pointer (some ⟨gb,3,none⟩)
 | 5,[v,_],_=>v=sv
 | 6,[v],_=>v=ru
 | 7,[v,_],W=>∃gl,v=.slice (some ⟨gl,0,none⟩) 1 1∧wr.heap.size≤gl∧(Bf gb h0 h1 v2 sv fv W→W.heap[gl]?=some (.cells #[ru] 91 (0,0)))
 | 8,[v,_,_],W=>∃A c,v=.slice A (ns+1) c∧(Bf gb h0 h1 v2 sv fv W→(Kd.slice 88 (Zic φ)).R 91 W w.heap.size (fun _=>True) v xs)
 | 9,[v],_=>v=.pointer (some ⟨gb,0,none⟩)
 | 10,[v,_],_=>v=.pointer (some ⟨gb,0,none⟩)
 | 11,[v,_],_=>v=.pointer (some ⟨gb,4,none⟩)
 | 12,[v,_],_=>v=fv
 | 13,[v],_=>v=.int .i64 fn
 | 14,[v,_],W=>∃gl,v=.slice (some ⟨gl,0,none⟩) 1 1∧wr.heap.size≤gl∧(Bf gb h0 h1 v2 sv fv W→W.heap[gl]?=some (.cells #[.int .i64 fn] 3 (0,0)))
 | 15,[v,_,_,_],W=>(Bf gb h0 h1 v2 sv fv W→(Kd.int .i64).R 3 W w.heap.size (fun _=>True) v fr)∧(v.ownBlock=fv.ownBlock∨∃k,v.ownBlock=some k∧wr.heap.size≤k)
 | 16,[v,_],_=>v=.pointer (some ⟨gb,0,none⟩)
 | 17,[v,_],_=>v=.pointer (some ⟨gb,3,none⟩)
 | 18,[_,_,x8,x15],W=>∃W9,W=W9.setCell ⟨gb,3,none⟩ x8∧B18 w wr W9 gb h0 h1 sv fv v2 x8 φ xs∧(Kd.int .i64).R 3 W9 w.heap.size (fun _=>True) x15 fr∧Below w.heap.size w W9∧(x15.ownBlock=fv.ownBlock∨∃k,x15.ownBlock=some k∧wr.heap.size≤k)
 | _,_,_=>True
theorem Ztg {w wr:World}{gb:Nat}{h0 h1:Value}{φ:Nat→Nat}{b:Bt}{sv fv v2 ru:Value}{l:List Nat}(fn:Int)(ns:Nat)(xs:List (List Nat))(fr:List Int)(h:BU w wr gb h0 h1 φ b sv fv v2 ru l):∀i j vs W W',i≠j→Zmy i j=true→wr.heap.size≤W.heap.size→preB w wr gb h0 h1 v2 sv fv j W→phiR18 w wr gb h0 h1 v2 sv fv ru fn φ ns xs fr i vs W→rsB gb h0 h1 v2 sv fv j W W'→phiR18 w wr gb h0 h1 v2 sv fv ru fn φ ns xs fr i vs W':=by
 intro i j vs W W' hij ha hs hp hf hr;unfold phiR18 at hf ⊢
 split at hf
 case h_8=>
  obtain⟨gl,p1,p2,p3⟩:=hf;exact⟨gl,p1,p2,Zpw h (F:=fun W=>W.heap[gl]?=some (.cells #[ru] 91 (0,0))) hp hr p3 (fun hb hk=>Zag hk hb) (fun _ hg hk=>Zbx hk hg (fun e=>by have:=h.lt_s _ e.symm;omega)) (fun _ _ hg hk=>Zbx hk hg (fun e=>by have:=h.lt_f _ e.symm;omega))⟩
 case h_9=>
  obtain⟨A,c,p1,p3⟩:=hf;exact⟨A,c,p1,Zpw h (F:=fun W=>(Kd.slice 88 (Zic φ)).R 91 W w.heap.size (fun _=>True) _ xs) hp hr p3 (fun hb hk=>Kd.R_below hk hb) (fun e=>absurd e.symm hij) (fun _ hq hg hk=>((h.a18 Zbr hq).b18 hk Zbr hg (fun k hk=>h.lt_f k hk)).steps)⟩
 case h_15=>
  obtain⟨gl,p1,p2,p3⟩:=hf;exact⟨gl,p1,p2,Zpw h (F:=fun W=>W.heap[gl]?=some (.cells #[.int .i64 fn] 3 (0,0))) hp hr p3 (fun hb hk=>Zag hk hb) (fun _ hg hk=>Zbx hk hg (fun e=>by have:=h.lt_s _ e.symm;omega)) (fun _ _ hg hk=>Zbx hk hg (fun e=>by have:=h.lt_f _ e.symm;omega))⟩
 case h_16=>
  obtain⟨p1,p2⟩:=hf;exact⟨Zpw h (F:=fun W=>(Kd.int .i64).R 3 W w.heap.size (fun _=>True) _ fr) hp hr p1 (fun hb hk=>Kd.R_below hk hb) (fun e=>by subst e;simp[Zmy]at ha) (fun e=>absurd e.symm hij),p2⟩
 case h_19=>
  obtain rfl:j=1:=by simpa[Zmy]using ha
  have hr2:W'=W:=hr;rw[hr2];exact hf
 all_goals exact hf
set_option maxHeartbeats 4000000 in
theorem build_call (w:World)(At Ar:Option Addr)(ct cr:Nat)(G:S26)(D:Nat)(hr:k52.C w Ar G.f1.length G.f1)(hok:RulesOk D G)(hl:G.f1.length≤1000)(j:Int)
 (hchk:∀W,Below w.heap.size w W→Calls Tryz.prog 31 #[.agg #[.slice At G.f0.length ct,.slice Ar G.f1.length cr]] W fun e w'=>e=.returned (.tuple #[.int .i64 0,.int .i64 j])∧Below W.heap.size W w') :
 Calls Tryz.prog 8 #[.agg #[.slice At G.f0.length ct,.slice Ar G.f1.length cr]] w fun e w'=>∃gb φ vs vf v,e=.returned (.tuple #[.pointer (some ⟨gb,0,none⟩),.int .i64 0])∧BS w w' gb (.slice At G.f0.length ct) (.slice Ar G.f1.length cr) φ (Zaw D G G.f1.length) vs vf v:=by
 have HR:=Zaa.mk hr;have HOK:=Zaa.mk hok;have HC:=Zaa.mk hchk;clear hr hok hchk
 go_enter Tryz.func8,Tryz.ntmps8
 go_upto_region 5 with (go_at_call 31;(with_reducible refine (HC.out _ (Zae Zbr _)).mono ?_);rintro e w1 ⟨rfl,hb1⟩;have HB1:=Zaa.mk (Zaf (Zae (Below.refl _ w) (.cells #[.slice At G.f0.length ct,.slice Ar G.f1.length cr] 26)) hb1);have k1:=Zag (Zaq w (.cells #[.slice At G.f0.length ct,.slice Ar G.f1.length cr] 26)) hb1;have q0:=(Zac k1 0).trans rfl;have q1:=(Zac k1 1).trans rfl;have HK1:=Zaa.mk k1;clear k1 hb1)
 have hbX:=Zaq w1 (.cells #[.slice At G.f0.length ct,.slice Ar G.f1.length cr,.slice none 0 0,.slice none 0 0,.slice none 0 0] 86);have HBX:=Zaa.mk (Zaf HB1.out (Zae (Below.refl _ w1) (.cells #[.slice At G.f0.length ct,.slice Ar G.f1.length cr,.slice none 0 0,.slice none 0 0,.slice none 0 0] 86)));have HK2:=Zaa.mk (Zan HK1.out (.cells #[.slice At G.f0.length ct,.slice Ar G.f1.length cr,.slice none 0 0,.slice none 0 0,.slice none 0 0] 86));have HVX:=Zaa.mk (VS.start w _ w1.heap.size _ _ (fun _=>0) hbX HB1.out.size HBX.out);clear hbX q0 q1;generalize w1.alloc (.cells #[.slice At G.f0.length ct,.slice Ar G.f1.length cr,.slice none 0 0,.slice none 0 0,.slice none 0 0] 86)=X at *;generalize w1.heap.size=gb at *;have HPW:Zaa (PlV (fun _=>0) (W0.off w (.slice none 0 0)) X Zeo (.agg #[.int .i64 0,.pointer none,.int .i64 0,.slice none 0 0,.slice none 0 0,.slice none 0 0,.pointer none,.slice none 0 0,.int .i64 0])):=
  ⟨⟨_,rfl,none,0,none,0,none,0,.slice none 0 0,rfl,Nat.zero_le _,Kd.C_nil _ _,Nat.zero_le _,Kd.C_nil _ _,Nat.zero_le _,Kd.C_nil _ _,Kd.R_nil _ _ _ _ _⟩⟩
 go_upto_region 6 with (go_at_call 32;(with_reducible refine (Zil (W0.off w (.slice none 0 0)) X gb _ _ _ _ (fun _=>0) (.slice none 0 0) [] [] HVX.out Zeo _ HPW.out (by simp)).mono ?_);rintro e w2 ⟨rfl,v2,hv2,hk2,hn2⟩;have hk26:=HVX.out.keep hk2 HK2.out (by decide) (by decide);have q1:=(Zac hk26 1).trans rfl;have HB2:Zaa (BS w w2 gb (.slice At G.f0.length ct) (.slice Ar G.f1.length cr) (fun _=>0) (Zaw D G 0) (.slice none 0 0) (.slice none 0 0) v2):=⟨⟨hv2,Kd.R_nil _ _ _ _ _,Kd.R_nil _ _ _ _ _,(Zcy D G 0).1,fun _ _ _ _ h=>by cases h⟩⟩;clear hv2 hk2 hn2 hk26)
 go_wp2
 clear q1
 go_loopw [30] (fun i wr=>∃(k:Nat) (φ:Nat→Nat) (vs vf v:Value),k≤G.f1.length∧i=.int .i64 k∧Zaa (BS w wr gb (.slice At G.f0.length ct) (.slice Ar G.f1.length cr) φ (Zaw D G k) vs vf v)) (fun i _=>G.f1.length-(intOf i).toNat)
 case atStart=>exact⟨0,_,_,_,_,Nat.zero_le _,rfl,⟨HB2.out⟩⟩
 case round=>
  obtain⟨k,φ,vs,vf,v,hk,rfl,HB⟩:=hrel;by_cases hkn:k<G.f1.length
  ·have HGB:=Zaa.mk (Zcy D G k);obtain⟨ad,S2,sc,rfl,m0,m1,m2,ls2,hs2⟩:=Zmx HR.out (k:Int) (by omega) (by omega);have m0:=Zab HB.out.mach.bel m0;have m1:=Zab HB.out.mach.bel m1;have m2:=Zab HB.out.mach.bel m2;rw[Int.toNat_natCast]at m0 m1 m2;change wr.cell? ⟨_,_,none⟩=some (.slice S2 (Zbm G k).f2.length sc)at m2;change wr.cell? (ad.add (k*3))=some (.int .i64 (Zbm G k).f0)at m0;change wr.cell? ⟨_,_,none⟩=some (.bool (Zbm G k).f1)at m1;change (Zbm G k).f2.length≤sc at ls2;change k79.C w S2 (Zbm G k).f2.length (Zbm G k).f2 at hs2;have HS2:=Zaa.mk hs2;obtain⟨r,hr⟩:∃r,r=Zbm G k:=⟨_,rfl⟩
   have HRK:=Zaa.mk hr;have HBK:Zaa (Zaw D G (k+1)=Zqn D k r (Zaw D G k)):=⟨by rw[hr];rfl⟩
   have hfew:=HOK.out.fewer hkn;have hlen0:=HGB.out.2;have hlen1:(Zaw D G k).st.pl.length≤100000:=by omega
   clear hlen0;have HPO:=Zaa.mk (fun n (hn:n<(Zbm G k).f2.length)=>HOK.out.pats k n hkn hn);obtain⟨bt,hbt⟩:∃bt,bt=Zaw D G k:=⟨_,rfl⟩
   rw[←hr]at m0 m1 m2 ls2 HS2 hfew HPO;rw[←hbt]at HB HBK HGB hlen1;have HN12:Zaa (bt.steps.length≤1000∧bt.frees.length≤1000):=⟨by rw[hbt,(Zky D G k).n1,(Zky D G k).n2];exact⟨by omega,by omega⟩⟩
   have HG9:Zaa (GoodB (Zqn D k r bt)):=⟨by have h9:=(Zcy D G (k+1)).1;rw[HBK.out]at h9;exact h9⟩
   clear hs2 hr hbt;have HB8:=Zaa.mk (fun o=>HB.out.below (Zae (Below.refl _ wr) o));have HN8:=Zaa.mk (fun o=>Zaq wr o);have HP8:Zaa (∀W',PlV φ (W0.off w vf) W' (Zhp k) (.agg #[.int .i64 1,.pointer none,.int .i64 0,.slice none 0 0,.slice none 0 0,.slice none 0 0,.pointer none,.slice none 0 0,.int .i64 k])):=
    ⟨fun W'=>⟨_,rfl,none,0,none,0,none,0,.slice none 0 0,rfl,Nat.zero_le _,Kd.C_nil _ _,Nat.zero_le _,Kd.C_nil _ _,Nat.zero_le _,Kd.C_nil _ _,Kd.R_nil _ _ _ _ _⟩⟩
   cases hfr:r.f1
   case' false=>
    rw[hfr]at m1
    go_upto_region 13 with (fail)
    have HBY:=Zaa.mk (HB8.out (.cells #[.int .i64 r.f0,.bool false,.slice S2 r.f2.length sc] 52));have HNY:=Zaa.mk (HN8.out (.cells #[.int .i64 r.f0,.bool false,.slice S2 r.f2.length sc] 52));obtain⟨fn,hfn⟩:∃fn:Int,fn=-1:=⟨_,rfl⟩
    have HFI:=Zaa.mk hfn;have HFN:Zaa (Zhq r bt.st=fn):=⟨by rw[hfn];unfold Zhq;rw[if_neg (by simp[hfr])]⟩
    clear hfn;have HF1:Zaa (Zcq k r bt.st=bt.st):=⟨by unfold Zcq;rw[if_neg (by simp[hfr])]⟩
    have HBZ:Zaa (BS w _ gb _ _ φ ⟨Zcq k r bt.st,bt.steps,bt.frees⟩ vs vf v):=⟨by rw[HF1.out];exact HBY.out⟩
    have b82:=(Zac HNY.out 2).trans rfl;clear HBY HB8 HN8 HP8 m0 m1 m2;generalize wr.alloc (.cells #[.int .i64 r.f0,.bool false,.slice S2 r.f2.length sc] 52)=Y at *;generalize wr.heap.size=b8 at *;obtain⟨v1,hv1⟩:∃v1,v1=v:=⟨_,rfl⟩
    rw[←hv1]at HBZ;clear hv1
   case' true=>
    rw[hfr]at m1
    go_upto_region 13 with (go_at_call 32;(with_reducible refine (Zil (W0.off w vf) _ gb _ _ vs vf φ v bt.st.pl bt.st.sh (HB8.out (.cells #[.int .i64 r.f0,.bool true,.slice S2 r.f2.length sc] 52)).mach (Zhp k) _ (HP8.out _) (by omega)).mono ?_);rintro e w4 ⟨rfl,v1,hv4,hk4,hn4⟩;have HBY:=Zaa.mk ((HB8.out (.cells #[.int .i64 r.f0,.bool true,.slice S2 r.f2.length sc] 52)).add hv4 hk4 (HGB.out.1.st.add _ rfl (fun k hk=>by cases hk) (fun k hk=>by cases hk)));have HNY:=Zaa.mk ((HB8.out (.cells #[.int .i64 r.f0,.bool true,.slice S2 r.f2.length sc] 52)).mach.keep hk4 (HN8.out (.cells #[.int .i64 r.f0,.bool true,.slice S2 r.f2.length sc] 52)) (by decide) (by decide));clear hv4 hk4 hn4)
    obtain⟨fn,hfn⟩:∃fn:Int,fn=bt.st.pl.length:=⟨_,rfl⟩
    have HFI:=Zaa.mk hfn;have HFN:Zaa (Zhq r bt.st=fn):=⟨by rw[hfn];unfold Zhq;rw[if_pos hfr]⟩
    clear hfn;have HF1:Zaa (Zcq k r bt.st=bt.st.add (Zhp k)):=⟨by unfold Zcq;rw[if_pos hfr]⟩
    have HBZ:Zaa (BS w w4 gb _ _ φ ⟨Zcq k r bt.st,bt.steps,bt.frees⟩ vs vf v1):=⟨by rw[HF1.out];exact HBY.out⟩
    have b82:=(Zac HNY.out 2).trans rfl;clear HBY HB8 HN8 HP8 m0 m1 m2;generalize w4=Y at *;generalize wr.heap.size=b8 at *
   all_goals (
    have HG1:=Zaa.mk (Zkc k r bt.st HGB.out.1.st);obtain⟨s1,hs1⟩:∃s1,s1=Zcq k r bt.st:=⟨_,rfl⟩
    have HS1:=Zaa.mk hs1;rw[←hs1]at HBZ HG1;clear hs1;have hrl:r.f2.length≤100000:=by have:=Zqh D r r.f2.length;omega
    have hs1l:s1.pl.length+stepsN D r r.f2.length≤100000:=by have:=HG1.out.2;have:=HGB.out.2;omega
    go_wp2
    go_loopw [10,44] (fun u q wr=>∃(n:Nat) (φ2:Nat→Nat) (v2:Value),n≤r.f2.length∧q=.int .i64 n∧Zaa (BU w wr gb (.slice At G.f0.length ct) (.slice (some ad) G.f1.length cr) φ2 ⟨(Zaz D k r s1 n).1,bt.steps,bt.frees⟩ vs vf v2 u (Zaz D k r s1 n).2)) (fun _ q _=>r.f2.length-(intOf q).toNat)
    case atStart=>exact⟨0,φ,v1,Nat.zero_le _,rfl,⟨BU.start HBZ.out⟩⟩
    case round=>
     obtain⟨n,φ2,v2,hn,rfl,HBQ⟩:=hrel;by_cases hnn:n<r.f2.length
     ·obtain⟨td,T0,t0,T2,t2,T3,t3,T4,t4,rfl,z0,z1,z2,z3,z4,_,_,hl2,hf2,hl3,hf3,hl4,hf4⟩:=Zoq HS2.out (n:Int) (by omega) (by omega);rw[Int.toNat_natCast]at z0 z1 z2 z3 z4;have z0:=Zab HBQ.out.bs.mach.bel z0;have z1:=Zab HBQ.out.bs.mach.bel z1;have z2:=Zab HBQ.out.bs.mach.bel z2;have z3:=Zab HBQ.out.bs.mach.bel z3;have z4:=Zab HBQ.out.bs.mach.bel z4;have HPV:Zaa (Znk (W0.off w vf) (Zei r n).f1 (.agg #[.int .i64 (Zdg r.f2 n).f1.f0,.slice T2 (Zdg r.f2 n).f1.f1.length t2,.slice T3 (Zdg r.f2 n).f1.f2.length t3,.slice T4 (Zdg r.f2 n).f1.f3.length t4])):=⟨⟨T2,t2,T3,t3,T4,t4,rfl,hl2,hf2,hl3,hf3,hl4,hf4⟩⟩
      have HGQ:=Zaa.mk (Zip D k r s1 HG1.out.1 n);have hq1:=Zlm D r (show n+1≤r.f2.length by omega);have hq2:(Zaz D k r s1 n).1.pl.length+1+Zcx D (Zei r n).f1≤100000:=by
       have:=HGQ.out.2.1;have e9:stepsN D r (n+1)=stepsN D r n+(1+Zcx D (Zei r n).f1):=rfl;omega
      have hql:(Zaz D k r s1 n).2.length≤100000:=by rw[Zox];omega
      have HSN:Zaa (Zaz D k r s1 (n+1)=(Zgn (Zau D) (Zei r n).f1 k n (Zaz D k r s1 n).1,(Zaz D k r s1 n).2++[(Zaz D k r s1 n).1.pl.length])):=⟨rfl⟩
      have HPO2:=Zaa.mk (HPO.out n hnn);have HQL:=Zaa.mk hql;have HQ2:=Zaa.mk hq2;clear hl2 hf2 hl3 hf3 hl4 hf4 hq1 hq2 hql;obtain⟨sq,hsq⟩:∃sq,sq=(Zaz D k r s1 n).1:=⟨_,rfl⟩
      obtain⟨lq,hlq⟩:∃lq,lq=(Zaz D k r s1 n).2:=⟨_,rfl⟩
      rw[←hsq]at HBQ HGQ HSN HQ2;rw[←hlq]at HBQ HGQ HSN HQL;clear hsq hlq;generalize Zei r n=pq at *;have HBB:=Zaa.mk (fun o=>HBQ.out.below (Zae (Below.refl _ wr) o));obtain⟨Au,cu,rfl⟩:=Kd.R_slice HBQ.out.row;have HPC:=Zaa.mk (fun o=>patternC D (W0.off w vf) (wr.alloc o) gb _ _ vs vf φ2 v2 sq pq.f1 _ k n (HBB.out o).bs.mach HGQ.out.1 HPO2.out HQ2.out HPV.out)
      go_wp2_with (first
       | (go_at_call 33;(with_reducible refine (HPC.out _).mono ?_);intro e w5 he;obtain⟨φ3,v3,rfl,hb5⟩:=(HBB.out _).pat HGQ.out.2.2 he;have HB5:=Zaa.mk hb5;have HBA:=Zaa.mk (fun o=>hb5.below (Zae (Below.refl _ w5) o));clear he hb5)
       | ((with_reducible refine Zas (b:=.append) (xs:=#[.tmp 49,.tmp 56]) rfl ?_);at_builtin;refine Kd.R_append_row (fun b=>Value.pointer (some ⟨φ3 b,0,none⟩)) 0 (h1:=fun _=>rfl) (w0:=w) w.heap.size rfl (.tmp 49) (.tmp 56) 91 88 (.pointer none) 8 rfl Tryz.underlying91 info88 rfl (by omega) _ lq [sq.pl.length] _ _ _ (fun _=>True) rfl rfl (fun _ _=>trivial) ?aO ?aR ?aB ?aS ?aL ?_;(case aR=>exact one_P (by simp) _);(case aO=>exact Kd.R_alloc HB5.out.row _);(case aB=>exact Zae HB5.out.bs.mach.bel _);(case aS=>exact Zdm (Zae HB5.out.bs.mach.bel _));(case aL=>have:=HQL.out;omega);intro v6 w6 ho6 hb6 hg6 hat6;have HB6:=Zaa.mk ((HBA.out _).push ho6 hb6 hg6 hat6);clear ho6 hb6 hg6 hat6))
      go_roundw
      case rel=>exact⟨n+1,φ3,v3,by omega,by go_num,⟨by rw[HSN.out];exact HB6.out⟩⟩
      case measure=>simp[intOf];omega
     ·obtain rfl:n=r.f2.length:=by omega
      obtain⟨Av,cv,rfl⟩:=Kd.R_slice HBQ.out.bs.steps;obtain⟨Af,cf,rfl⟩:=Kd.R_slice HBQ.out.bs.frees;obtain⟨Au,cu,rfl⟩:=Kd.R_slice HBQ.out.row;have hw:wrap64 ((k:Int)+1)=k+1:=Zhd (by omega);clear hfew hrl hs1l hlen1 hn hnn
      go_upto_region 18 with (fail)
      refine Zku 19 _ Zcf (phiR18 w wr gb (.slice At G.f0.length ct) (.slice (some ad) G.f1.length cr) v2 (Value.slice Av bt.steps.length cv) (Value.slice Af bt.frees.length cf) (Value.slice Au (Zaz D k r s1 r.f2.length).2.length cu) fn φ2 bt.steps.length (bt.steps++[(Zaz D k r s1 r.f2.length).2]) (bt.frees++[fn])) Zmy (preB w wr gb (.slice At G.f0.length ct) (.slice (some ad) G.f1.length cr) v2 (Value.slice Av bt.steps.length cv) (Value.slice Af bt.frees.length cf)) (rsB gb (.slice At G.f0.length ct) (.slice (some ad) G.f1.length cr) v2 (Value.slice Av bt.steps.length cv) (Value.slice Af bt.frees.length cf)) (fun w w1=>w.heap.size≤w1.heap.size) (by kernel_rfl) (by kernel_rfl) (by kernel_rfl) rfl (fun _=>Nat.le_refl _) (fun _ _ _ h h2=>Nat.le_trans h h2) (rsB_size gb _ _ _ _ _) (by kernel_rfl) (Ztg _ _ _ _ HBQ.out) (preB_stab HBQ.out) (fun j hj=>?pre) ?step ?fin
      case pre=>exact preB_start HBQ.out j
      case step=>
       repeat (rename_i z;clear z)
       refine⟨?_,?_,?_,?_,?_,?_,?_,?_,?_,?_,?_,?_,?_,?_,?_,?_,?_,?_,?_,trivial⟩ <;> intro vals W hR0 hp hd
       ·have hR:wr.heap.size≤W.heap.size:=hR0;refine Zad (W':=W) (v:=.pointer (some ⟨gb,0,none⟩)) ?_ ⟨rfl,rfl⟩
        clear hd;simp only[Zao,Zcf,Zai];go_simp
       ·have hR:wr.heap.size≤W.heap.size:=hR0;refine Zad (W':=W) (v:=.pointer (some ⟨gb,0,none⟩)) ?_ ⟨rfl,rfl⟩
        clear hd;simp only[Zao,Zcf,Zai];go_simp
       ·have hR:wr.heap.size≤W.heap.size:=hR0;refine Zad (W':=W) (v:=.pointer (some ⟨gb,0,none⟩)) ?_ ⟨rfl,rfl⟩
        clear hd;simp only[Zao,Zcf,Zai];go_simp
       ·have hR:wr.heap.size≤W.heap.size:=hR0;have h2:vals 2=.pointer (some ⟨gb,0,none⟩):=hd 2 (by simp[Zcf]);refine Zad (W':=W) (v:=.pointer (some ⟨gb,0,none⟩)) ?_ ⟨rfl,rfl⟩
        clear hd;simp only[Zao,Zcf,Zai,h2];go_simp
       ·have hR:wr.heap.size≤W.heap.size:=hR0;have h3:vals 3=.pointer (some ⟨gb,0,none⟩):=hd 3 (by simp[Zcf]);refine Zad (W':=W) (v:=.pointer (some ⟨gb,3,none⟩)) ?_ ⟨rfl,rfl⟩
        clear hd;simp only[Zao,Zcf,Zai,h3];go_simp
       ·have hR:wr.heap.size≤W.heap.size:=hR0;have h4:vals 4=.pointer (some ⟨gb,3,none⟩):=hd 4 (by simp[Zcf]);have hbk:W.heap[gb]?=_:=Zhj HBQ.out hp (by decide);have g3:=(Zac hbk 3).trans rfl;have g4:=(Zac hbk 4).trans rfl;refine Zad (W':=W) (v:=(Value.slice Av bt.steps.length cv)) ?_ ⟨rfl,rfl⟩
        clear hd;simp only[Zao,Zcf,Zai,h4];go_simp
       ·have hR:wr.heap.size≤W.heap.size:=hR0;refine Zad (W':=W) (v:=(Value.slice Au (Zaz D k r s1 r.f2.length).2.length cu)) ?_ ⟨rfl,rfl⟩
        clear hd;simp only[Zao,Zcf,Zai];go_simp
       ·have hR:wr.heap.size≤W.heap.size:=hR0;have h6:vals 6=(Value.slice Au (Zaz D k r s1 r.f2.length).2.length cu):=hd 6 (by simp[Zcf]);clear hd;refine Zad (W':=W.alloc (.cells #[(Value.slice Au (Zaz D k r s1 r.f2.length).2.length cu)] 91)) (v:=.slice (some ⟨W.heap.size,0,none⟩) 1 1) ?_ ⟨Zae Zbr _,W.heap.size,rfl,hR,fun _=>Zaq W _⟩
        simp only[Zao,Zcf,Zai,h6];go_simp
       ·have hR:wr.heap.size≤W.heap.size:=hR0;have h5:vals 5=(Value.slice Av bt.steps.length cv):=hd 5 (by simp[Zcf]);have h7:∃gl,(vals 7)=.slice (some ⟨gl,0,none⟩) 1 1∧wr.heap.size≤gl∧(Bf gb (.slice At G.f0.length ct) (.slice (some ad) G.f1.length cr) v2 (Value.slice Av bt.steps.length cv) (Value.slice Af bt.frees.length cf) W→W.heap[gl]?=some (.cells #[(Value.slice Au (Zaz D k r s1 r.f2.length).2.length cu)] 91 (0,0))):=hd 7 (by simp[Zcf]);obtain⟨gl,e7,hg7,hk7⟩:=h7;have hp2:Below wr.heap.size wr W:=hp;have hk7:=hk7 (Zhj HBQ.out hp (by decide));clear hd;simp only[Zao,Zcf,Zai,h5,e7];refine Zrv (ops:=#[]) rfl (fun K hK=>?_);refine stepsA (w:=w) (φ:=φ2) rfl (.tmp 64) (.tmp 66) rfl (Value.slice Av bt.steps.length cv) (Value.slice Au (Zaz D k r s1 r.f2.length).2.length cu) bt.steps (Zaz D k r s1 r.f2.length).2 gl rfl rfl hk7 (Kd.R_below HBQ.out.bs.steps hp2) (Kd.R_below HBQ.out.row hp2) (Zaf HBQ.out.bs.mach.bel hp2) (by have:=HN12.out;omega) (fun v1 w1 hr _ hg _=>hK _ _ ⟨hg,?_⟩);obtain⟨A7,c7,hv7⟩:=Kd.R_slice hr;rw[List.length_append,List.length_singleton]at hv7;exact⟨A7,c7,hv7,fun _=>hr⟩
       ·have hR:wr.heap.size≤W.heap.size:=hR0;refine Zad (W':=W) (v:=.pointer (some ⟨gb,0,none⟩)) ?_ ⟨rfl,rfl⟩
        clear hd;simp only[Zao,Zcf,Zai];go_simp
       ·have hR:wr.heap.size≤W.heap.size:=hR0;have h9:vals 9=.pointer (some ⟨gb,0,none⟩):=hd 9 (by simp[Zcf]);refine Zad (W':=W) (v:=.pointer (some ⟨gb,0,none⟩)) ?_ ⟨rfl,rfl⟩
        clear hd;simp only[Zao,Zcf,Zai,h9];go_simp
       ·have hR:wr.heap.size≤W.heap.size:=hR0;have h10:vals 10=.pointer (some ⟨gb,0,none⟩):=hd 10 (by simp[Zcf]);refine Zad (W':=W) (v:=.pointer (some ⟨gb,4,none⟩)) ?_ ⟨rfl,rfl⟩
        clear hd;simp only[Zao,Zcf,Zai,h10];go_simp
       ·have hR:wr.heap.size≤W.heap.size:=hR0;have h11:vals 11=.pointer (some ⟨gb,4,none⟩):=hd 11 (by simp[Zcf]);have hbk:W.heap[gb]?=_:=Zhj HBQ.out hp (by decide);have g3:=(Zac hbk 3).trans rfl;have g4:=(Zac hbk 4).trans rfl;refine Zad (W':=W) (v:=(Value.slice Af bt.frees.length cf)) ?_ ⟨rfl,rfl⟩
        clear hd;simp only[Zao,Zcf,Zai,h11];go_simp
       ·have hR:wr.heap.size≤W.heap.size:=hR0;have hfn2:=HFI.out;refine Zad (W':=W) (v:=.int .i64 fn) ?_ ⟨rfl,rfl⟩
        clear hd;simp only[Zao,Zcf,Zai];go_simp
       ·have hR:wr.heap.size≤W.heap.size:=hR0;have h13:vals 13=.int .i64 fn:=hd 13 (by simp[Zcf]);clear hd;refine Zad (W':=W.alloc (.cells #[.int .i64 fn] 3)) (v:=.slice (some ⟨W.heap.size,0,none⟩) 1 1) ?_ ⟨Zae Zbr _,W.heap.size,rfl,hR,fun _=>Zaq W _⟩
        simp only[Zao,Zcf,Zai,h13];go_simp
       ·have hR:wr.heap.size≤W.heap.size:=hR0;have h12:vals 12=(Value.slice Af bt.frees.length cf):=hd 12 (by simp[Zcf]);have h14:∃gl,(vals 14)=.slice (some ⟨gl,0,none⟩) 1 1∧wr.heap.size≤gl∧(Bf gb (.slice At G.f0.length ct) (.slice (some ad) G.f1.length cr) v2 (Value.slice Av bt.steps.length cv) (Value.slice Af bt.frees.length cf) W→W.heap[gl]?=some (.cells #[.int .i64 fn] 3 (0,0))):=hd 14 (by simp[Zcf]);have h8:∃A c,(vals 8)=.slice A (bt.steps.length+1) c∧(Bf gb (.slice At G.f0.length ct) (.slice (some ad) G.f1.length cr) v2 (Value.slice Av bt.steps.length cv) (Value.slice Af bt.frees.length cf) W→(Kd.slice 88 (Zic φ2)).R 91 W w.heap.size (fun _=>True) (vals 8) (bt.steps++[(Zaz D k r s1 r.f2.length).2])):=hd 8 (by simp[Zcf]);obtain⟨gl,e14,hg14,hk14⟩:=h14;have hp2:wr.grownBy W (Value.slice Av bt.steps.length cv).ownBlock:=hp;have hk14:=hk14 (Zhj HBQ.out hp (by decide));have HA7:=HBQ.out.a18 Zbr hp2;clear hd;simp only[Zao,Zcf,Zai,h12,e14];refine Zrv (ops:=#[]) rfl (fun K hK=>?_);exact freesA (w:=w) rfl (.tmp 71) (.tmp 73) rfl (Value.slice Af bt.frees.length cf) bt.frees fn gl rfl rfl hk14 HA7.frees (HBQ.out.bs.mach.bel.grown hp2 HBQ.out.bs.mach.bel.size (fun k hk=>HBQ.out.ge_s k hk)) (by have:=HN12.out;omega) (fun v1 w1 hr _ hg hat=>hK _ _ ⟨hg,fun _=>hr,hat.elim (fun h=>.inl h) (fun⟨b,h1,h2⟩=>.inr ⟨b,h1,Nat.le_trans hp2.size h2⟩)⟩)
       ·have hR:wr.heap.size≤W.heap.size:=hR0;have h0:vals 0=.pointer (some ⟨gb,0,none⟩):=hd 0 (by simp[Zcf]);refine Zad (W':=W) (v:=.pointer (some ⟨gb,0,none⟩)) ?_ ⟨rfl,rfl⟩
        clear hd;simp only[Zao,Zcf,Zai,h0];go_simp
       ·have hR:wr.heap.size≤W.heap.size:=hR0;have h16:vals 16=.pointer (some ⟨gb,0,none⟩):=hd 16 (by simp[Zcf]);refine Zad (W':=W) (v:=.pointer (some ⟨gb,3,none⟩)) ?_ ⟨rfl,rfl⟩
        clear hd;simp only[Zao,Zcf,Zai,h16];go_simp
       ·have hR:wr.heap.size≤W.heap.size:=hR0;have h17:vals 17=.pointer (some ⟨gb,3,none⟩):=hd 17 (by simp[Zcf]);have h8:∃A c,(vals 8)=.slice A (bt.steps.length+1) c∧(Bf gb (.slice At G.f0.length ct) (.slice (some ad) G.f1.length cr) v2 (Value.slice Av bt.steps.length cv) (Value.slice Af bt.frees.length cf) W→(Kd.slice 88 (Zic φ2)).R 91 W w.heap.size (fun _=>True) (vals 8) (bt.steps++[(Zaz D k r s1 r.f2.length).2])):=hd 8 (by simp[Zcf]);have h15:(Bf gb (.slice At G.f0.length ct) (.slice (some ad) G.f1.length cr) v2 (Value.slice Av bt.steps.length cv) (Value.slice Af bt.frees.length cf) W→(Kd.int .i64).R 3 W w.heap.size (fun _=>True) (vals 15) (bt.frees++[fn]))∧((vals 15).ownBlock=(Value.slice Af bt.frees.length cf).ownBlock∨∃k,(vals 15).ownBlock=some k∧wr.heap.size≤k):=hd 15 (by simp[Zcf]);obtain⟨A7,c7,e8,hs8⟩:=h8;obtain⟨hs15,hn15⟩:=h15;obtain⟨hbf,hkp,hbl⟩:Bf gb (.slice At G.f0.length ct) (.slice (some ad) G.f1.length cr) v2 (Value.slice Av bt.steps.length cv) (Value.slice Af bt.frees.length cf) W∧Kept wr W (fun k=>((Value.slice Av bt.steps.length cv)).ownBlock=some k∨((Value.slice Af bt.frees.length cf)).ownBlock=some k)∧Below w.heap.size w W:=hp;have hs8:=hs8 hbf;have hs15:=hs15 hbf;have HSB:Zaa (B18 w wr W gb (.slice At G.f0.length ct) (.slice (some ad) G.f1.length cr) (Value.slice Av bt.steps.length cv) (Value.slice Af bt.frees.length cf) v2 (vals 8) φ2 (bt.steps++[(Zaz D k r s1 r.f2.length).2])):=⟨⟨hbf,hs8,hkp⟩⟩
        have HS15:=Zaa.mk hs15;have HN15:=Zaa.mk hn15;have HBL:=Zaa.mk hbl;have y3:W.cell? ⟨gb,3,none⟩=some (Value.slice Av bt.steps.length cv):=(Zac hbf 3).trans rfl;have z3:W.frozen? ⟨gb,3,none⟩=false:=Zat hbf 3;have HBF:=Zaa.mk hbf;clear hd hs8 hs15 hn15 hkp hbl hbf
        skip
        refine Zjq (W':=W.setCell ⟨gb,3,none⟩ (.slice A7 (bt.steps.length+1) c7)) ?_ ⟨⟨?_,?_⟩,W,by rw[e8],HSB.out,HS15.out,HBL.out,HN15.out⟩
        ·simp only[Zao,Zcf,Zai,e8,h17];go_simp
        ·rw[Zqj];exact Nat.le_refl _
        ·exact fun hb=>not_bf hb HBF.out (by omega)
      case fin=>
       intro vals W hR0 hF;have f0:vals 0=.pointer (some ⟨gb,0,none⟩):=hF 0 (by decide);have f1:vals 1=.pointer (some ⟨gb,0,none⟩):=hF 1 (by decide);have f2:vals 2=.pointer (some ⟨gb,0,none⟩):=hF 2 (by decide);have f3:vals 3=.pointer (some ⟨gb,0,none⟩):=hF 3 (by decide);have f4:vals 4=.pointer (some ⟨gb,3,none⟩):=hF 4 (by decide);have f5:vals 5=(Value.slice Av bt.steps.length cv):=hF 5 (by decide);have f6:vals 6=(Value.slice Au (Zaz D k r s1 r.f2.length).2.length cu):=hF 6 (by decide);have f7:∃gl,(vals 7)=.slice (some ⟨gl,0,none⟩) 1 1∧wr.heap.size≤gl∧(Bf gb (.slice At G.f0.length ct) (.slice (some ad) G.f1.length cr) v2 (Value.slice Av bt.steps.length cv) (Value.slice Af bt.frees.length cf) W→W.heap[gl]?=some (.cells #[(Value.slice Au (Zaz D k r s1 r.f2.length).2.length cu)] 91 (0,0))):=hF 7 (by decide);have f8:∃A c,(vals 8)=.slice A (bt.steps.length+1) c∧(Bf gb (.slice At G.f0.length ct) (.slice (some ad) G.f1.length cr) v2 (Value.slice Av bt.steps.length cv) (Value.slice Af bt.frees.length cf) W→(Kd.slice 88 (Zic φ2)).R 91 W w.heap.size (fun _=>True) (vals 8) (bt.steps++[(Zaz D k r s1 r.f2.length).2])):=hF 8 (by decide);have f9:vals 9=.pointer (some ⟨gb,0,none⟩):=hF 9 (by decide);have f10:vals 10=.pointer (some ⟨gb,0,none⟩):=hF 10 (by decide);have f11:vals 11=.pointer (some ⟨gb,4,none⟩):=hF 11 (by decide);have f12:vals 12=(Value.slice Af bt.frees.length cf):=hF 12 (by decide);have f13:vals 13=.int .i64 fn:=hF 13 (by decide);have f14:∃gl,(vals 14)=.slice (some ⟨gl,0,none⟩) 1 1∧wr.heap.size≤gl∧(Bf gb (.slice At G.f0.length ct) (.slice (some ad) G.f1.length cr) v2 (Value.slice Av bt.steps.length cv) (Value.slice Af bt.frees.length cf) W→W.heap[gl]?=some (.cells #[.int .i64 fn] 3 (0,0))):=hF 14 (by decide);have f15:(Bf gb (.slice At G.f0.length ct) (.slice (some ad) G.f1.length cr) v2 (Value.slice Av bt.steps.length cv) (Value.slice Af bt.frees.length cf) W→(Kd.int .i64).R 3 W w.heap.size (fun _=>True) (vals 15) (bt.frees++[fn]))∧((vals 15).ownBlock=(Value.slice Af bt.frees.length cf).ownBlock∨∃k,(vals 15).ownBlock=some k∧wr.heap.size≤k):=hF 15 (by decide);have f16:vals 16=.pointer (some ⟨gb,0,none⟩):=hF 16 (by decide);have f17:vals 17=.pointer (some ⟨gb,3,none⟩):=hF 17 (by decide);have f18:∃W9,W=W9.setCell ⟨gb,3,none⟩ (vals 8)∧B18 w wr W9 gb (.slice At G.f0.length ct) (.slice (some ad) G.f1.length cr) (Value.slice Av bt.steps.length cv) (Value.slice Af bt.frees.length cf) v2 (vals 8) φ2 (bt.steps++[(Zaz D k r s1 r.f2.length).2])∧(Kd.int .i64).R 3 W9 w.heap.size (fun _=>True) (vals 15) (bt.frees++[fn])∧Below w.heap.size w W9∧((vals 15).ownBlock=(Value.slice Af bt.frees.length cf).ownBlock∨∃k,(vals 15).ownBlock=some k∧wr.heap.size≤k):=hF 18 (by decide);clear hF hR0;rw[show List.range 19=[0,1,2,3,4,5,6,7,8,9,10,11,12,13,14,15,16,17,18]from rfl];simp only[Zao,Zai,Act.put,List.getElem?_toArray,List.getElem?_cons_zero,List.getElem?_cons_succ,Option.bind_some,Option.bind_none,List.setIfInBounds_toArray,List.set_cons_zero,List.set_cons_succ,List.drop_succ_cons,List.drop_zero,f0,f1,f2,f3,f4,f5,f6,f9,f10,f11,f12,f13,f16,f17];obtain⟨W9,rfl,hB9,hO9,hBL,hAT⟩:=f18;obtain⟨gl7,f7,_,_⟩:=f7;obtain⟨gl14,f14,_,_⟩:=f14;obtain⟨A7,c7,f8,_⟩:=f8;clear f15;generalize vals 15=v9 at *;generalize vals 18=v18 at *;obtain⟨A9,c9,hv9⟩:=Kd.R_slice hO9;rw[List.length_append,List.length_singleton]at hv9;subst hv9;rw[f8]at hB9;simp only[f7,f14,f8];have HB9:=Zaa.mk hB9;have HO9:=Zaa.mk hO9;have HBL:=Zaa.mk hBL;have HAT:=Zaa.mk hAT;have y4:W9.cell? ⟨gb,4,none⟩=some (.slice Af bt.frees.length cf):=(Zac HB9.out.blk 4).trans rfl;have z4:W9.frozen? ⟨gb,4,none⟩=false:=Zat HB9.out.blk 4;have y3:W9.cell? ⟨gb,3,none⟩=some (.slice Av bt.steps.length cv):=(Zac HB9.out.blk 3).trans rfl;have z3:W9.frozen? ⟨gb,3,none⟩=false:=Zat HB9.out.blk 3;clear hB9 hO9 hBL hAT f7 f8 f14;go_wp2
       go_roundw
       case rel=>
        refine⟨k+1,φ2,.slice A7 (bt.steps.length+1) c7,.slice A9 (bt.frees.length+1) c9,v2,hkn,(by first | (rw[hw];simp;done) | (simp;done)),⟨?_⟩⟩;rw[HBK.out];refine HBQ.out.rule18 HS1.out HG9.out HB9.out ?_ HBL.out HAT.out
        rw[HFN.out];exact HO9.out
       case measure=>first | exact Znj hkn | (rw[hw];exact Znj hkn))
  ·obtain rfl:k=G.f1.length:=by omega
   go_wp2
   go_ret2
   exact⟨gb,φ,vs,vf,v,rfl,HB.out⟩
theorem PlS.read {φ:Nat→Nat}{w0:W0}{W:World}{x:Pl}{cs:List Value}(hb:Below w0.heap.size w0 W)(h:PlS φ w0 W x cs):PlK φ W x cs:=by
 obtain⟨A1,c1,A2,c2,A3,c3,v4,rfl,l1,g1,l2,g2,l3,g3,g4⟩:=h;obtain⟨A4,c4,rfl,l4,h4⟩:=g4.C;exact⟨A1,c1,A2,c2,A3,c3,A4,c4,rfl,l1,Kd.C_below g1 hb,l2,Kd.C_below g2 hb,l3,Kd.C_below g3 hb,l4,h4⟩
theorem BS.read {w W:World}{gb:Nat}{At Ar:Option Addr}{ct cr:Nat}{G:S26}{φ:Nat→Nat}{b:Bt}{vs vf v:Value}(h:BS w W gb (.slice At G.f0.length ct) (.slice Ar G.f1.length cr) φ b vs vf v)
 (lt:G.f0.length≤ct) (ht:k70.C w At G.f0.length G.f0) (lr:G.f1.length≤cr) (hr:k52.C w Ar G.f1.length G.f1):VR W gb G b.mach φ:=by
 have hb:=h.mach.bel;obtain⟨Ap,cp,rfl,lp,hp⟩:=h.mach.row.reads;obtain⟨As,cs,rfl,ls,hs⟩:=Kd.R_reads h.steps;obtain⟨Af,cf,rfl,lf,hf⟩:=Kd.R_reads h.frees;refine⟨⟨At,ct,Ar,cr,Ap,cp,As,cs,Af,cf,h.mach.blk,lt,Kd.C_below ht hb,lr,Kd.C_below hr hb,lp,hp.imp_ Zbr (fun _ _ hx=>hx.read hb),ls,hs,lf,hf⟩,fun k x hk=>?_⟩;obtain⟨v1,v2,hc,r1,r2⟩:=(h.mach.shapes k x hk).cells;obtain⟨A1,c1,rfl,l1,g1⟩:=r1.C;obtain⟨A2,c2,rfl,l2,g2⟩:=r2.C;exact⟨A1,c1,A2,c2,hc,l1,g1,l2,g2⟩
def Nm (p:S76):Prop:=p.f1.length≤100000∧p.f2.length≤100000
def AllNm (s:St):Prop:=∀q,Nm (s.pl.getD q zPl).p
theorem nm_z:Nm z76:=⟨Nat.zero_le _,Nat.zero_le _⟩
theorem AllNm.add {s:St}(h:AllNm s){x:Pl}(hx:Nm x.p):AllNm (s.add x):=fun q=>by
 show Nm ((s.pl++[x]).getD q zPl).p;rw[Zcg]
 split
 ·exact hx
 ·exact h q
theorem AllNm.link {s:St}(h:AllNm s)(frm tt:List Int):AllNm (s.link frm tt):=fun q=>by
 show Nm ((Zgi s.pl tt frm frm.length).getD q zPl).p;rw[(Zdd s.pl tt frm frm.length q).2.2.2.1];exact h q
theorem AllNm.inner {s:St}(h:AllNm s)(k b:Nat):AllNm (s.inner k b):=fun q=>by
 show Nm ((s.pl.set k _).getD q zPl).p;rw[Zda]
 split
 ·exact h k
 ·exact h q
theorem patW_nm {n:Nat}(hw:∀b p s,Zen n p→AllNm s→AllNm (Zau n b p s).2)(p:S76)(rule step:Int)(s:St)(hp:Zen n p)(h:AllNm s):AllNm (Zgn (Zau n) p rule step s):=
 fun q=>hw s.pl.length p (s.add (Zbc s.pl.length)) hp (h.add nm_z) q
theorem item1_nm {b:Nat}{p:S76}{s:St}(hp:Nm p)(h:AllNm s):AllNm (Zde b p s):=by
 unfold Zde
 split
 ·exact (h.add hp).link _ _
 ·exact h.add hp
theorem walk_nm:∀(n b:Nat) (p:S76) (s:St),Zen n p→AllNm s→AllNm (Zau n b p s).2
 | 0,_,_,_,hp,_=>hp.elim
 | n+1,b,p,s,hp,h=>by
  have ih:=walk_nm n;obtain⟨n1,n2,k3,k56,k7⟩:=hp;unfold Zau;by_cases c1:p.f0=2∨p.f0=4∨p.f0=3
  ·rw[if_pos c1];show AllNm (Zeh (Zau n) b p s);unfold Zeh
   split
   ·rename_i c3
    exact (patW_nm ih _ _ _ _ (k3 c3).2 (item1_nm ⟨n1,n2⟩ h)).inner _ _
   ·exact item1_nm ⟨n1,n2⟩ h
  ·rw[if_neg c1]
   split
   ·rename_i c5
    exact (ih b _ _ (k56 (.inl c5)).2.2 (ih b _ s (k56 (.inl c5)).2.1 h)).link _ _
   ·split
    ·rename_i c6
     exact ih b _ _ (k56 (.inr c6)).2.2 (ih b _ s (k56 (.inr c6)).2.1 h)
    ·split
     ·rename_i c7
      exact (ih b _ s (k7 c7).2 h).link _ _
     ·exact h
theorem stepsB_nm (D:Nat)(i:Int)(r:S52)(s:St)(h:AllNm s)(n:Nat)(hp:∀k,k<n→Zen D (Zei r (k:Nat)).f1):AllNm (Zaz D i r s n).1:=by
 induction n with
 | zero=>exact h
 | succ n ih=>exact patW_nm (walk_nm D) _ _ _ _ (hp n (by omega)) (ih (fun k hk=>hp k (by omega)))
theorem build_nm (D:Nat)(G:S26)(n:Nat)(hp:∀i k:Nat,i<n→k<(Zbm G i).f2.length→Zen D (Zei (Zbm G i) k).f1):AllNm (Zaw D G n).st:=by
 induction n with
 | zero=>
  intro q;show Nm (([Zeo]:List Pl).getD q zPl).p;cases q <;> exact nm_z
 | succ n ih=>
  have h1:=ih (fun i k hi hk=>hp i k (by omega) hk);refine stepsB_nm D n (Zbm G n) _ ?_ _ (fun k hk=>hp n k (by omega) hk)
  unfold Zcq
  split
  ·exact h1.add nm_z
  ·exact h1
theorem Zuj (D:Nat)(G:S26)(n:Nat)(hp:∀i k:Nat,i<n→k<(Zbm G i).f2.length→Zen D (Zei (Zbm G i) k).f1):Short (Zaw D G n):=fun q _=>build_nm D G n hp q
theorem mach_ok {G:S26}{D:Nat}{φ:Nat→Nat}(hok:RulesOk D G)(hg:Good (Zaw D G G.f1.length).st)(hi:Zhv φ (Zaw D G G.f1.length).st.sh)(hl:G.f1.length≤1000)(hs:∀i:Nat,i<G.f1.length→1≤(Zbm G i).f2.length∧(Zbm G i).f2.length≤1000):(Zaw D G G.f1.length).mach.Ok φ:=by
 have hn1:=(Zky D G G.f1.length).n1;refine built_ok (Zky D G G.f1.length) hg hi (Zuj D G _ hok.pats) ?_ hl (fun i=>?_) (fun i hi2=>?_)
 ·rw[(Zcy D G G.f1.length).2];exact hok.few
 ·rcases Nat.lt_or_ge i G.f1.length with h | h
  ·rw[Zif D G _ i h];exact (hs i h).2
  ·rw[List.getD_eq_getElem?_getD,List.getElem?_eq_none (by omega)];exact Nat.zero_le _
 ·have h:=Zif D G _ i hi2;have h1:=(hs i hi2).1
  match hc:(Zaw D G G.f1.length).steps.getD i []with
  | []=>rw[hc]at h;simp at h;omega
  | k :: r=>exact⟨k,r,rfl⟩
theorem Zig (w:World)(At Ar:Option Addr)(ct cr:Nat)(G:S26)(D:Nat)(hr:GramR w G At Ar ct cr)(hg:Zsk G)(hok:RulesOk D G)(ho:Own w) :
 Calls Tryz.prog 8 #[.agg #[.slice At G.f0.length ct,.slice Ar G.f1.length cr]] w fun e w'=>∃gb φ,e=.returned (.tuple #[.pointer (some ⟨gb,0,none⟩),.int .i64 0])∧VR w' gb G (Zaw D G G.f1.length).mach φ∧(Zaw D G G.f1.length).mach.Ok φ∧Below w.heap.size w w':=by
 have hl:G.f1.length≤1000:=Nat.le_trans hg.rfew (by decide);refine (build_call w At Ar ct cr G D hr.rules hok hl 0 (fun W hb=>check_ok W G At Ar ct cr (hr.below hb) hg (ho.below hb))).mono ?_
 rintro e w' ⟨gb,φ,vs,vf,v,rfl,hB⟩;refine⟨gb,φ,rfl,hB.read hr.lt hr.toks hr.lr hr.rules,mach_ok hok hB.good.st hB.inj hl (fun i hi=>?_),hB.mach.bel⟩;have h1:=hg.rules i hi;rw[←Zgr]at h1;exact⟨h1.one,Nat.le_trans h1.few (by decide)⟩
end Go.Proofs.YtpagbjdmiepgmaaGreatDoor.PVpa
