/- Joined from texts of this seat, in their order. -/
import Derived.Test.YtaokkliamoghbaaGreatDoorJAc
set_option linter.unusedVariables false
set_option linter.unusedSimpArgs false
set_option linter.unusedSectionVars false
namespace Go
section
variable {P:Program}{ops:Array Oper}{md:Region.Mode}
structure GInv3 (md:Region.Mode)(ops:Array Oper)(m:Nat)(a0:Act)(deps:Nat→List Nat)(Φ:Nat→List Value→World→Prop)(Pre:Nat→World→Prop)(R:World→World→Prop)(w0:World)(listed:Array Bool)(a:Act)(vals:Nat→Value)(w:World):Prop where
 size:a.tmps.size=a0.tmps.size
 defers:a.defers=a0.defers
 lsize:listed.size=ops.size
 done:∀j,j<m→listed.getD j true=true→∀d,Zah ops j=some d→a.tmps.getD d undef=vals j
 open_:∀t,(∀j,j<m→listed.getD j true=true→Zah ops j≠some t)→a.tmps.getD t undef=a0.tmps.getD t undef
 facts:∀j,j<m→listed.getD j true=true→Φ j ((j :: deps j).map vals) w
 rel:R w0 w
 tail:∀t,m≤t→t<ops.size→listed.getD t true=false
 closed:∀j,j<m→listed.getD j true=true→∀i,Region.waitsFor md ops j i=true→listed.getD i false=true
 pre:∀j,j<m→listed.getD j true=false→Pre j w
def aftB (md:Region.Mode)(ops:Array Oper)(m:Nat)(aft:Nat→Nat→Bool):Bool:=
 (List.range m).all fun i=>(List.range m).all fun j=>aft i j||i==j||Region.waitsFor md ops i j||(List.range i).any fun k=>Region.waitsFor md ops i k&&!aft k j
theorem getD_tf {listed:Array Bool}{i:Nat}(h:listed.getD i false=true):listed.getD i true=true:=by
 by_cases hi:i<listed.size
 ·simp[hi]at h ⊢;exact h
 ·simp[Array.getElem?_eq_none (Nat.le_of_not_lt hi)]
theorem Zmr {m:Nat}{aft:Nat→Nat→Bool}(hA:aftB md ops m aft=true){listed:Array Bool}(hc:∀i,i<m→listed.getD i true=true→∀j,Region.waitsFor md ops i j=true→listed.getD j false=true) :
 ∀i,i<m→(∀j,Region.waitsFor md ops i j=true→listed.getD j false=true)→∀j,j<m→i≠j→aft i j=false→listed.getD j false=true:=by
 intro i
 induction i using Nat.strongRecOn with
 | _ i ih=>
  intro hi hw j hj hne ha;simp only[aftB,List.all_eq_true,List.mem_range,Bool.or_eq_true,List.any_eq_true,Bool.and_eq_true,Bool.not_eq_true',beq_iff_eq]at hA
  rcases hA i hi j hj with ((h | h) | h) | ⟨k,hk,h1,h2⟩
  ·rw[ha]at h;cases h
  ·exact absurd h hne
  ·exact hw j h
  ·have hl:=hw k h1;by_cases hkj:k=j
   ·rw[←hkj];exact hl
   ·exact ih k hk (by omega) (fun j2 h2=>hc k (by omega) (getD_tf hl) j2 h2) j hj hkj h2
section main3
variable {Q:Exit→Act→World→Prop}{a0:Act}{w0:World}{m N:Nat}{deps:Nat→List Nat}{Φ:Nat→List Value→World→Prop}{aft:Nat→Nat→Bool}{Pre:Nat→World→Prop}{Rs:Nat→World→World→Prop}{R:World→World→Prop}
theorem grow_go3 (hB:Zfn md ops m N deps=true)(hT:Region.seqB md ops (ops.size-m) m (Zbs m ops.size)=true)(hN:a0.tmps.size=N)(hRt:∀w w1 w2,R w w1→R w1 w2→R w w2)
 (hRs:∀j w w',Rs j w w'→R w w') (hA:aftB md ops m aft=true) (stab:∀i j vs w w',i≠j→aft i j=true→R w0 w→Pre j w→Φ i vs w→Rs j w w'→Φ i vs w') (pstab:∀i j w w',i≠j→aft j i=true→R w0 w→Pre j w→Pre i w→Rs j w w'→Pre i w')
 (step:∀i o,i<m→ops[i]?=some o→∀(vals:Nat→Value) W,R w0 W→Pre i W→(∀j∈deps i,Φ j ((j :: deps j).map vals) W) →
  ∀K:Act→World→Prop,(∀v w',Rs i W w'→Φ i (v :: (deps i).map vals) w'→K ((Zan ops a0 vals (deps i)).put o.dst v) w')→if Region.wanted o (yielded ops (Zan ops a0 vals (deps i)).tmps)=true then Oper.wp P o (Zan ops a0 vals (deps i)) W K (fun _ _ _=>False)else K ((Zan ops a0 vals (deps i)).put o.dst undef) W)
 (fin:∀(vals:Nat→Value) W,R w0 W→(∀j,j<m→Φ j ((j :: deps j).map vals) W)→wpList P ops Q (ops.toList.drop m) (Zan ops a0 vals (List.range m)) W) :
 ∀k listed a w vals,Zjm listed m=k→GInv3 md ops m a0 deps Φ Pre R w0 listed a vals w→wpAny P md ops Q (ops.size-m+k) listed a w:=by
 simp only[Zfn,Bool.and_eq_true,Bool.or_eq_true,decide_eq_true_eq]at hB;obtain⟨⟨⟨hsel,hms⟩,hall⟩,hsink⟩:=hB;simp only[Bool.and_eq_true,List.all_eq_true,List.mem_range,decide_eq_true_eq]at hall;have hdst:∀j,j<m→∀e,Zah ops j=some e→e<a0.tmps.size:=fun j hj e he=>by
  have:=(hall j hj).1.2;rw[he]at this;rw[hN];simpa using this
 have hdis:∀i j,i<m→j<m→∀t,Zah ops i=some t→Zah ops j=some t→j=i:=fun i j hi hj t h1 h2=>by
  have:=(hall i hi).2 j hj;simp only[Bool.or_eq_true,beq_iff_eq,bne_iff_ne,ne_eq,h1,h2,Option.isNone_some,Bool.false_eq_true,or_false,not_true_eq_false]at this;exact this
 intro k
 induction k with
 | zero=>
  intro listed a w vals hc inv;have hl:=Zga m hc;have e1:listed=Zbs m ops.size:=by
   apply Array.ext
   ·simp[Zbs,inv.lsize]
   ·intro i h1 h2;have hi:i<ops.size:=by rw[←inv.lsize];exact h1
    simp only[Zbs,Array.getElem_map,Array.getElem_range];by_cases him:i<m
    ·have:=hl i him;simp[h1]at this;rw[this,decide_eq_true him]
    ·have:=inv.tail i (by omega) hi;simp[h1]at this;rw[this,decide_eq_false him]
  have e2:a=Zan ops a0 vals (List.range m):=by
   refine Act.ext' (by rw[Zdr];exact inv.size) (by rw[Zcz];exact inv.defers) (fun t=>?_);have hg:=Zfk (ops:=ops) a0 vals t (List.range m) (fun j hj=>hdst j (List.mem_range.1 hj));by_cases hx:∃j,j<m∧Zah ops j=some t
   ·obtain⟨j,hj,hd⟩:=hx;rw[hg.1 j (List.mem_range.2 hj) hd (fun i hi hd2=>hdis j i hj (List.mem_range.1 hi) t hd hd2)];exact inv.done j hj (hl j hj) t hd
   ·rw[hg.2 (fun j hj hd=>hx ⟨j,List.mem_range.1 hj,hd⟩)];exact inv.open_ t (fun j hj _ hd=>hx ⟨j,hj,hd⟩)
  rw[e1,e2];have hlen:(ops.toList.drop m).length=ops.size-m:=by simp
  have h3:=wpAny_of_seq (P:=P) (md:=md) (ops:=ops) (Q':=Q) (ops.toList.drop m) m (Zbs m ops.size) (Zan ops a0 vals (List.range m)) w (fun j=>by simp) (by rw[hlen];exact hT) (fin vals w inv.rel (fun j hj=>inv.facts j hj (hl j hj)));rw[hlen]at h3;exact h3
 | succ k ih=>
  intro listed a w vals hc inv;obtain⟨j0,hj0,hu0,hb0⟩:=Zgo m (by omega:Zjm listed m≠0);have hin:∀i,i<ops.size→listed.getD i true=true→listed.getD i false=true:=fun i hi h=>by
   have:i<listed.size:=by rw[inv.lsize];exact hi
   simp[this]at h ⊢;exact h
  refine⟨fun h0=>?_,fun i hi=>?_⟩
  ·have hr:j0∈Region.ready md ops listed:=by
    have h1:=(hall j0 hj0).1.1.1.1;cases ho:ops[j0]? with
    | none=>rw[ho]at h1;cases h1
    | some o=>
     rw[ho]at h1;simp only[Bool.and_eq_true,Array.all_eq_true_iff_forall_mem]at h1;refine mem_ready.2 ⟨hu0,o,ho,fun e he hb=>?_⟩;have h2:=h1.2 e he;rw[hb]at h2;simp at h2;exact hin _ (by omega) (hb0 _ h2)
   rw[h0]at hr;cases hr
  ·obtain⟨hui,o,ho,hafter⟩:=mem_ready.1 hi;have him:i<m:=by
    rcases Nat.lt_or_ge i m with h | h
    ·exact h
    ·exfalso
     have his:i<ops.size:=(Array.getElem?_eq_some_iff.1 ho).1
     rcases hsink with h2 | ⟨hs1,hs2⟩
     ·omega
     ·have hinv:HeadInv md ops m listed:=⟨inv.lsize,fun j oj hj hl e he hb=>?_,inv.tail⟩
      ·exact tail_waits hs1 hs2 (by omega) hinv (m-j0) j0 rfl hj0 hu0 i h hi
      ·have hjs:j<ops.size:=(Array.getElem?_eq_some_iff.1 hj).1;have hl2:listed.getD j true=true:=by
        have:j<listed.size:=by rw[inv.lsize];exact hjs
        simp[this]at hl ⊢;exact hl
       rcases Nat.lt_or_ge j m with hjm | hjm
       ·refine inv.closed j hjm hl2 e.on ?_
        unfold Region.waitsFor;rw[hj];exact Array.any_eq_true'.2 ⟨e,he,by simp[hb]⟩
       ·have:=inv.tail j hjm hjs;rw[hl2]at this;cases this
   have hfact:=hall i him;have hdl:∀j∈deps i,j<m∧listed.getD j true=true:=fun j hj=>by
    obtain⟨h2,h3⟩:=hfact.1.1.1.2 j hj;refine⟨h2,?_⟩;have h4:=Zcn hi h3;cases hb:listed.getD j true with
    | true=>rfl
    | false=>have:=getD_both hb;rw[h4]at this;cases this
   have hdo:Zah ops i=o.dst:=by unfold Zah;rw[ho];rfl
   have hlk:looks ops i=o.looksAt ops:=by unfold looks;rw[ho]
   have hsame:∀t∈o.looksAt ops,a.tmps.getD t undef=(Zan ops a0 vals (deps i)).tmps.getD t undef:=fun t ht=>by
    have h1:=hfact.1.1.2;rw[hlk]at h1;have h1:=h1 t ht;simp only[Bool.or_eq_true,List.any_eq_true,List.all_eq_true,beq_iff_eq,bne_iff_ne,ne_eq,List.mem_range]at h1;have hg:=Zfk (ops:=ops) a0 vals t (deps i) (fun j hj=>hdst j (hdl j hj).1)
    rcases h1 with⟨j,hj,hd⟩ | h2
    ·rw[hg.1 j hj hd (fun k hk hd2=>hdis j k (hdl j hj).1 (hdl k hk).1 t hd hd2)];exact inv.done j (hdl j hj).1 (hdl j hj).2 t hd
    ·have hno:∀j,j<m→listed.getD j true=true→Zah ops j≠some t:=fun j hj hlj hd=>by
      rcases h2 j hj with (h3 | h3) | h3
      ·exact h3 hd
      ·subst h3;rw[hui]at hlj;cases hlj
      ·have h5:=inv.closed j hj hlj i h3;have h4:=getD_both hui;rw[h5]at h4;cases h4
     rw[inv.open_ t hno,hg.2 (fun j hj=>hno j (hdl j hj).1 (hdl j hj).2)]
   have hgd:o.guard=none:=by
    have h1:=hfact.1.1.1.1;rw[ho]at h1;simp only[Bool.and_eq_true,Option.isNone_iff_eq_none]at h1;exact h1.1
   have hwant:∀tmps,Region.wanted o (yielded ops tmps)=true:=fun tmps=>by unfold Region.wanted;rw[hgd]
   have hnot:i ∉ deps i:=fun h=>by
    have:=(hdl i h).2;rw[hui]at this;cases this
   have hst:=step i o him ho vals w inv.rel (inv.pre i him hui) (fun j hj=>inv.facts j (hdl j hj).1 (hdl j hj).2)
    (fun a' w'=>∃v,a'=(Zan ops a0 vals (deps i)).put o.dst v∧Rs i w w'∧Φ i (v :: (deps i).map vals) w') (fun v w' h1 h2=>⟨v,rfl,h1,h2⟩)
   rw[if_pos (hwant _)]at hst;have hev:execOp a.eval o=execOp (Zan ops a0 vals (deps i)).eval o:=execOp_congr o (fun cs b=>Region.noSelect_spec hsel i o cs b ho) (fun x hx=>by
    cases x with
    | tmp t=>exact hsame t (List.mem_append_left _ (List.mem_filterMap.2 ⟨.tmp t,by simpa using hx,rfl⟩))
    | _=>rfl)
   unfold wpOp;simp only[ho,hwant,if_true];refine .inl (Zgu hev (fun e he=>by rw[Zdr];exact hdst i him e (hdo.trans he)) (by rw[Zcz];exact inv.defers) ?_ hst);rintro v w' ⟨hR,hΦ⟩;have hmap:∀l:List Nat,i ∉ l→l.map (fun j=>if j=i then v else vals j)=l.map vals:=fun l hl=>List.map_congr_left (fun j hj=>if_neg (fun e:j=i=>hl (by rw[←e];exact hj)))
   have his:i<listed.size:=by rw[inv.lsize];exact (Array.getElem?_eq_some_iff.1 ho).1
   have hset:∀j,(listed.setIfInBounds i true).getD j true=true→j≠i→listed.getD j true=true:=fun j hj hne=>by
    rw[getD_set_ne true (fun e=>hne e.symm)]at hj;exact hj
   have haft:∀j,j<m→listed.getD j true=true→aft j i=true:=fun j hj hlj=>by
    cases hb:aft j i with
    | true=>rfl
    | false=>
     have h9:=Zmr hA inv.closed j hj (inv.closed j hj hlj) i him (fun e=>by subst e;rw[hui]at hlj;cases hlj) hb;have h8:=getD_both hui;rw[h9]at h8;cases h8
   have haft2:∀j,j<m→i≠j→listed.getD j true=false→aft i j=true:=fun j hj hne hlj=>by
    cases hb:aft i j with
    | true=>rfl
    | false=>
     have h9:=Zmr hA inv.closed i him (fun k hk=>Zcn hi hk) j hj hne hb;have h8:=getD_both hlj;rw[h9]at h8;cases h8
   refine ih (listed.setIfInBounds i true) (a.put o.dst v) w' (fun j=>if j=i then v else vals j) ?_ ⟨?_,?_,?_,?_,?_,?_,?_,?_,?_,?_⟩
   ·have:=Zjv hui m;rw[if_pos him]at this;omega
   ·rw[Zjn];exact inv.size
   ·rw[Zeb];exact inv.defers
   ·simp[inv.lsize]
   ·intro j hj hlj d hd;rw[Zfg _ _ _ _ (fun e he=>by rw[inv.size];exact hdst i him e (hdo.trans he))];by_cases hji:j=i
    ·subst hji;rw[if_pos (hdo.symm.trans hd),if_pos rfl]
    ·rw[if_neg (fun h=>hji (hdis i j him hj d (hdo.trans h) hd)),if_neg hji];exact inv.done j hj (hset j hlj hji) d hd
   ·intro t ht;have hti:=ht i him (by simp[his]);rw[Zfg _ _ _ _ (fun e he=>by rw[inv.size];exact hdst i him e (hdo.trans he)),if_neg (fun h=>hti (hdo.trans h))];refine inv.open_ t (fun j hj hlj=>?_);by_cases hji:j=i
    ·subst hji;exact hti
    ·exact ht j hj (by rw[getD_set_ne true (fun e=>hji e.symm)];exact hlj)
   ·intro j hj hlj;by_cases hji:j=i
    ·subst hji;have e:(j :: deps j).map (fun k=>if k=j then v else vals k)=v :: (deps j).map vals:=by
      rw[List.map_cons,if_pos rfl,hmap _ hnot]
     rw[e];exact hΦ
    ·have hlj':=hset j hlj hji;rw[hmap (j :: deps j) (fun h=>by
      rcases List.mem_cons.1 h with h | h
      ·exact hji h.symm
      ·have h2:=inv.closed j hj hlj' i ((hall j hj).1.1.1.2 i h).2;have h4:=getD_both hui;rw[h2]at h4;cases h4)]
     exact stab _ _ _ _ _ hji (haft j hj hlj') inv.rel (inv.pre i him hui) (inv.facts j hj hlj') hR
   ·exact hRt _ _ _ inv.rel (hRs _ _ _ hR)
   ·intro t ht ht2;rw[getD_set_ne true (by omega)];exact inv.tail t ht ht2
   ·intro j hj hlj k hk;by_cases hki:k=i
    ·subst hki;simp[his]
    ·rw[getD_set_ne false (fun e=>hki e.symm)];by_cases hji:j=i
     ·subst hji;exact Zcn hi hk
     ·exact inv.closed j hj (hset j hlj hji) k hk
   ·intro j hj hlj;have hji:j≠i:=fun e=>by
     subst e;have:(listed.setIfInBounds j true).getD j true=true:=by simp[his]
     rw[this]at hlj;cases hlj
    rw[getD_set_ne true (fun e=>hji e.symm)]at hlj;exact pstab j i _ _ hji (haft2 j hj (fun e=>hji e.symm) hlj) inv.rel (inv.pre i him hui) (inv.pre j hj hlj) hR
end main3
theorem Zjy {id:Nat}{Q:Exit→Act→World→Prop}{a0:Act}{w:World}{l:List Oper}(m N:Nat)(deps:Nat→List Nat)(Φ:Nat→List Value→World→Prop)(aft:Nat→Nat→Bool)(Pre:Nat→World→Prop)(Rs:Nat→World→World→Prop)(R:World→World→Prop)
 (hm:P.follows .mixedOrders=true) (hB:Zfn .any l.toArray m N deps=true) (hT:Region.seqB .any l.toArray (l.toArray.size-m) m (Zbs m l.toArray.size)=true) (hN:a0.tmps.size=N)
 (hRr:∀w,R w w) (hRt:∀w w1 w2,R w w1→R w1 w2→R w w2) (hRs:∀j w w',Rs j w w'→R w w') (hA:aftB .any l.toArray m aft=true) (stab:∀i j vs w1 w',i≠j→aft i j=true→R w.drew w1→Pre j w1→Φ i vs w1→Rs j w1 w'→Φ i vs w') (pstab:∀i j w1 w',i≠j→aft j i=true→R w.drew w1→Pre j w1→Pre i w1→Rs j w1 w'→Pre i w') (hP:∀j,j<m→Pre j w.drew)
 (step:∀i o,i<m→l.toArray[i]?=some o→∀(vals:Nat→Value) W,R w.drew W→Pre i W→(∀j∈deps i,Φ j ((j :: deps j).map vals) W) →
  ∀K:Act→World→Prop,(∀v w',Rs i W w'→Φ i (v :: (deps i).map vals) w'→K ((Zan l.toArray a0 vals (deps i)).put o.dst v) w')→if Region.wanted o (yielded l.toArray (Zan l.toArray a0 vals (deps i)).tmps)=true then Oper.wp P o (Zan l.toArray a0 vals (deps i)) W K (fun _ _ _=>False)else K ((Zan l.toArray a0 vals (deps i)).put o.dst undef) W)
 (fin:∀(vals:Nat→Value) W,R w.drew W→(∀j,j<m→Φ j ((j :: deps j).map vals) W)→wpList P l.toArray Q (l.drop m) (Zan l.toArray a0 vals (List.range m)) W) :
 (Code.region id l.toArray true).wp P Q a0 w:=by
 refine wp_region_any hm ?_
 have hms:m≤l.toArray.size:=by
  simp only[Zfn,Bool.and_eq_true,decide_eq_true_eq]at hB;exact hB.1.1.2
 have h0:∀j,j<l.toArray.size→(Array.replicate l.toArray.size false).getD j true=false:=fun j hj=>getD_in (by simpa using hj) (getD_replicate_false _ _)
 have hc:Zjm (Array.replicate l.toArray.size false) m=m:=by
  have:∀n,n≤l.toArray.size→Zjm (Array.replicate l.toArray.size false) n=n:=fun n=>by
   induction n with
   | zero=>intro _;rfl
   | succ n ih=>intro hn;unfold Zjm;rw[ih (by omega),h0 n (by omega)];rfl
  exact this m hms
 have h:=grow_go3 (P:=P) (md:=.any) (ops:=l.toArray) (Q:=Q) (a0:=a0) (w0:=w.drew) (m:=m) (N:=N) (deps:=deps) (Φ:=Φ) (aft:=aft) (Pre:=Pre) (Rs:=Rs) (R:=R) hB hT hN hRt hRs hA stab pstab step (by simpa using fin) m (Array.replicate l.toArray.size false) a0 w.drew (fun _=>undef) hc
  ⟨rfl,rfl,by simp,(fun j hj hl=>by rw[h0 j (by omega)]at hl;exact absurd hl (by decide)),(fun t _=>rfl),(fun j hj hl=>by rw[h0 j (by omega)]at hl;exact absurd hl (by decide)),hRr _,(fun t ht ht2=>h0 t ht2),(fun j hj hl=>by rw[h0 j (by omega)]at hl;exact absurd hl (by decide)),(fun j hj _=>hP j hj)⟩
 have e:l.toArray.size-m+m=l.toArray.size:=by omega
 rw[e]at h;exact h
theorem Zjk {id:Nat}{Q:Exit→Act→World→Prop}{a0:Act}{w:World}{l:List Oper}(m N:Nat)(deps:Nat→List Nat)(Φ:Nat→List Value→World→Prop)(aft:Nat→Nat→Bool)(Pre:Nat→World→Prop)(Rs:Nat→World→World→Prop)(R:World→World→Prop)
 (hm:P.follows .mixedOrders=true) (hB:Zfn .any l.toArray m N deps=true) (hT:Region.seqB .any l.toArray (l.toArray.size-m) m (Zbs m l.toArray.size)=true) (hN:a0.tmps.size=N)
 (hRr:∀w,R w w) (hRt:∀w w1 w2,R w w1→R w1 w2→R w w2) (hRs:∀j w w',Rs j w w'→R w w') (hA:aftB .any l.toArray m aft=true) (stab:∀i j vs w1 w',i≠j→aft i j=true→R w.drew w1→Pre j w1→Φ i vs w1→Rs j w1 w'→Φ i vs w') (pstab:∀i j w1 w',i≠j→aft j i=true→R w.drew w1→Pre j w1→Pre i w1→Rs j w1 w'→Pre i w') (hP:∀j,j<m→Pre j w.drew)
 (steps:AllSteps (fun i o=>∀(vals:Nat→Value) W,R w.drew W→Pre i W→(∀j∈deps i,Φ j ((j :: deps j).map vals) W)→Does P o (Zan l.toArray a0 vals (deps i)) W (fun v w'=>Rs i W w'∧Φ i (v :: (deps i).map vals) w')) 0 (l.take m))
 (fin:∀(vals:Nat→Value) W,R w.drew W→(∀j,j<m→Φ j ((j :: deps j).map vals) W)→wpList P l.toArray Q (l.drop m) (Zan l.toArray a0 vals (List.range m)) W) :
 (Code.region id l.toArray true).wp P Q a0 w:=by
 refine Zjy m N deps Φ aft Pre Rs R hm hB hT hN hRr hRt hRs hA stab pstab hP (fun i o hi ho vals W hR hp hd K hK=>?_) fin;have h:=AllSteps.at_ steps i o (by rw[List.getElem?_take,if_pos hi];simpa using ho) vals W hR (by simpa using hp) (by simpa using hd) K
 split
 ·simp only[Nat.zero_add]at h;exact h (fun v w' ⟨h1,h2⟩=>hK v w' h1 h2)
 ·rename_i hw
  exfalso
  simp only[Zfn,Bool.and_eq_true,decide_eq_true_eq,List.all_eq_true,List.mem_range]at hB;have h1:=(hB.1.2 i hi).1.1.1.1;rw[ho]at h1;simp only[Bool.and_eq_true,Option.isNone_iff_eq_none]at h1;exact hw (by unfold Region.wanted;rw[h1.1])
end
end Go
