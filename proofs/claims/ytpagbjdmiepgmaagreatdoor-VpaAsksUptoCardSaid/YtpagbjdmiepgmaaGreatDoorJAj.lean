/- Joined from texts of this seat, in their order. -/
import Derived.Test.YtpagbjdmiepgmaaGreatDoorJAb
import Derived.Test.YtpagbjdmiepgmaaGreatDoorJAc
import Derived.Test.YtpagbjdmiepgmaaGreatDoorJAf
import Derived.Test.YtpagbjdmiepgmaaGreatDoorJAd
set_option linter.unusedVariables false
set_option linter.unusedSimpArgs false
set_option linter.unusedSectionVars false
set_option maxRecDepth 100000
namespace Go
section
variable {P:Program}{ops:Array Oper}{md:Region.Mode}
def Zol (md:Region.Mode)(ops:Array Oper)(m N:Nat)(deps:Nat→List Nat):Bool:=
 Region.noSelect ops&&decide (m≤ops.size) &&
 (List.range m).all (fun i=>
  (match ops[i]? with
   | some o=>o.after.all fun e=>!Region.binds md e||decide (e.on<i)
   | none=>false)
  && ((deps i).all fun k=>decide (k<m)&&Region.waitsFor md ops i k)
  && ((looks ops i).all fun t=>((deps i).any fun j=>Zai ops j==some t)||((List.range m).all fun j=>Zai ops j != some t||j==i||Region.waitsFor md ops j i))
  && (match Zai ops i with | some d=>decide (d<N) | none=>true)
  && ((List.range m).all fun j=>j==i||(Zai ops i).isNone||Zai ops j != Zai ops i))
 && (decide (m=ops.size)||(Region.sinkB md ops m&&Region.chainB md ops m))
section main
variable {Q:Exit→Act→World→Prop}{a0:Act}{w0:World}{m N:Nat}{deps:Nat→List Nat}{Φ:Nat→List Value→World→Prop}{R:World→World→Prop}
theorem growg_go (hB:Zol md ops m N deps=true)(hT:Region.seqB md ops (ops.size-m) m (Zbv m ops.size)=true)(hN:a0.tmps.size=N)(hRt:∀w w1 w2,R w w1→R w1 w2→R w w2)
 (stab:∀i vs w w',Φ i vs w→R w w'→Φ i vs w')
 (step:∀i o,i<m→ops[i]?=some o→∀(vals:Nat→Value) W,R w0 W→(∀j∈deps i,Φ j ((j :: deps j).map vals) W) →
  ∀K:Act→World→Prop,(∀v w',R W w'→Φ i (v :: (deps i).map vals) w'→K ((Zao ops a0 vals (deps i)).put o.dst v) w')→if Region.wanted o (yielded ops (Zao ops a0 vals (deps i)).tmps)=true then Oper.wp P o (Zao ops a0 vals (deps i)) W K (fun _ _ _=>False)else K ((Zao ops a0 vals (deps i)).put o.dst undef) W)
 (fin:∀(vals:Nat→Value) W,R w0 W→(∀j,j<m→Φ j ((j :: deps j).map vals) W)→wpList P ops Q (ops.toList.drop m) (Zao ops a0 vals (List.range m)) W) :
 ∀k listed a w vals,Zjb listed m=k→GInv md ops m a0 deps Φ R w0 listed a vals w→wpAny P md ops Q (ops.size-m+k) listed a w:=by
 simp only[Zol,Bool.and_eq_true,Bool.or_eq_true,decide_eq_true_eq]at hB;obtain⟨⟨⟨hsel,hms⟩,hall⟩,hsink⟩:=hB;simp only[Bool.and_eq_true,List.all_eq_true,List.mem_range,decide_eq_true_eq]at hall;have hdst:∀j,j<m→∀e,Zai ops j=some e→e<a0.tmps.size:=fun j hj e he=>by
  have:=(hall j hj).1.2;rw[he]at this;rw[hN];simpa using this
 have hdis:∀i j,i<m→j<m→∀t,Zai ops i=some t→Zai ops j=some t→j=i:=fun i j hi hj t h1 h2=>by
  have:=(hall i hi).2 j hj;simp only[Bool.or_eq_true,beq_iff_eq,bne_iff_ne,ne_eq,h1,h2,Option.isNone_some,Bool.false_eq_true,or_false,not_true_eq_false]at this;exact this
 intro k
 induction k with
 | zero=>
  intro listed a w vals hc inv;have hl:=Zgk m hc;have e1:listed=Zbv m ops.size:=by
   apply Array.ext
   ·simp[Zbv,inv.lsize]
   ·intro i h1 h2;have hi:i<ops.size:=by rw[←inv.lsize];exact h1
    simp only[Zbv,Array.getElem_map,Array.getElem_range];by_cases him:i<m
    ·have:=hl i him;simp[h1]at this;rw[this,decide_eq_true him]
    ·have:=inv.tail i (by omega) hi;simp[h1]at this;rw[this,decide_eq_false him]
  have e2:a=Zao ops a0 vals (List.range m):=by
   refine Act.ext' (by rw[Zdl];exact inv.size) (by rw[Zdj];exact inv.defers) (fun t=>?_);have hg:=Zff (ops:=ops) a0 vals t (List.range m) (fun j hj=>hdst j (List.mem_range.1 hj));by_cases hx:∃j,j<m∧Zai ops j=some t
   ·obtain⟨j,hj,hd⟩:=hx;rw[hg.1 j (List.mem_range.2 hj) hd (fun i hi hd2=>hdis j i hj (List.mem_range.1 hi) t hd hd2)];exact inv.done j hj (hl j hj) t hd
   ·rw[hg.2 (fun j hj hd=>hx ⟨j,List.mem_range.1 hj,hd⟩)];exact inv.open_ t (fun j hj _ hd=>hx ⟨j,hj,hd⟩)
  rw[e1,e2];have hlen:(ops.toList.drop m).length=ops.size-m:=by simp
  have h3:=wpAny_of_seq (P:=P) (md:=md) (ops:=ops) (Q':=Q) (ops.toList.drop m) m (Zbv m ops.size) (Zao ops a0 vals (List.range m)) w (fun j=>by simp) (by rw[hlen];exact hT) (fin vals w inv.rel (fun j hj=>inv.facts j hj (hl j hj)));rw[hlen]at h3;exact h3
 | succ k ih=>
  intro listed a w vals hc inv;obtain⟨j0,hj0,hu0,hb0⟩:=Zgl m (by omega:Zjb listed m≠0);have hin:∀i,i<ops.size→listed.getD i true=true→listed.getD i false=true:=fun i hi h=>by
   have:i<listed.size:=by rw[inv.lsize];exact hi
   simp[this]at h ⊢;exact h
  refine⟨fun h0=>?_,fun i hi=>?_⟩
  ·have hr:j0∈Region.ready md ops listed:=by
    have h1:=(hall j0 hj0).1.1.1.1;cases ho:ops[j0]? with
    | none=>rw[ho]at h1;cases h1
    | some o=>
     rw[ho]at h1;simp only[Array.all_eq_true_iff_forall_mem]at h1;refine mem_ready.2 ⟨hu0,o,ho,fun e he hb=>?_⟩;have h2:=h1 e he;rw[hb]at h2;simp at h2;exact hin _ (by omega) (hb0 _ h2)
   rw[h0]at hr;cases hr
  ·obtain⟨hui,o,ho,hafter⟩:=mem_ready.1 hi;have him:i<m:=by
    rcases Nat.lt_or_ge i m with h | h
    ·exact h
    ·exfalso
     have his:i<ops.size:=(Array.getElem?_eq_some_iff.1 ho).1
     rcases hsink with h2 | ⟨hs1,hs2⟩
     ·omega
     ·have hinv:HeadInv md ops m listed:=⟨inv.lsize,fun j oj hj hl e he hb=>?_,inv.tail⟩
      ·exact tail_waits hs1 hs2 (by omega) hinv (m-j0) j0 rfl hj0 hu0 i h hi
      ·have hjs:j<ops.size:=(Array.getElem?_eq_some_iff.1 hj).1;have hl2:listed.getD j true=true:=by
        have:j<listed.size:=by rw[inv.lsize];exact hjs
        simp[this]at hl ⊢;exact hl
       rcases Nat.lt_or_ge j m with hjm | hjm
       ·refine inv.closed j hjm hl2 e.on ?_
        unfold Region.waitsFor;rw[hj];exact Array.any_eq_true'.2 ⟨e,he,by simp[hb]⟩
       ·have:=inv.tail j hjm hjs;rw[hl2]at this;cases this
   have hfact:=hall i him;have hdl:∀j∈deps i,j<m∧listed.getD j true=true:=fun j hj=>by
    obtain⟨h2,h3⟩:=hfact.1.1.1.2 j hj;refine⟨h2,?_⟩;have h4:=Zct hi h3;cases hb:listed.getD j true with
    | true=>rfl
    | false=>have:=getD_both hb;rw[h4]at this;cases this
   have hdo:Zai ops i=o.dst:=by unfold Zai;rw[ho];rfl
   have hlk:looks ops i=o.looksAt ops:=by unfold looks;rw[ho]
   have hsame:∀t∈o.looksAt ops,a.tmps.getD t undef=(Zao ops a0 vals (deps i)).tmps.getD t undef:=fun t ht=>by
    have h1:=hfact.1.1.2;rw[hlk]at h1;have h1:=h1 t ht;simp only[Bool.or_eq_true,List.any_eq_true,List.all_eq_true,beq_iff_eq,bne_iff_ne,ne_eq,List.mem_range]at h1;have hg:=Zff (ops:=ops) a0 vals t (deps i) (fun j hj=>hdst j (hdl j hj).1)
    rcases h1 with⟨j,hj,hd⟩ | h2
    ·rw[hg.1 j hj hd (fun k hk hd2=>hdis j k (hdl j hj).1 (hdl k hk).1 t hd hd2)];exact inv.done j (hdl j hj).1 (hdl j hj).2 t hd
    ·have hno:∀j,j<m→listed.getD j true=true→Zai ops j≠some t:=fun j hj hlj hd=>by
      rcases h2 j hj with (h3 | h3) | h3
      ·exact h3 hd
      ·subst h3;rw[hui]at hlj;cases hlj
      ·have h5:=inv.closed j hj hlj i h3;have h4:=getD_both hui;rw[h5]at h4;cases h4
     rw[inv.open_ t hno,hg.2 (fun j hj=>hno j (hdl j hj).1 (hdl j hj).2)]
   have hsz:a.tmps.size=(Zao ops a0 vals (deps i)).tmps.size:=by rw[Zdl];exact inv.size
   have hwant:Region.wanted o (yielded ops a.tmps)=Region.wanted o (yielded ops (Zao ops a0 vals (deps i)).tmps):=by
    unfold Region.wanted;cases hg:o.guard with
    | none=>rfl
    | some g=>
     obtain⟨g,b⟩:=g;have hy:yielded ops a.tmps g=yielded ops (Zao ops a0 vals (deps i)).tmps g:=by
      unfold yielded;cases hd:(ops[g]?).bind (·.dst)with
      | none=>rfl
      | some t=>
       have h1:=hsame t (List.mem_append_right _ (by rw[hg];simp[hd]));have h2:a.tmps[t]?=(Zao ops a0 vals (deps i)).tmps[t]?:=by
        by_cases ht:t<a.tmps.size
        ·have ht2:t<(Zao ops a0 vals (deps i)).tmps.size:=by rw[←hsz];exact ht
         simpa[ht,ht2]using h1
        ·rw[Array.getElem?_eq_none (Nat.not_lt.1 ht),Array.getElem?_eq_none (by rw[←hsz];exact Nat.not_lt.1 ht)]
       simp only[Option.bind_some,h2]
     simp only[hy]
   have hnot:i ∉ deps i:=fun h=>by
    have:=(hdl i h).2;rw[hui]at this;cases this
   have hst:=step i o him ho vals w inv.rel (fun j hj=>inv.facts j (hdl j hj).1 (hdl j hj).2)
    (fun a' w'=>∃v,a'=(Zao ops a0 vals (deps i)).put o.dst v∧R w w'∧Φ i (v :: (deps i).map vals) w') (fun v w' h1 h2=>⟨v,rfl,h1,h2⟩)
   have hev:execOp a.eval o=execOp (Zao ops a0 vals (deps i)).eval o:=execOp_congr o (fun cs b=>Region.noSelect_spec hsel i o cs b ho) (fun x hx=>by
    cases x with
    | tmp t=>exact hsame t (List.mem_append_left _ (List.mem_filterMap.2 ⟨.tmp t,by simpa using hx,rfl⟩))
    | _=>rfl)
   have cont:∀v w',R w w'∧Φ i (v :: (deps i).map vals) w'→wpAny P md ops Q (ops.size-m+k) (listed.setIfInBounds i true) (a.put o.dst v) w':=?cont;unfold wpOp;simp only[ho];rw[hwant]
   split at hst
   ·rename_i hw
    rw[if_pos hw];exact .inl (Zgo hev (fun e he=>by rw[Zdl];exact hdst i him e (hdo.trans he)) (by rw[Zdj];exact inv.defers) cont hst)
   ·rename_i hw
    rw[if_neg hw];obtain⟨v,he,h⟩:=hst;rw[put_inj he (fun e he=>by rw[Zdl];exact hdst i him e (hdo.trans he)) a];exact cont v w h
   rintro v w' ⟨hR,hΦ⟩;have hmap:∀l:List Nat,i ∉ l→l.map (fun j=>if j=i then v else vals j)=l.map vals:=fun l hl=>List.map_congr_left (fun j hj=>if_neg (fun e:j=i=>hl (by rw[←e];exact hj)))
   have his:i<listed.size:=by rw[inv.lsize];exact (Array.getElem?_eq_some_iff.1 ho).1
   have hset:∀j,(listed.setIfInBounds i true).getD j true=true→j≠i→listed.getD j true=true:=fun j hj hne=>by
    rw[getD_set_ne true (fun e=>hne e.symm)]at hj;exact hj
   refine ih (listed.setIfInBounds i true) (a.put o.dst v) w' (fun j=>if j=i then v else vals j) ?_ ⟨?_,?_,?_,?_,?_,?_,?_,?_,?_⟩
   ·have:=Zjr hui m;rw[if_pos him]at this;omega
   ·rw[Zjh];exact inv.size
   ·rw[Zer];exact inv.defers
   ·simp[inv.lsize]
   ·intro j hj hlj d hd;rw[Zfl _ _ _ _ (fun e he=>by rw[inv.size];exact hdst i him e (hdo.trans he))];by_cases hji:j=i
    ·subst hji;rw[if_pos (hdo.symm.trans hd),if_pos rfl]
    ·rw[if_neg (fun h=>hji (hdis i j him hj d (hdo.trans h) hd)),if_neg hji];exact inv.done j hj (hset j hlj hji) d hd
   ·intro t ht;have hti:=ht i him (by simp[his]);rw[Zfl _ _ _ _ (fun e he=>by rw[inv.size];exact hdst i him e (hdo.trans he)),if_neg (fun h=>hti (hdo.trans h))];refine inv.open_ t (fun j hj hlj=>?_);by_cases hji:j=i
    ·subst hji;exact hti
    ·exact ht j hj (by rw[getD_set_ne true (fun e=>hji e.symm)];exact hlj)
   ·intro j hj hlj;by_cases hji:j=i
    ·subst hji;have e:(j :: deps j).map (fun k=>if k=j then v else vals k)=v :: (deps j).map vals:=by
      rw[List.map_cons,if_pos rfl,hmap _ hnot]
     rw[e];exact hΦ
    ·have hlj':=hset j hlj hji;rw[hmap (j :: deps j) (fun h=>by
      rcases List.mem_cons.1 h with h | h
      ·exact hji h.symm
      ·have h2:=inv.closed j hj hlj' i ((hall j hj).1.1.1.2 i h).2;have h4:=getD_both hui;rw[h2]at h4;cases h4)]
     exact stab _ _ _ _ (inv.facts j hj hlj') hR
   ·exact hRt _ _ _ inv.rel hR
   ·intro t ht ht2;rw[getD_set_ne true (by omega)];exact inv.tail t ht ht2
   ·intro j hj hlj k hk;by_cases hki:k=i
    ·subst hki;simp[his]
    ·rw[getD_set_ne false (fun e=>hki e.symm)];by_cases hji:j=i
     ·subst hji;exact Zct hi hk
     ·exact inv.closed j hj (hset j hlj hji) k hk
end main
theorem Zlg {id:Nat}{Q:Exit→Act→World→Prop}{a0:Act}{w:World}{l:List Oper}(m N:Nat)(deps:Nat→List Nat)(Φ:Nat→List Value→World→Prop)(R:World→World→Prop)
 (hm:P.follows .mixedOrders=true) (hB:Zol .any l.toArray m N deps=true) (hT:Region.seqB .any l.toArray (l.toArray.size-m) m (Zbv m l.toArray.size)=true) (hN:a0.tmps.size=N)
 (hRr:∀w,R w w) (hRt:∀w w1 w2,R w w1→R w1 w2→R w w2) (stab:∀i vs w w',Φ i vs w→R w w'→Φ i vs w')
 (step:∀i o,i<m→l.toArray[i]?=some o→∀(vals:Nat→Value) W,R w.drew W→(∀j∈deps i,Φ j ((j :: deps j).map vals) W) →
  ∀K:Act→World→Prop,(∀v w',R W w'→Φ i (v :: (deps i).map vals) w'→K ((Zao l.toArray a0 vals (deps i)).put o.dst v) w')→if Region.wanted o (yielded l.toArray (Zao l.toArray a0 vals (deps i)).tmps)=true then Oper.wp P o (Zao l.toArray a0 vals (deps i)) W K (fun _ _ _=>False)else K ((Zao l.toArray a0 vals (deps i)).put o.dst undef) W)
 (fin:∀(vals:Nat→Value) W,R w.drew W→(∀j,j<m→Φ j ((j :: deps j).map vals) W)→wpList P l.toArray Q (l.drop m) (Zao l.toArray a0 vals (List.range m)) W) :
 (Code.region id l.toArray true).wp P Q a0 w:=by
 refine wp_region_any hm ?_
 have hms:m≤l.toArray.size:=by
  simp only[Zol,Bool.and_eq_true,decide_eq_true_eq]at hB;exact hB.1.1.2
 have h0:∀j,j<l.toArray.size→(Array.replicate l.toArray.size false).getD j true=false:=fun j hj=>getD_in (by simpa using hj) (getD_replicate_false _ _)
 have hc:Zjb (Array.replicate l.toArray.size false) m=m:=by
  have:∀n,n≤l.toArray.size→Zjb (Array.replicate l.toArray.size false) n=n:=fun n=>by
   induction n with
   | zero=>intro _;rfl
   | succ n ih=>intro hn;unfold Zjb;rw[ih (by omega),h0 n (by omega)];rfl
  exact this m hms
 have h:=growg_go (P:=P) (md:=.any) (ops:=l.toArray) (Q:=Q) (a0:=a0) (w0:=w.drew) (m:=m) (N:=N) (deps:=deps) (Φ:=Φ) (R:=R) hB hT hN hRt stab step (by simpa using fin) m (Array.replicate l.toArray.size false) a0 w.drew (fun _=>undef) hc
  ⟨rfl,rfl,by simp,(fun j hj hl=>by rw[h0 j (by omega)]at hl;exact absurd hl (by decide)),(fun t _=>rfl),(fun j hj hl=>by rw[h0 j (by omega)]at hl;exact absurd hl (by decide)),hRr _,(fun t ht ht2=>h0 t ht2),(fun j hj hl=>by rw[h0 j (by omega)]at hl;exact absurd hl (by decide))⟩
 have e:l.toArray.size-m+m=l.toArray.size:=by omega
 rw[e]at h;exact h
def DoesG (P:Program)(ops:Array Oper)(o:Oper)(a:Act)(W:World)(T:Value→World→Prop):Prop:=∀K:Act→World→Prop,(∀v w',T v w'→K (a.put o.dst v) w')→if Region.wanted o (yielded ops a.tmps)=true then Oper.wp P o a W K (fun _ _ _=>False)else K (a.put o.dst undef) W
theorem Zbo {o:Oper}{a:Act}{W:World}{T:Value→World→Prop}(hw:Region.wanted o (yielded ops a.tmps)=true)(h:Does P o a W T):DoesG P ops o a W T:=fun K hK=>by
 rw[if_pos hw];exact h K hK
theorem doesg_no {o:Oper}{a:Act}{W:World}{T:Value→World→Prop}(hw:Region.wanted o (yielded ops a.tmps)=false)(h:T undef W):DoesG P ops o a W T:=fun K hK=>by
 rw[if_neg (by rw[hw];decide)];exact hK undef W h
theorem Zal {o:Oper}{a:Act}{W:World}{T:Value→World→Prop}(hg:o.guard=none)(h:Does P o a W T):DoesG P ops o a W T:=Zbo (by unfold Region.wanted;rw[hg]) h
theorem Zcr {id:Nat}{Q:Exit→Act→World→Prop}{a0:Act}{w:World}{l:List Oper}(m N:Nat)(deps:Nat→List Nat)(Φ:Nat→List Value→World→Prop)(R:World→World→Prop)
 (hm:P.follows .mixedOrders=true) (hB:Zol .any l.toArray m N deps=true) (hT:Region.seqB .any l.toArray (l.toArray.size-m) m (Zbv m l.toArray.size)=true) (hN:a0.tmps.size=N)
 (hRr:∀w,R w w) (hRt:∀w w1 w2,R w w1→R w1 w2→R w w2) (stab:∀i vs w w',Φ i vs w→R w w'→Φ i vs w')
 (steps:AllSteps (fun i o=>∀(vals:Nat→Value) W,R w.drew W→(∀j∈deps i,Φ j ((j :: deps j).map vals) W)→DoesG P l.toArray o (Zao l.toArray a0 vals (deps i)) W (fun v w'=>R W w'∧Φ i (v :: (deps i).map vals) w')) 0 (l.take m))
 (fin:∀(vals:Nat→Value) W,R w.drew W→(∀j,j<m→Φ j ((j :: deps j).map vals) W)→wpList P l.toArray Q (l.drop m) (Zao l.toArray a0 vals (List.range m)) W) :
 (Code.region id l.toArray true).wp P Q a0 w:=by
 refine Zlg m N deps Φ R hm hB hT hN hRr hRt stab (fun i o hi ho vals W hR hd K hK=>?_) fin;have h:=AllSteps.at_ steps i o (by rw[List.getElem?_take,if_pos hi];simpa using ho) vals W hR (by simpa using hd) K;simp only[Nat.zero_add]at h;exact h (fun v w' ⟨h1,h2⟩=>hK v w' h1 h2)
end
end Go
namespace Go
section
variable {P:Program}
theorem Znb {ops:Array Oper}(a0:Act){f g:Nat→Value}:∀ds:List Nat,(∀j∈ds,f j=g j)→Zao ops a0 f ds=Zao ops a0 g ds
 | [],_=>rfl
 | j :: l,h=>by
  unfold Zao;rw[Znb a0 l (fun k hk=>h k (List.mem_cons_of_mem _ hk)),h j List.mem_cons_self]
theorem AllSteps.imp {S S':Nat→Oper→Prop}(h:∀i o,S i o→S' i o):∀{l:List Oper} {i:Nat},AllSteps S i l→AllSteps S' i l
 | [],_,_=>trivial
 | _ :: _,_,hs=>⟨h _ _ hs.1,AllSteps.imp h hs.2⟩
theorem DoesG.imp {ops:Array Oper}{o:Oper}{a:Act}{W:World}{T T':Value→World→Prop}(h:DoesG P ops o a W T)(hT:∀v w,T v w→T' v w):DoesG P ops o a W T':=fun K hK=>h K (fun v w' ht=>hK v w' (hT v w' ht))
theorem Zeb {id:Nat}{Q:Exit→Act→World→Prop}{a0:Act}{w:World}{l:List Oper}(m N:Nat)(deps:Nat→List Nat)(val:Nat→Value)(R:World→World→Prop)
 (hm:P.follows .mixedOrders=true) (hB:Zol .any l.toArray m N deps=true) (hT:Region.seqB .any l.toArray (l.toArray.size-m) m (Zbv m l.toArray.size)=true) (hN:a0.tmps.size=N)
 (hRr:∀w,R w w) (hRt:∀w w1 w2,R w w1→R w1 w2→R w w2)
 (steps:AllSteps (fun i o=>∀W,R w.drew W→DoesG P l.toArray o (Zao l.toArray a0 val (deps i)) W (fun v w'=>R W w'∧v=val i)) 0 (l.take m))
 (fin:∀W,R w.drew W→wpList P l.toArray Q (l.drop m) (Zao l.toArray a0 val (List.range m)) W) :
 (Code.region id l.toArray true).wp P Q a0 w:=by
 refine Zcr m N deps (fun i vs _=>vs.head?=some (val i)) R hm hB hT hN hRr hRt (fun _ _ _ _ h _=>h) (AllSteps.imp (fun i o h vals W hR hd=>?_) steps) (fun vals W hR hF=>?_)
 ·have e:Zao l.toArray a0 vals (deps i)=Zao l.toArray a0 val (deps i):=Znb a0 _ (fun j hj=>Option.some.inj (hd j hj));rw[e];exact (h W hR).imp (fun v w' ⟨h1,h2⟩=>⟨h1,congrArg some h2⟩)
 ·have e:Zao l.toArray a0 vals (List.range m)=Zao l.toArray a0 val (List.range m):=Znb a0 _ (fun j hj=>Option.some.inj (hF j (List.mem_range.1 hj)));rw[e];exact fin W hR
end
end Go
namespace Go.Proofs.YtpagbjdmiepgmaaGreatDoor.PVpa
open Go.RowKit Go.Proofs.YtpagbjdmiepgmaaGreatDoorW.PrintWords Go.Proofs.YtpagbjdmiepgmaaGreatDoorW.PrintLast Go.Proofs.YtpagbjdmiepgmaaGreatDoorW.PrintMore
structure S94 where
 f0:Int
 f1:S76
 f2:(List Int)
 f3:Bool
 f4:Int
 f5:Int
 f6:Int
 f7:Int
def z94:S94:=⟨(0:Int),z76,([]:List Int),false,(0:Int),(0:Int),(0:Int),(0:Int)⟩
def k94:Kd S94:=Kd.iso (Kd.pair (Kd.int .i64) (Kd.pair k76 (Kd.pair (Kd.slice 3 (Kd.int .i64)) (Kd.pair Kd.bool (Kd.pair (Kd.int .i64) (Kd.pair (Kd.int .i64) (Kd.pair (Kd.int .i64) (Kd.int .i64)))))))) (fun x:S94=>(x.f0,x.f1,x.f2,x.f3,x.f4,x.f5,x.f6,x.f7))
theorem k94_open {w:World}{x:S94}{cs:List Value}(h:k94.K w x cs):∃A2 c2 A3 c3 A4 c4 A5 c5,cs=[.int .i64 x.f0,.int .i64 x.f1.f0,.slice A2 x.f1.f1.length c2,.slice A3 x.f1.f2.length c3,.slice A4 x.f1.f3.length c4,.slice A5 x.f2.length c5,.bool x.f3,.int .i64 x.f4,.int .i64 x.f5,.int .i64 x.f6,.int .i64 x.f7]∧x.f1.f1.length≤c2∧Kd.string.C w A2 x.f1.f1.length x.f1.f1∧x.f1.f2.length≤c3∧Kd.string.C w A3 x.f1.f2.length x.f1.f2∧x.f1.f3.length≤c4∧k76.C w A4 x.f1.f3.length x.f1.f3∧x.f2.length≤c5∧(Kd.int .i64).C w A5 x.f2.length x.f2:=by
 obtain⟨_,_,rfl,rfl,⟨_,_,rfl,s1,⟨_,_,rfl,⟨A5,c5,rfl,l5,g5⟩,⟨_,_,rfl,rfl,⟨_,_,rfl,rfl,⟨_,_,rfl,rfl,⟨_,_,rfl,rfl,rfl⟩⟩⟩⟩⟩⟩⟩:=h;obtain⟨A2,c2,A3,c3,A4,c4,rfl,l2,g2,l3,g3,l4,g4⟩:=Zcb s1;exact⟨A2,c2,A3,c3,A4,c4,A5,c5,rfl,l2,g2,l3,g3,l4,g4,l5,g5⟩
theorem k94_mk (w:World)(x:S94){A2:Option Addr}{c2:Nat}(l2:x.f1.f1.length≤c2)(g2:Kd.string.C w A2 x.f1.f1.length x.f1.f1){A3:Option Addr}{c3:Nat}(l3:x.f1.f2.length≤c3)(g3:Kd.string.C w A3 x.f1.f2.length x.f1.f2){A4:Option Addr}{c4:Nat}(l4:x.f1.f3.length≤c4)(g4:k76.C w A4 x.f1.f3.length x.f1.f3){A5:Option Addr}{c5:Nat}(l5:x.f2.length≤c5)(g5:(Kd.int .i64).C w A5 x.f2.length x.f2):k94.K w x [.int .i64 x.f0,.int .i64 x.f1.f0,.slice A2 x.f1.f1.length c2,.slice A3 x.f1.f2.length c3,.slice A4 x.f1.f3.length c4,.slice A5 x.f2.length c5,.bool x.f3,.int .i64 x.f4,.int .i64 x.f5,.int .i64 x.f6,.int .i64 x.f7]:=⟨[.int .i64 x.f0],[.int .i64 x.f1.f0,.slice A2 x.f1.f1.length c2,.slice A3 x.f1.f2.length c3,.slice A4 x.f1.f3.length c4,.slice A5 x.f2.length c5,.bool x.f3,.int .i64 x.f4,.int .i64 x.f5,.int .i64 x.f6,.int .i64 x.f7],rfl,rfl,⟨[.int .i64 x.f1.f0,.slice A2 x.f1.f1.length c2,.slice A3 x.f1.f2.length c3,.slice A4 x.f1.f3.length c4],[.slice A5 x.f2.length c5,.bool x.f3,.int .i64 x.f4,.int .i64 x.f5,.int .i64 x.f6,.int .i64 x.f7],rfl,(k76_mk w x.f1 l2 g2 l3 g3 l4 g4),⟨[.slice A5 x.f2.length c5],[.bool x.f3,.int .i64 x.f4,.int .i64 x.f5,.int .i64 x.f6,.int .i64 x.f7],rfl,⟨A5,c5,rfl,l5,g5⟩,⟨[.bool x.f3],[.int .i64 x.f4,.int .i64 x.f5,.int .i64 x.f6,.int .i64 x.f7],rfl,rfl,⟨[.int .i64 x.f4],[.int .i64 x.f5,.int .i64 x.f6,.int .i64 x.f7],rfl,rfl,⟨[.int .i64 x.f5],[.int .i64 x.f6,.int .i64 x.f7],rfl,rfl,⟨[.int .i64 x.f6],[.int .i64 x.f7],rfl,rfl,rfl⟩⟩⟩⟩⟩⟩⟩
def Zak (xs:List S94)(i:Int):S94:=xs.getD i.toNat z94
theorem Zju {w:World}{A:Option Addr}{n:Nat}{xs:List S94}(h:Kd.C k94 w A n xs)(i:Int)(h0:0≤i)(h1:i<n):∃ad A2 c2 A3 c3 A4 c4 A5 c5,A=some ad∧w.cell? (ad.add (i.toNat*11))=some (.int .i64 (Zak xs i).f0)∧w.cell? ⟨(ad.add (i.toNat*11)).block,(ad.add (i.toNat*11)).off+1,none⟩=some (.int .i64 (Zak xs i).f1.f0)∧w.cell? ⟨(ad.add (i.toNat*11)).block,(ad.add (i.toNat*11)).off+2,none⟩=some (.slice A2 (Zak xs i).f1.f1.length c2)∧w.cell? ⟨(ad.add (i.toNat*11)).block,(ad.add (i.toNat*11)).off+3,none⟩=some (.slice A3 (Zak xs i).f1.f2.length c3)∧w.cell? ⟨(ad.add (i.toNat*11)).block,(ad.add (i.toNat*11)).off+4,none⟩=some (.slice A4 (Zak xs i).f1.f3.length c4)∧w.cell? ⟨(ad.add (i.toNat*11)).block,(ad.add (i.toNat*11)).off+5,none⟩=some (.slice A5 (Zak xs i).f2.length c5)∧w.cell? ⟨(ad.add (i.toNat*11)).block,(ad.add (i.toNat*11)).off+6,none⟩=some (.bool (Zak xs i).f3)∧w.cell? ⟨(ad.add (i.toNat*11)).block,(ad.add (i.toNat*11)).off+7,none⟩=some (.int .i64 (Zak xs i).f4)∧w.cell? ⟨(ad.add (i.toNat*11)).block,(ad.add (i.toNat*11)).off+8,none⟩=some (.int .i64 (Zak xs i).f5)∧w.cell? ⟨(ad.add (i.toNat*11)).block,(ad.add (i.toNat*11)).off+9,none⟩=some (.int .i64 (Zak xs i).f6)∧w.cell? ⟨(ad.add (i.toNat*11)).block,(ad.add (i.toNat*11)).off+10,none⟩=some (.int .i64 (Zak xs i).f7)∧(Zak xs i).f1.f1.length≤c2∧Kd.string.C w A2 (Zak xs i).f1.f1.length (Zak xs i).f1.f1∧(Zak xs i).f1.f2.length≤c3∧Kd.string.C w A3 (Zak xs i).f1.f2.length (Zak xs i).f1.f2∧(Zak xs i).f1.f3.length≤c4∧k76.C w A4 (Zak xs i).f1.f3.length (Zak xs i).f1.f3∧(Zak xs i).f2.length≤c5∧(Kd.int .i64).C w A5 (Zak xs i).f2.length (Zak xs i).f2:=by
 obtain⟨ad,c,e,_,hK,hc0⟩:=Kd.C_get h z94 i h0 h1;have hc:∀j u,c[j]?=some u→w.cell? (ad.add (i.toNat*11+j))=some u:=hc0;obtain⟨A2,c2,A3,c3,A4,c4,A5,c5,rfl,l2,g2,l3,g3,l4,g4,l5,g5⟩:=k94_open hK;exact⟨ad,A2,c2,A3,c3,A4,c4,A5,c5,e,hc 0 _ rfl,by rw[←Zbb _ _ 1 (by omega)];exact hc 1 _ rfl,by rw[←Zbb _ _ 2 (by omega)];exact hc 2 _ rfl,by rw[←Zbb _ _ 3 (by omega)];exact hc 3 _ rfl,by rw[←Zbb _ _ 4 (by omega)];exact hc 4 _ rfl,by rw[←Zbb _ _ 5 (by omega)];exact hc 5 _ rfl,by rw[←Zbb _ _ 6 (by omega)];exact hc 6 _ rfl,by rw[←Zbb _ _ 7 (by omega)];exact hc 7 _ rfl,by rw[←Zbb _ _ 8 (by omega)];exact hc 8 _ rfl,by rw[←Zbb _ _ 9 (by omega)];exact hc 9 _ rfl,by rw[←Zbb _ _ 10 (by omega)];exact hc 10 _ rfl,l2,g2,l3,g3,l4,g4,l5,g5⟩
def ItS (w0:W0)(W:World)(x:S94)(cs:List Value):Prop:=
 ∃A1 c1 A2 c2 A3 c3 v4,cs=[.int .i64 x.f0,.int .i64 x.f1.f0,.slice A1 x.f1.f1.length c1,.slice A2 x.f1.f2.length c2,.slice A3 x.f1.f3.length c3,v4,.bool x.f3,.int .i64 x.f4,.int .i64 x.f5,.int .i64 x.f6,.int .i64 x.f7] ∧
  x.f1.f1.length≤c1∧Kd.string.C w0 A1 x.f1.f1.length x.f1.f1∧x.f1.f2.length≤c2∧Kd.string.C w0 A2 x.f1.f2.length x.f1.f2∧x.f1.f3.length≤c3∧k76.C w0 A3 x.f1.f3.length x.f1.f3∧Ri w0 W v4 x.f2
theorem ItS.same {w0:W0}{W W':World}{x:S94}{cs:List Value}(h:ItS w0 W x cs)(hs:Same3 W W'):ItS w0 W' x cs:=by
 obtain⟨A1,c1,A2,c2,A3,c3,v4,rfl,l1,g1,l2,g2,l3,g3,g4⟩:=h;exact⟨A1,c1,A2,c2,A3,c3,v4,rfl,l1,g1,l2,g2,l3,g3,g4.same hs⟩
theorem ItS.len {w0:W0}{W:World}{x:S94}{cs:List Value}(h:ItS w0 W x cs):cs.length=11:=by
 obtain⟨A1,c1,A2,c2,A3,c3,v4,rfl,_⟩:=h
 rfl
theorem ItS.one {w0:W0}{W:World}{x:S94}{cs:List Value}(h:ItS w0 W x cs):∀u∈cs,u.oneCell'=true:=by
 obtain⟨A1,c1,A2,c2,A3,c3,v4,rfl,_,_,_,_,_,_,g4⟩:=h;obtain⟨A,c,rfl,_⟩:=g4.C;intro u hu;simp only[List.mem_cons,List.not_mem_nil,or_false]at hu
 rcases hu with rfl | rfl | rfl | rfl | rfl | rfl | rfl | rfl | rfl | rfl | rfl <;> rfl
structure RS (w0:W0)(W:World)(gb:Nat)(h0 h1 vs v:Value)(its:List S94):Prop where
 ge:w0.heap.size≤gb
 blk:W.heap[gb]?=some (.cells #[h0,h1,v,vs] 37 (0,0))
 row:OwnRow (ItS w0 W) 94 11 W w0.heap.size v its
 bel:Below w0.heap.size w0 W
 new:∀k,W.heap.size≤k→w0.ok k
section
variable {w0:W0}{W W' W1:World}{gb:Nat}{h0 h1 vs v v1:Value}{its its1:List S94}
theorem RS.ri (h:RS w0 W gb h0 h1 vs v its){u:Value}{l:List Int}{base:Nat}(ho:(Kd.int .i64).R 3 W' base (fun _=>True) u l)(hb:W.heap.size≤base):Ri w0 W' u l:=by
 have ho2:=Kd.own_of_R ho;have h3:=Kd.own_of_R (Kd.R_lower ho (Nat.le_trans h.bel.size hb));exact Kd.R_of_own h3 (fun k hk=>h.new k (Nat.le_trans hb (World.ownsRow.lt ho2 k hk).1))
theorem RS.typed (h:RS w0 W gb h0 h1 vs v its)(k:Nat)(hk:k=gb∨v.ownBlock=some k):∃cells,W.heap[k]?=some (.cells cells 37 (0,0))∨W.heap[k]?=some (.cells cells 94 (0,0)):=by
 rcases hk with rfl | hk
 ·exact⟨_,.inl h.blk⟩
 ·obtain⟨inner,ho,_⟩:=h.row;obtain⟨cells,hc⟩:=Zbs ho k hk;exact⟨cells,.inr hc⟩
theorem RS.keep (h:RS w0 W gb h0 h1 vs v its)(hk:KeptV W W' gb v){g:Nat}{cs:Array Value}{e:TypeId}(hg:W.heap[g]?=some (.cells cs e (0,0)))(h37:e≠37)(h94:e≠94) :
 W'.heap[g]?=some (.cells cs e (0,0)):=by
 refine Zij hg hk (fun hS=>?_);obtain⟨cells,hc⟩:=h.typed g hS
 rcases hc with hc | hc
 ·rw[hg]at hc;injection hc with hc;injection hc with _ hc;exact h37 hc
 ·rw[hg]at hc;injection hc with hc;injection hc with _ hc;exact h94 hc
theorem RS.same3 (h:RS w0 W gb h0 h1 vs v its)(hk:KeptV W W' gb v):Same3 W W':=
 fun _ _ hc=>(h.keep hk hc (by decide) (by decide)).trans hc.symm
theorem RS.below (h:RS w0 W gb h0 h1 vs v its)(hb:Below W.heap.size W W'):RS w0 W' gb h0 h1 vs v its:=by
 obtain⟨inner,ho,hr⟩:=h.row;exact⟨h.ge,Zag h.blk hb,⟨inner,Zcu ho hb,hr.imp_ (fun _ _ hp=>hp.same (Same3.below hb))⟩,Zaf h.bel hb,fun k hk=>h.new k (Nat.le_trans hb.size hk)⟩
theorem RS.put (h:RS w0 W gb h0 h1 vs v its)(ho:OwnRow (ItS w0 W) 94 11 W1 w0.heap.size v1 its1)(hb:Below w0.heap.size w0 W1)(hg:W.grownBy W1 v.ownBlock) :
 RS w0 (W1.setCell ⟨gb,2,none⟩ v1) gb h0 h1 vs v1 its1∧KeptV W (W1.setCell ⟨gb,2,none⟩ v1) gb v:=by
 obtain⟨inner0,ho0,_⟩:=h.row;have ng:some gb≠v.ownBlock:=Zcn ho0 h.blk (by decide);have kg:=Zby h.blk hg ng;have hk:KeptV W (W1.setCell ⟨gb,2,none⟩ v1) gb v:=⟨by have:=hg.size;simpa[World.setCell]using this,fun i hi hn=>by
  rw[Below.heap_setCell W1 ⟨gb,2,none⟩ v1 i (fun he=>hn (.inl he))];exact hg.block i hi (fun he=>hn (.inr he.symm))⟩
 have hs:=h.same3 hk;obtain⟨inner,hown,hr⟩:=ho;refine⟨⟨h.ge,?_,⟨inner,Zfm hown (p:=⟨gb,2,none⟩) (Zcn hown kg (by decide)) _,hr.imp_ (fun _ _ hp=>hp.same hs)⟩,hb.setCell h.ge _,fun k hk'=>h.new k (Nat.le_trans hk.1 hk')⟩,hk⟩;rw[Zef kg 2 v1]
 rfl
theorem RS.cell2 (h:RS w0 W gb h0 h1 vs v its):W.cell? ⟨gb,2,none⟩=some v:=(Zac h.blk 2).trans rfl
theorem RS.grown2 (h:RS w0 W gb h0 h1 vs v its)(hg:W.grownBy W1 v.ownBlock):W1.frozen? ⟨gb,2,none⟩=false∧W1.cell? ⟨gb,2,none⟩=some v:=by
 obtain⟨inner,ho,_⟩:=h.row;have k:=Zby h.blk hg (Zcn ho h.blk (by decide));exact⟨Zat k 2,(Zac k 2).trans rfl⟩
theorem RS.setField (h:RS w0 W gb h0 h1 vs v its){A:Option Addr}{c:Nat}(hv:v=.slice A its.length c){ad:Addr}(hA:A=some ad)
 (p:Nat) (hp:p<its.length) (f:Nat) (hf:f<11) (u:Value) (y:S94) (hR:∀c,c.length=11→ItS w0 W (its.getD p z94) c→ItS w0 W y (c.set f u)) :
 RS w0 (W.setCell ⟨ad.block,ad.off+(p*11+f),none⟩ u) gb h0 h1 vs v (its.set p y)∧KeptV W (W.setCell ⟨ad.block,ad.off+(p*11+f),none⟩ u) gb v:=by
 subst hv;subst hA;obtain⟨inner,ho,hr⟩:=h.row;have e0:ad=⟨ad.block,0,none⟩∧w0.heap.size≤ad.block:=by
  rcases ho.2 with⟨e0,_⟩ | ⟨g',cap',cur,e0,hb,_⟩
  ·cases e0
  ·injection e0 with e1 _ e3
   injection e1 with e1
   subst e1;exact⟨rfl,hb⟩
 obtain⟨e0,hle⟩:=e0;have hoff:ad.off=0:=by rw[e0]
 have hb0:(Value.slice (some ad) its.length c).ownBlock=some ad.block:=rfl;rw[hoff,Nat.zero_add];have hk:KeptV W (W.setCell ⟨ad.block,p*11+f,none⟩ u) gb (.slice (some ad) its.length c):=⟨by simp[World.setCell],fun i hi hn=>by
  rw[Below.heap_setCell W ⟨ad.block,p*11+f,none⟩ u i (fun he=>hn (.inr (by rw[hb0,he])))]⟩
 have hs:=h.same3 hk;refine⟨⟨h.ge,?_,?_,Below.setCell h.bel (show w0.heap.size≤(⟨ad.block,p*11+f,none⟩:Addr).block from hle) _,fun k hk'=>h.new k (Nat.le_trans hk.1 hk')⟩,hk⟩
 ·rw[Below.heap_setCell W ⟨ad.block,p*11+f,none⟩ u gb (fun he=>Zcn ho h.blk (by decide) (by rw[hb0,←he]))];exact h.blk
 ·have hrow:(W.setCell ⟨ad.block,p*11+f,none⟩ u).ownsRow w0.heap.size 94 11 (.slice (some ad) its.length c) its.length (inner.set (p*11+f) u):=by
   rw[e0]at ho ⊢;exact Zrf ho (by have:=Nat.mul_le_mul_right 11 hp;omega) u
  refine⟨inner.set (p*11+f) u,by rw[List.length_set];exact hrow,?_⟩;have hp':its[p]?=some (its.getD p z94):=by rw[List.getD_eq_getElem?_getD,List.getElem?_eq_getElem hp];rfl
  exact (Reps.set_ hr (its.getD p z94) hp' hf u hR).imp_ (fun _ _ hp=>hp.same hs)
theorem RS.setAt (h:RS w0 W gb h0 h1 vs v its){A:Option Addr}{c:Nat}(hv:v=.slice A its.length c){ad:Addr}(hA:A=some ad)
 (p:Nat) (hp:p<its.length) (f:Nat) (hf:f<11) (u:Value) (y:S94) (hR:∀c,c.length=11→ItS w0 W (its.getD p z94) c→ItS w0 W y (c.set f u)) :
 RS w0 (W.setCell ⟨(ad.add (p*11)).block,(ad.add (p*11)).off+f,none⟩ u) gb h0 h1 vs v (its.set p y)∧KeptV W (W.setCell ⟨(ad.add (p*11)).block,(ad.add (p*11)).off+f,none⟩ u) gb v:=by
 have:=h.setField hv hA p hp f hf u y hR;rw[←Nat.add_assoc]at this;rw[add_block,Zmz];exact this
theorem RS.at_ (h:RS w0 W gb h0 h1 vs v its){A:Option Addr}{c:Nat}(hv:v=.slice A its.length c)(p:Nat)(hp:p<its.length) :
 ∃ad cs,A=some ad∧ItS w0 W (its.getD p z94) cs∧(∀j u,cs[j]?=some u→W.cell? ⟨(ad.add (p*11)).block,(ad.add (p*11)).off+j,none⟩=some u)∧∀j,W.frozen? ⟨(ad.add (p*11)).block,(ad.add (p*11)).off+j,none⟩=false:=by
 subst hv;obtain⟨A',c',e0,_,hrd⟩:=h.row.reads;injection e0 with e1 _ e3
 subst e1;subst e3;obtain⟨ad,rfl,hcell⟩:=hrd.2.2 (by omega);have hp':its[p]?=some (its.getD p z94):=by rw[List.getD_eq_getElem?_getD,List.getElem?_eq_getElem hp];rfl
 obtain⟨cs,hcl,hR,hc⟩:=hcell p _ hp';obtain⟨inner,ho,_⟩:=h.row;obtain⟨cells,hb⟩:=Zbs ho ad.block rfl;have h0:=hc 0;refine⟨ad,cs,rfl,hR,fun j u hj=>?_,fun j=>by rw[add_block];exact Zat hb _⟩;have e:(⟨(ad.add (p*11)).block,(ad.add (p*11)).off+j,none⟩:Addr)=ad.add (p*11+j):=by
  have hs:ad=⟨ad.block,0,none⟩:=by
   rcases ho.2 with⟨e0,_⟩ | ⟨g',cap',cur,e0,_⟩
   ·cases e0
   ·injection e0 with e1 _ e3
    injection e1 with e1
    rw[e1]
  rw[add_block,Zmz,hs];unfold Addr.add
  split
  ·rename_i hz
   rw[show p*11=0 by omega,show j=0 by omega]
  ·rw[Nat.add_assoc]
 rw[e];exact hc j u hj
theorem RS.froz (h:RS w0 W gb h0 h1 vs v its){n:Nat}{A:Option Addr}{c:Nat}(hv:v=.slice A n c){ad:Addr}(hA:A=some ad)(m j:Nat):W.frozen? ⟨(ad.add m).block,(ad.add m).off+j,none⟩=false:=by
 subst hv;subst hA;obtain⟨inner,ho,_⟩:=h.row;obtain⟨cells,hb⟩:=Zbs ho ad.block rfl;rw[add_block];exact Zat hb _
end
theorem ItS.setNext {w0:W0}{W:World}{x:S94}{cs:List Value}(h:ItS w0 W x cs){u:Value}{l:List Int}(hu:Ri w0 W u l):ItS w0 W { x with f2:=l } (cs.set 5 u):=by
 obtain⟨A1,c1,A2,c2,A3,c3,v4,rfl,l1,g1,l2,g2,l3,g3,g4⟩:=h;exact⟨A1,c1,A2,c2,A3,c3,u,rfl,l1,g1,l2,g2,l3,g3,hu⟩
theorem ItS.setEnd {w0:W0}{W:World}{x:S94}{cs:List Value}(h:ItS w0 W x cs)(b:Bool):ItS w0 W { x with f3:=b } (cs.set 6 (.bool b)):=by
 obtain⟨A1,c1,A2,c2,A3,c3,v4,rfl,l1,g1,l2,g2,l3,g3,g4⟩:=h;exact⟨A1,c1,A2,c2,A3,c3,v4,rfl,l1,g1,l2,g2,l3,g3,g4⟩
theorem ItS.setInner {w0:W0}{W:World}{x:S94}{cs:List Value}(h:ItS w0 W x cs)(b:Int):ItS w0 W { x with f4:=b } (cs.set 7 (.int .i64 b)):=by
 obtain⟨A1,c1,A2,c2,A3,c3,v4,rfl,l1,g1,l2,g2,l3,g3,g4⟩:=h;exact⟨A1,c1,A2,c2,A3,c3,v4,rfl,l1,g1,l2,g2,l3,g3,g4⟩
theorem ItS.setRule {w0:W0}{W:World}{x:S94}{cs:List Value}(h:ItS w0 W x cs)(b:Int):ItS w0 W { x with f5:=b } (cs.set 8 (.int .i64 b)):=by
 obtain⟨A1,c1,A2,c2,A3,c3,v4,rfl,l1,g1,l2,g2,l3,g3,g4⟩:=h;exact⟨A1,c1,A2,c2,A3,c3,v4,rfl,l1,g1,l2,g2,l3,g3,g4⟩
theorem ItS.setStep {w0:W0}{W:World}{x:S94}{cs:List Value}(h:ItS w0 W x cs)(b:Int):ItS w0 W { x with f6:=b } (cs.set 9 (.int .i64 b)):=by
 obtain⟨A1,c1,A2,c2,A3,c3,v4,rfl,l1,g1,l2,g2,l3,g3,g4⟩:=h;exact⟨A1,c1,A2,c2,A3,c3,v4,rfl,l1,g1,l2,g2,l3,g3,g4⟩
theorem ItS.setOwner {w0:W0}{W:World}{x:S94}{cs:List Value}(h:ItS w0 W x cs)(b:Int):ItS w0 W { x with f7:=b } (cs.set 10 (.int .i64 b)):=by
 obtain⟨A1,c1,A2,c2,A3,c3,v4,rfl,l1,g1,l2,g2,l3,g3,g4⟩:=h;exact⟨A1,c1,A2,c2,A3,c3,v4,rfl,l1,g1,l2,g2,l3,g3,g4⟩
theorem info94:(Tryz.prog.info? 94).map (fun i=>(i.zero,i.size,i.bytes))=some (some (.agg #[.int .i64 0,.int .i64 0,.slice none 0 0,.slice none 0 0,.slice none 0 0,.slice none 0 0,.bool false,.int .i64 0,.int .i64 0,.int .i64 0,.int .i64 0]),11,152):=by kernel_rfl
section
variable {ops:Array Oper}{o:Oper}{a:Act}{Q:Exit→Act→World→Prop}
theorem Zna {w0:W0}{W:World}{K:Act→World→Prop}{gb:Nat}{h0 h1 vs v:Value}{its:List S94}(hw:Region.wanted o (yielded ops a.tmps)=true)(s x:Operand)(ho:o.op=.call { callee:=.builtin .append,args:=#[s,x],argTypes:=#[34,34] })
 (h:RS w0 W gb h0 h1 vs v its) (p:S94) (cs:List Value) (hp:ItS w0 W p cs) (g:Nat)
 (hs:a.eval s=v) (hx:a.eval x=.slice (some ⟨g,0,none⟩) 1 1) (hg:g=W.heap.size) (hl:its.length≤1000000)
 (hK:∀v1 w1,OwnRow (ItS w0 W) 94 11 w1 w0.heap.size v1 (its++[p])→Below w0.heap.size w0 w1→W.grownBy w1 v.ownBlock→(v1.ownBlock=v.ownBlock∨∃b,v1.ownBlock=some b∧W.heap.size≤b)→K (a.put o.dst v1) w1) :
 if Region.wanted o (yielded ops a.tmps)=true then Oper.wp Tryz.prog o a (W.alloc (.cells cs.toArray 94)) K Q else K (a.put o.dst undef) (W.alloc (.cells cs.toArray 94)):=by
 subst hg;exact OwnRow.append_step (w0:=w0) w0.heap.size hw s x 34 94 _ 11 152 ho Tryz.underlying34 info94 rfl (by omega) (by omega) v its p cs hs hx hp hp.len hp.one h.row h.bel h.bel.size (by omega) hK
end
def Zhb (x:Int):List Int→Nat
 | []=>0
 | y :: r=>if y<x then Zhb x r+1 else 0
theorem Zte (x:Int):∀l,Zhb x l≤l.length
 | []=>Nat.le_refl _
 | y :: r=>by
  unfold Zhb
  split
  ·have:=Zte x r;simp;omega
  ·exact Nat.zero_le _
theorem Ztd (x:Int):∀l k,k<Zhb x l→l.getD k 0<x
 | [],k,h=>by simp[Zhb]at h
 | y :: r,k,h=>by
  unfold Zhb at h
  split at h
  ·rename_i hy
   cases k with
   | zero=>exact hy
   | succ k=>exact Ztd x r k (by omega)
  ·omega
theorem Ztf (x:Int):∀l,Zhb x l<l.length→¬l.getD (Zhb x l) 0<x
 | [],h=>by simp[Zhb]at h
 | y :: r,h=>by
  unfold Zhb at h ⊢
  split
  ·rename_i hy
   rw[if_pos hy]at h;exact Ztf x r (by simpa using h)
  ·rename_i hy
   exact hy
def Zty (x:Int)(l:List Int):List Int:=if Zhb x l<l.length∧l.getD (Zhb x l) 0=x then l else l.take (Zhb x l)++[x]++l.drop (Zhb x l)
def addK (a b:List Int):Nat→List Int
 | 0=>a
 | k+1=>Zty (rd b k) (addK a b k)
def addL (a b:List Int):List Int:=addK a b b.length
theorem ins1_len (x:Int)(l:List Int):(Zty x l).length≤l.length+1:=by
 have:=Zte x l;unfold Zty
 split
 ·omega
 ·simp;omega
theorem addK_len (a b:List Int):∀k,(addK a b k).length≤a.length+k
 | 0=>Nat.le_refl _
 | k+1=>by
  have h1:=addK_len a b k;have h2:=ins1_len (rd b k) (addK a b k);show (Zty _ _).length≤_;omega
theorem addK_at {a b:List Int}{k:Nat}{L:List Int}(hL:L=addK a b k){x:Int}(hx:x=rd b k)(h:Zhb x L<L.length)(he:L.getD (Zhb x L) 0=x):addK a b (k+1)=L:=by
 show Zty _ _=_;rw[←hx,←hL];unfold Zty;rw[if_pos ⟨h,he⟩]
theorem addK_new {a b:List Int}{k:Nat}{L:List Int}(hL:L=addK a b k){x:Int}(hx:x=rd b k)(h:¬(Zhb x L<L.length∧L.getD (Zhb x L) 0=x)):addK a b (k+1)=L.take (Zhb x L)++[x]++L.drop (Zhb x L):=by
 show Zty _ _=_;rw[←hx,←hL];unfold Zty;rw[if_neg h]
theorem Zbz (k:Nat)(hf:k≤2000000):wrap64 ((k:Int)+1)=((k+1:Nat):Int):=(by unfold wrap64;omega)
theorem Zcc (n k:Nat)(h:k<n)(hf:n≤2000000):n-(intOf (.int .i64 (wrap64 ((k:Int)+1)))).toNat<n-(intOf (.int .i64 (k:Int))).toNat:=by
 rw[Zbz k (by omega)];simp only[intOf];omega
set_option maxHeartbeats 4000000 in
theorem Add_call (A0:Option Addr)(c0:Nat)(l0:List Int)(A1:Option Addr)(c1:Nat)(l1:List Int)(w:World)(h0:(Kd.int .i64).C w A0 l0.length l0)(h1:(Kd.int .i64).C w A1 l1.length l1)(hf:l0.length+l1.length≤1000000) :
 Calls Tryz.prog 43 #[.slice A0 l0.length c0,.slice A1 l1.length c1] w fun e w'=>∃v,e=.returned v∧(Kd.int .i64).R 3 w' w.heap.size (fun _=>True) v (addL l0 l1)∧Below w.heap.size w w':=by
 have H0:=Zaa.mk h0;have H1:=Zaa.mk h1;have HF:=Zaa.mk hf;clear h0 h1 hf
 go_enter Tryz.func43,Tryz.ntmps43
 go_wp2_with (first
  | ((with_reducible refine Zie (N:=9) rfl ?_);refine Kd.R_lit (Kd.int .i64) _ 3 ?hg (N:=9) ?hd (xs:=([]:List Int)) (inner:=[]) (ok:=fun _=>True) (okp:=fun _=>True) ?hr ?hp (fun _ hk=>hk) trivial Zbr (Nat.le_refl _) (by simp) ?_;(case hd=>rfl);(case hg=>rfl);(case hr=>first | (go_simp;done) | (go_simp;rfl));(case hp=>exact (Reps.none _ _));intro v9 w9 ho9 hb9 _ _;have HO9:=Zaa.mk ho9;have HB9:=Zaa.mk hb9;clear ho9 hb9)
  | ((with_reducible refine Zas (b:=.append) (xs:=#[.tmp 9,.tmp 10]) rfl ?_);at_builtin;refine Kd.R_append_rows (Kd.int .i64) (w0:=w) w.heap.size rfl (.tmp 9) (.tmp 10) 35 3 (.int .i64 0) 8 rfl Tryz.underlying35 Zho rfl (by decide) (by omega) v9 [] l0 _ _ _ (fun _=>True) (fun _=>False) rfl rfl HO9.out ?aR (fun _ _ h=>h) (fun _ h=>h.elim) (fun _ _=>trivial) HB9.out ?aS ?aL ?_;(case aR=>exact Kd.C_below H0.out HB9.out);(case aS=>exact HB9.out.size);(case aL=>have:=HF.out;simp;omega);intro v5 w5 ho5 hb5 _ _;have HO5:=Zaa.mk ho5;have HB5:=Zaa.mk hb5;clear ho5 hb5))
 go_loopw [5,6] (fun s5 s6 wr=>∃i:Nat,i≤l1.length∧s6=.int .i64 i∧Zaa ((Kd.int .i64).R 3 wr w.heap.size (fun _=>True) s5 (addK l0 l1 i))∧Zaa (Below w.heap.size w wr)) (fun _ s6 _=>l1.length-(intOf s6).toNat)
 case atStart=>exact⟨0,Nat.zero_le _,rfl,HO5,HB5⟩
 case round=>
  obtain⟨i,hi,rfl,HO,HB⟩:=hrel;clear HO9 HB9 HO5 HB5;by_cases hin:i<l1.length
  ·obtain⟨L,hL⟩:∃L,L=addK l0 l1 i:=⟨_,rfl⟩
   obtain⟨x,hx⟩:∃x,x=rd l1 i:=⟨_,rfl⟩
   have hLl:L.length≤1000000:=by have h1:=addK_len l0 l1 i;have h2:=HF.out;rw[hL];omega
   rw[←hL]at HO;have HL:=Zaa.mk hL;have HX:=Zaa.mk hx;have HLL:=Zaa.mk hLl;obtain⟨A5,c5,rfl,l5,_⟩:=Kd.R_reads HO.out;obtain⟨ad1,rfl,hx1⟩:=Kd.at_int H1.out (i:Int) (by omega) (by omega);rw[Int.toNat_natCast]at hx1;change w.cell? (ad1.add i)=some (.int .i64 (rd l1 i))at hx1;rw[←hx]at hx1;have HX1:=Zaa.mk (Zab HB.out hx1);have HN:=Zaa.mk l5;have HP:=Zaa.mk (Zte x L);have HIN:=Zaa.mk hin;have HCE:Zaa (∀j,j<L.length→∃ad,A5=some ad∧wr.cell? (ad.add j)=some (.int .i64 (L.getD j 0))):=⟨fun j hj=>by
    obtain⟨ad,e,hc⟩:=Kd.at_int (Kd.R_reads' HO.out).2.2 (j:Int) (by omega) (by omega);rw[Int.toNat_natCast]at hc;exact⟨ad,e,hc⟩⟩
   clear hL hx hx1 hLl l5
   rename World=>W1
   go_wp2
   have HIN2:=Zaa.mk hin;clear hin
   go_loopw [7] (fun s7 wr=>∃k:Nat,k≤Zhb x L∧s7=.int .i64 k∧Zaa (Below W1.heap.size W1 wr)) (fun s7 _=>L.length-(intOf s7).toNat)
   case atStart=>exact⟨0,Nat.zero_le _,rfl,⟨Zbr⟩⟩
   case round=>
    obtain⟨k,hk,rfl,HBI⟩:=hrel;by_cases hkp:k<Zhb x L
    ·have hkl:k<L.length:=Nat.lt_of_lt_of_le hkp HP.out;obtain⟨ad5,rfl,hy⟩:=HCE.out k hkl;have hy:=Zab HBI.out hy;have hx1:=Zab HBI.out HX1.out;have t1:decide ((k:Int)<(L.length:Int))=true:=decide_eq_true (by omega);have t1b:decide (k<L.length)=true:=decide_eq_true hkl;have t4:(i:Int)<(l1.length:Int):=by have:=HIN2.out;omega
     have t5:(k:Int)<(L.length:Int):=by omega
     have t2:decide (L.getD k 0<x)=true:=decide_eq_true (Ztd x L k hkp);have t3:decide ((i:Int)<(l1.length:Int))=true:=decide_eq_true (by have:=HIN2.out;omega);have HK:=Zaa.mk hkp;have HKL:=Zaa.mk hkl;clear hk hkp hkl hi;generalize L.getD k 0=y at hy t2
     go_wp2_with fail
     go_quiet (fail)
     go_wp2
     go_roundw
     case rel=>exact⟨k+1,HK.out,by rw[Zbz k (by have:=HKL.out;have:=HLL.out;omega)],⟨by repeat (first | exact HBI.out | refine Zah ?_ _ | refine Zar ?_)⟩⟩
     case measure=>exact Zcc L.length k HKL.out (by have:=HLL.out;omega)
    ·obtain⟨pk,hpk⟩:∃pk,pk=Zhb x L:=⟨_,rfl⟩
     obtain rfl:k=pk:=by omega
     rename Nat=>pk
     have HPL:Zaa (pk≤L.length):=⟨by rw[hpk];exact HP.out⟩
     have t3:decide ((i:Int)<(l1.length:Int))=true:=decide_eq_true (by have:=HIN2.out;omega);have t4:(i:Int)<(l1.length:Int):=by have:=HIN2.out;omega
     obtain⟨i0,hi0,_,hsz0,_⟩:=info_parts Zho;have hcut1:=cut_to (P:=Tryz.prog) 35 3 .i64 Tryz.underlying35 hi0 A5 L.length c5 (pk:Int) (by omega) (by have:=HPL.out;omega) HN.out;have hcut2:=cut_from (P:=Tryz.prog) 35 3 .i64 Tryz.underlying35 hi0 1 hsz0 A5 L.length c5 (pk:Int) (by omega) (by have:=HPL.out;omega);rw[Int.toNat_natCast]at hcut1 hcut2;obtain⟨A64,hA64⟩:∃A64,A64=(if c5=pk then A5 else A5.map (·.add (pk*1))):=⟨_,rfl⟩
     rw[←hA64]at hcut2;have HT:Zaa ((Kd.int .i64).C W1 A5 pk (L.take pk)):=⟨by have h:=Kd.C_take (m:=pk) (Kd.R_reads' HO.out).2.2 HPL.out;rw[show (L.take pk).length=pk from by rw[List.length_take];have:=HPL.out;omega]at h;exact h⟩
     have HD:Zaa ((Kd.int .i64).C W1 A64 (L.length-pk) (L.drop pk)):=⟨by have h:=Kd.C_drop (m:=pk) (Kd.R_reads' HO.out).2.2 HPL.out HN.out;rw[List.length_drop]at h;rw[hA64];exact h⟩
     clear hA64 hi0 hsz0;by_cases hpl:pk<L.length
     ·obtain⟨ad5,rfl,hy⟩:=HCE.out pk hpl;have hy:=Zab HBI.out hy;have hx1:=Zab HBI.out HX1.out;have t1:decide ((pk:Int)<(L.length:Int))=true:=decide_eq_true (by omega);have t1b:decide (pk<L.length)=true:=decide_eq_true hpl;have t5:(pk:Int)<(L.length:Int):=by omega
      have t2:decide (L.getD pk 0<x)=false:=decide_eq_false (by have h:=Ztf x L;rw[←hpk]at h;exact h hpl);by_cases hyx:L.getD pk 0=x
      ·have HAT:=Zaa.mk (addK_at HL.out HX.out (by rw[←hpk];exact hpl) (by rw[←hpk];exact hyx));rw[hyx]at hy t2;clear hpk hk hkp hpl hcut1 hcut2 HT HD hyx hi;have t6:(x==x)=true:=beq_self_eq_true x
       go_wp2_with fail
       go_quiet (fail)
       go_wp2_with fail
       go_quiet (fail)
       go_wp2
       go_roundw
       case rel=>exact⟨i+1,by have:=HIN2.out;omega,by rw[Zbz i (by have:=HIN2.out;have:=HF.out;omega)],⟨by rw[HAT.out];exact Kd.R_below HO.out (by repeat (first | exact HBI.out | refine Zah ?_ _ | refine Zar ?_))⟩,⟨Zaf HB.out (by repeat (first | exact HBI.out | refine Zah ?_ _ | refine Zar ?_))⟩⟩
       case measure=>exact Zcc l1.length i HIN2.out (by have:=HF.out;omega)
      ·have HNEW:=Zaa.mk (addK_new HL.out HX.out (by rw[←hpk];exact fun h=>hyx h.2));rw[←hpk]at HNEW;have t6:(L.getD pk 0==x)=false:=beq_eq_false_iff_ne.2 hyx;clear hpk hk hkp hpl hyx hi;generalize L.getD pk 0=y at hy t2 t6
       go_wp2_with fail
       go_quiet (fail)
       go_wp2_with fail
       go_quiet (fail)
       go_wp2_with (first
        | ((with_reducible refine Zie (N:=50) rfl ?_);refine Kd.R_lit (Kd.int .i64) _ 3 ?hg (N:=50) ?hd (xs:=([]:List Int)) (inner:=[]) (ok:=fun _=>True) (okp:=fun _=>True) ?hr ?hp (fun _ hk=>hk) trivial Zbr (Nat.le_refl _) (by simp) ?_;(case hd=>rfl);(case hg=>rfl);(case hr=>first | (go_simp;done) | (go_simp;rfl));(case hp=>exact (Reps.none _ _));intro v50 w50 ho50 hb50 _ _;have HO50:=Zaa.mk (Kd.R_lower ho50 (Zdm (w:=W1) (by repeat (first | exact HBI.out | refine Zah ?_ _ | refine Zar ?_))));have HB50:=Zaa.mk (Zaf (w:=W1) (by repeat (first | exact HBI.out | refine Zah ?_ _ | refine Zar ?_)) hb50);clear ho50 hb50)
        | ((with_reducible refine Zas (b:=.append) (xs:=#[.tmp 50,.tmp 53]) rfl ?_);at_builtin;refine Kd.R_append_rows (Kd.int .i64) (w0:=W1) W1.heap.size rfl (.tmp 50) (.tmp 53) 35 3 (.int .i64 0) 8 rfl Tryz.underlying35 Zho rfl (by decide) (by omega) v50 [] (L.take pk) _ _ _ (fun _=>True) (fun _=>False) rfl rfl HO50.out ?aR (fun _ _ h=>h) (fun _ h=>h.elim) (fun _ _=>trivial) HB50.out ?aS ?aL ?_;(case aR=>exact Kd.C_below HT.out HB50.out);(case aS=>exact HB50.out.size);(case aL=>have:=HLL.out;have:=HPL.out;simp;omega);intro v54 w54 ho54 hb54 _ _;have HO54:=Zaa.mk ho54;have HB54:=Zaa.mk hb54;clear ho54 hb54))
       have hx1:=Zab HB54.out HX1.out;clear hcut1 HO50 HB50;refine Zdb ?_
       go_region_law (first
        | (refine Kd.R_append_step (Kd.int .i64) (w0:=W1) W1.heap.size (by rfl) (.tmp 55) (.tmp 60) 35 3 (.int .i64 0) 8 rfl Tryz.underlying35 Zho rfl (by decide) (by omega) v54 ([]++L.take pk) x [.int .i64 x] (fun _=>True) (fun _=>False) rfl rfl rfl (fun _ hk=>hk.elim) (fun _ _=>trivial) ?aO ?aB ?aS ?aL ?_;(case aO=>exact Kd.R_drewN HO54.out _);(case aB=>exact Zah HB54.out _);(case aS=>exact (Zah HB54.out _).size);(case aL=>have:=HLL.out;have:=HPL.out;simp;omega);intro v61 w61 ho61 hb61 _ _;have HO61:=Zaa.mk ho61;have HB61:=Zaa.mk hb61;clear ho61 hb61)
        | (refine Kd.R_append_rows_step (Kd.int .i64) (w0:=W1) W1.heap.size (by rfl) (.tmp 61) (.tmp 64) 35 3 (.int .i64 0) 8 rfl Tryz.underlying35 Zho rfl (by decide) (by omega) v61 ([]++L.take pk++[x]) (L.drop pk) A64 (L.length-pk) (c5-pk) (fun _=>True) (fun _=>False) rfl rfl HO61.out ?aR (fun _ _ h=>h) (fun _ h=>h.elim) (fun _ _=>trivial) HB61.out ?aS ?aL ?_;(case aR=>exact Kd.C_below HD.out HB61.out);(case aS=>exact HB61.out.size);(case aL=>have:=HLL.out;have:=HPL.out;simp;omega);intro v65 w65 ho65 hb65 _ _;have HO65:=Zaa.mk ho65;have HB65:=Zaa.mk hb65;clear ho65 hb65)
        | fail)
       all_goals (
        go_wp2
        go_roundw
        case rel=>
         refine⟨i+1,by have:=HIN2.out;omega,by rw[Zbz i (by have:=HIN2.out;have:=HF.out;omega)],⟨?_⟩,⟨Zaf HB.out HB65.out⟩⟩;rw[HNEW.out];have h:=Kd.R_lower HO65.out HB.out.size;rw[List.nil_append]at h;exact h
        case measure=>exact Zcc l1.length i HIN2.out (by have:=HF.out;omega))
     ·have t1:decide ((pk:Int)<(L.length:Int))=false:=decide_eq_false (by omega);have t1b:decide (pk<L.length)=false:=decide_eq_false hpl;have HNEW:=Zaa.mk (addK_new HL.out HX.out (by rw[←hpk];exact fun h=>hpl h.1));rw[←hpk]at HNEW;clear hpk hk hkp hpl hi
      go_wp2_with fail
      go_quiet (fail)
      go_wp2_with fail
      go_quiet (fail)
      go_wp2_with (first
       | ((with_reducible refine Zie (N:=50) rfl ?_);refine Kd.R_lit (Kd.int .i64) _ 3 ?hg (N:=50) ?hd (xs:=([]:List Int)) (inner:=[]) (ok:=fun _=>True) (okp:=fun _=>True) ?hr ?hp (fun _ hk=>hk) trivial Zbr (Nat.le_refl _) (by simp) ?_;(case hd=>rfl);(case hg=>rfl);(case hr=>first | (go_simp;done) | (go_simp;rfl));(case hp=>exact (Reps.none _ _));intro v50 w50 ho50 hb50 _ _;have HO50:=Zaa.mk (Kd.R_lower ho50 (Zdm (w:=W1) (by repeat (first | exact HBI.out | refine Zah ?_ _ | refine Zar ?_))));have HB50:=Zaa.mk (Zaf (w:=W1) (by repeat (first | exact HBI.out | refine Zah ?_ _ | refine Zar ?_)) hb50);clear ho50 hb50)
       | ((with_reducible refine Zas (b:=.append) (xs:=#[.tmp 50,.tmp 53]) rfl ?_);at_builtin;refine Kd.R_append_rows (Kd.int .i64) (w0:=W1) W1.heap.size rfl (.tmp 50) (.tmp 53) 35 3 (.int .i64 0) 8 rfl Tryz.underlying35 Zho rfl (by decide) (by omega) v50 [] (L.take pk) _ _ _ (fun _=>True) (fun _=>False) rfl rfl HO50.out ?aR (fun _ _ h=>h) (fun _ h=>h.elim) (fun _ _=>trivial) HB50.out ?aS ?aL ?_;(case aR=>exact Kd.C_below HT.out HB50.out);(case aS=>exact HB50.out.size);(case aL=>have:=HLL.out;have:=HPL.out;simp;omega);intro v54 w54 ho54 hb54 _ _;have HO54:=Zaa.mk ho54;have HB54:=Zaa.mk hb54;clear ho54 hb54))
      have hx1:=Zab HB54.out HX1.out;clear hcut1 HO50 HB50;refine Zdb ?_
      go_region_law (first
       | (refine Kd.R_append_step (Kd.int .i64) (w0:=W1) W1.heap.size (by rfl) (.tmp 55) (.tmp 60) 35 3 (.int .i64 0) 8 rfl Tryz.underlying35 Zho rfl (by decide) (by omega) v54 ([]++L.take pk) x [.int .i64 x] (fun _=>True) (fun _=>False) rfl rfl rfl (fun _ hk=>hk.elim) (fun _ _=>trivial) ?aO ?aB ?aS ?aL ?_;(case aO=>exact Kd.R_drewN HO54.out _);(case aB=>exact Zah HB54.out _);(case aS=>exact (Zah HB54.out _).size);(case aL=>have:=HLL.out;have:=HPL.out;simp;omega);intro v61 w61 ho61 hb61 _ _;have HO61:=Zaa.mk ho61;have HB61:=Zaa.mk hb61;clear ho61 hb61)
       | (refine Kd.R_append_rows_step (Kd.int .i64) (w0:=W1) W1.heap.size (by rfl) (.tmp 61) (.tmp 64) 35 3 (.int .i64 0) 8 rfl Tryz.underlying35 Zho rfl (by decide) (by omega) v61 ([]++L.take pk++[x]) (L.drop pk) A64 (L.length-pk) (c5-pk) (fun _=>True) (fun _=>False) rfl rfl HO61.out ?aR (fun _ _ h=>h) (fun _ h=>h.elim) (fun _ _=>trivial) HB61.out ?aS ?aL ?_;(case aR=>exact Kd.C_below HD.out HB61.out);(case aS=>exact HB61.out.size);(case aL=>have:=HLL.out;have:=HPL.out;simp;omega);intro v65 w65 ho65 hb65 _ _;have HO65:=Zaa.mk ho65;have HB65:=Zaa.mk hb65;clear ho65 hb65)
       | fail)
      all_goals (
       go_wp2
       go_roundw
       case rel=>
        refine⟨i+1,by have:=HIN2.out;omega,by rw[Zbz i (by have:=HIN2.out;have:=HF.out;omega)],⟨?_⟩,⟨Zaf HB.out HB65.out⟩⟩;rw[HNEW.out];have h:=Kd.R_lower HO65.out HB.out.size;rw[List.nil_append]at h;exact h
       case measure=>exact Zcc l1.length i HIN2.out (by have:=HF.out;omega))
  ·obtain rfl:i=l1.length:=by omega
   go_wp2
   go_ret
   exact⟨_,rfl,HO.out,HB.out⟩
theorem Zlq:∀(a b:List Int),a.Pairwise (·<·)→b.Pairwise (·<·)→(∀x,x∈a↔x∈b)→a=b
 | [],[],_,_,_=>rfl
 | [],y :: b,_,_,h=>by have:=(h y).2 List.mem_cons_self;cases this
 | x :: a,[],_,_,h=>by have:=(h x).1 List.mem_cons_self;cases this
 | x :: a,y :: b,ha,hb,h=>by
  have ha':=List.pairwise_cons.1 ha;have hb':=List.pairwise_cons.1 hb;have hxy:x=y:=by
   rcases List.mem_cons.1 ((h x).1 List.mem_cons_self)with h1 | h1
   ·exact h1
   ·rcases List.mem_cons.1 ((h y).2 List.mem_cons_self)with h2 | h2
    ·exact h2.symm
    ·have:=hb'.1 x h1;have:=ha'.1 y h2;omega
  subst hxy;rw[Zlq a b ha'.2 hb'.2 (fun z=>⟨fun hz=>?_,fun hz=>?_⟩)]
  ·rcases List.mem_cons.1 ((h z).1 (List.mem_cons_of_mem _ hz))with h1 | h1
   ·have:=ha'.1 z hz;omega
   ·exact h1
  ·rcases List.mem_cons.1 ((h z).2 (List.mem_cons_of_mem _ hz))with h1 | h1
   ·have:=hb'.1 z hz;omega
   ·exact h1
theorem mem_ins1 (x y:Int)(l:List Int):x∈Zty y l↔x=y∨x∈l:=by
 unfold Zty
 split
 ·rename_i h
  refine⟨.inr,fun hx=>?_⟩
  rcases hx with rfl | hx
  ·have h2:=h.2;rw[List.getD_eq_getElem?_getD,List.getElem?_eq_getElem h.1]at h2;rw[←h2];exact List.getElem_mem h.1
  ·exact hx
 ·rw[List.mem_append,List.mem_append,List.mem_singleton];have e:x∈l↔x∈l.take (Zhb y l)∨x∈l.drop (Zhb y l):=by
   rw[←List.mem_append,List.take_append_drop]
  rw[e]
  constructor
  ·rintro ((h | h) | h)
   ·exact .inr (.inl h)
   ·exact .inl h
   ·exact .inr (.inr h)
  ·rintro (h | h | h)
   ·exact .inl (.inr h)
   ·exact .inl (.inl h)
   ·exact .inr h
theorem ins1_ris (y:Int)(l:List Int)(h:l.Pairwise (·<·)):(Zty y l).Pairwise (·<·):=by
 unfold Zty
 split
 ·exact h
 ·rename_i hn
  have h1:∀x∈l.take (Zhb y l),x<y:=fun x hx=>by
   obtain⟨i,hi,rfl⟩:=List.mem_iff_getElem.1 hx;rw[List.length_take]at hi;rw[List.getElem_take];have:=Ztd y l i (by omega);rw[List.getD_eq_getElem?_getD,List.getElem?_eq_getElem (by omega)]at this;exact this
  have h2:∀x∈l.drop (Zhb y l),y<x:=fun x hx=>by
   obtain⟨i,hi,rfl⟩:=List.mem_iff_getElem.1 hx;rw[List.length_drop]at hi;rw[List.getElem_drop];have hp:Zhb y l<l.length:=by omega
   have h3:=Ztf y l hp;have h4:¬l.getD (Zhb y l) 0=y:=fun e=>hn ⟨hp,e⟩
   rw[List.getD_eq_getElem?_getD,List.getElem?_eq_getElem hp]at h3 h4;have h5:l[Zhb y l]≤l[Zhb y l+i]:=by
    rcases Nat.eq_zero_or_pos i with rfl | hi0
    ·exact Int.le_refl _
    ·exact Int.le_of_lt (List.pairwise_iff_getElem.1 h _ _ hp (by omega) (by omega))
   have h3:¬l[Zhb y l]<y:=h3;have h4:¬l[Zhb y l]=y:=h4;omega
  have h3:(l.take (Zhb y l)).Pairwise (·<·):=h.sublist (List.take_sublist _ _);have h4:(l.drop (Zhb y l)).Pairwise (·<·):=h.sublist (List.drop_sublist _ _);rw[List.pairwise_append];refine⟨?_,h4,fun a ha b hb=>?_⟩
  ·rw[List.pairwise_append];exact⟨h3,List.pairwise_singleton _ _,fun a ha b hb=>by rw[List.mem_singleton.1 hb];exact h1 a ha⟩
  ·rcases List.mem_append.1 ha with ha | ha
   ·have:=h1 a ha;have:=h2 b hb;omega
   ·rw[List.mem_singleton.1 ha];exact h2 b hb
theorem addK_ris (a b:List Int)(ha:a.Pairwise (·<·)):∀k,(addK a b k).Pairwise (·<·)
 | 0=>ha
 | k+1=>ins1_ris _ _ (addK_ris a b ha k)
theorem mem_addK (a b:List Int)(x:Int):∀k,k≤b.length→(x∈addK a b k↔x∈a∨x∈b.take k)
 | 0,_=>by simp[addK]
 | k+1,h=>by
  show x∈Zty _ _↔_;rw[mem_ins1,mem_addK a b x k (by omega)];have e:b.take (k+1)=b.take k++[rd b k]:=by
   rw[List.take_add_one,List.getElem?_eq_getElem (by omega)];unfold rd;rw[Int.toNat_natCast,List.getD_eq_getElem?_getD,List.getElem?_eq_getElem (by omega)]
   rfl
  rw[e,List.mem_append,List.mem_singleton]
  constructor
  ·rintro (h | h | h)
   ·exact .inr (.inr h)
   ·exact .inl h
   ·exact .inr (.inl h)
  ·rintro (h | h | h)
   ·exact .inr (.inl h)
   ·exact .inr (.inr h)
   ·exact .inl h
theorem mem_comp2 {l:List Int}{x:Int}(h:x∈l):x∈Lib.compact l:=by
 unfold Lib.compact Lib.compactUpTo;have hex:∃i,∃hi:i<l.length,l[i]=x:=List.mem_iff_getElem.1 h;obtain⟨i,⟨hi,hx⟩,hmin⟩:∃i,(∃hi:i<l.length,l[i]=x)∧∀j,j<i→¬ ∃hj:j<l.length,l[j]=x:=by
  obtain⟨i,hi⟩:=hex
  induction i using Nat.strongRecOn with
  | _ i ih=>
   by_cases hlt:∃j,j<i∧∃hj:j<l.length,l[j]=x
   ·obtain⟨j,hj,hj2⟩:=hlt;exact ih j hj hj2
   ·exact⟨i,hi,fun j hj hj2=>hlt ⟨j,hj,hj2⟩⟩
 refine List.mem_map.2 ⟨i,List.mem_filter.2 ⟨List.mem_range.2 hi,?_⟩,?_⟩
 ·unfold Lib.keeps;refine decide_eq_true ?_
  rcases Nat.eq_zero_or_pos i with h0 | h0
  ·exact .inl h0
  ·refine .inr ?_
   have hm:=hmin (i-1) (by omega);have e1:l.toArray[i]! = l[i]:=by simp[getElem!_pos,hi]
   have e2:l.toArray[i-1]! = l[i-1]'(by omega):=by simp[getElem!_pos,show i-1<l.length by omega]
   rw[e1,e2,hx]
   first
    | exact fun e=>hm ⟨by omega,e⟩
    | exact fun e=>hm ⟨by omega,e.symm⟩
 ·simp[getElem!_pos,hi,hx]
theorem Zbp {a b:List Int}{x:Int}:x∈Zay a b↔x∈a∨x∈b:=by
 refine⟨Zdy,fun h=>mem_comp2 ?_⟩;unfold Zim;rw[List.mem_mergeSort];exact List.mem_append.2 h
theorem Zfw (a b:List Int):(Zay a b).Pairwise (·<·):=by
 refine comp_lt ?_
 unfold Zim;exact (List.pairwise_mergeSort (fun a b c h1 h2=>by simp at *;omega) (fun a b=>by simp;omega) _).imp (fun h=>by simpa using h)
theorem addL_both {a:List Int}(b:List Int)(ha:a.Pairwise (·<·)):addL a b=Zay a b:=
 Zlq _ _ (addK_ris a b ha _) (Zfw a b) (fun x=>by
  unfold addL;rw[mem_addK a b x _ (Nat.le_refl _),List.take_length,Zbp])
theorem Zii (a b:List Int):Zay a b=Zay b a:=
 Zlq _ _ (Zfw a b) (Zfw b a) (fun x=>by rw[Zbp,Zbp];exact Or.comm)
structure Wide0 (M:Mach):Prop where
 len:0<M.pl.length
 alike:Alike (M.pl.getD 0 zPl) Zeo
 none_:(M.pl.getD 0 zPl).follow=[]
section
variable {G:S26}{M:Mach}
theorem Wide0.pl (h:Wide0 M):(Zbe M.pl 0).kind=0∧(Zbe M.pl 0).shape=none∧(Zbe M.pl 0).p=z76∧(Zbe M.pl 0).follow=[]:=⟨h.alike.kind,h.alike.shape,h.alike.p,h.none_⟩
theorem Wide0.next (h:Wide0 M):Zdo M 0=[]:=by
 unfold Zdo;rw[if_neg (by rw[h.pl.1];decide),h.pl.2.2.2]
end
def From (m:Nat)(l:List Int):Prop:=∀x∈l,(m:Int)≤x
theorem From.both {m:Nat}{a b:List Int}(h:From m a)(k:From m b):From m (Zay a b):=fun x hx=>(Zdy hx).elim (h x) (k x)
theorem From.one {m n:Nat}(h:m≤n):From m [(n:Int)]:=fun x hx=>by simp at hx;omega
theorem From.none_ (m:Nat):From m []:=fun x hx=>by cases hx
structure Fo (m:Nat)(s s':St):Prop where
 len:m≤s'.pl.length
 same:∀q,q<m→(s'.pl.getD q zPl).follow=(s.pl.getD q zPl).follow
theorem Fo.refl {m:Nat}{s:St}(h:m≤s.pl.length):Fo m s s:=⟨h,fun _ _=>rfl⟩
theorem Fo.trans {m:Nat}{a b c:St}(h:Fo m a b)(k:Fo m b c):Fo m a c:=⟨k.len,fun q hq=>(k.same q hq).trans (h.same q hq)⟩
theorem Fo.add {m:Nat}{a s:St}(h:Fo m a s)(x:Pl):Fo m a (s.add x):=by
 refine⟨by show m≤(s.pl++[x]).length;rw[List.length_append];have:=h.len;omega,fun q hq=>?_⟩;show ((s.pl++[x]).getD q zPl).follow=_;rw[Zcg,if_neg (by have:=h.len;omega)];exact h.same q hq
theorem Zoa (pl:List Pl)(k q:Nat)(x:Pl)(h:k≠q):((pl.set k x).getD q zPl).follow=(pl.getD q zPl).follow:=by
 rw[List.getD_eq_getElem?_getD,List.getElem?_set_ne h,←List.getD_eq_getElem?_getD]
theorem Zkn (pl:List Pl)(tt frm:List Int)(m q:Nat)(hq:q<m)(hf:From m frm):∀k,k≤frm.length→((Zgi pl tt frm k).getD q zPl).follow=(pl.getD q zPl).follow
 | 0,_=>rfl
 | k+1,hk=>by
  show ((Zco (Zgi pl tt frm k) tt (rd frm k).toNat).getD q zPl).follow=_;have h1:(m:Int)≤rd frm k:=by
   refine hf _ ?_
   unfold rd;rw[Int.toNat_natCast,List.getD_eq_getElem?_getD,List.getElem?_eq_getElem (by omega)];exact List.getElem_mem (by omega)
  unfold Zco;rw[Zoa _ _ _ _ (by omega)];exact Zkn pl tt frm m q hq hf k (by omega)
theorem Fo.link {m:Nat}{a s:St}(h:Fo m a s){frm tt:List Int}(hf:From m frm):Fo m a (s.link frm tt):=by
 refine⟨by show m≤(linkL s.pl frm tt).length;unfold linkL;rw[Zce];exact h.len,fun q hq=>?_⟩;show ((linkL s.pl frm tt).getD q zPl).follow=_;unfold linkL;rw[Zkn _ _ _ m q hq hf _ (Nat.le_refl _)];exact h.same q hq
theorem Fo.inner {m:Nat}{a s:St}(h:Fo m a s)(k b:Nat)(hk:m≤k):Fo m a (s.inner k b):=by
 refine⟨by show m≤(s.pl.set k _).length;rw[List.length_set];exact h.len,fun q hq=>?_⟩;show ((s.pl.set k _).getD q zPl).follow=_;rw[Zoa _ _ _ _ (by omega)];exact h.same q hq
theorem Fo.close {m:Nat}{a s:St}(h:Fo m a s)(b:Nat)(x:Sx)(rule step:Int):Fo m a (s.close b x rule step):=⟨h.len,h.same⟩
def WFo (n:Nat):Prop:=∀(m b:Nat) (p:S76) (s:St),m≤s.pl.length→Fo m s (Zau n b p s).2∧From m (Zau n b p s).1.first∧From m (Zau n b p s).1.last
theorem patW_fo {n:Nat}(ih:WFo n)(p:S76)(rule step:Int)(m:Nat)(s:St)(h:m≤s.pl.length):Fo m s (Zgn (Zau n) p rule step s):=by
 have h1:=(Fo.refl h).add (Zbc s.pl.length);exact (h1.trans (ih m s.pl.length p (s.add (Zbc s.pl.length)) h1.len).1).close _ _ _ _
theorem item1_fo {b:Nat}(p:S76){m:Nat}{s:St}(h:m≤s.pl.length):Fo m s (Zde b p s):=by
 unfold Zde
 split
 ·exact ((Fo.refl h).add _).link (From.one h)
 ·exact (Fo.refl h).add _
theorem Zsn:∀n,WFo n
 | 0=>fun m b p s h=>⟨Fo.refl h,From.none_ m,From.none_ m⟩
 | n+1=>fun m b p s h=>by
  have ih:=Zsn n;unfold Zau
  split
  ·refine⟨?_,From.one h,From.one h⟩;unfold Zeh;have h1:=item1_fo (b:=b) p h
   split
   ·exact (h1.trans (patW_fo ih _ _ _ m _ h1.len)).inner _ _ h
   ·exact h1
  ·have i1:=ih m b (Zaj p.f3 0) s h;have i2:=ih m b (Zaj p.f3 1) _ i1.1.len
   split
   ·refine⟨(i1.1.trans i2.1).link i1.2.2,?_,?_⟩
    ·show From m (if _ then _ else _)
     split
     ·exact i1.2.1.both i2.2.1
     ·exact i1.2.1
    ·show From m (if _ then _ else _)
     split
     ·exact i1.2.2.both i2.2.2
     ·exact i2.2.2
   ·split
    ·exact⟨i1.1.trans i2.1,i1.2.1.both i2.2.1,i1.2.2.both i2.2.2⟩
    ·split
     ·exact⟨i1.1.link i1.2.2,i1.2.1,i1.2.2⟩
     ·exact⟨Fo.refl h,From.none_ m,From.none_ m⟩
theorem Zrm (pl:List Pl)(tt frm:List Int)(hf:∀z∈frm,0≤z∧z<pl.length)(q:Nat)(z:Int):∀k,k≤frm.length →
 (z∈((Zgi pl tt frm k).getD q zPl).follow↔z∈(pl.getD q zPl).follow∨((q:Int)∈frm.take k∧z∈tt))
 | 0,_=>by simp[Zgi]
 | k+1,h=>by
  have ih:=Zrm pl tt frm hf q z k (by omega);have hm:=hf _ (Zfv (show k<frm.length by omega));have e:frm.take (k+1)=frm.take k++[rd frm k]:=by
   rw[List.take_add_one,List.getElem?_eq_getElem (by omega)];unfold rd;rw[Int.toNat_natCast,List.getD_eq_getElem?_getD,List.getElem?_eq_getElem (by omega)]
   rfl
  show z∈((Zco _ _ _).getD q zPl).follow↔_;unfold Zco;rw[Zda,e,List.mem_append,List.mem_singleton];by_cases hq:(rd frm k).toNat=q
  ·rw[if_pos ⟨hq,by rw[Zce];omega⟩];show z∈Zay _ tt↔_;rw[Zbp,hq,ih];have hq2:(q:Int)=rd frm k:=by omega
   constructor
   ·rintro ((h | h) | h)
    ·exact .inl h
    ·exact .inr ⟨.inl h.1,h.2⟩
    ·exact .inr ⟨.inr hq2,h⟩
   ·rintro (h | ⟨_,h⟩)
    ·exact .inl (.inl h)
    ·exact .inr h
  ·rw[if_neg (fun h=>hq h.1),ih]
   constructor
   ·rintro (h | h)
    ·exact .inl h
    ·exact .inr ⟨.inl h.1,h.2⟩
   ·rintro (h | ⟨h1 | h1,h2⟩)
    ·exact .inl h
    ·exact .inr ⟨h1,h2⟩
    ·omega
theorem Zgs {s:St}{tt frm:List Int}(hf:∀z∈frm,0≤z∧z<s.pl.length)(q:Nat)(z:Int) :
 z∈((s.link frm tt).pl.getD q zPl).follow↔z∈(s.pl.getD q zPl).follow∨((q:Int)∈frm∧z∈tt):=by
 have:=Zrm s.pl tt frm hf q z frm.length (Nat.le_refl _);rw[List.take_length]at this;exact this
structure Itm (b m:Nat)(s:St)(q:Nat):Prop where
 ge:m≤q
 lt:q<s.pl.length
 kind:(s.pl.getD q zPl).kind=3
 shape:(s.pl.getD q zPl).shape=some b
structure OwnW (b m:Nat)(s:St)(x:Sx):Prop where
 cov:∀q,Itm b m s q→(q:Int)∈x.first∨∃r,r<q∧Itm b m s r∧(q:Int)∈(s.pl.getD r zPl).follow
 fst:∀z∈x.first,∃q:Nat,z=q∧Itm b m s q
 lst:∀z∈x.last,∃q:Nat,z=q∧Itm b m s q
 fol:∀q,Itm b m s q→∀z∈(s.pl.getD q zPl).follow,∃r:Nat,z=r∧Itm b m s r
 ne:x.empty=false→x.last≠[]
structure Keeps (s s':St):Prop where
 len:s.pl.length≤s'.pl.length
 old:∀q,q<s.pl.length→Alike (s'.pl.getD q zPl) (s.pl.getD q zPl)∧(s'.pl.getD q zPl).follow=(s.pl.getD q zPl).follow
theorem Itm.keep {b m:Nat}{s s':St}{q:Nat}(h:Itm b m s q)(k:Keeps s s'):Itm b m s' q:=
 ⟨h.ge,Nat.lt_of_lt_of_le h.lt k.len,(k.old q h.lt).1.kind.trans h.kind,(k.old q h.lt).1.shape.trans h.shape⟩
theorem Itm.back {b m:Nat}{s s':St}{q:Nat}(h:Itm b m s' q)(k:Keeps s s')(hq:q<s.pl.length):Itm b m s q:=
 ⟨h.ge,hq,(k.old q hq).1.kind.symm.trans h.kind,(k.old q hq).1.shape.symm.trans h.shape⟩
theorem Zfi (n b:Nat)(p:S76)(s:St):Keeps s (Zau n b p s).2:=
 ⟨(Zfr n b p s).len,fun q hq=>⟨(Zfr n b p s).old q hq,(Zsn n s.pl.length b p s (Nat.le_refl _)).1.same q hq⟩⟩
def Pend (b:Nat)(s:St):Prop:=b<s.pl.length∧∀x,(b,x) ∉ s.sh
theorem Pend.walk {b:Nat}{s:St}(h:Pend b s)(n c:Nat)(p:S76):Pend b (Zau n c p s).2:=by
 have hs:=Zfr n c p s;refine⟨Nat.lt_of_lt_of_le h.1 hs.len,fun x hx=>?_⟩
 rcases hs.keys b x hx with h1 | ⟨h1,_⟩
 ·exact h.2 x h1
 ·have:=h.1;omega
theorem Itm.link {b m:Nat}{s:St}{q:Nat}{frm tt:List Int}:Itm b m (s.link frm tt) q↔Itm b m s q:=by
 have hl:(s.link frm tt).pl.length=s.pl.length:=Zce _ _ _ _;have h2:=Zdd s.pl tt frm frm.length q;have hk:((s.link frm tt).pl.getD q zPl).kind=(s.pl.getD q zPl).kind:=h2.2.2.1;have hs:((s.link frm tt).pl.getD q zPl).shape=(s.pl.getD q zPl).shape:=h2.1;exact⟨fun h=>⟨h.ge,by rw[←hl];exact h.lt,hk.symm.trans h.kind,hs.symm.trans h.shape⟩,fun h=>⟨h.ge,by rw[hl];exact h.lt,hk.trans h.kind,hs.trans h.shape⟩⟩
theorem OwnW.lstB {b m:Nat}{s:St}{x:Sx}(h:OwnW b m s x):∀z∈x.last,0≤z∧z<s.pl.length:=fun z hz=>by
 obtain⟨q,rfl,hq⟩:=h.lst z hz;have:=hq.lt;omega
structure Two (b m m1:Nat)(s1 s2:St)(a c:Sx):Prop where
 fa:OwnW b m s1 a
 fc:OwnW b m1 s2 c
 kp:Keeps s1 s2
 len:s1.pl.length=m1
 le:m≤m1
theorem Two.itm {b m m1:Nat}{s1 s2:St}{a c:Sx}(h:Two b m m1 s1 s2 a c){q:Nat}(hq:Itm b m s2 q):(q<m1∧Itm b m s1 q)∨(m1≤q∧Itm b m1 s2 q):=by
 rcases Nat.lt_or_ge q m1 with h1 | h1
 ·exact .inl ⟨h1,hq.back h.kp (by rw[h.len];exact h1)⟩
 ·exact .inr ⟨h1,⟨h1,hq.lt,hq.kind,hq.shape⟩⟩
theorem Two.up {b m m1:Nat}{s1 s2:St}{a c:Sx}(h:Two b m m1 s1 s2 a c){q:Nat}(hq:Itm b m1 s2 q):Itm b m s2 q:=⟨Nat.le_trans h.le hq.ge,hq.lt,hq.kind,hq.shape⟩
theorem Two.fol {b m m1:Nat}{s1 s2:St}{a c:Sx}(h:Two b m m1 s1 s2 a c)(q:Nat)(hq:Itm b m s2 q):∀z∈(s2.pl.getD q zPl).follow,∃r:Nat,z=r∧Itm b m s2 r:=fun z hz=>by
 rcases h.itm hq with⟨h1,h2⟩ | ⟨h1,h2⟩
 ·rw[(h.kp.old q h2.lt).2]at hz;obtain⟨r,e,hr⟩:=h.fa.fol q h2 z hz;exact⟨r,e,hr.keep h.kp⟩
 ·obtain⟨r,e,hr⟩:=h.fc.fol q h2 z hz;exact⟨r,e,h.up hr⟩
theorem seq_own {b m m1:Nat}{s1 s2:St}{a c:Sx}(h:Two b m m1 s1 s2 a c):OwnW b m (s2.link a.last c.first) (Zst a c):=by
 have hb:∀z∈a.last,0≤z∧z<s2.pl.length:=fun z hz=>by
  have:=h.fa.lstB z hz;have:=h.kp.len;omega
 have hla:∀z∈a.last,∃q:Nat,z=q∧Itm b m s2 q:=fun z hz=>by
  obtain⟨q,e,hq⟩:=h.fa.lst z hz;exact⟨q,e,hq.keep h.kp⟩
 have hlc:∀z∈c.last,∃q:Nat,z=q∧Itm b m s2 q:=fun z hz=>by
  obtain⟨q,e,hq⟩:=h.fc.lst z hz;exact⟨q,e,h.up hq⟩
 have hfa:∀z∈a.first,∃q:Nat,z=q∧Itm b m s2 q:=fun z hz=>by
  obtain⟨q,e,hq⟩:=h.fa.fst z hz;exact⟨q,e,hq.keep h.kp⟩
 have hfc:∀z∈c.first,∃q:Nat,z=q∧Itm b m s2 q:=fun z hz=>by
  obtain⟨q,e,hq⟩:=h.fc.fst z hz;exact⟨q,e,h.up hq⟩
 refine⟨fun q hq=>?_,fun z hz=>?_,fun z hz=>?_,fun q hq z hz=>?_,fun he=>?_⟩
 ·have hq:=Itm.link.1 hq
  rcases h.itm hq with⟨h1,h2⟩ | ⟨h1,h2⟩
  ·rcases h.fa.cov q h2 with h3 | ⟨r,h3,h4,h5⟩
   ·left
    unfold Zst
    split
    ·exact Zbp.2 (.inl h3)
    ·exact h3
   ·right
    refine⟨r,h3,Itm.link.2 (h4.keep h.kp),(Zgs hb r q).2 (.inl ?_)⟩;rw[(h.kp.old r h4.lt).2];exact h5
  ·rcases h.fc.cov q h2 with h3 | ⟨r,h3,h4,h5⟩
   ·cases he:a.empty with
    | true=>
     left
     unfold Zst;rw[if_pos he];exact Zbp.2 (.inr h3)
    | false=>
     right
     obtain⟨z,hz⟩:=List.exists_mem_of_ne_nil _ (h.fa.ne he);obtain⟨r,rfl,hr⟩:=h.fa.lst z hz;exact⟨r,by have:=hr.lt;rw[h.len]at this;omega,Itm.link.2 (hr.keep h.kp),(Zgs hb r q).2 (.inr ⟨hz,h3⟩)⟩
   ·right
    exact⟨r,h3,Itm.link.2 (h.up h4),(Zgs hb r q).2 (.inl h5)⟩
 ·unfold Zst at hz;have hz:z∈(if a.empty=true then Zay a.first c.first else a.first):=hz
  split at hz
  ·rcases Zdy hz with hz | hz
   ·obtain⟨q,e,hq⟩:=hfa z hz;exact⟨q,e,Itm.link.2 hq⟩
   ·obtain⟨q,e,hq⟩:=hfc z hz;exact⟨q,e,Itm.link.2 hq⟩
  ·obtain⟨q,e,hq⟩:=hfa z hz;exact⟨q,e,Itm.link.2 hq⟩
 ·have hz:z∈(if c.empty=true then Zay a.last c.last else c.last):=hz
  split at hz
  ·rcases Zdy hz with hz | hz
   ·obtain⟨q,e,hq⟩:=hla z hz;exact⟨q,e,Itm.link.2 hq⟩
   ·obtain⟨q,e,hq⟩:=hlc z hz;exact⟨q,e,Itm.link.2 hq⟩
  ·obtain⟨q,e,hq⟩:=hlc z hz;exact⟨q,e,Itm.link.2 hq⟩
 ·rcases (Zgs hb q z).1 hz with hz | ⟨_,hz⟩
  ·obtain⟨r,e,hr⟩:=h.fol q (Itm.link.1 hq) z hz;exact⟨r,e,Itm.link.2 hr⟩
  ·obtain⟨r,e,hr⟩:=hfc z hz;exact⟨r,e,Itm.link.2 hr⟩
 ·have he:(a.empty&&c.empty)=false:=he;show (if c.empty=true then Zay a.last c.last else c.last)≠[];cases hc:c.empty with
  | false=>rw[if_neg (by decide)];exact h.fc.ne hc
  | true=>
   rw[if_pos rfl];have ha:a.empty=false:=by rw[hc,Bool.and_true]at he;exact he
   obtain⟨z,hz⟩:=List.exists_mem_of_ne_nil _ (h.fa.ne ha);intro e;have:=Zbp.2 (Or.inl (b:=z∈c.last) hz);rw[e]at this;cases this
theorem alt_own {b m m1:Nat}{s1 s2:St}{a c:Sx}(h:Two b m m1 s1 s2 a c):OwnW b m s2 (altX a c):=by
 refine⟨fun q hq=>?_,fun z hz=>?_,fun z hz=>?_,h.fol,fun he=>?_⟩
 ·rcases h.itm hq with⟨h1,h2⟩ | ⟨h1,h2⟩
  ·rcases h.fa.cov q h2 with h3 | ⟨r,h3,h4,h5⟩
   ·exact .inl (Zbp.2 (.inl h3))
   ·refine .inr ⟨r,h3,h4.keep h.kp,?_⟩;rw[(h.kp.old r h4.lt).2];exact h5
  ·rcases h.fc.cov q h2 with h3 | ⟨r,h3,h4,h5⟩
   ·exact .inl (Zbp.2 (.inr h3))
   ·exact .inr ⟨r,h3,h.up h4,h5⟩
 ·rcases Zdy (show z∈Zay a.first c.first from hz)with hz | hz
  ·obtain⟨q,e,hq⟩:=h.fa.fst z hz;exact⟨q,e,hq.keep h.kp⟩
  ·obtain⟨q,e,hq⟩:=h.fc.fst z hz;exact⟨q,e,h.up hq⟩
 ·rcases Zdy (show z∈Zay a.last c.last from hz)with hz | hz
  ·obtain⟨q,e,hq⟩:=h.fa.lst z hz;exact⟨q,e,hq.keep h.kp⟩
  ·obtain⟨q,e,hq⟩:=h.fc.lst z hz;exact⟨q,e,h.up hq⟩
 ·have he:(a.empty||c.empty)=false:=he;have ha:a.empty=false:=by cases h1:a.empty with
   | false=>rfl
   | true=>rw[h1]at he;cases he
  obtain⟨z,hz⟩:=List.exists_mem_of_ne_nil _ (h.fa.ne ha);intro e;have e:Zay a.last c.last=[]:=e;have:=Zbp.2 (Or.inl (b:=z∈c.last) hz);rw[e]at this;cases this
theorem star_own {b m:Nat}{s:St}{a:Sx}(h:OwnW b m s a):OwnW b m (s.link a.last a.first) ⟨a.first,a.last,true⟩:=by
 refine⟨fun q hq=>?_,fun z hz=>?_,fun z hz=>?_,fun q hq z hz=>?_,fun he=>(by cases he)⟩
 ·rcases h.cov q (Itm.link.1 hq)with h1 | ⟨r,h1,h2,h3⟩
  ·exact .inl h1
  ·exact .inr ⟨r,h1,Itm.link.2 h2,(Zgs h.lstB r q).2 (.inl h3)⟩
 ·obtain⟨q,e,hq⟩:=h.fst z hz;exact⟨q,e,Itm.link.2 hq⟩
 ·obtain⟨q,e,hq⟩:=h.lst z hz;exact⟨q,e,Itm.link.2 hq⟩
 ·rcases (Zgs h.lstB q z).1 hz with hz | ⟨_,hz⟩
  ·obtain⟨r,e,hr⟩:=h.fol q (Itm.link.1 hq) z hz;exact⟨r,e,Itm.link.2 hr⟩
  ·obtain⟨r,e,hr⟩:=h.fst z hz;exact⟨r,e,Itm.link.2 hr⟩
theorem Ztq {b:Nat}{s s':St}{x:Sx}(hl:s.pl.length<s'.pl.length)(hk:(s'.pl.getD s.pl.length zPl).kind=3)(hs:(s'.pl.getD s.pl.length zPl).shape=some b)
 (hf:∀z∈(s'.pl.getD s.pl.length zPl).follow,z=(s.pl.length:Int)) (ho:∀q,Itm b s.pl.length s' q→q=s.pl.length) (h1:x.first=[(s.pl.length:Int)]) (h2:x.last=[(s.pl.length:Int)]):OwnW b s.pl.length s' x:=by
 have hi:Itm b s.pl.length s' s.pl.length:=⟨Nat.le_refl _,hl,hk,hs⟩
 refine⟨fun q hq=>.inl ?_,fun z hz=>?_,fun z hz=>?_,fun q hq z hz=>?_,fun _=>by rw[h2];simp⟩
 ·rw[ho q hq,h1];exact List.mem_singleton.2 rfl
 ·rw[h1]at hz;exact⟨_,List.mem_singleton.1 hz,hi⟩
 ·rw[h2]at hz;exact⟨_,List.mem_singleton.1 hz,hi⟩
 ·rw[ho q hq]at hz;exact⟨_,hf z hz,hi⟩
theorem item1_own {b:Nat}{p:S76}{s:St}{x:Sx}(h1:x.first=[(s.pl.length:Int)])(h2:x.last=[(s.pl.length:Int)]):OwnW b s.pl.length (Zde b p s) x:=by
 have hl:(s.add (Zax b p)).pl.length=s.pl.length+1:=by simp[St.add]
 have hg:(s.add (Zax b p)).pl.getD s.pl.length zPl=Zax b p:=by
  show (s.pl++[Zax b p]).getD s.pl.length zPl=_;rw[Zcg,if_pos rfl]
 have hb:∀z∈[(s.pl.length:Int)],0≤z∧z<(s.add (Zax b p)).pl.length:=fun z hz=>by
  rw[List.mem_singleton.1 hz,hl];omega
 unfold Zde
 split
 ·have hl2:((s.add (Zax b p)).link [(s.pl.length:Int)] [(s.pl.length:Int)]).pl.length=s.pl.length+1:=(Zce _ _ _ _).trans hl;have hsame:=Zdd (s.add (Zax b p)).pl [(s.pl.length:Int)] [(s.pl.length:Int)] 1 s.pl.length;rw[hg]at hsame;refine Ztq (by rw[hl2];omega) hsame.2.2.1 hsame.1 (fun z hz=>?_) (fun q hq=>?_) h1 h2
  ·rcases (Zgs hb _ z).1 hz with hz | ⟨_,hz⟩
   ·rw[hg]at hz;cases hz
   ·exact List.mem_singleton.1 hz
  ·have h3:=hq.lt;have h4:=hq.ge;rw[hl2]at h3;omega
 ·refine Ztq (by rw[hl];omega) (by rw[hg];rfl) (by rw[hg];rfl) (fun z hz=>?_) (fun q hq=>?_) h1 h2
  ·rw[hg]at hz;cases hz
  ·have h3:=hq.lt;have h4:=hq.ge;rw[hl]at h3;omega
theorem pin_own {n b:Nat}{p:S76}{s:St}{x:Sx}(hp:p.f0=3)(hb:Pend b s)(h1:x.first=[(s.pl.length:Int)])(h2:x.last=[(s.pl.length:Int)]):OwnW b s.pl.length (Zeh (Zau n) b p s) x:=by
 have e1:Zde b p s=s.add (Zax b p):=by unfold Zde;rw[if_neg (by omega)]
 unfold Zeh;rw[if_pos hp,e1];have hpt:=Zpd n (Zaj p.f3 0) (-1) (-1) (s.add (Zax b p));have hfo:=(patW_fo (Zsn n) (Zaj p.f3 0) (-1) (-1) (s.add (Zax b p)).pl.length (s.add (Zax b p)) (Nat.le_refl _)).same;have hl:(s.add (Zax b p)).pl.length=s.pl.length+1:=by simp[St.add]
 have hg:(s.add (Zax b p)).pl.getD s.pl.length zPl=Zax b p:=by
  show (s.pl++[Zax b p]).getD s.pl.length zPl=_;rw[Zcg,if_pos rfl]
 generalize Zgn (Zau n) (Zaj p.f3 0) (-1) (-1) (s.add (Zax b p))=sp at hpt hfo ⊢;have hlen:=hpt.len;have hli:(sp.inner s.pl.length (s.add (Zax b p)).pl.length).pl.length=sp.pl.length:=by simp[St.inner]
 have hget:∀q,q≠s.pl.length→(sp.inner s.pl.length (s.add (Zax b p)).pl.length).pl.getD q zPl=sp.pl.getD q zPl:=fun q hq=>by
  show (sp.pl.set _ _).getD q zPl=_;rw[Zda,if_neg (by omega)]
 have hself:(sp.inner s.pl.length (s.add (Zax b p)).pl.length).pl.getD s.pl.length zPl={ sp.pl.getD s.pl.length zPl with inner:=some (s.add (Zax b p)).pl.length }:=by
  show (sp.pl.set _ _).getD s.pl.length zPl=_;rw[Zda,if_pos ⟨rfl,by omega⟩]
 have hk:=hpt.old s.pl.length (by omega);rw[hg]at hk;have hfl:=hfo s.pl.length (by omega);rw[hg]at hfl;refine Ztq (by omega) (by rw[hself];exact hk.kind) (by rw[hself];exact hk.shape) (fun z hz=>?_) (fun q hq=>?_) h1 h2
 ·rw[hself]at hz;have hz:z∈(sp.pl.getD s.pl.length zPl).follow:=hz;rw[hfl]at hz;cases hz
 ·rcases Nat.lt_or_ge s.pl.length q with h3 | h3
  ·exfalso
   have h4:=hq.shape;rw[hget q (by omega)]at h4;obtain⟨j,h5,h6⟩:=(hpt.new q (by omega) (by have:=hq.lt;omega)).shape;rw[h4]at h5;injection h5 with h5
   subst h5;have h7:=hb.1
   rcases h6 with h6 | ⟨y,h6⟩
   ·omega
   ·rcases hpt.keys b y h6 with h8 | ⟨h8,_⟩ | ⟨h8,_⟩
    ·exact hb.2 y h8
    ·omega
    ·omega
  ·have:=hq.ge;omega
theorem Zru (b:Nat)(s:St):OwnW b s.pl.length s ⟨[],[],true⟩:=
 ⟨fun q hq=>by have:=hq.ge;have:=hq.lt;omega,(fun z hz=>(by cases hz)),(fun z hz=>(by cases hz)),(fun q hq=>by have:=hq.ge;have:=hq.lt;omega),fun h=>by cases h⟩
theorem Zfc:∀(n b:Nat) (p:S76) (s:St),Pend b s→OwnW b s.pl.length (Zau n b p s).2 (Zau n b p s).1
 | 0,b,_,s,_=>Zru b s
 | n+1,b,p,s,hb=>by
  have ih:=Zfc n;have i1:=ih b (Zaj p.f3 0) s hb;have i2:=ih b (Zaj p.f3 1) (Zau n b (Zaj p.f3 0) s).2 (hb.walk n b _);have k2:=Zfi n b (Zaj p.f3 1) (Zau n b (Zaj p.f3 0) s).2;have k1:=Zfi n b (Zaj p.f3 0) s;have two:Two b s.pl.length (Zau n b (Zaj p.f3 0) s).2.pl.length (Zau n b (Zaj p.f3 0) s).2 (Zau n b (Zaj p.f3 1) (Zau n b (Zaj p.f3 0) s).2).2 (Zau n b (Zaj p.f3 0) s).1 (Zau n b (Zaj p.f3 1) (Zau n b (Zaj p.f3 0) s).2).1:=⟨i1,i2,k2,rfl,k1.len⟩
  unfold Zau
  split
  ·by_cases h3:p.f0=3
   ·exact pin_own h3 hb rfl rfl
   ·show OwnW b s.pl.length (Zeh (Zau n) b p s) _;unfold Zeh;rw[if_neg h3];exact item1_own rfl rfl
  ·split
   ·exact seq_own two
   ·split
    ·exact alt_own two
    ·split
     ·exact star_own i1
     ·exact Zru b s
theorem Zfh (A0:Option Addr)(c0:Nat)(l0:List Int)(A1:Option Addr)(c1:Nat)(l1:List Int)(w:World)(h0:(Kd.int .i64).C w A0 l0.length l0)(h1:(Kd.int .i64).C w A1 l1.length l1)(hf:l0.length+l1.length≤1000000)(hr:l0.Pairwise (·<·)) :
 Calls Tryz.prog 43 #[.slice A0 l0.length c0,.slice A1 l1.length c1] w fun e w'=>∃v,e=.returned v∧(Kd.int .i64).R 3 w' w.heap.size (fun _=>True) v (Zay l0 l1)∧Below w.heap.size w w':=by
 have h:=Add_call A0 c0 l0 A1 c1 l1 w h0 h1 hf;rw[addL_both l1 hr]at h;exact h
def Zdt (its:List S94)(tt:List Int)(q:Nat):List S94:=its.set q { its.getD q z94 with f2:=Zay (its.getD q z94).f2 tt }
def Zjl (its:List S94)(tt frm:List Int):Nat→List S94
 | 0=>its
 | k+1=>Zdt (Zjl its tt frm k) tt (rd frm k).toNat
def linkIL (its:List S94)(frm tt:List Int):List S94:=Zjl its tt frm frm.length
def AllNx (n:Nat)(its:List S94):Prop:=∀q,Ris n (its.getD q z94).f2
theorem Zhm (its:List S94)(tt:List Int)(q:Nat):(Zdt its tt q).length=its.length:=by simp[Zdt]
theorem Zph (its:List S94)(tt frm:List Int)(k:Nat):(Zjl its tt frm k).length=its.length:=by
 induction k with
 | zero=>rfl
 | succ k ih=>show (Zdt _ _ _).length=_;rw[Zhm,ih]
theorem Zdr (its:List S94)(p q:Nat)(y:S94):(its.set p y).getD q z94=if p=q∧q<its.length then y else its.getD q z94:=by
 rw[List.getD_eq_getElem?_getD,List.getD_eq_getElem?_getD,List.getElem?_set];by_cases h:p=q
 ·subst h;by_cases h2:p<its.length
  ·simp[h2]
  ·simp[h2]
 ·simp[h]
theorem AllNx.one {n:Nat}{its:List S94}{tt:List Int}(h:AllNx n its)(ht:∀q∈tt,0≤q∧q<n)(p:Nat):AllNx n (Zdt its tt p):=by
 intro q;unfold Zdt;rw[Zdr]
 split
 ·exact Zgm (h p).2 ht
 ·exact h q
theorem AllNx.link {n:Nat}{its:List S94}{tt:List Int}(h:AllNx n its)(ht:∀q∈tt,0≤q∧q<n)(frm:List Int)(k:Nat):AllNx n (Zjl its tt frm k):=by
 induction k with
 | zero=>exact h
 | succ k ih=>exact AllNx.one ih ht _
set_option maxHeartbeats 4000000 in
theorem Zoh (w0:W0)(W:World)(gb:Nat)(h0 h1 vs v:Value)(its:List S94)(h:RS w0 W gb h0 h1 vs v its)(v1 v2:Value)(frm tt:List Int)(hf:Ri w0 W v1 frm)(ht:Ri w0 W v2 tt)
 (rf:Ris its.length frm) (rt:Ris its.length tt) (ra:AllNx its.length its) (hl:its.length≤100000) :
 Calls Tryz.prog 92 #[.pointer (some ⟨gb,0,none⟩),v1,v2] W fun e w'=>e=.returned (.tuple #[])∧RS w0 w' gb h0 h1 vs v (linkIL its frm tt)∧KeptV W w' gb v:=by
 have HF:=Zaa.mk hf;have HT:=Zaa.mk ht;obtain⟨A1,c1,rfl,l1,_⟩:=hf.C;obtain⟨A2,c2,rfl,l2,_⟩:=ht.C;have HRF:=Zaa.mk rf;have HRT:=Zaa.mk rt;have HRA:=Zaa.mk ra;have HH:=Zaa.mk h;obtain⟨A,c,rfl,_⟩:=h.row.slice_;have lf:=rf.len;have lt:=rt.len;clear hf ht rf rt ra h
 go_enter Tryz.func92,Tryz.ntmps92
 go_wp2
 go_loopw [6] (fun i wr=>∃k:Nat,k≤frm.length∧i=.int .i64 k∧Zaa (RS w0 wr gb h0 h1 vs (.slice A its.length c) (Zjl its tt frm k))∧Zaa (KeptV W wr gb (.slice A its.length c))) (fun i _=>frm.length-(intOf i).toNat)
 case atStart=>exact⟨0,Nat.zero_le _,rfl,⟨HH.out⟩,⟨KeptV.refl _ _ _⟩⟩
 case round=>
  obtain⟨k,hk,rfl,HV,HK⟩:=hrel;by_cases hkn:k<frm.length
  ·have hr1:=HF.out.same (HH.out.same3 HK.out);have hr2:=HT.out.same (HH.out.same3 HK.out);obtain⟨A1',c1',e1,_,g1⟩:=hr1.C;injection e1 with e1 _ e2
   subst e1;subst e2;obtain⟨ad,rfl,hq0⟩:=Kd.at_int g1 (k:Int) (by omega) (by omega);rw[Int.toNat_natCast]at hq0;have hmem:=HRF.out.2 _ (Zfv hkn);obtain⟨q0,q1⟩:=hmem;have hlk:=Zph its tt frm k;have hrk:=(HRA.out.link (HRT.out.2) frm k)
   obtain⟨pk,hpk⟩:∃pk,pk=Zjl its tt frm k:=⟨_,rfl⟩
   have HPK:Zaa (Zjl its tt frm (k+1)=Zdt pk tt (rd frm k).toNat):=⟨by rw[hpk];rfl⟩
   rw[←hpk]at HV hlk hrk;clear hpk;obtain⟨bd,cs,rfl,hps,hcell,hfz⟩:=HV.out.at_ (A:=A) (c:=c) (by rw[hlk]) (rd frm k).toNat (by omega);obtain⟨B1,d1,B2,d2,B3,d3,v4,rfl,_,_,_,_,_,_,r4⟩:=hps;obtain⟨B4,d4,rfl,ld4,g4⟩:=r4.C;have y5:=hcell 5 _ rfl;have y2:=HV.out.cell2;have HFR:=Zaa.mk hfz;obtain⟨A2',c2',e2,_,g2⟩:=hr2.C;injection e2 with e2 _ e3
   subst e2;subst e3;have hfl:=(hrk (rd frm k).toNat).len;have HB:=Zaa.mk (fun n=>Zfh B4 d4 _ A2 c2 _ (wr.drewN n) (Kd.C_drewN g4 n) (Kd.C_drewN g2 n) (by omega) (hrk (rd frm k).toNat).1);have hF:Zaa (Zdt pk tt (rd frm k).toNat=pk.set (rd frm k).toNat { pk.getD (rd frm k).toNat z94 with f2:=Zay (pk.getD (rd frm k).toNat z94).f2 tt }):=⟨rfl⟩
   clear hcell hfz g4 g2 r4 hr1 hr2 hrk g1 hfl ld4;generalize Zay (pk.getD (rd frm k).toNat z94).f2 tt=bl at HB hF;generalize (pk.getD (rd frm k).toNat z94).f2=fl at y5 HB;generalize rd frm k=q at *
   go_upto_region 3 with (fail)
   refine Zdb ?_
   go_region_law (first | (go_simp;go_at_call 43;(with_reducible refine (HB.out _).mono ?_);rintro e w6 ⟨v6,rfl,ho6,hb6⟩;obtain⟨A6,c6,rfl⟩:=Kd.R_slice ho6;have hb6:=Zaf (w:=wr) (Zah Zbr 1) hb6;have HV6:=Zaa.mk (HV.out.below hb6);have HO6:=Zaa.mk (HV.out.ri ho6 (Nat.le_refl _));have y5b:=Zab hb6 y5;have y2b:=Zab hb6 y2;have hq0b:=Zab hb6 hq0;have hfb:=RS.froz HV6.out rfl rfl (q.toNat*11) 5;have HB6:=Zaa.mk hb6;clear ho6 hb6) | fail)
   all_goals (
    have hst:=HV6.out.setAt (A:=some bd) (c:=c) (by rw[hlk]) rfl q.toNat (by omega) 5 (by omega) (.slice A6 bl.length c6) { pk.getD q.toNat z94 with f2:=bl } (fun c hc hp=>hp.setNext HO6.out);have HST:=Zaa.mk hst;clear hst;go_wp2
    go_roundw
    case rel=>exact⟨k+1,by omega,by go_num,⟨by rw[HPK.out,hF.out];exact HST.out.1⟩,⟨HK.out.trans ((KeptV.of_below HB6.out gb (.slice (some bd) its.length c)).trans HST.out.2 (NewOr.refl _ _)) (NewOr.refl _ _)⟩⟩
    case measure=>simp[intOf];omega)
  ·obtain rfl:k=frm.length:=by omega
   go_wp2
   go_end0
   exact⟨rfl,HV.out,HK.out⟩
theorem ris_pre:∀(L L':List Int) (n:Nat),L.Pairwise (·<·)→L'.Pairwise (·<·)→(∀z∈L,z∈L')→n<L.length→(∀z∈L',z≤L.getD n 0→z∈L)→∀j,j≤n→L'.getD j 0=L.getD j 0
 | [],_,n,_,_,_,h,_=>by simp at h
 | a :: t,[],n,_,_,hs,_,_=>by have:=hs a List.mem_cons_self;cases this
 | a :: t,a' :: t',n,hL,hL',hs,hn,hc=>by
  have h1:=List.pairwise_cons.1 hL;have h2:=List.pairwise_cons.1 hL';have hle:a'≤a:=by
   rcases List.mem_cons.1 (hs a List.mem_cons_self)with h | h
   ·omega
   ·have:=h2.1 a h;omega
  have han:a≤(a :: t).getD n 0:=by
   cases n with
   | zero=>exact Int.le_refl _
   | succ n=>
    have hm:(a :: t).getD (n+1) 0∈t:=by
     show t.getD n 0∈t;rw[List.getD_eq_getElem?_getD,List.getElem?_eq_getElem (by simpa using hn)];exact List.getElem_mem _
    exact Int.le_of_lt (h1.1 _ hm)
  have haa:a=a':=by
   rcases List.mem_cons.1 (hc a' List.mem_cons_self (by omega))with h | h
   ·exact h.symm
   ·have:=h1.1 a' h;omega
  subst haa;intro j hj;cases j with
  | zero=>rfl
  | succ j=>
   cases n with
   | zero=>omega
   | succ n=>
    show t'.getD j 0=t.getD j 0;refine ris_pre t t' n h1.2 h2.2 (fun z hz=>?_) (by simpa using hn) (fun z hz hzn=>?_) j (by omega)
    ·rcases List.mem_cons.1 (hs z (List.mem_cons_of_mem _ hz))with h | h
     ·have:=h1.1 z hz;omega
     ·exact h
    ·rcases List.mem_cons.1 (hc z (List.mem_cons_of_mem _ hz) hzn)with h | h
     ·have:=h2.1 z hz;omega
     ·exact h
structure Scan (b m:Nat)(s:St)(x:Sx)(n:Nat)(L:List Int):Prop where
 ris:L.Pairwise (·<·)
 itm:∀z∈L,∃q:Nat,z=q∧Itm b m s q
 fst:∀z∈x.first,z∈L
 lst:∀z∈x.last,z∈L
 done:∀j,j<n→∀z∈(s.pl.getD (L.getD j 0).toNat zPl).follow,z∈L
 le:n≤L.length
theorem at_mem {L:List Int}{n:Nat}(h:n<L.length):L.getD n 0∈L:=by
 rw[List.getD_eq_getElem?_getD,List.getElem?_eq_getElem h];exact List.getElem_mem _
theorem at_lt {L:List Int}(hL:L.Pairwise (·<·)){i j:Nat}(hi:i<L.length)(hj:j<L.length)(h:L.getD i 0<L.getD j 0):i<j:=by
 rw[List.getD_eq_getElem?_getD,List.getD_eq_getElem?_getD,List.getElem?_eq_getElem hi,List.getElem?_eq_getElem hj]at h;have h:L[i]<L[j]:=h
 rcases Nat.lt_trichotomy i j with h1 | h1 | h1
 ·exact h1
 ·subst h1;omega
 ·have:=List.pairwise_iff_getElem.1 hL j i hj hi h1;omega
theorem Scan.low {b m:Nat}{s:St}{x:Sx}{n:Nat}{L:List Int}(h:Scan b m s x n L)(ho:OwnW b m s x)(q:Nat):(n<L.length→(q:Int)<L.getD n 0)→Itm b m s q→(q:Int)∈L:=by
 induction q using Nat.strongRecOn with
 | _ q ih=>
  intro hn hq
  rcases ho.cov q hq with h1 | ⟨r,h1,h2,h3⟩
  ·exact h.fst _ h1
  ·have hr:=ih r h1 (fun hl=>by have:=hn hl;omega) h2;obtain⟨j,hj,hjr⟩:=List.mem_iff_getElem.1 hr;have hjr:L.getD j 0=(r:Int):=by rw[List.getD_eq_getElem?_getD,List.getElem?_eq_getElem hj];exact hjr
   have hjn:j<n:=by
    rcases Nat.lt_or_ge n L.length with hl | hl
    ·exact at_lt h.ris hj hl (by rw[hjr];have:=hn hl;omega)
    ·omega
   have:=h.done j hjn (q:Int);rw[hjr,Int.toNat_natCast]at this;exact this h3
theorem Scan.next {b m:Nat}{s:St}{x:Sx}{n:Nat}{L:List Int}(h:Scan b m s x n L)(ho:OwnW b m s x)(hn:n<L.length):Scan b m s x (n+1) (Zay L (s.pl.getD (L.getD n 0).toNat zPl).follow):=by
 obtain⟨c,hc,hci⟩:=h.itm _ (at_mem hn);have hcf:=ho.fol c hci;have hF:∀z∈(s.pl.getD (L.getD n 0).toNat zPl).follow,∃q:Nat,z=q∧Itm b m s q:=by rw[hc,Int.toNat_natCast];exact hcf
 have hsub:∀z∈L,z∈Zay L (s.pl.getD (L.getD n 0).toNat zPl).follow:=fun z hz=>Zbp.2 (.inl hz)
 have hpre:=ris_pre L (Zay L (s.pl.getD (L.getD n 0).toNat zPl).follow) n h.ris (Zfw _ _) hsub hn (fun z hz hzn=>by
  rcases Zdy hz with h1 | h1
  ·exact h1
  ·obtain⟨q,rfl,hq⟩:=hF z h1
   rcases Int.lt_or_eq_of_le hzn with h2 | h2
   ·exact h.low ho q (fun _=>h2) hq
   ·rw[h2];exact at_mem hn)
 refine⟨Zfw _ _,fun z hz=>?_,fun z hz=>hsub z (h.fst z hz),fun z hz=>hsub z (h.lst z hz),fun j hj z hz=>?_,?_⟩
 ·rcases Zdy hz with h1 | h1
  ·exact h.itm z h1
  ·exact hF z h1
 ·rw[hpre j (by omega)]at hz
  rcases Nat.lt_or_ge j n with h1 | h1
  ·exact hsub z (h.done j h1 z hz)
  ·obtain rfl:j=n:=by omega
   exact Zbp.2 (.inr hz)
 ·rcases Nat.lt_or_ge n (Zay L (s.pl.getD (L.getD n 0).toNat zPl).follow).length with h1 | h1
  ·exact h1
  ·exfalso
   have h2:=hpre n (Nat.le_refl _);rw[List.getD_eq_getElem?_getD,List.getElem?_eq_none h1]at h2;have h3:=hsub _ (at_mem hn);obtain⟨j,hj,hjc⟩:=List.mem_iff_getElem.1 h3;have h4:=hpre j (by omega);rw[List.getD_eq_getElem?_getD,List.getElem?_eq_getElem hj,Option.getD_some,hjc]at h4;have h5:¬L.getD j 0<L.getD n 0:=by omega
   exact h5 (by
    rw[List.getD_eq_getElem?_getD,List.getD_eq_getElem?_getD,List.getElem?_eq_getElem hn,List.getElem?_eq_getElem (by omega)];exact List.pairwise_iff_getElem.1 h.ris j n (by omega) hn (by omega))
theorem Scan.start {b m:Nat}{s:St}{x:Sx}(ho:OwnW b m s x):Scan b m s x 0 (Zay x.first x.last):=
 ⟨Zfw _ _,fun z hz=>(Zdy hz).elim (ho.fst z) (ho.lst z),fun z hz=>Zbp.2 (.inl hz),fun z hz=>Zbp.2 (.inr hz),fun j hj=>by omega,Nat.zero_le _⟩
theorem Scan.all {b m:Nat}{s:St}{x:Sx}{L:List Int}(h:Scan b m s x L.length L)(ho:OwnW b m s x)(q:Nat):(q:Int)∈L↔Itm b m s q:=by
 refine⟨fun hq=>?_,fun hq=>h.low ho q (fun hl=>by omega) hq⟩;obtain⟨r,e,hr⟩:=h.itm _ hq;obtain rfl:q=r:=by omega
 exact hr
theorem Scan.ris' {b m:Nat}{s:St}{x:Sx}{n:Nat}{L:List Int}(h:Scan b m s x n L):Ris s.pl.length L:=
 ⟨h.ris,fun z hz=>by obtain⟨q,rfl,hq⟩:=h.itm z hz;have:=hq.lt;omega⟩
def Zez (b:Nat)(rule:Int):Int:=if rule<0 then (b:Int)-1 else -1
def innN:Option Nat→Int
 | some k=>k
 | none=>0
structure ItOk (s:St)(i:Nat)(x:Pl)(t:S94):Prop where
 kind:t.f0=x.kind
 p:t.f1=x.p
 inner:t.f4=innN x.inner
 item:x.kind=3→t.f2=x.follow
 nofl:x.kind≠3→(∀b,x.shape=some b→x.kind=2→∀y,(b,y) ∉ s.sh)→t.f2=[]
 fin:∀b,x.shape=some b→∀y,(b,y)∈s.sh→t.f5=y.rule∧t.f6=y.step∧t.f7=Zez b y.rule∧(x.kind=3→t.f3=decide ((i:Int)∈y.last))∧(x.kind=2→t.f2=y.first∧t.f3=y.empty)
 raw:x.kind=3→(∀b,x.shape=some b→∀y,(b,y) ∉ s.sh)→t.f3=false
 free:x.kind=1→t.f5=x.rule
structure Rel (s:St)(its:List S94):Prop where
 len:its.length=s.pl.length
 at_:∀i,i<s.pl.length→ItOk s i (s.pl.getD i zPl) (its.getD i z94)
theorem Zid (its:List S94)(t:S94)(q:Nat):(its++[t]).getD q z94=if q=its.length then t else its.getD q z94:=Zdz its t z94 q
theorem Rel.add {s:St}{its:List S94}(h:Rel s its){x:Pl}{t:S94}(hx:ItOk s s.pl.length x t):Rel (s.add x) (its++[t]):=by
 have hl:(s.add x).pl.length=s.pl.length+1:=by simp[St.add]
 refine⟨by rw[hl,List.length_append,h.len];rfl,fun i hi=>?_⟩;show ItOk (s.add x) i ((s.pl++[x]).getD i zPl) _;rw[Zcg,Zid,h.len];by_cases hq:i=s.pl.length
 ·rw[if_pos hq,if_pos hq];subst hq;exact⟨hx.kind,hx.p,hx.inner,hx.item,hx.nofl,hx.fin,hx.raw,hx.free⟩
 ·rw[if_neg hq,if_neg hq];have h1:=h.at_ i (by omega);exact⟨h1.kind,h1.p,h1.inner,h1.item,h1.nofl,h1.fin,h1.raw,h1.free⟩
theorem Rel.inner {s:St}{its:List S94}(h:Rel s its)(k b:Nat):Rel (s.inner k b) (its.set k { its.getD k z94 with f4:=(b:Int) }):=by
 have hl:(s.inner k b).pl.length=s.pl.length:=by simp[St.inner]
 refine⟨by rw[hl,List.length_set,h.len],fun i hi=>?_⟩;have h1:=h.at_ i (by omega);show ItOk (s.inner k b) i ((s.pl.set k _).getD i zPl) _;rw[Zda,Zdr,h.len];by_cases hq:k=i∧i<s.pl.length
 ·rw[if_pos hq,if_pos hq];obtain⟨rfl,_⟩:=hq;exact⟨h1.kind,h1.p,rfl,h1.item,h1.nofl,h1.fin,h1.raw,h1.free⟩
 ·rw[if_neg hq,if_neg hq];exact⟨h1.kind,h1.p,h1.inner,h1.item,h1.nofl,h1.fin,h1.raw,h1.free⟩
theorem rel_one {s:St}{its:List S94}(h:Rel s its)(tt:List Int)(q:Nat)(hq:(s.pl.getD q zPl).kind=3):Rel ⟨Zco s.pl tt q,s.sh⟩ (Zdt its tt q):=by
 refine⟨(Zhm its tt q).trans (h.len.trans (Zfy s.pl tt q).symm),fun i hi=>?_⟩;have hi:i<s.pl.length:=by rw[←Zfy s.pl tt q];exact hi
 have h1:=h.at_ i hi;show ItOk _ i ((Zco s.pl tt q).getD i zPl) ((Zdt its tt q).getD i z94);unfold Zco Zdt;rw[Zda,Zdr,h.len];by_cases hqi:q=i∧i<s.pl.length
 ·rw[if_pos hqi,if_pos hqi];obtain⟨rfl,_⟩:=hqi;exact⟨h1.kind,h1.p,h1.inner,fun _=>by show Zay _ tt=Zay _ tt;rw[h1.item hq],fun hk=>absurd hq hk,fun b hb y hy=>by
   obtain⟨a1,a2,a3,a4,a5⟩:=h1.fin b hb y hy;exact⟨a1,a2,a3,a4,fun hk=>by have hk:(s.pl.getD q zPl).kind=2:=hk;omega⟩,h1.raw,h1.free⟩
 ·rw[if_neg hqi,if_neg hqi];exact⟨h1.kind,h1.p,h1.inner,h1.item,h1.nofl,h1.fin,h1.raw,h1.free⟩
theorem rel_link {s:St}{its:List S94}(h:Rel s its)(frm tt:List Int)(hf:∀z∈frm,(s.pl.getD z.toNat zPl).kind=3):∀k,k≤frm.length→Rel ⟨Zgi s.pl tt frm k,s.sh⟩ (Zjl its tt frm k)
 | 0,_=>h
 | k+1,hk=>by
  have ih:=rel_link h frm tt hf k (by omega);refine rel_one ih tt (rd frm k).toNat ?_
  exact (Zdd s.pl tt frm k _).2.2.1.trans (hf _ (Zfv (by omega)))
theorem Rel.link {s:St}{its:List S94}(h:Rel s its){frm tt:List Int}(hf:∀z∈frm,(s.pl.getD z.toNat zPl).kind=3):Rel (s.link frm tt) (linkIL its frm tt):=rel_link h frm tt hf frm.length (Nat.le_refl _)
theorem Rel.nx {s:St}{its:List S94}(h:Rel s its)(hg:Good s):AllNx its.length its:=by
 intro q
 rcases Nat.lt_or_ge q s.pl.length with hq | hq
 ·have h1:=h.at_ q hq;rw[h.len];by_cases hk:(s.pl.getD q zPl).kind=3
  ·rw[h1.item hk];exact hg.ris q
  ·by_cases hs:∃b y,(s.pl.getD q zPl).shape=some b∧(b,y)∈s.sh∧(s.pl.getD q zPl).kind=2
   ·obtain⟨b,y,h2,h3,h4⟩:=hs;rw[((h1.fin b h2 y h3).2.2.2.2 h4).1];exact (hg.shs b y h3).2.1
   ·rw[h1.nofl hk (fun b h2 h4 y h3=>hs ⟨b,y,h2,h3,h4⟩)];exact Ris.nil _
 ·rw[List.getD_eq_getElem?_getD,List.getElem?_eq_none (by rw[h.len];exact hq)];exact Ris.nil _
def KB (s:St):Prop:=∀q,q<s.pl.length→(s.pl.getD q zPl).kind=2→(s.pl.getD q zPl).shape=some q
theorem KB.add {s:St}(h:KB s){x:Pl}(hx:x.kind=2→x.shape=some s.pl.length):KB (s.add x):=fun q hq hk=>by
 have hl:(s.add x).pl.length=s.pl.length+1:=by simp[St.add]
 have hk:((s.pl++[x]).getD q zPl).kind=2:=hk;show ((s.pl++[x]).getD q zPl).shape=some q;rw[Zcg]at hk ⊢;by_cases he:q=s.pl.length
 ·rw[if_pos he]at hk ⊢;rw[he];exact hx hk
 ·rw[if_neg he]at hk ⊢;exact h q (by omega) hk
theorem KB.link {s:St}(h:KB s)(frm tt:List Int):KB (s.link frm tt):=fun q hq hk=>by
 have hl:(s.link frm tt).pl.length=s.pl.length:=Zce _ _ _ _;have h2:=Zdd s.pl tt frm frm.length q;exact h2.1.trans (h q (by omega) (h2.2.2.1.symm.trans hk))
theorem KB.inner {s:St}(h:KB s)(k b:Nat):KB (s.inner k b):=by
 intro q hq hk0;have hl:(s.inner k b).pl.length=s.pl.length:=by simp[St.inner]
 have e:(s.inner k b).pl.getD q zPl=if k=q∧q<s.pl.length then { s.pl.getD k zPl with inner:=some b }else s.pl.getD q zPl:=Zda s.pl k q _
 rw[e]at hk0 ⊢;by_cases he:k=q∧q<s.pl.length
 ·rw[if_pos he]at hk0 ⊢;obtain⟨rfl,h2⟩:=he;exact h k h2 hk0
 ·rw[if_neg he]at hk0 ⊢;exact h q (by omega) hk0
theorem Zlk:∀(n b:Nat) (p:S76) (s:St),KB s→KB (Zau n b p s).2
 | 0,_,_,_,h=>h
 | n+1,b,p,s,h=>by
  have ih:=Zlk n;have hi:KB (Zde b p s):=by
   unfold Zde;have h1:KB (s.add (Zax b p)):=h.add (fun hk=>by have hk:(3:Int)=2:=hk;omega)
   split
   ·exact h1.link _ _
   ·exact h1
  unfold Zau
  split
  ·show KB (Zeh (Zau n) b p s);unfold Zeh
   split
   ·refine KB.inner ?_ _ _
    have h2:KB ((Zde b p s).add (Zbc (Zde b p s).pl.length)):=hi.add (fun _=>rfl);exact ih _ _ _ h2
   ·exact hi
  ·split
   ·exact (ih b _ _ (ih b _ s h)).link _ _
   ·split
    ·exact ih b _ _ (ih b _ s h)
    ·split
     ·exact (ih b _ s h).link _ _
     ·exact h
def Zum:Nat→S76→Prop
 | 0,_=>True
 | n+1,p=>(1≤p.f0∧p.f0≤7)∧(p.f0=3→Zum n (Zaj p.f3 0))∧(p.f0=5∨p.f0=6→Zum n (Zaj p.f3 0)∧Zum n (Zaj p.f3 1))∧(p.f0=7→Zum n (Zaj p.f3 0))
def Fore (its its':List S94):Prop:=∀q,q<its.length→its'.getD q z94=its.getD q z94
theorem Fore.refl (its:List S94):Fore its its:=fun _ _=>rfl
theorem Fore.trans {a b c:List S94}(h:Fore a b)(k:Fore b c)(hl:a.length≤b.length):Fore a c:=fun q hq=>(k q (by omega)).trans (h q hq)
theorem Fore.add (its:List S94)(t:S94):Fore its (its++[t]):=fun q hq=>by rw[Zid,if_neg (by omega)]
structure NdE (w0:W0)(W:World)(gb:Nat)(h0 h1 vs v:Value)(its:List S94)(x:Sx)(s':St)(e:Ending)(w':World):Prop where
 out:∃v1 v2 v' its',e=.returned (.agg #[.bool x.empty,v1,v2])∧Ri w0 w' v1 x.first∧Ri w0 w' v2 x.last∧RS w0 w' gb h0 h1 vs v' its'∧Rel s' its'∧KeptV W w' gb v∧NewOr W v v'∧Fore its its'
def NdC (n:Nat):Prop:=∀(w0:W0) (W:World) (gb:Nat) (h0 h1 vs v:Value) (s:St) (its:List S94) (b:Nat) (p:S76) (vp:Value),RS w0 W gb h0 h1 vs v its→Rel s its→Good s→KB s→Pend b s→Zen n p→Zum n p→s.pl.length+Zcx n p≤90000→Znk w0 p vp →
 Calls Tryz.prog 65 #[.pointer (some ⟨gb,0,none⟩),vp] W (NdE w0 W gb h0 h1 vs v its (Zau n b p s).1 (Zau n b p s).2)
theorem RS.other {w0:W0}{W W':World}{gb:Nat}{h0 h1 vs v:Value}{its:List S94}(h:RS w0 W gb h0 h1 vs v its){br:Nat}{cs:Array Value}(hr:W.heap[br]?=some (.cells cs 132 (0,0)))(hk:Kept W W' (fun k=>k=br))(hb:Below w0.heap.size w0 W'):RS w0 W' gb h0 h1 vs v its:=by
 have ks:Same3 W W':=fun k cells hc=>hk.2 k (Zbj hc) (fun he=>by subst he;rw[hr]at hc;injection hc with hc;injection hc with _ hc;exact absurd hc (by decide))
 obtain⟨inner,ho,hre⟩:=h.row;refine⟨h.ge,?_,⟨inner,Zek ho (fun k hk'=>hk.2 k (Zgg ho k hk') (fun he=>by subst he;obtain⟨cells,hc⟩:=Zbs ho _ hk';rw[hr]at hc;injection hc with hc;injection hc with _ hc;exact absurd hc (by decide))),hre.imp_ (fun _ _ hp=>hp.same ks)⟩,hb,fun k hk'=>h.new k (Nat.le_trans hk.1 hk')⟩;exact (hk.2 gb (Zbj h.blk) (fun he=>by subst he;have h2:=h.blk;rw[hr]at h2;injection h2 with hc;injection hc with _ hc;exact absurd hc (by decide))).trans h.blk
abbrev Zck:Array Value:=#[.bool false,.slice none 0 0,.slice none 0 0]
structure FrN (W X:World)(bp br:Nat)(pc:Array Value):Prop where
 p:X.heap[bp]?=some (.cells pc 76 (0,0))
 r:X.heap[br]?=some (.cells Zck 132 (0,0))
 lo:W.heap.size≤br
 sz:W.heap.size≤X.heap.size
theorem FrN.first (W:World)(pc:Array Value):FrN W ((W.alloc (.cells pc 76)).alloc (.cells Zck 132)) W.heap.size (W.heap.size+1) pc:=by
 refine⟨Zan (Zaq W _) _,?_,by omega,by simp;omega⟩;have:=Zaq (W.alloc (.cells pc 76)) (.cells Zck 132);simpa using this
theorem FrN.below {W X X':World}{bp br:Nat}{pc:Array Value}(h:FrN W X bp br pc)(hb:Below X.heap.size X X'):FrN W X' bp br pc:=⟨Zag h.p hb,Zag h.r hb,h.lo,Nat.le_trans h.sz hb.size⟩
theorem FrN.kept {W X X':World}{bp br:Nat}{pc:Array Value}(h:FrN W X bp br pc){w0:W0}{gb:Nat}{h0 h1 vs v:Value}{its:List S94}(hv:RS w0 X gb h0 h1 vs v its)(hk:KeptV X X' gb v):FrN W X' bp br pc:=
 ⟨hv.keep hk h.p (by decide) (by decide),hv.keep hk h.r (by decide) (by decide),h.lo,Nat.le_trans h.sz hk.1⟩
structure ClN (X:World)(bp br:Nat)(pc:Array Value):Prop where
 p:∀i u,pc[i]?=some u→X.cell? ⟨bp,i,none⟩=some u
 p2:∀i u,pc[i]?=some u→∀o o',((X.alloc o).alloc o').cell? ⟨bp,i,none⟩=some u
 r:∀i u,Zck[i]?=some u→X.cell? ⟨br,i,none⟩=some u
 r2:∀i u,Zck[i]?=some u→∀o o',((X.alloc o).alloc o').cell? ⟨br,i,none⟩=some u
 f:∀i,X.frozen? ⟨br,i,none⟩=false
 f2:∀i o o',((X.alloc o).alloc o').frozen? ⟨br,i,none⟩=false
theorem FrN.cl {W X:World}{bp br:Nat}{pc:Array Value}(h:FrN W X bp br pc):ClN X bp br pc:=
 ⟨fun i _ hu=>(Zac h.p i).trans hu,fun i _ hu o o'=>(Zac (Zan (Zan h.p o) o') i).trans hu,fun i _ hu=>(Zac h.r i).trans hu,fun i _ hu o o'=>(Zac (Zan (Zan h.r o) o') i).trans hu,
  fun i=>Zat h.r i,fun i o o'=>Zat (Zan (Zan h.r o) o') i⟩
def Zji (Y:World)(br:Nat)(d0 d1 d2:Value):World:=((Y.setCell ⟨br,0,none⟩ d0).setCell ⟨br,1,none⟩ d1).setCell ⟨br,2,none⟩ d2
theorem Zdc {Y:World}{br:Nat}{a0 a1 a2:Value}(h:Y.heap[br]?=some (.cells #[a0,a1,a2] 132 (0,0)))(d0 d1 d2:Value):(Zji Y br d0 d1 d2).heap[br]?=some (.cells #[d0,d1,d2] 132 (0,0)):=by
 unfold Zji;refine Zcd (cs:=#[d0,d1,a2]) ?_ 2 _ rfl
 refine Zcd (cs:=#[d0,a1,a2]) ?_ 1 _ rfl
 exact Zcd (cs:=#[a0,a1,a2]) h 0 _ rfl
theorem Ztb (Y:World)(br:Nat)(d0 d1 d2:Value):Kept Y (Zji Y br d0 d1 d2) (fun k=>k=br):=by
 refine⟨by simp[Zji,World.setCell],fun i _ hn=>?_⟩;unfold Zji
 iterate 3 rw[Below.heap_setCell _ _ _ i (fun he=>hn he)]
theorem Zqw {w0:W0}{Y:World}{br:Nat}(h:Below w0.heap.size w0 Y)(hb:w0.heap.size≤br)(d0 d1 d2:Value):Below w0.heap.size w0 (Zji Y br d0 d1 d2):=by
 unfold Zji
 iterate 3 refine Below.setCell ?_ hb _
 exact h
theorem Zko {W W':World}{br:Nat}{cs:Array Value}(hr:W.heap[br]?=some (.cells cs 132 (0,0)))(hk:Kept W W' (fun k=>k=br)):Same3 W W':=
 fun k cells hc=>hk.2 k (Zbj hc) (fun he=>by subst he;rw[hr]at hc;injection hc with hc;injection hc with _ hc;exact absurd hc (by decide))
theorem Zfe {w0:W0}{W Y:World}{gb:Nat}{h0 h1 vs v v':Value}{its its':List S94}{s':St}{x:Sx}{bp br:Nat}{pc:Array Value}{c1 c2:Value}(hv:RS w0 W gb h0 h1 vs v its)
 (hf:FrN W Y bp br pc) (hy:RS w0 Y gb h0 h1 vs v' its') (hk:KeptV W Y gb v) (hn:NewOr W v v') (r1:Ri w0 Y c1 x.first) (r2:Ri w0 Y c2 x.last) (hr:Rel s' its') (hfo:Fore its its') :
 NdE w0 W gb h0 h1 vs v its x s' (.returned (.agg #[.bool x.empty,c1,c2])) (Zji Y br (.bool x.empty) c1 c2):=by
 have hp:=Ztb Y br (.bool x.empty) c1 c2;have h3:=Zko hf.r hp;have hlo:=hf.lo;exact⟨c1,c2,v',its',rfl,r1.same h3,r2.same h3,hy.other hf.r hp (Zqw hy.bel (Nat.le_trans hv.bel.size hlo) _ _ _),hr,hk.then_ hp (fun k hk'=>.inr (by rw[hk'];exact hlo)),hn,hfo⟩
set_option maxHeartbeats 4000000 in
theorem node_empty (w0:W0)(W:World)(gb:Nat)(h0 h1 vs v:Value)(s:St)(its:List S94)(p:S76)(vp:Value)(h:RS w0 W gb h0 h1 vs v its)(hr:Rel s its)(hp:Znk w0 p vp)(hk:p.f0=1) :
 Calls Tryz.prog 65 #[.pointer (some ⟨gb,0,none⟩),vp] W (NdE w0 W gb h0 h1 vs v its ⟨[],[],true⟩ s):=by
 obtain⟨A1,c1,A2,c2,A3,c3,rfl,l1,g1,l2,g2,l3,g3⟩:=hp;rw[hk];have HV:=Zaa.mk h;have HR:=Zaa.mk hr;clear h hr g1 g2 g3
 go_enter Tryz.func65,Tryz.ntmps65
 go_upto_region 1 with (fail)
 have HFR:=Zaa.mk (FrN.first W #[.int .i64 1,.slice A1 p.f1.length c1,.slice A2 p.f2.length c2,.slice A3 p.f3.length c3]);have HVX:=Zaa.mk (HV.out.below (Zae (Zae (Below.refl _ W) (.cells #[.int .i64 1,.slice A1 p.f1.length c1,.slice A2 p.f2.length c2,.slice A3 p.f3.length c3] 76)) (.cells Zck 132)));have HKX:=Zaa.mk (KeptV.of_below (Zae (Zae (Below.refl _ W) (.cells #[.int .i64 1,.slice A1 p.f1.length c1,.slice A2 p.f2.length c2,.slice A3 p.f3.length c3] 76)) (.cells Zck 132)) gb v);generalize (W.alloc (.cells #[.int .i64 1,.slice A1 p.f1.length c1,.slice A2 p.f2.length c2,.slice A3 p.f3.length c3] 76)).alloc (.cells Zck 132)=X at *;generalize W.heap.size+1=br at *;generalize W.heap.size=bp at *;have p0:=HFR.out.cl.p 0 _ rfl;have r0:=HFR.out.cl.r 0 _ rfl;have r1:=HFR.out.cl.r 1 _ rfl;have r2:=HFR.out.cl.r 2 _ rfl;have rf:=HFR.out.cl.f;go_wp2
 refine bodyPost_ret (results_cell_row rfl _ _ br 132 #[.bool true,.slice none 0 0,.slice none 0 0] (0,0) _ rfl (Zdc HFR.out.r _ _ _) Tryz.underlying132 rfl (by kernel_rfl)) rfl ?_
 exact Zfe (x:=⟨[],[],true⟩) HV.out HFR.out HVX.out HKX.out (NewOr.refl _ _) (Kd.R_nil _ _ _ _ _) (Kd.R_nil _ _ _ _ _) HR.out (Fore.refl _)
def Zgt (p:S76):S94:=⟨3,p,[],false,0,-1,0,-1⟩
theorem Zpl {s:St}{b:Nat}(hb:Pend b s)(p:S76):ItOk s s.pl.length (Zax b p) (Zgt p):=
 ⟨rfl,rfl,rfl,fun _=>rfl,fun _ _=>rfl,(fun b' h y hy=>by have e:some b=some b':=h;injection e with e;subst e;exact absurd hy (hb.2 y)),fun _ _=>rfl,(fun h=>by have h:(3:Int)=1:=h;omega)⟩
theorem Ziv (w0:W0)(W:World)(p:S76){A1 A2 A3:Option Addr}{c1 c2 c3:Nat}(l1:p.f1.length≤c1)(g1:Kd.string.C w0 A1 p.f1.length p.f1)(l2:p.f2.length≤c2)(g2:Kd.string.C w0 A2 p.f2.length p.f2)(l3:p.f3.length≤c3)(g3:k76.C w0 A3 p.f3.length p.f3) :
 ItS w0 W (Zgt p) [.int .i64 3,.int .i64 p.f0,.slice A1 p.f1.length c1,.slice A2 p.f2.length c2,.slice A3 p.f3.length c3,.slice none 0 0,.bool false,.int .i64 0,.int .i64 (-1),.int .i64 0,.int .i64 (-1)]:=
 ⟨A1,c1,A2,c2,A3,c3,.slice none 0 0,rfl,l1,g1,l2,g2,l3,g3,Kd.R_nil _ _ _ _ _⟩
theorem Zgq {w0:W0}{W Y:World}{gb:Nat}{h0 h1 vs v v':Value}{its its':List S94}{s':St}{bp br:Nat}{pc:Array Value}{k:Int}{e:Bool}(hv:RS w0 W gb h0 h1 vs v its)
 (hf:FrN W Y bp br pc) (hy:RS w0 Y gb h0 h1 vs v' its') (hk:KeptV W Y gb v) (hn:NewOr W v v') (hr:Rel s' its') (hfo:Fore its its') (g1 g2:Nat) (e1:g1=Y.heap.size) (e2:g2=Y.heap.size+1) :
 NdE w0 W gb h0 h1 vs v its ⟨[k],[k],e⟩ s' (.returned (.agg #[.bool e,.slice (some ⟨g1,0,none⟩) 1 1,.slice (some ⟨g2,0,none⟩) 1 1]))
  (Zji ((Y.alloc (.cells #[.int .i64 k] 3)).alloc (.cells #[.int .i64 k] 3)) br (.bool e) (.slice (some ⟨g1,0,none⟩) 1 1) (.slice (some ⟨g2,0,none⟩) 1 1)):=by
 have b1:=Zae (Below.refl Y.heap.size Y) (.cells #[.int .i64 k] 3);have b2:=Zae (Below.refl (Y.alloc (.cells #[.int .i64 k] 3)).heap.size (Y.alloc (.cells #[.int .i64 k] 3))) (.cells #[.int .i64 k] 3);have b3:=Zaf b1 b2;exact Zfe (x:=⟨[k],[k],e⟩) hv (hf.below b3) (hy.below b3) (hk.trans (KeptV.of_below b3 gb v) (NewOr.refl _ _)) hn (Zap (Zlr hy.bel.size hy.new k g1 e1) b2) (Zlr (by have h9:w0.heap.size≤Y.heap.size:=hy.bel.size;simp;omega) (fun j hj=>hy.new j (by simp at hj;omega)) k g2 (by simp[e2])) hr hfo
set_option maxHeartbeats 4000000 in
theorem node_tok (w0:W0)(W:World)(gb:Nat)(h0 h1 vs v:Value)(s:St)(its:List S94)(b:Nat)(p:S76)(vp:Value)(h:RS w0 W gb h0 h1 vs v its)(hr:Rel s its)(hb:Pend b s)(hn:s.pl.length≤90000)(hp:Znk w0 p vp)(hk:p.f0=2) :
 Calls Tryz.prog 65 #[.pointer (some ⟨gb,0,none⟩),vp] W (NdE w0 W gb h0 h1 vs v its ⟨[(s.pl.length:Int)],[(s.pl.length:Int)],false⟩ (s.add (Zax b p))):=by
 obtain⟨A1,c1,A2,c2,A3,c3,rfl,l1,g1,l2,g2,l3,g3⟩:=hp;rw[hk];have HV:=Zaa.mk h;have HR:=Zaa.mk (hr.add (Zpl hb p));have HLN:=Zaa.mk hr.len;have HP:Zaa (∀W',ItS w0 W' (Zgt p) [.int .i64 3,.int .i64 2,.slice A1 p.f1.length c1,.slice A2 p.f2.length c2,.slice A3 p.f3.length c3,.slice none 0 0,.bool false,.int .i64 0,.int .i64 (-1),.int .i64 0,.int .i64 (-1)]):=
  ⟨fun W'=>by rw[←hk];exact Ziv w0 W' p l1 g1 l2 g2 l3 g3⟩
 obtain⟨A,c,rfl,lc⟩:=h.row.slice_;rw[←hr.len]at hn ⊢;have HL:=Zaa.mk hn;clear h hr hb g1 g2 g3 hn hk
 go_enter Tryz.func65,Tryz.ntmps65
 go_upto_region 1 with (fail)
 have HFR:=Zaa.mk (FrN.first W #[.int .i64 2,.slice A1 p.f1.length c1,.slice A2 p.f2.length c2,.slice A3 p.f3.length c3]);have HVX:=Zaa.mk (HV.out.below (Zae (Zae (Below.refl _ W) (.cells #[.int .i64 2,.slice A1 p.f1.length c1,.slice A2 p.f2.length c2,.slice A3 p.f3.length c3] 76)) (.cells Zck 132)));have HKX:=Zaa.mk (KeptV.of_below (Zae (Zae (Below.refl _ W) (.cells #[.int .i64 2,.slice A1 p.f1.length c1,.slice A2 p.f2.length c2,.slice A3 p.f3.length c3] 76)) (.cells Zck 132)) gb (.slice A its.length c));generalize (W.alloc (.cells #[.int .i64 2,.slice A1 p.f1.length c1,.slice A2 p.f2.length c2,.slice A3 p.f3.length c3] 76)).alloc (.cells Zck 132)=X at *;generalize W.heap.size+1=br at *;generalize W.heap.size=bp at *;have p0:=HFR.out.cl.p 0 _ rfl;have p1:=HFR.out.cl.p 1 _ rfl;have p2:=HFR.out.cl.p 2 _ rfl;have p3:=HFR.out.cl.p 3 _ rfl;have y2:=HVX.out.cell2
 go_upto_region 8 with (fail)
 have hq2:∀o,((X.drewN 1).alloc o).cell? ⟨gb,2,none⟩=some (.slice A its.length c):=fun o=>(Zac (Zan HVX.out.blk o) 2).trans rfl
 have HBY:=Zaa.mk (HVX.out.below (Zah (Below.refl _ X) 1));refine Zdb ?_
 go_region_law (first | (refine Zna rfl (.tmp 31) (.tmp 34) rfl HBY.out (Zgt p) _ (HP.out _) _ rfl rfl ?hg (by have:=HL.out;omega) ?_;(case hg=>simp);intro v7 w7 ho7 hb7 hg7 hat7;obtain⟨A7,c7,hv7,_⟩:=ho7.slice_;rw[List.length_append,List.length_singleton]at hv7;subst hv7;have ⟨hf7,hc7⟩:=HBY.out.grown2 hg7;have HPUT:=Zaa.mk (HBY.out.put ho7 hb7 hg7);have HA7:=Zaa.mk hat7;clear ho7 hb7 hg7 hat7) | fail)
 all_goals (
  have HXY:=Zaa.mk ((KeptV.of_below (Zah (Below.refl _ X) 1) gb (.slice A its.length c)).trans HPUT.out.2 (NewOr.refl _ _));have HN7:Zaa (NewOr W (.slice A its.length c) (.slice A7 (its.length+1) c7)):=⟨HA7.out.elim .inl (fun⟨g,h1,h2⟩=>.inr ⟨g,h1,Nat.le_trans HKX.out.1 (Nat.le_trans (Zah (Below.refl X.heap.size X) 1).size h2)⟩)⟩
  have HV7:=Zaa.mk HPUT.out.1;generalize w7.setCell ⟨gb,2,none⟩ (.slice A7 (its.length+1) c7)=Y at *;have HFY:=Zaa.mk (HFR.out.kept HVX.out HXY.out);have p0:=HFY.out.cl.p 0 _ rfl;have p0a:=HFY.out.cl.p2 0 _ rfl;have r0:=HFY.out.cl.r2 0 _ rfl;have r1:=HFY.out.cl.r2 1 _ rfl;have r2:=HFY.out.cl.r2 2 _ rfl;have rf:=HFY.out.cl.f2;clear hf7 hc7 p1 p2 p3 y2 hq2;go_wp2
  refine bodyPost_ret (results_cell_row rfl _ _ br 132 #[.bool false,.slice (some ⟨Y.heap.size,0,none⟩) 1 1,.slice (some ⟨Y.heap.size+1,0,none⟩) 1 1] (0,0) _ rfl (Zdc (Zan (Zan HFY.out.r _) _) _ _ _) Tryz.underlying132 rfl (by kernel_rfl)) rfl ?_
  exact Zgq HV.out HFY.out HV7.out (HKX.out.trans HXY.out (NewOr.refl _ _)) HN7.out HR.out (Fore.add _ _) _ _ rfl rfl)
theorem both_one (z:Int):Zay [] [z]=[z]:=Zlq _ _ (Zfw _ _) (List.pairwise_singleton _ _) (fun x=>by rw[Zbp];simp)
theorem rel_well {s:St}{its:List S94}{b:Nat}{p:S76}(hr:Rel s its)(hb:Pend b s)(hk:p.f0=4) :
 Rel (Zde b p s) ((its++[Zgt p]).set its.length { (its++[Zgt p]).getD its.length z94 with f2:=[(its.length:Int)] }):=by
 have h1:=hr.add (Zpl hb p);have h2:=h1.link (frm:=[(s.pl.length:Int)]) (tt:=[(s.pl.length:Int)]) (fun z hz=>by
  rw[List.mem_singleton.1 hz,Int.toNat_natCast];show ((s.pl++[Zax b p]).getD s.pl.length zPl).kind=3;rw[Zcg,if_pos rfl]
  rfl)
 unfold Zde;rw[if_pos hk];have e:linkIL (its++[Zgt p]) [(s.pl.length:Int)] [(s.pl.length:Int)]=(its++[Zgt p]).set its.length { (its++[Zgt p]).getD its.length z94 with f2:=[(its.length:Int)] }:=by
  show Zdt (its++[Zgt p]) [(s.pl.length:Int)] (rd [(s.pl.length:Int)] 0).toNat=_;have e1:(rd [(s.pl.length:Int)] 0).toNat=its.length:=by
   show (s.pl.length:Int).toNat=_;rw[Int.toNat_natCast,hr.len]
  rw[e1,←hr.len];unfold Zdt;have e2:((its++[Zgt p]).getD its.length z94).f2=[]:=by rw[Zid,if_pos rfl];rfl
  rw[e2,both_one]
 rw[←e];exact h2
theorem Fore.set {its its1:List S94}(h:Fore its its1)(k:Nat)(hk:its.length≤k)(y:S94):Fore its (its1.set k y):=fun q hq=>by
 rw[Zdr,if_neg (by omega)];exact h q hq
set_option maxHeartbeats 4000000 in
theorem node_well (w0:W0)(W:World)(gb:Nat)(h0 h1 vs v:Value)(s:St)(its:List S94)(b:Nat)(p:S76)(vp:Value)(h:RS w0 W gb h0 h1 vs v its)(hr:Rel s its)(hb:Pend b s)(hn:s.pl.length≤90000)(hp:Znk w0 p vp)(hk:p.f0=4) :
 Calls Tryz.prog 65 #[.pointer (some ⟨gb,0,none⟩),vp] W (NdE w0 W gb h0 h1 vs v its ⟨[(s.pl.length:Int)],[(s.pl.length:Int)],true⟩ (Zde b p s)):=by
 obtain⟨A1,c1,A2,c2,A3,c3,rfl,l1,g1,l2,g2,l3,g3⟩:=hp;rw[hk];have HV:=Zaa.mk h;have HR:=Zaa.mk (rel_well hr hb hk);have HLN:=Zaa.mk hr.len;have HP:Zaa (∀W',ItS w0 W' (Zgt p) [.int .i64 3,.int .i64 4,.slice A1 p.f1.length c1,.slice A2 p.f2.length c2,.slice A3 p.f3.length c3,.slice none 0 0,.bool false,.int .i64 0,.int .i64 (-1),.int .i64 0,.int .i64 (-1)]):=
  ⟨fun W'=>by rw[←hk];exact Ziv w0 W' p l1 g1 l2 g2 l3 g3⟩
 obtain⟨A,c,rfl,lc⟩:=h.row.slice_;rw[←hr.len]at hn ⊢;have HL:=Zaa.mk hn;clear h hr hb g1 g2 g3 hn hk
 go_enter Tryz.func65,Tryz.ntmps65
 go_upto_region 1 with (fail)
 have HFR:=Zaa.mk (FrN.first W #[.int .i64 4,.slice A1 p.f1.length c1,.slice A2 p.f2.length c2,.slice A3 p.f3.length c3]);have HVX:=Zaa.mk (HV.out.below (Zae (Zae (Below.refl _ W) (.cells #[.int .i64 4,.slice A1 p.f1.length c1,.slice A2 p.f2.length c2,.slice A3 p.f3.length c3] 76)) (.cells Zck 132)));have HKX:=Zaa.mk (KeptV.of_below (Zae (Zae (Below.refl _ W) (.cells #[.int .i64 4,.slice A1 p.f1.length c1,.slice A2 p.f2.length c2,.slice A3 p.f3.length c3] 76)) (.cells Zck 132)) gb (.slice A its.length c));generalize (W.alloc (.cells #[.int .i64 4,.slice A1 p.f1.length c1,.slice A2 p.f2.length c2,.slice A3 p.f3.length c3] 76)).alloc (.cells Zck 132)=X at *;generalize W.heap.size+1=br at *;generalize W.heap.size=bp at *;have p0:=HFR.out.cl.p 0 _ rfl;have p1:=HFR.out.cl.p 1 _ rfl;have p2:=HFR.out.cl.p 2 _ rfl;have p3:=HFR.out.cl.p 3 _ rfl;have y2:=HVX.out.cell2
 go_upto_region 8 with (fail)
 have hq2:∀o,((X.drewN 1).alloc o).cell? ⟨gb,2,none⟩=some (.slice A its.length c):=fun o=>(Zac (Zan HVX.out.blk o) 2).trans rfl
 have HBY:=Zaa.mk (HVX.out.below (Zah (Below.refl _ X) 1));refine Zdb ?_
 go_region_law (first | (refine Zna rfl (.tmp 31) (.tmp 34) rfl HBY.out (Zgt p) _ (HP.out _) _ rfl rfl ?hg (by have:=HL.out;omega) ?_;(case hg=>simp);intro v7 w7 ho7 hb7 hg7 hat7;obtain⟨A7,c7,hv7,_⟩:=ho7.slice_;rw[List.length_append,List.length_singleton]at hv7;subst hv7;have ⟨hf7,hc7⟩:=HBY.out.grown2 hg7;have HPUT:=Zaa.mk (HBY.out.put ho7 hb7 hg7);have HA7:=Zaa.mk hat7;clear ho7 hb7 hg7 hat7) | fail)
 all_goals (
  have HXY:=Zaa.mk ((KeptV.of_below (Zah (Below.refl _ X) 1) gb (.slice A its.length c)).trans HPUT.out.2 (NewOr.refl _ _));have HN7:Zaa (NewOr W (.slice A its.length c) (.slice A7 (its.length+1) c7)):=⟨HA7.out.elim .inl (fun⟨g,h1,h2⟩=>.inr ⟨g,h1,Nat.le_trans HKX.out.1 (Nat.le_trans (Zah (Below.refl X.heap.size X) 1).size h2)⟩)⟩
  have HV7:=Zaa.mk HPUT.out.1;generalize w7.setCell ⟨gb,2,none⟩ (.slice A7 (its.length+1) c7)=Y at *;have HFY:=Zaa.mk (HFR.out.kept HVX.out HXY.out);have p0:=HFY.out.cl.p 0 _ rfl;clear hf7 hc7 p1 p2 p3 y2 hq2
  go_upto_region 10 with (fail)
  obtain⟨ad,cs,rfl,hps,hcell,hfz⟩:=HV7.out.at_ (A:=A7) (c:=c7) (by simp) its.length (by simp);obtain⟨B1,d1,B2,d2,B3,d3,v4,rfl,_,_,_,_,_,_,r4⟩:=hps;obtain⟨B4,d4,rfl,_,_⟩:=r4.C;have y5:=hcell 5 _ rfl;have y2:=HV7.out.cell2;have BZ:=Zaa.mk (Zae (Below.refl Y.heap.size Y) (.cells #[.int .i64 (its.length:Int)] 3));have y2a:∀o,(Y.alloc o).cell? ⟨gb,2,none⟩=some (.slice (some ad) (its.length+1) c7):=fun o=>(Zac (Zan HV7.out.blk o) 2).trans rfl
  have f5a:=RS.froz (HV7.out.below BZ.out) (n:=its.length+1) (A:=some ad) (c:=c7) rfl rfl (its.length*11) 5;have hRI:Zaa (Ri w0 (Y.alloc (.cells #[.int .i64 (its.length:Int)] 3)) (.slice (some ⟨Y.heap.size,0,none⟩) 1 1) [(its.length:Int)]):=⟨Zlr HV7.out.bel.size HV7.out.new _ _ rfl⟩
  have HST:=Zaa.mk ((HV7.out.below BZ.out).setAt (A:=some ad) (c:=c7) (by simp) rfl its.length (by simp) 5 (by omega) (.slice (some ⟨Y.heap.size,0,none⟩) 1 1) { (its++[Zgt p]).getD its.length z94 with f2:=[(its.length:Int)] } (fun c hc hp=>hp.setNext hRI.out));have y5a:=Zab BZ.out y5;clear hcell y5;have hlt:(its.length:Int)<((its.length+1:Nat):Int):=by omega
  clear hfz
  go_upto_region 11 with (fail)
  have HFZ:=Zaa.mk ((HFY.out.below BZ.out).kept (HV7.out.below BZ.out) HST.out.2);have HKZ:=Zaa.mk ((HKX.out.trans HXY.out (NewOr.refl _ _)).trans (v1:=.slice (some ad) (its.length+1) c7) ((KeptV.of_below BZ.out gb (.slice (some ad) (its.length+1) c7)).trans HST.out.2 (NewOr.refl _ _)) HN7.out);have HVZ:=Zaa.mk HST.out.1;generalize (Y.alloc (.cells #[.int .i64 (its.length:Int)] 3)).setCell ⟨(ad.add (its.length*11)).block,(ad.add (its.length*11)).off+5,none⟩ (.slice (some ⟨Y.heap.size,0,none⟩) 1 1)=Z at *;have p0:=HFZ.out.cl.p 0 _ rfl;have p0a:=HFZ.out.cl.p2 0 _ rfl;have r0:=HFZ.out.cl.r2 0 _ rfl;have r1:=HFZ.out.cl.r2 1 _ rfl;have r2:=HFZ.out.cl.r2 2 _ rfl;have rf:=HFZ.out.cl.f2;clear y2a f5a hlt y2 y5a;go_wp2
  refine bodyPost_ret (results_cell_row rfl _ _ br 132 #[.bool true,.slice (some ⟨Z.heap.size,0,none⟩) 1 1,.slice (some ⟨Z.heap.size+1,0,none⟩) 1 1] (0,0) _ rfl (Zdc (Zan (Zan HFZ.out.r _) _) _ _ _) Tryz.underlying132 rfl (by kernel_rfl)) rfl ?_
  exact Zgq HV.out HFZ.out HVZ.out HKZ.out HN7.out HR.out ((Fore.add _ _).set _ (Nat.le_refl _) _) _ _ rfl rfl)
structure WhE (w0:W0)(W:World)(gb:Nat)(h0 h1 vs v:Value)(its:List S94)(n0:Nat)(s':St)(e:Ending)(w':World):Prop where
 ret:e=.returned (.int .i64 (n0:Int))
 out:∃v' its',RS w0 w' gb h0 h1 vs v' its'∧Rel s' its'∧KeptV W w' gb v∧NewOr W v v'∧Fore its its'
def WhC (n:Nat):Prop:=∀(w0:W0) (W:World) (gb:Nat) (h0 h1 vs v:Value) (s:St) (its:List S94) (p:S76) (vp:Value) (rule step owner:Int),RS w0 W gb h0 h1 vs v its→Rel s its→Good s→KB s→Zen n p→Zum n p→s.pl.length+1+Zcx n p≤90000→Znk w0 p vp→owner=Zez s.pl.length rule →
 Calls Tryz.prog 34 #[.pointer (some ⟨gb,0,none⟩),vp,.int .i64 rule,.int .i64 step,.int .i64 owner] W (WhE w0 W gb h0 h1 vs v its s.pl.length (Zgn (Zau n) p rule step s))
set_option maxHeartbeats 4000000 in
theorem node_in (n:Nat)(hwc:WhC n)(hwg:Znd n)(w0:W0)(W:World)(gb:Nat)(h0 h1 vs v:Value)(s:St)(its:List S94)(b:Nat)(p:S76)(vp:Value)(h:RS w0 W gb h0 h1 vs v its)(hr:Rel s its)(hb:Pend b s)(hn:s.pl.length≤90000)(hp:Znk w0 p vp)(hk:p.f0=3)(hg:Good s)(hkb:KB s)(hc1:1≤p.f3.length)(hok:Zen n (Zaj p.f3 0))(hpk:Zum n (Zaj p.f3 0))(hlen:s.pl.length+2+Zcx n (Zaj p.f3 0)≤90000) :
 Calls Tryz.prog 65 #[.pointer (some ⟨gb,0,none⟩),vp] W (NdE w0 W gb h0 h1 vs v its ⟨[(s.pl.length:Int)],[(s.pl.length:Int)],false⟩ ((Zgn (Zau n) (Zaj p.f3 0) (-1) (-1) (s.add (Zax b p))).inner s.pl.length (s.pl.length+1))):=by
 obtain⟨A1,c1,A2,c2,A3,c3,rfl,l1,g1,l2,g2,l3,g3⟩:=hp;rw[hk];have HV:=Zaa.mk h;have HLN:=Zaa.mk hr.len;have HP:Zaa (∀W',ItS w0 W' (Zgt p) [.int .i64 3,.int .i64 3,.slice A1 p.f1.length c1,.slice A2 p.f2.length c2,.slice A3 p.f3.length c3,.slice none 0 0,.bool false,.int .i64 0,.int .i64 (-1),.int .i64 0,.int .i64 (-1)]):=
  ⟨fun W'=>by have h9:=Ziv w0 W' p l1 g1 l2 g2 l3 g3;rw[hk]at h9;exact h9⟩
 obtain⟨A,c,rfl,lc⟩:=h.row.slice_;rw[←hr.len]at hn ⊢;have HL:=Zaa.mk hn;have hgood:Good (s.add (Zax b p)):=hg.add _ rfl (fun k hk=>by injection hk with hk;have:=hb.1;omega) (fun k hk=>by cases hk);have hal:(s.add (Zax b p)).pl.length=s.pl.length+1:=by simp[St.add]
 obtain⟨ad,D1,d1,D2,d2,D3,d3,rfl,hq,hcells⟩:=kid0 g3 (by omega);have hpg:=Zhl hwg (Zaj p.f3 0) (-1) (-1) _ hgood;obtain⟨s3,hs3⟩:∃s3,s3=Zgn (Zau n) (Zaj p.f3 0) (-1) (-1) (s.add (Zax b p)):=⟨_,rfl⟩
 obtain⟨bb,hbb⟩:∃bb,bb=s.pl.length+1:=⟨_,rfl⟩
 have HC:Zaa (∀w5 v5,RS w0 w5 gb h0 h1 vs v5 (its++[Zgt p])→Calls Tryz.prog 34 #[.pointer (some ⟨gb,0,none⟩),.agg #[.int .i64 (Zaj p.f3 0).f0,.slice D1 (Zaj p.f3 0).f1.length d1,.slice D2 (Zaj p.f3 0).f2.length d2,.slice D3 (Zaj p.f3 0).f3.length d3],.int .i64 (-1),.int .i64 (-1),.int .i64 (its.length:Int)] w5 (WhE w0 w5 gb h0 h1 vs v5 (its++[Zgt p]) bb s3)):=⟨fun w5 v5 hv5=>by
  have h9:=hwc w0 w5 gb h0 h1 vs v5 (s.add (Zax b p)) (its++[Zgt p]) (Zaj p.f3 0) _ (-1) (-1) (its.length:Int) hv5 (hr.add (Zpl hb p)) hgood (hkb.add (x:=Zax b p) (fun hk=>by have hk:(3:Int)=2:=hk;omega)) hok hpk (by omega) hq (by
   unfold Zez;rw[if_pos (by decide),hal,hr.len];omega)
  rw[hal]at h9;rw[hs3,hbb];exact h9⟩
 rw[←hs3,show its.length+1=bb from by rw[hbb,hr.len]];rw[←hs3]at hpg;have hl3:s3.pl.length=s.pl.length+2+Zcx n (Zaj p.f3 0):=by rw[hpg.2,hal]
 have HCE:=Zaa.mk hcells;clear hbb hs3 h hr hb hg hkb g1 g2 g3 hn hk hgood hwg hq hok hpg hcells hpk hwc;generalize Zaj p.f3 0=q at *
 go_enter Tryz.func65,Tryz.ntmps65
 go_upto_region 1 with (fail)
 have HFR:=Zaa.mk (FrN.first W #[.int .i64 3,.slice A1 p.f1.length c1,.slice A2 p.f2.length c2,.slice (some ad) p.f3.length c3]);have HVX:=Zaa.mk (HV.out.below (Zae (Zae (Below.refl _ W) (.cells #[.int .i64 3,.slice A1 p.f1.length c1,.slice A2 p.f2.length c2,.slice (some ad) p.f3.length c3] 76)) (.cells Zck 132)));have HKX:=Zaa.mk (KeptV.of_below (Zae (Zae (Below.refl _ W) (.cells #[.int .i64 3,.slice A1 p.f1.length c1,.slice A2 p.f2.length c2,.slice (some ad) p.f3.length c3] 76)) (.cells Zck 132)) gb (.slice A its.length c));generalize (W.alloc (.cells #[.int .i64 3,.slice A1 p.f1.length c1,.slice A2 p.f2.length c2,.slice (some ad) p.f3.length c3] 76)).alloc (.cells Zck 132)=X at *;generalize W.heap.size+1=br at *;generalize W.heap.size=bp at *;have p0:=HFR.out.cl.p 0 _ rfl;have p1:=HFR.out.cl.p 1 _ rfl;have p2:=HFR.out.cl.p 2 _ rfl;have p3:=HFR.out.cl.p 3 _ rfl;have y2:=HVX.out.cell2
 go_upto_region 8 with (fail)
 have hq2:∀o,((X.drewN 1).alloc o).cell? ⟨gb,2,none⟩=some (.slice A its.length c):=fun o=>(Zac (Zan HVX.out.blk o) 2).trans rfl
 have HBY:=Zaa.mk (HVX.out.below (Zah (Below.refl _ X) 1));refine Zdb ?_
 go_region_law (first | (refine Zna rfl (.tmp 31) (.tmp 34) rfl HBY.out (Zgt p) _ (HP.out _) _ rfl rfl ?hg (by have:=HL.out;omega) ?_;(case hg=>simp);intro v7 w7 ho7 hb7 hg7 hat7;obtain⟨A7,c7,hv7,_⟩:=ho7.slice_;rw[List.length_append,List.length_singleton]at hv7;subst hv7;have ⟨hf7,hc7⟩:=HBY.out.grown2 hg7;have HPUT:=Zaa.mk (HBY.out.put ho7 hb7 hg7);have HA7:=Zaa.mk hat7;clear ho7 hb7 hg7 hat7) | fail)
 all_goals (
  have HXY:=Zaa.mk ((KeptV.of_below (Zah (Below.refl _ X) 1) gb (.slice A its.length c)).trans HPUT.out.2 (NewOr.refl _ _));have HN7:Zaa (NewOr W (.slice A its.length c) (.slice A7 (its.length+1) c7)):=⟨HA7.out.elim .inl (fun⟨g,h1,h2⟩=>.inr ⟨g,h1,Nat.le_trans HKX.out.1 (Nat.le_trans (Zah (Below.refl X.heap.size X) 1).size h2)⟩)⟩
  have HV7:=Zaa.mk HPUT.out.1;generalize w7.setCell ⟨gb,2,none⟩ (.slice A7 (its.length+1) c7)=Y at *;have HFY:=Zaa.mk (HFR.out.kept HVX.out HXY.out);have p0:=HFY.out.cl.p 0 _ rfl;have p3:=HFY.out.cl.p 3 _ rfl;clear hf7 hc7 p1 p2 y2 hq2;obtain⟨q0,q1,q2,q3⟩:=HCE.out Y HV7.out.bel;have hl0:(0:Int)<(p.f3.length:Int):=by omega
  go_upto_region 13 with (go_at_call 34;(with_reducible refine (HC.out _ _ HV7.out).mono ?_);rintro e w6 ⟨rfl,v6,its6,hv6,hr6,hk6,hn6,hfo6⟩;have HV6:=Zaa.mk hv6;have HR6:=Zaa.mk hr6;have HK6:=Zaa.mk hk6;have HN6:=Zaa.mk hn6;have HFO6:=Zaa.mk hfo6;clear hv6 hr6 hk6 hn6 hfo6)
  obtain⟨A6,c6,rfl,_⟩:=HV6.out.row.slice_;have hl6:=HR6.out.len;have hlt:its.length<its6.length:=by have:=HLN.out;omega
  obtain⟨ae,cs,rfl,hps,hcell,hfz⟩:=HV6.out.at_ (A:=A6) (c:=c6) rfl its.length hlt;obtain⟨E1,e1,E2,e2,E3,e3,u4,rfl,_⟩:=hps;have y7:=hcell 7 _ rfl;have y2:=HV6.out.cell2;have HST:=Zaa.mk (HV6.out.setAt (A:=some ae) (c:=c6) rfl rfl its.length hlt 7 (by omega) (.int .i64 (bb:Int)) { its6.getD its.length z94 with f4:=(bb:Int) } (fun c hc hp=>hp.setInner _));have hlt2:(its.length:Int)<(its6.length:Int):=by omega
  clear hcell q0 q1 q2 q3 p0 p3
  go_upto_region 14 with (fail)
  have HFZ:=Zaa.mk ((HFY.out.kept HV7.out HK6.out).kept HV6.out HST.out.2);have HKZ:=Zaa.mk ((HKX.out.trans HXY.out (NewOr.refl _ _)).trans (v1:=.slice A7 (its.length+1) c7) (HK6.out.trans HST.out.2 HN6.out) HN7.out);have HNZ:=Zaa.mk (NewOr.trans HN7.out HN6.out (HKX.out.trans HXY.out (NewOr.refl _ _)).1);have HVZ:=Zaa.mk HST.out.1;have HRZ:Zaa (Rel (s3.inner its.length bb) (its6.set its.length { its6.getD its.length z94 with f4:=(bb:Int) })):=⟨HR6.out.inner its.length bb⟩
  generalize w6.setCell ⟨(ae.add (its.length*11)).block,(ae.add (its.length*11)).off+7,none⟩ (.int .i64 (bb:Int))=Z at *;have p0:=HFZ.out.cl.p 0 _ rfl;have p0a:=HFZ.out.cl.p2 0 _ rfl;have r0:=HFZ.out.cl.r2 0 _ rfl;have r1:=HFZ.out.cl.r2 1 _ rfl;have r2:=HFZ.out.cl.r2 2 _ rfl;have rf:=HFZ.out.cl.f2;clear y2 y7 hlt hlt2 hfz;go_wp2
  refine bodyPost_ret (results_cell_row rfl _ _ br 132 #[.bool false,.slice (some ⟨Z.heap.size,0,none⟩) 1 1,.slice (some ⟨Z.heap.size+1,0,none⟩) 1 1] (0,0) _ rfl (Zdc (Zan (Zan HFZ.out.r _) _) _ _ _) Tryz.underlying132 rfl (by kernel_rfl)) rfl ?_
  exact Zgq HV.out HFZ.out HVZ.out HKZ.out HNZ.out HRZ.out (((Fore.add _ _).trans HFO6.out (by simp)).set _ (Nat.le_refl _) _) _ _ rfl rfl)
abbrev Zht (e:Bool)(c1 c2:Value):Array Value:=#[.bool e,c1,c2]
theorem Zhu {w0:W0}{W W':World}{gb:Nat}{h0 h1 vs v:Value}{its:List S94}(h:RS w0 W gb h0 h1 vs v its)(hk:KeptV W W' gb v){g:Nat}{cs:Array Value}(hg:W.heap[g]?=some (.cells cs 132 (0,0))):W'.heap[g]?=some (.cells cs 132 (0,0)):=h.keep hk hg (by decide) (by decide)
theorem OwnW.lstK {b m:Nat}{s:St}{x:Sx}(h:OwnW b m s x):∀z∈x.last,(s.pl.getD z.toNat zPl).kind=3:=fun z hz=>by
 obtain⟨q,rfl,hq⟩:=h.lst z hz;rw[Int.toNat_natCast];exact hq.kind
theorem Fore.link {its its1:List S94}(h:Fore its its1)(frm tt:List Int)(hf:∀z∈frm,(its.length:Int)≤z):∀k,k≤frm.length→Fore its (Zjl its1 tt frm k)
 | 0,_=>h
 | k+1,hk=>(Fore.link h frm tt hf k (by omega)).set _ (by have:=hf _ (Zfv (show k<frm.length by omega));omega) _
theorem OwnW.lstG {b m:Nat}{s:St}{x:Sx}(h:OwnW b m s x):∀z∈x.last,(m:Int)≤z:=fun z hz=>by
 obtain⟨q,rfl,hq⟩:=h.lst z hz;have:=hq.ge;omega
set_option maxHeartbeats 4000000 in
theorem node_star (n:Nat)(hw:NdC n)(hwg:Znd n)(w0:W0)(W:World)(gb:Nat)(h0 h1 vs v:Value)(s:St)(its:List S94)(b:Nat)(p:S76)(vp:Value)(h:RS w0 W gb h0 h1 vs v its)(hr:Rel s its)(hg:Good s)(hkb:KB s)(hb:Pend b s)(hp:Znk w0 p vp)(hk:p.f0=7)
 (hc1:1≤p.f3.length) (hok:Zen n (Zaj p.f3 0)) (hpk:Zum n (Zaj p.f3 0)) (hlen:s.pl.length+Zcx n (Zaj p.f3 0)≤90000) :
 Calls Tryz.prog 65 #[.pointer (some ⟨gb,0,none⟩),vp] W (NdE w0 W gb h0 h1 vs v its ⟨(Zau n b (Zaj p.f3 0) s).1.first,(Zau n b (Zaj p.f3 0) s).1.last,true⟩ ((Zau n b (Zaj p.f3 0) s).2.link (Zau n b (Zaj p.f3 0) s).1.last (Zau n b (Zaj p.f3 0) s).1.first)):=by
 obtain⟨A1,c1,A2,c2,A3,c3,rfl,l1,g1,l2,g2,l3,g3⟩:=hp;rw[hk];have HV:=Zaa.mk h;obtain⟨ad,D1,d1,D2,d2,D3,d3,rfl,hq,hcells⟩:=kid0 g3 (by omega);have hwq:=hwg b (Zaj p.f3 0) s hg hb.1;have hown:=Zfc n b (Zaj p.f3 0) s hb;have hc:=fun W v hv=>hw w0 W gb h0 h1 vs v s its b (Zaj p.f3 0) _ hv hr hg hkb hb hok hpk hlen hq
 generalize (Zau n b (Zaj p.f3 0) s).1=x at *;generalize (Zau n b (Zaj p.f3 0) s).2=s2 at *;obtain⟨hg2,hl2,hr1,hr2⟩:=hwq;have HG2:=Zaa.mk hg2;have HRF:Zaa (Ris s2.pl.length x.first):=⟨by rw[hl2];exact hr1⟩
 have HRL:Zaa (Ris s2.pl.length x.last):=⟨by rw[hl2];exact hr2⟩
 have HOW:=Zaa.mk hown;have HC:=Zaa.mk hc;have HCE:=Zaa.mk hcells;have HLN:=Zaa.mk hr.len;have HL2:Zaa (s2.pl.length≤100000):=⟨by omega⟩
 clear h hr hg hkb hb g1 g2 g3 hw hwg hq hok hpk hc hcells hg2 hr1 hr2 hown hl2;generalize Zaj p.f3 0=q at *
 go_enter Tryz.func65,Tryz.ntmps65
 go_upto_region 1 with (fail)
 have HFR:=Zaa.mk (FrN.first W #[.int .i64 7,.slice A1 p.f1.length c1,.slice A2 p.f2.length c2,.slice (some ad) p.f3.length c3]);have HVX:=Zaa.mk (HV.out.below (Zae (Zae (Below.refl _ W) (.cells #[.int .i64 7,.slice A1 p.f1.length c1,.slice A2 p.f2.length c2,.slice (some ad) p.f3.length c3] 76)) (.cells Zck 132)));have HKX:=Zaa.mk (KeptV.of_below (Zae (Zae (Below.refl _ W) (.cells #[.int .i64 7,.slice A1 p.f1.length c1,.slice A2 p.f2.length c2,.slice (some ad) p.f3.length c3] 76)) (.cells Zck 132)) gb v);generalize (W.alloc (.cells #[.int .i64 7,.slice A1 p.f1.length c1,.slice A2 p.f2.length c2,.slice (some ad) p.f3.length c3] 76)).alloc (.cells Zck 132)=X at *;generalize W.heap.size+1=br at *;generalize W.heap.size=bp at *;have p0:=HFR.out.cl.p 0 _ rfl;have p3:=HFR.out.cl.p 3 _ rfl;obtain⟨q0,q1,q2,q3⟩:=HCE.out X HVX.out.bel;have hl0:(0:Int)<(p.f3.length:Int):=by omega
 go_upto_region 30 with (go_at_call 65;(with_reducible refine (HC.out _ _ HVX.out).mono ?_);rintro e w5 ⟨x1,x2,v5,its5,rfl,hr1,hr2,hv5,hrel5,hk5,hn5,hfo5⟩;obtain⟨B1,e1,rfl,hl1,_⟩:=hr1.C;obtain⟨B2,e2,rfl,hl2,_⟩:=hr2.C;have HFR5:=Zaa.mk (HFR.out.kept HVX.out hk5);have HR1:=Zaa.mk hr1;have HR2:=Zaa.mk hr2;have HV5:=Zaa.mk hv5;have HRL5:=Zaa.mk hrel5;have HK5:=Zaa.mk hk5;have HN5:=Zaa.mk hn5;have HFO5:=Zaa.mk hfo5;clear hr1 hr2 hv5 hrel5 hk5 hn5 hfo5 hl1 hl2)
 have hb6:=Zae (Below.refl _ w5) (.cells (Zht x.empty (.slice B1 x.first.length e1) (.slice B2 x.last.length e2)) 132);have HFR6:=Zaa.mk (HFR5.out.below hb6);have HV6:=Zaa.mk (HV5.out.below hb6);have HK6:=Zaa.mk ((HKX.out.trans HK5.out (NewOr.refl _ _)).trans (v1:=v5) (KeptV.of_below hb6 gb v5) (HN5.out.elim .inl (fun⟨g,h1,h2⟩=>.inr ⟨g,h1,Nat.le_trans HKX.out.1 h2⟩)));have HN6:Zaa (NewOr W v v5):=⟨HN5.out.elim .inl (fun⟨g,h1,h2⟩=>.inr ⟨g,h1,Nat.le_trans HKX.out.1 h2⟩)⟩
 have HB9:=Zaa.mk (Zaq w5 (.cells (Zht x.empty (.slice B1 x.first.length e1) (.slice B2 x.last.length e2)) 132));have HR1:=Zaa.mk (Zap HR1.out hb6);have HR2:=Zaa.mk (Zap HR2.out hb6);clear hb6 q0 q1 q2 q3 p0 p3 hl0;generalize w5.alloc (.cells (Zht x.empty (.slice B1 x.first.length e1) (.slice B2 x.last.length e2)) 132)=X6 at *;generalize w5.heap.size=b9 at *;have t1:=(Zac HB9.out 1).trans rfl;have t2:=(Zac HB9.out 2).trans rfl;have hl5:=HRL5.out.len;have HLI:=Zaa.mk (Zoh w0 X6 gb h0 h1 vs v5 its5 HV6.out _ _ x.last x.first HR2.out HR1.out (by rw[hl5];exact HRL.out) (by rw[hl5];exact HRF.out) (HRL5.out.nx HG2.out) (by rw[hl5];exact HL2.out))
 go_upto_region 31 with (go_at_call 92;(with_reducible refine HLI.out.mono ?_);rintro e w6 ⟨rfl,hv6,hk6⟩;have HV7:=Zaa.mk hv6;have HK7:=Zaa.mk hk6;clear hv6 hk6)
 have HFR7:=Zaa.mk (HFR6.out.kept HV6.out HK7.out);have HB7:=Zaa.mk (Zhu HV6.out HK7.out HB9.out);have t1:=(Zac HB7.out 1).trans rfl;have t2:=(Zac HB7.out 2).trans rfl;have r0:=HFR7.out.cl.r 0 _ rfl;have r1:=HFR7.out.cl.r 1 _ rfl;have r2:=HFR7.out.cl.r 2 _ rfl;have rf:=HFR7.out.cl.f;go_wp2
 refine bodyPost_ret (results_cell_row rfl _ _ br 132 #[.bool true,.slice B1 x.first.length e1,.slice B2 x.last.length e2] (0,0) _ rfl (Zdc HFR7.out.r _ _ _) Tryz.underlying132 rfl (by kernel_rfl)) rfl ?_
 have h36:=HV6.out.same3 HK7.out;exact Zfe (x:=⟨x.first,x.last,true⟩) (s':=s2.link x.last x.first) HV.out HFR7.out HV7.out (HK6.out.trans HK7.out HN6.out) HN6.out (HR1.out.same h36) (HR2.out.same h36) (HRL5.out.link HOW.out.lstK) (HFO5.out.link x.last x.first (by rw[HLN.out];exact HOW.out.lstG) x.last.length (Nat.le_refl _))
theorem Zgd {w0:W0}{W:World}{A:Option Addr}{n c:Nat}{l:List Int}(h:Ri w0 W (.slice A n c) l):(Kd.int .i64).C W A l.length l:=by
 obtain⟨A',c',e,_,hc⟩:=h.C;injection e with e _ _
 subst e;exact hc
def Zbw:Nat→List Nat
 | 1=>[0]
 | 2=>[1]
 | 3=>[2]
 | 4=>[2,3]
 | 5=>[2,4]
 | 7=>[6]
 | 9=>[8]
 | 10=>[7,9]
 | 12=>[11]
 | 14=>[13]
 | 15=>[12,14]
 | 16=>[5,10,15]
 | _=>[]
def phiQ28aE (w0:W0)(b9 b10 n1 n2 m1 m2 e1 e2 j1 j2:Nat)(B1 B2 C1 C2:Option Addr)(x y:Sx)(be:Bool):Nat→List Value→Prop
 | 0,[v]=>v=.pointer (some ⟨b9,0,none⟩)
 | 1,[v,_]=>v=.bool true
 | 2,[v,_]=>v=.bool true
 | 3,[v,_]=>v=undef
 | 4,[v,_,_]=>v=undef
 | 5,[v,_,_]=>v=.bool true
 | 6,[v]=>v=.pointer (some ⟨b9,1,none⟩)
 | 7,[v,_]=>v=.slice B1 n1 e1
 | 8,[v]=>v=.pointer (some ⟨b10,1,none⟩)
 | 9,[v,_]=>v=.slice C1 m1 j1
 | 11,[v]=>v=.pointer (some ⟨b9,2,none⟩)
 | 12,[v,_]=>v=.slice B2 n2 e2
 | 13,[v]=>v=.pointer (some ⟨b10,2,none⟩)
 | 14,[v,_]=>v=.slice C2 m2 j2
 | 16,[v,_,x10,x15]=>v=.agg #[.bool true,x10,x15]
 | _,_=>True
def phiQ28aX (w0:W0)(b9 b10 n1 n2 m1 m2 e1 e2 j1 j2:Nat)(B1 B2 C1 C2:Option Addr)(x y:Sx)(be:Bool):Nat→List Value→World→Prop
 | 10,[v,_,_],W=>(∃A c,v=.slice A (Zay x.first y.first).length c)∧Ri w0 W v (Zay x.first y.first)
 | 15,[v,_,_],W=>(∃A c,v=.slice A (Zay x.last y.last).length c)∧Ri w0 W v (Zay x.last y.last)
 | _,_,_=>True
def Ztk (w0:W0)(b9 b10 n1 n2 m1 m2 e1 e2 j1 j2:Nat)(B1 B2 C1 C2:Option Addr)(x y:Sx)(be:Bool)(i:Nat)(vs:List Value)(W:World):Prop:=phiQ28aE w0 b9 b10 n1 n2 m1 m2 e1 e2 j1 j2 B1 B2 C1 C2 x y be i vs∧phiQ28aX w0 b9 b10 n1 n2 m1 m2 e1 e2 j1 j2 B1 B2 C1 C2 x y be i vs W
theorem Zra (w0:W0)(b9 b10 n1 n2 m1 m2 e1 e2 j1 j2:Nat)(B1 B2 C1 C2:Option Addr)(x y:Sx)(be:Bool):∀i vs w w',Ztk w0 b9 b10 n1 n2 m1 m2 e1 e2 j1 j2 B1 B2 C1 C2 x y be i vs w→Zca w w'→Ztk w0 b9 b10 n1 n2 m1 m2 e1 e2 j1 j2 B1 B2 C1 C2 x y be i vs w':=by
 intro i vs w w' h0 hb;refine⟨h0.1,?_⟩;have h:=h0.2;clear h0;unfold phiQ28aX at h ⊢
 split at h
 case h_1=>
  exact⟨h.1,Zap h.2 hb⟩
 case h_2=>
  exact⟨h.1,Zap h.2 hb⟩
 all_goals exact h
def Zbu:Nat→List Nat
 | 1=>[0]
 | 2=>[1]
 | 3=>[2]
 | 4=>[2,3]
 | 5=>[2,4]
 | 7=>[6]
 | 9=>[8]
 | 10=>[7,9]
 | 12=>[11]
 | 14=>[13]
 | 15=>[12,14]
 | 16=>[5,10,15]
 | _=>[]
def phiQ28bE (w0:W0)(b9 b10 n1 n2 m1 m2 e1 e2 j1 j2:Nat)(B1 B2 C1 C2:Option Addr)(x y:Sx)(be:Bool):Nat→List Value→Prop
 | 0,[v]=>v=.pointer (some ⟨b9,0,none⟩)
 | 1,[v,_]=>v=.bool false
 | 2,[v,_]=>v=.bool false
 | 3,[v,_]=>v=.pointer (some ⟨b10,0,none⟩)
 | 4,[v,_,_]=>v=.bool be
 | 5,[v,_,_]=>v=.bool be
 | 6,[v]=>v=.pointer (some ⟨b9,1,none⟩)
 | 7,[v,_]=>v=.slice B1 n1 e1
 | 8,[v]=>v=.pointer (some ⟨b10,1,none⟩)
 | 9,[v,_]=>v=.slice C1 m1 j1
 | 11,[v]=>v=.pointer (some ⟨b9,2,none⟩)
 | 12,[v,_]=>v=.slice B2 n2 e2
 | 13,[v]=>v=.pointer (some ⟨b10,2,none⟩)
 | 14,[v,_]=>v=.slice C2 m2 j2
 | 16,[v,_,x10,x15]=>v=.agg #[.bool be,x10,x15]
 | _,_=>True
def phiQ28bX (w0:W0)(b9 b10 n1 n2 m1 m2 e1 e2 j1 j2:Nat)(B1 B2 C1 C2:Option Addr)(x y:Sx)(be:Bool):Nat→List Value→World→Prop
 | 10,[v,_,_],W=>(∃A c,v=.slice A (Zay x.first y.first).length c)∧Ri w0 W v (Zay x.first y.first)
 | 15,[v,_,_],W=>(∃A c,v=.slice A (Zay x.last y.last).length c)∧Ri w0 W v (Zay x.last y.last)
 | _,_,_=>True
def Ztj (w0:W0)(b9 b10 n1 n2 m1 m2 e1 e2 j1 j2:Nat)(B1 B2 C1 C2:Option Addr)(x y:Sx)(be:Bool)(i:Nat)(vs:List Value)(W:World):Prop:=phiQ28bE w0 b9 b10 n1 n2 m1 m2 e1 e2 j1 j2 B1 B2 C1 C2 x y be i vs∧phiQ28bX w0 b9 b10 n1 n2 m1 m2 e1 e2 j1 j2 B1 B2 C1 C2 x y be i vs W
theorem Zqz (w0:W0)(b9 b10 n1 n2 m1 m2 e1 e2 j1 j2:Nat)(B1 B2 C1 C2:Option Addr)(x y:Sx)(be:Bool):∀i vs w w',Ztj w0 b9 b10 n1 n2 m1 m2 e1 e2 j1 j2 B1 B2 C1 C2 x y be i vs w→Zca w w'→Ztj w0 b9 b10 n1 n2 m1 m2 e1 e2 j1 j2 B1 B2 C1 C2 x y be i vs w':=by
 intro i vs w w' h0 hb;refine⟨h0.1,?_⟩;have h:=h0.2;clear h0;unfold phiQ28bX at h ⊢
 split at h
 case h_1=>
  exact⟨h.1,Zap h.2 hb⟩
 case h_2=>
  exact⟨h.1,Zap h.2 hb⟩
 all_goals exact h
set_option maxHeartbeats 8000000 in
theorem node_alt (n:Nat)(hw:NdC n)(hwg:Znd n)(w0:W0)(W:World)(gb:Nat)(h0 h1 vs v:Value)(s:St)(its:List S94)(b:Nat)(p:S76)(vp:Value)(h:RS w0 W gb h0 h1 vs v its)(hr:Rel s its)(hg:Good s)(hkb:KB s)(hb:Pend b s)(hp:Znk w0 p vp)(hk:p.f0=6)
 (hc1:2≤p.f3.length) (hok:Zen n (Zaj p.f3 0)) (hok2:Zen n (Zaj p.f3 1)) (hpk:Zum n (Zaj p.f3 0)) (hpk2:Zum n (Zaj p.f3 1)) (hlen:s.pl.length+(Zcx n (Zaj p.f3 0)+Zcx n (Zaj p.f3 1))≤90000) :
 Calls Tryz.prog 65 #[.pointer (some ⟨gb,0,none⟩),vp] W (NdE w0 W gb h0 h1 vs v its
  (altX (Zau n b (Zaj p.f3 0) s).1 (Zau n b (Zaj p.f3 1) (Zau n b (Zaj p.f3 0) s).2).1)
  (Zau n b (Zaj p.f3 1) (Zau n b (Zaj p.f3 0) s).2).2):=by
 obtain⟨A1,c1,A2,c2,A3,c3,rfl,l1,g1,l2,g2,l3,g3⟩:=hp;rw[hk];have HV:=Zaa.mk h;obtain⟨ad,D1,d1,D2,d2,D3,d3,rfl,hq,hcells⟩:=kid0 g3 (by omega);obtain⟨F1,f1,F2,f2,F3,f3,hqr,hcells2⟩:=kid1 g3 (by omega);have hwq:=hwg b (Zaj p.f3 0) s hg hb.1;have hown:=Zfc n b (Zaj p.f3 0) s hb;have hpend:=hb.walk n b (Zaj p.f3 0);have hkb2:=Zlk n b (Zaj p.f3 0) s hkb;have hkp:=Zfi n b (Zaj p.f3 1) (Zau n b (Zaj p.f3 0) s).2;have hkp0:=Zfi n b (Zaj p.f3 0) s;have hc:=fun W v hv=>hw w0 W gb h0 h1 vs v s its b (Zaj p.f3 0) _ hv hr hg hkb hb hok hpk (by omega) hq
 generalize (Zau n b (Zaj p.f3 0) s).1=x at *;generalize (Zau n b (Zaj p.f3 0) s).2=sa at *;obtain⟨hga,hla,hra1,hra2⟩:=hwq;have hwr:=hwg b (Zaj p.f3 1) sa hga hpend.1;have hown2:=Zfc n b (Zaj p.f3 1) sa hpend;have hd:=fun W v its' hv hrl=>hw w0 W gb h0 h1 vs v sa its' b (Zaj p.f3 1) _ hv hrl hga hkb2 hpend hok2 hpk2 (by omega) hqr
 generalize (Zau n b (Zaj p.f3 1) sa).1=y at *;generalize (Zau n b (Zaj p.f3 1) sa).2=s2 at *;obtain⟨hg2,hl2,hrb1,hrb2⟩:=hwr;have HTW:Zaa (Two b s.pl.length sa.pl.length sa s2 x y):=⟨⟨hown,hown2,hkp,rfl,hkp0.len⟩⟩
 have HXF:Zaa (Ris s2.pl.length x.first):=⟨hra1.mono (by omega)⟩
 have HXL:Zaa (Ris s2.pl.length x.last):=⟨hra2.mono (by omega)⟩
 have HYF:Zaa (Ris s2.pl.length y.first):=⟨hrb1.mono (by omega)⟩
 have HYL:Zaa (Ris s2.pl.length y.last):=⟨hrb2.mono (by omega)⟩
 have HG2:=Zaa.mk hg2;have HC:=Zaa.mk hc;have HD:=Zaa.mk hd;have HCE:=Zaa.mk hcells;have HCF:=Zaa.mk hcells2;have HLN:=Zaa.mk hr.len;have HL2:Zaa (s2.pl.length≤100000):=⟨by omega⟩
 have hLS:Zaa (s.pl.length≤sa.pl.length):=⟨hkp0.len⟩
 clear h hr hg hkb hkb2 hb g1 g2 g3 hw hwg hq hqr hok hok2 hpk hpk2 hc hd hcells hcells2 hg2 hga hra1 hra2 hrb1 hrb2 hown hown2 hkp hkp0 hpend hl2 hla;generalize Zaj p.f3 0=q at *;generalize Zaj p.f3 1=r at *
 go_enter Tryz.func65,Tryz.ntmps65
 go_upto_region 1 with (fail)
 have HFR:=Zaa.mk (FrN.first W #[.int .i64 6,.slice A1 p.f1.length c1,.slice A2 p.f2.length c2,.slice (some ad) p.f3.length c3]);have HVX:=Zaa.mk (HV.out.below (Zae (Zae (Below.refl _ W) (.cells #[.int .i64 6,.slice A1 p.f1.length c1,.slice A2 p.f2.length c2,.slice (some ad) p.f3.length c3] 76)) (.cells Zck 132)));have HKX:=Zaa.mk (KeptV.of_below (Zae (Zae (Below.refl _ W) (.cells #[.int .i64 6,.slice A1 p.f1.length c1,.slice A2 p.f2.length c2,.slice (some ad) p.f3.length c3] 76)) (.cells Zck 132)) gb v);generalize (W.alloc (.cells #[.int .i64 6,.slice A1 p.f1.length c1,.slice A2 p.f2.length c2,.slice (some ad) p.f3.length c3] 76)).alloc (.cells Zck 132)=X at *;generalize W.heap.size+1=br at *;generalize W.heap.size=bp at *;have p0:=HFR.out.cl.p 0 _ rfl;have p3:=HFR.out.cl.p 3 _ rfl;obtain⟨q0,q1,q2,q3⟩:=HCE.out X HVX.out.bel;have hl0:(0:Int)<(p.f3.length:Int):=by omega
 have hl1:(1:Int)<(p.f3.length:Int):=by omega
 go_upto_region 27 with (go_at_call 65;(with_reducible refine (HC.out _ _ HVX.out).mono ?_);rintro e w5 ⟨x1,x2,v5,its5,rfl,hr1,hr2,hv5,hrel5,hk5,hn5,hfo5⟩;obtain⟨B1,e1,rfl,_,_⟩:=hr1.C;obtain⟨B2,e2,rfl,_,_⟩:=hr2.C;have HFR5:=Zaa.mk (HFR.out.kept HVX.out hk5);have HR1:=Zaa.mk hr1;have HR2:=Zaa.mk hr2;have HV5:=Zaa.mk hv5;have HRL5:=Zaa.mk hrel5;have HK5:=Zaa.mk hk5;have HN5:=Zaa.mk hn5;have HFO5:=Zaa.mk hfo5;clear hr1 hr2 hv5 hrel5 hk5 hn5 hfo5)
 have hb6:=Zae (Below.refl _ w5) (.cells (Zht x.empty (.slice B1 x.first.length e1) (.slice B2 x.last.length e2)) 132);have HFR6:=Zaa.mk (HFR5.out.below hb6);have HV6:=Zaa.mk (HV5.out.below hb6);have HN6:Zaa (NewOr W v v5):=⟨HN5.out.elim .inl (fun⟨g,h1,h2⟩=>.inr ⟨g,h1,Nat.le_trans HKX.out.1 h2⟩)⟩
 have HK6:=Zaa.mk ((HKX.out.trans HK5.out (NewOr.refl _ _)).trans (v1:=v5) (KeptV.of_below hb6 gb v5) HN6.out);have HB9:=Zaa.mk (Zaq w5 (.cells (Zht x.empty (.slice B1 x.first.length e1) (.slice B2 x.last.length e2)) 132));have HR1:=Zaa.mk (Zap HR1.out hb6);have HR2:=Zaa.mk (Zap HR2.out hb6);clear hb6 q0 q1 q2 q3 p0 p3;generalize w5.alloc (.cells (Zht x.empty (.slice B1 x.first.length e1) (.slice B2 x.last.length e2)) 132)=X6 at *;generalize w5.heap.size=b9 at *;have p3:=HFR6.out.cl.p 3 _ rfl;obtain⟨q0,q1,q2,q3⟩:=HCF.out X6 HV6.out.bel;have HD6:=Zaa.mk (HD.out X6 v5 its5 HV6.out HRL5.out)
 go_upto_region 28 with (go_at_call 65;(with_reducible refine HD6.out.mono ?_);rintro e w7 ⟨x1,x2,v7,its7,rfl,hr1,hr2,hv7,hrel7,hk7,hn7,hfo7⟩;obtain⟨C1,j1,rfl,_,_⟩:=hr1.C;obtain⟨C2,j2,rfl,_,_⟩:=hr2.C;have HFR7:=Zaa.mk (HFR6.out.kept HV6.out hk7);have HS1:=Zaa.mk hr1;have HS2:=Zaa.mk hr2;have HV7:=Zaa.mk hv7;have HRL7:=Zaa.mk hrel7;have HK7:=Zaa.mk hk7;have HN7:=Zaa.mk hn7;have HFO7:=Zaa.mk hfo7;clear hr1 hr2 hv7 hrel7 hk7 hn7 hfo7)
 have hb8:=Zae (Below.refl _ w7) (.cells (Zht y.empty (.slice C1 y.first.length j1) (.slice C2 y.last.length j2)) 132);have h367:=HV6.out.same3 HK7.out;have HFR8:=Zaa.mk (HFR7.out.below hb8);have HVX8:=Zaa.mk (HV7.out.below hb8);have HN8:=Zaa.mk (NewOr.trans HN6.out HN7.out HK6.out.1);have HK8:=Zaa.mk ((HK6.out.trans HK7.out HN6.out).trans (v1:=v7) (KeptV.of_below hb8 gb v7) HN8.out);have HB9:=Zaa.mk (Zag (Zhu HV6.out HK7.out HB9.out) hb8);have HB10:=Zaa.mk (Zaq w7 (.cells (Zht y.empty (.slice C1 y.first.length j1) (.slice C2 y.last.length j2)) 132));have HR1:=Zaa.mk (Zap (HR1.out.same h367) hb8);have HR2:=Zaa.mk (Zap (HR2.out.same h367) hb8);have HS1:=Zaa.mk (Zap HS1.out hb8);have HS2:=Zaa.mk (Zap HS2.out hb8);have HFO8:Zaa (Fore its its7):=⟨HFO5.out.trans HFO7.out (by rw[HLN.out,HRL5.out.len];exact hLS.out)⟩
 clear hb8 h367 q0 q1 q2 q3 p3 hl0 hl1;generalize w7.alloc (.cells (Zht y.empty (.slice C1 y.first.length j1) (.slice C2 y.last.length j2)) 132)=X8 at *;generalize w7.heap.size=b10 at *;have HBX:=Zaa.mk (Below.refl X8.heap.size X8);have HADF:Zaa (∀W,Below X8.heap.size X8 W→Calls Tryz.prog 43 #[.slice B1 x.first.length e1,.slice C1 y.first.length j1] W fun e w'=>∃v,e=.returned v∧(Kd.int .i64).R 3 w' W.heap.size (fun _=>True) v (Zay x.first y.first)∧Below W.heap.size W w'):=
  ⟨fun W hb=>Zfh B1 e1 x.first C1 j1 y.first W (Zgd (Zap HR1.out hb)) (Zgd (Zap HS1.out hb)) (by have:=HXF.out.len;have:=HYF.out.len;have:=HL2.out;omega) HXF.out.1⟩
 have HADL:Zaa (∀W,Below X8.heap.size X8 W→Calls Tryz.prog 43 #[.slice B2 x.last.length e2,.slice C2 y.last.length j2] W fun e w'=>∃v,e=.returned v∧(Kd.int .i64).R 3 w' W.heap.size (fun _=>True) v (Zay x.last y.last)∧Below W.heap.size W w'):=
  ⟨fun W hb=>Zfh B2 e2 x.last C2 j2 y.last W (Zgd (Zap HR2.out hb)) (Zgd (Zap HS2.out hb)) (by have:=HXL.out.len;have:=HYL.out.len;have:=HL2.out;omega) HXL.out.1⟩
 have HEA:Zaa (∀be,x.empty=be→(altX x y).empty=(be||y.empty)):=⟨fun be h=>by subst h;rfl⟩
 obtain⟨be,hbe⟩:∃be,be=y.empty:=⟨_,rfl⟩
 obtain⟨n1,hn1⟩:∃n1,n1=x.first.length:=⟨_,rfl⟩
 obtain⟨n2,hn2⟩:∃n2,n2=x.last.length:=⟨_,rfl⟩
 obtain⟨m1,hm1⟩:∃m1,m1=y.first.length:=⟨_,rfl⟩
 obtain⟨m2,hm2⟩:∃m2,m2=y.last.length:=⟨_,rfl⟩
 rw[←hn1,←hn2]at HB9;rw[←hm1,←hm2,←hbe]at HB10;rw[←hn1,←hm1]at HADF;rw[←hn2,←hm2]at HADL;rw[←hbe]at HEA;clear hbe hn1 hn2 hm1 hm2;cases hxe:x.empty with
 | true=>
  rw[hxe]at HB9;refine Zcr 17 _ Zbw (Ztk w0 b9 b10 n1 n2 m1 m2 e1 e2 j1 j2 B1 B2 C1 C2 x y be) Zca (by kernel_rfl) (by kernel_rfl) (by kernel_rfl) rfl Zbk Zbf (Zra _ _ _ _ _ _ _ _ _ _ _ _ _ _ _ _ _ _) ?step ?fin
  case step=>
   repeat (rename_i z;clear z)
   refine⟨?_,?_,?_,?_,?_,?_,?_,?_,?_,?_,?_,?_,?_,?_,?_,?_,?_,trivial⟩ <;> intro vals W hR0 hd <;> have hR:=Zaf (Zam (Below.refl _ X8)) hR0
   ·refine Zal rfl (Zad (W':=W) ?_ ⟨Zbr,rfl,trivial⟩);clear hd;simp only[Zao,Zbw,Zai];go_simp
   ·have h0:vals 0=.pointer (some ⟨b9,0,none⟩):=(hd 0 (by simp[Zbw])).1;have hc:W.cell? ⟨b9,0,none⟩=some (.bool true):=(Zac (Zag HB9.out hR) 0).trans rfl;refine Zal rfl (Zad (W':=W) ?_ ⟨Zbr,rfl,trivial⟩);clear hd;simp only[Zao,Zbw,Zai,h0];go_simp
   ·have h1:vals 1=.bool true:=(hd 1 (by simp[Zbw])).1;refine Zal rfl (Zad (W':=W) ?_ ⟨Zbr,rfl,trivial⟩);clear hd;simp only[Zao,Zbw,Zai,h1];go_simp
   ·have h2:vals 2=.bool true:=(hd 2 (by simp[Zbw])).1;exact doesg_no (by simp only[Zao,Zbw,Zai,h2];rfl) ⟨Zbr,rfl,trivial⟩
   ·have h2:vals 2=.bool true:=(hd 2 (by simp[Zbw])).1;have h3:vals 3=undef:=(hd 3 (by simp[Zbw])).1;exact doesg_no (by simp only[Zao,Zbw,Zai,h2,h3];rfl) ⟨Zbr,rfl,trivial⟩
   ·have h2:vals 2=.bool true:=(hd 2 (by simp[Zbw])).1;have h4:vals 4=undef:=(hd 4 (by simp[Zbw])).1;refine Zal rfl (Zad (W':=W) ?_ ⟨Zbr,rfl,trivial⟩);clear hd;simp only[Zao,Zbw,Zai,h2,h4];go_simp
   ·refine Zal rfl (Zad (W':=W) ?_ ⟨Zbr,rfl,trivial⟩);clear hd;simp only[Zao,Zbw,Zai];go_simp
   ·have h6:vals 6=.pointer (some ⟨b9,1,none⟩):=(hd 6 (by simp[Zbw])).1;have hc:W.cell? ⟨b9,1,none⟩=some (.slice B1 n1 e1):=(Zac (Zag HB9.out hR) 1).trans rfl;refine Zal rfl (Zad (W':=W) ?_ ⟨Zbr,rfl,trivial⟩);clear hd;simp only[Zao,Zbw,Zai,h6];go_simp
   ·refine Zal rfl (Zad (W':=W) ?_ ⟨Zbr,rfl,trivial⟩);clear hd;simp only[Zao,Zbw,Zai];go_simp
   ·have h8:vals 8=.pointer (some ⟨b10,1,none⟩):=(hd 8 (by simp[Zbw])).1;have hc:W.cell? ⟨b10,1,none⟩=some (.slice C1 m1 j1):=(Zac (Zag HB10.out hR) 1).trans rfl;refine Zal rfl (Zad (W':=W) ?_ ⟨Zbr,rfl,trivial⟩);clear hd;simp only[Zao,Zbw,Zai,h8];go_simp
   ·have h7:vals 7=.slice B1 n1 e1:=(hd 7 (by simp[Zbw])).1;have h9:vals 9=.slice C1 m1 j1:=(hd 9 (by simp[Zbw])).1;clear hd;refine Zal rfl (Zbi (W':=W) (f:=43) (args:=#[.slice B1 n1 e1,.slice C1 m1 j1]) ?_ ((HADF.out W (Zaf HBX.out hR)).mono ?_))
    ·simp only[Zao,Zbw,Zai,h7,h9];go_simp
    ·rintro e w1 ⟨u,rfl,hu,hb⟩;obtain⟨Au,cu,rfl⟩:=Kd.R_slice hu;exact⟨_,rfl,hb,trivial,⟨Au,cu,rfl⟩,HVX8.out.ri hu hR.size⟩
   ·refine Zal rfl (Zad (W':=W) ?_ ⟨Zbr,rfl,trivial⟩);clear hd;simp only[Zao,Zbw,Zai];go_simp
   ·have h11:vals 11=.pointer (some ⟨b9,2,none⟩):=(hd 11 (by simp[Zbw])).1;have hc:W.cell? ⟨b9,2,none⟩=some (.slice B2 n2 e2):=(Zac (Zag HB9.out hR) 2).trans rfl;refine Zal rfl (Zad (W':=W) ?_ ⟨Zbr,rfl,trivial⟩);clear hd;simp only[Zao,Zbw,Zai,h11];go_simp
   ·refine Zal rfl (Zad (W':=W) ?_ ⟨Zbr,rfl,trivial⟩);clear hd;simp only[Zao,Zbw,Zai];go_simp
   ·have h13:vals 13=.pointer (some ⟨b10,2,none⟩):=(hd 13 (by simp[Zbw])).1;have hc:W.cell? ⟨b10,2,none⟩=some (.slice C2 m2 j2):=(Zac (Zag HB10.out hR) 2).trans rfl;refine Zal rfl (Zad (W':=W) ?_ ⟨Zbr,rfl,trivial⟩);clear hd;simp only[Zao,Zbw,Zai,h13];go_simp
   ·have h12:vals 12=.slice B2 n2 e2:=(hd 12 (by simp[Zbw])).1;have h14:vals 14=.slice C2 m2 j2:=(hd 14 (by simp[Zbw])).1;clear hd;refine Zal rfl (Zbi (W':=W) (f:=43) (args:=#[.slice B2 n2 e2,.slice C2 m2 j2]) ?_ ((HADL.out W (Zaf HBX.out hR)).mono ?_))
    ·simp only[Zao,Zbw,Zai,h12,h14];go_simp
    ·rintro e w1 ⟨u,rfl,hu,hb⟩;obtain⟨Au,cu,rfl⟩:=Kd.R_slice hu;exact⟨_,rfl,hb,trivial,⟨Au,cu,rfl⟩,HVX8.out.ri hu hR.size⟩
   ·have h5:vals 5=.bool true:=(hd 5 (by simp[Zbw])).1;have h10:(∃A c,(vals 10)=.slice A (Zay x.first y.first).length c)∧Ri w0 W (vals 10) (Zay x.first y.first):=(hd 10 (by simp[Zbw])).2;have h15:(∃A c,(vals 15)=.slice A (Zay x.last y.last).length c)∧Ri w0 W (vals 15) (Zay x.last y.last):=(hd 15 (by simp[Zbw])).2;obtain⟨⟨Aa,ca,h10⟩,_⟩:=h10;obtain⟨⟨Ab,cb,h15⟩,_⟩:=h15;refine Zal rfl (Zad (W':=W) ?_ ⟨Zbr,rfl,trivial⟩);clear hd;simp only[Zao,Zbw,Zai,h5];simp only[h10,h15];go_simp
  case fin=>
   intro vals W hR0 hF;have hR:=Zaf (Zam (Below.refl _ X8)) hR0;have f0:vals 0=.pointer (some ⟨b9,0,none⟩):=(hF 0 (by decide)).1;have f1:vals 1=.bool true:=(hF 1 (by decide)).1;have f2:vals 2=.bool true:=(hF 2 (by decide)).1;have f3:vals 3=undef:=(hF 3 (by decide)).1;have f4:vals 4=undef:=(hF 4 (by decide)).1;have f5:vals 5=.bool true:=(hF 5 (by decide)).1;have f6:vals 6=.pointer (some ⟨b9,1,none⟩):=(hF 6 (by decide)).1;have f7:vals 7=.slice B1 n1 e1:=(hF 7 (by decide)).1;have f8:vals 8=.pointer (some ⟨b10,1,none⟩):=(hF 8 (by decide)).1;have f9:vals 9=.slice C1 m1 j1:=(hF 9 (by decide)).1;have f10:(∃A c,(vals 10)=.slice A (Zay x.first y.first).length c)∧Ri w0 W (vals 10) (Zay x.first y.first):=(hF 10 (by decide)).2;have f11:vals 11=.pointer (some ⟨b9,2,none⟩):=(hF 11 (by decide)).1;have f12:vals 12=.slice B2 n2 e2:=(hF 12 (by decide)).1;have f13:vals 13=.pointer (some ⟨b10,2,none⟩):=(hF 13 (by decide)).1;have f14:vals 14=.slice C2 m2 j2:=(hF 14 (by decide)).1;have f15:(∃A c,(vals 15)=.slice A (Zay x.last y.last).length c)∧Ri w0 W (vals 15) (Zay x.last y.last):=(hF 15 (by decide)).2;have f16:vals 16=.agg #[.bool true,(vals 10),(vals 15)]:=(hF 16 (by decide)).1;clear hF hR0;rw[show List.range 17=[0,1,2,3,4,5,6,7,8,9,10,11,12,13,14,15,16]from rfl];simp only[Zao,Zai,Act.put,List.getElem?_toArray,List.getElem?_cons_zero,List.getElem?_cons_succ,Option.bind_some,List.setIfInBounds_toArray,List.set_cons_zero,List.set_cons_succ,List.drop_succ_cons,List.drop_zero,f0,f1,f2,f3,f4,f5,f6,f7,f8,f9,f11,f12,f13,f14,f16];obtain⟨⟨A10,c10,f10⟩,r10⟩:=f10;obtain⟨⟨A15,c15,f15⟩,r15⟩:=f15;rw[f10]at r10;rw[f15]at r15;simp only[f10,f15];have HEE:=Zaa.mk (HEA.out _ hxe);have HR10:=Zaa.mk r10;have HR15:=Zaa.mk r15;clear f0 f1 f2 f3 f4 f5 f6 f7 f8 f9 f10 f11 f12 f13 f14 f15 f16 hxe r10 r15;have HFR9:=Zaa.mk (HFR8.out.below hR);have HV9:=Zaa.mk (HVX8.out.below hR);have HK9:=Zaa.mk (HK8.out.trans (v1:=v7) (KeptV.of_below hR gb v7) HN8.out);clear hR;have r0:=HFR9.out.cl.r 0 _ rfl;have r1:=HFR9.out.cl.r 1 _ rfl;have r2:=HFR9.out.cl.r 2 _ rfl;have rf:=HFR9.out.cl.f;go_wp2
   refine bodyPost_ret (results_cell_row rfl _ _ br 132 #[.bool true,.slice A10 (Zay x.first y.first).length c10,.slice A15 (Zay x.last y.last).length c15] (0,0) _ rfl (Zdc HFR9.out.r _ _ _) Tryz.underlying132 rfl (by kernel_rfl)) rfl ?_
   have hfin:=Zfe (x:=altX x y) (s':=s2) HV.out HFR9.out HV9.out HK9.out HN8.out HR10.out HR15.out HRL7.out HFO8.out;rw[HEE.out]at hfin;exact hfin
 | false=>
  rw[hxe]at HB9;refine Zcr 17 _ Zbu (Ztj w0 b9 b10 n1 n2 m1 m2 e1 e2 j1 j2 B1 B2 C1 C2 x y be) Zca (by kernel_rfl) (by kernel_rfl) (by kernel_rfl) rfl Zbk Zbf (Zqz _ _ _ _ _ _ _ _ _ _ _ _ _ _ _ _ _ _) ?step ?fin
  case step=>
   repeat (rename_i z;clear z)
   refine⟨?_,?_,?_,?_,?_,?_,?_,?_,?_,?_,?_,?_,?_,?_,?_,?_,?_,trivial⟩ <;> intro vals W hR0 hd <;> have hR:=Zaf (Zam (Below.refl _ X8)) hR0
   ·refine Zal rfl (Zad (W':=W) ?_ ⟨Zbr,rfl,trivial⟩);clear hd;simp only[Zao,Zbu,Zai];go_simp
   ·have h0:vals 0=.pointer (some ⟨b9,0,none⟩):=(hd 0 (by simp[Zbu])).1;have hc:W.cell? ⟨b9,0,none⟩=some (.bool false):=(Zac (Zag HB9.out hR) 0).trans rfl;refine Zal rfl (Zad (W':=W) ?_ ⟨Zbr,rfl,trivial⟩);clear hd;simp only[Zao,Zbu,Zai,h0];go_simp
   ·have h1:vals 1=.bool false:=(hd 1 (by simp[Zbu])).1;refine Zal rfl (Zad (W':=W) ?_ ⟨Zbr,rfl,trivial⟩);clear hd;simp only[Zao,Zbu,Zai,h1];go_simp
   ·have h2:vals 2=.bool false:=(hd 2 (by simp[Zbu])).1;refine Zbo (by simp only[Zao,Zbu,Zai,h2];rfl) (Zad (W':=W) ?_ ⟨Zbr,rfl,trivial⟩);clear hd;simp only[Zao,Zbu,Zai,h2];go_simp
   ·have h2:vals 2=.bool false:=(hd 2 (by simp[Zbu])).1;have h3:vals 3=.pointer (some ⟨b10,0,none⟩):=(hd 3 (by simp[Zbu])).1;have hc:W.cell? ⟨b10,0,none⟩=some (.bool be):=(Zac (Zag HB10.out hR) 0).trans rfl;refine Zbo (by simp only[Zao,Zbu,Zai,h2,h3];rfl) (Zad (W':=W) ?_ ⟨Zbr,rfl,trivial⟩);clear hd;simp only[Zao,Zbu,Zai,h2,h3];go_simp
   ·have h2:vals 2=.bool false:=(hd 2 (by simp[Zbu])).1;have h4:vals 4=.bool be:=(hd 4 (by simp[Zbu])).1;refine Zal rfl (Zad (W':=W) ?_ ⟨Zbr,rfl,trivial⟩);clear hd;simp only[Zao,Zbu,Zai,h2,h4];go_simp
   ·refine Zal rfl (Zad (W':=W) ?_ ⟨Zbr,rfl,trivial⟩);clear hd;simp only[Zao,Zbu,Zai];go_simp
   ·have h6:vals 6=.pointer (some ⟨b9,1,none⟩):=(hd 6 (by simp[Zbu])).1;have hc:W.cell? ⟨b9,1,none⟩=some (.slice B1 n1 e1):=(Zac (Zag HB9.out hR) 1).trans rfl;refine Zal rfl (Zad (W':=W) ?_ ⟨Zbr,rfl,trivial⟩);clear hd;simp only[Zao,Zbu,Zai,h6];go_simp
   ·refine Zal rfl (Zad (W':=W) ?_ ⟨Zbr,rfl,trivial⟩);clear hd;simp only[Zao,Zbu,Zai];go_simp
   ·have h8:vals 8=.pointer (some ⟨b10,1,none⟩):=(hd 8 (by simp[Zbu])).1;have hc:W.cell? ⟨b10,1,none⟩=some (.slice C1 m1 j1):=(Zac (Zag HB10.out hR) 1).trans rfl;refine Zal rfl (Zad (W':=W) ?_ ⟨Zbr,rfl,trivial⟩);clear hd;simp only[Zao,Zbu,Zai,h8];go_simp
   ·have h7:vals 7=.slice B1 n1 e1:=(hd 7 (by simp[Zbu])).1;have h9:vals 9=.slice C1 m1 j1:=(hd 9 (by simp[Zbu])).1;clear hd;refine Zal rfl (Zbi (W':=W) (f:=43) (args:=#[.slice B1 n1 e1,.slice C1 m1 j1]) ?_ ((HADF.out W (Zaf HBX.out hR)).mono ?_))
    ·simp only[Zao,Zbu,Zai,h7,h9];go_simp
    ·rintro e w1 ⟨u,rfl,hu,hb⟩;obtain⟨Au,cu,rfl⟩:=Kd.R_slice hu;exact⟨_,rfl,hb,trivial,⟨Au,cu,rfl⟩,HVX8.out.ri hu hR.size⟩
   ·refine Zal rfl (Zad (W':=W) ?_ ⟨Zbr,rfl,trivial⟩);clear hd;simp only[Zao,Zbu,Zai];go_simp
   ·have h11:vals 11=.pointer (some ⟨b9,2,none⟩):=(hd 11 (by simp[Zbu])).1;have hc:W.cell? ⟨b9,2,none⟩=some (.slice B2 n2 e2):=(Zac (Zag HB9.out hR) 2).trans rfl;refine Zal rfl (Zad (W':=W) ?_ ⟨Zbr,rfl,trivial⟩);clear hd;simp only[Zao,Zbu,Zai,h11];go_simp
   ·refine Zal rfl (Zad (W':=W) ?_ ⟨Zbr,rfl,trivial⟩);clear hd;simp only[Zao,Zbu,Zai];go_simp
   ·have h13:vals 13=.pointer (some ⟨b10,2,none⟩):=(hd 13 (by simp[Zbu])).1;have hc:W.cell? ⟨b10,2,none⟩=some (.slice C2 m2 j2):=(Zac (Zag HB10.out hR) 2).trans rfl;refine Zal rfl (Zad (W':=W) ?_ ⟨Zbr,rfl,trivial⟩);clear hd;simp only[Zao,Zbu,Zai,h13];go_simp
   ·have h12:vals 12=.slice B2 n2 e2:=(hd 12 (by simp[Zbu])).1;have h14:vals 14=.slice C2 m2 j2:=(hd 14 (by simp[Zbu])).1;clear hd;refine Zal rfl (Zbi (W':=W) (f:=43) (args:=#[.slice B2 n2 e2,.slice C2 m2 j2]) ?_ ((HADL.out W (Zaf HBX.out hR)).mono ?_))
    ·simp only[Zao,Zbu,Zai,h12,h14];go_simp
    ·rintro e w1 ⟨u,rfl,hu,hb⟩;obtain⟨Au,cu,rfl⟩:=Kd.R_slice hu;exact⟨_,rfl,hb,trivial,⟨Au,cu,rfl⟩,HVX8.out.ri hu hR.size⟩
   ·have h5:vals 5=.bool be:=(hd 5 (by simp[Zbu])).1;have h10:(∃A c,(vals 10)=.slice A (Zay x.first y.first).length c)∧Ri w0 W (vals 10) (Zay x.first y.first):=(hd 10 (by simp[Zbu])).2;have h15:(∃A c,(vals 15)=.slice A (Zay x.last y.last).length c)∧Ri w0 W (vals 15) (Zay x.last y.last):=(hd 15 (by simp[Zbu])).2;obtain⟨⟨Aa,ca,h10⟩,_⟩:=h10;obtain⟨⟨Ab,cb,h15⟩,_⟩:=h15;refine Zal rfl (Zad (W':=W) ?_ ⟨Zbr,rfl,trivial⟩);clear hd;simp only[Zao,Zbu,Zai,h5];simp only[h10,h15];go_simp
  case fin=>
   intro vals W hR0 hF;have hR:=Zaf (Zam (Below.refl _ X8)) hR0;have f0:vals 0=.pointer (some ⟨b9,0,none⟩):=(hF 0 (by decide)).1;have f1:vals 1=.bool false:=(hF 1 (by decide)).1;have f2:vals 2=.bool false:=(hF 2 (by decide)).1;have f3:vals 3=.pointer (some ⟨b10,0,none⟩):=(hF 3 (by decide)).1;have f4:vals 4=.bool be:=(hF 4 (by decide)).1;have f5:vals 5=.bool be:=(hF 5 (by decide)).1;have f6:vals 6=.pointer (some ⟨b9,1,none⟩):=(hF 6 (by decide)).1;have f7:vals 7=.slice B1 n1 e1:=(hF 7 (by decide)).1;have f8:vals 8=.pointer (some ⟨b10,1,none⟩):=(hF 8 (by decide)).1;have f9:vals 9=.slice C1 m1 j1:=(hF 9 (by decide)).1;have f10:(∃A c,(vals 10)=.slice A (Zay x.first y.first).length c)∧Ri w0 W (vals 10) (Zay x.first y.first):=(hF 10 (by decide)).2;have f11:vals 11=.pointer (some ⟨b9,2,none⟩):=(hF 11 (by decide)).1;have f12:vals 12=.slice B2 n2 e2:=(hF 12 (by decide)).1;have f13:vals 13=.pointer (some ⟨b10,2,none⟩):=(hF 13 (by decide)).1;have f14:vals 14=.slice C2 m2 j2:=(hF 14 (by decide)).1;have f15:(∃A c,(vals 15)=.slice A (Zay x.last y.last).length c)∧Ri w0 W (vals 15) (Zay x.last y.last):=(hF 15 (by decide)).2;have f16:vals 16=.agg #[.bool be,(vals 10),(vals 15)]:=(hF 16 (by decide)).1;clear hF hR0;rw[show List.range 17=[0,1,2,3,4,5,6,7,8,9,10,11,12,13,14,15,16]from rfl];simp only[Zao,Zai,Act.put,List.getElem?_toArray,List.getElem?_cons_zero,List.getElem?_cons_succ,Option.bind_some,List.setIfInBounds_toArray,List.set_cons_zero,List.set_cons_succ,List.drop_succ_cons,List.drop_zero,f0,f1,f2,f3,f4,f5,f6,f7,f8,f9,f11,f12,f13,f14,f16];obtain⟨⟨A10,c10,f10⟩,r10⟩:=f10;obtain⟨⟨A15,c15,f15⟩,r15⟩:=f15;rw[f10]at r10;rw[f15]at r15;simp only[f10,f15];have HEE:=Zaa.mk (HEA.out _ hxe);have HR10:=Zaa.mk r10;have HR15:=Zaa.mk r15;clear f0 f1 f2 f3 f4 f5 f6 f7 f8 f9 f10 f11 f12 f13 f14 f15 f16 hxe r10 r15;have HFR9:=Zaa.mk (HFR8.out.below hR);have HV9:=Zaa.mk (HVX8.out.below hR);have HK9:=Zaa.mk (HK8.out.trans (v1:=v7) (KeptV.of_below hR gb v7) HN8.out);clear hR;have r0:=HFR9.out.cl.r 0 _ rfl;have r1:=HFR9.out.cl.r 1 _ rfl;have r2:=HFR9.out.cl.r 2 _ rfl;have rf:=HFR9.out.cl.f;go_wp2
   refine bodyPost_ret (results_cell_row rfl _ _ br 132 #[.bool be,.slice A10 (Zay x.first y.first).length c10,.slice A15 (Zay x.last y.last).length c15] (0,0) _ rfl (Zdc HFR9.out.r _ _ _) Tryz.underlying132 rfl (by kernel_rfl)) rfl ?_
   have hfin:=Zfe (x:=altX x y) (s':=s2) HV.out HFR9.out HV9.out HK9.out HN8.out HR10.out HR15.out HRL7.out HFO8.out;rw[HEE.out]at hfin;exact hfin
theorem Two.lstK {b m m1:Nat}{s1 s2:St}{a c:Sx}(h:Two b m m1 s1 s2 a c):∀z∈a.last,(s2.pl.getD z.toNat zPl).kind=3:=fun z hz=>by
 obtain⟨q,rfl,hq⟩:=h.fa.lst z hz;rw[Int.toNat_natCast];exact (hq.keep h.kp).kind
structure BoxSet (w0:W0)(W Y Z:World)(gb:Nat)(h0 h1 vs v:Value)(its:List S94)(v0:Value)(bp br:Nat)(pc:Array Value):Prop where
 rs:RS w0 Z gb h0 h1 vs v its
 fr:FrN W Z bp br pc
 kv:KeptV W Z gb v0
 same:Same3 Y Z
theorem Zpv {w0:W0}{W Y:World}{gb:Nat}{h0 h1 vs v v0:Value}{its:List S94}{bp br bx:Nat}{pc cs:Array Value}(hv:RS w0 Y gb h0 h1 vs v its)(hf:FrN W Y bp br pc)(hk:KeptV W Y gb v0)(hx:Y.heap[bx]?=some (.cells cs 132 (0,0)))(hne:bx≠br)(hge:W.heap.size≤bx)(hw:w0.heap.size≤W.heap.size)(j:Nat)(u:Value) :
 BoxSet w0 W Y (Y.setCell ⟨bx,j,none⟩ u) gb h0 h1 vs v its v0 bp br pc:=by
 have hkp:Kept Y (Y.setCell ⟨bx,j,none⟩ u) (fun k=>k=bx):=⟨by simp[World.setCell],fun i _ hn=>Below.heap_setCell Y ⟨bx,j,none⟩ u i (fun he=>hn he)⟩
 refine⟨hv.other hx hkp (Below.setCell hv.bel (show w0.heap.size≤(⟨bx,j,none⟩:Addr).block from Nat.le_trans hw hge) u),⟨?_,?_,hf.lo,by rw[show (Y.setCell ⟨bx,j,none⟩ u).heap.size=Y.heap.size from by simp[World.setCell]];exact hf.sz⟩,hk.then_ hkp (fun k hk'=>.inr (by rw[hk'];exact hge)),Zko hx hkp⟩
 ·exact (hkp.2 bp (Zbj hf.p) (fun he=>by subst he;have h2:=hf.p;rw[hx]at h2;injection h2 with hc;injection hc with _ hc;exact absurd hc (by decide))).trans hf.p
 ·exact (hkp.2 br (Zbj hf.r) (fun he=>hne he.symm)).trans hf.r
set_option maxHeartbeats 8000000 in
theorem node_seq (n:Nat)(hw:NdC n)(hwg:Znd n)(w0:W0)(W:World)(gb:Nat)(h0 h1 vs v:Value)(s:St)(its:List S94)(b:Nat)(p:S76)(vp:Value)(h:RS w0 W gb h0 h1 vs v its)(hr:Rel s its)(hg:Good s)(hkb:KB s)(hb:Pend b s)(hp:Znk w0 p vp)(hk:p.f0=5)
 (hc1:2≤p.f3.length) (hok:Zen n (Zaj p.f3 0)) (hok2:Zen n (Zaj p.f3 1)) (hpk:Zum n (Zaj p.f3 0)) (hpk2:Zum n (Zaj p.f3 1)) (hlen:s.pl.length+(Zcx n (Zaj p.f3 0)+Zcx n (Zaj p.f3 1))≤90000) :
 Calls Tryz.prog 65 #[.pointer (some ⟨gb,0,none⟩),vp] W (NdE w0 W gb h0 h1 vs v its
  (Zst (Zau n b (Zaj p.f3 0) s).1 (Zau n b (Zaj p.f3 1) (Zau n b (Zaj p.f3 0) s).2).1)
  ((Zau n b (Zaj p.f3 1) (Zau n b (Zaj p.f3 0) s).2).2.link (Zau n b (Zaj p.f3 0) s).1.last (Zau n b (Zaj p.f3 1) (Zau n b (Zaj p.f3 0) s).2).1.first)):=by
 obtain⟨A1,c1,A2,c2,A3,c3,rfl,l1,g1,l2,g2,l3,g3⟩:=hp;rw[hk];have HV:=Zaa.mk h;obtain⟨ad,D1,d1,D2,d2,D3,d3,rfl,hq,hcells⟩:=kid0 g3 (by omega);obtain⟨F1,f1,F2,f2,F3,f3,hqr,hcells2⟩:=kid1 g3 (by omega);have hwq:=hwg b (Zaj p.f3 0) s hg hb.1;have hown:=Zfc n b (Zaj p.f3 0) s hb;have hpend:=hb.walk n b (Zaj p.f3 0);have hkb2:=Zlk n b (Zaj p.f3 0) s hkb;have hkp:=Zfi n b (Zaj p.f3 1) (Zau n b (Zaj p.f3 0) s).2;have hkp0:=Zfi n b (Zaj p.f3 0) s;have hc:=fun W v hv=>hw w0 W gb h0 h1 vs v s its b (Zaj p.f3 0) _ hv hr hg hkb hb hok hpk (by omega) hq
 generalize (Zau n b (Zaj p.f3 0) s).1=x at *;generalize (Zau n b (Zaj p.f3 0) s).2=sa at *;obtain⟨hga,hla,hra1,hra2⟩:=hwq;have hwr:=hwg b (Zaj p.f3 1) sa hga hpend.1;have hown2:=Zfc n b (Zaj p.f3 1) sa hpend;have hd:=fun W v its' hv hrl=>hw w0 W gb h0 h1 vs v sa its' b (Zaj p.f3 1) _ hv hrl hga hkb2 hpend hok2 hpk2 (by omega) hqr
 generalize (Zau n b (Zaj p.f3 1) sa).1=y at *;generalize (Zau n b (Zaj p.f3 1) sa).2=s2 at *;obtain⟨hg2,hl2,hrb1,hrb2⟩:=hwr;have HTW:Zaa (Two b s.pl.length sa.pl.length sa s2 x y):=⟨⟨hown,hown2,hkp,rfl,hkp0.len⟩⟩
 have HXF:Zaa (Ris s2.pl.length x.first):=⟨hra1.mono (by omega)⟩
 have HXL:Zaa (Ris s2.pl.length x.last):=⟨hra2.mono (by omega)⟩
 have HYF:Zaa (Ris s2.pl.length y.first):=⟨hrb1.mono (by omega)⟩
 have HYL:Zaa (Ris s2.pl.length y.last):=⟨hrb2.mono (by omega)⟩
 have HG2:=Zaa.mk hg2;have HC:=Zaa.mk hc;have HD:=Zaa.mk hd;have HCE:=Zaa.mk hcells;have HCF:=Zaa.mk hcells2;have HLN:=Zaa.mk hr.len;have HL2:Zaa (s2.pl.length≤100000):=⟨by omega⟩
 have hLS:Zaa (s.pl.length≤sa.pl.length):=⟨hkp0.len⟩
 clear h hr hg hkb hkb2 hb g1 g2 g3 hw hwg hq hqr hok hok2 hpk hpk2 hc hd hcells hcells2 hg2 hga hra1 hra2 hrb1 hrb2 hown hown2 hkp hkp0 hpend hl2 hla;generalize Zaj p.f3 0=q at *;generalize Zaj p.f3 1=r at *
 go_enter Tryz.func65,Tryz.ntmps65
 go_upto_region 1 with (fail)
 have HFR:=Zaa.mk (FrN.first W #[.int .i64 5,.slice A1 p.f1.length c1,.slice A2 p.f2.length c2,.slice (some ad) p.f3.length c3]);have HVX:=Zaa.mk (HV.out.below (Zae (Zae (Below.refl _ W) (.cells #[.int .i64 5,.slice A1 p.f1.length c1,.slice A2 p.f2.length c2,.slice (some ad) p.f3.length c3] 76)) (.cells Zck 132)));have HKX:=Zaa.mk (KeptV.of_below (Zae (Zae (Below.refl _ W) (.cells #[.int .i64 5,.slice A1 p.f1.length c1,.slice A2 p.f2.length c2,.slice (some ad) p.f3.length c3] 76)) (.cells Zck 132)) gb v);generalize (W.alloc (.cells #[.int .i64 5,.slice A1 p.f1.length c1,.slice A2 p.f2.length c2,.slice (some ad) p.f3.length c3] 76)).alloc (.cells Zck 132)=X at *;generalize W.heap.size+1=br at *;generalize W.heap.size=bp at *;have p0:=HFR.out.cl.p 0 _ rfl;have p3:=HFR.out.cl.p 3 _ rfl;obtain⟨q0,q1,q2,q3⟩:=HCE.out X HVX.out.bel;have hl0:(0:Int)<(p.f3.length:Int):=by omega
 have hl1:(1:Int)<(p.f3.length:Int):=by omega
 go_upto_region 17 with (go_at_call 65;(with_reducible refine (HC.out _ _ HVX.out).mono ?_);rintro e w5 ⟨x1,x2,v5,its5,rfl,hr1,hr2,hv5,hrel5,hk5,hn5,hfo5⟩;obtain⟨B1,e1,rfl,_,_⟩:=hr1.C;obtain⟨B2,e2,rfl,_,_⟩:=hr2.C;have HFR5:=Zaa.mk (HFR.out.kept HVX.out hk5);have HR1:=Zaa.mk hr1;have HR2:=Zaa.mk hr2;have HV5:=Zaa.mk hv5;have HRL5:=Zaa.mk hrel5;have HK5:=Zaa.mk hk5;have HN5:=Zaa.mk hn5;have HFO5:=Zaa.mk hfo5;clear hr1 hr2 hv5 hrel5 hk5 hn5 hfo5)
 have hb6:=Zae (Below.refl _ w5) (.cells (Zht x.empty (.slice B1 x.first.length e1) (.slice B2 x.last.length e2)) 132);have HFR6:=Zaa.mk (HFR5.out.below hb6);have HV6:=Zaa.mk (HV5.out.below hb6);have HN6:Zaa (NewOr W v v5):=⟨HN5.out.elim .inl (fun⟨g,h1,h2⟩=>.inr ⟨g,h1,Nat.le_trans HKX.out.1 h2⟩)⟩
 have HK6:=Zaa.mk ((HKX.out.trans HK5.out (NewOr.refl _ _)).trans (v1:=v5) (KeptV.of_below hb6 gb v5) HN6.out);have HB9:=Zaa.mk (Zaq w5 (.cells (Zht x.empty (.slice B1 x.first.length e1) (.slice B2 x.last.length e2)) 132));have HR1:=Zaa.mk (Zap HR1.out hb6);have HR2:=Zaa.mk (Zap HR2.out hb6);clear hb6 q0 q1 q2 q3 p0 p3;generalize w5.alloc (.cells (Zht x.empty (.slice B1 x.first.length e1) (.slice B2 x.last.length e2)) 132)=X6 at *;generalize w5.heap.size=b9 at *;have p3:=HFR6.out.cl.p 3 _ rfl;obtain⟨q0,q1,q2,q3⟩:=HCF.out X6 HV6.out.bel;have HD6:=Zaa.mk (HD.out X6 v5 its5 HV6.out HRL5.out)
 go_upto_region 18 with (go_at_call 65;(with_reducible refine HD6.out.mono ?_);rintro e w7 ⟨x1,x2,v7,its7,rfl,hr1,hr2,hv7,hrel7,hk7,hn7,hfo7⟩;obtain⟨C1,j1,rfl,_,_⟩:=hr1.C;obtain⟨C2,j2,rfl,_,_⟩:=hr2.C;have HFR7:=Zaa.mk (HFR6.out.kept HV6.out hk7);have HS1:=Zaa.mk hr1;have HS2:=Zaa.mk hr2;have HV7:=Zaa.mk hv7;have HRL7:=Zaa.mk hrel7;have HK7:=Zaa.mk hk7;have HN7:=Zaa.mk hn7;have HFO7:=Zaa.mk hfo7;clear hr1 hr2 hv7 hrel7 hk7 hn7 hfo7)
 have hb8:=Zae (Below.refl _ w7) (.cells (Zht y.empty (.slice C1 y.first.length j1) (.slice C2 y.last.length j2)) 132);have h367:=HV6.out.same3 HK7.out;have HFR8:=Zaa.mk (HFR7.out.below hb8);have HVX8:=Zaa.mk (HV7.out.below hb8);have HN8:=Zaa.mk (NewOr.trans HN6.out HN7.out HK6.out.1);have HK8:=Zaa.mk ((HK6.out.trans HK7.out HN6.out).trans (v1:=v7) (KeptV.of_below hb8 gb v7) HN8.out);have HB9:=Zaa.mk (Zag (Zhu HV6.out HK7.out HB9.out) hb8);have HB10:=Zaa.mk (Zaq w7 (.cells (Zht y.empty (.slice C1 y.first.length j1) (.slice C2 y.last.length j2)) 132));have HR1:=Zaa.mk (Zap (HR1.out.same h367) hb8);have HR2:=Zaa.mk (Zap (HR2.out.same h367) hb8);have HS1:=Zaa.mk (Zap HS1.out hb8);have HS2:=Zaa.mk (Zap HS2.out hb8);have HFO8:Zaa (Fore its its7):=⟨HFO5.out.trans HFO7.out (by rw[HLN.out,HRL5.out.len];exact hLS.out)⟩
 clear hb8 h367 q0 q1 q2 q3 p3 hl0 hl1;generalize w7.alloc (.cells (Zht y.empty (.slice C1 y.first.length j1) (.slice C2 y.last.length j2)) 132)=X8 at *;generalize w7.heap.size=b10 at *;have hl7:=HRL7.out.len;have HLI:=Zaa.mk (Zoh w0 X8 gb h0 h1 vs v7 its7 HVX8.out _ _ x.last y.first HR2.out HS1.out (by rw[hl7];exact HXL.out) (by rw[hl7];exact HYF.out) (HRL7.out.nx HG2.out) (by rw[hl7];exact HL2.out));have t2:=(Zac HB9.out 2).trans rfl;have t1:=(Zac HB10.out 1).trans rfl
 go_upto_region 19 with (go_at_call 92;(with_reducible refine HLI.out.mono ?_);rintro e w9 ⟨rfl,hv9,hk9⟩;have HV9:=Zaa.mk hv9;have HK9b:=Zaa.mk hk9;clear hv9 hk9)
 clear t1 t2 hl7;have HFR9:=Zaa.mk (HFR8.out.kept HVX8.out HK9b.out);have HK9:=Zaa.mk (HK8.out.trans HK9b.out HN8.out);have HREL:=Zaa.mk (HRL7.out.link (frm:=x.last) (tt:=y.first) HTW.out.lstK);have HFOR:=Zaa.mk (HFO8.out.link x.last y.first (by rw[HLN.out];exact HTW.out.fa.lstG) x.last.length (Nat.le_refl _));have h89:=HVX8.out.same3 HK9b.out;have HB9:=Zaa.mk (Zhu HVX8.out HK9b.out HB9.out);have HB10:=Zaa.mk (Zhu HVX8.out HK9b.out HB10.out);have HLB:Zaa (b9<w9.heap.size∧b10<w9.heap.size):=⟨Zbj HB9.out,Zbj HB10.out⟩
 have HR1:=Zaa.mk (HR1.out.same h89);have HR2:=Zaa.mk (HR2.out.same h89);have HS1:=Zaa.mk (HS1.out.same h89);have HS2:=Zaa.mk (HS2.out.same h89);clear h89;cases hxe:x.empty with
 | true=>
  rw[hxe]at HB9;cases hye:y.empty with
  | true=>
   rw[hye]at HB10;have t0:=(Zac HB9.out 0).trans rfl;have t0b:=(Zac HB10.out 0).trans rfl;have t1:=(Zac HB9.out 1).trans rfl;have t2b:=(Zac HB10.out 2).trans rfl
   go_upto_region 20 with (fail)
   have hb11:=Zae (Below.refl _ w9) (.cells (Zht true (.slice B1 x.first.length e1) (.slice C2 y.last.length j2)) 132);have HBX:=Zaa.mk (Zaq w9 (.cells (Zht true (.slice B1 x.first.length e1) (.slice C2 y.last.length j2)) 132));have HFY:=Zaa.mk (HFR9.out.below hb11);have HVY:=Zaa.mk (HV9.out.below hb11);have HKY:=Zaa.mk (HK9.out.trans (v1:=v7) (KeptV.of_below hb11 gb v7) HN8.out);have HB9:=Zaa.mk (Zag HB9.out hb11);have HB10:=Zaa.mk (Zag HB10.out hb11);have HR1:=Zaa.mk (Zap HR1.out hb11);have HR2:=Zaa.mk (Zap HR2.out hb11);have HS1:=Zaa.mk (Zap HS1.out hb11);have HS2:=Zaa.mk (Zap HS2.out hb11);have HNE:Zaa (w9.heap.size≠br∧W.heap.size≤w9.heap.size∧w9.heap.size≠b9∧w9.heap.size≠b10):=⟨by have h1:=Zbj HFR9.out.r;have h2:=HFR9.out.sz;have h3:=HLB.out;omega⟩
   clear hb11 t0 t0b t1 t2b;generalize w9.alloc (.cells (Zht true (.slice B1 x.first.length e1) (.slice C2 y.last.length j2)) 132)=Y0 at *;generalize w9.heap.size=b11 at *;have ta:=(Zac HB9.out 0).trans rfl;have tx:=(Zac HBX.out 1).trans rfl;have tc:=(Zac HB10.out 1).trans rfl;have HAD:=Zaa.mk (Zfh B1 e1 x.first C1 j1 y.first Y0 (Zgd HR1.out) (Zgd HS1.out) (by have:=HXF.out.len;have:=HYF.out.len;have:=HL2.out;omega) HXF.out.1)
   go_upto_region 22 with (go_at_call 43;(with_reducible refine HAD.out.mono ?_);rintro e w10 ⟨u10,rfl,hu10,hb10⟩;obtain⟨A10,c10,rfl⟩:=Kd.R_slice hu10;have HU10:=Zaa.mk (HVY.out.ri hu10 (Nat.le_refl _));have HVY:=Zaa.mk (HVY.out.below hb10);have HFY:=Zaa.mk (HFY.out.below hb10);have HKY:=Zaa.mk (HKY.out.trans (v1:=v7) (KeptV.of_below hb10 gb v7) HN8.out);have HBX:=Zaa.mk (Zag HBX.out hb10);have tx:=(Zac HBX.out 1).trans rfl;have fx:=Zat HBX.out 1;have HB9:=Zaa.mk (Zag HB9.out hb10);have HB10:=Zaa.mk (Zag HB10.out hb10);have HR2:=Zaa.mk (Zap HR2.out hb10);have HS2:=Zaa.mk (Zap HS2.out hb10);clear hu10 hb10)
   have HBS:=Zaa.mk (Zpv HVY.out HFY.out HKY.out HBX.out HNE.out.1 HNE.out.2.1 HV.out.bel.size 1 (.slice A10 (Zay x.first y.first).length c10));have HBX:=Zaa.mk (Zcd (cs:=Zht true (.slice B1 x.first.length e1) (.slice C2 y.last.length j2)) HBX.out 1 (.slice A10 (Zay x.first y.first).length c10) rfl);have HB9:=Zaa.mk (Zdv HB9.out (p:=⟨b11,1,none⟩) (fun h=>HNE.out.2.2.1 h.symm) (.slice A10 (Zay x.first y.first).length c10));have HB10:=Zaa.mk (Zdv HB10.out (p:=⟨b11,1,none⟩) (fun h=>HNE.out.2.2.2 h.symm) (.slice A10 (Zay x.first y.first).length c10));have HU10:=Zaa.mk (HU10.out.same HBS.out.same);have HR2:=Zaa.mk (HR2.out.same HBS.out.same);have HS2:=Zaa.mk (HS2.out.same HBS.out.same);have HVY:=Zaa.mk HBS.out.rs;have HFY:=Zaa.mk HBS.out.fr;have HKY:=Zaa.mk HBS.out.kv;clear HBS HAD ta tx tc fx;generalize w10.setCell ⟨b11,1,none⟩ (.slice A10 (Zay x.first y.first).length c10)=Y1 at *;have tb:=(Zac HB10.out 0).trans rfl;have tx:=(Zac HBX.out 2).trans rfl;have tc:=(Zac HB9.out 2).trans rfl;have HAD:=Zaa.mk (Zfh C2 j2 y.last B2 e2 x.last Y1 (Zgd HS2.out) (Zgd HR2.out) (by have:=HXL.out.len;have:=HYL.out.len;have:=HL2.out;omega) HYL.out.1)
   go_upto_region 24 with (go_at_call 43;(with_reducible refine HAD.out.mono ?_);rintro e w12 ⟨u12,rfl,hu12,hb12⟩;obtain⟨A12,c12,rfl⟩:=Kd.R_slice hu12;have HU12:=Zaa.mk (HVY.out.ri hu12 (Nat.le_refl _));have HVY:=Zaa.mk (HVY.out.below hb12);have HFY:=Zaa.mk (HFY.out.below hb12);have HKY:=Zaa.mk (HKY.out.trans (v1:=v7) (KeptV.of_below hb12 gb v7) HN8.out);have HBX:=Zaa.mk (Zag HBX.out hb12);have tx:=(Zac HBX.out 2).trans rfl;have fx:=Zat HBX.out 2;have HU10:=Zaa.mk (Zap HU10.out hb12);clear hu12 hb12)
   have HBS:=Zaa.mk (Zpv HVY.out HFY.out HKY.out HBX.out HNE.out.1 HNE.out.2.1 HV.out.bel.size 2 (.slice A12 (Zay y.last x.last).length c12));have HBX:=Zaa.mk (Zcd (cs:=Zht true (.slice A10 (Zay x.first y.first).length c10) (.slice C2 y.last.length j2)) HBX.out 2 (.slice A12 (Zay y.last x.last).length c12) rfl);have HU12:=Zaa.mk (HU12.out.same HBS.out.same);have HU10:=Zaa.mk (HU10.out.same HBS.out.same);have HVY:=Zaa.mk HBS.out.rs;have HFY:=Zaa.mk HBS.out.fr;have HKY:=Zaa.mk HBS.out.kv;clear HBS HAD tb tx tc fx;generalize w12.setCell ⟨b11,2,none⟩ (.slice A12 (Zay y.last x.last).length c12)=Y2 at *;have z0:=(Zac HBX.out 0).trans rfl;have z1:=(Zac HBX.out 1).trans rfl;have z2:=(Zac HBX.out 2).trans rfl;have r0:=HFY.out.cl.r 0 _ rfl;have r1:=HFY.out.cl.r 1 _ rfl;have r2:=HFY.out.cl.r 2 _ rfl;have rf:=HFY.out.cl.f;go_wp2
   refine bodyPost_ret (results_cell_row rfl _ _ br 132 #[.bool true,.slice A10 (Zay x.first y.first).length c10,.slice A12 (Zay y.last x.last).length c12] (0,0) _ rfl (Zdc HFY.out.r _ _ _) Tryz.underlying132 rfl (by kernel_rfl)) rfl ?_
   have hsx:Zst x y=⟨Zay x.first y.first,Zay x.last y.last,true⟩:=by unfold Zst;rw[hxe,hye];rfl
   have r12:=HU12.out;rw[Zii]at r12;rw[hsx];rw[Zii y.last x.last];exact Zfe (x:=⟨Zay x.first y.first,Zay x.last y.last,true⟩) (s':=s2.link x.last y.first) HV.out HFY.out HVY.out HKY.out HN8.out HU10.out r12 HREL.out HFOR.out
  | false=>
   rw[hye]at HB10;have t0:=(Zac HB9.out 0).trans rfl;have t0b:=(Zac HB10.out 0).trans rfl;have t1:=(Zac HB9.out 1).trans rfl;have t2b:=(Zac HB10.out 2).trans rfl
   go_upto_region 20 with (fail)
   have hb11:=Zae (Below.refl _ w9) (.cells (Zht false (.slice B1 x.first.length e1) (.slice C2 y.last.length j2)) 132);have HBX:=Zaa.mk (Zaq w9 (.cells (Zht false (.slice B1 x.first.length e1) (.slice C2 y.last.length j2)) 132));have HFY:=Zaa.mk (HFR9.out.below hb11);have HVY:=Zaa.mk (HV9.out.below hb11);have HKY:=Zaa.mk (HK9.out.trans (v1:=v7) (KeptV.of_below hb11 gb v7) HN8.out);have HB9:=Zaa.mk (Zag HB9.out hb11);have HB10:=Zaa.mk (Zag HB10.out hb11);have HR1:=Zaa.mk (Zap HR1.out hb11);have HR2:=Zaa.mk (Zap HR2.out hb11);have HS1:=Zaa.mk (Zap HS1.out hb11);have HS2:=Zaa.mk (Zap HS2.out hb11);have HNE:Zaa (w9.heap.size≠br∧W.heap.size≤w9.heap.size∧w9.heap.size≠b9∧w9.heap.size≠b10):=⟨by have h1:=Zbj HFR9.out.r;have h2:=HFR9.out.sz;have h3:=HLB.out;omega⟩
   clear hb11 t0 t0b t1 t2b;generalize w9.alloc (.cells (Zht false (.slice B1 x.first.length e1) (.slice C2 y.last.length j2)) 132)=Y0 at *;generalize w9.heap.size=b11 at *;have ta:=(Zac HB9.out 0).trans rfl;have tx:=(Zac HBX.out 1).trans rfl;have tc:=(Zac HB10.out 1).trans rfl;have HAD:=Zaa.mk (Zfh B1 e1 x.first C1 j1 y.first Y0 (Zgd HR1.out) (Zgd HS1.out) (by have:=HXF.out.len;have:=HYF.out.len;have:=HL2.out;omega) HXF.out.1)
   go_upto_region 22 with (go_at_call 43;(with_reducible refine HAD.out.mono ?_);rintro e w10 ⟨u10,rfl,hu10,hb10⟩;obtain⟨A10,c10,rfl⟩:=Kd.R_slice hu10;have HU10:=Zaa.mk (HVY.out.ri hu10 (Nat.le_refl _));have HVY:=Zaa.mk (HVY.out.below hb10);have HFY:=Zaa.mk (HFY.out.below hb10);have HKY:=Zaa.mk (HKY.out.trans (v1:=v7) (KeptV.of_below hb10 gb v7) HN8.out);have HBX:=Zaa.mk (Zag HBX.out hb10);have tx:=(Zac HBX.out 1).trans rfl;have fx:=Zat HBX.out 1;have HB9:=Zaa.mk (Zag HB9.out hb10);have HB10:=Zaa.mk (Zag HB10.out hb10);have HR2:=Zaa.mk (Zap HR2.out hb10);have HS2:=Zaa.mk (Zap HS2.out hb10);clear hu10 hb10)
   have HBS:=Zaa.mk (Zpv HVY.out HFY.out HKY.out HBX.out HNE.out.1 HNE.out.2.1 HV.out.bel.size 1 (.slice A10 (Zay x.first y.first).length c10));have HBX:=Zaa.mk (Zcd (cs:=Zht false (.slice B1 x.first.length e1) (.slice C2 y.last.length j2)) HBX.out 1 (.slice A10 (Zay x.first y.first).length c10) rfl);have HB9:=Zaa.mk (Zdv HB9.out (p:=⟨b11,1,none⟩) (fun h=>HNE.out.2.2.1 h.symm) (.slice A10 (Zay x.first y.first).length c10));have HB10:=Zaa.mk (Zdv HB10.out (p:=⟨b11,1,none⟩) (fun h=>HNE.out.2.2.2 h.symm) (.slice A10 (Zay x.first y.first).length c10));have HU10:=Zaa.mk (HU10.out.same HBS.out.same);have HR2:=Zaa.mk (HR2.out.same HBS.out.same);have HS2:=Zaa.mk (HS2.out.same HBS.out.same);have HVY:=Zaa.mk HBS.out.rs;have HFY:=Zaa.mk HBS.out.fr;have HKY:=Zaa.mk HBS.out.kv;clear HBS HAD ta tx tc fx;generalize w10.setCell ⟨b11,1,none⟩ (.slice A10 (Zay x.first y.first).length c10)=Y1 at *;have tb:=(Zac HB10.out 0).trans rfl
   go_upto_region 24 with (fail)
   clear tb;have z0:=(Zac HBX.out 0).trans rfl;have z1:=(Zac HBX.out 1).trans rfl;have z2:=(Zac HBX.out 2).trans rfl;have r0:=HFY.out.cl.r 0 _ rfl;have r1:=HFY.out.cl.r 1 _ rfl;have r2:=HFY.out.cl.r 2 _ rfl;have rf:=HFY.out.cl.f;go_wp2
   refine bodyPost_ret (results_cell_row rfl _ _ br 132 #[.bool false,.slice A10 (Zay x.first y.first).length c10,.slice C2 y.last.length j2] (0,0) _ rfl (Zdc HFY.out.r _ _ _) Tryz.underlying132 rfl (by kernel_rfl)) rfl ?_
   have hsx:Zst x y=⟨Zay x.first y.first,y.last,false⟩:=by unfold Zst;rw[hxe,hye];rfl
   rw[hsx];exact Zfe (x:=⟨Zay x.first y.first,y.last,false⟩) (s':=s2.link x.last y.first) HV.out HFY.out HVY.out HKY.out HN8.out HU10.out HS2.out HREL.out HFOR.out
 | false=>
  rw[hxe]at HB9;cases hye:y.empty with
  | true=>
   rw[hye]at HB10;have t0:=(Zac HB9.out 0).trans rfl;have t0b:=(Zac HB10.out 0).trans rfl;have t1:=(Zac HB9.out 1).trans rfl;have t2b:=(Zac HB10.out 2).trans rfl
   go_upto_region 20 with (fail)
   have hb11:=Zae (Below.refl _ w9) (.cells (Zht false (.slice B1 x.first.length e1) (.slice C2 y.last.length j2)) 132);have HBX:=Zaa.mk (Zaq w9 (.cells (Zht false (.slice B1 x.first.length e1) (.slice C2 y.last.length j2)) 132));have HFY:=Zaa.mk (HFR9.out.below hb11);have HVY:=Zaa.mk (HV9.out.below hb11);have HKY:=Zaa.mk (HK9.out.trans (v1:=v7) (KeptV.of_below hb11 gb v7) HN8.out);have HB9:=Zaa.mk (Zag HB9.out hb11);have HB10:=Zaa.mk (Zag HB10.out hb11);have HR1:=Zaa.mk (Zap HR1.out hb11);have HR2:=Zaa.mk (Zap HR2.out hb11);have HS1:=Zaa.mk (Zap HS1.out hb11);have HS2:=Zaa.mk (Zap HS2.out hb11);have HNE:Zaa (w9.heap.size≠br∧W.heap.size≤w9.heap.size∧w9.heap.size≠b9∧w9.heap.size≠b10):=⟨by have h1:=Zbj HFR9.out.r;have h2:=HFR9.out.sz;have h3:=HLB.out;omega⟩
   clear hb11 t0 t0b t1 t2b;generalize w9.alloc (.cells (Zht false (.slice B1 x.first.length e1) (.slice C2 y.last.length j2)) 132)=Y0 at *;generalize w9.heap.size=b11 at *;have ta:=(Zac HB9.out 0).trans rfl
   go_upto_region 22 with (fail)
   clear ta;have tb:=(Zac HB10.out 0).trans rfl;have tx:=(Zac HBX.out 2).trans rfl;have tc:=(Zac HB9.out 2).trans rfl;have HAD:=Zaa.mk (Zfh C2 j2 y.last B2 e2 x.last Y0 (Zgd HS2.out) (Zgd HR2.out) (by have:=HXL.out.len;have:=HYL.out.len;have:=HL2.out;omega) HYL.out.1)
   go_upto_region 24 with (go_at_call 43;(with_reducible refine HAD.out.mono ?_);rintro e w12 ⟨u12,rfl,hu12,hb12⟩;obtain⟨A12,c12,rfl⟩:=Kd.R_slice hu12;have HU12:=Zaa.mk (HVY.out.ri hu12 (Nat.le_refl _));have HVY:=Zaa.mk (HVY.out.below hb12);have HFY:=Zaa.mk (HFY.out.below hb12);have HKY:=Zaa.mk (HKY.out.trans (v1:=v7) (KeptV.of_below hb12 gb v7) HN8.out);have HBX:=Zaa.mk (Zag HBX.out hb12);have tx:=(Zac HBX.out 2).trans rfl;have fx:=Zat HBX.out 2;have HR1:=Zaa.mk (Zap HR1.out hb12);clear hu12 hb12)
   have HBS:=Zaa.mk (Zpv HVY.out HFY.out HKY.out HBX.out HNE.out.1 HNE.out.2.1 HV.out.bel.size 2 (.slice A12 (Zay y.last x.last).length c12));have HBX:=Zaa.mk (Zcd (cs:=Zht false (.slice B1 x.first.length e1) (.slice C2 y.last.length j2)) HBX.out 2 (.slice A12 (Zay y.last x.last).length c12) rfl);have HU12:=Zaa.mk (HU12.out.same HBS.out.same);have HR1:=Zaa.mk (HR1.out.same HBS.out.same);have HVY:=Zaa.mk HBS.out.rs;have HFY:=Zaa.mk HBS.out.fr;have HKY:=Zaa.mk HBS.out.kv;clear HBS HAD tb tx tc fx;generalize w12.setCell ⟨b11,2,none⟩ (.slice A12 (Zay y.last x.last).length c12)=Y2 at *;have z0:=(Zac HBX.out 0).trans rfl;have z1:=(Zac HBX.out 1).trans rfl;have z2:=(Zac HBX.out 2).trans rfl;have r0:=HFY.out.cl.r 0 _ rfl;have r1:=HFY.out.cl.r 1 _ rfl;have r2:=HFY.out.cl.r 2 _ rfl;have rf:=HFY.out.cl.f;go_wp2
   refine bodyPost_ret (results_cell_row rfl _ _ br 132 #[.bool false,.slice B1 x.first.length e1,.slice A12 (Zay y.last x.last).length c12] (0,0) _ rfl (Zdc HFY.out.r _ _ _) Tryz.underlying132 rfl (by kernel_rfl)) rfl ?_
   have hsx:Zst x y=⟨x.first,Zay x.last y.last,false⟩:=by unfold Zst;rw[hxe,hye];rfl
   have r12:=HU12.out;rw[Zii]at r12;rw[hsx];rw[Zii y.last x.last];exact Zfe (x:=⟨x.first,Zay x.last y.last,false⟩) (s':=s2.link x.last y.first) HV.out HFY.out HVY.out HKY.out HN8.out HR1.out r12 HREL.out HFOR.out
  | false=>
   rw[hye]at HB10;have t0:=(Zac HB9.out 0).trans rfl;have t0b:=(Zac HB10.out 0).trans rfl;have t1:=(Zac HB9.out 1).trans rfl;have t2b:=(Zac HB10.out 2).trans rfl
   go_upto_region 20 with (fail)
   have hb11:=Zae (Below.refl _ w9) (.cells (Zht false (.slice B1 x.first.length e1) (.slice C2 y.last.length j2)) 132);have HBX:=Zaa.mk (Zaq w9 (.cells (Zht false (.slice B1 x.first.length e1) (.slice C2 y.last.length j2)) 132));have HFY:=Zaa.mk (HFR9.out.below hb11);have HVY:=Zaa.mk (HV9.out.below hb11);have HKY:=Zaa.mk (HK9.out.trans (v1:=v7) (KeptV.of_below hb11 gb v7) HN8.out);have HB9:=Zaa.mk (Zag HB9.out hb11);have HB10:=Zaa.mk (Zag HB10.out hb11);have HR1:=Zaa.mk (Zap HR1.out hb11);have HR2:=Zaa.mk (Zap HR2.out hb11);have HS1:=Zaa.mk (Zap HS1.out hb11);have HS2:=Zaa.mk (Zap HS2.out hb11);have HNE:Zaa (w9.heap.size≠br∧W.heap.size≤w9.heap.size∧w9.heap.size≠b9∧w9.heap.size≠b10):=⟨by have h1:=Zbj HFR9.out.r;have h2:=HFR9.out.sz;have h3:=HLB.out;omega⟩
   clear hb11 t0 t0b t1 t2b;generalize w9.alloc (.cells (Zht false (.slice B1 x.first.length e1) (.slice C2 y.last.length j2)) 132)=Y0 at *;generalize w9.heap.size=b11 at *;have ta:=(Zac HB9.out 0).trans rfl
   go_upto_region 22 with (fail)
   clear ta;have tb:=(Zac HB10.out 0).trans rfl
   go_upto_region 24 with (fail)
   clear tb;have z0:=(Zac HBX.out 0).trans rfl;have z1:=(Zac HBX.out 1).trans rfl;have z2:=(Zac HBX.out 2).trans rfl;have r0:=HFY.out.cl.r 0 _ rfl;have r1:=HFY.out.cl.r 1 _ rfl;have r2:=HFY.out.cl.r 2 _ rfl;have rf:=HFY.out.cl.f;go_wp2
   refine bodyPost_ret (results_cell_row rfl _ _ br 132 #[.bool false,.slice B1 x.first.length e1,.slice C2 y.last.length j2] (0,0) _ rfl (Zdc HFY.out.r _ _ _) Tryz.underlying132 rfl (by kernel_rfl)) rfl ?_
   have hsx:Zst x y=⟨x.first,y.last,false⟩:=by unfold Zst;rw[hxe,hye];rfl
   rw[hsx];exact Zfe (x:=⟨x.first,y.last,false⟩) (s':=s2.link x.last y.first) HV.out HFY.out HVY.out HKY.out HN8.out HR1.out HS2.out HREL.out HFOR.out
def Znh (f:S94→S94)(its:List S94)(l:List Int):Nat→List S94
 | 0=>its
 | i+1=>(Znh f its l i).set (rd l i).toNat (f ((Znh f its l i).getD (rd l i).toNat z94))
theorem Zee (f:S94→S94)(its:List S94)(l:List Int):∀i,(Znh f its l i).length=its.length
 | 0=>rfl
 | i+1=>by show ((Znh f its l i).set _ _).length=_;rw[List.length_set,Zee f its l i]
theorem Zkz (f:S94→S94)(hf:∀t,f (f t)=f t)(its:List S94)(l:List Int)(hl:∀z∈l,0≤z)(q:Nat)(hq:q<its.length):∀i,i≤l.length→(Znh f its l i).getD q z94=if (q:Int)∈l.take i then f (its.getD q z94)else its.getD q z94
 | 0,_=>by simp[Znh]
 | i+1,h=>by
  have ih:=Zkz f hf its l hl q hq i (by omega);have hm:=hl _ (Zfv (show i<l.length by omega));have e:l.take (i+1)=l.take i++[rd l i]:=by
   rw[List.take_add_one,List.getElem?_eq_getElem (by omega)];unfold rd;rw[Int.toNat_natCast,List.getD_eq_getElem?_getD,List.getElem?_eq_getElem (by omega)]
   rfl
  show ((Znh f its l i).set _ _).getD q z94=_;rw[Zdr,Zee,e];by_cases hqi:(rd l i).toNat=q
  ·have hq2:(q:Int)=rd l i:=by omega
   rw[if_pos ⟨hqi,hq⟩,if_pos (List.mem_append.2 (.inr (List.mem_singleton.2 hq2))),hqi,ih]
   split
   ·exact hf _
   ·rfl
  ·rw[if_neg (fun h=>hqi h.1),ih];have hq2:¬(q:Int)=rd l i:=by omega
   by_cases h1:(q:Int)∈l.take i
   ·rw[if_pos h1,if_pos (List.mem_append.2 (.inl h1))]
   ·rw[if_neg h1,if_neg (fun h2=>(List.mem_append.1 h2).elim h1 (fun h3=>hq2 (List.mem_singleton.1 h3)))]
def Zsi (rule step owner:Int):S94:=⟨2,z76,[],false,0,rule,step,owner⟩
def Zki (k:Nat)(x:Sx)(own:List Int)(rule step owner:Int)(q:Nat)(t:S94):S94:=
 { t with f2:=if q=k then x.first else t.f2,f3:=if (q:Int)∈x.last then true else if q=k then x.empty else t.f3,f5:=if (q:Int)∈own then rule else t.f5,f6:=if (q:Int)∈own then step else t.f6,f7:=if (q:Int)∈own then owner else t.f7 }
theorem close_rel {s2:St}{its2 itsF:List S94}{k:Nat}{x:Sx}{own:List Int}{rule step owner:Int}(hr:Rel s2 its2)(hp:Pend k s2)(hkk:(s2.pl.getD k zPl).kind=2)(hks:(s2.pl.getD k zPl).shape=some k)
 (hit:its2.getD k z94=Zsi rule step owner) (how:OwnW k (k+1) s2 x) (hown:∀q:Nat,(q:Int)∈own↔Itm k (k+1) s2 q) (ho:owner=Zez k rule) (hsh:∀q,q<s2.pl.length→(s2.pl.getD q zPl).shape=some k→q=k∨Itm k (k+1) s2 q)
 (hl:itsF.length=its2.length) (hF:∀q,q<its2.length→itsF.getD q z94=Zki k x own rule step owner q (its2.getD q z94)):Rel (s2.close k x rule step) itsF:=by
 have hlast:∀q:Nat,(q:Int)∈x.last→Itm k (k+1) s2 q:=fun q hq=>by
  obtain⟨r,e,hr⟩:=how.lst _ hq;obtain rfl:q=r:=by omega
  exact hr
 have kown:¬((k:Nat):Int)∈own:=fun h=>by have:=((hown k).1 h).ge;omega
 have klast:¬((k:Nat):Int)∈x.last:=fun h=>by have:=(hlast k h).ge;omega
 refine⟨hl.trans hr.len,fun q hq=>?_⟩;have hq:q<s2.pl.length:=hq;have h1:=hr.at_ q hq;rw[hF q (by rw[hr.len];exact hq)];show ItOk (s2.close k x rule step) q (s2.pl.getD q zPl) _;have hmem:∀b y,(b,y)∈(s2.close k x rule step).sh↔(b,y)∈s2.sh∨(b=k∧y=⟨x.first,x.last,x.empty,rule,step⟩):=fun b y=>by
  show (b,y)∈s2.sh++[(k,_)]↔_;rw[List.mem_append,List.mem_singleton,Prod.mk.injEq]
 by_cases hqk:q=k
 ·subst hqk;unfold Zki;rw[if_neg kown,if_neg kown,if_neg kown,if_neg klast,if_pos rfl,if_pos rfl,hit];rw[hit]at h1;refine⟨h1.kind,h1.p,h1.inner,(fun h=>by omega),(fun _ h=>absurd ((hmem q _).2 (.inr ⟨rfl,rfl⟩)) (h q hks hkk _)),(fun b hb y hy=>?_),(fun h=>by omega),(fun h=>by omega)⟩;rw[hks]at hb;injection hb with hb
  subst hb
  rcases (hmem q y).1 hy with hy | ⟨_,rfl⟩
  ·exact absurd hy (hp.2 y)
  ·exact⟨rfl,rfl,ho,(fun h=>by omega),fun _=>⟨rfl,rfl⟩⟩
 ·by_cases hI:Itm k (k+1) s2 q
  ·have h3:=(hown q).2 hI;have hraw:=h1.raw hI.kind (fun b hb y hy=>by
    rw[hI.shape]at hb;injection hb with hb
    subst hb;exact hp.2 y hy)
   unfold Zki;rw[if_neg hqk,if_neg hqk,if_pos h3,if_pos h3,if_pos h3,hraw];refine⟨h1.kind,h1.p,h1.inner,fun h=>h1.item h,(fun h=>absurd hI.kind h),(fun b hb y hy=>?_),(fun _ h=>absurd ((hmem k _).2 (.inr ⟨rfl,rfl⟩)) (h k hI.shape _)),(fun h=>by have:=hI.kind;omega)⟩;rw[hI.shape]at hb;injection hb with hb
   subst hb
   rcases (hmem k y).1 hy with hy | ⟨_,rfl⟩
   ·exact absurd hy (hp.2 y)
   ·refine⟨rfl,rfl,ho,fun _=>?_,fun h=>by have:=hI.kind;omega⟩;show (if (q:Int)∈x.last then true else false)=decide ((q:Int)∈x.last);by_cases hql:(q:Int)∈x.last
    ·rw[if_pos hql,decide_eq_true hql]
    ·rw[if_neg hql,decide_eq_false hql]
  ·have n1:¬(q:Int)∈own:=fun h=>hI ((hown q).1 h)
   have n2:¬(q:Int)∈x.last:=fun h=>hI (hlast q h)
   have e:Zki k x own rule step owner q (its2.getD q z94)=its2.getD q z94:=by
    unfold Zki;rw[if_neg hqk,if_neg hqk,if_neg n1,if_neg n1,if_neg n1,if_neg n2]
   rw[e];have nsh:∀b,(s2.pl.getD q zPl).shape=some b→b≠k:=fun b hb he=>by
    subst he;exact (hsh q hq hb).elim hqk hI
   refine⟨h1.kind,h1.p,h1.inner,h1.item,fun h h2=>h1.nofl h (fun b hb hk y hy=>h2 b hb hk y ((hmem b y).2 (.inl hy))),fun b hb y hy=>?_,fun h h2=>h1.raw h (fun b hb y hy=>h2 b hb y ((hmem b y).2 (.inl hy))),h1.free⟩
   rcases (hmem b y).1 hy with hy | ⟨h2,_⟩
   ·exact h1.fin b hb y hy
   ·exact absurd h2 (nsh b hb)
theorem beginT_ok {s:St}(hn:∀x,(s.pl.length,x) ∉ s.sh)(rule step owner:Int):ItOk s s.pl.length (Zbc s.pl.length) (Zsi rule step owner):=
 ⟨rfl,rfl,rfl,(fun h=>by have h:(2:Int)=3:=h;omega),fun _ _=>rfl,(fun b' h y hy=>by have e:some s.pl.length=some b':=h;injection e with e;subst e;exact absurd hy (hn y)),(fun h=>by have h:(2:Int)=3:=h;omega),(fun h=>by have h:(2:Int)=1:=h;omega)⟩
theorem shape_k {n:Nat}{p:S76}{s:St}(hg:Good s)(hkb:KB s):∀q,q<(Zau n s.pl.length p (s.add (Zbc s.pl.length))).2.pl.length→((Zau n s.pl.length p (s.add (Zbc s.pl.length))).2.pl.getD q zPl).shape=some s.pl.length→q=s.pl.length∨Itm s.pl.length (s.pl.length+1) (Zau n s.pl.length p (s.add (Zbc s.pl.length))).2 q:=by
 intro q hq hs;have hl:(s.add (Zbc s.pl.length)).pl.length=s.pl.length+1:=by simp[St.add]
 have hst:=Zfr n s.pl.length p (s.add (Zbc s.pl.length));have hkb2:=Zlk n s.pl.length p _ (hkb.add (x:=Zbc s.pl.length) (fun _=>rfl))
 rcases Nat.lt_trichotomy q s.pl.length with h1 | h1 | h1
 ·exfalso
  have h2:=(hst.old q (by omega)).shape;have e:(s.add (Zbc s.pl.length)).pl.getD q zPl=s.pl.getD q zPl:=by
   show (s.pl++[Zbc s.pl.length]).getD q zPl=_;rw[Zcg,if_neg (by omega)]
  rw[e,hs]at h2;have:=hg.ids q _ h2.symm;omega
 ·exact .inl h1
 ·refine .inr ⟨by omega,hq,?_,hs⟩
  rcases (hst.new q (by omega) hq).kind with h2 | h2
  ·have h3:=hkb2 q hq h2;rw[hs]at h3;injection h3 with h3
   omega
  ·exact h2
end Go.Proofs.YtpagbjdmiepgmaaGreatDoor.PVpa
