/- Plain: what is left of ForestMirrors. -/
import Derived.Test.YtkbhdlcphiljlaaPForestx6
import Derived.Test.YtkbhdlcphiljlaaJ
namespace Go.Proofs.Ytkbhdlcphiljlaa.PForest
open Go.RowKit Go.Proofs.YtkbhdlcphiljlaaW.PrintWords Go.Proofs.YtkbhdlcphiljlaaW.PrintLast

theorem pairs_fm (l : List S25) (hl : l.length ≤ 1000000) : forest_Pairs.f l = some (pairOf l.length (run l l.length).ev) := by unfold forest_Pairs.f; rw [if_pos hl]

theorem mir_loop (l : List S25) (hl : l.length ≤ 60) (x : List S25) (h : Mir l x) (P Q : List Int) (hP : P = pairOf l.length (run l l.length).ev) (hQ : Q = pairOf x.length (run x x.length).ev) (m : Nat) :
    ∀ i : Nat, i + m = l.length → Ev (fun q => gobolaw15_ForestMirrors.l1 q l (l.length : Int) x P Q i) true := by
  have ho := out_inv l l.length l.length (Nat.le_refl _)
  have hp := mir_pair h
  have hq : Q.length = l.length := by rw [hQ, pairOf_length, h.len]
  rw [← hP] at ho hp
  rw [← hQ] at hp
  induction m with
  | zero =>
    intro i hi
    have e1 : forest_Open.f l = some (run l l.length).o := by unfold forest_Open.f; rw [if_pos (by omega)]
    have e2 : forest_Lost.f x = some (lostOf (run x x.length).ev) := by unfold forest_Lost.f; rw [if_pos (by rw [h.len]; omega)]
    have e3 : forest_Pairs.f ([] : List S25) = some [] := by rw [pairs_fm _ (by simp)]; rfl
    have hle := mir_lost h
    refine Ev.step (f := fun q => (goboref6_Ints.f q [] []).bind fun t => some t) (fun q => ?_) (Ev.bind (ints_ref [] (by simp)) (Ev.now _))
    rw [gobolaw15_ForestMirrors.l1, if_neg (by omega), told_true, Option.bind_some, if_pos rfl, e1, Option.bind_some, e2, Option.bind_some, if_pos (by omega), e3, Option.bind_some]
  | succ m ih =>
    intro i hi
    have nx := ih (i + 1) (by omega)
    have e64 := up64 (i := i) (n := l.length) (by omega) (by omega)
    have hil : i < l.length := by omega
    have e1 : wrap64 (wrap64 ((l.length : Int) - 1) - (i : Int)) = ((l.length - 1 - i : Nat) : Int) := by unfold wrap64; omega
    refine Ev.step (fun q => ?_) nx
    rcases ho.one i hil with h1 | ⟨c, h1⟩
    · have h2 := (hp i hil).2 h1
      rw [gobolaw15_ForestMirrors.l1, if_pos (by omega), if_pos (by omega), if_pos (by rw [ho.len]; omega), rd_at h1, if_neg (by omega), e1, if_pos (by omega), if_pos (by rw [hq]; omega), rd_at h2, if_pos rfl, e64]
    · obtain ⟨h2, hc⟩ := (hp i hil).1 c h1
      have e2 : wrap64 (wrap64 ((l.length : Int) - 1) - (c : Int)) = ((l.length - 1 - c : Nat) : Int) := by unfold wrap64; omega
      rw [gobolaw15_ForestMirrors.l1, if_pos (by omega), if_pos (by omega), if_pos (by rw [ho.len]; omega), rd_at h1, if_pos (by omega), e1, if_pos (by omega), if_pos (by rw [hq]; omega), rd_at h2, e2, if_pos rfl, e64]

theorem wrap_down {i : Nat} (h : i ≤ 1000) : wrap64 ((i : Int) - 1) = (i : Int) - 1 := by unfold wrap64; omega
/-- The word, read from its end, as the law makes it: of the last i symbols. -/
structure Made (l : List S25) (i : Nat) (x : List S25) : Prop where
  len : x.length = l.length - i
  K : ∀ j, j < l.length - i → K x j = flip (K l (l.length - 1 - j))
theorem Made.next {l : List S25} {i : Nat} {x : List S25} (h : Made l (i + 1) x) (hi : i < l.length) (s : S25) (hs : s.f1 = flip (PForest.K l i)) : Made l i (x ++ [s]) := by
  refine ⟨by rw [List.length_append, List.length_singleton, h.len]; omega, fun j hj => ?_⟩
  by_cases e : j < x.length
  · rw [K_app _ _ j e]
    exact h.K j (by have := h.len; omega)
  · have hlen := h.len
    obtain rfl : j = x.length := by omega
    have := K_app' x [s] 0
    rw [Nat.add_zero] at this
    rw [this, show l.length - 1 - x.length = i by omega, ← hs]
    rfl
theorem make_loop (l : List S25) (hl : l.length ≤ 60) (i : Nat) : ∀ x : List S25, i ≤ l.length → Made l i x → Ev (fun q => gobolaw15_ForestMirrors.l0 q l (l.length : Int) x ((i : Int) - 1)) true := by
  induction i with
  | zero =>
    intro x _ h
    have hm : Mir l x := ⟨h.len, h.K⟩
    have hlen : x.length = l.length := h.len
    have lp := mir_loop l hl x hm _ _ rfl rfl l.length 0 (by omega)
    have tail : Ev (fun q => gobolaw15_ForestMirrors.j1 q l (l.length : Int) x (pairOf l.length (run l l.length).ev) (pairOf x.length (run x x.length).ev) false) true := by
      refine Ev.step (fun q => ?_) lp
      rw [gobolaw15_ForestMirrors.j1, if_neg (by decide)]
      rfl
    refine Ev.step (fun q => ?_) tail
    rw [gobolaw15_ForestMirrors.l0, if_neg (by omega), pairs_fm l (by omega), Option.bind_some, pairs_fm x (by omega), Option.bind_some, if_pos (by rw [pairOf_length]), show (((pairOf x.length (run x x.length).ev).length : Int) != (l.length : Int)) = false from by rw [pairOf_length, hlen]; simp]
  | succ i ih =>
    intro x hi h
    have hlen := h.len
    have ei : (((i + 1 : Nat) : Int) - 1) = (i : Int) := by omega
    have ew : wrap64 ((i : Int) - 1) = (i : Int) - 1 := wrap_down (by omega)
    rw [ei]
    by_cases c1 : K l i = 1
    · have c1' : (rd_T25 l (i : Int)).f1 = 1 := c1
      refine Ev.step (fun q => ?_) (ih (x ++ [⟨(rd_T25 l (i : Int)).f0, 2⟩]) (by omega) (h.next (by omega) _ (by rw [c1]; rfl)))
      rw [gobolaw15_ForestMirrors.l0, if_pos (by omega), if_pos (by omega), if_pos (by omega), if_pos c1', if_pos (by omega), ew]
    · have c1' : ¬ (rd_T25 l (i : Int)).f1 = 1 := c1
      by_cases c2 : K l i = 2
      · have c2' : (rd_T25 l (i : Int)).f1 = 2 := c2
        refine Ev.step (fun q => ?_) (ih (x ++ [⟨(rd_T25 l (i : Int)).f0, 1⟩]) (by omega) (h.next (by omega) _ (by rw [c2]; rfl)))
        rw [gobolaw15_ForestMirrors.l0, if_pos (by omega), if_pos (by omega), if_pos (by omega), if_neg c1', if_pos c2', if_pos (by omega), ew]
      · have c2' : ¬ (rd_T25 l (i : Int)).f1 = 2 := c2
        refine Ev.step (fun q => ?_) (ih (x ++ [⟨(rd_T25 l (i : Int)).f0, (rd_T25 l (i : Int)).f1⟩]) (by omega) (h.next (by omega) _ (by unfold flip; rw [if_neg c1, if_neg c2]; rfl)))
        rw [gobolaw15_ForestMirrors.l0, if_pos (by omega), if_pos (by omega), if_pos (by omega), if_neg c1', if_neg c2', if_pos (by omega), ew]
theorem mirrorsLaw (l : List S25) : ∃ k, gobolaw15_ForestMirrors.f k l = some true := by
  by_cases c : (l.length : Int) > 60
  · refine ⟨0, ?_⟩
    unfold gobolaw15_ForestMirrors.f
    rw [if_pos c, told_true]
    rfl
  · obtain ⟨k, h⟩ := (make_loop l (by omega) l.length [] (Nat.le_refl _) ⟨by simp, fun j hj => by omega⟩).rounds
    refine ⟨k, ?_⟩
    unfold gobolaw15_ForestMirrors.f
    rw [if_neg c, wrap_down (by omega)]
    exact h
end Go.Proofs.Ytkbhdlcphiljlaa.PForest
