/- Plain: partners are each other's; what stands between two partners has its partners there; what is lost lies ahead of what is open. -/
import Derived.Test.YtkbhdlcphiljlaaPForestx4
import Derived.Test.YtkbhdlcphiljlaaH
namespace Go.Proofs.Ytkbhdlcphiljlaa.PForest
open Go.RowKit Go.Proofs.YtkbhdlcphiljlaaW.PrintWords Go.Proofs.YtkbhdlcphiljlaaW.PrintLast

/-- A symbol between two partners has its partner there. -/
theorem within {l : List S25} {i k j : Nat} (h : Match l i k) (h1 : i < j) (h2 : j < k) (hj : K l j = 1 ∨ K l j = 2) : ∃ b, i < b ∧ b < k ∧ (Match l j b ∨ Match l b j) := by
  obtain ⟨a1, a2, a3, a4, a5⟩ := h
  rcases hj with hj | hj
  · rcases open_or l k j h2 hj with h3 | ⟨c, hc, hm⟩
    · have := h3.2.2 k h2 (Nat.le_refl _)
      have := a5 j h1 (by omega)
      omega
    · exact ⟨c, by have := hm.1; omega, hc, .inl hm⟩
  · have hop : OpenAt l j i := ⟨h1, a2, fun t ht ht' => a5 t ht (by omega)⟩
    have hne : (run l j).o ≠ [] := fun e => by
      have := ((inv l j).mem i).mpr ⟨i, rfl, hop⟩
      rw [e] at this
      cases this
    obtain ⟨k', _, hm, _⟩ := match_last hj hne
    refine ⟨k', ?_, by have := hm.1; omega, .inr hm⟩
    by_cases e : k' < i
    · have := hm.2.2.2.2 i e (by omega)
      have := hm.2.2.2.1
      have := a5 j h1 (by omega)
      omega
    · by_cases e' : k' = i
      · subst e'
        have := d_ret hj
        have := a5 (j + 1) (by omega) (by omega)
        have := hm.2.2.2.1
        omega
      · omega
theorem lost_open {l : List S25} {n a r : Nat} (ho : OpenAt l n a) (hr : r < n) (hk : K l r = 2) (hn : ∀ k, ¬ Match l k r) : r < a := by
  by_cases e : r < a
  · exact e
  · exfalso
    have hne : r ≠ a := fun e => by rw [e] at hk; have := ho.2.1; omega
    have hop : OpenAt l r a := ⟨by omega, ho.2.1, fun t ht ht' => ho.2.2 t ht (by omega)⟩
    have hno : (run l r).o ≠ [] := fun e => by
      have := ((inv l r).mem a).mpr ⟨a, rfl, hop⟩
      rw [e] at this
      cases this
    obtain ⟨k, _, hm, _⟩ := match_last hk hno
    exact hn k hm

section
variable (l : List S25) (hl : l.length ≤ 100) (P : List Int) (hP : P = pairOf l.length (run l l.length).ev)
include hl hP
theorem inner_loop {i k : Nat} (hm : Match l i k) (hk : k < l.length) (r : Bool) (next : Ev (fun q => gobolaw15_ForestPairs.l0 q l P ((i + 1 : Nat) : Int)) r) (m : Nat) : ∀ j : Nat, j + m = k → i < j → Ev (fun q => gobolaw15_ForestPairs.l1 q l P i k j) r := by
  have ho := out_inv l l.length l.length (Nat.le_refl _)
  rw [← hP] at ho
  induction m with
  | zero =>
    intro j hj hij
    refine Ev.step (fun q => ?_) next
    rw [gobolaw15_ForestPairs.l1, if_neg (by omega), up64 (n := l.length) (by omega) (by omega)]
  | succ m ih =>
    intro j hj hij
    have nx := ih (j + 1) (by omega) (by omega)
    have e64 := up64 (i := j) (n := l.length) (by omega) (by omega)
    have part : K l j = 1 ∨ K l j = 2 → ¬ rd P j ≤ i ∧ ¬ rd P j ≥ k := fun hkj => by
      obtain ⟨b, h1, h2, h3⟩ := within hm hij (by omega) hkj
      rw [rd_at ((ho.two j b (by omega)).mpr ⟨by omega, by omega, h3⟩)]
      omega
    refine Ev.step (fun q => ?_) nx
    by_cases c1 : K l j = 1
    · have c1' : (rd_T25 l (j : Int)).f1 = 1 := c1
      obtain ⟨p1, p2⟩ := part (.inl c1)
      rw [gobolaw15_ForestPairs.l1, if_pos (by omega), if_pos (by omega), if_pos (by omega), if_pos c1', if_pos (by rw [ho.len]; omega), if_neg p1, if_neg p2, e64]
    · have c1' : ¬ (rd_T25 l (j : Int)).f1 = 1 := c1
      by_cases c2 : K l j = 2
      · have c2' : (rd_T25 l (j : Int)).f1 = 2 := c2
        obtain ⟨p1, p2⟩ := part (.inr c2)
        rw [gobolaw15_ForestPairs.l1, if_pos (by omega), if_pos (by omega), if_pos (by omega), if_neg c1', if_pos c2', if_pos (by rw [ho.len]; omega), if_neg p1, if_neg p2, e64]
      · have c2' : ¬ (rd_T25 l (j : Int)).f1 = 2 := c2
        rw [gobolaw15_ForestPairs.l1, if_pos (by omega), if_pos (by omega), if_pos (by omega), if_neg c1', if_neg c2', e64]

theorem outer_loop (m : Nat) : ∀ i : Nat, i + m = l.length → Ev (fun q => gobolaw15_ForestPairs.l0 q l P i) true := by
  have ho := out_inv l l.length l.length (Nat.le_refl _)
  rw [← hP] at ho
  induction m with
  | zero =>
    intro i hi
    have e1 : forest_Open.f l = some (run l l.length).o := by unfold forest_Open.f; rw [if_pos (by omega)]
    have e2 : forest_Lost.f l = some (lostOf (run l l.length).ev) := by unfold forest_Lost.f; rw [if_pos (by omega)]
    refine EvL fun q => ?_
    rw [gobolaw15_ForestPairs.l0, if_neg (by rw [ho.len]; omega), e1, Option.bind_some, e2, Option.bind_some, told_true, Option.bind_some, if_pos rfl]
    have lle := lostOf_le (run l l.length).ev
    have lle2 := run_ev l l.length
    have hiv := inv l l.length
    have hlv := lost_inv l l.length
    generalize (run l l.length).o = o at hiv
    generalize lostOf (run l l.length).ev = x at hlv lle
    by_cases c1 : (o.length : Int) = 0
    · rw [if_pos c1]
    · rw [if_neg c1]
      by_cases c2 : (x.length : Int) = 0
      · rw [if_pos c2]
      · have e3 : wrap64 ((x.length : Int) - 1) = ((x.length - 1 : Nat) : Int) := by unfold wrap64; omega
        have hx : x.length - 1 < x.length := by omega
        have hoo : 0 < o.length := by omega
        rw [if_neg c2, e3, if_pos (by omega), if_pos (by omega), if_pos (by omega)]
        have r1 : rd x ((x.length - 1 : Nat) : Int) = x[x.length - 1] := rd_at (List.getElem?_eq_getElem hx)
        have r2 : rd o 0 = o[0] := rd_at (a := 0) (List.getElem?_eq_getElem hoo)
        obtain ⟨rr, h1, h2, h3, h4⟩ := (hlv.mem _).mp (List.getElem_mem hx)
        obtain ⟨a, h5, h6⟩ := (hiv.mem _).mp (List.getElem_mem hoo)
        have := lost_open h6 h2 h3 h4
        rw [r1, r2, h1, h5, decide_eq_true (by omega)]
  | succ m ih =>
    intro i hi
    have nx := ih (i + 1) (by omega)
    have hil : i < l.length := by omega
    rcases ho.one i hil with h1 | ⟨k, h1⟩
    · refine Ev.step (fun q => ?_) nx
      rw [gobolaw15_ForestPairs.l0, if_pos (by rw [ho.len]; omega), if_pos (by omega), rd_at h1, if_pos (by decide), up64 (n := l.length) (by omega) (by omega)]
    · obtain ⟨_, hk, hm⟩ := (ho.two i k hil).mp h1
      have h2 : P[k]? = some (i : Int) := (ho.two k i hk).mpr ⟨hk, hil, hm.symm⟩
      have tail : Ev (fun q => gobolaw15_ForestPairs.j1 q l P i k false) true := by
        refine Ev.step (f := fun q => gobolaw15_ForestPairs.l1 q l P i k ((i + 1 : Nat) : Int)) (fun q => ?_) ?_
        · rw [gobolaw15_ForestPairs.j1, if_neg (by decide), up64 (n := l.length) (by omega) (by omega)]
        · rcases hm with hm | hm
          · exact inner_loop l hl P hP hm hk true nx (k - (i + 1)) (i + 1) (by have := hm.1; omega) (by omega)
          · refine Ev.step (fun q => ?_) nx
            rw [gobolaw15_ForestPairs.l1, if_neg (by have := hm.1; omega), up64 (n := l.length) (by omega) (by omega)]
      refine Ev.step (fun q => ?_) tail
      rw [gobolaw15_ForestPairs.l0, if_pos (by rw [ho.len]; omega), if_pos (by omega), rd_at h1, if_neg (by omega), if_neg (by rw [ho.len]; omega), if_pos (by omega), if_pos (by rw [ho.len]; omega), rd_at h2, if_pos rfl, if_pos (by omega)]
      rcases hm with hm | hm
      · have c1 : (rd_T25 l (i : Int)).f1 = 1 := hm.2.1
        have hlt := hm.1
        have cb : (((rd_T25 l (i : Int)).f1 == 1) != decide ((i : Int) < (k : Int))) = false := by rw [c1, decide_eq_true (by omega)]; rfl
        rw [cb, if_neg (by decide), if_pos c1]
      · have c2 : (rd_T25 l (i : Int)).f1 = 2 := hm.2.2.1
        have hlt := hm.1
        have cb : (((rd_T25 l (i : Int)).f1 == 1) != decide ((i : Int) < (k : Int))) = false := by rw [c2, decide_eq_false (by omega)]; rfl
        rw [cb, if_neg (by decide), if_neg (by rw [c2]; decide), c2]
        rfl
end

/-- What is left of ForestPairs. -/
theorem pairsLaw (l : List S25) : ∃ k, gobolaw15_ForestPairs.f k l = some true := by
  by_cases c : (l.length : Int) > 100
  · refine ⟨0, ?_⟩
    unfold gobolaw15_ForestPairs.f
    rw [if_pos c, told_true]
    rfl
  · obtain ⟨k, h⟩ := (outer_loop l (by omega) _ rfl l.length 0 (by omega)).rounds
    refine ⟨k, ?_⟩
    have e3 : forest_Pairs.f l = some (pairOf l.length (run l l.length).ev) := by unfold forest_Pairs.f; rw [if_pos (by omega)]
    unfold gobolaw15_ForestPairs.f
    rw [if_neg c, e3, Option.bind_some, if_pos (by rw [pairOf_length])]
    exact h
end Go.Proofs.Ytkbhdlcphiljlaa.PForest
