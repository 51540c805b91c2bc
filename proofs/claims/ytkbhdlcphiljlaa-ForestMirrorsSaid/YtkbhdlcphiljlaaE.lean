/- Plain: the walk over a word that is made longer at its end. -/
import Derived.Test.YtkbhdlcphiljlaaOwn
namespace Go.Proofs.Ytkbhdlcphiljlaa.PForest
open Go.RowKit Go.Proofs.YtkbhdlcphiljlaaW.PrintWords Go.Proofs.YtkbhdlcphiljlaaW.PrintLast

def all (l : List S25) : St := run l l.length
theorem run_app (l1 l2 : List S25) (n : Nat) (h : n ≤ l1.length) : run (l1 ++ l2) n = run l1 n := by
  induction n with
  | zero => rfl
  | succ n ih =>
    unfold run
    rw [ih (by omega)]
    have : rd_T25 (l1 ++ l2) n = rd_T25 l1 n := by
      unfold rd_T25
      rw [Int.toNat_natCast, List.getD_eq_getElem?_getD, List.getD_eq_getElem?_getD, List.getElem?_append_left (by omega)]
    rw [this]
theorem all_snoc (l : List S25) (s : S25) : all (l ++ [s]) = step (all l) l.length s.f1 := by
  unfold all
  rw [List.length_append, List.length_singleton]
  show step (run (l ++ [s]) l.length) _ _ = _
  rw [run_app l [s] l.length (Nat.le_refl _)]
  have : rd_T25 (l ++ [s]) l.length = s := by
    unfold rd_T25
    rw [Int.toNat_natCast, List.getD_eq_getElem?_getD, List.getElem?_append_right (Nat.le_refl _), Nat.sub_self]
    rfl
  rw [this]
theorem lost_none (ev : List (Int × Int)) (h : ∀ p ∈ ev, 0 ≤ p.1) : lostOf ev = [] := by
  unfold lostOf
  rw [List.map_eq_nil_iff, List.filter_eq_nil_iff]
  intro p hp
  have := h p hp
  simp; omega
theorem last_ge (l : List S25) (h : (all l).o ≠ []) : 0 ≤ last (all l).o := (last_in l l.length h).1

/-- So many calls. -/
structure Up (l : List S25) (i : Nat) : Prop where
  len : l.length = i
  o : (all l).o.length = i
  m : (all l).m = i
  ev : (all l).ev = []
/-- So many calls, and of these so many returned. -/
structure Down (l : List S25) (k j : Nat) : Prop where
  len : l.length = k + j
  o : (all l).o.length = k - j
  m : (all l).m = k
  ev : ∀ p ∈ (all l).ev, 0 ≤ p.1
/-- So many calls, each with its return behind it. -/
structure Side (l : List S25) (i : Nat) : Prop where
  len : l.length = 2 * i
  o : (all l).o = []
  m : (all l).m = min (i : Int) 1
  ev : ∀ p ∈ (all l).ev, 0 ≤ p.1

theorem Up.zero : Up [] 0 := ⟨rfl, rfl, rfl, rfl⟩
theorem Up.next {l : List S25} {i : Nat} (h : Up l i) (t : Int) : Up (l ++ [⟨t, 1⟩]) (i + 1) := by
  obtain ⟨h1, h2, h3, h4⟩ := h
  refine ⟨by simp [h1], ?_, ?_, ?_⟩ <;> rw [all_snoc] <;> unfold step <;> rw [if_pos rfl]
  · simp [h2]
  · simp only [h2, h3]; omega
  · exact h4
theorem Up.down {l : List S25} {i : Nat} (h : Up l i) : Down l i 0 := ⟨h.len, h.o, h.m, by rw [h.ev]; simp⟩
theorem Down.next {l : List S25} {k j : Nat} (h : Down l k j) (hj : j < k) (t : Int) : Down (l ++ [⟨t, 2⟩]) k (j + 1) := by
  have hne : (all l).o ≠ [] := fun e => by have := h.o; rw [e] at this; simp at this; omega
  have hl := last_ge l hne
  obtain ⟨h1, h2, h3, h4⟩ := h
  refine ⟨by simp [h1]; omega, ?_, ?_, ?_⟩ <;> rw [all_snoc] <;> unfold step <;> rw [if_neg (show ¬ (2 : Int) = 1 by decide), if_pos rfl, if_neg hne]
  · simp only [List.length_take]; omega
  · exact h3
  · intro p hp
    simp only [List.mem_append, List.mem_singleton] at hp
    rcases hp with hp | rfl
    · exact h4 p hp
    · exact hl
theorem Side.zero : Side [] 0 := ⟨rfl, rfl, rfl, fun p hp => by simp [all, run] at hp⟩
theorem Side.next {l : List S25} {i : Nat} (h : Side l i) (t t' : Int) : Side ((l ++ [⟨t, 1⟩]) ++ [⟨t', 2⟩]) (i + 1) := by
  obtain ⟨h1, h2, h3, h4⟩ := h
  have e1 : all (l ++ [⟨t, 1⟩]) = ⟨[(l.length : Int)], max (all l).m 1, (all l).ev⟩ := by
    rw [all_snoc]; unfold step; rw [if_pos rfl, h2]; rfl
  have e2 : all ((l ++ [⟨t, 1⟩]) ++ [⟨t', 2⟩]) = ⟨[], max (all l).m 1, (all l).ev ++ [((l.length : Int), ((l ++ [(⟨t, 1⟩ : S25)]).length : Int))]⟩ := by
    rw [all_snoc, e1]; unfold step; rw [if_neg (show ¬ (2 : Int) = 1 by decide), if_pos rfl, if_neg (by simp)]; rfl
  refine ⟨by simp [h1]; omega, by rw [e2], by rw [e2]; simp only [h3]; omega, ?_⟩
  rw [e2]
  intro p hp
  simp only [List.mem_append, List.mem_singleton] at hp
  rcases hp with hp | rfl
  · exact h4 p hp
  · simp only []; omega
end Go.Proofs.Ytkbhdlcphiljlaa.PForest
