/- Plain: what is open, and who are partners, by how deep each place lies. -/
import Derived.Test.YtkbhdlcphiljlaaE
namespace Go.Proofs.Ytkbhdlcphiljlaa.PForest
open Go.RowKit Go.Proofs.YtkbhdlcphiljlaaW.PrintWords Go.Proofs.YtkbhdlcphiljlaaW.PrintLast

def K (l : List S25) (j : Nat) : Int := (rd_T25 l j).f1
def sg (k : Int) : Int := if k = 1 then 1 else if k = 2 then -1 else 0
/-- How deep the place ahead of symbol j lies. -/
def d (l : List S25) : Nat → Int
  | 0 => 0
  | j + 1 => d l j + sg (K l j)
def OpenAt (l : List S25) (i k : Nat) : Prop := k < i ∧ K l k = 1 ∧ ∀ j, k < j → j ≤ i → d l k < d l j
def Match (l : List S25) (a b : Nat) : Prop := a < b ∧ K l a = 1 ∧ K l b = 2 ∧ d l b = d l a + 1 ∧ ∀ j, a < j → j ≤ b → d l a < d l j

theorem d_call {l : List S25} {j : Nat} (h : K l j = 1) : d l (j + 1) = d l j + 1 := by show d l j + sg (K l j) = _; rw [h]; rfl
theorem d_ret {l : List S25} {j : Nat} (h : K l j = 2) : d l (j + 1) = d l j - 1 := by show d l j + sg (K l j) = _; rw [h]; rfl
theorem d_int {l : List S25} {j : Nat} (h : K l j ≠ 1) (h' : K l j ≠ 2) : d l (j + 1) = d l j := by show d l j + sg (K l j) = _; unfold sg; rw [if_neg h, if_neg h']; omega
theorem Match.open {l : List S25} {a b : Nat} (h : Match l a b) : OpenAt l b a := ⟨h.1, h.2.1, h.2.2.2.2⟩

/-- What stands on the stack. -/
structure Inv (l : List S25) (i : Nat) (o : List Int) : Prop where
  mem : ∀ x, x ∈ o ↔ ∃ k : Nat, x = k ∧ OpenAt l i k
  dep : ∀ (t : Nat) (ht : t < o.length), d l (o[t]).toNat = d l i - o.length + t
  srt : o.Pairwise (· < ·)

theorem open_step_call {l : List S25} {i k : Nat} (h : K l i = 1) : OpenAt l (i + 1) k ↔ OpenAt l i k ∨ k = i := by
  have hd := d_call h
  constructor
  · rintro ⟨h1, h2, h3⟩
    by_cases e : k = i
    · exact .inr e
    · exact .inl ⟨by omega, h2, fun j hj hj' => h3 j hj (by omega)⟩
  · rintro (⟨h1, h2, h3⟩ | rfl)
    · refine ⟨by omega, h2, fun j hj hj' => ?_⟩
      by_cases e : j = i + 1
      · subst e
        have := h3 i h1 (Nat.le_refl _)
        omega
      · exact h3 j hj (by omega)
    · refine ⟨by omega, h, fun j hj hj' => ?_⟩
      obtain rfl : j = k + 1 := by omega
      omega
theorem open_step_ret {l : List S25} {i k : Nat} (h : K l i = 2) : OpenAt l (i + 1) k ↔ OpenAt l i k ∧ d l k < d l i - 1 := by
  have hd := d_ret h
  constructor
  · rintro ⟨h1, h2, h3⟩
    have hki : k ≠ i := fun e => by rw [e, h] at h2; omega
    exact ⟨⟨by omega, h2, fun j hj hj' => h3 j hj (by omega)⟩, by have := h3 (i + 1) (by omega) (Nat.le_refl _); omega⟩
  · rintro ⟨⟨h1, h2, h3⟩, h4⟩
    refine ⟨by omega, h2, fun j hj hj' => ?_⟩
    by_cases e : j = i + 1
    · subst e; omega
    · exact h3 j hj (by omega)
theorem open_step_int {l : List S25} {i k : Nat} (h : K l i ≠ 1) (h' : K l i ≠ 2) : OpenAt l (i + 1) k ↔ OpenAt l i k := by
  have hd := d_int h h'
  constructor
  · rintro ⟨h1, h2, h3⟩
    have hki : k ≠ i := fun e => by rw [e] at h2; exact h h2
    exact ⟨by omega, h2, fun j hj hj' => h3 j hj (by omega)⟩
  · rintro ⟨h1, h2, h3⟩
    refine ⟨by omega, h2, fun j hj hj' => ?_⟩
    by_cases e : j = i + 1
    · subst e
      have := h3 i h1 (Nat.le_refl _)
      omega
    · exact h3 j hj (by omega)

theorem last_get (o : List Int) (h : o ≠ []) : last o = o[o.length - 1]'(by have := List.length_pos_iff.mpr h; omega) := by
  have hp : 0 < o.length := List.length_pos_iff.mpr h
  unfold last rd
  rw [List.getD_eq_getElem?_getD, show ((o.length : Int) - 1).toNat = o.length - 1 by omega, List.getElem?_eq_getElem (by omega)]
  rfl

theorem inv (l : List S25) (i : Nat) : Inv l i (run l i).o := by
  induction i with
  | zero => exact ⟨fun x => ⟨fun h => by simp [run] at h, fun ⟨k, _, h⟩ => absurd h.1 (Nat.not_lt_zero _)⟩, fun t ht => by simp [run] at ht, List.Pairwise.nil⟩
  | succ i ih =>
    have hle := (run_le l i).2.2.2
    obtain ⟨h1, h2, h3⟩ := ih
    have hr : run l (i + 1) = step (run l i) i (K l i) := rfl
    rw [hr]
    generalize run l i = s at h1 h2 h3 hle
    obtain ⟨o, m, ev⟩ := s
    simp only [] at h1 h2 h3 hle
    unfold step
    by_cases hk : K l i = 1
    · rw [if_pos hk]
      have hd := d_call hk
      refine ⟨fun x => ?_, fun t ht => ?_, ?_⟩
      · simp only [List.mem_append, List.mem_singleton]
        constructor
        · rintro (hx | rfl)
          · obtain ⟨k, rfl, hk'⟩ := (h1 x).mp hx
            exact ⟨k, rfl, (open_step_call hk).mpr (.inl hk')⟩
          · exact ⟨i, rfl, (open_step_call hk).mpr (.inr rfl)⟩
        · rintro ⟨k, rfl, hk'⟩
          rcases (open_step_call hk).mp hk' with h | rfl
          · exact .inl ((h1 _).mpr ⟨k, rfl, h⟩)
          · exact .inr rfl
      · simp only [List.length_append, List.length_singleton] at ht ⊢
        by_cases e : t < o.length
        · rw [List.getElem_append_left e, h2 t e]; omega
        · obtain rfl : t = o.length := by omega
          rw [List.getElem_append_right (Nat.le_refl _)]
          simp only [Nat.sub_self, List.getElem_cons_zero, Int.toNat_natCast]
          omega
      · simp only []
        rw [List.pairwise_append]
        refine ⟨h3, List.pairwise_singleton _ _, fun a ha b hb => ?_⟩
        rw [List.mem_singleton] at hb
        rw [hb]
        exact (hle a ha).2
    · rw [if_neg hk]
      by_cases hk2 : K l i = 2
      · rw [if_pos hk2]
        have hd := d_ret hk2
        by_cases ho : o = []
        · rw [if_pos ho]
          refine ⟨fun x => ⟨fun h => by simp at h, fun ⟨k, e, h⟩ => ?_⟩, fun t ht => by simp at ht, List.Pairwise.nil⟩
          have := (h1 x).mpr ⟨k, e, ((open_step_ret hk2).mp h).1⟩
          rw [ho] at this
          exact this
        · rw [if_neg ho]
          have hp : 0 < o.length := List.length_pos_iff.mpr ho
          refine ⟨fun x => ?_, fun t ht => ?_, h3.sublist (List.take_sublist _ _)⟩
          · simp only []
            rw [List.mem_take_iff_getElem]
            constructor
            · rintro ⟨t, ht, rfl⟩
              have ht' : t < o.length := by omega
              obtain ⟨k, e, hk'⟩ := (h1 _).mp (List.getElem_mem ht')
              refine ⟨k, e, (open_step_ret hk2).mpr ⟨hk', ?_⟩⟩
              have := h2 t ht'
              rw [e, Int.toNat_natCast] at this
              omega
            · rintro ⟨k, rfl, hk'⟩
              obtain ⟨ha, hb⟩ := (open_step_ret hk2).mp hk'
              obtain ⟨t, ht, e⟩ := List.mem_iff_getElem.mp ((h1 _).mpr ⟨k, rfl, ha⟩)
              have := h2 t ht
              rw [e, Int.toNat_natCast] at this
              exact ⟨t, by omega, e⟩
          · simp only [List.length_take] at ht ⊢
            rw [List.getElem_take, h2 t (by omega)]
            omega
      · rw [if_neg hk2]
        have hd := d_int hk hk2
        refine ⟨fun x => ?_, fun t ht => ?_, h3⟩
        · rw [h1 x]
          exact exists_congr fun k => and_congr_right fun _ => (open_step_int hk hk2).symm
        · rw [hd]; exact h2 t ht

/-- Who is partner of a return: the last that is open. -/
theorem match_last {l : List S25} {i : Nat} (hk : K l i = 2) (ho : (run l i).o ≠ []) : ∃ k : Nat, last (run l i).o = k ∧ Match l k i ∧ ∀ a, Match l a i → a = k := by
  obtain ⟨h1, h2, h3⟩ := inv l i
  have hp : 0 < (run l i).o.length := List.length_pos_iff.mpr ho
  have hlt : (run l i).o.length - 1 < (run l i).o.length := by omega
  obtain ⟨k, e, hk'⟩ := (h1 _).mp (List.getElem_mem hlt)
  have hd := h2 _ hlt
  rw [e, Int.toNat_natCast] at hd
  refine ⟨k, by rw [last_get _ ho, e], ⟨hk'.1, hk'.2.1, hk, by omega, hk'.2.2⟩, fun a ha => ?_⟩
  obtain ⟨t, ht, e'⟩ := List.mem_iff_getElem.mp ((h1 _).mpr ⟨a, rfl, ha.open⟩)
  have hd' := h2 t ht
  rw [e', Int.toNat_natCast] at hd'
  have := ha.2.2.2.1
  obtain rfl : t = (run l i).o.length - 1 := by omega
  rw [e] at e'
  omega
theorem match_none {l : List S25} {i : Nat} (ho : (run l i).o = []) (a : Nat) : ¬ Match l a i := fun h => by
  have := ((inv l i).mem a).mpr ⟨a, rfl, h.open⟩
  rw [ho] at this
  cases this
end Go.Proofs.Ytkbhdlcphiljlaa.PForest
