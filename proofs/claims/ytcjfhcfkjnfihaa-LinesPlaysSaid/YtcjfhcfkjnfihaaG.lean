/- Plain: a splice of where lines begin is where the lines of the spliced bytes begin. -/
import Derived.Test.YtcjfhcfkjnfihaaF
import Derived.Test.YtcjfhcfkjnfihaaD
namespace Go.Proofs.Ytcjfhcfkjnfihaa.PLines
open Go.RowKit Go.Proofs.YtcjfhcfkjnfihaaW.PrintWords Go.Proofs.YtcjfhcfkjnfihaaW.PrintLast Go.Proofs.YtcjfhcfkjnfihaaW.PrintMore

theorem eq_of_sorted : ∀ l1 l2 : List Int, l1.Pairwise (· < ·) → l2.Pairwise (· < ·) → (∀ x, x ∈ l1 ↔ x ∈ l2) → l1 = l2
  | [], [], _, _, _ => rfl
  | [], b :: t, _, _, h => absurd ((h b).mpr (List.mem_cons_self)) (by simp)
  | a :: t, [], _, _, h => absurd ((h a).mp (List.mem_cons_self)) (by simp)
  | a :: s, b :: t, h1, h2, h => by
    rw [List.pairwise_cons] at h1 h2
    have e : a = b := by
      rcases List.mem_cons.mp ((h a).mp List.mem_cons_self) with e | ha
      · exact e
      · rcases List.mem_cons.mp ((h b).mpr List.mem_cons_self) with e | hb
        · exact e.symm
        · have := h2.1 a ha
          have := h1.1 b hb
          omega
    subst e
    rw [eq_of_sorted s t h1.2 h2.2 fun x => ?_]
    constructor
    · intro hx
      rcases List.mem_cons.mp ((h x).mp (List.mem_cons_of_mem _ hx)) with e | hm
      · subst e; have := h1.1 x hx; omega
      · exact hm
    · intro hx
      rcases List.mem_cons.mp ((h x).mpr (List.mem_cons_of_mem _ hx)) with e | hm
      · subst e; have := h2.1 x hx; omega
      · exact hm

/-- The front of a list that rises: what is at or ahead of the place, and what is behind it. -/
theorem front_split {l : List Int} (hs : l.Pairwise (· < ·)) (p : Int) : (∀ x, x ∈ l.take (frontN l p) ↔ x ∈ l ∧ x ≤ p) ∧ (∀ x, x ∈ l.drop (frontN l p) ↔ x ∈ l ∧ p < x) := by
  have key : (∀ x ∈ l.take (frontN l p), x ≤ p) ∧ (∀ x ∈ l.drop (frontN l p), p < x) := by
    unfold frontN
    rcases gtAt_spec p l 0 with ⟨e, h⟩ | ⟨q, hq, e, h3, h4⟩
    · rw [e, if_pos (by omega), List.take_length, List.drop_length]
      refine ⟨fun x hx => ?_, fun x hx => by simp at hx⟩
      obtain ⟨m, hm, he⟩ := List.mem_iff_getElem.mp hx
      have := h m hm
      rw [rd_nat l m hm, he] at this
      exact this
    · rw [e, if_neg (by omega)]
      have e2 : (0 + (q : Int)).toNat = q := by omega
      rw [e2]
      refine ⟨fun x hx => ?_, fun x hx => ?_⟩
      · obtain ⟨m, hm, he⟩ := List.mem_iff_getElem.mp hx
        rw [List.length_take] at hm
        rw [List.getElem_take] at he
        have := h4 m (by omega)
        rw [rd_nat l m (by omega), he] at this
        exact this
      · obtain ⟨m, hm, he⟩ := List.mem_iff_getElem.mp hx
        rw [List.length_drop] at hm
        rw [List.getElem_drop] at he
        by_cases h0 : m = 0
        · subst h0
          rw [rd_nat l q hq] at h3
          simp only [Nat.add_zero] at he
          omega
        · have := sorted_rd hs (show q < q + m by omega) (by omega)
          rw [rd_nat l (q + m) (by omega), he] at this
          omega
  have hm : ∀ x, x ∈ l ↔ x ∈ l.take (frontN l p) ∨ x ∈ l.drop (frontN l p) := fun x => by
    conv => lhs; rw [← List.take_append_drop (frontN l p) l]
    exact List.mem_append
  refine ⟨fun x => ⟨fun h => ⟨(hm x).mpr (.inl h), key.1 x h⟩, fun h => ?_⟩, fun x => ⟨fun h => ⟨(hm x).mpr (.inr h), key.2 x h⟩, fun h => ?_⟩⟩
  · rcases (hm x).mp h.1 with h' | h'
    · exact h'
    · have := key.2 x h'; omega
  · rcases (hm x).mp h.1 with h' | h'
    · have := key.1 x h'; omega
    · exact h'

theorem mem_tailF (x m : Int) (t : List Int) (y : Int) : y ∈ tailF x m t ↔ ∃ s ∈ t, x < s ∧ y = s + m := by
  unfold tailF
  rw [List.mem_map]
  constructor
  · rintro ⟨s, hs, rfl⟩
    rw [List.mem_filter] at hs
    exact ⟨s, hs.1, of_decide_eq_true hs.2, rfl⟩
  · rintro ⟨s, h1, h2, rfl⟩
    exact ⟨s, List.mem_filter.mpr ⟨h1, decide_eq_true h2⟩, rfl⟩
theorem tailF_sorted (x m : Int) {t : List Int} (h : t.Pairwise (· < ·)) : (tailF x m t).Pairwise (· < ·) := by
  unfold tailF
  rw [List.pairwise_map]
  exact (h.filter _).imp fun hab => by omega

theorem rd_append1 (l1 l2 : List Int) (k : Nat) (h : k < l1.length) : rd (l1 ++ l2) k = rd l1 k := by
  rw [rd_nat _ k (by rw [List.length_append]; omega), rd_nat l1 k h, List.getElem_append_left h]
theorem rd_append2 (l1 l2 : List Int) (k : Nat) (h : k < l2.length) : rd (l1 ++ l2) ((l1.length + k : Nat) : Int) = rd l2 k := by
  rw [rd_nat _ _ (by rw [List.length_append]; omega), rd_nat l2 k h, List.getElem_append_right (by omega)]
  congr 1
  omega
theorem rd_take (l : List Int) (p k : Nat) (h : k < p) (hk : k < l.length) : rd (l.take p) k = rd l k := by
  rw [rd_nat _ k (by rw [List.length_take]; omega), rd_nat l k hk, List.getElem_take]
theorem rd_drop (l : List Int) (p k : Nat) (hk : p + k < l.length) : rd (l.drop p) k = rd l ((p + k : Nat) : Int) := by
  rw [rd_nat _ k (by rw [List.length_drop]; omega), rd_nat l _ hk, List.getElem_drop]

/-- The splice's law. -/
theorem spF_st (b ins : List Int) (p d : Nat) (h : p + d ≤ b.length) : spF (st b) p d ins = st (b.take p ++ ins ++ b.drop (p + d)) := by
  have hs := st_sorted b
  obtain ⟨ht, hd⟩ := front_split hs (p : Int)
  have hlp : (b.take p).length = p := by rw [List.length_take]; omega
  have hld : (b.drop (p + d)).length = b.length - (p + d) := List.length_drop
  have hll : (b.take p ++ ins).length = p + ins.length := by rw [List.length_append, hlp]
  unfold spF
  refine eq_of_sorted _ _ ?_ (st_sorted _) fun x => ?_
  · rw [List.pairwise_append, List.pairwise_append]
    refine ⟨⟨hs.sublist (List.take_sublist _ _), behK_sorted ins p _, fun x hx y hy => ?_⟩, tailF_sorted _ _ (hs.sublist (List.drop_sublist _ _)), fun x hx y hy => ?_⟩
    · have := ((ht x).mp hx).2
      obtain ⟨j, _, _, rfl⟩ := (mem_behF ins p y).mp hy
      omega
    · obtain ⟨s, _, h2, rfl⟩ := (mem_tailF _ _ _ y).mp hy
      rcases List.mem_append.mp hx with hx | hx
      · have := ((ht x).mp hx).2
        omega
      · obtain ⟨j, hj, _, rfl⟩ := (mem_behF ins p x).mp hx
        omega
  · rw [List.mem_append, List.mem_append, ht, mem_behF, mem_tailF, mem_st, mem_st]
    constructor
    · rintro ((⟨h1 | ⟨j, h1, h2, h3⟩, h4⟩ | ⟨j, h1, h2, h3⟩) | ⟨s, h1, h2, h3⟩)
      · exact .inl h1
      · refine .inr ⟨j, by rw [List.length_append, hll]; omega, ?_, h3⟩
        rw [rd_append1 _ _ j (by rw [hll]; omega), rd_append1 _ _ j (by omega), rd_take _ _ _ (by omega) h1]
        exact h2
      · refine .inr ⟨p + j, by rw [List.length_append, hll]; omega, ?_, by omega⟩
        rw [rd_append1 _ _ (p + j) (by rw [hll]; omega)]
        have := rd_append2 (b.take p) ins j h1
        rw [hlp] at this
        rw [this]
        exact h2
      · rw [hd, mem_st] at h1
        rcases h1 with ⟨h1 | ⟨j, h1, h4, h5⟩, h6⟩
        · omega
        · refine .inr ⟨(p + ins.length) + (j - (p + d)), by rw [List.length_append, hll]; omega, ?_, by omega⟩
          have := rd_append2 (b.take p ++ ins) (b.drop (p + d)) (j - (p + d)) (by omega)
          rw [hll] at this
          rw [this, rd_drop _ _ _ (by omega), show p + d + (j - (p + d)) = j by omega]
          exact h4
    · rintro (h1 | ⟨j, h1, h2, h3⟩)
      · exact .inl (.inl ⟨.inl h1, by omega⟩)
      · rw [List.length_append, hll] at h1
        by_cases c1 : j < p
        · rw [rd_append1 _ _ j (by rw [hll]; omega), rd_append1 _ _ j (by omega), rd_take _ _ _ c1 (by omega)] at h2
          exact .inl (.inl ⟨.inr ⟨j, by omega, h2, h3⟩, by omega⟩)
        · by_cases c2 : j < p + ins.length
          · obtain ⟨i, rfl⟩ : ∃ i, j = p + i := ⟨j - p, by omega⟩
            rw [rd_append1 _ _ (p + i) (by rw [hll]; omega)] at h2
            have := rd_append2 (b.take p) ins i (by omega)
            rw [hlp] at this
            rw [this] at h2
            exact .inl (.inr ⟨i, by omega, h2, by omega⟩)
          · obtain ⟨i, rfl⟩ : ∃ i, j = p + ins.length + i := ⟨j - (p + ins.length), by omega⟩
            have := rd_append2 (b.take p ++ ins) (b.drop (p + d)) i (by omega)
            rw [hll] at this
            rw [this, rd_drop _ _ _ (by omega)] at h2
            refine .inr ⟨((p + d + i : Nat) : Int) + 1, ?_, by omega, by omega⟩
            rw [hd, mem_st]
            exact ⟨.inr ⟨p + d + i, by omega, h2, by omega⟩, by omega⟩

theorem tailF_all (x m : Int) (t : List Int) (h : ∀ s ∈ t, x < s) : (tailF x m t).length = t.length := by
  unfold tailF
  rw [List.length_map, List.filter_eq_self.mpr fun s hs => decide_eq_true (h s hs)]
/-- What is put in adds as many lines as it has line ends. -/
theorem spF_len (b ins : List Int) (p : Nat) : (spF (st b) p 0 ins).length = (st b).length + (behF ins p).length := by
  obtain ⟨_, hd⟩ := front_split (st_sorted b) (p : Int)
  have hf := frontN_le (st b) p
  unfold spF
  rw [List.length_append, List.length_append, tailF_all _ _ _ (fun s hs => by have := ((hd s).mp hs).2; omega), List.length_take, List.length_drop]
  omega
theorem st_app (b c : List Int) : st b ++ behF c b.length = st (b ++ c) := by
  refine eq_of_sorted _ _ ?_ (st_sorted _) fun x => ?_
  · rw [List.pairwise_append]
    refine ⟨st_sorted b, behK_sorted c _ _, fun x hx y hy => ?_⟩
    obtain ⟨j, _, _, rfl⟩ := (mem_behF c _ y).mp hy
    rcases (mem_st b x).mp hx with h | ⟨i, h1, _, h3⟩ <;> omega
  · rw [List.mem_append, mem_st, mem_behF, mem_st]
    constructor
    · rintro ((h1 | ⟨j, h1, h2, h3⟩) | ⟨j, h1, h2, h3⟩)
      · exact .inl h1
      · exact .inr ⟨j, by rw [List.length_append]; omega, by rw [rd_append1 _ _ _ h1]; exact h2, h3⟩
      · exact .inr ⟨b.length + j, by rw [List.length_append]; omega, by rw [rd_append2 _ _ _ h1]; exact h2, by omega⟩
    · rintro (h1 | ⟨j, h1, h2, h3⟩)
      · exact .inl (.inl h1)
      · rw [List.length_append] at h1
        by_cases c1 : j < b.length
        · rw [rd_append1 _ _ _ c1] at h2
          exact .inl (.inr ⟨j, c1, h2, h3⟩)
        · obtain ⟨i, rfl⟩ : ∃ i, j = b.length + i := ⟨j - b.length, by omega⟩
          rw [rd_append2 _ _ _ (by omega)] at h2
          exact .inr ⟨i, by omega, h2, by omega⟩
theorem st_bound (b : List Int) (x : Int) (h : x ∈ st b) : 0 ≤ x ∧ x ≤ b.length := by
  rcases (mem_st b x).mp h with h | ⟨j, h1, _, h3⟩ <;> omega
end Go.Proofs.Ytcjfhcfkjnfihaa.PLines
