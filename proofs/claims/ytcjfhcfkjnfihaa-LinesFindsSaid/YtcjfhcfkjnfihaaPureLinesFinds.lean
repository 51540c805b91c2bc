import Derived.Test.YtcjfhcfkjnfihaaPLinesx4
import Derived.Test.YtcjfhcfkjnfihaaF
namespace Go.Proofs.Ytcjfhcfkjnfihaa.Pure
open Go.RowKit Go.Proofs.Ytcjfhcfkjnfihaa.PLines Go.Proofs.YtcjfhcfkjnfihaaW.PrintWords Go.Proofs.YtcjfhcfkjnfihaaW.PrintLast

theorem wsm {x : Int} (h0 : -1000000000 ≤ x) (h1 : x ≤ 1000000000) : wrap64 x = x := by unfold wrap64; omega
theorem lineOf_spec {l : List Int} {a : Int} (hr : Rises l l.length) (hl : 0 < l.length) (h0 : rd l 0 = 0) (ha : 0 ≤ a) : ∃ c : Nat, lineOf l a = c ∧ c < l.length ∧ rd l c ≤ a ∧ ∀ j : Nat, c < j → j < l.length → a < rd l j := by
  rcases gtAt_spec a l 0 with ⟨e, h⟩ | ⟨q, hq, e, h3, h4⟩
  · refine ⟨l.length - 1, ?_, by omega, h _ (by omega), fun j h1 h2 => by omega⟩
    unfold lineOf
    rw [e, if_pos (by omega)]
    omega
  · have hq0 : q ≠ 0 := by
      rintro rfl
      rw [show ((0 : Nat) : Int) = 0 by rfl, h0] at h3
      omega
    refine ⟨q - 1, ?_, by omega, h4 _ (by omega), fun j h1 h2 => ?_⟩
    · unfold lineOf
      rw [e, if_neg (by omega)]
      omega
    · by_cases hj : j = q
      · subst hj; exact h3
      · have := rises_lt' hr (show q < j by omega) h2
        omega
theorem idx_of {l : List Int} {x : Int} (h : x ∈ l) : ∃ m : Nat, m < l.length ∧ rd l m = x := by
  obtain ⟨m, hm, e⟩ := List.mem_iff_getElem.mp h
  exact ⟨m, hm, by rw [rd_nat l m hm, e]⟩
theorem st_rises (b : List Int) : Rises (st b) (st b).length := (rises_iff _).mp (rises_of (st_sorted b))

/-- A line's text: within the bytes, without a line end. -/
theorem ends_spec (b : List Int) (c : Nat) (hc : c < (st b).length) : ∃ f t : Int, endsF b c = (f, t) ∧ f = rd (st b) c ∧ 0 ≤ f ∧ f ≤ t ∧ t ≤ b.length ∧ ∀ i : Nat, f ≤ i → (i : Int) < t → rd b i ≠ 10 := by
  have r0 := st_range b c hc
  have hbetween : ∀ i : Nat, i < b.length → rd b i = 10 → rd (st b) c ≤ i → c + 1 < (st b).length ∧ rd (st b) ((c + 1 : Nat) : Int) ≤ i + 1 := by
    intro i hi h10 hle
    obtain ⟨m, hm, e⟩ := idx_of ((mem_st b ((i : Int) + 1)).mpr (.inr ⟨i, hi, h10, rfl⟩))
    have hcm : c < m := by
      rcases Nat.lt_trichotomy c m with h | h | h
      · exact h
      · subst h; omega
      · have := rises_lt' (st_rises b) h hc; omega
    refine ⟨by omega, ?_⟩
    by_cases h : m = c + 1
    · subst h; omega
    · have := rises_lt' (st_rises b) (show c + 1 < m by omega) hm
      omega
  unfold endsF
  rw [if_neg (by omega)]
  by_cases c1 : (c : Int) + 1 < (st b).length
  · rw [if_pos c1]
    have hlt := rises_lt' (st_rises b) (show c < c + 1 by omega) (show c + 1 < (st b).length by omega)
    have r1 := st_range b (c + 1) (by omega)
    have hb2 := fun i hi h10 hle => (hbetween i hi h10 hle).2
    rw [Int.natCast_add, Int.natCast_one] at hlt r1 hb2
    by_cases c2 : rd (st b) ((c : Int) + 1) - 1 > rd (st b) c ∧ rd b (rd (st b) ((c : Int) + 1) - 1 - 1) = 13
    · rw [if_pos c2]
      refine ⟨_, _, rfl, rfl, by omega, by omega, by omega, fun i h1 h2 h10 => ?_⟩
      have := hb2 i (by omega) h10 h1
      omega
    · rw [if_neg c2]
      refine ⟨_, _, rfl, rfl, by omega, by omega, by omega, fun i h1 h2 h10 => ?_⟩
      have := hb2 i (by omega) h10 h1
      omega
  · rw [if_neg c1]
    refine ⟨_, _, rfl, rfl, by omega, by omega, by omega, fun i h1 h2 h10 => ?_⟩
    have := (hbetween i (by omega) h10 h1).1
    omega

theorem loop_ev (b : List Int) (hb : b.length ≤ 1000000) (c : Nat) (hc : c < (st b).length) (f t : Int) (hf : f = rd (st b) c) (h0 : 0 ≤ f) (hft : f ≤ t) (ht : t ≤ b.length) (hn : ∀ i : Nat, f ≤ i → (i : Int) < t → rd b i ≠ 10) (m : Nat) :
    ∀ i : Nat, f ≤ i → (i : Int) + m = t → Ev (fun q => gobolaw4_LinesFinds.l0 q b (st b) c f t i) true := by
  induction m with
  | zero =>
    intro i hi hm
    refine EvL fun q => ?_
    rw [gobolaw4_LinesFinds.l0, if_neg (by omega), show gobolaw4_told.f = some true from rfl, Option.bind_some, if_pos rfl, if_pos (by omega), if_pos (by omega), if_pos hf, if_pos (by omega), decide_eq_true (by omega)]
  | succ m ih =>
    intro i hi hm
    have e1 : wrap64 ((i : Int) + 1) = ((i + 1 : Nat) : Int) := by unfold wrap64; omega
    refine Ev.step (fun q => ?_) (ih (i + 1) (by omega) (by omega))
    rw [gobolaw4_LinesFinds.l0, if_pos (by omega), if_neg (by omega), if_neg (by omega), if_pos (by omega), if_pos (by omega), if_neg (hn i hi (by omega)), e1]

theorem h3_of {S : List Int} {c : Nat} {p : Int} (h2 : ∀ j : Nat, c < j → j < S.length → p < rd S j) (h : (c : Int) + 1 < S.length) : p < rd S ((c : Int) + 1) := by
  have h4 := h2 (c + 1) (by omega) (by omega)
  have h5 : ((c + 1 : Nat) : Int) = (c : Int) + 1 := by omega
  rewrite [h5] at h4
  exact h4
theorem finish (b S : List Int) (a p : Int) (c K : Nat) (X : Int × Int) (c0 : ¬ (b.length : Int) > 300) (hs1 : lines_Starts.f K b = some S) (e0 : IntKind.u64.wrap (wrap64 ((b.length : Int) + 1)) = b.length + 1)
    (hpe : wrap64 (Int.tmod (IntKind.u64.wrap a) ((b.length : Int) + 1)) = p) (hX : lines_Find.f S p = some X) (x1 : X.1 = c) (x2 : X.2 = p - rd S c) (e1 : wrap64 ((c : Int) + 1) = (c : Int) + 1)
    (e2 : wrap64 (rd S c + (p - rd S c)) = p) (hc : c < S.length) (h1 : rd S c ≤ p) (h3 : (c : Int) + 1 < S.length → p < rd S ((c : Int) + 1)) (hg1 : gobolaw4_LinesFinds.j0 K b S c false = some true) : gobolaw4_LinesFinds.f K b a = some true := by
  have q0 : ¬ (b.length : Int) + 1 = 0 := by omega
  have q1 : ¬ (c : Int) < 0 := by omega
  have q2 : ¬ (c : Int) ≥ S.length := by omega
  have q3 : 0 ≤ (c : Int) := by omega
  have q4 : (c : Int) < S.length := by omega
  have q5 : ¬ p - rd S c < 0 := by omega
  have q6 : 0 ≤ (c : Int) + 1 := by omega
  unfold gobolaw4_LinesFinds.f
  rewrite [if_neg c0, hs1, Option.bind_some, e0, if_neg q0, hpe, hX, Option.bind_some, x1, x2]
  rewrite [if_neg q1, if_neg q2, if_pos q3, if_pos q4, e2, if_pos (Eq.refl p), if_neg q5, e1, if_pos q6]
  by_cases c1 : (c : Int) + 1 < S.length
  · have h4 := h3 c1
    have q7 : ¬ rd S ((c : Int) + 1) ≤ p := by omega
    rewrite [if_pos c1, decide_eq_false q7]
    exact hg1
  · rewrite [if_neg c1]
    exact hg1
theorem LinesFinds : gobolaw4_LinesFinds.Pure := by
  intro b a _ _ _ _
  by_cases c0 : (b.length : Int) > 300
  · exact ⟨0, by unfold gobolaw4_LinesFinds.f; rw [if_pos c0]; rfl⟩
  · have hb : b.length ≤ 1000000 := by omega
    have hl := st_len b
    have hp := st_pos b
    have e0 : IntKind.u64.wrap (wrap64 ((b.length : Int) + 1)) = b.length + 1 := by
      rw [wsm (by omega) (by omega)]
      simp [IntKind.wrap, IntKind.bits, IntKind.signed]
      omega
    obtain ⟨p, hpe, hp0, hp1⟩ : ∃ p : Int, wrap64 (Int.tmod (IntKind.u64.wrap a) ((b.length : Int) + 1)) = p ∧ 0 ≤ p ∧ p ≤ b.length := by
      have hu : 0 ≤ IntKind.u64.wrap a := by simp [IntKind.wrap, IntKind.bits, IntKind.signed]; omega
      have h1 := Int.tmod_nonneg ((b.length : Int) + 1) hu
      have h2 := Int.tmod_lt_of_pos (IntKind.u64.wrap a) (show (0 : Int) < (b.length : Int) + 1 by omega)
      exact ⟨_, wsm (by omega) (by omega), h1, by omega⟩
    have hst0 : rd (st b) 0 = 0 := rfl
    obtain ⟨c, hce, hc, h1, h2⟩ := lineOf_spec (st_rises b) hp hst0 hp0
    have h3 : (c : Int) + 1 < (st b).length → p < rd (st b) ((c : Int) + 1) := h3_of h2
    have hfind : findF (st b) p = ((c : Int), p - rd (st b) c) := by
      have hrr : rises (st b) = true := rises_of (st_sorted b)
      have hne : ¬ (st b = [] ∨ rd (st b) 0 ≠ 0 ∨ p < 0 ∨ rises (st b) = false) := by
        rintro (h | h | h | h)
        · rw [h] at hp; simp at hp
        · exact h hst0
        · omega
        · rw [hrr] at h; cases h
      have r0 := st_range b c hc
      unfold findF
      rw [if_neg hne, hce, wsm (by omega) (by omega)]
    obtain ⟨f, t, he, hf, hf0, hft, ht, hn⟩ := ends_spec b c hc
    have g : Ev (fun q => gobolaw4_LinesFinds.j0 q b (st b) c false) true := by
      refine Ev.step (fun q => by rw [gobolaw4_LinesFinds.j0, if_neg (by simp)]) ?_
      refine Ev.bind (ends_ev b hb c) ?_
      rw [he]
      obtain ⟨n, rfl⟩ : ∃ n : Nat, f = n := ⟨f.toNat, by omega⟩
      exact loop_ev b hb c hc n t hf hf0 hft ht hn (t - n).toNat n (Int.le_refl _) (by omega)
    have r0 := st_range b c hc
    have e1 : wrap64 ((c : Int) + 1) = (c : Int) + 1 := wsm (by omega) (by omega)
    have e2 : wrap64 (rd (st b) c + (p - rd (st b) c)) = p := by rw [wsm (by omega) (by omega)]; omega
    have hF : lines_Find.f (st b) p = some ((c : Int), p - rd (st b) c) := by
      unfold lines_Find.f
      rw [if_pos (by omega), hfind]
    obtain ⟨X, hX, x1, x2⟩ : ∃ X : Int × Int, lines_Find.f (st b) p = some X ∧ X.1 = c ∧ X.2 = p - rd (st b) c := ⟨_, hF, rfl, rfl⟩
    clear hF hfind
    obtain ⟨K1, hs⟩ := starts_ev b hb
    obtain ⟨K2, hg⟩ := g
    have hs1 : lines_Starts.f (K1 + K2) b = some (st b) := hs (K1 + K2) (by omega)
    have hg1 : gobolaw4_LinesFinds.j0 (K1 + K2) b (st b) c false = some true := hg (K1 + K2) (by omega)
    clear hs hg
    refine ⟨K1 + K2, ?_⟩
    exact finish b (st b) a p c (K1 + K2) X c0 hs1 e0 hpe hX x1 x2 e1 e2 hc h1 h3 hg1

end Go.Proofs.Ytcjfhcfkjnfihaa.Pure
