/- Plain facts on lines: where they begin, which one a place is in. -/
import Derived.Test.YtcjfhcfkjnfihaaB
import Derived.Test.YtcjfhcfkjnfihaaPLinesx2
namespace Go.Proofs.Ytcjfhcfkjnfihaa.PLines
open Go.RowKit Go.Proofs.YtcjfhcfkjnfihaaW.PrintWords Go.Proofs.YtcjfhcfkjnfihaaW.PrintLast Go.Proofs.YtcjfhcfkjnfihaaW.PrintMore

theorem rd_nat (l : List Int) (k : Nat) (hk : k < l.length) : rd l k = l[k] := by
  unfold rd
  rw [Int.toNat_natCast, List.getD_eq_getElem?_getD, List.getElem?_eq_getElem hk]
  rfl
theorem rd_cons0 (x : Int) (t : List Int) : rd (x :: t) 0 = x := rfl
theorem rd_cons1 (x : Int) (t : List Int) (k : Nat) : rd (x :: t) ((k + 1 : Nat) : Int) = rd t k := by
  unfold rd
  rw [Int.toNat_natCast, Int.toNat_natCast]
  rfl
theorem rd_mem (l : List Int) (k : Nat) (hk : k < l.length) : rd l k ∈ l := by rw [rd_nat l k hk]; exact List.getElem_mem hk

theorem mem_behK (b : List Int) (s : Int) (k : Nat) (x : Int) : x ∈ behK b s k ↔ ∃ j : Nat, j < k ∧ rd b j = 10 ∧ x = s + j + 1 := by
  induction k with
  | zero => simp [behK]
  | succ k ih =>
    by_cases c : rd b k = 10
    · have e : behK b s (k + 1) = behK b s k ++ [s + k + 1] := by show (if rd b k = 10 then _ else _) = _; rw [if_pos c]
      rw [e, List.mem_append, ih, List.mem_singleton]
      constructor
      · rintro (⟨j, h1, h2, h3⟩ | h)
        · exact ⟨j, by omega, h2, h3⟩
        · exact ⟨k, by omega, c, h⟩
      · rintro ⟨j, h1, h2, h3⟩
        by_cases hj : j = k
        · subst hj; exact .inr h3
        · exact .inl ⟨j, by omega, h2, h3⟩
    · have e : behK b s (k + 1) = behK b s k := by show (if rd b k = 10 then _ else _) = _; rw [if_neg c]
      rw [e, ih]
      constructor
      · rintro ⟨j, h1, h2, h3⟩
        exact ⟨j, by omega, h2, h3⟩
      · rintro ⟨j, h1, h2, h3⟩
        by_cases hj : j = k
        · subst hj; exact absurd h2 c
        · exact ⟨j, by omega, h2, h3⟩
theorem behK_sorted (b : List Int) (s : Int) (k : Nat) : (behK b s k).Pairwise (· < ·) := by
  induction k with
  | zero => exact List.Pairwise.nil
  | succ k ih =>
    by_cases c : rd b k = 10
    · have e : behK b s (k + 1) = behK b s k ++ [s + k + 1] := by show (if rd b k = 10 then _ else _) = _; rw [if_pos c]
      rw [e, List.pairwise_append]
      refine ⟨ih, List.pairwise_singleton _ _, fun x hx y hy => ?_⟩
      obtain ⟨j, h1, _, rfl⟩ := (mem_behK b s k x).mp hx
      rw [List.mem_singleton.mp hy]
      omega
    · have e : behK b s (k + 1) = behK b s k := by show (if rd b k = 10 then _ else _) = _; rw [if_neg c]
      rw [e]
      exact ih
theorem mem_behF (b : List Int) (s x : Int) : x ∈ behF b s ↔ ∃ j : Nat, j < b.length ∧ rd b j = 10 ∧ x = s + j + 1 := mem_behK b s b.length x

/-- Where lines begin. -/
def st (b : List Int) : List Int := 0 :: behF b 0
theorem st_len (b : List Int) : (st b).length ≤ b.length + 1 := by
  have := behK_le b 0 b.length
  unfold st behF
  rw [List.length_cons]
  omega
theorem st_pos (b : List Int) : 0 < (st b).length := by simp [st]
theorem mem_st (b : List Int) (x : Int) : x ∈ st b ↔ x = 0 ∨ ∃ j : Nat, j < b.length ∧ rd b j = 10 ∧ x = j + 1 := by
  unfold st
  rw [List.mem_cons, mem_behF]
  simp
theorem st_sorted (b : List Int) : (st b).Pairwise (· < ·) := by
  unfold st
  rw [List.pairwise_cons]
  refine ⟨fun x hx => ?_, behK_sorted b 0 _⟩
  obtain ⟨j, _, _, rfl⟩ := (mem_behF b 0 x).mp hx
  omega
theorem st_range (b : List Int) (k : Nat) (hk : k < (st b).length) : 0 ≤ rd (st b) k ∧ rd (st b) k ≤ b.length := by
  rcases (mem_st b _).mp (rd_mem (st b) k hk) with h | ⟨j, h1, _, h3⟩ <;> omega
theorem sorted_rd {l : List Int} (h : l.Pairwise (· < ·)) {i j : Nat} (hij : i < j) (hj : j < l.length) : rd l i < rd l j := by
  rw [rd_nat l i (by omega), rd_nat l j hj]
  exact (List.pairwise_iff_getElem.mp h) i j (by omega) hj hij
theorem rises_of {l : List Int} (h : l.Pairwise (· < ·)) : rises l = true := (rises_iff l).mpr fun j hj => sorted_rd h (by omega) hj
theorem rises_lt {l : List Int} (h : Rises l l.length) : ∀ (d i : Nat), i + d + 1 < l.length → rd l i < rd l ((i + d + 1 : Nat) : Int) := by
  intro d
  induction d with
  | zero => intro i hi; exact h i (by omega)
  | succ d ih =>
    intro i hi
    have h1 := ih i (by omega)
    have h2 := h (i + d + 1) (by omega)
    rw [show i + (d + 1) + 1 = i + d + 1 + 1 by omega]
    omega
theorem rises_lt' {l : List Int} (h : Rises l l.length) {i j : Nat} (hij : i < j) (hj : j < l.length) : rd l i < rd l j := by
  have := rises_lt h (j - i - 1) i (by omega)
  rwa [show i + (j - i - 1) + 1 = j by omega] at this

theorem starts_ev (b : List Int) (hb : b.length ≤ 1000000) : Ev (fun q => lines_Starts.f q b) (st b) := by
  have e : ∀ q, lines_Starts.f q b = (lines_behind.f q b 0).bind fun t => (if (([0] : List Int)).length + t.length < 17592186044416 then (some (([0] : List Int) ++ t)) else (none)) := fun q => rfl
  refine Ev.congr e (Ev.bind (behind_ev b 0 hb (by omega) (by omega)) ?_)
  have := behK_le b 0 b.length
  refine ⟨0, fun k _ => ?_⟩
  rw [if_pos (by simp only [List.length_singleton]; unfold behF; omega)]
  rfl

theorem bt_str (b : List Int) (hu : ∀ x ∈ b, 0 ≤ x ∧ x ≤ 255) (k : Nat) (hk : k < b.length) : bt (strOfNums b) k = rd b k := by
  have hx := hu _ (rd_mem b k hk)
  have hs : k < (strOfNums b).size := by rw [strOfNums_size]; exact hk
  unfold bt
  rw [dif_pos (by rw [Int.toNat_natCast]; exact hs), rd_nat b k hk]
  rw [rd_nat b k hk] at hx
  have e : (strOfNums b)[((k : Int)).toNat]'(by rw [Int.toNat_natCast]; exact hs) = UInt8.ofNat (b[k]).toNat := by
    show (strOfNums b).data[((k : Int)).toNat] = _
    simp [strOfNums]
  rw [e, UInt8.toNat_ofNat']
  omega

theorem refStarts_loop (b : List Int) (hb : b.length ≤ 1000000) (hu : ∀ x ∈ b, 0 ≤ x ∧ x ≤ 255) (m : Nat) : ∀ k : Nat, k + m = b.length → Ev (fun q => goboref3_Starts.l0 q (strOfNums b) (0 :: behK b 0 k) k) (st b) := by
  induction m with
  | zero =>
    intro k hk
    obtain rfl : k = b.length := by omega
    refine EvL fun q => ?_
    rw [goboref3_Starts.l0, if_neg (by rw [strOfNums_size]; omega)]
    rfl
  | succ m ih =>
    intro k hk
    have nx := ih (k + 1) (by omega)
    have hle := behK_le b 0 k
    have e1 : wrap64 ((k : Int) + 1) = ((k + 1 : Nat) : Int) := by unfold wrap64; omega
    refine Ev.step (fun q => ?_) nx
    by_cases c : rd b k = 10
    · rw [goboref3_Starts.l0, if_pos (by rw [strOfNums_size]; omega), if_pos (by omega), bt_str b hu k (by omega), if_pos c, if_pos (by rw [List.length_cons]; omega), e1]
      have : behK b 0 (k + 1) = behK b 0 k ++ [((k + 1 : Nat) : Int)] := by show (if rd b k = 10 then _ else _) = _; rw [if_pos c]; simp
      rw [this]
      rfl
    · rw [goboref3_Starts.l0, if_pos (by rw [strOfNums_size]; omega), if_pos (by omega), bt_str b hu k (by omega), if_neg c, e1]
      have : behK b 0 (k + 1) = behK b 0 k := by show (if rd b k = 10 then _ else _) = _; rw [if_neg c]
      rw [this]
theorem refStarts_ev (b : List Int) (hb : b.length ≤ 1000000) (hu : ∀ x ∈ b, 0 ≤ x ∧ x ≤ 255) : Ev (fun q => goboref3_Starts.f q (strOfNums b)) (st b) := refStarts_loop b hb hu b.length 0 (by omega)

/-- Where a line's text begins and ends. -/
def endsF (b : List Int) (line : Int) : Int × Int :=
  if line < 0 ∨ line ≥ (st b).length then (-1, -1)
  else if line + 1 < (st b).length then
    (if rd (st b) (line + 1) - 1 > rd (st b) line ∧ rd b (rd (st b) (line + 1) - 1 - 1) = 13 then (rd (st b) line, rd (st b) (line + 1) - 1 - 1) else (rd (st b) line, rd (st b) (line + 1) - 1))
  else (rd (st b) line, b.length)

theorem wrap_small {x : Int} (h0 : -1000000000 ≤ x) (h1 : x ≤ 1000000000) : wrap64 x = x := by unfold wrap64; omega

theorem ends_ev (b : List Int) (hb : b.length ≤ 1000000) (line : Int) : Ev (fun q => lines_Ends.f q b line) (endsF b line) := by
  have hl := st_len b
  refine Ev.bind (starts_ev b hb) ?_
  have hj : ∀ x : Bool, x = decide (line < 0 ∨ line ≥ (st b).length) → Ev (fun q => lines_Ends.j0 q b line (st b) x) (endsF b line) := by
    intro x hx
    refine EvL fun q => ?_
    unfold endsF
    by_cases c : line < 0 ∨ line ≥ (st b).length
    · rw [lines_Ends.j0, if_pos (by rw [hx]; exact decide_eq_true c), if_pos c]
    · rw [lines_Ends.j0, if_neg (by rw [hx]; simpa using c), if_neg c, if_pos (by omega), if_pos (by omega)]
      have e1 : wrap64 (line + 1) = line + 1 := wrap_small (by omega) (by omega)
      rw [e1]
      by_cases c1 : line + 1 < (st b).length
      · obtain ⟨n, rfl⟩ : ∃ n : Nat, line = n := ⟨line.toNat, by omega⟩
        have r1 := st_range b n (by omega)
        have r2 := st_range b (n + 1) (by omega)
        rw [Int.natCast_add, Int.natCast_one] at r2
        have e2 : wrap64 (rd (st b) ((n : Int) + 1) - 1) = rd (st b) ((n : Int) + 1) - 1 := wrap_small (by omega) (by omega)
        have e3 : wrap64 (rd (st b) ((n : Int) + 1) - 1 - 1) = rd (st b) ((n : Int) + 1) - 1 - 1 := wrap_small (by omega) (by omega)
        rw [if_pos c1, if_pos c1, if_pos (by omega), e2, e3]
        by_cases c2 : rd (st b) ((n : Int) + 1) - 1 > rd (st b) n
        · rw [if_pos c2, if_pos (by omega), if_pos (by omega)]
          by_cases c3 : rd b (rd (st b) ((n : Int) + 1) - 1 - 1) = 13
          · rw [if_pos c3, if_pos ⟨c2, c3⟩]
          · rw [if_neg c3, if_neg (fun h => c3 h.2)]
        · rw [if_neg c2, if_neg (fun h => c2 h.1)]
      · rw [if_neg c1, if_neg c1]
  by_cases c : line < 0
  · simp only [if_pos c]
    exact hj true (by simp [c])
  · simp only [if_neg c]
    exact hj _ (by simp [c])

theorem refEnds_ev (b : List Int) (hb : b.length ≤ 1000000) (hu : ∀ x ∈ b, 0 ≤ x ∧ x ≤ 255) (line : Int) : Ev (fun q => goboref3_Ends.f q (strOfNums b) line) (endsF b line) := by
  have hl := st_len b
  refine Ev.bind (refStarts_ev b hb hu) ?_
  have hj : ∀ x : Bool, x = decide (line < 0 ∨ line ≥ (st b).length) → Ev (fun q => goboref3_Ends.j0 q (strOfNums b) line (st b) x) (endsF b line) := by
    intro x hx
    refine EvL fun q => ?_
    unfold endsF
    by_cases c : line < 0 ∨ line ≥ (st b).length
    · rw [goboref3_Ends.j0, if_pos (by rw [hx]; exact decide_eq_true c), if_pos c]
    · rw [goboref3_Ends.j0, if_neg (by rw [hx]; simpa using c), if_neg c, if_pos (by omega), if_pos (by omega)]
      have e1 : wrap64 (line + 1) = line + 1 := wrap_small (by omega) (by omega)
      rw [e1, strOfNums_size]
      by_cases c1 : line + 1 < (st b).length
      · obtain ⟨n, rfl⟩ : ∃ n : Nat, line = n := ⟨line.toNat, by omega⟩
        have r1 := st_range b n (by omega)
        have r2 := st_range b (n + 1) (by omega)
        rw [Int.natCast_add, Int.natCast_one] at r2
        have e2 : wrap64 (rd (st b) ((n : Int) + 1) - 1) = rd (st b) ((n : Int) + 1) - 1 := wrap_small (by omega) (by omega)
        have e3 : wrap64 (rd (st b) ((n : Int) + 1) - 1 - 1) = rd (st b) ((n : Int) + 1) - 1 - 1 := wrap_small (by omega) (by omega)
        rw [if_pos c1, if_pos c1, if_pos (by omega), e2, e3]
        by_cases c2 : rd (st b) ((n : Int) + 1) - 1 > rd (st b) n
        · rw [if_pos c2, if_pos (by omega), if_pos (by omega)]
          obtain ⟨j, hj⟩ : ∃ j : Nat, rd (st b) ((n : Int) + 1) - 1 - 1 = j := ⟨(rd (st b) ((n : Int) + 1) - 1 - 1).toNat, by omega⟩
          rw [hj, bt_str b hu j (by omega)]
          by_cases c3 : rd b j = 13
          · rw [if_pos c3, if_pos ⟨c2, c3⟩]
          · rw [if_neg c3, if_neg (fun h => c3 h.2)]
        · rw [if_neg c2, if_neg (fun h => c2 h.1)]
      · rw [if_neg c1, if_neg c1]
  by_cases c : line < 0
  · simp only [if_pos c]
    exact hj true (by simp [c])
  · simp only [if_neg c]
    exact hj _ (by simp [c])

/-! ### Find -/
theorem gtAt_spec (a : Int) (l : List Int) : ∀ i : Int, (gtAt a l i = -1 ∧ ∀ j : Nat, j < l.length → rd l j ≤ a) ∨ (∃ q : Nat, q < l.length ∧ gtAt a l i = i + q ∧ a < rd l q ∧ ∀ j : Nat, j < q → rd l j ≤ a) := by
  induction l with
  | nil => intro i; exact .inl ⟨rfl, fun j hj => by simp at hj⟩
  | cons x t ih =>
    intro i
    by_cases c : a < x
    · exact .inr ⟨0, by simp, by show (if a < x then i else _) = _; rw [if_pos c]; simp, c, fun j hj => by omega⟩
    · have e : gtAt a (x :: t) i = gtAt a t (i + 1) := by show (if a < x then i else _) = _; rw [if_neg c]
      rw [e]
      rcases ih (i + 1) with ⟨h1, h2⟩ | ⟨q, h1, h2, h3, h4⟩
      · refine .inl ⟨h1, fun j hj => ?_⟩
        cases j with
        | zero => show x ≤ a; omega
        | succ j => rw [rd_cons1]; exact h2 j (by simpa using hj)
      · refine .inr ⟨q + 1, by simpa using h1, by rw [h2]; omega, by rw [rd_cons1]; exact h3, fun j hj => ?_⟩
        cases j with
        | zero => show x ≤ a; omega
        | succ j => rw [rd_cons1]; exact h4 j (by omega)

/-- In a list that rises from 0 the place is in the last line that begins at or ahead of it. -/
theorem lineOf_eq {l : List Int} {a : Int} (hr : Rises l l.length) {c : Nat} (hc : c < l.length) (h1 : rd l c ≤ a) (h2 : ∀ j : Nat, c < j → j < l.length → a < rd l j) : lineOf l a = c := by
  unfold lineOf
  rcases gtAt_spec a l 0 with ⟨e, h⟩ | ⟨q, hq, e, h3, h4⟩
  · rw [e, if_pos (by omega)]
    by_cases hcl : c + 1 = l.length
    · omega
    · have := h2 (l.length - 1) (by omega) (by omega)
      have := h (l.length - 1) (by omega)
      omega
  · rw [e]
    have hcq : c < q := by
      rcases Nat.lt_trichotomy c q with h | h | h
      · exact h
      · subst h; omega
      · have := rises_lt' hr h hc; omega
    have hqc : q ≤ c + 1 := by
      apply Decidable.byContradiction
      intro hn
      have := h2 (c + 1) (by omega) (by omega)
      have := h4 (c + 1) (by omega)
      omega
    rw [if_neg (by omega)]
    omega

theorem refFind_loop (l : List Int) (a : Int) (hl : l.length ≤ 1000000) (h0 : rd l 0 = 0) (ha : 0 ≤ a) (m : Nat) : ∀ (k c : Nat), 1 ≤ k → k + m = l.length → c < k → rd l c ≤ a → (∀ j : Nat, c < j → j < k → a < rd l j) → Rises l k →
    Ev (fun q => goboref3_Find.l0 q l a c k) (findF l a) := by
  induction m with
  | zero =>
    intro k c hk1 hk hc h1 h2 hr
    obtain rfl : k = l.length := by omega
    refine EvL fun q => ?_
    have hlo := lineOf_eq hr hc h1 h2
    have hrr := (rises_iff l).mpr hr
    have hne : ¬ (l = [] ∨ rd l 0 ≠ 0 ∨ a < 0 ∨ rises l = false) := by
      rintro (h | h | h | h)
      · subst h; simp at hk1
      · exact h h0
      · omega
      · rw [hrr] at h; cases h
    rw [goboref3_Find.l0, if_neg (by omega), if_pos (by omega), if_pos (by omega)]
    unfold findF
    rw [if_neg hne, hlo]
  | succ m ih =>
    intro k c hk1 hk hc h1 h2 hr
    have e1 : wrap64 ((k : Int) + 1) = ((k + 1 : Nat) : Int) := by unfold wrap64; omega
    have e2 : wrap64 ((k : Int) - 1) = ((k - 1 : Nat) : Int) := by unfold wrap64; omega
    by_cases c1 : rd l k ≤ rd l ((k - 1 : Nat) : Int)
    · refine EvL fun q => ?_
      rw [goboref3_Find.l0, if_pos (by omega), if_pos (by omega), e2, if_pos (by omega), if_pos (by omega), if_pos c1]
      have hr : rises l = false := Bool.eq_false_iff.mpr fun hh => by
        have := (rises_iff l).mp hh (k - 1) (by omega)
        rw [show k - 1 + 1 = k by omega] at this
        omega
      unfold findF
      rw [if_pos (.inr (.inr (.inr hr)))]
    · have hr' : Rises l (k + 1) := by
        intro j hj
        by_cases hjk : j + 1 < k
        · exact hr j hjk
        · obtain rfl : j = k - 1 := by omega
          rw [show k - 1 + 1 = k by omega]
          omega
      by_cases c2 : rd l k ≤ a
      · refine Ev.step (fun q => ?_) (ih (k + 1) k (by omega) (by omega) (by omega) c2 (fun j h3 h4 => by omega) hr')
        rw [goboref3_Find.l0, if_pos (by omega), if_pos (by omega), e2, if_pos (by omega), if_pos (by omega), if_neg c1, if_pos c2, e1]
      · refine Ev.step (fun q => ?_) (ih (k + 1) c (by omega) (by omega) (by omega) h1 (fun j h3 h4 => ?_) hr')
        · rw [goboref3_Find.l0, if_pos (by omega), if_pos (by omega), e2, if_pos (by omega), if_pos (by omega), if_neg c1, if_neg c2, e1]
        · by_cases hj : j = k
          · subst hj; omega
          · exact h2 j h3 (by omega)

theorem refFind_ev (l : List Int) (a : Int) (hl : l.length ≤ 1000000) : Ev (fun q => goboref3_Find.f q l a) (findF l a) := by
  have hbad : (l = [] ∨ rd l 0 ≠ 0 ∨ a < 0 ∨ rises l = false) → findF l a = (-1, -1) := fun h => by unfold findF; rw [if_pos h]
  have ht : (l = [] ∨ rd l 0 ≠ 0 ∨ a < 0 ∨ rises l = false) → Ev (fun q => goboref3_Find.j0 q l a true) (findF l a) := fun h => EvL fun q => by rw [goboref3_Find.j0, if_pos rfl, hbad h]
  by_cases c : l = []
  · refine Ev.congr (fun q => ?_) (ht (.inl c))
    unfold goboref3_Find.f
    rw [if_pos (by rw [c]; rfl)]
  · have hp := List.length_pos_iff.mpr c
    by_cases c2 : rd l 0 = 0
    · by_cases c3 : a < 0
      · refine Ev.congr (fun q => ?_) (ht (.inr (.inr (.inl c3))))
        unfold goboref3_Find.f
        rw [if_neg (by omega), if_pos (by omega), if_pos c2, decide_eq_true c3]
      · refine Ev.congr (f := fun q => goboref3_Find.j0 q l a false) (fun q => ?_) ?_
        · unfold goboref3_Find.f
          rw [if_neg (by omega), if_pos (by omega), if_pos c2, decide_eq_false c3]
        · refine Ev.step (f := fun q => goboref3_Find.l0 q l a 0 1) (fun q => ?_) (refFind_loop l a hl c2 (by omega) (l.length - 1) 1 0 (Nat.le_refl _) (by omega) (by omega) (by show rd l 0 ≤ a; omega) (fun j h1 h2 => by omega) (fun j hj => by omega))
          rw [goboref3_Find.j0, if_neg (by simp)]
    · refine Ev.congr (fun q => ?_) (ht (.inr (.inl c2)))
      unfold goboref3_Find.f
      rw [if_neg (by omega), if_pos (by omega), if_neg c2]

theorem numbers_loop (l : List Int) (hl : l.length ≤ 1000000000) (m : Nat) : ∀ k : Nat, k + m = l.length → Ev (fun q => gobolaw4_numbers.l0 q l l k) true := by
  induction m with
  | zero =>
    intro k hk
    refine EvL fun q => ?_
    rw [gobolaw4_numbers.l0, if_neg (by omega)]
  | succ m ih =>
    intro k hk
    have e1 : wrap64 ((k : Int) + 1) = ((k + 1 : Nat) : Int) := by unfold wrap64; omega
    refine Ev.step (fun q => ?_) (ih (k + 1) (by omega))
    rw [gobolaw4_numbers.l0, if_pos (by omega), if_pos (by omega), if_pos (by omega), if_pos rfl, e1]
theorem numbers_ev (l : List Int) (hl : l.length ≤ 1000000000) : Ev (fun q => gobolaw4_numbers.f q l l) true := by
  refine Ev.congr (f := fun q => gobolaw4_numbers.l0 q l l 0) (fun q => ?_) (numbers_loop l hl l.length 0 (by omega))
  unfold gobolaw4_numbers.f
  rw [if_pos rfl]
end Go.Proofs.Ytcjfhcfkjnfihaa.PLines
