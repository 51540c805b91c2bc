/- What the functions of tint come to, as plain functions on the words of floats. No program in sight. -/
import Derived.Test.YtdakpnfkcnnebaaFd
namespace Fl
open Ieee

/-- The word of 1. -/
abbrev one : Nat := 4607182418800017408
def isN (x : Nat) : Bool := double.order x x != some .eq
def le0 (x : Nat) : Bool := double.order x 0 == some .lt || double.order x 0 == some .eq
def ge1 (x : Nat) : Bool := double.order x one == some .gt || double.order x one == some .eq
def gt0 (x : Nat) : Bool := double.order x 0 == some .gt
def partB (x : Nat) : Nat := if isN x then 0 else if le0 x then 0 else if ge1 x then one else x
def partR (x : Nat) : Nat := if ge1 x then one else if gt0 x then x else 0

theorem one_eq : one = 1023 * 2 ^ 52 := rfl

theorem read_pos (x : Nat) (h : sg x = false) : double.read x = double.read (x % 2 ^ 63) := by
  rw [read_eq, read_eq, h, sg_small (Nat.mod_lt _ (by omega)), Nat.mod_mod]

theorem order_pos (x y : Nat) (h : sg x = false) (hx : x % 2 ^ 63 ≤ 2047 * 2 ^ 52) (hy : y ≤ 2047 * 2 ^ 52) : double.order x y = some (compare (x % 2 ^ 63) y) := by
  rw [← order_nn _ _ hx hy]
  unfold Format.order
  rw [read_pos x h]

theorem order_nan (x y : Nat) (hx : 2047 * 2 ^ 52 < x % 2 ^ 63) : double.order x y = none := by
  obtain ⟨t, e⟩ := read_nan x hx
  unfold Format.order
  rw [e]; rfl

theorem signed_true_le (m u : Nat) : signed true m u ≤ 0 := by
  rw [signed_eq, if_pos rfl]
  omega
theorem signed_false_pos (m u : Nat) (h : 0 < m) : 0 < signed false m u := by
  rw [signed_eq]; simp only [Bool.false_eq_true, if_false]
  have := Nat.mul_pos h (Nat.two_pow_pos u); omega

/-- Below nought or nought of either sign, against what is above nought. -/
theorem order_neg_pos (x y : Nat) (h : sg x = true) (hx : x % 2 ^ 63 ≤ 2047 * 2 ^ 52) (hy : y < 2047 * 2 ^ 52) (hy0 : 0 < y) : double.order x y = some .lt := by
  obtain ⟨n, q, e, _, _, h2⟩ := read_num y (by rw [mod_small (by omega)]; omega)
  rw [sg_small (by omega)] at e
  rw [mod_small (by omega)] at h2
  have hn : 0 < n := by
    rcases Nat.eq_zero_or_pos n with h | h
    · rw [h, Nat.zero_mul] at h2
      have := mg_lt hy0; rw [mg_zero] at this; omega
    · exact h
  unfold Format.order
  rw [e]
  by_cases ex : x % 2 ^ 63 = 2047 * 2 ^ 52
  · rw [read_inf x ex, h]; rfl
  · obtain ⟨m, p, e', _, _, _⟩ := read_num x (by omega)
    rw [e', h]
    simp only [Datum.order]
    have h1 := signed_true_le m (p - min p q).toNat
    have h2 := signed_false_pos n (q - min p q).toNat hn
    have : compare (signed true m (p - min p q).toNat) (signed false n (q - min p q).toNat) = .lt := by
      simp only [compare, compareOfLessAndEq]
      rw [if_pos (by omega)]
    rw [this]

theorem order_neg_zero (x : Nat) (h : sg x = true) (hx : x % 2 ^ 63 ≤ 2047 * 2 ^ 52) : double.order x 0 = some .lt ∨ double.order x 0 = some .eq := by
  have e0 : double.read 0 = .number false 0 (-1074) := by rw [read_eq]; rfl
  unfold Format.order
  rw [e0]
  by_cases ex : x % 2 ^ 63 = 2047 * 2 ^ 52
  · left; rw [read_inf x ex, h]; rfl
  · obtain ⟨m, p, e', _, _, _⟩ := read_num x (by omega)
    rw [e', h]
    simp only [Datum.order]
    have h1 := signed_true_le m (p - min p (-1074)).toNat
    have h2 : signed false 0 (-1074 - min p (-1074)).toNat = 0 := by rw [signed_eq]; simp
    rw [h2]
    simp only [compare, compareOfLessAndEq]
    by_cases hz : signed true m (p - min p (-1074)).toNat < 0
    · left; rw [if_pos hz]
    · right; rw [if_neg hz, if_pos (by omega)]

/-- The three makes of a word. -/
theorem makes (x : Nat) : 2047 * 2 ^ 52 < x % 2 ^ 63 ∨ (sg x = true ∧ x % 2 ^ 63 ≤ 2047 * 2 ^ 52) ∨ (sg x = false ∧ x % 2 ^ 63 ≤ 2047 * 2 ^ 52) := by
  by_cases h : 2047 * 2 ^ 52 < x % 2 ^ 63
  · left; exact h
  · right
    cases h2 : sg x
    · right; exact ⟨rfl, by omega⟩
    · left; exact ⟨rfl, by omega⟩

theorem order_self (x : Nat) (hx : x % 2 ^ 63 ≤ 2047 * 2 ^ 52) : double.order x x = some .eq := by
  unfold Format.order
  by_cases ex : x % 2 ^ 63 = 2047 * 2 ^ 52
  · rw [read_inf x ex]; simp only [Datum.order]
    cases sg x <;> rfl
  · obtain ⟨m, p, e', _, _, _⟩ := read_num x (by omega)
    rw [e']
    simp only [Datum.order]
    simp [compare, compareOfLessAndEq]

theorem part_nan (x : Nat) (h : 2047 * 2 ^ 52 < x % 2 ^ 63) : partB x = 0 ∧ partR x = 0 := by
  unfold partB partR isN ge1 gt0
  simp [order_nan x _ h]
theorem part_neg (x : Nat) (h : sg x = true) (hx : x % 2 ^ 63 ≤ 2047 * 2 ^ 52) : partB x = 0 ∧ partR x = 0 := by
  have h1 := order_neg_pos x one h hx (by decide) (by decide)
  unfold partB partR isN ge1 gt0 le0
  rw [order_self x hx, h1]
  rcases order_neg_zero x h hx with h2 | h2 <;> rw [h2] <;> exact ⟨rfl, rfl⟩
theorem part_pos (x : Nat) (h : sg x = false) (hx : x % 2 ^ 63 ≤ 2047 * 2 ^ 52) (hb : x < 2 ^ 64) : x % 2 ^ 63 = x ∧ partB x = min x one ∧ partR x = min x one := by
  have hlt : x < 2 ^ 63 := by
    unfold sg at h
    have : x / 2 ^ 63 % 2 = 0 := by
      have h3 : ¬ (x / 2 ^ 63 % 2 = 1) := by simpa using h
      omega
    omega
  have em := mod_small hlt
  rw [em] at hx
  refine ⟨em, ?_⟩
  have h1 := order_nn x one hx (by decide)
  have h0 := order_nn x 0 hx (by decide)
  have hs := order_self x (by rw [em]; exact hx)
  unfold partB partR isN ge1 gt0 le0
  rw [hs, h1, h0]
  rcases Nat.lt_trichotomy x one with g | g | g
  · rw [Nat.compare_eq_lt.2 g]
    rcases Nat.eq_zero_or_pos x with z | z
    · subst z; decide
    · rw [Nat.compare_eq_gt.2 z, Nat.min_eq_left (by omega)]
      exact ⟨rfl, rfl⟩
  · rw [Nat.compare_eq_eq.2 g, Nat.compare_eq_gt.2 (show 0 < x by rw [g]; decide), g]; decide
  · have h1 : 0 < one := by decide
    rw [Nat.compare_eq_gt.2 g, Nat.compare_eq_gt.2 (show 0 < x by omega), Nat.min_eq_right (by omega)]
    exact ⟨rfl, rfl⟩

theorem part_same (x : Nat) (hb : x < 2 ^ 64) : partR x = partB x := by
  rcases makes x with h | ⟨h, h'⟩ | ⟨h, h'⟩
  · rw [(part_nan x h).1, (part_nan x h).2]
  · rw [(part_neg x h h').1, (part_neg x h h').2]
  · rw [(part_pos x h h' hb).2.1, (part_pos x h h' hb).2.2]

theorem partB_le (x : Nat) (hb : x < 2 ^ 64) : partB x ≤ one := by
  rcases makes x with h | ⟨h, h'⟩ | ⟨h, h'⟩
  · rw [(part_nan x h).1]; decide
  · rw [(part_neg x h h').1]; decide
  · rw [(part_pos x h h' hb).2.1]; omega

theorem partB_of_le (x : Nat) (h : x ≤ one) : partB x = x := by
  have h1 : one < 2 ^ 63 := by decide
  have h2 : one ≤ 2047 * 2 ^ 52 := by decide
  rw [(part_pos x (sg_small (by omega)) (by rw [mod_small (by omega)]; omega) (by omega)).2.1]
  omega
end Fl
