/- Plain facts on the floats of the model: what the operations give on numbers that are not negative. No program in sight. -/
import Derived.Test.YtdakpnfkcnnebaaFc
import Derived.Laws.FloatArith
namespace Fl
open Ieee
theorem cast3 {a b c u : Nat} (h : ((a * 2 ^ b : Nat) : Int) * 2 ^ u = ((c : Nat) : Int)) : a * 2 ^ b * 2 ^ u = c := by
  have e : ((2 : Int) ^ u) = ((2 ^ u : Nat) : Int) := by rw [Int.natCast_pow]; rfl
  rw [e, ← Int.natCast_mul] at h
  exact Int.ofNat.inj h

/-- How two floats that are not negative stand to each other. -/
theorem order_nn (x y : Nat) (hx : x ≤ 2047 * 2 ^ 52) (hy : y ≤ 2047 * 2 ^ 52) : double.order x y = some (compare x y) := by
  have cmpN : ∀ a b : Nat, compare (a : Int) (b : Int) = compare a b := by
    intro a b
    simp only [compare, compareOfLessAndEq]
    by_cases h1 : a < b
    · rw [if_pos h1, if_pos (by omega)]
    · rw [if_neg h1, if_neg (by omega)]
      by_cases h2 : a = b
      · rw [if_pos h2, if_pos (by omega)]
      · rw [if_neg h2, if_neg (by omega)]
  unfold Format.order
  by_cases ex : x = 2047 * 2 ^ 52
  · have e1 := read_inf x (by rw [mod_small (by omega)]; exact ex)
    rw [sg_small (by omega)] at e1
    by_cases ey : y = 2047 * 2 ^ 52
    · have e2 := read_inf y (by rw [mod_small (by omega)]; exact ey)
      rw [sg_small (by omega)] at e2
      rw [e1, e2, ex, ey]; rfl
    · obtain ⟨n, q, e2, _, _, _⟩ := read_num y (by rw [mod_small (by omega)]; omega)
      rw [sg_small (by omega)] at e2
      rw [e1, e2]
      have : compare x y = .gt := Nat.compare_eq_gt.2 (by omega)
      rw [this]; rfl
  · obtain ⟨m, p, e1, h1, _, h2⟩ := read_num x (by rw [mod_small (by omega)]; omega)
    rw [sg_small (by omega)] at e1
    rw [mod_small (by omega)] at h2
    by_cases ey : y = 2047 * 2 ^ 52
    · have e2 := read_inf y (by rw [mod_small (by omega)]; exact ey)
      rw [sg_small (by omega)] at e2
      rw [e1, e2]
      have : compare x y = .lt := Nat.compare_eq_lt.2 (by omega)
      rw [this]; rfl
    · obtain ⟨n, q, e2, h1', _, h2'⟩ := read_num y (by rw [mod_small (by omega)]; omega)
      rw [sg_small (by omega)] at e2
      rw [mod_small (by omega)] at h2'
      rw [e1, e2]
      simp only [Datum.order]
      have k1 := signed_scale false m p (min p q) (by omega) (by omega)
      have k2 := signed_scale false n q (min p q) (by omega) (by omega)
      rw [signed_eq, signed_eq] at k1 k2
      simp only [Bool.false_eq_true, if_false] at k1 k2
      rw [h2] at k1
      rw [h2'] at k2
      rw [signed_eq, signed_eq]
      simp only [Bool.false_eq_true, if_false]
      rw [cmpN]
      congr 1
      obtain ⟨s, hs⟩ : ∃ s : Nat, s = 2 ^ (min p q + 1074).toNat := ⟨_, rfl⟩
      have hpos : 0 < s := by rw [hs]; exact Nat.two_pow_pos _
      have k1' : m * 2 ^ (p - min p q).toNat * s = mg x := by rw [hs]; exact cast3 k1
      have k2' : n * 2 ^ (q - min p q).toNat * s = mg y := by rw [hs]; exact cast3 k2
      generalize m * 2 ^ (p - min p q).toNat = A at *
      generalize n * 2 ^ (q - min p q).toNat = B at *
      rcases Nat.lt_trichotomy x y with h | h | h
      · have := mg_lt h
        rw [← k1', ← k2'] at this
        have : A < B := Nat.lt_of_mul_lt_mul_right this
        rw [Nat.compare_eq_lt.2 h, Nat.compare_eq_lt.2 this]
      · have : A * s = B * s := by rw [k1', k2', h]
        have : A = B := Nat.eq_of_mul_eq_mul_right hpos this
        rw [Nat.compare_eq_eq.2 h, Nat.compare_eq_eq.2 this]
      · have := mg_lt h
        rw [← k1', ← k2'] at this
        have : B < A := Nat.lt_of_mul_lt_mul_right this
        rw [Nat.compare_eq_gt.2 h, Nat.compare_eq_gt.2 this]

theorem ofInt_gen (n z : Nat) (hz : z = 1074) : Go.floatOfInt .f64 (n : Int) = R z (n * pw z) := by
  show double.nearest (decide ((n : Int) < 0)) (n : Int).natAbs 0 = _
  have : decide ((n : Int) < 0) = false := by simp
  rw [this, nearest_eq _ _ _ z (by omega) (by omega), word_false]
  have e1 : ((0 : Int) + (z : Int)).toNat = z := by omega
  rw [e1, Int.natAbs_natCast, pw_def]
/-- A whole number as a float. -/
theorem ofInt_eq (n : Nat) : Go.floatOfInt .f64 (n : Int) = R 1074 (n * pw 1074) := ofInt_gen n 1074 rfl

theorem toInt_nn (x : Nat) (hx : x < 2047 * 2 ^ 52) : (Go.FloatKind.f64.decode x).toInt .zero = some ((mg x / pw 1074 : Nat) : Int) := by
  obtain ⟨z, hz⟩ : ∃ z, z = 1074 := ⟨_, rfl⟩
  rw [← hz]
  obtain ⟨m, p, e1, h1, hp2, h2⟩ := read_num x (by rw [mod_small (by omega)]; omega)
  rw [sg_small (by omega)] at e1
  rw [mod_small (by omega)] at h2
  show (double.read x).toInt .zero = _
  rw [e1]
  have cutz : ∀ n drop, Toward.zero.cut false n drop = n / 2 ^ drop := by
    intro n drop
    unfold Toward.cut
    simp only [Bool.toNat_false, Nat.add_zero]
    by_cases h : drop ≤ n.log2 + 2
    · rw [Nat.min_eq_left h, Nat.one_shiftLeft]
    · rw [Nat.min_eq_right (by omega), Nat.one_shiftLeft]
      have hn : n < 2 ^ (n.log2 + 1) := Nat.lt_log2_self
      have h3 : 2 ^ (n.log2 + 1) ≤ 2 ^ (n.log2 + 2) := Nat.pow_le_pow_right (by omega) (by omega)
      have h4 : 2 ^ (n.log2 + 1) ≤ 2 ^ drop := Nat.pow_le_pow_right (by omega) (by omega)
      rw [Nat.div_eq_of_lt (by omega), Nat.div_eq_of_lt (by omega)]
  simp only [Datum.toInt, Datum.integral, cutz, signed_eq]
  simp only [Bool.false_eq_true, if_false, Nat.pow_zero, Nat.mul_one, Nat.shiftLeft_eq]
  congr 2
  rw [← h2, pw_def]
  by_cases hp : 0 ≤ p
  · have e3 : (-p).toNat = 0 := by omega
    have e4 : (p + 1074).toNat = p.toNat + z := by omega
    rw [e3, e4, Nat.pow_add, ← Nat.mul_assoc, Nat.mul_div_cancel _ (Nat.two_pow_pos z)]
    simp
  · have e3 : p.toNat = 0 := by omega
    have e4 : z = (p + 1074).toNat + (-p).toNat := by omega
    rw [e3]
    have e5 : (2 : Nat) ^ z = 2 ^ (p + 1074).toNat * 2 ^ (-p).toNat := by rw [← Nat.pow_add, ← e4]
    rw [e5, Nat.pow_zero, Nat.mul_one, Nat.mul_comm m, Nat.mul_div_mul_left _ _ (Nat.two_pow_pos _)]
end Fl
