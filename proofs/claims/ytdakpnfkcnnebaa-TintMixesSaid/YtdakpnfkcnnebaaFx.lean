/- What the functions of scroll come to, as plain functions on the words of floats, and within which bounds. No program in sight. -/
import Derived.Test.YtdakpnfkcnnebaaFw
namespace Fl
open Ieee

/-- The word of a half. -/
abbrev half : Nat := 4602678819172646912
def fadd (a b : Nat) : Nat := (double.add a b).getD 0
def fsub (a b : Nat) : Nat := (double.sub a b).getD 0
def fmul (a b : Nat) : Nat := (double.mul a b).getD 0
def fdiv (a b : Nat) : Nat := (double.div a b).getD 0

/-- What 1/2 and what 1 stand for. -/
def H : Nat := pw 1073
def E : Nat := pw 1074
theorem E_eq : E = 2 * H := pw_succ 1073
theorem H_pos : 0 < H := pw_pos 1073
theorem E_pos : 0 < E := pw_pos 1074

theorem pw0 (m : Nat) : m * pw 0 = m := by rw [pw_def, Nat.pow_zero, Nat.mul_one]
theorem R1_le {X r : Nat} (hr : r < 2047 * 2 ^ 52) (h : X ≤ mg r) : R 1074 X ≤ r := R_le' (d := 0) rfl hr (by rw [pw0]; exact h)
theorem le_R1 {X r : Nat} (hr : r < 2047 * 2 ^ 52) (h : mg r ≤ X) : r ≤ R 1074 X := le_R' (d := 0) rfl hr (by rw [pw0]; exact h)
theorem R1_exact {r : Nat} (hr : r < 2047 * 2 ^ 52) : R 1074 (mg r) = r := by
  have := R_exact' (c := 1074) (d := 0) rfl hr
  rwa [pw0] at this
theorem le1074 : 1074 ≤ 2148 := by decide
theorem R2_le {X r : Nat} (hr : r < 2047 * 2 ^ 52) (h : X ≤ mg r * E) : R 2148 X ≤ r := R_le' (d := 1074) rfl hr h
theorem le_R2 {X r : Nat} (hr : r < 2047 * 2 ^ 52) (h : mg r * E ≤ X) : r ≤ R 2148 X := le_R' (d := 1074) rfl hr h
theorem R2_exact {r : Nat} (hr : r < 2047 * 2 ^ 52) : R 2148 (mg r * E) = r := R_exact' (d := 1074) rfl hr
theorem R1_mono {X Y : Nat} (h : X ≤ Y) : R 1074 X ≤ R 1074 Y := R_mono (Nat.le_refl 1074) h
theorem R2_mono {X Y : Nat} (h : X ≤ Y) : R 2148 X ≤ R 2148 Y := R_mono le1074 h

theorem one_mg : mg one = E := by
  have h := mgP 1022 (2 ^ 52) 52 (Or.inr (Nat.le_refl _)) (by decide) (pw_def 52).symm
  have e : 1022 * 2 ^ 52 + 2 ^ 52 = one := by decide
  rw [e] at h
  exact h
theorem half_mg : mg half = H := by
  have h := mgP 1021 (2 ^ 52) 52 (Or.inr (Nat.le_refl _)) (by decide) (pw_def 52).symm
  have e : 1021 * 2 ^ 52 + 2 ^ 52 = half := by decide
  rw [e] at h
  exact h
theorem gridE (n : Nat) (h : n ≤ 2 ^ 53) : ∃ r, r < 2047 * 2 ^ 52 ∧ mg r = n * E := gridP n 1074 h (by decide)
theorem gridH (n : Nat) (h : n ≤ 2 ^ 53) : ∃ r, r < 2047 * 2 ^ 52 ∧ mg r = n * H := gridP n 1073 h (by decide)

/-- A whole number as a word. -/
def ofI (n : Nat) : Nat := R 1074 (n * E)
theorem ofI_mg (n : Nat) (h : n ≤ 2 ^ 53) : mg (ofI n) = n * E ∧ ofI n < 2047 * 2 ^ 52 := by
  obtain ⟨r, hr, e⟩ := gridE n h
  have : ofI n = r := by unfold ofI; rw [← e]; exact R1_exact hr
  rw [this]; exact ⟨e, hr⟩
theorem ofI_mono {n m : Nat} (h : n ≤ m) : ofI n ≤ ofI m := R1_mono (Nat.mul_le_mul_right _ h)
theorem ofI_of (n : Int) (h : 0 ≤ n) : Go.floatOfInt .f64 n = ofI n.toNat := by
  obtain ⟨k, rfl⟩ := Int.eq_ofNat_of_zero_le h
  exact ofInt_eq k

theorem one_lt : one < 2047 * 2 ^ 52 := by decide
theorem half_lt : half < 2047 * 2 ^ 52 := by decide

/-- A part of a number. -/
def scaled (p n : Nat) : Nat := fmul p (ofI n)
theorem scaled_some (p n : Nat) (hp : p ≤ one) (hn : n ≤ 2 ^ 52) : double.mul p (ofI n) = some (scaled p n) ∧ scaled p n = R 2148 (mg p * (n * E)) ∧ scaled p n ≤ ofI n := by
  obtain ⟨e, hf⟩ := ofI_mg n (Nat.le_trans hn (by decide))
  have hm := mul_nn p (ofI n) (Nat.lt_of_le_of_lt hp one_lt) hf
  rw [e] at hm
  have hs : scaled p n = R 2148 (mg p * (n * E)) := by unfold scaled fmul; rw [hm, Option.getD_some]
  refine ⟨by rw [hm, hs], hs, ?_⟩
  rw [hs]
  refine R2_le hf ?_
  rw [e]
  have h2 := mg_le hp
  rw [one_mg] at h2
  rw [Nat.mul_comm (n * E)]
  exact Nat.mul_le_mul_right _ h2

/-- A number and a half. -/
def plusHalf (x : Nat) : Nat := fadd x half
theorem plusHalf_some (x n : Nat) (h : x ≤ ofI n) (hn : n ≤ 2 ^ 51) :
    double.add x half = some (plusHalf x) ∧ plusHalf x = R 1074 (mg x + H) ∧ plusHalf x < 2047 * 2 ^ 52 ∧ mg (plusHalf x) ≤ (2 * n + 1) * H := by
  obtain ⟨e, hf⟩ := ofI_mg n (Nat.le_trans hn (by decide))
  have hm := add_nn x half (Nat.lt_of_le_of_lt h hf) half_lt
  rw [half_mg] at hm
  have hs : plusHalf x = R 1074 (mg x + H) := by unfold plusHalf fadd; rw [hm, Option.getD_some]
  obtain ⟨r, hr, er⟩ := gridH (2 * n + 1) (by omega)
  have hle : plusHalf x ≤ r := by
    rw [hs]
    refine R1_le hr ?_
    rw [er, Nat.add_mul, Nat.one_mul]
    have h2 := mg_le h
    rw [e, E_eq, ← Nat.mul_assoc, Nat.mul_comm n] at h2
    exact Nat.add_le_add_right h2 _
  exact ⟨by rw [hm, hs], hs, Nat.lt_of_le_of_lt hle hr, by rw [← er]; exact mg_le hle⟩

/-- Cut to a whole number. -/
def cutI (x : Nat) : Nat := mg x / E
theorem cutI_of (x : Nat) (hx : x < 2047 * 2 ^ 52) (k : Go.IntKind) (h0 : k.min ≤ (cutI x : Int)) (h1 : (cutI x : Int) ≤ k.max) : Go.floatToIntVal .f64 x k = some (cutI x : Int) := by
  have := toInt_nn x hx
  unfold Go.floatToIntVal
  rw [this]
  exact if_pos ⟨h0, h1⟩

def partI (f n : Nat) : Nat := cutI (plusHalf (scaled (partB f) n))
theorem half_cut (x n : Nat) (h : mg x ≤ (2 * n + 1) * H) : cutI x ≤ n := by
  unfold cutI
  have h5 : (2 * n + 1) * H < (n + 1) * E := by
    have : (n + 1) * E = (2 * n + 2) * H := by
      rw [E_eq, ← Nat.mul_assoc]; congr 1; omega
    rw [this]
    exact Nat.mul_lt_mul_of_pos_right (by omega) H_pos
  exact Nat.le_of_lt_succ ((Nat.div_lt_iff_lt_mul E_pos).2 (Nat.lt_of_le_of_lt h h5))
theorem partI_le (f n : Nat) (hf : f < 2 ^ 64) (hn : n ≤ 2 ^ 51) : partI f n ≤ n := by
  obtain ⟨_, _, h3⟩ := scaled_some (partB f) n (partB_le f hf) (Nat.le_trans hn (by decide))
  obtain ⟨_, _, _, h4⟩ := plusHalf_some _ n h3 hn
  exact half_cut _ n h4
end Fl
