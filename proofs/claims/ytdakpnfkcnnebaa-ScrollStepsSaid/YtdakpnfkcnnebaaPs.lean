/- Plain: places and steps of 64ths. No program in sight. -/
import Derived.Test.YtdakpnfkcnnebaaPw
namespace Fl
open Ieee

/-- A 64th. -/
def Q : Nat := pw 1068
theorem E_Q : E = 64 * Q := by
  have : E = 2 ^ 6 * pw 1068 := pw_add 6 1068
  rw [this]; rfl
theorem Q_pos : 0 < Q := pw_pos 1068
def pF (i : Nat) : Nat := fdiv (ofI i) (ofI 64)
theorem pF_all (i : Nat) (h : i ≤ 64) : double.div (ofI i) (ofI 64) = some (pF i) ∧ mg (pF i) = i * Q ∧ pF i ≤ one ∧ R 1074 (i * Q) = pF i := by
  have b1 : i ≤ 2 ^ 53 := Nat.le_trans h (by decide)
  have b2 : (64 : Nat) ≤ 2 ^ 53 := by decide
  obtain ⟨q, e, _, hlo, hhi⟩ := div_nn (ofI i) (ofI 64) (ofI_mg _ b1).2 (ofI_mg _ b2).2 (ofI_pos _ (by decide) b2)
  have ef : pF i = q := by unfold pF fdiv; rw [e, Option.getD_some]
  obtain ⟨r, hr, er⟩ : ∃ r, r < 2047 * 2 ^ 52 ∧ mg r = i * Q := gridP i 1068 b1 (by decide)
  rw [(ofI_mg _ b1).1, (ofI_mg _ b2).1] at hlo hhi
  have key : mg r * (64 * E) = i * E * pw 1074 := by
    have hE : pw 1074 = E := rfl
    rw [er, hE]
    have : i * E * E = i * (64 * Q) * E := by rw [← E_Q]
    rw [this]; ac_rfl
  have h1 := hlo r hr (Nat.le_of_eq key)
  have h2 := hhi r hr (Nat.le_of_eq key.symm)
  have eq : pF i = r := by omega
  have hone : r ≤ one := by
    refine le_of_mg ?_
    rw [er, one_mg, E_Q]
    exact Nat.mul_le_mul_right _ h
  refine ⟨by rw [e, ef], by rw [eq, er], by rw [eq]; exact hone, ?_⟩
  rw [eq, ← er]
  exact R1_exact hr

theorem one_63 : one < 2 ^ 63 := by decide
theorem pF_small (i : Nat) (h : i ≤ 64) : pF i < 2 ^ 63 := Nat.lt_of_le_of_lt (pF_all i h).2.2.1 one_63
theorem pF_fin (i : Nat) (h : i ≤ 64) : pF i % 2 ^ 63 < 2047 * 2 ^ 52 := by
  rw [mod_small (pF_small i h)]
  exact Nat.lt_of_le_of_lt (pF_all i h).2.2.1 one_lt
theorem pF_sv (i : Nat) (h : i ≤ 64) : sv (pF i) = i * Q ∧ sg (pF i) = false := by
  rw [sv_small (pF_small i h), (pF_all i h).2.1]
  exact ⟨by rw [Int.natCast_mul], sg_small (pF_small i h)⟩

/-- The word of a 64th of either sign. -/
def sF (s : Bool) (i : Nat) : Nat := if s then 2 ^ 63 + pF i else pF i
theorem sF_all (s : Bool) (i : Nat) (h : i ≤ 64) : sF s i % 2 ^ 63 = pF i ∧ sg (sF s i) = s ∧ sv (sF s i) = (if s then -((i * Q : Nat) : Int) else ((i * Q : Nat) : Int)) ∧ sF s i < 2 ^ 64 := by
  have hp := pF_small i h
  cases s
  · have e : sF false i = pF i := rfl
    rw [e]
    have := pF_sv i h
    exact ⟨mod_small hp, this.2, by rw [this.1, Int.natCast_mul]; rfl, by omega⟩
  · have e : sF true i = 2 ^ 63 + pF i := rfl
    have em : (2 ^ 63 + pF i) % 2 ^ 63 = pF i := by rw [Nat.add_mod_left, mod_small hp]
    have es : sg (2 ^ 63 + pF i) = true := by
      unfold sg
      rw [Nat.add_div_left _ (by decide), Nat.div_eq_of_lt hp]; rfl
    rw [e]
    refine ⟨em, es, ?_, by omega⟩
    unfold sv
    rw [es, em, (pF_all i h).2.1]

theorem word_sF (s : Bool) (i : Nat) : double.word s (pF i) = sF s i := by
  cases s
  · rw [word_false]; rfl
  · rw [word_true]; rfl

/-- 64ths taken away. -/
theorem sub_sF (i j : Nat) (hi : i ≤ 64) (hj : j ≤ 64) : double.sub (pF j) (pF i) = some (sF (decide (j < i)) (j - i + (i - j))) := by
  rw [sub_eq _ _ (pF_fin j hj) (pF_fin i hi), (pF_sv i hi).1, (pF_sv j hj).1, (pF_sv i hi).2, (pF_sv j hj).2, ← word_sF]
  have hQ : (0 : Int) < (Q : Int) := by have := Q_pos; omega
  have e : (j : Int) * Q - i * Q = (j - i) * Q := by rw [Int.sub_mul]
  rw [e]
  congr 2
  · by_cases h : j = i
    · subst h
      rw [Int.sub_self, Int.zero_mul, if_pos rfl]; simp
    · rcases Nat.lt_or_ge j i with g | g
      · have : ((j : Int) - i) * Q < 0 := Int.mul_neg_of_neg_of_pos (by omega) hQ
        rw [if_neg (by omega)]; simp [this, g]
      · have : 0 < ((j : Int) - i) * Q := Int.mul_pos (by omega) hQ
        rw [if_neg (by omega)]
        have g' : ¬ j < i := by omega
        simp [g']; omega
  · have : (((j : Int) - i) * Q).natAbs = (j - i + (i - j)) * Q := by
      rw [Int.natAbs_mul, Int.natAbs_natCast]; congr 1; omega
    rw [this]
    exact (pF_all _ (by omega)).2.2.2

/-- 64ths of either sign, laid on 64ths: what comes of it is not below nought. -/
theorem add_sF (i k n : Nat) (s : Bool) (hi : i ≤ 64) (hk : k ≤ 64) (hn : n ≤ 64) (h : (i : Int) + (if s then -(k : Int) else k) = n) : double.add (pF i) (sF s k) = some (pF n) := by
  obtain ⟨e1, e2, e3, e4⟩ := sF_all s k hk
  rw [add_eq _ _ (pF_fin i hi) (by rw [e1]; have := pF_fin k hk; rwa [mod_small (pF_small k hk)] at this), (pF_sv i hi).1, (pF_sv i hi).2, e3, Bool.false_and]
  have hT : (i : Int) * Q + (if s then -((k * Q : Nat) : Int) else ((k * Q : Nat) : Int)) = ((n * Q : Nat) : Int) := by
    rw [Int.natCast_mul n, ← h, Int.add_mul]
    cases s
    · simp only [Bool.false_eq_true, if_false, Int.natCast_mul]
    · simp only [if_true, Int.natCast_mul, Int.neg_mul]
  rw [hT]
  have : decide (((n * Q : Nat) : Int) < 0) = false := by simp; omega
  rw [this, ite_self, word_false, Int.natAbs_natCast, (pF_all n hn).2.2.2]
end Fl
