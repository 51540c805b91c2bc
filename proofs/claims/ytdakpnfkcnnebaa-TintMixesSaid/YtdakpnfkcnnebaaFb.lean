/- Plain facts on the floats of the model: what the operations give on numbers that are not negative. No program in sight. -/
import Derived.Test.YtdakpnfkcnnebaaFa
import Derived.Laws.FloatArith
namespace Fl
open Ieee

/-- The rung of what is endless. -/
def inf : Nat := 2047 * 2 ^ 52

theorem sw : double.signWeight = 2 ^ 63 := rfl
theorem bn : double.binade = 2 ^ 52 := rfl
theorem ir : double.infRung = 2047 * 2 ^ 52 := rfl
theorem lp : double.leastPlace = -1074 := by decide

/-- Of which sign a word is. -/
def sg (b : Nat) : Bool := b / 2 ^ 63 % 2 == 1

theorem read_gen (f : Format) (b W B I : Nat) (l : Int) (hW : f.signWeight = W) (hB : f.binade = B) (hI : f.infRung = I) (hl : f.leastPlace = l) : f.read b =
    if b % W < B then .number (b / W % 2 == 1) (b % W) l
    else if b % W < I then .number (b / W % 2 == 1) (B + b % W % B) (l + (b % W / B - 1 : Nat))
    else if b % W = I then .infinity (b / W % 2 == 1)
    else .nan (b / W % 2 == 1) (b % W - I) := by
  subst hW hB hI hl; rfl

theorem read_eq (b : Nat) : double.read b =
    if b % 2 ^ 63 < 2 ^ 52 then .number (sg b) (b % 2 ^ 63) (-1074)
    else if b % 2 ^ 63 < 2047 * 2 ^ 52 then .number (sg b) (2 ^ 52 + b % 2 ^ 63 % 2 ^ 52) (-1074 + (b % 2 ^ 63 / 2 ^ 52 - 1 : Nat))
    else if b % 2 ^ 63 = 2047 * 2 ^ 52 then .infinity (sg b)
    else .nan (sg b) (b % 2 ^ 63 - 2047 * 2 ^ 52) := read_gen double b _ _ _ _ sw bn ir lp

theorem read_num (b : Nat) (h : b % 2 ^ 63 < 2047 * 2 ^ 52) : ∃ m p, double.read b = .number (sg b) m p ∧ -1074 ≤ p ∧ p ≤ 971 ∧ m * 2 ^ (p + 1074).toNat = mg (b % 2 ^ 63) := by
  rw [read_eq]
  generalize sg b = s
  generalize b % 2 ^ 63 = r at *
  unfold mg
  by_cases h1 : r < 2 ^ 52
  · refine ⟨r, -1074, ?_, by omega, by omega, ?_⟩
    · rw [if_pos h1]
    · rw [if_pos h1]
      have : ((-1074 : Int) + 1074).toNat = 0 := rfl
      rw [this, Nat.pow_zero, Nat.mul_one]
  · refine ⟨2 ^ 52 + r % 2 ^ 52, -1074 + (r / 2 ^ 52 - 1 : Nat), ?_, by omega, by omega, ?_⟩
    · rw [if_neg h1, if_pos h]
    · rw [if_neg h1]
      have : (-1074 + ((r / 2 ^ 52 - 1 : Nat) : Int) + 1074).toNat = r / 2 ^ 52 - 1 := by omega
      rw [this]

theorem read_inf (b : Nat) (h : b % 2 ^ 63 = 2047 * 2 ^ 52) : double.read b = .infinity (sg b) := by
  rw [read_eq]
  generalize sg b = s
  generalize b % 2 ^ 63 = r at *
  rw [if_neg (by omega), if_neg (by omega), if_pos h]

theorem read_nan (b : Nat) (h : 2047 * 2 ^ 52 < b % 2 ^ 63) : ∃ t, double.read b = .nan (sg b) t := by
  refine ⟨b % 2 ^ 63 - 2047 * 2 ^ 52, ?_⟩
  rw [read_eq]
  generalize sg b = s
  generalize b % 2 ^ 63 = r at *
  rw [if_neg (by omega), if_neg (by omega), if_neg (by omega)]

theorem sg_small {b : Nat} (h : b < 2 ^ 63) : sg b = false := by
  unfold sg; rw [Nat.div_eq_of_lt h]; rfl
theorem mod_small {b : Nat} (h : b < 2 ^ 63) : b % 2 ^ 63 = b := Nat.mod_eq_of_lt h

/-- The value of a word, in units of 2 ^ -1074. -/
def sv (b : Nat) : Int := if sg b then -(mg (b % 2 ^ 63) : Int) else mg (b % 2 ^ 63)

theorem sv_small {b : Nat} (h : b < 2 ^ 63) : sv b = mg b := by
  unfold sv; rw [sg_small h, mod_small h]; simp

theorem signed_eq (s : Bool) (m u : Nat) : signed s m u = if s then -((m * 2 ^ u : Nat) : Int) else ((m * 2 ^ u : Nat) : Int) := by
  unfold signed; rw [Nat.shiftLeft_eq]

theorem signed_scale (s : Bool) (m : Nat) (p base : Int) (h : base ≤ p) (hb : -1074 ≤ base) :
    signed s m (p - base).toNat * 2 ^ (base + 1074).toNat = signed s m (p + 1074).toNat := by
  rw [signed_eq, signed_eq]
  have e : (p + 1074).toNat = (p - base).toNat + (base + 1074).toNat := by omega
  rw [e, Nat.pow_add, ← Nat.mul_assoc]
  cases s <;> simp [Int.neg_mul]

theorem natAbs_scale (t : Int) (u : Nat) : t.natAbs * 2 ^ u = (t * 2 ^ u).natAbs := by
  rw [Int.natAbs_mul, Int.natAbs_pow]; rfl

/-- A sum of two numbers. -/
theorem sum_num (s t : Bool) (m n : Nat) (i j : Int) (hi : -1074 ≤ i) (hj : -1074 ≤ j) (T : Int) (hT : signed s m (i + 1074).toNat + signed t n (j + 1074).toNat = T) :
    ((Datum.number s m i).sum (.number t n j)).map double.write = some (double.word (if T = 0 then s && t else decide (T < 0)) (R 1074 T.natAbs)) := by
  have hb : -1074 ≤ min i j := by omega
  have e1 := signed_scale s m i (min i j) (by omega) hb
  have e2 := signed_scale t n j (min i j) (by omega) hb
  obtain ⟨total, ht⟩ : ∃ total, total = signed s m (i - min i j).toNat + signed t n (j - min i j).toNat := ⟨_, rfl⟩
  have e3 : total * 2 ^ (min i j + 1074).toNat = T := by rw [ht, Int.add_mul, e1, e2, hT]
  have hp : (0 : Int) < 2 ^ (min i j + 1074).toNat := Int.pow_pos (by omega)
  simp only [Datum.sum, Option.map_some, Format.write, ← ht]
  rw [nearest_eq _ _ _ 1074 (by omega) (by omega)]
  have e4 : (min i j + ((1074 : Nat) : Int)).toNat = (min i j + 1074).toNat := rfl
  rw [e4, natAbs_scale, e3]
  have z : (total = 0) ↔ (T = 0) := by
    rw [← e3]
    constructor
    · intro h; rw [h]; simp
    · intro h
      rcases Int.mul_eq_zero.1 h with h | h
      · exact h
      · omega
  have l : (total < 0) ↔ (T < 0) := by
    rw [← e3]
    constructor
    · intro h; exact Int.mul_neg_of_neg_of_pos h hp
    · intro h
      by_cases h0 : total < 0
      · exact h0
      · have := Int.mul_nonneg (show 0 ≤ total by omega) (Int.le_of_lt hp); omega
  simp only [z, l]

theorem sv_signed (b m : Nat) (p : Int) (h : m * 2 ^ (p + 1074).toNat = mg (b % 2 ^ 63)) : signed (sg b) m (p + 1074).toNat = sv b := by
  rw [signed_eq, h]; rfl

theorem add_eq (x y : Nat) (hx : x % 2 ^ 63 < 2047 * 2 ^ 52) (hy : y % 2 ^ 63 < 2047 * 2 ^ 52) :
    double.add x y = some (double.word (if sv x + sv y = 0 then sg x && sg y else decide (sv x + sv y < 0)) (R 1074 (sv x + sv y).natAbs)) := by
  obtain ⟨m, p, e, h1, _, h2⟩ := read_num x hx
  obtain ⟨n, q, e', h1', _, h2'⟩ := read_num y hy
  unfold Format.add
  rw [e, e']
  exact sum_num _ _ _ _ _ _ h1 h1' _ (by rw [sv_signed x m p h2, sv_signed y n q h2'])

theorem sub_eq (x y : Nat) (hx : x % 2 ^ 63 < 2047 * 2 ^ 52) (hy : y % 2 ^ 63 < 2047 * 2 ^ 52) :
    double.sub x y = some (double.word (if sv x - sv y = 0 then sg x && !sg y else decide (sv x - sv y < 0)) (R 1074 (sv x - sv y).natAbs)) := by
  obtain ⟨m, p, e, h1, _, h2⟩ := read_num x hx
  obtain ⟨n, q, e', h1', _, h2'⟩ := read_num y hy
  unfold Format.sub
  rw [e, e']
  refine sum_num _ _ _ _ _ _ h1 h1' _ ?_
  rw [sv_signed x m p h2]
  have : signed (!sg y) n (q + 1074).toNat = -sv y := by
    rw [← sv_signed y n q h2', signed_eq, signed_eq]
    cases sg y <;> simp
  rw [this]; omega

theorem mul_eq (x y : Nat) (hx : x % 2 ^ 63 < 2047 * 2 ^ 52) (hy : y % 2 ^ 63 < 2047 * 2 ^ 52) :
    double.mul x y = some (double.word (sg x ^^ sg y) (R 2148 (mg (x % 2 ^ 63) * mg (y % 2 ^ 63)))) := by
  obtain ⟨m, p, e, h1, _, h2⟩ := read_num x hx
  obtain ⟨n, q, e', h1', _, h2'⟩ := read_num y hy
  unfold Format.mul
  rw [e, e']
  simp only [Datum.product, Option.map_some, Format.write]
  rw [nearest_eq _ _ _ 2148 (by omega) (by omega)]
  congr 3
  rw [← h2, ← h2']
  have : (p + q + ((2148 : Nat) : Int)).toNat = (p + 1074).toNat + (q + 1074).toNat := by omega
  rw [this, Nat.pow_add]
  simp only [Nat.mul_assoc, Nat.mul_left_comm]

theorem word_false (r : Nat) : double.word false r = r := by unfold Format.word; exact if_neg (by decide)
theorem word_true (r : Nat) : double.word true r = 2 ^ 63 + r := by unfold Format.word; rw [if_pos rfl, sw]

/-- Floats that are not negative, and are numbers: their words are their rungs. -/
theorem add_nn (x y : Nat) (hx : x < 2047 * 2 ^ 52) (hy : y < 2047 * 2 ^ 52) : double.add x y = some (R 1074 (mg x + mg y)) := by
  have ex : x % 2 ^ 63 = x := mod_small (by omega)
  have ey : y % 2 ^ 63 = y := mod_small (by omega)
  rw [add_eq x y (by omega) (by omega), sg_small (by omega : x < 2 ^ 63), sv_small (by omega : x < 2 ^ 63), sv_small (by omega : y < 2 ^ 63)]
  have h1 : ((mg x : Int) + mg y).natAbs = mg x + mg y := by omega
  have h2 : decide ((mg x : Int) + mg y < 0) = false := by simp; omega
  rw [h1, h2, Bool.false_and, ite_self, word_false]

theorem mul_nn (x y : Nat) (hx : x < 2047 * 2 ^ 52) (hy : y < 2047 * 2 ^ 52) : double.mul x y = some (R 2148 (mg x * mg y)) := by
  have ex : x % 2 ^ 63 = x := mod_small (by omega)
  have ey : y % 2 ^ 63 = y := mod_small (by omega)
  rw [mul_eq x y (by omega) (by omega), sg_small (by omega : x < 2 ^ 63), sg_small (by omega : y < 2 ^ 63), ex, ey, Bool.xor_false, word_false]

/-- A difference that is not negative. -/
theorem sub_nn (x y : Nat) (hx : x < 2047 * 2 ^ 52) (hy : y ≤ x) : double.sub x y = some (R 1074 (mg x - mg y)) := by
  rw [sub_eq x y (by rw [mod_small (by omega)]; omega) (by rw [mod_small (by omega)]; omega), sg_small (by omega : x < 2 ^ 63), sv_small (by omega : x < 2 ^ 63), sv_small (by omega : y < 2 ^ 63)]
  have h := mg_le hy
  have h1 : ((mg x : Int) - mg y).natAbs = mg x - mg y := by omega
  have h2 : decide ((mg x : Int) - mg y < 0) = false := by simp; omega
  rw [h1, h2, Bool.false_and, ite_self, word_false]

end Fl
