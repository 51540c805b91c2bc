/- Plain: a mix lies between what is mixed, but for the last bits. No program in sight. -/
import Derived.Test.YtdakpnfkcnnebaaPt
namespace Fl
open Ieee

theorem cmp_scale (A B : Int) (s : Int) (hs : 0 < s) : compare (A * s) (B * s) = compare A B := by
  simp only [compare, compareOfLessAndEq]
  rcases Int.lt_trichotomy A B with h | h | h
  · rw [if_pos (Int.mul_lt_mul_of_pos_right h hs), if_pos h]
  · subst h; simp
  · have := Int.mul_lt_mul_of_pos_right h hs
    rw [if_neg (by omega), if_neg (by omega), if_neg (by omega), if_neg (by omega)]
/-- How two numbers of either sign stand to each other. -/
theorem order_sv (x y : Nat) (hx : x % 2 ^ 63 < 2047 * 2 ^ 52) (hy : y % 2 ^ 63 < 2047 * 2 ^ 52) : double.order x y = some (compare (sv x) (sv y)) := by
  obtain ⟨m, p, e1, h1, _, h2⟩ := read_num x hx
  obtain ⟨n, q, e2, h1', _, h2'⟩ := read_num y hy
  unfold Format.order
  rw [e1, e2]
  simp only [Datum.order]
  have k1 := signed_scale (sg x) m p (min p q) (by omega) (by omega)
  have k2 := signed_scale (sg y) n q (min p q) (by omega) (by omega)
  rw [sv_signed x m p h2] at k1
  rw [sv_signed y n q h2'] at k2
  rw [← k1, ← k2, cmp_scale _ _ _ (Int.pow_pos (by omega))]

theorem G_pos : 0 < G := pw_pos 1021
theorem gridG2 (n : Nat) (h : n ≤ 2 ^ 53) : ∃ r, r < 2047 * 2 ^ 52 ∧ mg r = n * (2 * G) := by
  have := gridP n 1022 h (by decide)
  have e : pw 1022 = 2 * G := pw_succ 1021
  rw [e] at this; exact this

/-- Between two steps of a grid. -/
theorem between (X g M : Nat) (hg : 0 < g) (hX : X ≤ M * g) : ∃ a b, a * g ≤ X ∧ X ≤ b * g ∧ b * g ≤ X + g ∧ X ≤ a * g + g ∧ b ≤ M ∧ a ≤ M := by
  have h1 := Nat.div_add_mod X g
  have h2 := Nat.mod_lt X hg
  generalize X / g = a at *
  generalize X % g = r at *
  rw [Nat.mul_comm] at h1
  have ha : a ≤ M := by
    have : a * g ≤ M * g := by omega
    exact Nat.le_of_mul_le_mul_right this hg
  by_cases h : r = 0
  · exact ⟨a, a, by omega, by omega, by omega, by omega, ha, ha⟩
  · have e : (a + 1) * g = a * g + g := Nat.succ_mul a g
    refine ⟨a, a + 1, by omega, by omega, by omega, by omega, ?_, ha⟩
    have : a * g < M * g := by omega
    exact Nat.lt_of_mul_lt_mul_right this
/-- Rounding what is at most 1 errs by less than a step of 2 ^ -53. -/
theorem near1 (X : Nat) (h : X ≤ E) : mg (R 1074 X) ≤ X + G ∧ X ≤ mg (R 1074 X) + G := by
  obtain ⟨a, b, h1, h2, h3, h4, h5, h6⟩ := between X G 9007199254740992 G_pos (by rw [← E_G]; exact h)
  obtain ⟨r, hr, er⟩ := gridG a h6
  obtain ⟨s, hs, es⟩ := gridG b h5
  have u1 := mg_le (le_R1 hr (X := X) (by rw [er]; exact h1))
  have u2 := mg_le (R1_le hs (X := X) (by rw [es]; exact h2))
  rw [er] at u1
  rw [es] at u2
  omega
/-- Rounding what is at most 2 errs by less than a step of 2 ^ -52. -/
theorem near2 (X : Nat) (h : X ≤ 2 * E) : mg (R 1074 X) ≤ X + 2 * G ∧ X ≤ mg (R 1074 X) + 2 * G ∧ R 1074 X < 2047 * 2 ^ 52 := by
  have hE : 2 * E = 9007199254740992 * (2 * G) := by rw [E_G]; ac_rfl
  obtain ⟨a, b, h1, h2, h3, h4, h5, h6⟩ := between X (2 * G) 9007199254740992 (by have := G_pos; omega) (by rw [← hE]; exact h)
  obtain ⟨r, hr, er⟩ := gridG2 a h6
  obtain ⟨s, hs, es⟩ := gridG2 b h5
  have l2 := R1_le hs (X := X) (by rw [es]; exact h2)
  have u1 := mg_le (le_R1 hr (X := X) (by rw [er]; exact h1))
  have u2 := mg_le l2
  rw [er] at u1
  rw [es] at u2
  exact ⟨by omega, by omega, Nat.lt_of_le_of_lt l2 hs⟩

theorem word_sv (s : Bool) (r : Nat) (h : r < 2047 * 2 ^ 52) : double.word s r % 2 ^ 63 = r ∧ sv (double.word s r) = (if s then -(mg r : Int) else mg r) := by
  have h63 : r < 2 ^ 63 := Nat.lt_of_lt_of_le h (by decide)
  cases s
  · rw [word_false]
    exact ⟨mod_small h63, by rw [sv_small h63]; rfl⟩
  · rw [word_true]
    have em : (2 ^ 63 + r) % 2 ^ 63 = r := by rw [Nat.add_mod_left, mod_small h63]
    have es : sg (2 ^ 63 + r) = true := by
      unfold sg
      rw [Nat.add_div_left _ (by decide), Nat.div_eq_of_lt h63]; rfl
    refine ⟨em, ?_⟩
    unfold sv
    rw [es, em]

theorem sgn_if (T : Int) : (if T = 0 then false else decide (T < 0)) = decide (T < 0) := by
  by_cases h : T = 0
  · subst h; rfl
  · rw [if_neg h]

/-- What comes of rounding a whole number T of units, its sign kept. -/
theorem rounded (T : Int) (h : T.natAbs ≤ 2 * E) : double.word (if T = 0 then false else decide (T < 0)) (R 1074 T.natAbs) % 2 ^ 63 < 2047 * 2 ^ 52 ∧
    sv (double.word (if T = 0 then false else decide (T < 0)) (R 1074 T.natAbs)) ≤ T + 2 * G ∧ T ≤ sv (double.word (if T = 0 then false else decide (T < 0)) (R 1074 T.natAbs)) + 2 * G := by
  obtain ⟨n1, n2, n3⟩ := near2 _ h
  obtain ⟨w1, w2⟩ := word_sv (if T = 0 then false else decide (T < 0)) _ n3
  rw [w1, w2]
  refine ⟨n3, ?_⟩
  rw [sgn_if]
  generalize mg (R 1074 T.natAbs) = K at *
  clear w1 w2 n3
  by_cases c : T < 0
  · rw [decide_eq_true c]
    simp only [if_true]; omega
  · rw [decide_eq_false c]
    simp only [Bool.false_eq_true, if_false]; omega

theorem mix1_bd (x y u : Nat) (hx : x ≤ one) (hy : y ≤ one) (hu : u ≤ one) : mix1 x y u % 2 ^ 63 < 2047 * 2 ^ 52 ∧
    (min (mg x) (mg y) : Nat) ≤ sv (mix1 x y u) + 3 * G ∧ sv (mix1 x y u) ≤ (max (mg x) (mg y) : Nat) + 3 * G := by
  obtain ⟨_, s2, s3⟩ := sub_01 x y hx hy
  obtain ⟨_, m2, m3⟩ := mul_01 _ u s2 hu
  obtain ⟨_, a3⟩ := add_01 x _ hx m2
  have bx := mg_le hx
  have bY := mg_le hy
  rw [one_mg] at bx bY
  -- the difference, rounded
  have hR : R 1074 ((mg y : Int) - mg x).natAbs ≤ one := R1_le one_lt (by rw [one_mg]; omega)
  have nd := near1 ((mg y : Int) - mg x).natAbs (by omega)
  obtain ⟨w1, w2⟩ := word_sv (if (mg y : Int) - mg x = 0 then false else decide ((mg y : Int) - mg x < 0)) _ (Nat.lt_of_le_of_lt hR one_lt)
  rw [← s3] at w1 w2
  -- its part
  have hm : R 2148 (mg (fsub y x % 2 ^ 63) * mg u) ≤ fsub y x % 2 ^ 63 := by
    refine R2_le (Nat.lt_of_le_of_lt s2 one_lt) ?_
    have := mg_le hu
    rw [one_mg] at this
    exact Nat.mul_le_mul_left _ this
  obtain ⟨v1, v2⟩ := word_sv (sg (fsub y x)) _ (Nat.lt_of_le_of_lt (Nat.le_trans hm s2) one_lt)
  rw [← m3] at v1 v2
  have hm' := mg_le hm
  have hL : mg (fsub y x % 2 ^ 63) = mg (R 1074 ((mg y : Int) - mg x).natAbs) := by rw [w1]
  have hs : sg (fsub y x) = (if (mg y : Int) - mg x = 0 then false else decide ((mg y : Int) - mg x < 0)) := by
    rw [s3]; exact (word_small _ _ hR).2.2
  rw [hs] at v2
  unfold mix1
  obtain ⟨T, hT⟩ : ∃ T, T = (mg x : Int) + sv (fmul (fsub y x) u) := ⟨_, rfl⟩
  rw [← hT] at a3
  have hb : (min (mg x) (mg y) : Nat) ≤ T + G ∧ T ≤ (max (mg x) (mg y) : Nat) + G := by
    rw [hT, v2]
    generalize mg (R 2148 (mg (fsub y x % 2 ^ 63) * mg u)) = K at *
    generalize mg (R 1074 ((mg y : Int) - mg x).natAbs) = L at *
    rw [sgn_if]
    clear hT v2 hs v1 w1 w2 a3 m3 s3 hR hm
    by_cases c : (mg y : Int) - mg x < 0
    · rw [decide_eq_true c]
      simp only [if_true]; omega
    · rw [decide_eq_false c]
      simp only [Bool.false_eq_true, if_false]; omega
  have hG : G ≤ E := by rw [E_G]; omega
  obtain ⟨r1, r2, r3⟩ := rounded T (by omega)
  rw [← a3] at r1 r2 r3
  exact ⟨r1, by omega, by omega⟩

/-- The word of 1e-15. -/
abbrev tiny : Nat := 4382569440205035030
theorem tiny_mg : 9 * G ≤ mg tiny ∧ mg tiny ≤ 10 * G ∧ tiny ≤ one := by
  have e : G = 2 ^ 1021 := pw_def 1021
  rw [e]
  decide +kernel

theorem min_side (x m : Nat) (hx : x ≤ one) (hm : m % 2 ^ 63 < 2047 * 2 ^ 52) (h : (mg x : Int) ≤ sv m + 3 * G) :
    double.sub x tiny = some (fsub x tiny) ∧ (double.order m (fsub x tiny) == some .gt || double.order m (fsub x tiny) == some .eq) = true := by
  obtain ⟨t1, t2, t3⟩ := tiny_mg
  obtain ⟨s1, s2, s3⟩ := sub_01 tiny x t3 hx
  refine ⟨s1, ?_⟩
  rw [order_sv m _ hm (Nat.lt_of_le_of_lt s2 one_lt)]
  have bx := mg_le hx
  have b2 := mg_le t3
  rw [one_mg] at bx b2
  obtain ⟨_, r2, _⟩ := rounded ((mg x : Int) - mg tiny) (by omega)
  rw [← s3] at r2
  have hle : sv (fsub x tiny) ≤ sv m := by omega
  simp only [compare, compareOfLessAndEq]
  rw [if_neg (by omega)]
  by_cases c : sv m = sv (fsub x tiny)
  · rw [if_pos c]; rfl
  · rw [if_neg c]; rfl
theorem max_side (x m : Nat) (hx : x ≤ one) (hm : m % 2 ^ 63 < 2047 * 2 ^ 52) (h : sv m ≤ (mg x : Int) + 3 * G) :
    double.add x tiny = some (fadd x tiny) ∧ (double.order m (fadd x tiny) == some .lt || double.order m (fadd x tiny) == some .eq) = true := by
  obtain ⟨t1, t2, t3⟩ := tiny_mg
  have b63 : tiny % 2 ^ 63 ≤ one := Nat.le_trans (Nat.mod_le _ _) t3
  obtain ⟨s1, s3⟩ := add_01 x tiny hx b63
  refine ⟨s1, ?_⟩
  have bx := mg_le hx
  have b2 := mg_le t3
  rw [one_mg] at bx b2
  have est : sv tiny = mg tiny := sv_small (by decide)
  rw [est] at s3
  obtain ⟨r1, _, r2⟩ := rounded ((mg x : Int) + mg tiny) (by omega)
  rw [← s3] at r1 r2
  rw [order_sv m _ hm r1]
  have hle : sv m ≤ sv (fadd x tiny) := by omega
  simp only [compare, compareOfLessAndEq]
  by_cases c : sv m < sv (fadd x tiny)
  · rw [if_pos c]; rfl
  · rw [if_neg c, if_pos (by omega)]; rfl

/-- What is mixed with itself. -/
theorem mix1_self (p u : Nat) (hp : p ≤ one) (hu : u ≤ one) : mix1 p p u = p := by
  obtain ⟨_, s2, s3⟩ := sub_01 p p hp hp
  rw [Int.sub_self, if_pos rfl, word_false] at s3
  have e0 : R 1074 (Int.natAbs 0) = 0 := by unfold R; exact if_pos rfl
  rw [e0] at s3
  obtain ⟨_, m2, m3⟩ := mul_01 (fsub p p) u s2 hu
  rw [s3] at m3
  have e1 : fmul 0 u = 0 := by
    rw [m3]
    have : mg (0 % 2 ^ 63) * mg u = 0 := by rw [Nat.zero_mod, mg_zero, Nat.zero_mul]
    rw [this, R2_zero]
    decide +kernel
  unfold mix1
  rw [s3, e1]
  obtain ⟨_, a3⟩ := add_01 p 0 hp (by decide)
  have e2 : sv 0 = 0 := by rw [sv_small (by decide), mg_zero]; rfl
  rw [e2, Int.add_zero] at a3
  rw [a3]
  have : decide ((mg p : Int) < 0) = false := by simp
  rw [this, ite_self, word_false, Int.natAbs_natCast]
  exact R1_exact (Nat.lt_of_le_of_lt hp one_lt)
end Fl
