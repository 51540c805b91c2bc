/- Plain: lights, mixes, bytes of colours. No program in sight. -/
import Derived.Test.YtdakpnfkcnnebaaPw
namespace Fl
open Ieee

theorem add_le_of (a b A B S : Nat) (ha : a ≤ A) (hb : b ≤ B) (hA : A < 2047 * 2 ^ 52) (hB : B < 2047 * 2 ^ 52) (hS : S < 2047 * 2 ^ 52) (h : mg A + mg B ≤ mg S) :
    double.add a b = some (fadd a b) ∧ fadd a b = R 1074 (mg a + mg b) ∧ fadd a b ≤ S := by
  have hm := add_nn a b (Nat.lt_of_le_of_lt ha hA) (Nat.lt_of_le_of_lt hb hB)
  have e : fadd a b = R 1074 (mg a + mg b) := by unfold fadd; rw [hm, Option.getD_some]
  refine ⟨by rw [hm, e], e, ?_⟩
  rw [e]
  exact R1_le hS (Nat.le_trans (Nat.add_le_add (mg_le ha) (mg_le hb)) h)
theorem mul_le_of (p q : Nat) (hp : p ≤ one) (hq : q ≤ one) : double.mul p q = some (fmul p q) ∧ fmul p q = R 2148 (mg p * mg q) ∧ fmul p q ≤ q ∧ fmul p q ≤ p := by
  have hm := mul_nn p q (Nat.lt_of_le_of_lt hp one_lt) (Nat.lt_of_le_of_lt hq one_lt)
  have e : fmul p q = R 2148 (mg p * mg q) := by unfold fmul; rw [hm, Option.getD_some]
  have h1 := mg_le hp
  have h2 := mg_le hq
  rw [one_mg] at h1 h2
  refine ⟨by rw [hm, e], e, ?_, ?_⟩
  · rw [e]
    refine R2_le (Nat.lt_of_le_of_lt hq one_lt) ?_
    rw [Nat.mul_comm (mg q)]
    exact Nat.mul_le_mul_right _ h1
  · rw [e]
    exact R2_le (Nat.lt_of_le_of_lt hp one_lt) (Nat.mul_le_mul_left _ h2)

/-- The words of 0.25, 0.625, 0.125, 0.875. -/
abbrev c25 : Nat := 4598175219545276416
abbrev c62 : Nat := 4603804719079489536
abbrev c12 : Nat := 4593671619917905920
abbrev c87 : Nat := 4606056518893174784
def lightB (x y z : Nat) : Nat := fadd (fadd (fmul c25 (partB x)) (fmul c62 (partB y))) (fmul c12 (partB z))
theorem light_some (x y z : Nat) (hx : x < 2 ^ 64) (hy : y < 2 ^ 64) (hz : z < 2 ^ 64) :
    double.mul c25 (partB x) = some (fmul c25 (partB x)) ∧ double.mul c62 (partB y) = some (fmul c62 (partB y)) ∧ double.mul c12 (partB z) = some (fmul c12 (partB z)) ∧
    double.add (fmul c25 (partB x)) (fmul c62 (partB y)) = some (fadd (fmul c25 (partB x)) (fmul c62 (partB y))) ∧
    double.add (fadd (fmul c25 (partB x)) (fmul c62 (partB y))) (fmul c12 (partB z)) = some (lightB x y z) ∧ lightB x y z ≤ one := by
  have m1 := mul_le_of c25 (partB x) (by decide) (partB_le x hx)
  have m2 := mul_le_of c62 (partB y) (by decide) (partB_le y hy)
  have m3 := mul_le_of c12 (partB z) (by decide) (partB_le z hz)
  have k1 : mg c25 + mg c62 ≤ mg c87 := by decide +kernel
  have k2 : mg c87 + mg c12 ≤ mg one := by decide +kernel
  have s1 := add_le_of _ _ c25 c62 c87 m1.2.2.2 m2.2.2.2 (by decide) (by decide) (by decide) k1
  have s2 := add_le_of _ _ c87 c12 one s1.2.2 m3.2.2.2 (by decide) (by decide) (by decide) k2
  exact ⟨m1.1, m2.1, m3.1, s1.1, s2.1, s2.2.2⟩

/-- A word of a rung of at most that of 1. -/
theorem word_small (s : Bool) (r : Nat) (h : r ≤ one) : double.word s r % 2 ^ 63 = r ∧ double.word s r < 2 ^ 64 ∧ sg (double.word s r) = s := by
  have hr : r < 2 ^ 63 := Nat.lt_of_le_of_lt h (by decide)
  cases s
  · rw [word_false]; exact ⟨mod_small hr, by omega, sg_small hr⟩
  · rw [word_true]
    refine ⟨by rw [Nat.add_mod_left, mod_small hr], by omega, ?_⟩
    unfold sg
    rw [Nat.add_div_left _ (by decide), Nat.div_eq_of_lt hr]; rfl
theorem sv_le (d : Nat) (h : d % 2 ^ 63 ≤ one) : (sv d).natAbs ≤ E ∧ mg (d % 2 ^ 63) ≤ E := by
  have := mg_le h
  rw [one_mg] at this
  refine ⟨?_, this⟩
  unfold sv
  cases sg d
  · simp only [Bool.false_eq_true, if_false]; omega
  · simp only [if_true]; omega
theorem sub_01 (x y : Nat) (hx : x ≤ one) (hy : y ≤ one) : double.sub y x = some (fsub y x) ∧ fsub y x % 2 ^ 63 ≤ one ∧ fsub y x = double.word (if (mg y : Int) - mg x = 0 then false else decide ((mg y : Int) - mg x < 0)) (R 1074 ((mg y : Int) - mg x).natAbs) := by
  have h63 := Nat.lt_of_le_of_lt hx (show one < 2 ^ 63 by decide)
  have g63 := Nat.lt_of_le_of_lt hy (show one < 2 ^ 63 by decide)
  have hs := sub_eq y x (by rw [mod_small g63]; exact Nat.lt_of_le_of_lt hy one_lt) (by rw [mod_small h63]; exact Nat.lt_of_le_of_lt hx one_lt)
  rw [sv_small h63, sv_small g63, sg_small h63, sg_small g63, Bool.false_and] at hs
  have e : fsub y x = double.word (if (mg y : Int) - mg x = 0 then false else decide ((mg y : Int) - mg x < 0)) (R 1074 ((mg y : Int) - mg x).natAbs) := by
    unfold fsub; rw [hs, Option.getD_some]
  have hx' := mg_le hx
  have hy' := mg_le hy
  rw [one_mg] at hx' hy'
  have hR : R 1074 ((mg y : Int) - mg x).natAbs ≤ one := R1_le one_lt (by rw [one_mg]; omega)
  refine ⟨by rw [hs, e], ?_, e⟩
  rw [e, (word_small _ _ hR).1]; exact hR
theorem mul_01 (d u : Nat) (hd : d % 2 ^ 63 ≤ one) (hu : u ≤ one) : double.mul d u = some (fmul d u) ∧ fmul d u % 2 ^ 63 ≤ one ∧ fmul d u = double.word (sg d) (R 2148 (mg (d % 2 ^ 63) * mg u)) := by
  have u63 := Nat.lt_of_le_of_lt hu (show one < 2 ^ 63 by decide)
  have hs := mul_eq d u (Nat.lt_of_le_of_lt hd one_lt) (by rw [mod_small u63]; exact Nat.lt_of_le_of_lt hu one_lt)
  rw [sg_small u63, mod_small u63, Bool.xor_false] at hs
  have e : fmul d u = double.word (sg d) (R 2148 (mg (d % 2 ^ 63) * mg u)) := by unfold fmul; rw [hs, Option.getD_some]
  have h1 := mg_le hd
  have h2 := mg_le hu
  rw [one_mg] at h1 h2
  have hR : R 2148 (mg (d % 2 ^ 63) * mg u) ≤ one := R2_le one_lt (by rw [one_mg]; exact Nat.mul_le_mul h1 h2)
  refine ⟨by rw [hs, e], ?_, e⟩
  rw [e, (word_small _ _ hR).1]; exact hR
theorem add_01 (x m : Nat) (hx : x ≤ one) (hm : m % 2 ^ 63 ≤ one) : double.add x m = some (fadd x m) ∧ fadd x m = double.word (if (mg x : Int) + sv m = 0 then false else decide ((mg x : Int) + sv m < 0)) (R 1074 ((mg x : Int) + sv m).natAbs) := by
  have h63 := Nat.lt_of_le_of_lt hx (show one < 2 ^ 63 by decide)
  have hs := add_eq x m (by rw [mod_small h63]; exact Nat.lt_of_le_of_lt hx one_lt) (Nat.lt_of_le_of_lt hm one_lt)
  rw [sv_small h63, sg_small h63, Bool.false_and] at hs
  have e : fadd x m = double.word (if (mg x : Int) + sv m = 0 then false else decide ((mg x : Int) + sv m < 0)) (R 1074 ((mg x : Int) + sv m).natAbs) := by
    unfold fadd; rw [hs, Option.getD_some]
  exact ⟨by rw [hs, e], e⟩

/-- One part of a mix. -/
def mix1 (x y u : Nat) : Nat := fadd x (fmul (fsub y x) u)
theorem mix1_some (x y u : Nat) (hx : x ≤ one) (hy : y ≤ one) (hu : u ≤ one) :
    double.sub y x = some (fsub y x) ∧ double.mul (fsub y x) u = some (fmul (fsub y x) u) ∧ double.add x (fmul (fsub y x) u) = some (mix1 x y u) := by
  have s := sub_01 x y hx hy
  have m := mul_01 _ u s.2.1 hu
  exact ⟨s.1, m.1, (add_01 x _ hx m.2.1).1⟩

/-- The word of 255. -/
theorem w255 : ofI 255 = 4643176031446892544 := by decide +kernel
def ofB (b : Nat) : Nat := fdiv (ofI b) (ofI 255)
theorem ofB_some (b : Nat) (h : b ≤ 255) : double.div (ofI b) (ofI 255) = some (ofB b) := by
  obtain ⟨q, e, _⟩ := div_nn (ofI b) (ofI 255) (ofI_mg _ (Nat.le_trans h (by decide))).2 (ofI_mg _ (by decide)).2 (ofI_pos _ (by decide) (by decide))
  unfold ofB fdiv
  rw [e, Option.getD_some]

/-- How two numbers below nought stand to each other. -/
theorem order_neg_neg (x y : Nat) (hx : sg x = true) (hy : sg y = true) (bx : x % 2 ^ 63 ≤ 2047 * 2 ^ 52) (bY : y % 2 ^ 63 ≤ 2047 * 2 ^ 52) (h : double.order x y = some .eq) : x % 2 ^ 63 = y % 2 ^ 63 := by
  unfold Format.order at h
  by_cases ex : x % 2 ^ 63 = 2047 * 2 ^ 52
  · rw [read_inf x ex, hx] at h
    by_cases ey : y % 2 ^ 63 = 2047 * 2 ^ 52
    · omega
    · obtain ⟨n, q, e2, _, _, _⟩ := read_num y (by omega)
      rw [e2] at h; simp [Datum.order] at h
  · obtain ⟨m, p, e1, h1, _, h2⟩ := read_num x (by omega)
    rw [e1, hx] at h
    by_cases ey : y % 2 ^ 63 = 2047 * 2 ^ 52
    · rw [read_inf y ey, hy] at h; simp [Datum.order] at h
    · obtain ⟨n, q, e2, h1', _, h2'⟩ := read_num y (by omega)
      rw [e2, hy] at h
      simp only [Datum.order] at h
      have k1 := signed_scale true m p (min p q) (by omega) (by omega)
      have k2 := signed_scale true n q (min p q) (by omega) (by omega)
      have e : signed true m (p - min p q).toNat = signed true n (q - min p q).toNat := by
        generalize signed true m (p - min p q).toNat = A at h
        generalize signed true n (q - min p q).toNat = B at h
        simp only [compare, compareOfLessAndEq] at h
        by_cases c1 : A < B
        · rw [if_pos c1] at h; simp at h
        · rw [if_neg c1] at h
          by_cases c2 : A = B
          · exact c2
          · rw [if_neg c2] at h; simp at h
      rw [e, k2] at k1
      rw [signed_eq, signed_eq, h2, h2'] at k1
      simp only [if_true] at k1
      exact inj_of_mg (by omega)
/-- Two words that are equal as numbers and of one sign are one word. -/
theorem same_of (x y : Nat) (hx : x < 2 ^ 64) (hy : y < 2 ^ 64) (nx : isN x = false) (ny : isN y = false) (hs : sg x = sg y) (h : double.order x y = some .eq) : x = y := by
  have bx := notN x nx
  have bY := notN y ny
  cases c : sg x
  · rw [c] at hs
    obtain ⟨ex, _⟩ := part_pos x c bx hx
    obtain ⟨ey, _⟩ := part_pos y hs.symm bY hy
    rw [ex] at bx
    rw [ey] at bY
    rw [order_nn x y bx bY] at h
    exact Nat.compare_eq_eq.1 (Option.some.inj h)
  · rw [c] at hs
    have e := order_neg_neg x y c hs.symm bx bY h
    have d1 : x / 2 ^ 63 = 1 := by
      unfold sg at c
      have : x / 2 ^ 63 % 2 = 1 := by simpa using c
      omega
    have d2 : y / 2 ^ 63 = 1 := by
      have c2 := hs.symm
      unfold sg at c2
      have : y / 2 ^ 63 % 2 = 1 := by simpa using c2
      omega
    omega
end Fl
