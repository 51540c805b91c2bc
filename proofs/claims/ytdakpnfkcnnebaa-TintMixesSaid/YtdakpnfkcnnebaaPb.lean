/- Plain: a line's place leads to that line again. No program in sight. -/
import Derived.Test.YtdakpnfkcnnebaaFx
namespace Fl
open Ieee

/-- Units of 2 ^ -53, of 2 ^ -35. -/
def G : Nat := pw 1021
def U : Nat := pw 1039
theorem pw_add (a b : Nat) : pw (a + b) = 2 ^ a * pw b := by rw [pw_def, pw_def, Nat.pow_add]
theorem E_G : E = 9007199254740992 * G := pw_add 53 1021
theorem E_U : E = 34359738368 * U := pw_add 35 1039
theorem H_U : H = 17179869184 * U := pw_add 34 1039
theorem U_G : U = 262144 * G := pw_add 18 1021
theorem U_pos : 0 < U := pw_pos 1039
theorem gridG (n : Nat) (h : n ≤ 2 ^ 53) : ∃ r, r < 2047 * 2 ^ 52 ∧ mg r = n * G := gridP n 1021 h (by decide)
theorem gridU (n : Nat) (h : n ≤ 2 ^ 53) : ∃ r, r < 2047 * 2 ^ 52 ∧ mg r = n * U := gridP n 1039 h (by decide)

theorem ofI_pos (n : Nat) (h : 0 < n) (h' : n ≤ 2 ^ 53) : 0 < ofI n := by
  refine lt_of_mg ?_
  rw [mg_zero, (ofI_mg n h').1]
  exact Nat.mul_pos h E_pos

/-- A quotient of whole numbers lies between steps of 2 ^ -53. -/
theorem share_bd (k m a b : Nat) (hm : 0 < m) (hk : k ≤ m) (hm' : m ≤ 1048576) (ha : a * m ≤ 9007199254740992 * k) (hb : 9007199254740992 * k ≤ b * m) (hb' : b ≤ 9007199254740992) :
    a * G ≤ mg (fdiv (ofI k) (ofI m)) ∧ mg (fdiv (ofI k) (ofI m)) ≤ b * G := by
  have e53 : (2 : Nat) ^ 53 = 9007199254740992 := by decide
  have b1 : k ≤ 2 ^ 53 := by omega
  have b2 : m ≤ 2 ^ 53 := by omega
  obtain ⟨q, e, _, hlo, hhi⟩ := div_nn (ofI k) (ofI m) (ofI_mg _ b1).2 (ofI_mg _ b2).2 (ofI_pos _ hm b2)
  have ef : fdiv (ofI k) (ofI m) = q := by unfold fdiv; rw [e, Option.getD_some]
  rw [ef]
  rw [(ofI_mg _ b1).1, (ofI_mg _ b2).1] at hlo hhi
  have hab : a ≤ b := by
    have : a * m ≤ b * m := Nat.le_trans ha hb
    exact Nat.le_of_mul_le_mul_right this hm
  have hE : pw 1074 = E := rfl
  rw [hE] at hlo hhi
  constructor
  · obtain ⟨r, hr, er⟩ := gridG a (by omega)
    rw [← er]
    refine mg_le (hlo r hr ?_)
    rw [er]
    have h1 : a * G * (m * E) = a * m * (G * E) := by ac_rfl
    have h2 : k * E * E = 9007199254740992 * k * (G * E) := by
      have : k * E * E = k * (9007199254740992 * G) * E := by rw [← E_G]
      rw [this]; ac_rfl
    rw [h1, h2]
    exact Nat.mul_le_mul_right _ ha
  · obtain ⟨r, hr, er⟩ := gridG b (by omega)
    rw [← er]
    refine mg_le (hhi r hr ?_)
    rw [er]
    have h1 : b * G * (m * E) = b * m * (G * E) := by ac_rfl
    have h2 : k * E * E = 9007199254740992 * k * (G * E) := by
      have : k * E * E = k * (9007199254740992 * G) * E := by rw [← E_G]
      rw [this]; ac_rfl
    rw [h1, h2]
    exact Nat.mul_le_mul_right _ hb

/-- The steps of 2 ^ -53 around a quotient. -/
theorem steps (k m : Nat) (hk : k ≤ m) (hm : 0 < m) : ∃ a b, a * m ≤ 9007199254740992 * k ∧ 9007199254740992 * k ≤ b * m ∧ b ≤ 9007199254740992 ∧
    9007199254740992 * k ≤ a * m + m ∧ b * m ≤ 9007199254740992 * k + m := by
  have h1 := Nat.div_add_mod (9007199254740992 * k) m
  have h2 := Nat.mod_lt (9007199254740992 * k) hm
  have h3 : 9007199254740992 * k ≤ 9007199254740992 * m := Nat.mul_le_mul_left _ hk
  generalize 9007199254740992 * k / m = a at *
  generalize 9007199254740992 * k % m = r at *
  generalize 9007199254740992 * k = X at *
  rw [Nat.mul_comm] at h1
  by_cases h : r = 0
  · refine ⟨a, a, by omega, by omega, ?_, by omega, by omega⟩
    have : a * m ≤ 9007199254740992 * m := by omega
    exact Nat.le_of_mul_le_mul_right this hm
  · have e : (a + 1) * m = a * m + m := Nat.succ_mul a m
    refine ⟨a, a + 1, by omega, by omega, ?_, by omega, by omega⟩
    have : a * m < 9007199254740992 * m := by omega
    exact Nat.lt_of_mul_lt_mul_right this

theorem ar (k m a b : Nat) (hm' : m ≤ 100000) (hk : k ≤ m) (h0 : 0 < k) (h3 : 9007199254740992 * k ≤ a * m + m) (h4 : b * m ≤ 9007199254740992 * k + m) :
    262144 * (34359738368 * k - 1) ≤ a * m ∧ b * m ≤ 262144 * (34359738368 * k + 1) ∧ 34359738368 * k - 1 ≤ 2 ^ 53 ∧ 34359738368 * k + 1 ≤ 2 ^ 53 ∧
    34359738368 * k - 1 + 17179869184 ≤ 2 ^ 53 ∧ 34359738368 * k + 1 + 17179869184 ≤ 2 ^ 53 ∧ 34359738368 * k ≤ 34359738368 * k - 1 + 17179869184 ∧
    34359738368 * k + 1 + 17179869184 < 34359738368 * (k + 1) := by
  generalize a * m = X at *
  generalize b * m = Y at *
  refine ⟨by omega, by omega, by omega, by omega, by omega, by omega, by omega, by omega⟩

theorem scaled_lo (q m a c : Nat) (hq : q ≤ one) (hm : m ≤ 2 ^ 52) (hc : c ≤ 2 ^ 53) (h1 : a * G ≤ mg q) (h2 : 262144 * c ≤ a * m) : c * U ≤ mg (scaled q m) := by
  obtain ⟨r, hr, er⟩ := gridU c hc
  rw [← er]
  refine mg_le ?_
  rw [(scaled_some q m hq hm).2.1]
  refine le_R2 hr ?_
  rw [er]
  refine Nat.le_trans ?_ (Nat.mul_le_mul_right (m * E) h1)
  have h2' : a * G * (m * E) = a * m * (G * E) := by ac_rfl
  have h3 : c * U * E = 262144 * c * (G * E) := by rw [U_G]; ac_rfl
  rw [h2', h3]
  exact Nat.mul_le_mul_right _ h2

theorem scaled_hi (q m b c : Nat) (hq : q ≤ one) (hm : m ≤ 2 ^ 52) (hc : c ≤ 2 ^ 53) (h1 : mg q ≤ b * G) (h2 : b * m ≤ 262144 * c) : mg (scaled q m) ≤ c * U := by
  obtain ⟨r, hr, er⟩ := gridU c hc
  rw [← er]
  refine mg_le ?_
  rw [(scaled_some q m hq hm).2.1]
  refine R2_le hr ?_
  rw [er]
  refine Nat.le_trans (Nat.mul_le_mul_right (m * E) h1) ?_
  have h2' : b * G * (m * E) = b * m * (G * E) := by ac_rfl
  have h3 : c * U * E = 262144 * c * (G * E) := by rw [U_G]; ac_rfl
  rw [h2', h3]
  exact Nat.mul_le_mul_right _ h2

theorem half_lo (x m c : Nat) (hx : x ≤ ofI m) (hm : m ≤ 2 ^ 51) (hc : c + 17179869184 ≤ 2 ^ 53) (h : c * U ≤ mg x) : (c + 17179869184) * U ≤ mg (plusHalf x) := by
  obtain ⟨r, hr, er⟩ := gridU (c + 17179869184) hc
  rw [← er]
  refine mg_le ?_
  rw [(plusHalf_some x m hx hm).2.1]
  refine le_R1 hr ?_
  rw [er, Nat.add_mul, H_U]
  exact Nat.add_le_add_right h _

theorem half_hi (x m c : Nat) (hx : x ≤ ofI m) (hm : m ≤ 2 ^ 51) (hc : c + 17179869184 ≤ 2 ^ 53) (h : mg x ≤ c * U) : mg (plusHalf x) ≤ (c + 17179869184) * U := by
  obtain ⟨r, hr, er⟩ := gridU (c + 17179869184) hc
  rw [← er]
  refine mg_le ?_
  rw [(plusHalf_some x m hx hm).2.1]
  refine R1_le hr ?_
  rw [er, Nat.add_mul, H_U]
  exact Nat.add_le_add_right h _

/-- A quotient of whole numbers, times the lower one, and cut behind a half more, is the upper one. -/
theorem back (k m : Nat) (hk : k ≤ m) (hm : 0 < m) (hm' : m ≤ 100000) (hk0 : 0 < k) :
    fdiv (ofI k) (ofI m) ≤ one ∧ cutI (plusHalf (scaled (fdiv (ofI k) (ofI m)) m)) = k := by
  obtain ⟨a, b, a1, hb1, hb2, a2, hb3⟩ := steps k m hk hm
  obtain ⟨t1, t2, t3, t4, t5, t6, t7, t8⟩ := ar k m a b hm' hk hk0 a2 hb3
  have m52 : m ≤ 2 ^ 52 := Nat.le_trans hm' (by decide)
  have m51 : m ≤ 2 ^ 51 := Nat.le_trans hm' (by decide)
  obtain ⟨q1, q2⟩ := share_bd k m a b hm hk (Nat.le_trans hm' (by decide)) a1 hb1 hb2
  generalize fdiv (ofI k) (ofI m) = q at *
  have hq : q ≤ one := by
    refine le_of_mg (Nat.le_trans q2 ?_)
    rw [one_mg, E_G]
    exact Nat.mul_le_mul_right _ hb2
  refine ⟨hq, ?_⟩
  have s_lo := scaled_lo q m a _ hq m52 t3 q1 t1
  have s_hi := scaled_hi q m b _ hq m52 t4 q2 t2
  have s3 := (scaled_some q m hq m52).2.2
  have p_lo := half_lo _ m _ s3 m51 t5 s_lo
  have p_hi := half_hi _ m _ s3 m51 t6 s_hi
  unfold cutI
  refine Nat.div_eq_of_lt_le ?_ ?_
  · refine Nat.le_trans ?_ p_lo
    have e : k * E = 34359738368 * k * U := by rw [E_U]; ac_rfl
    rw [e]
    exact Nat.mul_le_mul_right U t7
  · refine Nat.lt_of_le_of_lt p_hi ?_
    have e : (k + 1) * E = 34359738368 * (k + 1) * U := by rw [E_U]; ac_rfl
    rw [e]
    exact Nat.mul_lt_mul_of_pos_right t8 U_pos
end Fl
