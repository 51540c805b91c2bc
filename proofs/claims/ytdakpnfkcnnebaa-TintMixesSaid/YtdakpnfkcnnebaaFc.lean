/- Plain facts on the floats of the model: what a quotient is, between two floats. No program in sight. -/
import Derived.Test.YtdakpnfkcnnebaaFb
import Derived.Laws.FloatArith
namespace Fl
open Ieee

/-- How a quotient's digits stand to even numbers. -/
theorem sticky_lo (D n t : Nat) (h : t * n ≤ D) (hn : 0 < n) : 2 * t ≤ 2 * (D / n) + (D % n != 0).toNat := by
  have := (Nat.le_div_iff_mul_le hn).2 h; omega
theorem sticky_hi (D n t : Nat) (h : D ≤ t * n) (hn : 0 < n) : 2 * (D / n) + (D % n != 0).toNat ≤ 2 * t := by
  have h1 : D / n ≤ t := by
    have := Nat.div_le_div_right (c := n) h; rwa [Nat.mul_div_cancel _ hn] at this
  have h2 := Nat.div_add_mod D n
  by_cases e : D / n = t
  · rw [e] at h2
    have : D % n = 0 := by rw [Nat.mul_comm] at h2; omega
    simp [this]; omega
  · have : (D % n != 0).toNat ≤ 1 := by cases (D % n != 0) <;> simp
    omega

theorem core_lo (k L n b more m a z D W : Nat) (h : k * 2 ^ L * (n * 2 ^ b) ≤ m * 2 ^ a * 2 ^ z) (hD : D = m * 2 ^ more) (hq : 2 ^ 53 * n ≤ D) (hn : 0 < n) (hk : k < 2 ^ 53)
    (hW : W = 2 * (D / n) + (D % n != 0).toNat) : k * 2 ^ (L + (b + more + 1)) ≤ W * 2 ^ (a + z) := by
  have hq' := (Nat.le_div_iff_mul_le hn).2 hq
  by_cases hE : L + (b + more + 1) ≤ a + z
  · have h3 : k * 2 ^ (L + (b + more + 1)) ≤ 2 ^ 53 * 2 ^ (a + z) := Nat.mul_le_mul (by omega) (Nat.pow_le_pow_right (by omega) hE)
    have h4 : 2 ^ 53 * 2 ^ (a + z) ≤ W * 2 ^ (a + z) := Nat.mul_le_mul_right _ (by omega)
    omega
  · obtain ⟨u, hu⟩ : ∃ u, L + (b + more + 1) = a + z + 1 + u := ⟨L + (b + more + 1) - (a + z + 1), by omega⟩
    have h3 : k * 2 ^ u * n ≤ D := by
      have h4 : k * 2 ^ L * (n * 2 ^ b) * 2 ^ more ≤ m * 2 ^ a * 2 ^ z * 2 ^ more := Nat.mul_le_mul_right _ h
      have h5 : k * 2 ^ L * (n * 2 ^ b) * 2 ^ more = k * 2 ^ u * n * 2 ^ (a + z) := by
        have : 2 ^ L * 2 ^ b * 2 ^ more = 2 ^ u * 2 ^ (a + z) := by
          rw [← Nat.pow_add, ← Nat.pow_add, ← Nat.pow_add]; congr 1; omega
        calc k * 2 ^ L * (n * 2 ^ b) * 2 ^ more = k * n * (2 ^ L * 2 ^ b * 2 ^ more) := by ac_rfl
          _ = k * n * (2 ^ u * 2 ^ (a + z)) := by rw [this]
          _ = k * 2 ^ u * n * 2 ^ (a + z) := by ac_rfl
      have h6 : m * 2 ^ a * 2 ^ z * 2 ^ more = D * 2 ^ (a + z) := by
        rw [hD, Nat.pow_add]; ac_rfl
      rw [h5, h6] at h4
      exact Nat.le_of_mul_le_mul_right h4 (Nat.two_pow_pos _)
    have h4 := sticky_lo D n (k * 2 ^ u) h3 hn
    rw [← hW] at h4
    rw [hu, Nat.pow_add 2 (a + z + 1) u, Nat.pow_succ 2 (a + z)]
    have h5 : k * (2 ^ (a + z) * 2 * 2 ^ u) = 2 * (k * 2 ^ u) * 2 ^ (a + z) := by ac_rfl
    rw [h5]
    exact Nat.mul_le_mul_right _ h4

theorem core_hi (k L n b more m a z D W : Nat) (h : m * 2 ^ a * 2 ^ z ≤ k * 2 ^ L * (n * 2 ^ b)) (hD : D = m * 2 ^ more) (hq : 2 ^ 53 * n ≤ D) (hn : 0 < n) (hk : k < 2 ^ 53)
    (hW : W = 2 * (D / n) + (D % n != 0).toNat) : W * 2 ^ (a + z) ≤ k * 2 ^ (L + (b + more + 1)) := by
  have h6 : m * 2 ^ a * 2 ^ z * 2 ^ more = D * 2 ^ (a + z) := by
    rw [hD, Nat.pow_add]; ac_rfl
  have h4 : m * 2 ^ a * 2 ^ z * 2 ^ more ≤ k * 2 ^ L * (n * 2 ^ b) * 2 ^ more := Nat.mul_le_mul_right _ h
  have h5 : k * 2 ^ L * (n * 2 ^ b) * 2 ^ more = k * n * 2 ^ (L + b + more) := by
    rw [Nat.pow_add, Nat.pow_add]; ac_rfl
  rw [h6, h5] at h4
  by_cases hE : L + (b + more + 1) ≤ a + z
  · exfalso
    have h7 : 2 ^ (L + b + more) * 2 ≤ 2 ^ (a + z) := by
      rw [← Nat.pow_succ]; exact Nat.pow_le_pow_right (by omega) (by omega)
    have hp : 0 < 2 ^ (L + b + more) := Nat.two_pow_pos _
    have h8 : D * (2 ^ (L + b + more) * 2) ≤ k * n * 2 ^ (L + b + more) := Nat.le_trans (Nat.mul_le_mul_left _ h7) h4
    have h9 : D * 2 ≤ k * n := by
      have : D * 2 * 2 ^ (L + b + more) ≤ k * n * 2 ^ (L + b + more) := by
        rw [Nat.mul_assoc, Nat.mul_comm 2]; exact h8
      exact Nat.le_of_mul_le_mul_right this hp
    have h10 : k * n ≤ 2 ^ 53 * n := Nat.mul_le_mul_right _ (by omega)
    have : 0 < 2 ^ 53 * n := by omega
    omega
  · obtain ⟨u, hu⟩ : ∃ u, L + (b + more + 1) = a + z + 1 + u := ⟨L + (b + more + 1) - (a + z + 1), by omega⟩
    have h3 : D ≤ k * 2 ^ u * n := by
      have e7 : 2 ^ (L + b + more) = 2 ^ u * 2 ^ (a + z) := by
        rw [← Nat.pow_add]; congr 1; omega
      rw [e7] at h4
      have e8 : k * n * (2 ^ u * 2 ^ (a + z)) = k * 2 ^ u * n * 2 ^ (a + z) := by ac_rfl
      rw [e8] at h4
      exact Nat.le_of_mul_le_mul_right h4 (Nat.two_pow_pos _)
    have h4 := sticky_hi D n (k * 2 ^ u) h3 hn
    rw [← hW] at h4
    rw [hu, Nat.pow_add 2 (a + z + 1) u, Nat.pow_succ 2 (a + z)]
    have h5 : k * (2 ^ (a + z) * 2 * 2 ^ u) = 2 * (k * 2 ^ u) * 2 ^ (a + z) := by ac_rfl
    rw [h5]
    exact Nat.mul_le_mul_right _ h4

theorem many (m n more : Nat) (hm : m ≠ 0) (h : more = 54 + n.log2 - m.log2) : 2 ^ 53 * n ≤ m * 2 ^ more := by
  have h3 : n < 2 ^ (n.log2 + 1) := Nat.lt_log2_self
  have h4 : 2 ^ m.log2 ≤ m := Nat.log2_self_le hm
  have h5 : 2 ^ 53 * n ≤ 2 ^ 53 * 2 ^ (n.log2 + 1) := Nat.mul_le_mul_left _ (Nat.le_of_lt h3)
  have h6 : 2 ^ m.log2 * 2 ^ more ≤ m * 2 ^ more := Nat.mul_le_mul_right _ h4
  have h7 : 2 ^ 53 * 2 ^ (n.log2 + 1) ≤ 2 ^ m.log2 * 2 ^ more := by
    rw [← Nat.pow_add, ← Nat.pow_add]; exact Nat.pow_le_pow_right (by omega) (by omega)
  exact Nat.le_trans h5 (Nat.le_trans h7 h6)

theorem div_nn (x y : Nat) (hx : x < 2047 * 2 ^ 52) (hy : y < 2047 * 2 ^ 52) (h0 : 0 < y) :
    ∃ q, double.div x y = some q ∧ q ≤ 2047 * 2 ^ 52 ∧
      (∀ r, r < 2047 * 2 ^ 52 → mg r * mg y ≤ mg x * pw 1074 → r ≤ q) ∧
      (∀ r, r < 2047 * 2 ^ 52 → mg x * pw 1074 ≤ mg r * mg y → q ≤ r) := by
  obtain ⟨m, i, e, h1, _, h2⟩ := read_num x (by rw [mod_small (by omega)]; omega)
  obtain ⟨n, j, e', h1', _, h2'⟩ := read_num y (by rw [mod_small (by omega)]; omega)
  rw [mod_small (by omega)] at h2 h2'
  rw [sg_small (by omega)] at e e'
  have hy0 : 0 < mg y := by have := mg_lt h0; rw [mg_zero] at this; exact this
  have hn : 0 < n := by
    rcases Nat.eq_zero_or_pos n with h | h
    · rw [h, Nat.zero_mul] at h2'; omega
    · exact h
  obtain ⟨a, ha⟩ : ∃ a, a = (i + 1074).toNat := ⟨_, rfl⟩
  obtain ⟨b, hb⟩ : ∃ b, b = (j + 1074).toNat := ⟨_, rfl⟩
  obtain ⟨z, hz⟩ : ∃ z, z = 1074 := ⟨_, rfl⟩
  rw [← ha] at h2
  rw [← hb] at h2'
  obtain ⟨more, hmore⟩ : ∃ more, more = 54 + n.log2 - m.log2 := ⟨_, rfl⟩
  obtain ⟨D, hD⟩ : ∃ D, D = m * 2 ^ more := ⟨_, rfl⟩
  obtain ⟨W, hW⟩ : ∃ W, W = 2 * (D / n) + (D % n != 0).toNat := ⟨_, rfl⟩
  have hc : 1074 ≤ 1074 + b + more + 1 := by omega
  have hres : double.div x y = some (R (1074 + b + more + 1) (W * 2 ^ (a + z))) := by
    unfold Format.div
    rw [e, e']
    have hfb : double.fractionBits + 2 = 54 := rfl
    simp only [Datum.quotient, hfb, ← hmore]
    rw [if_neg (by omega)]
    simp only [Option.map_some, Format.write, Nat.shiftLeft_eq, ← hD, ← hW]
    rw [nearest_eq _ _ _ (1074 + b + more + 1) hc (by omega)]
    have : (i - j - (more : Int) - 1 + ((1074 + b + more + 1 : Nat) : Int)).toNat = a + z := by omega
    rw [this, Bool.xor_false, word_false]
  have eE : 1074 + b + more + 1 - 1074 = b + more + 1 := by omega
  refine ⟨_, hres, R_top _ _, ?_, ?_⟩
  · intro r hr h
    refine le_R hc hr ?_
    obtain ⟨L, k, er, hL, hk⟩ := form r
    have em : mg r = k * 2 ^ L := by rw [er]; exact mg_of L k hL (by omega)
    rw [em, ← h2, ← h2', ← hz, pw_def] at h
    rw [em, eE, Nat.mul_assoc k, ← Nat.pow_add]
    by_cases hm : m = 0
    · have hk0 : k = 0 := by
        have : k * 2 ^ L * (n * 2 ^ b) = 0 := by rw [hm] at h; simpa using h
        have p1 := Nat.two_pow_pos L
        have p2 := Nat.two_pow_pos b
        rcases Nat.mul_eq_zero.1 this with h | h
        · rcases Nat.mul_eq_zero.1 h with h | h <;> omega
        · rcases Nat.mul_eq_zero.1 h with h | h <;> omega
      rw [hk0, Nat.zero_mul]; exact Nat.zero_le _
    · exact core_lo k L n b more m a z D W h hD (by rw [hD]; exact many m n more hm hmore) hn hk hW
  · intro r hr h
    refine R_le hc hr ?_
    obtain ⟨L, k, er, hL, hk⟩ := form r
    have em : mg r = k * 2 ^ L := by rw [er]; exact mg_of L k hL (by omega)
    rw [em, ← h2, ← h2', ← hz, pw_def] at h
    rw [em, eE, Nat.mul_assoc k, ← Nat.pow_add]
    by_cases hm : m = 0
    · have hD0 : D = 0 := by rw [hD, hm, Nat.zero_mul]
      have hW0 : W = 0 := by rw [hW, hD0]; simp
      rw [hW0, Nat.zero_mul]; exact Nat.zero_le _
    · exact core_hi k L n b more m a z D W h hD (by rw [hD]; exact many m n more hm hmore) hn hk hW
end Fl
