/- Plain facts on the floats of the model (Ieee.double): rounding rises with what is rounded, and a number that is there stays. No program in sight. -/
import Ieee.Arith
namespace Fl
open Ieee

/-- Powers of two, behind a name (Lean shall not reckon great ones out). -/
def pw (n : Nat) : Nat := 2 ^ n
theorem pw_def (n : Nat) : pw n = 2 ^ n := rfl
theorem pw_pos (n : Nat) : 0 < pw n := Nat.two_pow_pos n
theorem pw_succ (n : Nat) : pw (n + 1) = 2 * pw n := Nat.pow_succ'

/-- To the nearest whole number, the even one between two: n / g. -/
def rhe (n g : Nat) : Nat := n / g + (if g < 2 * (n % g) ∨ (g = 2 * (n % g) ∧ n / g % 2 = 1) then 1 else 0)

theorem rhe_lo (n g : Nat) : n / g ≤ rhe n g := by unfold rhe; split <;> omega
theorem rhe_hi (n g : Nat) : rhe n g ≤ n / g + 1 := by unfold rhe; split <;> omega

theorem rhe_mono {n m g : Nat} (h : n ≤ m) : rhe n g ≤ rhe m g := by
  have hd : n / g ≤ m / g := Nat.div_le_div_right h
  by_cases e : n / g = m / g
  · have h1 := Nat.div_add_mod n g
    have h2 := Nat.div_add_mod m g
    rw [e] at h1
    have hr : n % g ≤ m % g := by omega
    unfold rhe
    rw [e]
    split <;> split <;> omega
  · have h1 := rhe_hi n g
    have h2 := rhe_lo m g
    omega

theorem rhe_scale (n g t : Nat) (ht : 0 < t) : rhe (n * t) (g * t) = rhe n g := by
  unfold rhe
  rw [Nat.mul_div_mul_right n g ht, Nat.mul_mod_mul_right]
  have e1 : (g * t < 2 * (n % g * t)) ↔ (g < 2 * (n % g)) := by
    rw [← Nat.mul_assoc]
    exact Nat.mul_lt_mul_right ht
  have e2 : (g * t = 2 * (n % g * t)) ↔ (g = 2 * (n % g)) := by
    rw [← Nat.mul_assoc]
    exact ⟨fun h => Nat.eq_of_mul_eq_mul_right ht h, fun h => by rw [h.symm]⟩
  simp only [e1, e2]

theorem rhe_exact (k g : Nat) (hg : 0 < g) : rhe (k * g) g = k := by
  unfold rhe
  rw [Nat.mul_mod_left, Nat.mul_div_cancel _ hg]
  rw [if_neg (by omega)]
  rfl

theorem cut_eq (s : Bool) (n drop : Nat) : Toward.even.cut s n drop = rhe n (2 ^ drop) := by
  have key : ∀ g : Nat, n / g + (decide (g < 2 * (n % g)) || (g == 2 * (n % g) && n / g % 2 == 1)).toNat = rhe n g := by
    intro g
    unfold rhe
    congr 1
    generalize n % g = a
    generalize n / g = b
    by_cases h1 : g < 2 * a <;> by_cases h2 : g = 2 * a <;> by_cases h3 : b % 2 = 1 <;> simp [h1, h2, h3]
  unfold Toward.cut
  simp only
  by_cases h : drop ≤ n.log2 + 2
  · rw [Nat.min_eq_left h, Nat.one_shiftLeft]
    exact key _
  · rw [Nat.min_eq_right (by omega), Nat.one_shiftLeft, key]
    have hn : n < 2 ^ (n.log2 + 1) := Nat.lt_log2_self
    have hz : ∀ d, n.log2 + 2 ≤ d → rhe n (2 ^ d) = 0 := by
      intro d hd
      have hp : 2 ^ (n.log2 + 2) ≤ 2 ^ d := Nat.pow_le_pow_right (by omega) hd
      have hq : 2 ^ (n.log2 + 2) = 2 * 2 ^ (n.log2 + 1) := by rw [Nat.pow_succ]; omega
      unfold rhe
      rw [Nat.div_eq_of_lt (by omega), Nat.mod_eq_of_lt (by omega)]
      rw [if_neg (by omega)]
    rw [hz _ (by omega), hz _ (by omega)]

/-- The rung of m * 2 ^ p (m not nought). -/
def rung (m : Nat) (p : Int) : Nat :=
  let last := max (p + m.log2 - 52) (-1074)
  min ((last + 1074).toNat * 2 ^ 52 + rhe (m <<< (p - last).toNat) (2 ^ (last - p).toNat)) (2047 * 2 ^ 52)

/-- The rung of X / 2 ^ c, c at least 1074. -/
def R (c X : Nat) : Nat :=
  if X = 0 then 0 else
  let L := max (X.log2 + 1022) c - c
  min (L * 2 ^ 52 + rhe X (2 ^ (L + c - 1074))) (2047 * 2 ^ 52)

theorem log2_mul_pow (m k : Nat) (hm : m ≠ 0) : (m * 2 ^ k).log2 = m.log2 + k := by
  have h0 : m * 2 ^ k ≠ 0 := Nat.mul_ne_zero hm (by have := Nat.two_pow_pos k; omega)
  rw [Nat.log2_eq_iff h0]
  have h1 : 2 ^ m.log2 ≤ m := Nat.log2_self_le hm
  have h2 : m < 2 ^ (m.log2 + 1) := Nat.lt_log2_self
  refine ⟨?_, ?_⟩
  · rw [Nat.pow_add]; exact Nat.mul_le_mul_right _ h1
  · have e : m.log2 + k + 1 = (m.log2 + 1) + k := by omega
    rw [e, Nat.pow_add]; exact Nat.mul_lt_mul_of_pos_right h2 (Nat.two_pow_pos k)

theorem rung_eq (m : Nat) (p : Int) (c : Nat) (hc : 1074 ≤ c) (hp : 0 ≤ p + c) (hm : m ≠ 0) : rung m p = R c (m * 2 ^ (p + c).toNat) := by
  have h0 : m * 2 ^ (p + c).toNat ≠ 0 := Nat.mul_ne_zero hm (by have := Nat.two_pow_pos (p + c).toNat; omega)
  unfold R rung
  rw [if_neg h0, log2_mul_pow _ _ hm]
  simp only
  obtain ⟨L, hL⟩ : ∃ L : Nat, L = max (m.log2 + (p + c).toNat + 1022) c - c := ⟨_, rfl⟩
  have hlast : max (p + m.log2 - 52) (-1074) = (L : Int) - 1074 := by omega
  rw [hlast, ← hL]
  have e1 : ((L : Int) - 1074 + 1074).toNat = L := by omega
  rw [e1]
  congr 2
  obtain ⟨a, ha⟩ : ∃ a : Nat, a = (p - ((L : Int) - 1074)).toNat := ⟨_, rfl⟩
  obtain ⟨b, hb⟩ : ∃ b : Nat, b = (((L : Int) - 1074) - p).toNat := ⟨_, rfl⟩
  obtain ⟨t, ht⟩ : ∃ t : Nat, t = (p + c).toNat - a := ⟨_, rfl⟩
  rw [← ha, ← hb, Nat.shiftLeft_eq]
  have h3 : (p + c).toNat = a + t := by omega
  have h4 : L + c - 1074 = b + t := by omega
  rw [h3, h4, Nat.pow_add, Nat.pow_add, ← Nat.mul_assoc, rhe_scale _ _ _ (Nat.two_pow_pos t)]

theorem nearest_eq (s : Bool) (m : Nat) (p : Int) (c : Nat) (hc : 1074 ≤ c) (hp : 0 ≤ p + c) : double.nearest s m p = double.word s (R c (m * 2 ^ (p + c).toNat)) := by
  by_cases hm : m = 0
  · subst hm
    unfold Format.nearest R
    simp
  · rw [← rung_eq m p c hc hp hm]
    unfold Format.nearest rung
    rw [if_neg hm]
    simp only [cut_eq]
    rfl

/-- What a rung stands for, in units of 2 ^ -1074. -/
def mg (r : Nat) : Nat := if r < 2 ^ 52 then r else (2 ^ 52 + r % 2 ^ 52) * 2 ^ (r / 2 ^ 52 - 1)

theorem mg_of (L k : Nat) (h : L = 0 ∨ 2 ^ 52 ≤ k) (hk : k ≤ 2 ^ 53) : mg (L * 2 ^ 52 + k) = k * 2 ^ L := by
  unfold mg
  by_cases h1 : k < 2 ^ 52
  · obtain rfl : L = 0 := by omega
    rw [if_pos (by omega)]; simp
  · rw [if_neg (by omega)]
    by_cases h2 : k = 2 ^ 53
    · subst h2
      have e1 : (L * 2 ^ 52 + 2 ^ 53) % 2 ^ 52 = 0 := by omega
      have e2 : (L * 2 ^ 52 + 2 ^ 53) / 2 ^ 52 - 1 = L + 1 := by omega
      have e3 : (2 : Nat) ^ 53 = 2 ^ 52 * 2 := rfl
      rw [e1, e2, e3, Nat.pow_succ 2 L, Nat.add_zero, Nat.mul_assoc, Nat.mul_comm 2]
    · have e1 : (L * 2 ^ 52 + k) % 2 ^ 52 = k - 2 ^ 52 := by omega
      have e2 : (L * 2 ^ 52 + k) / 2 ^ 52 - 1 = L := by omega
      have e3 : 2 ^ 52 + (k - 2 ^ 52) = k := by omega
      rw [e1, e2, e3]

/-- Each rung is of this form. -/
theorem form (r : Nat) : ∃ L k, r = L * 2 ^ 52 + k ∧ (L = 0 ∨ 2 ^ 52 ≤ k) ∧ k < 2 ^ 53 := by
  by_cases h : r < 2 ^ 52
  · exact ⟨0, r, by omega, Or.inl rfl, by omega⟩
  · exact ⟨r / 2 ^ 52 - 1, 2 ^ 52 + r % 2 ^ 52, by omega, Or.inr (by omega), by omega⟩

theorem log2_lt_of {X e : Nat} (h : X < 2 ^ e) (he : 0 < e) : X.log2 < e := by
  by_cases h0 : X = 0
  · subst h0; simpa using he
  · exact (Nat.log2_lt h0).2 h
theorem le_log2_of {X e : Nat} (h : 2 ^ e ≤ X) : e ≤ X.log2 := by
  have h0 : X ≠ 0 := by have := Nat.two_pow_pos e; omega
  exact (Nat.le_log2 h0).2 h

/-- How far up the last digit lies. -/
def lev (c X : Nat) : Nat := max (X.log2 + 1022) c - c

theorem R_pos (c X : Nat) (h : X ≠ 0) : R c X = min (lev c X * 2 ^ 52 + rhe X (2 ^ (lev c X + c - 1074))) (2047 * 2 ^ 52) := by
  unfold R lev; rw [if_neg h]

theorem lev_mono {c X Y : Nat} (hX : X ≠ 0) (h : X ≤ Y) : lev c X ≤ lev c Y := by
  have : X.log2 ≤ Y.log2 := (Nat.le_log2 (by omega)).2 (Nat.le_trans (Nat.log2_self_le hX) h)
  unfold lev; omega

theorem kept_hi (c X : Nat) (hc : 1074 ≤ c) : rhe X (2 ^ (lev c X + c - 1074)) ≤ 2 ^ 53 := by
  have h1 : X < 2 ^ (X.log2 + 1) := Nat.lt_log2_self
  have h2 : X.log2 + 1 ≤ 53 + (lev c X + c - 1074) := by unfold lev; omega
  have h3 : X < 2 ^ 53 * 2 ^ (lev c X + c - 1074) := by
    rw [← Nat.pow_add]; exact Nat.lt_of_lt_of_le h1 (Nat.pow_le_pow_right (by omega) h2)
  have h4 : X / 2 ^ (lev c X + c - 1074) < 2 ^ 53 := (Nat.div_lt_iff_lt_mul (Nat.two_pow_pos _)).2 h3
  have h5 := rhe_hi X (2 ^ (lev c X + c - 1074))
  omega

theorem kept_lo (c X : Nat) (hX : X ≠ 0) (hc : 1074 ≤ c) (h : 0 < lev c X) : 2 ^ 52 ≤ rhe X (2 ^ (lev c X + c - 1074)) := by
  have h1 : 2 ^ X.log2 ≤ X := Nat.log2_self_le hX
  have h2 : 52 + (lev c X + c - 1074) ≤ X.log2 := by unfold lev at h ⊢; omega
  have h3 : 2 ^ 52 * 2 ^ (lev c X + c - 1074) ≤ X := by
    rw [← Nat.pow_add]; exact Nat.le_trans (Nat.pow_le_pow_right (by omega) h2) h1
  have h4 : 2 ^ 52 ≤ X / 2 ^ (lev c X + c - 1074) := (Nat.le_div_iff_mul_le (Nat.two_pow_pos _)).2 h3
  have h5 := rhe_lo X (2 ^ (lev c X + c - 1074))
  omega

/-- Rounding rises with what is rounded. -/
theorem R_mono {c X Y : Nat} (hc : 1074 ≤ c) (h : X ≤ Y) : R c X ≤ R c Y := by
  by_cases hX : X = 0
  · subst hX; simp [R]
  · have hY : Y ≠ 0 := by omega
    rw [R_pos c X hX, R_pos c Y hY]
    have hl := lev_mono (c := c) hX h
    have key : lev c X * 2 ^ 52 + rhe X (2 ^ (lev c X + c - 1074)) ≤ lev c Y * 2 ^ 52 + rhe Y (2 ^ (lev c Y + c - 1074)) := by
      by_cases e : lev c X = lev c Y
      · rw [e]
        have := rhe_mono (g := 2 ^ (lev c Y + c - 1074)) h
        omega
      · have h1 := kept_hi c X hc
        have h2 := kept_lo c Y hY hc (by omega)
        omega
    omega

/-- A number that is there stays. -/
theorem R_exact (c r : Nat) (hc : 1074 ≤ c) (hr : r < 2047 * 2 ^ 52) : R c (mg r * 2 ^ (c - 1074)) = r := by
  obtain ⟨L, k, e, h, hk⟩ := form r
  have em : mg r = k * 2 ^ L := by rw [e]; exact mg_of L k h (by omega)
  by_cases hk0 : k = 0
  · subst hk0
    have hL : L = 0 := by have := Nat.two_pow_pos 52; omega
    subst hL
    rw [em]
    simp [R]; omega
  · rw [em, Nat.mul_assoc, ← Nat.pow_add]
    have hX : k * 2 ^ (L + (c - 1074)) ≠ 0 := Nat.mul_ne_zero hk0 (by have := Nat.two_pow_pos (L + (c - 1074)); omega)
    have hlev : lev c (k * 2 ^ (L + (c - 1074))) = L := by
      unfold lev
      rw [log2_mul_pow _ _ hk0]
      have h1 : k.log2 < 53 := log2_lt_of hk (by omega)
      rcases h with h | h
      · omega
      · have := le_log2_of h; omega
    rw [R_pos _ _ hX, hlev]
    have e2 : L + c - 1074 = L + (c - 1074) := by omega
    rw [e2, rhe_exact _ _ (Nat.two_pow_pos _)]
    omega

theorem R_le {c X r : Nat} (hc : 1074 ≤ c) (hr : r < 2047 * 2 ^ 52) (h : X ≤ mg r * 2 ^ (c - 1074)) : R c X ≤ r := by
  have := R_mono hc h; rwa [R_exact c r hc hr] at this
theorem le_R {c X r : Nat} (hc : 1074 ≤ c) (hr : r < 2047 * 2 ^ 52) (h : mg r * 2 ^ (c - 1074) ≤ X) : r ≤ R c X := by
  have := R_mono hc h; rwa [R_exact c r hc hr] at this

theorem R_exact' {c d r : Nat} (hc : c = 1074 + d) (hr : r < 2047 * 2 ^ 52) : R c (mg r * pw d) = r := by
  have h := R_exact c r (by omega) hr
  have e : c - 1074 = d := by omega
  rw [e] at h
  exact h
theorem R_le' {c d X r : Nat} (hc : c = 1074 + d) (hr : r < 2047 * 2 ^ 52) (h : X ≤ mg r * pw d) : R c X ≤ r := by
  have := R_mono (c := c) (by omega) h; rwa [R_exact' hc hr] at this
theorem le_R' {c d X r : Nat} (hc : c = 1074 + d) (hr : r < 2047 * 2 ^ 52) (h : mg r * pw d ≤ X) : r ≤ R c X := by
  have := R_mono (c := c) (by omega) h; rwa [R_exact' hc hr] at this

theorem R_top (c X : Nat) : R c X ≤ 2047 * 2 ^ 52 := by
  by_cases hX : X = 0
  · subst hX; simp [R]
  · rw [R_pos c X hX]; omega

/-- Magnitudes rise with their rungs. -/
theorem mg_lt {r s : Nat} (h : r < s) : mg r < mg s := by
  obtain ⟨L, k, e, h1, h2⟩ := form r
  obtain ⟨M, j, e', h1', h2'⟩ := form s
  have em : mg r = k * 2 ^ L := by rw [e]; exact mg_of L k h1 (by omega)
  have es : mg s = j * 2 ^ M := by rw [e']; exact mg_of M j h1' (by omega)
  rw [em, es]
  by_cases hLM : L = M
  · subst hLM
    exact Nat.mul_lt_mul_of_pos_right (by omega) (Nat.two_pow_pos L)
  · have hlt : L < M := by
      rcases h1 with h1 | h1 <;> rcases h1' with h1' | h1' <;> omega
    have h3 : 2 ^ 52 ≤ j := by omega
    have h4 : k * 2 ^ L < 2 ^ 53 * 2 ^ L := Nat.mul_lt_mul_of_pos_right h2 (Nat.two_pow_pos L)
    have h5 : 2 ^ 53 * 2 ^ L = 2 ^ 52 * 2 ^ (L + 1) := by rw [Nat.pow_succ 2 L]; omega
    have h6 : 2 ^ 52 * 2 ^ (L + 1) ≤ 2 ^ 52 * 2 ^ M := Nat.mul_le_mul_left _ (Nat.pow_le_pow_right (by omega) hlt)
    have h7 : 2 ^ 52 * 2 ^ M ≤ j * 2 ^ M := Nat.mul_le_mul_right _ h3
    omega
theorem mg_le {r s : Nat} (h : r ≤ s) : mg r ≤ mg s := by
  by_cases e : r = s
  · rw [e]; exact Nat.le_refl _
  · have : r < s := by omega
    exact Nat.le_of_lt (mg_lt this)
theorem mg_zero : mg 0 = 0 := by simp [mg]
theorem lt_of_mg {r s : Nat} (h : mg r < mg s) : r < s := by
  by_cases e : r < s
  · exact e
  · have := mg_le (r := s) (s := r) (by omega); omega
theorem le_of_mg {r s : Nat} (h : mg r ≤ mg s) : r ≤ s := by
  by_cases e : r ≤ s
  · exact e
  · have := mg_lt (r := s) (s := r) (by omega); omega
theorem inj_of_mg {r s : Nat} (h : mg r = mg s) : r = s := by
  have := le_of_mg (r := r) (s := s) (by omega); have := le_of_mg (r := s) (s := r) (by omega); omega

theorem fin3 {q z : Nat} (h1 : q ≤ 2044 * 2 ^ 52) (h2 : z < 2 ^ 53) : q + z < 2047 * 2 ^ 52 := by omega

/-- A whole number of grid steps, below 2 ^ 53 of them, is a float. -/
theorem grid (a e : Nat) (ha : a ≤ 2 ^ 53) (he : e ≤ 2044) : ∃ r, r < 2047 * 2 ^ 52 ∧ mg r = a * 2 ^ e := by
  by_cases h0 : a = 0
  · exact ⟨0, by omega, by rw [h0, mg_zero]; simp⟩
  · obtain ⟨l, hl⟩ : ∃ l, l = a.log2 := ⟨_, rfl⟩
    have h1 : 2 ^ l ≤ a := by rw [hl]; exact Nat.log2_self_le h0
    by_cases hb : a = 2 ^ 53
    · refine ⟨e * 2 ^ 52 + 2 ^ 53, ?_, ?_⟩
      · have : e * 2 ^ 52 ≤ 2044 * 2 ^ 52 := Nat.mul_le_mul_right _ he
        omega
      · rw [mg_of e (2 ^ 53) (Or.inr (by omega)) (by omega), hb]
    · have h2 : l < 53 := by rw [hl]; exact log2_lt_of (Nat.lt_of_le_of_ne ha hb) (by omega)
      have h3 : a < 2 ^ (l + 1) := by rw [hl]; exact Nat.lt_log2_self
      -- lift a by t digits so that it has 53, or as many as e leaves
      obtain ⟨t, ht⟩ : ∃ t, t = min (52 - l) e := ⟨_, rfl⟩
      refine ⟨(e - t) * 2 ^ 52 + a * 2 ^ t, ?_, ?_⟩
      · have h4 : a * 2 ^ t < 2 ^ (l + 1) * 2 ^ t := Nat.mul_lt_mul_of_pos_right h3 (Nat.two_pow_pos t)
        have h5 : 2 ^ (l + 1) * 2 ^ t ≤ 2 ^ 53 := by rw [← Nat.pow_add]; exact Nat.pow_le_pow_right (by omega) (by omega)
        have : (e - t) * 2 ^ 52 ≤ 2044 * 2 ^ 52 := Nat.mul_le_mul_right _ (by omega)
        have h6 : a * 2 ^ t < 2 ^ 53 := Nat.lt_of_lt_of_le h4 h5
        exact fin3 this h6
      · have h4 : a * 2 ^ t < 2 ^ (l + 1) * 2 ^ t := Nat.mul_lt_mul_of_pos_right h3 (Nat.two_pow_pos t)
        have h5 : 2 ^ (l + 1) * 2 ^ t ≤ 2 ^ 53 := by rw [← Nat.pow_add]; exact Nat.pow_le_pow_right (by omega) (by omega)
        have h10 : t + (e - t) = e := by omega
        rw [mg_of (e - t) (a * 2 ^ t) ?_ (by omega)]
        · rw [Nat.mul_assoc, ← Nat.pow_add, h10]
        · by_cases h6 : e ≤ 52 - l
          · left; omega
          · right
            have h7 : t = 52 - l := by omega
            have h8 : 2 ^ l * 2 ^ t ≤ a * 2 ^ t := Nat.mul_le_mul_right _ h1
            have h9 : 2 ^ l * 2 ^ t = 2 ^ 52 := by rw [← Nat.pow_add]; congr 1; omega
            omega

theorem gridP (a e : Nat) (ha : a ≤ 2 ^ 53) (he : e ≤ 2044) : ∃ r, r < 2047 * 2 ^ 52 ∧ mg r = a * pw e := grid a e ha he
theorem mgP (L k e : Nat) (h : L = 0 ∨ 2 ^ 52 ≤ k) (hk : k ≤ 2 ^ 53) (hp : k = pw e) : mg (L * 2 ^ 52 + k) = pw (e + L) := by
  rw [mg_of L k h hk, hp, pw_def, pw_def, ← Nat.pow_add]
attribute [irreducible] pw
end Fl
