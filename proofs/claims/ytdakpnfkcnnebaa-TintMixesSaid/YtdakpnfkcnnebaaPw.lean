/- Plain: windows and bars. No program in sight. -/
import Derived.Test.YtdakpnfkcnnebaaPb
namespace Fl
open Ieee

theorem order_pos_neg (x y : Nat) (hx : x ≤ 2047 * 2 ^ 52) (hx0 : 0 < x) (h : sg y = true) (hy : y % 2 ^ 63 ≤ 2047 * 2 ^ 52) : double.order x y = some .gt := by
  unfold Format.order
  by_cases ex : x = 2047 * 2 ^ 52
  · rw [read_inf x (by rw [mod_small (by omega)]; exact ex), sg_small (by omega)]
    by_cases ey : y % 2 ^ 63 = 2047 * 2 ^ 52
    · rw [read_inf y ey, h]; rfl
    · obtain ⟨m, p, e', _, _, _⟩ := read_num y (by omega)
      rw [e', h]; rfl
  · obtain ⟨n, q, e, _, _, h2⟩ := read_num x (by rw [mod_small (by omega)]; omega)
    rw [sg_small (by omega)] at e
    rw [mod_small (by omega)] at h2
    rw [e]
    have hn : 0 < n := by
      rcases Nat.eq_zero_or_pos n with h | h
      · rw [h, Nat.zero_mul] at h2
        have := mg_lt hx0; rw [mg_zero] at this; omega
      · exact h
    by_cases ey : y % 2 ^ 63 = 2047 * 2 ^ 52
    · rw [read_inf y ey, h]; rfl
    · obtain ⟨m, p, e', _, _, _⟩ := read_num y (by omega)
      rw [e', h]
      simp only [Datum.order]
      have h1 := signed_true_le m (p - min q p).toNat
      have h2 := signed_false_pos n (q - min q p).toNat hn
      have : compare (signed false n (q - min q p).toNat) (signed true m (p - min q p).toNat) = .gt := by
        simp only [compare, compareOfLessAndEq]
        rw [if_neg (by omega), if_neg (by omega)]
      rw [this]

theorem notN (x : Nat) (h : isN x = false) : x % 2 ^ 63 ≤ 2047 * 2 ^ 52 := by
  rcases makes x with g | ⟨_, g⟩ | ⟨_, g⟩
  · unfold isN at h
    rw [order_nan x x g] at h; simp at h
  · exact g
  · exact g

/-- Parts rise with what they are of. -/
theorem part_mono (f g : Nat) (hf : f < 2 ^ 64) (hg : g < 2 ^ 64) (nf : isN f = false) (ng : isN g = false) (h : (double.order f g == some .gt) = false) : partB f ≤ partB g := by
  have bf := notN f nf
  have bg := notN g ng
  rcases makes f with m | ⟨sf, _⟩ | ⟨sf, _⟩
  · omega
  · rw [(part_neg f sf bf).1]; exact Nat.zero_le _
  · obtain ⟨ef, pf, _⟩ := part_pos f sf bf hf
    rw [ef] at bf
    rcases makes g with m | ⟨sg', _⟩ | ⟨sg', _⟩
    · omega
    · rcases Nat.eq_zero_or_pos f with z | z
      · rw [pf, z]; omega
      · rw [order_pos_neg f g bf z sg' bg] at h; simp at h
    · obtain ⟨eg, pg, _⟩ := part_pos g sg' bg hg
      rw [eg] at bg
      rw [order_nn f g bf bg] at h
      have : f ≤ g := by
        rcases Nat.lt_or_ge g f with z | z
        · rw [Nat.compare_eq_gt.2 z] at h; simp at h
        · exact z
      rw [pf, pg]; omega

theorem partI_mono (f g n : Nat) (hf : f < 2 ^ 64) (hg : g < 2 ^ 64) (hn : n ≤ 2 ^ 51) (h : partB f ≤ partB g) : partI f n ≤ partI g n := by
  have n52 : n ≤ 2 ^ 52 := Nat.le_trans hn (by decide)
  have s1 := scaled_some (partB f) n (partB_le f hf) n52
  have s2 := scaled_some (partB g) n (partB_le g hg) n52
  have hs : scaled (partB f) n ≤ scaled (partB g) n := by
    rw [s1.2.1, s2.2.1]; exact R2_mono (Nat.mul_le_mul_right _ (mg_le h))
  have hp : plusHalf (scaled (partB f) n) ≤ plusHalf (scaled (partB g) n) := by
    rw [(plusHalf_some _ n s1.2.2 hn).2.1, (plusHalf_some _ n s2.2.2 hn).2.1]
    exact R1_mono (Nat.add_le_add_right (mg_le hs) _)
  unfold partI cutI
  exact Nat.div_le_div_right (mg_le hp)

theorem R2_zero : R 2148 0 = 0 := by unfold R; exact if_pos rfl
theorem partI_zero (n : Nat) (hn : n ≤ 2 ^ 52) : partI 0 n = 0 := by
  unfold partI
  have e0 : partB 0 = 0 := partB_of_le 0 (Nat.zero_le _)
  rw [e0]
  have hs : scaled 0 n = 0 := by
    rw [(scaled_some 0 n (Nat.zero_le _) hn).2.1, mg_zero, Nat.zero_mul, R2_zero]
  rw [hs]
  decide +kernel
theorem partI_one (n : Nat) (hn : n ≤ 2 ^ 51) : partI one n = n := by
  have n52 : n ≤ 2 ^ 52 := Nat.le_trans hn (by decide)
  have n53 : n ≤ 2 ^ 53 := Nat.le_trans hn (by decide)
  have e1 : partB one = one := partB_of_le one (Nat.le_refl _)
  have ⟨om, ol⟩ := ofI_mg n n53
  refine Nat.le_antisymm (partI_le one n (by decide) hn) ?_
  unfold partI
  rw [e1]
  have s := scaled_some one n (Nat.le_refl _) n52
  have hs : scaled one n = ofI n := by
    rw [s.2.1, one_mg, Nat.mul_comm E, ← om]
    exact R2_exact ol
  rw [hs]
  have hp : ofI n ≤ plusHalf (ofI n) := by
    rw [(plusHalf_some _ n (Nat.le_refl _) hn).2.1]
    exact le_R1 ol (Nat.le_add_right _ _)
  unfold cutI
  have h := mg_le hp
  rw [om] at h
  exact (Nat.le_div_iff_mul_le E_pos).2 h
end Fl
