/- The walks of the document's own Window, Bar and Float; of scroll's Bar. -/
import Derived.Test.YtdakpnfkcnnebaaWc
namespace Go.Proofs.Ytdakpnfkcnnebaa
open Go.ChangeShapes Go.WideShapes Go.ChangeAt Go.RowKit Fl

theorem windowR_any (f : Nat) (lines rows : Int) (w : World) (hf : f < 2 ^ 64) :
    Calls Try.prog 18 #[fl f, .int .i64 lines, .int .i64 rows] w fun e w' => e = .returned (.tuple #[.int .i64 (winA f lines rows), .int .i64 (winB f lines rows)]) ∧ w = w' := by
  have kl := kept_b lines
  have kr := kept_b rows
  unfold winA winB
  by_cases h : kept rows < kept lines
  · rw [if_pos h, if_pos h]
    have hz := partZ_le f (kept lines - kept rows) hf (by omega) (by omega)
    go_enter Try.func18, Try.ntmps18
    go_wp2_with (first | (go_at_call 51; refine (kept_any _ _).mono ?_; rintro e w' ⟨rfl, rfl⟩) | (go_at_call 52; refine (near_any _ _ _ hf (by omega) (by omega)).mono ?_; rintro e w' ⟨rfl, rfl⟩))
    go_ret2
    exact ⟨rfl, rfl⟩
  · rw [if_neg h, if_neg h]
    go_enter Try.func18, Try.ntmps18
    go_wp2_with (first | (go_at_call 51; refine (kept_any _ _).mono ?_; rintro e w' ⟨rfl, rfl⟩))
    go_ret2
    exact ⟨rfl, rfl⟩

def barL (lines rows : Int) : Nat := if kept rows < kept lines then fdiv (floatOfInt .f64 (kept rows)) (floatOfInt .f64 (kept lines)) else one
def barF (f : Nat) (lines rows : Int) : Nat := if kept rows < kept lines then fmul (partB f) (fsub one (fdiv (floatOfInt .f64 (kept rows)) (floatOfInt .f64 (kept lines)))) else 0

/-- A number of rows by a greater number of lines is at most 1. -/
theorem share_le (k n : Int) (h0 : 0 ≤ k) (h1 : k ≤ n) (h2 : 1 ≤ n) (h3 : n ≤ 1048576) : fdiv (floatOfInt .f64 k) (floatOfInt .f64 n) ≤ one := by
  rw [ofI_of k h0, ofI_of n (by omega)]
  have e53 : (2 : Nat) ^ 53 = 9007199254740992 := by decide
  have b1 : k.toNat ≤ 2 ^ 53 := by omega
  have b2 : n.toNat ≤ 2 ^ 53 := by omega
  obtain ⟨q, e, _, _, hq⟩ := div_nn (ofI k.toNat) (ofI n.toNat) (ofI_mg _ b1).2 (ofI_mg _ b2).2 (ofI_pos _ (by omega) b2)
  unfold fdiv
  rw [e, Option.getD_some]
  refine hq one one_lt ?_
  rw [(ofI_mg _ b1).1, (ofI_mg _ b2).1, one_mg]
  have h5 : k.toNat * E ≤ n.toNat * E := Nat.mul_le_mul_right _ (by omega)
  have h6 : k.toNat * E * pw 1074 = k.toNat * E * E := rfl
  rw [h6, Nat.mul_comm E]
  exact Nat.mul_le_mul_right _ h5

theorem fsub_one (l : Nat) (h : l ≤ one) : Ieee.double.sub one l = some (fsub one l) ∧ fsub one l = R 1074 (E - mg l) ∧ fsub one l ≤ one := by
  have hs := sub_nn one l one_lt h
  rw [one_mg] at hs
  have e : fsub one l = R 1074 (E - mg l) := by unfold fsub; rw [hs, Option.getD_some]
  refine ⟨by rw [hs, e], e, ?_⟩
  rw [e]
  exact R1_le one_lt (by rw [one_mg]; omega)
theorem fmul_le (p q : Nat) (hp : p ≤ one) (hq : q ≤ one) : Ieee.double.mul p q = some (fmul p q) ∧ fmul p q = R 2148 (mg p * mg q) ∧ fmul p q ≤ q := by
  have hm := mul_nn p q (Nat.lt_of_le_of_lt hp one_lt) (Nat.lt_of_le_of_lt hq one_lt)
  have e : fmul p q = R 2148 (mg p * mg q) := by unfold fmul; rw [hm, Option.getD_some]
  refine ⟨by rw [hm, e], e, ?_⟩
  rw [e]
  refine R2_le (Nat.lt_of_le_of_lt hq one_lt) ?_
  have := mg_le hp
  rw [one_mg] at this
  rw [Nat.mul_comm (mg q)]
  exact Nat.mul_le_mul_right _ this

theorem bar_runs (f : Nat) (lines rows : Int) (hf : f < 2 ^ 64) (h : kept rows < kept lines) :
    (∀ w, (binOp .quo 23 (.float .f64 (floatOfInt .f64 (kept rows))) (.float .f64 (floatOfInt .f64 (kept lines)))).run Try.prog w = .ok (.float .f64 (fdiv (floatOfInt .f64 (kept rows)) (floatOfInt .f64 (kept lines)))) w) ∧
    (∀ w, (binOp .sub 23 (.float .f64 4607182418800017408) (.float .f64 (fdiv (floatOfInt .f64 (kept rows)) (floatOfInt .f64 (kept lines))))).run Try.prog w = .ok (.float .f64 (fsub one (fdiv (floatOfInt .f64 (kept rows)) (floatOfInt .f64 (kept lines))))) w) ∧
    (∀ w, (binOp .mul 23 (.float .f64 (partB f)) (.float .f64 (fsub one (fdiv (floatOfInt .f64 (kept rows)) (floatOfInt .f64 (kept lines)))))).run Try.prog w = .ok (.float .f64 (fmul (partB f) (fsub one (fdiv (floatOfInt .f64 (kept rows)) (floatOfInt .f64 (kept lines)))))) w) := by
  have kl := kept_b lines
  have kr := kept_b rows
  have q := quo_runs (kept rows) (kept lines) (by omega) (by omega) (by omega) (by omega)
  have hl := share_le (kept rows) (kept lines) (by omega) (by omega) (by omega) (by omega)
  have s1 := fsub_one _ hl
  have m1 := fmul_le (partB f) _ (partB_le f hf) s1.2.2
  exact ⟨q, fun w => run_float_arith w .sub 23 .f64 one _ _ s1.1, fun w => run_float_arith w .mul 23 .f64 _ _ _ m1.1⟩

theorem barR_any (f : Nat) (lines rows : Int) (w : World) (hf : f < 2 ^ 64) :
    Calls Try.prog 19 #[fl f, .int .i64 lines, .int .i64 rows] w fun e w' => e = .returned (.tuple #[fl (barF f lines rows), fl (barL lines rows)]) ∧ w = w' := by
  have kl := kept_b lines
  have kr := kept_b rows
  unfold barF barL
  by_cases h : kept rows < kept lines
  · rw [if_pos h, if_pos h]
    obtain ⟨q1, q2, q3⟩ := bar_runs f lines rows hf h
    go_enter Try.func19, Try.ntmps19
    go_wp2_with (first | (go_at_call 51; refine (kept_any _ _).mono ?_; rintro e w' ⟨rfl, rfl⟩) | (go_at_call 27; refine (partR_any _ _ hf).mono ?_; rintro e w' ⟨rfl, rfl⟩))
    go_ret2
    exact ⟨rfl, rfl⟩
  · rw [if_neg h, if_neg h]
    go_enter Try.func19, Try.ntmps19
    go_wp2_with (first | (go_at_call 51; refine (kept_any _ _).mono ?_; rintro e w' ⟨rfl, rfl⟩))
    go_ret2
    exact ⟨rfl, rfl⟩

theorem bar_any (f : Nat) (lines rows : Int) (w : World) (hf : f < 2 ^ 64) :
    Calls Try.prog 17 #[fl f, .int .i64 lines, .int .i64 rows] w fun e w' => e = .returned (.tuple #[fl (barF f lines rows), fl (barL lines rows)]) ∧ Grown w w' := by
  have kl := kept_b lines
  have kr := kept_b rows
  have hmf : ∀ (fn : Fn) (first cap : Array Value) (w : World), (Instr.makeFunc fn first cap).run Try.prog w = .ok (.func fn first cap) w := fun _ _ _ _ => rfl
  unfold barF barL
  by_cases h : kept rows < kept lines
  · rw [if_pos h, if_pos h]
    obtain ⟨q1, q2, q3⟩ := bar_runs f lines rows hf h
    go_enter Try.func17, Try.ntmps17
    go_wp2_with (first | (go_at_call 46; refine (some_any _ _).mono ?_; rintro e w' ⟨rfl, rfl⟩) | (go_at_call 26; refine (part_any _ _).mono ?_; rintro e w' ⟨rfl, rfl⟩) | go_in)
    go_end0
    go_wp2
    go_quiet (fail)
    go_wp2
    go_ret2
    exact ⟨rfl, by repeat (first | exact Grown.refl _ | apply Grown.drew | apply Grown.alloc)⟩
  · rw [if_neg h, if_neg h]
    go_enter Try.func17, Try.ntmps17
    go_wp2_with (first | (go_at_call 46; refine (some_any _ _).mono ?_; rintro e w' ⟨rfl, rfl⟩) | go_in)
    go_quiet (fail)
    go_wp2
    go_ret2
    exact ⟨rfl, by repeat (first | exact Grown.refl _ | apply Grown.drew | apply Grown.alloc)⟩

theorem nan_any (w : World) : Calls Try.prog 42 #[] w fun e w' => e = .returned (fl 9221120237041090561) ∧ w = w' := by
  go_enter Try.func42, Try.ntmps42
  go_wp2
  go_ret
  exact ⟨rfl, rfl⟩
end Go.Proofs.Ytdakpnfkcnnebaa
