/- The walk of tint's Mix. -/
import Derived.Test.YtdakpnfkcnnebaaWv
import Derived.Deep.RegionWith
namespace Go.Proofs.Ytdakpnfkcnnebaa
open Go.ChangeShapes Go.WideShapes Go.ChangeAt Go.RowKit Fl

theorem mix_runs (x y u : Nat) (hx : x ≤ one) (hy : y ≤ one) (hu : u ≤ one) :
    (∀ w, (binOp .sub 23 (.float .f64 y) (.float .f64 x)).run Try.prog w = .ok (.float .f64 (fsub y x)) w) ∧
    (∀ w, (binOp .mul 23 (.float .f64 (fsub y x)) (.float .f64 u)).run Try.prog w = .ok (.float .f64 (fmul (fsub y x) u)) w) ∧
    (∀ w, (binOp .add 23 (.float .f64 x) (.float .f64 (fmul (fsub y x) u))).run Try.prog w = .ok (.float .f64 (mix1 x y u)) w) := by
  obtain ⟨h1, h2, h3⟩ := mix1_some x y u hx hy hu
  exact ⟨fun w => run_float_arith w .sub 23 .f64 _ _ _ h1, fun w => run_float_arith w .mul 23 .f64 _ _ _ h2, fun w => run_float_arith w .add 23 .f64 _ _ _ h3⟩
theorem mix1_any (x y u b : Nat) (w : World) (hx : x ≤ one) (hy : y ≤ one) (hu : u ≤ one) (hc : w.cell? ⟨b, 0, none⟩ = some (fl u)) :
    Calls Try.prog 55 #[fl x, fl y, .pointer (some ⟨b, 0, none⟩)] w fun e w' => e = .returned (fl (mix1 x y u)) ∧ w = w' := by
  obtain ⟨r1, r2, r3⟩ := mix_runs x y u hx hy hu
  go_enter Try.func55, Try.ntmps55
  go_wp2
  go_ret
  exact ⟨rfl, rfl⟩
theorem one_any (x y u : Nat) (w : World) (hx : x ≤ one) (hy : y ≤ one) (hu : u ≤ one) :
    Calls Try.prog 56 #[fl x, fl y, fl u] w fun e w' => e = .returned (fl (mix1 x y u)) ∧ w = w' := by
  obtain ⟨r1, r2, r3⟩ := mix_runs x y u hx hy hu
  go_enter Try.func56, Try.ntmps56
  go_wp2
  go_ret
  exact ⟨rfl, rfl⟩
theorem is0 (u : Nat) (hu : u ≤ one) : (FloatKind.f64.format.order u 0 == some Ordering.eq) = decide (u = 0) := by
  have e : FloatKind.f64.format.order u 0 = some (compare u 0) := order_nn u 0 (Nat.le_trans hu (by decide)) (by decide)
  rw [e]
  rcases Nat.eq_zero_or_pos u with h | h
  · subst h; decide
  · rw [Nat.compare_eq_gt.2 h]
    have : u ≠ 0 := by omega
    simp [this]
theorem is1 (u : Nat) (hu : u ≤ one) : (FloatKind.f64.format.order u 4607182418800017408 == some Ordering.eq) = decide (u = one) := by
  have e : FloatKind.f64.format.order u one = some (compare u one) := order_nn u one (Nat.le_trans hu (by decide)) (by decide)
  rw [e]
  rcases Nat.lt_or_ge u one with h | h
  · rw [Nat.compare_eq_lt.2 h]
    have : u ≠ one := by omega
    simp [this]
  · have : u = one := by omega
    rw [Nat.compare_eq_eq.2 this]
    simp [this]
def mixC (x x' u : Nat) : Nat := if u = 0 then x else if u = one then x' else mix1 (partB x) (partB x') u
set_option maxHeartbeats 2000000 in
theorem mix_any (x y z x' y' z' t : Nat) (w : World) (hx : x < 2 ^ 64) (hy : y < 2 ^ 64) (hz : z < 2 ^ 64) (hx' : x' < 2 ^ 64) (hy' : y' < 2 ^ 64) (hz' : z' < 2 ^ 64) (ht : t < 2 ^ 64) :
    Calls Try.prog 31 #[col x y z, col x' y' z', fl t] w fun e w' => e = .returned (col (mixC x x' (partB t)) (mixC y y' (partB t)) (mixC z z' (partB t))) ∧ Grown w w' := by
  have hmf : ∀ (fn : Fn) (first cap : Array Value) (w : World), (Instr.makeFunc fn first cap).run Try.prog w = .ok (.func fn first cap) w := fun _ _ _ _ => rfl
  have hu := partB_le t ht
  unfold mixC
  by_cases h0 : partB t = 0
  · simp only [if_pos h0]
    have t0 := is0 _ hu
    rw [h0, decide_eq_true (rfl : (0:Nat) = 0)] at t0
    go_enter Try.func31, Try.ntmps31
    go_wp2_with (go_at_call 26; refine (part_any _ _).mono ?_; rintro e w' ⟨rfl, rfl⟩; rw [h0])
    exact bodyPost_ret (v := col x y z) (by simp [results, Try.results31, go_sem]) rfl ⟨rfl, by repeat (first | exact Grown.refl _ | apply Grown.drew | apply Grown.alloc)⟩
  · simp only [if_neg h0]
    have t0 := is0 _ hu
    rw [decide_eq_false h0] at t0
    by_cases h1 : partB t = one
    · simp only [if_pos h1]
      have t1 := is1 _ hu
      rw [h1] at t0 t1
      rw [decide_eq_true (rfl : one = one)] at t1
      clear h0
      go_enter Try.func31, Try.ntmps31
      go_wp2_with (go_at_call 26; refine (part_any _ _).mono ?_; rintro e w' ⟨rfl, rfl⟩; rw [h1])
      exact bodyPost_ret (v := col x' y' z') (by simp [results, Try.results31, go_sem]) rfl ⟨rfl, by repeat (first | exact Grown.refl _ | apply Grown.drew | apply Grown.alloc)⟩
    · simp only [if_neg h1]
      have t1 := is1 _ hu
      rw [decide_eq_false h1] at t1
      have px := partB_le x hx
      have py := partB_le y hy
      have pz := partB_le z hz
      have px' := partB_le x' hx'
      have py' := partB_le y' hy'
      have pz' := partB_le z' hz'
      clear h0 h1
      go_enter Try.func31, Try.ntmps31
      go_wp2_with (go_at_call 26; refine (part_any _ _).mono ?_; rintro e w' ⟨rfl, rfl⟩)
      go_region_with (first
        | (go_at_call_of 29 (Value.agg #[fl x, fl y, fl z]); refine (fit_any x y z _).mono ?_; rintro e w' ⟨rfl, rfl⟩; unfold fitW)
        | (go_at_call 29; refine (fit_any x' y' z' _).mono ?_; rintro e w' ⟨rfl, rfl⟩; unfold fitW))
      all_goals go_wp2_with fail
      all_goals
        refine still_tail 19 (by kernel_rfl) (by kernel_rfl) ?_
        simp only [List.take_succ_cons, List.take_zero, List.drop_succ_cons, List.drop_zero]
        repeat (first | still_step | (refine wpStill_step (fun K hK => ?_); go_simp; refine ⟨_, (mix1_any _ _ _ _ _ (by assumption) (by assumption) hu (by go_simp)).mono fun _ _ ⟨he, hw⟩ => ⟨he, hw.symm⟩, hK _ ?_⟩; clear hK K))
        refine wpStill_nil ?_
        go_wp2
        exact bodyPost_ret (v := col (mix1 (partB x) (partB x') (partB t)) (mix1 (partB y) (partB y') (partB t)) (mix1 (partB z) (partB z') (partB t))) (by simp [results, Try.results31, go_sem]) rfl ⟨rfl, by repeat (first | exact Grown.refl _ | apply Grown.drew | apply Grown.alloc)⟩
end Go.Proofs.Ytdakpnfkcnnebaa
