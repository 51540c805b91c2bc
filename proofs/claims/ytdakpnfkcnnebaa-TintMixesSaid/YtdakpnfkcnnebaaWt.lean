/- The walks of tint's functions, and of the document's own. -/
import Derived.Test.YtdakpnfkcnnebaaWf
import Derived.Test.YtdakpnfkcnnebaaPt
import Derived.StillTailTactics
namespace Go.Proofs.Ytdakpnfkcnnebaa
open Go.ChangeShapes Go.WideShapes Go.ChangeAt Go.RowKit Fl

abbrev col (x y z : Nat) : Value := .agg #[fl x, fl y, fl z]
theorem still_tail {P : Program} {id : Nat} {Q : Exit → Act → World → Prop} {a : Act} {w : World} {l : List Oper} (n : Nat) (hm : P.follows .mixedOrders = true) (hB : Region.lexTailB .any l.toArray n = true)
    (h : wpStill P l.toArray w.drew (fun a' => wpList P l.toArray Q (l.drop n) a' w.drew) (l.take n) a) : (Code.region id l.toArray true).wp P Q a w :=
  wp_region_still_tail n hm hB h

/-- The world behind a Fit. -/
def fitW (x y z : Nat) (w : World) : World := ((w.alloc (.cells #[fl x, fl y, fl z] 38)).alloc (.cells #[fl (partB x), fl (partB y), fl (partB z)] 38)).drew
theorem fit_any (x y z : Nat) (w : World) :
    Calls Try.prog 29 #[col x y z] w fun e w' => e = .returned (col (partB x) (partB y) (partB z)) ∧ fitW x y z w = w' := by
  go_enter Try.func29, Try.ntmps29
  go_wp2_with fail
  refine still_tail 10 (by kernel_rfl) (by kernel_rfl) ?_
  simp only [List.take_succ_cons, List.take_zero, List.drop_succ_cons, List.drop_zero]
  repeat (first | still_step | (refine wpStill_step (fun K hK => ?_); go_simp; refine ⟨_, (part_any _ _).mono fun _ _ ⟨he, hw⟩ => ⟨he, hw.symm⟩, hK _ ?_⟩; clear hK K))
  refine wpStill_nil ?_
  go_wp2
  exact bodyPost_ret (v := col (partB x) (partB y) (partB z)) (by simp [results, Try.results29, go_sem]) rfl ⟨rfl, rfl⟩
theorem fitR_any (x y z : Nat) (w : World) (hx : x < 2 ^ 64) (hy : y < 2 ^ 64) (hz : z < 2 ^ 64) :
    Calls Try.prog 30 #[col x y z] w fun e w' => e = .returned (col (partB x) (partB y) (partB z)) ∧ fitW x y z w = w' := by
  go_enter Try.func30, Try.ntmps30
  go_wp2_with fail
  refine still_tail 10 (by kernel_rfl) (by kernel_rfl) ?_
  simp only [List.take_succ_cons, List.take_zero, List.drop_succ_cons, List.drop_zero]
  repeat (first | still_step | (refine wpStill_step (fun K hK => ?_); go_simp; refine ⟨_, (partR_any _ _ (by assumption)).mono fun _ _ ⟨he, hw⟩ => ⟨he, hw.symm⟩, hK _ ?_⟩; clear hK K))
  refine wpStill_nil ?_
  go_wp2
  exact bodyPost_ret (v := col (partB x) (partB y) (partB z)) (by simp [results, Try.results30, go_sem]) rfl ⟨rfl, rfl⟩

theorem light_runs (x y z : Nat) (hx : x < 2 ^ 64) (hy : y < 2 ^ 64) (hz : z < 2 ^ 64) :
    (∀ w, (binOp .mul 23 (.float .f64 4598175219545276416) (.float .f64 (partB x))).run Try.prog w = .ok (.float .f64 (fmul c25 (partB x))) w) ∧
    (∀ w, (binOp .mul 23 (.float .f64 4603804719079489536) (.float .f64 (partB y))).run Try.prog w = .ok (.float .f64 (fmul c62 (partB y))) w) ∧
    (∀ w, (binOp .mul 23 (.float .f64 4593671619917905920) (.float .f64 (partB z))).run Try.prog w = .ok (.float .f64 (fmul c12 (partB z))) w) ∧
    (∀ w, (binOp .add 23 (.float .f64 (fmul c25 (partB x))) (.float .f64 (fmul c62 (partB y)))).run Try.prog w = .ok (.float .f64 (fadd (fmul c25 (partB x)) (fmul c62 (partB y)))) w) ∧
    (∀ w, (binOp .add 23 (.float .f64 (fadd (fmul c25 (partB x)) (fmul c62 (partB y)))) (.float .f64 (fmul c12 (partB z)))).run Try.prog w = .ok (.float .f64 (lightB x y z)) w) := by
  obtain ⟨l1, l2, l3, l4, l5, _⟩ := light_some x y z hx hy hz
  exact ⟨fun w => run_float_arith w .mul 23 .f64 _ _ _ l1, fun w => run_float_arith w .mul 23 .f64 _ _ _ l2, fun w => run_float_arith w .mul 23 .f64 _ _ _ l3,
    fun w => run_float_arith w .add 23 .f64 _ _ _ l4, fun w => run_float_arith w .add 23 .f64 _ _ _ l5⟩

theorem light_any (x y z : Nat) (w : World) (hx : x < 2 ^ 64) (hy : y < 2 ^ 64) (hz : z < 2 ^ 64) :
    Calls Try.prog 37 #[col x y z] w fun e w' => e = .returned (fl (lightB x y z)) ∧ Grown w w' := by
  obtain ⟨q1, q2, q3, q4, q5⟩ := light_runs x y z hx hy hz
  go_enter Try.func37, Try.ntmps37
  go_wp2_with fail
  refine (fit_any x y z _).mono ?_
  rintro e w' ⟨rfl, rfl⟩
  unfold fitW
  go_wp2
  go_quiet (fail)
  go_wp2
  go_ret
  exact ⟨rfl, by repeat (first | exact Grown.refl _ | apply Grown.drew | apply Grown.alloc)⟩
theorem lightR_any (x y z : Nat) (w : World) (hx : x < 2 ^ 64) (hy : y < 2 ^ 64) (hz : z < 2 ^ 64) :
    Calls Try.prog 38 #[col x y z] w fun e w' => e = .returned (fl (lightB x y z)) ∧ Grown w w' := by
  obtain ⟨q1, q2, q3, q4, q5⟩ := light_runs x y z hx hy hz
  go_enter Try.func38, Try.ntmps38
  go_wp2_with fail
  refine (fitR_any x y z _ hx hy hz).mono ?_
  rintro e w' ⟨rfl, rfl⟩
  unfold fitW
  go_wp2
  go_quiet (fail)
  go_wp2
  go_ret
  exact ⟨rfl, by repeat (first | exact Grown.refl _ | apply Grown.drew | apply Grown.alloc)⟩

theorem signbit_any (x : Nat) (w : World) : Calls Try.prog 43 #[fl x] w fun e w' => e = .returned (.bool (sg x)) ∧ w = w' := by
  cases c : sg x
  · have h : ¬ wrap64 (x : Int) < 0 := by
      unfold sg at c
      have : ¬ (x / 2 ^ 63 % 2 = 1) := by simpa using c
      unfold wrap64; omega
    clear c
    go_enter Try.func43, Try.ntmps43
    go_wp2
    go_ret
    exact ⟨rfl, rfl⟩
  · have h : wrap64 (x : Int) < 0 := by
      unfold sg at c
      have : x / 2 ^ 63 % 2 = 1 := by simpa using c
      unfold wrap64; omega
    clear c
    go_enter Try.func43, Try.ntmps43
    go_wp2
    go_ret
    exact ⟨rfl, rfl⟩

def sameB (x y : Nat) : Bool := if isN x || isN y then isN x && isN y else (Ieee.double.order x y == some .eq) && (sg x == sg y)
theorem same1_any (x y : Nat) (w : World) : Calls Try.prog 58 #[fl x, fl y] w fun e w' => e = .returned (.bool (sameB x y)) ∧ w = w' := by
  unfold sameB
  cases nx : isN x
  · cases ny : isN y
    · rw [Bool.or_self, if_neg (by decide)]
      cases o : (Ieee.double.order x y == some .eq)
      · have o' : (FloatKind.f64.format.order x y == some .eq) = false := o
        clear o
        go_enter Try.func58, Try.ntmps58
        go_wp2_with (go_at_call 54; refine (isNaN_any _ _).mono ?_; rintro e w' ⟨rfl, rfl⟩)
        go_ret
        exact ⟨rfl, rfl⟩
      · have o' : (FloatKind.f64.format.order x y == some .eq) = true := o
        clear o
        go_enter Try.func58, Try.ntmps58
        go_wp2_with (first | (go_at_call 54; refine (isNaN_any _ _).mono ?_; rintro e w' ⟨rfl, rfl⟩) | (go_at_call 43; refine (signbit_any _ _).mono ?_; rintro e w' ⟨rfl, rfl⟩))
        go_ret
        exact ⟨rfl, rfl⟩
    · rw [Bool.or_true, if_pos rfl]
      go_enter Try.func58, Try.ntmps58
      go_wp2_with (go_at_call 54; refine (isNaN_any _ _).mono ?_; rintro e w' ⟨rfl, rfl⟩)
      go_ret
      exact ⟨rfl, rfl⟩
  · cases ny : isN y
    · rw [Bool.or_false, if_pos rfl]
      go_enter Try.func58, Try.ntmps58
      go_wp2_with (go_at_call 54; refine (isNaN_any _ _).mono ?_; rintro e w' ⟨rfl, rfl⟩)
      go_ret
      exact ⟨rfl, rfl⟩
    · rw [Bool.or_true, if_pos rfl]
      go_enter Try.func58, Try.ntmps58
      go_wp2_with (go_at_call 54; refine (isNaN_any _ _).mono ?_; rintro e w' ⟨rfl, rfl⟩)
      go_ret
      exact ⟨rfl, rfl⟩
end Go.Proofs.Ytdakpnfkcnnebaa
