/- The walks of math's and tint's small functions: what each returns; none writes. -/
import Derived.Test.YtdakpnfkcnnebaaRows
import Derived.Test.YtdakpnfkcnnebaaFw
import Derived.WalkKit
import Derived.ProofKit
import Derived.OpenShut
import Derived.WalkLawsBesides
import Derived.Deep.QuietTactic
import Derived.BigQuiet
namespace Go.Proofs.Ytdakpnfkcnnebaa
open Go.ChangeShapes Go.WideShapes Go.ChangeAt Go.RowKit Fl

abbrev fl (b : Nat) : Value := .float .f64 b

@[go_sem] theorem call53 (b : Nat) (w : World) : (callFunc 53 #[.float .f64 b]).run Try.prog w = .ok (.value (.int .u64 b)) w := by
  rw [run_callFunc_extern Try.func53 (by kernel_rfl) (by kernel_rfl) (by kernel_rfl) (e := Extern.MathFloatBits.float64bits) (by kernel_rfl)]; rfl
@[go_sem] theorem call59 (n : Int) (w : World) : (callFunc 59 #[.int .u64 n]).run Try.prog w = .ok (.value (.float .f64 n.toNat)) w := by
  rw [run_callFunc_extern Try.func59 (by kernel_rfl) (by kernel_rfl) (by kernel_rfl) (e := Extern.MathFloatBits.float64frombits) (by kernel_rfl)]; rfl
@[go_sem] theorem run_store_float (P : Program) (w : World) (a : Addr) (m : Mode) (k : FloatKind) (b : Nat) : (store a (.float k b) m).run P w = stored P w a (.float k b) m := run_store P w a _ m rfl

theorem isNaN_any (x : Nat) (w : World) :
    Calls Try.prog 54 #[fl x] w fun e w' => e = .returned (.bool (isN x)) ∧ w = w' := by
  go_enter Try.func54, Try.ntmps54
  go_wp2
  go_ret
  exact ⟨rfl, rfl⟩

theorem part_any (x : Nat) (w : World) :
    Calls Try.prog 26 #[fl x] w fun e w' => e = .returned (fl (partB x)) ∧ w = w' := by
  unfold partB
  by_cases h1 : isN x = true
  · rw [if_pos h1]
    go_enter Try.func26, Try.ntmps26
    go_wp2_with (go_at_call 54; refine (isNaN_any _ _).mono ?_; rintro e w' ⟨rfl, rfl⟩)
    go_ret
    exact ⟨rfl, rfl⟩
  · rw [if_neg h1]
    have h1' : isN x = false := by simpa using h1
    clear h1
    by_cases h2 : le0 x = true
    · rw [if_pos h2]
      have h2' : (FloatKind.f64.format.order x 0 == some Ordering.lt || FloatKind.f64.format.order x 0 == some Ordering.eq) = true := h2
      clear h2
      go_enter Try.func26, Try.ntmps26
      go_wp2_with (go_at_call 54; refine (isNaN_any _ _).mono ?_; rintro e w' ⟨rfl, rfl⟩)
      go_ret
      exact ⟨rfl, rfl⟩
    · rw [if_neg h2]
      have h2' : (FloatKind.f64.format.order x 0 == some Ordering.lt || FloatKind.f64.format.order x 0 == some Ordering.eq) = false := Bool.eq_false_iff.2 h2
      clear h2
      by_cases h3 : ge1 x = true
      · rw [if_pos h3]
        have h3' : (FloatKind.f64.format.order x 4607182418800017408 == some Ordering.gt || FloatKind.f64.format.order x 4607182418800017408 == some Ordering.eq) = true := h3
        clear h3
        go_enter Try.func26, Try.ntmps26
        go_wp2_with (go_at_call 54; refine (isNaN_any _ _).mono ?_; rintro e w' ⟨rfl, rfl⟩)
        go_ret
        exact ⟨rfl, rfl⟩
      · rw [if_neg h3]
        have h3' : (FloatKind.f64.format.order x 4607182418800017408 == some Ordering.gt || FloatKind.f64.format.order x 4607182418800017408 == some Ordering.eq) = false := Bool.eq_false_iff.2 h3
        clear h3
        go_enter Try.func26, Try.ntmps26
        go_wp2_with (go_at_call 54; refine (isNaN_any _ _).mono ?_; rintro e w' ⟨rfl, rfl⟩)
        go_ret
        exact ⟨rfl, rfl⟩
end Go.Proofs.Ytdakpnfkcnnebaa
