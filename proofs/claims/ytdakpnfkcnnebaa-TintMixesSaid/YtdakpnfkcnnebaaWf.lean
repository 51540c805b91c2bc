/- The document's own 'two floats are alike, bit by bit', at two words that are one. -/
import Derived.Test.YtdakpnfkcnnebaaWl
namespace Go.Proofs.Ytdakpnfkcnnebaa
open Go.ChangeShapes Go.WideShapes Go.ChangeAt Go.RowKit Fl

theorem float_same (x : Nat) (w : World) : Calls Try.prog 21 #[fl x, fl x] w fun e w' => e = .returned (.bool true) ∧ w = w' := by
  cases h : isN x
  · have h' : (FloatKind.f64.format.order x x != some Ordering.eq) = false := h
    clear h
    go_enter Try.func21, Try.ntmps21
    go_wp2
    go_ret
    exact ⟨rfl, rfl⟩
  · have h' : (FloatKind.f64.format.order x x != some Ordering.eq) = true := h
    clear h
    go_enter Try.func21, Try.ntmps21
    go_wp2
    go_ret
    exact ⟨rfl, rfl⟩
end Go.Proofs.Ytdakpnfkcnnebaa
