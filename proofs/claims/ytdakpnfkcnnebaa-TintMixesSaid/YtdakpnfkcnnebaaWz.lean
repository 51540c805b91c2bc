/- How a colour, an argument of three floats, is opened and shut. -/
import Derived.Test.YtdakpnfkcnnebaaWl
import Derived.Lib.SmallJoins
namespace Go.Proofs.Ytdakpnfkcnnebaa
open Go.ChangeShapes Go.WideShapes Go.ChangeAt Go.RowKit Fl

theorem Try.cells38 : Try.prog.cellsOf 38 = 3 := by kernel_rfl
section
variable {H : Type} {enc : TypeId × Value → H} {P : Program} {w : World} {base : Nat} {spare : Nat → Bool} {held : Bool} {fuel : Nat} {t : TypeId} {cs : List Value} {x : DataW H × List MemPlace}
theorem trod_float {k : FloatKind} (ht : P.underlying t = some (.float k)) (h : DataW.trod enc P w base spare held fuel t cs = some x) : ∃ b, cs = [.float k b] ∧ x = (.lit (.float k b), []) ∧ (Lit.float k b).wf = true := by
  cases fuel with
  | zero => simp [DataW.trod] at h
  | succ n =>
    unfold DataW.trod at h
    rw [ht] at h
    split at h <;> simp_all
theorem shut_float1 {k : FloatKind} {b : Nat} (ht : P.underlying t = some (.float k)) (hw : (Lit.float k b).wf = true) : ∃ n, DataW.trod enc P w base spare held n t [.float k b] = some (.lit (.float k b), []) :=
  ⟨1, by simp [DataW.trod, ht, hw]⟩
end
end Go.Proofs.Ytdakpnfkcnnebaa
