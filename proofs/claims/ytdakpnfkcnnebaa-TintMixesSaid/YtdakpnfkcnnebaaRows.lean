/-
  No cell of these rows narrows 'for every input' (looked for: loops, veiled, ifaces, maps, wideKeys, modest, calm, conditions, laid).
  DERIVED. THE GIVEN ROWS OF THIS SEAT. 10 by the template 'for every input the law returns true; each argument reads behind the call as it read before'; 0 by the template 'total and deterministic' (their statements: YtdakpnfkcnnebaaTotals.lean).
  GIVEN WITH THE SEED: the statements are not yours to turn. If you find one false, say at which input.
  Laid BY PROGRAM, IN A SANDBOX (cutbox-rows.mjs): the forced cells as the released guide's own fill.sh prints them over the translation 966f89d78951a212… (all of the seat's roots in one cut). By AI agents, Wed Nov 11 2026. No macro, syntax, notation, axiom, sorry.
-/
import Derived.Test.YtdakpnfkcnnebaaChecked
import GoSem.Claim
import GoSem.ClaimJoined
import GoSem.ClaimMapViews
import Derived.JoinedTies
import Derived.KernelRfl
namespace Go.Proofs.Ytdakpnfkcnnebaa
/- THE CELL 'sum', in the pinned program and in every row, IS THE sha256 OF THE DUMP (.gsa) THAT YtdakpnfkcnnebaaProg.lean LOADS. Nothing in Lean hashes anything: it is a label: what it is worth is what the hold of that sum in a sandbox is worth. -/
noncomputable def Try.pinned : Pinned := { name := "ytdakpnfkcnnebaa", sum := "966f89d78951a2123098b1c265b7e35e6822102b984f4a713250abc49ffd1e21", checked := Try.checked }
namespace Rows
def none {H : Type} : Left H := { results := [], args := [] }

/-- 'gobolaw2.ScrollBack': WHATEVER THE INPUT: true; the input reads as it did. -/
def scrollBackSpec : ChangeSpec := { name := "scrollBack", fn := fun _ => fun
  | [d1, d2] => { results := [.lit (.bool true)], args := [d1, d2] }
  | _ => none }
def scrollBackRow : OpenClaim := { program := "ytdakpnfkcnnebaa", sum := "966f89d78951a2123098b1c265b7e35e6822102b984f4a713250abc49ffd1e21", func := "gobo/gobolaw2.ScrollBack", spec := "scrollBack", inPlace := ["math.Float64frombits"], unfollowed := true, recurses := true, apart := false }
def ScrollBackSaid : Prop := scrollBackRow.holds Try.pinned (OpenSpec.ofChange scrollBackSpec)

/-- ITS FALSE NEIGHBOUR: 'it returns false'. Refute it at one input. -/
def scrollBackWrong : ChangeSpec := { name := "scrollBack", fn := fun _ => fun
  | [d1, d2] => { results := [.lit (.bool false)], args := [d1, d2] }
  | _ => none }
def ScrollBackWrongFalsely : Prop := scrollBackRow.holds Try.pinned (OpenSpec.ofChange scrollBackWrong)

/-- 'gobolaw2.ScrollWindows': WHATEVER THE INPUT: true; the input reads as it did. -/
def scrollWindowsSpec : ChangeSpec := { name := "scrollWindows", fn := fun _ => fun
  | [d1, d2, d3, d4] => { results := [.lit (.bool true)], args := [d1, d2, d3, d4] }
  | _ => none }
def scrollWindowsRow : OpenClaim := { program := "ytdakpnfkcnnebaa", sum := "966f89d78951a2123098b1c265b7e35e6822102b984f4a713250abc49ffd1e21", func := "gobo/gobolaw2.ScrollWindows", spec := "scrollWindows", inPlace := ["math.Float64frombits"], unfollowed := true, recurses := true, apart := false }
def ScrollWindowsSaid : Prop := scrollWindowsRow.holds Try.pinned (OpenSpec.ofChange scrollWindowsSpec)

/-- ITS FALSE NEIGHBOUR: 'it returns false'. Refute it at one input. -/
def scrollWindowsWrong : ChangeSpec := { name := "scrollWindows", fn := fun _ => fun
  | [d1, d2, d3, d4] => { results := [.lit (.bool false)], args := [d1, d2, d3, d4] }
  | _ => none }
def ScrollWindowsWrongFalsely : Prop := scrollWindowsRow.holds Try.pinned (OpenSpec.ofChange scrollWindowsWrong)

/-- 'gobolaw2.ScrollBars': WHATEVER THE INPUT: true; the input reads as it did. -/
def scrollBarsSpec : ChangeSpec := { name := "scrollBars", fn := fun _ => fun
  | [d1, d2, d3] => { results := [.lit (.bool true)], args := [d1, d2, d3] }
  | _ => none }
def scrollBarsRow : OpenClaim := { program := "ytdakpnfkcnnebaa", sum := "966f89d78951a2123098b1c265b7e35e6822102b984f4a713250abc49ffd1e21", func := "gobo/gobolaw2.ScrollBars", spec := "scrollBars", inPlace := ["math.Float64frombits"], unfollowed := true, recurses := true, apart := false }
def ScrollBarsSaid : Prop := scrollBarsRow.holds Try.pinned (OpenSpec.ofChange scrollBarsSpec)

/-- ITS FALSE NEIGHBOUR: 'it returns false'. Refute it at one input. -/
def scrollBarsWrong : ChangeSpec := { name := "scrollBars", fn := fun _ => fun
  | [d1, d2, d3] => { results := [.lit (.bool false)], args := [d1, d2, d3] }
  | _ => none }
def ScrollBarsWrongFalsely : Prop := scrollBarsRow.holds Try.pinned (OpenSpec.ofChange scrollBarsWrong)

/-- 'gobolaw2.ScrollAsks': WHATEVER THE INPUT: true; the input reads as it did. -/
def scrollAsksSpec : ChangeSpec := { name := "scrollAsks", fn := fun _ => fun
  | [d1, d2, d3, d4, d5] => { results := [.lit (.bool true)], args := [d1, d2, d3, d4, d5] }
  | _ => none }
def scrollAsksRow : OpenClaim := { program := "ytdakpnfkcnnebaa", sum := "966f89d78951a2123098b1c265b7e35e6822102b984f4a713250abc49ffd1e21", func := "gobo/gobolaw2.ScrollAsks", spec := "scrollAsks", inPlace := ["math.Float64frombits", "math.Float64bits"], unfollowed := true, recurses := true, apart := false }
def ScrollAsksSaid : Prop := scrollAsksRow.holds Try.pinned (OpenSpec.ofChange scrollAsksSpec)

/-- ITS FALSE NEIGHBOUR: 'it returns false'. Refute it at one input. -/
def scrollAsksWrong : ChangeSpec := { name := "scrollAsks", fn := fun _ => fun
  | [d1, d2, d3, d4, d5] => { results := [.lit (.bool false)], args := [d1, d2, d3, d4, d5] }
  | _ => none }
def ScrollAsksWrongFalsely : Prop := scrollAsksRow.holds Try.pinned (OpenSpec.ofChange scrollAsksWrong)

/-- 'gobolaw1.TintAsks': WHATEVER THE INPUT: true; the input reads as it did. -/
def tintAsksSpec : ChangeSpec := { name := "tintAsks", fn := fun _ => fun
  | [d1, d2, d3, d4] => { results := [.lit (.bool true)], args := [d1, d2, d3, d4] }
  | _ => none }
def tintAsksRow : OpenClaim := { program := "ytdakpnfkcnnebaa", sum := "966f89d78951a2123098b1c265b7e35e6822102b984f4a713250abc49ffd1e21", func := "gobo/gobolaw1.TintAsks", spec := "tintAsks", inPlace := ["math.Float64frombits", "math.Float64bits"], unfollowed := true, recurses := true, apart := false }
def TintAsksSaid : Prop := tintAsksRow.holds Try.pinned (OpenSpec.ofChange tintAsksSpec)

/-- ITS FALSE NEIGHBOUR: 'it returns false'. Refute it at one input. -/
def tintAsksWrong : ChangeSpec := { name := "tintAsks", fn := fun _ => fun
  | [d1, d2, d3, d4] => { results := [.lit (.bool false)], args := [d1, d2, d3, d4] }
  | _ => none }
def TintAsksWrongFalsely : Prop := tintAsksRow.holds Try.pinned (OpenSpec.ofChange tintAsksWrong)

/-- 'gobolaw1.TintBytes': WHATEVER THE INPUT: true; the input reads as it did. -/
def tintBytesSpec : ChangeSpec := { name := "tintBytes", fn := fun _ => fun
  | [d1, d2, d3] => { results := [.lit (.bool true)], args := [d1, d2, d3] }
  | _ => none }
def tintBytesRow : OpenClaim := { program := "ytdakpnfkcnnebaa", sum := "966f89d78951a2123098b1c265b7e35e6822102b984f4a713250abc49ffd1e21", func := "gobo/gobolaw1.TintBytes", spec := "tintBytes", inPlace := ["math.Float64frombits", "math.Float64bits"], unfollowed := true, recurses := true, apart := false }
def TintBytesSaid : Prop := tintBytesRow.holds Try.pinned (OpenSpec.ofChange tintBytesSpec)

/-- ITS FALSE NEIGHBOUR: 'it returns false'. Refute it at one input. -/
def tintBytesWrong : ChangeSpec := { name := "tintBytes", fn := fun _ => fun
  | [d1, d2, d3] => { results := [.lit (.bool false)], args := [d1, d2, d3] }
  | _ => none }
def TintBytesWrongFalsely : Prop := tintBytesRow.holds Try.pinned (OpenSpec.ofChange tintBytesWrong)

/-- 'gobolaw1.TintFits': WHATEVER THE INPUT: true; the input reads as it did. -/
def tintFitsSpec : ChangeSpec := { name := "tintFits", fn := fun _ => fun
  | [d] => { results := [.lit (.bool true)], args := [d] }
  | _ => none }
def tintFitsRow : OpenClaim := { program := "ytdakpnfkcnnebaa", sum := "966f89d78951a2123098b1c265b7e35e6822102b984f4a713250abc49ffd1e21", func := "gobo/gobolaw1.TintFits", spec := "tintFits", inPlace := ["math.Float64bits", "math.Float64frombits"], unfollowed := true, recurses := true, apart := false }
def TintFitsSaid : Prop := tintFitsRow.holds Try.pinned (OpenSpec.ofChange tintFitsSpec)

/-- ITS FALSE NEIGHBOUR: 'it returns false'. Refute it at one input. -/
def tintFitsWrong : ChangeSpec := { name := "tintFits", fn := fun _ => fun
  | [d] => { results := [.lit (.bool false)], args := [d] }
  | _ => none }
def TintFitsWrongFalsely : Prop := tintFitsRow.holds Try.pinned (OpenSpec.ofChange tintFitsWrong)

/-- 'gobolaw1.TintMixes': WHATEVER THE INPUT: true; the input reads as it did. -/
def tintMixesSpec : ChangeSpec := { name := "tintMixes", fn := fun _ => fun
  | [d1, d2, d3] => { results := [.lit (.bool true)], args := [d1, d2, d3] }
  | _ => none }
def tintMixesRow : OpenClaim := { program := "ytdakpnfkcnnebaa", sum := "966f89d78951a2123098b1c265b7e35e6822102b984f4a713250abc49ffd1e21", func := "gobo/gobolaw1.TintMixes", spec := "tintMixes", inPlace := ["math.Float64frombits", "math.Float64bits"], unfollowed := true, recurses := true, apart := false }
def TintMixesSaid : Prop := tintMixesRow.holds Try.pinned (OpenSpec.ofChange tintMixesSpec)

/-- ITS FALSE NEIGHBOUR: 'it returns false'. Refute it at one input. -/
def tintMixesWrong : ChangeSpec := { name := "tintMixes", fn := fun _ => fun
  | [d1, d2, d3] => { results := [.lit (.bool false)], args := [d1, d2, d3] }
  | _ => none }
def TintMixesWrongFalsely : Prop := tintMixesRow.holds Try.pinned (OpenSpec.ofChange tintMixesWrong)

/-- 'gobolaw2.ScrollSteps': WHATEVER THE INPUT: true; the input reads as it did. -/
def scrollStepsSpec : ChangeSpec := { name := "scrollSteps", fn := fun _ => fun
  | [d1, d2, d3] => { results := [.lit (.bool true)], args := [d1, d2, d3] }
  | _ => none }
def scrollStepsRow : OpenClaim := { program := "ytdakpnfkcnnebaa", sum := "966f89d78951a2123098b1c265b7e35e6822102b984f4a713250abc49ffd1e21", func := "gobo/gobolaw2.ScrollSteps", spec := "scrollSteps", inPlace := ["math.Float64frombits"], unfollowed := true, recurses := true, apart := false }
def ScrollStepsSaid : Prop := scrollStepsRow.holds Try.pinned (OpenSpec.ofChange scrollStepsSpec)

/-- ITS FALSE NEIGHBOUR: 'it returns false'. Refute it at one input. -/
def scrollStepsWrong : ChangeSpec := { name := "scrollSteps", fn := fun _ => fun
  | [d1, d2, d3] => { results := [.lit (.bool false)], args := [d1, d2, d3] }
  | _ => none }
def ScrollStepsWrongFalsely : Prop := scrollStepsRow.holds Try.pinned (OpenSpec.ofChange scrollStepsWrong)

/-- 'gobolaw1.TintEdges': WHATEVER THE INPUT: true; the input reads as it did. -/
def tintEdgesSpec : ChangeSpec := { name := "tintEdges", fn := fun _ => fun
  | [d] => { results := [.lit (.bool true)], args := [d] }
  | _ => none }
def tintEdgesRow : OpenClaim := { program := "ytdakpnfkcnnebaa", sum := "966f89d78951a2123098b1c265b7e35e6822102b984f4a713250abc49ffd1e21", func := "gobo/gobolaw1.TintEdges", spec := "tintEdges", inPlace := ["math.Float64frombits", "math.Float64bits"], unfollowed := true, recurses := true, apart := false }
def TintEdgesSaid : Prop := tintEdgesRow.holds Try.pinned (OpenSpec.ofChange tintEdgesSpec)

/-- ITS FALSE NEIGHBOUR: 'it returns false'. Refute it at one input. -/
def tintEdgesWrong : ChangeSpec := { name := "tintEdges", fn := fun _ => fun
  | [d] => { results := [.lit (.bool false)], args := [d] }
  | _ => none }
def TintEdgesWrongFalsely : Prop := tintEdgesRow.holds Try.pinned (OpenSpec.ofChange tintEdgesWrong)

/- THE SECOND FORM. 'bulk': how many values and letters a reading holds, each counted each time it is reached (what is shared counts as often as it is met; a slice's spare places count too). A statement '..UptoSaid' is the law's where the arguments, and the package variables that the reading takes, are together of bulk at most 1048576: NARROWER than '..Said'. Prove '..Said' where nothing that the law and all that it calls make is longer than what came in: it says more and counts as full. Else prove '..UptoSaid'. A law counts once. -/
mutual
def uptoBulk {H : Type} : DataW H → Nat
  | .lit (.string bytes) => bytes.length + 1
  | .lit _ => 1
  | .nil => 1
  | .ptr d => uptoBulk d + 1
  | .slice elems spare => uptoBulkAll elems + uptoBulkAll spare + 1
  | .agg parts => uptoBulkAll parts + 1
  | .iface _ d => uptoBulk d + 1
  | .map entries => uptoBulkEntries entries + 1
  | .held _ => 1
def uptoBulkAll {H : Type} : List (DataW H) → Nat
  | [] => 0
  | d :: r => uptoBulk d + uptoBulkAll r
def uptoBulkEntries {H : Type} : List (Lit × DataW H) → Nat
  | [] => 0
  | x :: r => uptoBulkEntry x + uptoBulkEntries r
def uptoBulkEntry {H : Type} : Lit × DataW H → Nat
  | (.string bytes, d) => bytes.length + uptoBulk d + 1
  | (_, d) => uptoBulk d + 1
 end
def uptoSmall : (H : Type) → List (DataW H) → Bool := fun _ ds => decide (uptoBulkAll ds ≤ 1048576)
def OpenSpec.upto (s : _root_.Go.ChangeSpec) : _root_.Go.OpenSpec := { _root_.Go.OpenSpec.ofChange s with cond := some uptoSmall }

/-- 'gobolaw2.ScrollBack', WHERE WHAT IT READS IS OF BULK AT MOST 1048576: true; the input reads as it did. -/
def scrollBackUptoRow : OpenClaim := { program := "ytdakpnfkcnnebaa", sum := "966f89d78951a2123098b1c265b7e35e6822102b984f4a713250abc49ffd1e21", func := "gobo/gobolaw2.ScrollBack", spec := "scrollBack", inPlace := ["math.Float64frombits"], unfollowed := true, recurses := true, apart := false, narrowed := true }
def ScrollBackUptoSaid : Prop := scrollBackUptoRow.holds Try.pinned (OpenSpec.upto scrollBackSpec)

/-- 'gobolaw2.ScrollWindows', WHERE WHAT IT READS IS OF BULK AT MOST 1048576: true; the input reads as it did. -/
def scrollWindowsUptoRow : OpenClaim := { program := "ytdakpnfkcnnebaa", sum := "966f89d78951a2123098b1c265b7e35e6822102b984f4a713250abc49ffd1e21", func := "gobo/gobolaw2.ScrollWindows", spec := "scrollWindows", inPlace := ["math.Float64frombits"], unfollowed := true, recurses := true, apart := false, narrowed := true }
def ScrollWindowsUptoSaid : Prop := scrollWindowsUptoRow.holds Try.pinned (OpenSpec.upto scrollWindowsSpec)

/-- 'gobolaw2.ScrollBars', WHERE WHAT IT READS IS OF BULK AT MOST 1048576: true; the input reads as it did. -/
def scrollBarsUptoRow : OpenClaim := { program := "ytdakpnfkcnnebaa", sum := "966f89d78951a2123098b1c265b7e35e6822102b984f4a713250abc49ffd1e21", func := "gobo/gobolaw2.ScrollBars", spec := "scrollBars", inPlace := ["math.Float64frombits"], unfollowed := true, recurses := true, apart := false, narrowed := true }
def ScrollBarsUptoSaid : Prop := scrollBarsUptoRow.holds Try.pinned (OpenSpec.upto scrollBarsSpec)

/-- 'gobolaw2.ScrollAsks', WHERE WHAT IT READS IS OF BULK AT MOST 1048576: true; the input reads as it did. -/
def scrollAsksUptoRow : OpenClaim := { program := "ytdakpnfkcnnebaa", sum := "966f89d78951a2123098b1c265b7e35e6822102b984f4a713250abc49ffd1e21", func := "gobo/gobolaw2.ScrollAsks", spec := "scrollAsks", inPlace := ["math.Float64frombits", "math.Float64bits"], unfollowed := true, recurses := true, apart := false, narrowed := true }
def ScrollAsksUptoSaid : Prop := scrollAsksUptoRow.holds Try.pinned (OpenSpec.upto scrollAsksSpec)

/-- 'gobolaw1.TintAsks', WHERE WHAT IT READS IS OF BULK AT MOST 1048576: true; the input reads as it did. -/
def tintAsksUptoRow : OpenClaim := { program := "ytdakpnfkcnnebaa", sum := "966f89d78951a2123098b1c265b7e35e6822102b984f4a713250abc49ffd1e21", func := "gobo/gobolaw1.TintAsks", spec := "tintAsks", inPlace := ["math.Float64frombits", "math.Float64bits"], unfollowed := true, recurses := true, apart := false, narrowed := true }
def TintAsksUptoSaid : Prop := tintAsksUptoRow.holds Try.pinned (OpenSpec.upto tintAsksSpec)

/-- 'gobolaw1.TintBytes', WHERE WHAT IT READS IS OF BULK AT MOST 1048576: true; the input reads as it did. -/
def tintBytesUptoRow : OpenClaim := { program := "ytdakpnfkcnnebaa", sum := "966f89d78951a2123098b1c265b7e35e6822102b984f4a713250abc49ffd1e21", func := "gobo/gobolaw1.TintBytes", spec := "tintBytes", inPlace := ["math.Float64frombits", "math.Float64bits"], unfollowed := true, recurses := true, apart := false, narrowed := true }
def TintBytesUptoSaid : Prop := tintBytesUptoRow.holds Try.pinned (OpenSpec.upto tintBytesSpec)

/-- 'gobolaw1.TintFits', WHERE WHAT IT READS IS OF BULK AT MOST 1048576: true; the input reads as it did. -/
def tintFitsUptoRow : OpenClaim := { program := "ytdakpnfkcnnebaa", sum := "966f89d78951a2123098b1c265b7e35e6822102b984f4a713250abc49ffd1e21", func := "gobo/gobolaw1.TintFits", spec := "tintFits", inPlace := ["math.Float64bits", "math.Float64frombits"], unfollowed := true, recurses := true, apart := false, narrowed := true }
def TintFitsUptoSaid : Prop := tintFitsUptoRow.holds Try.pinned (OpenSpec.upto tintFitsSpec)

/-- 'gobolaw1.TintMixes', WHERE WHAT IT READS IS OF BULK AT MOST 1048576: true; the input reads as it did. -/
def tintMixesUptoRow : OpenClaim := { program := "ytdakpnfkcnnebaa", sum := "966f89d78951a2123098b1c265b7e35e6822102b984f4a713250abc49ffd1e21", func := "gobo/gobolaw1.TintMixes", spec := "tintMixes", inPlace := ["math.Float64frombits", "math.Float64bits"], unfollowed := true, recurses := true, apart := false, narrowed := true }
def TintMixesUptoSaid : Prop := tintMixesUptoRow.holds Try.pinned (OpenSpec.upto tintMixesSpec)

/-- 'gobolaw2.ScrollSteps', WHERE WHAT IT READS IS OF BULK AT MOST 1048576: true; the input reads as it did. -/
def scrollStepsUptoRow : OpenClaim := { program := "ytdakpnfkcnnebaa", sum := "966f89d78951a2123098b1c265b7e35e6822102b984f4a713250abc49ffd1e21", func := "gobo/gobolaw2.ScrollSteps", spec := "scrollSteps", inPlace := ["math.Float64frombits"], unfollowed := true, recurses := true, apart := false, narrowed := true }
def ScrollStepsUptoSaid : Prop := scrollStepsUptoRow.holds Try.pinned (OpenSpec.upto scrollStepsSpec)

/-- 'gobolaw1.TintEdges', WHERE WHAT IT READS IS OF BULK AT MOST 1048576: true; the input reads as it did. -/
def tintEdgesUptoRow : OpenClaim := { program := "ytdakpnfkcnnebaa", sum := "966f89d78951a2123098b1c265b7e35e6822102b984f4a713250abc49ffd1e21", func := "gobo/gobolaw1.TintEdges", spec := "tintEdges", inPlace := ["math.Float64frombits", "math.Float64bits"], unfollowed := true, recurses := true, apart := false, narrowed := true }
def TintEdgesUptoSaid : Prop := tintEdgesUptoRow.holds Try.pinned (OpenSpec.upto tintEdgesSpec)

end Rows
end Go.Proofs.Ytdakpnfkcnnebaa
