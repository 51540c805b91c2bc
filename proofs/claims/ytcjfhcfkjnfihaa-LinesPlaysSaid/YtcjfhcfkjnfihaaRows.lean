/-
  No cell of these rows narrows 'for every input' (looked for: loops, veiled, ifaces, maps, wideKeys, modest, calm, conditions, laid).
  DERIVED. THE GIVEN ROWS OF THIS SEAT. 4 by the template 'for every input the law returns true; each argument reads behind the call as it read before'; 0 by the template 'total and deterministic' (their statements: YtcjfhcfkjnfihaaTotals.lean).
  GIVEN WITH THE SEED: the statements are not yours to turn. If you find one false, say at which input.
  Laid BY PROGRAM, IN A SANDBOX (cutbox-rows.mjs): the forced cells as the released guide's own fill.sh prints them over the translation dc9bf495bbe33c64… (all of the seat's roots in one cut). By AI agents, Wed Nov 11 2026. No macro, syntax, notation, axiom, sorry.
-/
import Derived.Test.YtcjfhcfkjnfihaaChecked
import GoSem.Claim
import GoSem.ClaimJoined
import GoSem.ClaimMapViews
import Derived.JoinedTies
import Derived.KernelRfl
namespace Go.Proofs.Ytcjfhcfkjnfihaa
/- THE CELL 'sum', in the pinned program and in every row, IS THE sha256 OF THE DUMP (.gsa) THAT YtcjfhcfkjnfihaaProg.lean LOADS. Nothing in Lean hashes anything: it is a label: what it is worth is what the hold of that sum in a sandbox is worth. -/
noncomputable def Try.pinned : Pinned := { name := "ytcjfhcfkjnfihaa", sum := "dc9bf495bbe33c64d4fb692f9dea66df8cdd8532e22e2e898dc7b9bc72e9e637", checked := Try.checked }
namespace Rows
def none {H : Type} : Left H := { results := [], args := [] }

/-- 'gobolaw4.LinesAsks': WHATEVER THE INPUT: true; the input reads as it did. -/
def linesAsksSpec : ChangeSpec := { name := "linesAsks", fn := fun _ => fun
  | [d1, d2, d3, d4] => { results := [.lit (.bool true)], args := [d1, d2, d3, d4] }
  | _ => none }
def linesAsksRow : OpenClaim := { program := "ytcjfhcfkjnfihaa", sum := "dc9bf495bbe33c64d4fb692f9dea66df8cdd8532e22e2e898dc7b9bc72e9e637", func := "gobo/gobolaw4.LinesAsks", spec := "linesAsks", unfollowed := true, recurses := true, apart := false }
def LinesAsksSaid : Prop := linesAsksRow.holds Try.pinned (OpenSpec.ofChange linesAsksSpec)

/-- ITS FALSE NEIGHBOUR: 'it returns false'. Refute it at one input. -/
def linesAsksWrong : ChangeSpec := { name := "linesAsks", fn := fun _ => fun
  | [d1, d2, d3, d4] => { results := [.lit (.bool false)], args := [d1, d2, d3, d4] }
  | _ => none }
def LinesAsksWrongFalsely : Prop := linesAsksRow.holds Try.pinned (OpenSpec.ofChange linesAsksWrong)

/-- 'gobolaw4.LinesPlays': WHATEVER THE INPUT: true; the input reads as it did. -/
def linesPlaysSpec : ChangeSpec := { name := "linesPlays", fn := fun _ => fun
  | [d] => { results := [.lit (.bool true)], args := [d] }
  | _ => none }
def linesPlaysRow : OpenClaim := { program := "ytcjfhcfkjnfihaa", sum := "dc9bf495bbe33c64d4fb692f9dea66df8cdd8532e22e2e898dc7b9bc72e9e637", func := "gobo/gobolaw4.LinesPlays", spec := "linesPlays", unfollowed := true, recurses := true, apart := false }
def LinesPlaysSaid : Prop := linesPlaysRow.holds Try.pinned (OpenSpec.ofChange linesPlaysSpec)

/-- ITS FALSE NEIGHBOUR: 'it returns false'. Refute it at one input. -/
def linesPlaysWrong : ChangeSpec := { name := "linesPlays", fn := fun _ => fun
  | [d] => { results := [.lit (.bool false)], args := [d] }
  | _ => none }
def LinesPlaysWrongFalsely : Prop := linesPlaysRow.holds Try.pinned (OpenSpec.ofChange linesPlaysWrong)

/-- 'gobolaw4.LinesFinds': WHATEVER THE INPUT: true; the input reads as it did. -/
def linesFindsSpec : ChangeSpec := { name := "linesFinds", fn := fun _ => fun
  | [d1, d2] => { results := [.lit (.bool true)], args := [d1, d2] }
  | _ => none }
def linesFindsRow : OpenClaim := { program := "ytcjfhcfkjnfihaa", sum := "dc9bf495bbe33c64d4fb692f9dea66df8cdd8532e22e2e898dc7b9bc72e9e637", func := "gobo/gobolaw4.LinesFinds", spec := "linesFinds", unfollowed := true, recurses := true, apart := false }
def LinesFindsSaid : Prop := linesFindsRow.holds Try.pinned (OpenSpec.ofChange linesFindsSpec)

/-- ITS FALSE NEIGHBOUR: 'it returns false'. Refute it at one input. -/
def linesFindsWrong : ChangeSpec := { name := "linesFinds", fn := fun _ => fun
  | [d1, d2] => { results := [.lit (.bool false)], args := [d1, d2] }
  | _ => none }
def LinesFindsWrongFalsely : Prop := linesFindsRow.holds Try.pinned (OpenSpec.ofChange linesFindsWrong)

/-- 'gobolaw4.LinesBack': WHATEVER THE INPUT: true; the input reads as it did. -/
def linesBackSpec : ChangeSpec := { name := "linesBack", fn := fun _ => fun
  | [d1, d2, d3] => { results := [.lit (.bool true)], args := [d1, d2, d3] }
  | _ => none }
def linesBackRow : OpenClaim := { program := "ytcjfhcfkjnfihaa", sum := "dc9bf495bbe33c64d4fb692f9dea66df8cdd8532e22e2e898dc7b9bc72e9e637", func := "gobo/gobolaw4.LinesBack", spec := "linesBack", unfollowed := true, recurses := true, apart := false }
def LinesBackSaid : Prop := linesBackRow.holds Try.pinned (OpenSpec.ofChange linesBackSpec)

/-- ITS FALSE NEIGHBOUR: 'it returns false'. Refute it at one input. -/
def linesBackWrong : ChangeSpec := { name := "linesBack", fn := fun _ => fun
  | [d1, d2, d3] => { results := [.lit (.bool false)], args := [d1, d2, d3] }
  | _ => none }
def LinesBackWrongFalsely : Prop := linesBackRow.holds Try.pinned (OpenSpec.ofChange linesBackWrong)

/- THE SECOND FORM. 'bulk': how many values and letters a reading holds, each counted each time it is reached (what is shared counts as often as it is met; a slice's spare places count too). A statement '..UptoSaid' is the law's where the arguments, and the package variables that the reading takes, are together of bulk at most 1048576: NARROWER than '..Said'. Prove '..Said' where nothing that the law and all that it calls make is longer than what came in: it says more and counts as full. Else prove '..UptoSaid'. A law counts once. -/
mutual
def uptoBulk {H : Type} : DataW H → Nat
  | .lit (.string bytes) => bytes.length + 1
  | .lit _ => 1
  | .nil => 1
  | .ptr d => uptoBulk d + 1
  | .slice elems spare => uptoBulkAll elems + uptoBulkAll spare + 1
  | .agg parts => uptoBulkAll parts + 1
  | .iface _ d => uptoBulk d + 1
  | .map entries => uptoBulkEntries entries + 1
  | .held _ => 1
def uptoBulkAll {H : Type} : List (DataW H) → Nat
  | [] => 0
  | d :: r => uptoBulk d + uptoBulkAll r
def uptoBulkEntries {H : Type} : List (Lit × DataW H) → Nat
  | [] => 0
  | x :: r => uptoBulkEntry x + uptoBulkEntries r
def uptoBulkEntry {H : Type} : Lit × DataW H → Nat
  | (.string bytes, d) => bytes.length + uptoBulk d + 1
  | (_, d) => uptoBulk d + 1
 end
def uptoSmall : (H : Type) → List (DataW H) → Bool := fun _ ds => decide (uptoBulkAll ds ≤ 1048576)
def OpenSpec.upto (s : _root_.Go.ChangeSpec) : _root_.Go.OpenSpec := { _root_.Go.OpenSpec.ofChange s with cond := some uptoSmall }

/-- 'gobolaw4.LinesAsks', WHERE WHAT IT READS IS OF BULK AT MOST 1048576: true; the input reads as it did. -/
def linesAsksUptoRow : OpenClaim := { program := "ytcjfhcfkjnfihaa", sum := "dc9bf495bbe33c64d4fb692f9dea66df8cdd8532e22e2e898dc7b9bc72e9e637", func := "gobo/gobolaw4.LinesAsks", spec := "linesAsks", unfollowed := true, recurses := true, apart := false, narrowed := true }
def LinesAsksUptoSaid : Prop := linesAsksUptoRow.holds Try.pinned (OpenSpec.upto linesAsksSpec)

/-- 'gobolaw4.LinesPlays', WHERE WHAT IT READS IS OF BULK AT MOST 1048576: true; the input reads as it did. -/
def linesPlaysUptoRow : OpenClaim := { program := "ytcjfhcfkjnfihaa", sum := "dc9bf495bbe33c64d4fb692f9dea66df8cdd8532e22e2e898dc7b9bc72e9e637", func := "gobo/gobolaw4.LinesPlays", spec := "linesPlays", unfollowed := true, recurses := true, apart := false, narrowed := true }
def LinesPlaysUptoSaid : Prop := linesPlaysUptoRow.holds Try.pinned (OpenSpec.upto linesPlaysSpec)

/-- 'gobolaw4.LinesFinds', WHERE WHAT IT READS IS OF BULK AT MOST 1048576: true; the input reads as it did. -/
def linesFindsUptoRow : OpenClaim := { program := "ytcjfhcfkjnfihaa", sum := "dc9bf495bbe33c64d4fb692f9dea66df8cdd8532e22e2e898dc7b9bc72e9e637", func := "gobo/gobolaw4.LinesFinds", spec := "linesFinds", unfollowed := true, recurses := true, apart := false, narrowed := true }
def LinesFindsUptoSaid : Prop := linesFindsUptoRow.holds Try.pinned (OpenSpec.upto linesFindsSpec)

/-- 'gobolaw4.LinesBack', WHERE WHAT IT READS IS OF BULK AT MOST 1048576: true; the input reads as it did. -/
def linesBackUptoRow : OpenClaim := { program := "ytcjfhcfkjnfihaa", sum := "dc9bf495bbe33c64d4fb692f9dea66df8cdd8532e22e2e898dc7b9bc72e9e637", func := "gobo/gobolaw4.LinesBack", spec := "linesBack", unfollowed := true, recurses := true, apart := false, narrowed := true }
def LinesBackUptoSaid : Prop := linesBackUptoRow.holds Try.pinned (OpenSpec.upto linesBackSpec)

end Rows
end Go.Proofs.Ytcjfhcfkjnfihaa
