/-
  No cell of these rows narrows 'for every input' (looked for: loops, veiled, ifaces, maps, wideKeys, modest, calm, conditions, laid).
  DERIVED. THE GIVEN ROWS OF THIS SEAT. 6 by the template 'for every input the law returns true; each argument reads behind the call as it read before'; 0 by the template 'total and deterministic' (their statements: YtkbhdlcphiljlaaTotals.lean).
  GIVEN WITH THE SEED: the statements are not yours to turn. If you find one false, say at which input.
  Laid BY PROGRAM, IN A SANDBOX (cutbox-rows.mjs): the forced cells as the released guide's own fill.sh prints them over the translation a39b95f6e31b9499… (all of the seat's roots in one cut). By AI agents, Wed Nov 11 2026. No macro, syntax, notation, axiom, sorry.
-/
import Derived.Test.YtkbhdlcphiljlaaChecked
import GoSem.Claim
import GoSem.ClaimJoined
import GoSem.ClaimMapViews
import Derived.JoinedTies
import Derived.KernelRfl
namespace Go.Proofs.Ytkbhdlcphiljlaa
/- THE CELL 'sum', in the pinned program and in every row, IS THE sha256 OF THE DUMP (.gsa) THAT YtkbhdlcphiljlaaProg.lean LOADS. Nothing in Lean hashes anything: it is a label: what it is worth is what the hold of that sum in a sandbox is worth. -/
noncomputable def Try.pinned : Pinned := { name := "ytkbhdlcphiljlaa", sum := "a39b95f6e31b94990f618a169ef243071dffe6ad6101f27b59b2248192d36f3f", checked := Try.checked }
namespace Rows
def none {H : Type} : Left H := { results := [], args := [] }

/-- 'gobolaw15.ForestDeep': WHATEVER THE INPUT: true; the input reads as it did. -/
def forestDeepSpec : ChangeSpec := { name := "forestDeep", fn := fun _ => fun
  | [d1, d2] => { results := [.lit (.bool true)], args := [d1, d2] }
  | _ => none }
def forestDeepRow : OpenClaim := { program := "ytkbhdlcphiljlaa", sum := "a39b95f6e31b94990f618a169ef243071dffe6ad6101f27b59b2248192d36f3f", func := "gobo/gobolaw15.ForestDeep", spec := "forestDeep", unfollowed := true, recurses := true, apart := false }
def ForestDeepSaid : Prop := forestDeepRow.holds Try.pinned (OpenSpec.ofChange forestDeepSpec)

/-- ITS FALSE NEIGHBOUR: 'it returns false'. Refute it at one input. -/
def forestDeepWrong : ChangeSpec := { name := "forestDeep", fn := fun _ => fun
  | [d1, d2] => { results := [.lit (.bool false)], args := [d1, d2] }
  | _ => none }
def ForestDeepWrongFalsely : Prop := forestDeepRow.holds Try.pinned (OpenSpec.ofChange forestDeepWrong)

/-- 'gobolaw15.ForestAsks': WHATEVER THE INPUT: true; the input reads as it did. -/
def forestAsksSpec : ChangeSpec := { name := "forestAsks", fn := fun _ => fun
  | [d] => { results := [.lit (.bool true)], args := [d] }
  | _ => none }
def forestAsksRow : OpenClaim := { program := "ytkbhdlcphiljlaa", sum := "a39b95f6e31b94990f618a169ef243071dffe6ad6101f27b59b2248192d36f3f", func := "gobo/gobolaw15.ForestAsks", spec := "forestAsks", unfollowed := true, recurses := true, apart := false }
def ForestAsksSaid : Prop := forestAsksRow.holds Try.pinned (OpenSpec.ofChange forestAsksSpec)

/-- ITS FALSE NEIGHBOUR: 'it returns false'. Refute it at one input. -/
def forestAsksWrong : ChangeSpec := { name := "forestAsks", fn := fun _ => fun
  | [d] => { results := [.lit (.bool false)], args := [d] }
  | _ => none }
def ForestAsksWrongFalsely : Prop := forestAsksRow.holds Try.pinned (OpenSpec.ofChange forestAsksWrong)

/-- 'gobolaw15.ForestPairs': WHATEVER THE INPUT: true; the input reads as it did. -/
def forestPairsSpec : ChangeSpec := { name := "forestPairs", fn := fun _ => fun
  | [d] => { results := [.lit (.bool true)], args := [d] }
  | _ => none }
def forestPairsRow : OpenClaim := { program := "ytkbhdlcphiljlaa", sum := "a39b95f6e31b94990f618a169ef243071dffe6ad6101f27b59b2248192d36f3f", func := "gobo/gobolaw15.ForestPairs", spec := "forestPairs", unfollowed := true, recurses := true, apart := false }
def ForestPairsSaid : Prop := forestPairsRow.holds Try.pinned (OpenSpec.ofChange forestPairsSpec)

/-- ITS FALSE NEIGHBOUR: 'it returns false'. Refute it at one input. -/
def forestPairsWrong : ChangeSpec := { name := "forestPairs", fn := fun _ => fun
  | [d] => { results := [.lit (.bool false)], args := [d] }
  | _ => none }
def ForestPairsWrongFalsely : Prop := forestPairsRow.holds Try.pinned (OpenSpec.ofChange forestPairsWrong)

/-- 'gobolaw15.ForestFronts': WHATEVER THE INPUT: true; the input reads as it did. -/
def forestFrontsSpec : ChangeSpec := { name := "forestFronts", fn := fun _ => fun
  | [d1, d2] => { results := [.lit (.bool true)], args := [d1, d2] }
  | _ => none }
def forestFrontsRow : OpenClaim := { program := "ytkbhdlcphiljlaa", sum := "a39b95f6e31b94990f618a169ef243071dffe6ad6101f27b59b2248192d36f3f", func := "gobo/gobolaw15.ForestFronts", spec := "forestFronts", unfollowed := true, recurses := true, apart := false }
def ForestFrontsSaid : Prop := forestFrontsRow.holds Try.pinned (OpenSpec.ofChange forestFrontsSpec)

/-- ITS FALSE NEIGHBOUR: 'it returns false'. Refute it at one input. -/
def forestFrontsWrong : ChangeSpec := { name := "forestFronts", fn := fun _ => fun
  | [d1, d2] => { results := [.lit (.bool false)], args := [d1, d2] }
  | _ => none }
def ForestFrontsWrongFalsely : Prop := forestFrontsRow.holds Try.pinned (OpenSpec.ofChange forestFrontsWrong)

/-- 'gobolaw15.ForestWraps': WHATEVER THE INPUT: true; the input reads as it did. -/
def forestWrapsSpec : ChangeSpec := { name := "forestWraps", fn := fun _ => fun
  | [d] => { results := [.lit (.bool true)], args := [d] }
  | _ => none }
def forestWrapsRow : OpenClaim := { program := "ytkbhdlcphiljlaa", sum := "a39b95f6e31b94990f618a169ef243071dffe6ad6101f27b59b2248192d36f3f", func := "gobo/gobolaw15.ForestWraps", spec := "forestWraps", unfollowed := true, recurses := true, apart := false }
def ForestWrapsSaid : Prop := forestWrapsRow.holds Try.pinned (OpenSpec.ofChange forestWrapsSpec)

/-- ITS FALSE NEIGHBOUR: 'it returns false'. Refute it at one input. -/
def forestWrapsWrong : ChangeSpec := { name := "forestWraps", fn := fun _ => fun
  | [d] => { results := [.lit (.bool false)], args := [d] }
  | _ => none }
def ForestWrapsWrongFalsely : Prop := forestWrapsRow.holds Try.pinned (OpenSpec.ofChange forestWrapsWrong)

/-- 'gobolaw15.ForestMirrors': WHATEVER THE INPUT: true; the input reads as it did. -/
def forestMirrorsSpec : ChangeSpec := { name := "forestMirrors", fn := fun _ => fun
  | [d] => { results := [.lit (.bool true)], args := [d] }
  | _ => none }
def forestMirrorsRow : OpenClaim := { program := "ytkbhdlcphiljlaa", sum := "a39b95f6e31b94990f618a169ef243071dffe6ad6101f27b59b2248192d36f3f", func := "gobo/gobolaw15.ForestMirrors", spec := "forestMirrors", unfollowed := true, recurses := true, apart := false }
def ForestMirrorsSaid : Prop := forestMirrorsRow.holds Try.pinned (OpenSpec.ofChange forestMirrorsSpec)

/-- ITS FALSE NEIGHBOUR: 'it returns false'. Refute it at one input. -/
def forestMirrorsWrong : ChangeSpec := { name := "forestMirrors", fn := fun _ => fun
  | [d] => { results := [.lit (.bool false)], args := [d] }
  | _ => none }
def ForestMirrorsWrongFalsely : Prop := forestMirrorsRow.holds Try.pinned (OpenSpec.ofChange forestMirrorsWrong)

/- THE SECOND FORM. 'bulk': how many values and letters a reading holds, each counted each time it is reached (what is shared counts as often as it is met; a slice's spare places count too). A statement '..UptoSaid' is the law's where the arguments, and the package variables that the reading takes, are together of bulk at most 1048576: NARROWER than '..Said'. Prove '..Said' where nothing that the law and all that it calls make is longer than what came in: it says more and counts as full. Else prove '..UptoSaid'. A law counts once. -/
mutual
def uptoBulk {H : Type} : DataW H → Nat
  | .lit (.string bytes) => bytes.length + 1
  | .lit _ => 1
  | .nil => 1
  | .ptr d => uptoBulk d + 1
  | .slice elems spare => uptoBulkAll elems + uptoBulkAll spare + 1
  | .agg parts => uptoBulkAll parts + 1
  | .iface _ d => uptoBulk d + 1
  | .map entries => uptoBulkEntries entries + 1
  | .held _ => 1
def uptoBulkAll {H : Type} : List (DataW H) → Nat
  | [] => 0
  | d :: r => uptoBulk d + uptoBulkAll r
def uptoBulkEntries {H : Type} : List (Lit × DataW H) → Nat
  | [] => 0
  | x :: r => uptoBulkEntry x + uptoBulkEntries r
def uptoBulkEntry {H : Type} : Lit × DataW H → Nat
  | (.string bytes, d) => bytes.length + uptoBulk d + 1
  | (_, d) => uptoBulk d + 1
 end
def uptoSmall : (H : Type) → List (DataW H) → Bool := fun _ ds => decide (uptoBulkAll ds ≤ 1048576)
def OpenSpec.upto (s : _root_.Go.ChangeSpec) : _root_.Go.OpenSpec := { _root_.Go.OpenSpec.ofChange s with cond := some uptoSmall }

/-- 'gobolaw15.ForestDeep', WHERE WHAT IT READS IS OF BULK AT MOST 1048576: true; the input reads as it did. -/
def forestDeepUptoRow : OpenClaim := { program := "ytkbhdlcphiljlaa", sum := "a39b95f6e31b94990f618a169ef243071dffe6ad6101f27b59b2248192d36f3f", func := "gobo/gobolaw15.ForestDeep", spec := "forestDeep", unfollowed := true, recurses := true, apart := false, narrowed := true }
def ForestDeepUptoSaid : Prop := forestDeepUptoRow.holds Try.pinned (OpenSpec.upto forestDeepSpec)

/-- 'gobolaw15.ForestAsks', WHERE WHAT IT READS IS OF BULK AT MOST 1048576: true; the input reads as it did. -/
def forestAsksUptoRow : OpenClaim := { program := "ytkbhdlcphiljlaa", sum := "a39b95f6e31b94990f618a169ef243071dffe6ad6101f27b59b2248192d36f3f", func := "gobo/gobolaw15.ForestAsks", spec := "forestAsks", unfollowed := true, recurses := true, apart := false, narrowed := true }
def ForestAsksUptoSaid : Prop := forestAsksUptoRow.holds Try.pinned (OpenSpec.upto forestAsksSpec)

/-- 'gobolaw15.ForestPairs', WHERE WHAT IT READS IS OF BULK AT MOST 1048576: true; the input reads as it did. -/
def forestPairsUptoRow : OpenClaim := { program := "ytkbhdlcphiljlaa", sum := "a39b95f6e31b94990f618a169ef243071dffe6ad6101f27b59b2248192d36f3f", func := "gobo/gobolaw15.ForestPairs", spec := "forestPairs", unfollowed := true, recurses := true, apart := false, narrowed := true }
def ForestPairsUptoSaid : Prop := forestPairsUptoRow.holds Try.pinned (OpenSpec.upto forestPairsSpec)

/-- 'gobolaw15.ForestFronts', WHERE WHAT IT READS IS OF BULK AT MOST 1048576: true; the input reads as it did. -/
def forestFrontsUptoRow : OpenClaim := { program := "ytkbhdlcphiljlaa", sum := "a39b95f6e31b94990f618a169ef243071dffe6ad6101f27b59b2248192d36f3f", func := "gobo/gobolaw15.ForestFronts", spec := "forestFronts", unfollowed := true, recurses := true, apart := false, narrowed := true }
def ForestFrontsUptoSaid : Prop := forestFrontsUptoRow.holds Try.pinned (OpenSpec.upto forestFrontsSpec)

/-- 'gobolaw15.ForestWraps', WHERE WHAT IT READS IS OF BULK AT MOST 1048576: true; the input reads as it did. -/
def forestWrapsUptoRow : OpenClaim := { program := "ytkbhdlcphiljlaa", sum := "a39b95f6e31b94990f618a169ef243071dffe6ad6101f27b59b2248192d36f3f", func := "gobo/gobolaw15.ForestWraps", spec := "forestWraps", unfollowed := true, recurses := true, apart := false, narrowed := true }
def ForestWrapsUptoSaid : Prop := forestWrapsUptoRow.holds Try.pinned (OpenSpec.upto forestWrapsSpec)

/-- 'gobolaw15.ForestMirrors', WHERE WHAT IT READS IS OF BULK AT MOST 1048576: true; the input reads as it did. -/
def forestMirrorsUptoRow : OpenClaim := { program := "ytkbhdlcphiljlaa", sum := "a39b95f6e31b94990f618a169ef243071dffe6ad6101f27b59b2248192d36f3f", func := "gobo/gobolaw15.ForestMirrors", spec := "forestMirrors", unfollowed := true, recurses := true, apart := false, narrowed := true }
def ForestMirrorsUptoSaid : Prop := forestMirrorsUptoRow.holds Try.pinned (OpenSpec.upto forestMirrorsSpec)

end Rows
end Go.Proofs.Ytkbhdlcphiljlaa
