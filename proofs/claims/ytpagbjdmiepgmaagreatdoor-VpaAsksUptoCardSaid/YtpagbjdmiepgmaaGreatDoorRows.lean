/-
  NARROWER THAN 'FOR EVERY INPUT', by the rows' own cells (each row's printed sentence says how): VpaAsks: laid · VpaTables: laid · VpaWide: laid · VpaMeans: laid.
  DERIVED. THE GIVEN ROWS OF THIS SEAT. 4 by the template 'for every input the law returns true; each argument reads behind the call as it read before'; 0 by the template 'total and deterministic' (their statements: YtpagbjdmiepgmaaGreatDoorTotals.lean).
  GIVEN WITH THE SEED: the statements are not yours to turn. If you find one false, say at which input.
  Laid BY PROGRAM, IN A SANDBOX (cutbox-rows.mjs): the forced cells as the released guide's own fill.sh prints them over the translation c30ad981ebd64049… (all of the seat's roots in one cut). By AI agents, Wed Nov 11 2026. No macro, syntax, notation, axiom, sorry.
-/
import Derived.Test.YtpagbjdmiepgmaaGreatDoorChecked
import GoSem.Claim
import GoSem.ClaimJoined
import GoSem.ClaimMapViews
import Derived.JoinedTies
import Derived.KernelRfl
namespace Go.Proofs.YtpagbjdmiepgmaaGreatDoor
/- THE CELL 'sum', in the pinned program and in every row, IS THE sha256 OF THE DUMP (.gsa) THAT YtpagbjdmiepgmaaGreatDoorProg.lean LOADS. Nothing in Lean hashes anything: it is a label: what it is worth is what the hold of that sum in a sandbox is worth. -/
noncomputable def Tryz.pinned : Pinned := { name := "ytpagbjdmiepgmaagreatdoor", sum := "c30ad981ebd6404957c0b005eae8ebc0fe65d55a510f0c32462f953f5231ce17", checked := Tryz.checked }
namespace Rows
def none {H : Type} : Left H := { results := [], args := [] }

/- WHAT THE LISTED PACKAGE-LEVEL VARIABLES READ AS WHEN THE CALL BEGINS. Each datum BY PROGRAM (the guide's laid-datum.mjs) off the statement by which the dump's own 'gosem.cut.vars' lays the variable. In a bare row this is a premise. The card (YtpagbjdmiepgmaaGreatDoorCards.lean) ties it to the program's text. -/
def laid_gobo_gram_own {H : Type} : DataW H := .agg [.lit (.string [116, 111, 107]), .lit (.string [114, 117, 108, 101]), .lit (.string [105, 110, 116]), .lit (.string [99, 97, 108, 108]), .lit (.string [114, 101, 116]), .lit (.string [102, 114, 101, 101])]

/-- 'gobolaw17.VpaAsks': WHATEVER THE INPUT: true; the input reads as it did. -/
def vpaAsksSpec : ChangeSpec := { name := "vpaAsks", fn := fun _ => fun
  | [d1, d2, d3, d4] => { results := [.lit (.bool true)], args := [d1, d2, d3, d4] }
  | _ => none }
def vpaAsksRow : OpenClaim := { program := "ytpagbjdmiepgmaagreatdoor", sum := "c30ad981ebd6404957c0b005eae8ebc0fe65d55a510f0c32462f953f5231ce17", func := "gobo/gobolaw17.VpaAsks", spec := "vpaAsks", unfollowed := true, recurses := true, named := ["gobo/gram.own"], apart := false, laid := [("gobo/gram.own", laid_gobo_gram_own)] }
def VpaAsksSaid : Prop := vpaAsksRow.holds Tryz.pinned (OpenSpec.ofChange vpaAsksSpec)

/-- ITS FALSE NEIGHBOUR: 'it returns false'. Refute it at one input. -/
def vpaAsksWrong : ChangeSpec := { name := "vpaAsks", fn := fun _ => fun
  | [d1, d2, d3, d4] => { results := [.lit (.bool false)], args := [d1, d2, d3, d4] }
  | _ => none }
def VpaAsksWrongFalsely : Prop := vpaAsksRow.holds Tryz.pinned (OpenSpec.ofChange vpaAsksWrong)

/-- 'gobolaw17.VpaTables': WHATEVER THE INPUT: true; the input reads as it did. -/
def vpaTablesSpec : ChangeSpec := { name := "vpaTables", fn := fun _ => fun
  | [d] => { results := [.lit (.bool true)], args := [d] }
  | _ => none }
def vpaTablesRow : OpenClaim := { program := "ytpagbjdmiepgmaagreatdoor", sum := "c30ad981ebd6404957c0b005eae8ebc0fe65d55a510f0c32462f953f5231ce17", func := "gobo/gobolaw17.VpaTables", spec := "vpaTables", unfollowed := true, recurses := true, named := ["gobo/gram.own"], apart := false, laid := [("gobo/gram.own", laid_gobo_gram_own)] }
def VpaTablesSaid : Prop := vpaTablesRow.holds Tryz.pinned (OpenSpec.ofChange vpaTablesSpec)

/-- ITS FALSE NEIGHBOUR: 'it returns false'. Refute it at one input. -/
def vpaTablesWrong : ChangeSpec := { name := "vpaTables", fn := fun _ => fun
  | [d] => { results := [.lit (.bool false)], args := [d] }
  | _ => none }
def VpaTablesWrongFalsely : Prop := vpaTablesRow.holds Tryz.pinned (OpenSpec.ofChange vpaTablesWrong)

/-- 'gobolaw17.VpaWide': WHATEVER THE INPUT: true; the input reads as it did. -/
def vpaWideSpec : ChangeSpec := { name := "vpaWide", fn := fun _ => fun
  | [d] => { results := [.lit (.bool true)], args := [d] }
  | _ => none }
def vpaWideRow : OpenClaim := { program := "ytpagbjdmiepgmaagreatdoor", sum := "c30ad981ebd6404957c0b005eae8ebc0fe65d55a510f0c32462f953f5231ce17", func := "gobo/gobolaw17.VpaWide", spec := "vpaWide", unfollowed := true, recurses := true, named := ["gobo/gram.own"], apart := false, laid := [("gobo/gram.own", laid_gobo_gram_own)] }
def VpaWideSaid : Prop := vpaWideRow.holds Tryz.pinned (OpenSpec.ofChange vpaWideSpec)

/-- ITS FALSE NEIGHBOUR: 'it returns false'. Refute it at one input. -/
def vpaWideWrong : ChangeSpec := { name := "vpaWide", fn := fun _ => fun
  | [d] => { results := [.lit (.bool false)], args := [d] }
  | _ => none }
def VpaWideWrongFalsely : Prop := vpaWideRow.holds Tryz.pinned (OpenSpec.ofChange vpaWideWrong)

/-- 'gobolaw17.VpaMeans': WHATEVER THE INPUT: true; the input reads as it did. -/
def vpaMeansSpec : ChangeSpec := { name := "vpaMeans", fn := fun _ => fun
  | [d1, d2] => { results := [.lit (.bool true)], args := [d1, d2] }
  | _ => none }
def vpaMeansRow : OpenClaim := { program := "ytpagbjdmiepgmaagreatdoor", sum := "c30ad981ebd6404957c0b005eae8ebc0fe65d55a510f0c32462f953f5231ce17", func := "gobo/gobolaw17.VpaMeans", spec := "vpaMeans", unfollowed := true, recurses := true, named := ["gobo/gram.own"], apart := false, laid := [("gobo/gram.own", laid_gobo_gram_own)] }
def VpaMeansSaid : Prop := vpaMeansRow.holds Tryz.pinned (OpenSpec.ofChange vpaMeansSpec)

/-- ITS FALSE NEIGHBOUR: 'it returns false'. Refute it at one input. -/
def vpaMeansWrong : ChangeSpec := { name := "vpaMeans", fn := fun _ => fun
  | [d1, d2] => { results := [.lit (.bool false)], args := [d1, d2] }
  | _ => none }
def VpaMeansWrongFalsely : Prop := vpaMeansRow.holds Tryz.pinned (OpenSpec.ofChange vpaMeansWrong)

/- THE SECOND FORM. 'bulk': how many values and letters a reading holds, each counted each time it is reached (what is shared counts as often as it is met; a slice's spare places count too). A statement '..UptoSaid' is the law's where the arguments, and the package variables that the reading takes, are together of bulk at most 1048576: NARROWER than '..Said'. Prove '..Said' where nothing that the law and all that it calls make is longer than what came in: it says more and counts as full. Else prove '..UptoSaid'. A law counts once. -/
mutual
def uptoBulk {H : Type} : DataW H → Nat
  | .lit (.string bytes) => bytes.length + 1
  | .lit _ => 1
  | .nil => 1
  | .ptr d => uptoBulk d + 1
  | .slice elems spare => uptoBulkAll elems + uptoBulkAll spare + 1
  | .agg parts => uptoBulkAll parts + 1
  | .iface _ d => uptoBulk d + 1
  | .map entries => uptoBulkEntries entries + 1
  | .held _ => 1
def uptoBulkAll {H : Type} : List (DataW H) → Nat
  | [] => 0
  | d :: r => uptoBulk d + uptoBulkAll r
def uptoBulkEntries {H : Type} : List (Lit × DataW H) → Nat
  | [] => 0
  | x :: r => uptoBulkEntry x + uptoBulkEntries r
def uptoBulkEntry {H : Type} : Lit × DataW H → Nat
  | (.string bytes, d) => bytes.length + uptoBulk d + 1
  | (_, d) => uptoBulk d + 1
 end
def uptoSmall : (H : Type) → List (DataW H) → Bool := fun _ ds => decide (uptoBulkAll ds ≤ 1048576)
def OpenSpec.upto (s : _root_.Go.ChangeSpec) : _root_.Go.OpenSpec := { _root_.Go.OpenSpec.ofChange s with cond := some uptoSmall }

/-- 'gobolaw17.VpaAsks', WHERE WHAT IT READS IS OF BULK AT MOST 1048576: true; the input reads as it did. -/
def vpaAsksUptoRow : OpenClaim := { program := "ytpagbjdmiepgmaagreatdoor", sum := "c30ad981ebd6404957c0b005eae8ebc0fe65d55a510f0c32462f953f5231ce17", func := "gobo/gobolaw17.VpaAsks", spec := "vpaAsks", unfollowed := true, recurses := true, named := ["gobo/gram.own"], apart := false, laid := [("gobo/gram.own", laid_gobo_gram_own)], narrowed := true }
def VpaAsksUptoSaid : Prop := vpaAsksUptoRow.holds Tryz.pinned (OpenSpec.upto vpaAsksSpec)

/-- 'gobolaw17.VpaTables', WHERE WHAT IT READS IS OF BULK AT MOST 1048576: true; the input reads as it did. -/
def vpaTablesUptoRow : OpenClaim := { program := "ytpagbjdmiepgmaagreatdoor", sum := "c30ad981ebd6404957c0b005eae8ebc0fe65d55a510f0c32462f953f5231ce17", func := "gobo/gobolaw17.VpaTables", spec := "vpaTables", unfollowed := true, recurses := true, named := ["gobo/gram.own"], apart := false, laid := [("gobo/gram.own", laid_gobo_gram_own)], narrowed := true }
def VpaTablesUptoSaid : Prop := vpaTablesUptoRow.holds Tryz.pinned (OpenSpec.upto vpaTablesSpec)

/-- 'gobolaw17.VpaWide', WHERE WHAT IT READS IS OF BULK AT MOST 1048576: true; the input reads as it did. -/
def vpaWideUptoRow : OpenClaim := { program := "ytpagbjdmiepgmaagreatdoor", sum := "c30ad981ebd6404957c0b005eae8ebc0fe65d55a510f0c32462f953f5231ce17", func := "gobo/gobolaw17.VpaWide", spec := "vpaWide", unfollowed := true, recurses := true, named := ["gobo/gram.own"], apart := false, laid := [("gobo/gram.own", laid_gobo_gram_own)], narrowed := true }
def VpaWideUptoSaid : Prop := vpaWideUptoRow.holds Tryz.pinned (OpenSpec.upto vpaWideSpec)

/-- 'gobolaw17.VpaMeans', WHERE WHAT IT READS IS OF BULK AT MOST 1048576: true; the input reads as it did. -/
def vpaMeansUptoRow : OpenClaim := { program := "ytpagbjdmiepgmaagreatdoor", sum := "c30ad981ebd6404957c0b005eae8ebc0fe65d55a510f0c32462f953f5231ce17", func := "gobo/gobolaw17.VpaMeans", spec := "vpaMeans", unfollowed := true, recurses := true, named := ["gobo/gram.own"], apart := false, laid := [("gobo/gram.own", laid_gobo_gram_own)], narrowed := true }
def VpaMeansUptoSaid : Prop := vpaMeansUptoRow.holds Tryz.pinned (OpenSpec.upto vpaMeansSpec)

end Rows
end Go.Proofs.YtpagbjdmiepgmaaGreatDoor
