/-
  DERIVED. GIVEN WITH THE SEED: THE CARDS: each row of YtpagbjdmiepgmaaGreatDoorRows.lean that lists a variable, with what it lists TIED to the program's text (the seventh form; the later family's looks); each row that meets fmt, with fmt's text TOLD by the authors' own Lean function (tested against real Go, not proved from fmt's source: count such statements apart). THE CARD IS WHAT COUNTS. Prove the row's statement (the work); the ties are given (YtpagbjdmiepgmaaGreatDoorTie.lean); close each card by the builder's one call (the guide's Derived/Test/ToyasCard.lean, 'card_holds'). Laid BY PROGRAM, IN A SANDBOX (cutbox-door.mjs). By AI agents, Wed Nov 11 2026. No macro, syntax, notation, axiom, sorry.
-/
import Derived.Test.YtpagbjdmiepgmaaGreatDoorRows
import GoSem.ClaimSeven
namespace Go.Proofs.YtpagbjdmiepgmaaGreatDoor
namespace Rows

/-- THE TIED CARD OF 'gobolaw17.VpaAsks'. -/
def vpaAsksCard : Claim7 := { stood := { row := vpaAsksRow, standIns := [], harness := (true, "c37baf24619a12427bc63996737708525c47c2abfe03745a23a4e4594797e82f"), looks := true }, kinds := [], alts := [], laidByText := true, laidKinds := [.widerDeep], laidTests := true, laidLooks := .later }
def VpaAsksCardSaid : Prop := Claim7.holds Tryz.pinned (.plain (OpenSpec.ofChange vpaAsksSpec)) vpaAsksCard

/-- THE TIED CARD OF 'gobolaw17.VpaTables'. -/
def vpaTablesCard : Claim7 := { stood := { row := vpaTablesRow, standIns := [], harness := (true, "c37baf24619a12427bc63996737708525c47c2abfe03745a23a4e4594797e82f"), looks := true }, kinds := [], alts := [], laidByText := true, laidKinds := [.widerDeep], laidTests := true, laidLooks := .later }
def VpaTablesCardSaid : Prop := Claim7.holds Tryz.pinned (.plain (OpenSpec.ofChange vpaTablesSpec)) vpaTablesCard

/-- THE TIED CARD OF 'gobolaw17.VpaWide'. -/
def vpaWideCard : Claim7 := { stood := { row := vpaWideRow, standIns := [], harness := (true, "c37baf24619a12427bc63996737708525c47c2abfe03745a23a4e4594797e82f"), looks := true }, kinds := [], alts := [], laidByText := true, laidKinds := [.widerDeep], laidTests := true, laidLooks := .later }
def VpaWideCardSaid : Prop := Claim7.holds Tryz.pinned (.plain (OpenSpec.ofChange vpaWideSpec)) vpaWideCard

/-- THE TIED CARD OF 'gobolaw17.VpaMeans'. -/
def vpaMeansCard : Claim7 := { stood := { row := vpaMeansRow, standIns := [], harness := (true, "c37baf24619a12427bc63996737708525c47c2abfe03745a23a4e4594797e82f"), looks := true }, kinds := [], alts := [], laidByText := true, laidKinds := [.widerDeep], laidTests := true, laidLooks := .later }
def VpaMeansCardSaid : Prop := Claim7.holds Tryz.pinned (.plain (OpenSpec.ofChange vpaMeansSpec)) vpaMeansCard

/-- THE SECOND FORM's CARD OF 'gobolaw17.VpaAsks'. -/
def vpaAsksUptoCard : Claim7 := { stood := { row := vpaAsksUptoRow, standIns := [], harness := (true, "c37baf24619a12427bc63996737708525c47c2abfe03745a23a4e4594797e82f"), looks := true }, kinds := [], alts := [], laidByText := true, laidKinds := [.widerDeep], laidTests := true, laidLooks := .later }
def VpaAsksUptoCardSaid : Prop := Claim7.holds Tryz.pinned (.plain (OpenSpec.upto vpaAsksSpec)) vpaAsksUptoCard

/-- THE SECOND FORM's CARD OF 'gobolaw17.VpaTables'. -/
def vpaTablesUptoCard : Claim7 := { stood := { row := vpaTablesUptoRow, standIns := [], harness := (true, "c37baf24619a12427bc63996737708525c47c2abfe03745a23a4e4594797e82f"), looks := true }, kinds := [], alts := [], laidByText := true, laidKinds := [.widerDeep], laidTests := true, laidLooks := .later }
def VpaTablesUptoCardSaid : Prop := Claim7.holds Tryz.pinned (.plain (OpenSpec.upto vpaTablesSpec)) vpaTablesUptoCard

/-- THE SECOND FORM's CARD OF 'gobolaw17.VpaWide'. -/
def vpaWideUptoCard : Claim7 := { stood := { row := vpaWideUptoRow, standIns := [], harness := (true, "c37baf24619a12427bc63996737708525c47c2abfe03745a23a4e4594797e82f"), looks := true }, kinds := [], alts := [], laidByText := true, laidKinds := [.widerDeep], laidTests := true, laidLooks := .later }
def VpaWideUptoCardSaid : Prop := Claim7.holds Tryz.pinned (.plain (OpenSpec.upto vpaWideSpec)) vpaWideUptoCard

/-- THE SECOND FORM's CARD OF 'gobolaw17.VpaMeans'. -/
def vpaMeansUptoCard : Claim7 := { stood := { row := vpaMeansUptoRow, standIns := [], harness := (true, "c37baf24619a12427bc63996737708525c47c2abfe03745a23a4e4594797e82f"), looks := true }, kinds := [], alts := [], laidByText := true, laidKinds := [.widerDeep], laidTests := true, laidLooks := .later }
def VpaMeansUptoCardSaid : Prop := Claim7.holds Tryz.pinned (.plain (OpenSpec.upto vpaMeansSpec)) vpaMeansUptoCard
end Rows
end Go.Proofs.YtpagbjdmiepgmaaGreatDoor
