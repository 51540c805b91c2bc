/-
  DERIVED. GIVEN WITH THE SEED: THE CARDS: each row of YtaokkliamoghbaaGreatDoorRows.lean that lists a variable, with what it lists TIED to the program's text (the seventh form; the later family's looks); each row that meets fmt, with fmt's text TOLD by the authors' own Lean function (tested against real Go, not proved from fmt's source: count such statements apart). THE CARD IS WHAT COUNTS. Prove the row's statement (the work); the ties are given (YtaokkliamoghbaaGreatDoorTie.lean); close each card by the builder's one call (the guide's Derived/Test/ToyasCard.lean, 'card_holds'). Laid BY PROGRAM, IN A SANDBOX (cutbox-door.mjs). By AI agents, Wed Nov 11 2026. No macro, syntax, notation, axiom, sorry.
-/
import Derived.Test.YtaokkliamoghbaaGreatDoorRows
import GoSem.ClaimSeven
namespace Go.Proofs.YtaokkliamoghbaaGreatDoor
namespace Rows

/-- THE TIED CARD OF 'gobolaw18.DetCaps'. -/
def detCapsCard : Claim7 := { stood := { row := detCapsRow, standIns := [], harness := (true, "ce78578496a792a270a1d4a9804aebce354f7e3a3041e1b09809ff3c9de75f64"), looks := true }, kinds := [], alts := [], laidByText := true, laidKinds := [.data, .data, .data, .widerDeep], laidTests := true, laidLooks := .later }
def DetCapsCardSaid : Prop := Claim7.holds Tryz.pinned (.plain (OpenSpec.ofChange detCapsSpec)) detCapsCard

/-- THE TIED CARD OF 'gobolaw18.DetSinks'. -/
def detSinksCard : Claim7 := { stood := { row := detSinksRow, standIns := [], harness := (true, "ce78578496a792a270a1d4a9804aebce354f7e3a3041e1b09809ff3c9de75f64"), looks := true }, kinds := [], alts := [], laidByText := true, laidKinds := [.data, .data, .data, .widerDeep], laidTests := true, laidLooks := .later }
def DetSinksCardSaid : Prop := Claim7.holds Tryz.pinned (.plain (OpenSpec.ofChange detSinksSpec)) detSinksCard

/-- THE TIED CARD OF 'gobolaw19.MergeMeans'. -/
def mergeMeansCard : Claim7 := { stood := { row := mergeMeansRow, standIns := [], harness := (true, "ce78578496a792a270a1d4a9804aebce354f7e3a3041e1b09809ff3c9de75f64"), looks := true }, kinds := [], alts := [], laidByText := true, laidKinds := [.data, .data, .data, .widerDeep], laidTests := true, laidLooks := .later }
def MergeMeansCardSaid : Prop := Claim7.holds Tryz.pinned (.plain (OpenSpec.ofChange mergeMeansSpec)) mergeMeansCard

/-- THE TIED CARD OF 'gobolaw19.MergeLeast'. -/
def mergeLeastCard : Claim7 := { stood := { row := mergeLeastRow, standIns := [], harness := (true, "ce78578496a792a270a1d4a9804aebce354f7e3a3041e1b09809ff3c9de75f64"), looks := true }, kinds := [], alts := [], laidByText := true, laidKinds := [.data, .data, .data, .widerDeep], laidTests := true, laidLooks := .later }
def MergeLeastCardSaid : Prop := Claim7.holds Tryz.pinned (.plain (OpenSpec.ofChange mergeLeastSpec)) mergeLeastCard

/-- THE TIED CARD OF 'gobolaw19.MergeOnto'. -/
def mergeOntoCard : Claim7 := { stood := { row := mergeOntoRow, standIns := [], harness := (true, "ce78578496a792a270a1d4a9804aebce354f7e3a3041e1b09809ff3c9de75f64"), looks := true }, kinds := [], alts := [], laidByText := true, laidKinds := [.data, .data, .data, .widerDeep], laidTests := true, laidLooks := .later }
def MergeOntoCardSaid : Prop := Claim7.holds Tryz.pinned (.plain (OpenSpec.ofChange mergeOntoSpec)) mergeOntoCard

/-- THE TIED CARD OF 'gobolaw20.DriverSaves'. -/
def driverSavesCard : Claim7 := { stood := { row := driverSavesRow, standIns := [], harness := (true, "ce78578496a792a270a1d4a9804aebce354f7e3a3041e1b09809ff3c9de75f64"), looks := true }, kinds := [], alts := [], laidByText := true, laidKinds := [.data, .data, .data, .widerDeep], laidTests := true, laidLooks := .later }
def DriverSavesCardSaid : Prop := Claim7.holds Tryz.pinned (.plain (OpenSpec.ofChange driverSavesSpec)) driverSavesCard

/-- THE TIED CARD OF 'gobolaw20.DriverDeep'. -/
def driverDeepCard : Claim7 := { stood := { row := driverDeepRow, standIns := [], harness := (true, "ce78578496a792a270a1d4a9804aebce354f7e3a3041e1b09809ff3c9de75f64"), looks := true }, kinds := [], alts := [], laidByText := true, laidKinds := [.data, .data, .data, .widerDeep], laidTests := true, laidLooks := .later }
def DriverDeepCardSaid : Prop := Claim7.holds Tryz.pinned (.plain (OpenSpec.ofChange driverDeepSpec)) driverDeepCard

/-- THE SECOND FORM's CARD OF 'gobolaw18.DetCaps'. -/
def detCapsUptoCard : Claim7 := { stood := { row := detCapsUptoRow, standIns := [], harness := (true, "ce78578496a792a270a1d4a9804aebce354f7e3a3041e1b09809ff3c9de75f64"), looks := true }, kinds := [], alts := [], laidByText := true, laidKinds := [.data, .data, .data, .widerDeep], laidTests := true, laidLooks := .later }
def DetCapsUptoCardSaid : Prop := Claim7.holds Tryz.pinned (.plain (OpenSpec.upto detCapsSpec)) detCapsUptoCard

/-- THE SECOND FORM's CARD OF 'gobolaw18.DetSinks'. -/
def detSinksUptoCard : Claim7 := { stood := { row := detSinksUptoRow, standIns := [], harness := (true, "ce78578496a792a270a1d4a9804aebce354f7e3a3041e1b09809ff3c9de75f64"), looks := true }, kinds := [], alts := [], laidByText := true, laidKinds := [.data, .data, .data, .widerDeep], laidTests := true, laidLooks := .later }
def DetSinksUptoCardSaid : Prop := Claim7.holds Tryz.pinned (.plain (OpenSpec.upto detSinksSpec)) detSinksUptoCard

/-- THE SECOND FORM's CARD OF 'gobolaw19.MergeMeans'. -/
def mergeMeansUptoCard : Claim7 := { stood := { row := mergeMeansUptoRow, standIns := [], harness := (true, "ce78578496a792a270a1d4a9804aebce354f7e3a3041e1b09809ff3c9de75f64"), looks := true }, kinds := [], alts := [], laidByText := true, laidKinds := [.data, .data, .data, .widerDeep], laidTests := true, laidLooks := .later }
def MergeMeansUptoCardSaid : Prop := Claim7.holds Tryz.pinned (.plain (OpenSpec.upto mergeMeansSpec)) mergeMeansUptoCard

/-- THE SECOND FORM's CARD OF 'gobolaw19.MergeLeast'. -/
def mergeLeastUptoCard : Claim7 := { stood := { row := mergeLeastUptoRow, standIns := [], harness := (true, "ce78578496a792a270a1d4a9804aebce354f7e3a3041e1b09809ff3c9de75f64"), looks := true }, kinds := [], alts := [], laidByText := true, laidKinds := [.data, .data, .data, .widerDeep], laidTests := true, laidLooks := .later }
def MergeLeastUptoCardSaid : Prop := Claim7.holds Tryz.pinned (.plain (OpenSpec.upto mergeLeastSpec)) mergeLeastUptoCard

/-- THE SECOND FORM's CARD OF 'gobolaw19.MergeOnto'. -/
def mergeOntoUptoCard : Claim7 := { stood := { row := mergeOntoUptoRow, standIns := [], harness := (true, "ce78578496a792a270a1d4a9804aebce354f7e3a3041e1b09809ff3c9de75f64"), looks := true }, kinds := [], alts := [], laidByText := true, laidKinds := [.data, .data, .data, .widerDeep], laidTests := true, laidLooks := .later }
def MergeOntoUptoCardSaid : Prop := Claim7.holds Tryz.pinned (.plain (OpenSpec.upto mergeOntoSpec)) mergeOntoUptoCard

/-- THE SECOND FORM's CARD OF 'gobolaw20.DriverSaves'. -/
def driverSavesUptoCard : Claim7 := { stood := { row := driverSavesUptoRow, standIns := [], harness := (true, "ce78578496a792a270a1d4a9804aebce354f7e3a3041e1b09809ff3c9de75f64"), looks := true }, kinds := [], alts := [], laidByText := true, laidKinds := [.data, .data, .data, .widerDeep], laidTests := true, laidLooks := .later }
def DriverSavesUptoCardSaid : Prop := Claim7.holds Tryz.pinned (.plain (OpenSpec.upto driverSavesSpec)) driverSavesUptoCard

/-- THE SECOND FORM's CARD OF 'gobolaw20.DriverDeep'. -/
def driverDeepUptoCard : Claim7 := { stood := { row := driverDeepUptoRow, standIns := [], harness := (true, "ce78578496a792a270a1d4a9804aebce354f7e3a3041e1b09809ff3c9de75f64"), looks := true }, kinds := [], alts := [], laidByText := true, laidKinds := [.data, .data, .data, .widerDeep], laidTests := true, laidLooks := .later }
def DriverDeepUptoCardSaid : Prop := Claim7.holds Tryz.pinned (.plain (OpenSpec.upto driverDeepSpec)) driverDeepUptoCard
end Rows
end Go.Proofs.YtaokkliamoghbaaGreatDoor
