/-
  NARROWER THAN 'FOR EVERY INPUT', by the rows' own cells (each row's printed sentence says how): DetCaps: laid · DetSinks: laid · MergeMeans: laid · MergeLeast: laid · MergeOnto: laid · DriverSaves: laid · DriverDeep: laid.
  DERIVED. THE GIVEN ROWS OF THIS SEAT. 7 by the template 'for every input the law returns true; each argument reads behind the call as it read before'; 0 by the template 'total and deterministic' (their statements: YtaokkliamoghbaaGreatDoorTotals.lean).
  GIVEN WITH THE SEED: the statements are not yours to turn. If you find one false, say at which input.
  Laid BY PROGRAM, IN A SANDBOX (cutbox-rows.mjs): the forced cells as the released guide's own fill.sh prints them over the translation 4affe2ff3cc46fe0… (all of the seat's roots in one cut). By AI agents, Wed Nov 11 2026. No macro, syntax, notation, axiom, sorry.
-/
import Derived.Test.YtaokkliamoghbaaGreatDoorChecked
import GoSem.Claim
import GoSem.ClaimJoined
import GoSem.ClaimMapViews
import Derived.JoinedTies
import Derived.KernelRfl
namespace Go.Proofs.YtaokkliamoghbaaGreatDoor
/- THE CELL 'sum', in the pinned program and in every row, IS THE sha256 OF THE DUMP (.gsa) THAT YtaokkliamoghbaaGreatDoorProg.lean LOADS. Nothing in Lean hashes anything: it is a label: what it is worth is what the hold of that sum in a sandbox is worth. -/
noncomputable def Tryz.pinned : Pinned := { name := "ytaokkliamoghbaagreatdoor", sum := "4affe2ff3cc46fe0db4272e02182059fc11e05eca3e30c01cdb2b6acb8f426b7", checked := Tryz.checked }
namespace Rows
def none {H : Type} : Left H := { results := [], args := [] }

/- WHAT THE LISTED PACKAGE-LEVEL VARIABLES READ AS WHEN THE CALL BEGINS. Each datum BY PROGRAM (the guide's laid-datum.mjs) off the statement by which the dump's own 'gosem.cut.vars' lays the variable. In a bare row this is a premise. The card (YtaokkliamoghbaaGreatDoorCards.lean) ties it to the program's text. -/
def laid_math_bits_deBruijn32tab {H : Type} : DataW H := .agg [.lit (.int .u8 0), .lit (.int .u8 1), .lit (.int .u8 28), .lit (.int .u8 2), .lit (.int .u8 29), .lit (.int .u8 14), .lit (.int .u8 24), .lit (.int .u8 3), .lit (.int .u8 30), .lit (.int .u8 22), .lit (.int .u8 20), .lit (.int .u8 15), .lit (.int .u8 25), .lit (.int .u8 17), .lit (.int .u8 4), .lit (.int .u8 8), .lit (.int .u8 31), .lit (.int .u8 27), .lit (.int .u8 13), .lit (.int .u8 23), .lit (.int .u8 21), .lit (.int .u8 19), .lit (.int .u8 16), .lit (.int .u8 7), .lit (.int .u8 26), .lit (.int .u8 12), .lit (.int .u8 18), .lit (.int .u8 6), .lit (.int .u8 11), .lit (.int .u8 5), .lit (.int .u8 10), .lit (.int .u8 9)]
def laid_math_bits_deBruijn64tab {H : Type} : DataW H := .agg [.lit (.int .u8 0), .lit (.int .u8 1), .lit (.int .u8 56), .lit (.int .u8 2), .lit (.int .u8 57), .lit (.int .u8 49), .lit (.int .u8 28), .lit (.int .u8 3), .lit (.int .u8 61), .lit (.int .u8 58), .lit (.int .u8 42), .lit (.int .u8 50), .lit (.int .u8 38), .lit (.int .u8 29), .lit (.int .u8 17), .lit (.int .u8 4), .lit (.int .u8 62), .lit (.int .u8 47), .lit (.int .u8 59), .lit (.int .u8 36), .lit (.int .u8 45), .lit (.int .u8 43), .lit (.int .u8 51), .lit (.int .u8 22), .lit (.int .u8 53), .lit (.int .u8 39), .lit (.int .u8 33), .lit (.int .u8 30), .lit (.int .u8 24), .lit (.int .u8 18), .lit (.int .u8 12), .lit (.int .u8 5), .lit (.int .u8 63), .lit (.int .u8 55), .lit (.int .u8 48), .lit (.int .u8 27), .lit (.int .u8 60), .lit (.int .u8 41), .lit (.int .u8 37), .lit (.int .u8 16), .lit (.int .u8 46), .lit (.int .u8 35), .lit (.int .u8 44), .lit (.int .u8 21), .lit (.int .u8 52), .lit (.int .u8 32), .lit (.int .u8 23), .lit (.int .u8 11), .lit (.int .u8 54), .lit (.int .u8 26), .lit (.int .u8 40), .lit (.int .u8 15), .lit (.int .u8 34), .lit (.int .u8 20), .lit (.int .u8 31), .lit (.int .u8 10), .lit (.int .u8 25), .lit (.int .u8 14), .lit (.int .u8 19), .lit (.int .u8 9), .lit (.int .u8 13), .lit (.int .u8 8), .lit (.int .u8 7), .lit (.int .u8 6)]
def laid_internal_strconv_uint64pow10 {H : Type} : DataW H := .agg [.lit (.int .u64 1), .lit (.int .u64 10), .lit (.int .u64 100), .lit (.int .u64 1000), .lit (.int .u64 10000), .lit (.int .u64 100000), .lit (.int .u64 1000000), .lit (.int .u64 10000000), .lit (.int .u64 100000000), .lit (.int .u64 1000000000), .lit (.int .u64 10000000000), .lit (.int .u64 100000000000), .lit (.int .u64 1000000000000), .lit (.int .u64 10000000000000), .lit (.int .u64 100000000000000), .lit (.int .u64 1000000000000000), .lit (.int .u64 10000000000000000), .lit (.int .u64 100000000000000000), .lit (.int .u64 1000000000000000000), .lit (.int .u64 10000000000000000000)]
def laid_gobo_gram_own {H : Type} : DataW H := .agg [.lit (.string [116, 111, 107]), .lit (.string [114, 117, 108, 101]), .lit (.string [105, 110, 116]), .lit (.string [99, 97, 108, 108]), .lit (.string [114, 101, 116]), .lit (.string [102, 114, 101, 101])]

/-- 'gobolaw18.DetCaps': WHATEVER THE INPUT: true; the input reads as it did. -/
def detCapsSpec : ChangeSpec := { name := "detCaps", fn := fun _ => fun
  | [d1, d2, d3] => { results := [.lit (.bool true)], args := [d1, d2, d3] }
  | _ => none }
def detCapsRow : OpenClaim := { program := "ytaokkliamoghbaagreatdoor", sum := "4affe2ff3cc46fe0db4272e02182059fc11e05eca3e30c01cdb2b6acb8f426b7", func := "gobo/gobolaw18.DetCaps", spec := "detCaps", unfollowed := true, recurses := true, named := ["gobo/gram.own", "internal/strconv.uint64pow10", "math/bits.deBruijn32tab", "math/bits.deBruijn64tab"], plainKeys := false, apart := false, laid := [("math/bits.deBruijn32tab", laid_math_bits_deBruijn32tab), ("math/bits.deBruijn64tab", laid_math_bits_deBruijn64tab), ("internal/strconv.uint64pow10", laid_internal_strconv_uint64pow10), ("gobo/gram.own", laid_gobo_gram_own)] }
def DetCapsSaid : Prop := detCapsRow.holds Tryz.pinned (OpenSpec.ofChange detCapsSpec)

/-- ITS FALSE NEIGHBOUR: 'it returns false'. Refute it at one input. -/
def detCapsWrong : ChangeSpec := { name := "detCaps", fn := fun _ => fun
  | [d1, d2, d3] => { results := [.lit (.bool false)], args := [d1, d2, d3] }
  | _ => none }
def DetCapsWrongFalsely : Prop := detCapsRow.holds Tryz.pinned (OpenSpec.ofChange detCapsWrong)

/-- 'gobolaw18.DetSinks': WHATEVER THE INPUT: true; the input reads as it did. -/
def detSinksSpec : ChangeSpec := { name := "detSinks", fn := fun _ => fun
  | [d] => { results := [.lit (.bool true)], args := [d] }
  | _ => none }
def detSinksRow : OpenClaim := { program := "ytaokkliamoghbaagreatdoor", sum := "4affe2ff3cc46fe0db4272e02182059fc11e05eca3e30c01cdb2b6acb8f426b7", func := "gobo/gobolaw18.DetSinks", spec := "detSinks", unfollowed := true, recurses := true, named := ["gobo/gram.own", "internal/strconv.uint64pow10", "math/bits.deBruijn32tab", "math/bits.deBruijn64tab"], plainKeys := false, apart := false, laid := [("math/bits.deBruijn32tab", laid_math_bits_deBruijn32tab), ("math/bits.deBruijn64tab", laid_math_bits_deBruijn64tab), ("internal/strconv.uint64pow10", laid_internal_strconv_uint64pow10), ("gobo/gram.own", laid_gobo_gram_own)] }
def DetSinksSaid : Prop := detSinksRow.holds Tryz.pinned (OpenSpec.ofChange detSinksSpec)

/-- ITS FALSE NEIGHBOUR: 'it returns false'. Refute it at one input. -/
def detSinksWrong : ChangeSpec := { name := "detSinks", fn := fun _ => fun
  | [d] => { results := [.lit (.bool false)], args := [d] }
  | _ => none }
def DetSinksWrongFalsely : Prop := detSinksRow.holds Tryz.pinned (OpenSpec.ofChange detSinksWrong)

/-- 'gobolaw19.MergeMeans': WHATEVER THE INPUT: true; the input reads as it did. -/
def mergeMeansSpec : ChangeSpec := { name := "mergeMeans", fn := fun _ => fun
  | [d1, d2] => { results := [.lit (.bool true)], args := [d1, d2] }
  | _ => none }
def mergeMeansRow : OpenClaim := { program := "ytaokkliamoghbaagreatdoor", sum := "4affe2ff3cc46fe0db4272e02182059fc11e05eca3e30c01cdb2b6acb8f426b7", func := "gobo/gobolaw19.MergeMeans", spec := "mergeMeans", unfollowed := true, recurses := true, named := ["gobo/gram.own", "internal/strconv.uint64pow10", "math/bits.deBruijn32tab", "math/bits.deBruijn64tab"], plainKeys := false, apart := false, laid := [("math/bits.deBruijn32tab", laid_math_bits_deBruijn32tab), ("math/bits.deBruijn64tab", laid_math_bits_deBruijn64tab), ("internal/strconv.uint64pow10", laid_internal_strconv_uint64pow10), ("gobo/gram.own", laid_gobo_gram_own)] }
def MergeMeansSaid : Prop := mergeMeansRow.holds Tryz.pinned (OpenSpec.ofChange mergeMeansSpec)

/-- ITS FALSE NEIGHBOUR: 'it returns false'. Refute it at one input. -/
def mergeMeansWrong : ChangeSpec := { name := "mergeMeans", fn := fun _ => fun
  | [d1, d2] => { results := [.lit (.bool false)], args := [d1, d2] }
  | _ => none }
def MergeMeansWrongFalsely : Prop := mergeMeansRow.holds Tryz.pinned (OpenSpec.ofChange mergeMeansWrong)

/-- 'gobolaw19.MergeLeast': WHATEVER THE INPUT: true; the input reads as it did. -/
def mergeLeastSpec : ChangeSpec := { name := "mergeLeast", fn := fun _ => fun
  | [d1, d2, d3] => { results := [.lit (.bool true)], args := [d1, d2, d3] }
  | _ => none }
def mergeLeastRow : OpenClaim := { program := "ytaokkliamoghbaagreatdoor", sum := "4affe2ff3cc46fe0db4272e02182059fc11e05eca3e30c01cdb2b6acb8f426b7", func := "gobo/gobolaw19.MergeLeast", spec := "mergeLeast", unfollowed := true, recurses := true, named := ["gobo/gram.own", "internal/strconv.uint64pow10", "math/bits.deBruijn32tab", "math/bits.deBruijn64tab"], plainKeys := false, apart := false, laid := [("math/bits.deBruijn32tab", laid_math_bits_deBruijn32tab), ("math/bits.deBruijn64tab", laid_math_bits_deBruijn64tab), ("internal/strconv.uint64pow10", laid_internal_strconv_uint64pow10), ("gobo/gram.own", laid_gobo_gram_own)] }
def MergeLeastSaid : Prop := mergeLeastRow.holds Tryz.pinned (OpenSpec.ofChange mergeLeastSpec)

/-- ITS FALSE NEIGHBOUR: 'it returns false'. Refute it at one input. -/
def mergeLeastWrong : ChangeSpec := { name := "mergeLeast", fn := fun _ => fun
  | [d1, d2, d3] => { results := [.lit (.bool false)], args := [d1, d2, d3] }
  | _ => none }
def MergeLeastWrongFalsely : Prop := mergeLeastRow.holds Tryz.pinned (OpenSpec.ofChange mergeLeastWrong)

/-- 'gobolaw19.MergeOnto': WHATEVER THE INPUT: true; the input reads as it did. -/
def mergeOntoSpec : ChangeSpec := { name := "mergeOnto", fn := fun _ => fun
  | [d] => { results := [.lit (.bool true)], args := [d] }
  | _ => none }
def mergeOntoRow : OpenClaim := { program := "ytaokkliamoghbaagreatdoor", sum := "4affe2ff3cc46fe0db4272e02182059fc11e05eca3e30c01cdb2b6acb8f426b7", func := "gobo/gobolaw19.MergeOnto", spec := "mergeOnto", unfollowed := true, recurses := true, named := ["gobo/gram.own", "internal/strconv.uint64pow10", "math/bits.deBruijn32tab", "math/bits.deBruijn64tab"], plainKeys := false, apart := false, laid := [("math/bits.deBruijn32tab", laid_math_bits_deBruijn32tab), ("math/bits.deBruijn64tab", laid_math_bits_deBruijn64tab), ("internal/strconv.uint64pow10", laid_internal_strconv_uint64pow10), ("gobo/gram.own", laid_gobo_gram_own)] }
def MergeOntoSaid : Prop := mergeOntoRow.holds Tryz.pinned (OpenSpec.ofChange mergeOntoSpec)

/-- ITS FALSE NEIGHBOUR: 'it returns false'. Refute it at one input. -/
def mergeOntoWrong : ChangeSpec := { name := "mergeOnto", fn := fun _ => fun
  | [d] => { results := [.lit (.bool false)], args := [d] }
  | _ => none }
def MergeOntoWrongFalsely : Prop := mergeOntoRow.holds Tryz.pinned (OpenSpec.ofChange mergeOntoWrong)

/-- 'gobolaw20.DriverSaves': WHATEVER THE INPUT: true; the input reads as it did. -/
def driverSavesSpec : ChangeSpec := { name := "driverSaves", fn := fun _ => fun
  | [d1, d2, d3, d4] => { results := [.lit (.bool true)], args := [d1, d2, d3, d4] }
  | _ => none }
def driverSavesRow : OpenClaim := { program := "ytaokkliamoghbaagreatdoor", sum := "4affe2ff3cc46fe0db4272e02182059fc11e05eca3e30c01cdb2b6acb8f426b7", func := "gobo/gobolaw20.DriverSaves", spec := "driverSaves", unfollowed := true, recurses := true, named := ["gobo/gram.own", "internal/strconv.uint64pow10", "math/bits.deBruijn32tab", "math/bits.deBruijn64tab"], plainKeys := false, apart := false, laid := [("math/bits.deBruijn32tab", laid_math_bits_deBruijn32tab), ("math/bits.deBruijn64tab", laid_math_bits_deBruijn64tab), ("internal/strconv.uint64pow10", laid_internal_strconv_uint64pow10), ("gobo/gram.own", laid_gobo_gram_own)] }
def DriverSavesSaid : Prop := driverSavesRow.holds Tryz.pinned (OpenSpec.ofChange driverSavesSpec)

/-- ITS FALSE NEIGHBOUR: 'it returns false'. Refute it at one input. -/
def driverSavesWrong : ChangeSpec := { name := "driverSaves", fn := fun _ => fun
  | [d1, d2, d3, d4] => { results := [.lit (.bool false)], args := [d1, d2, d3, d4] }
  | _ => none }
def DriverSavesWrongFalsely : Prop := driverSavesRow.holds Tryz.pinned (OpenSpec.ofChange driverSavesWrong)

/-- 'gobolaw20.DriverDeep': WHATEVER THE INPUT: true; the input reads as it did. -/
def driverDeepSpec : ChangeSpec := { name := "driverDeep", fn := fun _ => fun
  | [d1, d2, d3] => { results := [.lit (.bool true)], args := [d1, d2, d3] }
  | _ => none }
def driverDeepRow : OpenClaim := { program := "ytaokkliamoghbaagreatdoor", sum := "4affe2ff3cc46fe0db4272e02182059fc11e05eca3e30c01cdb2b6acb8f426b7", func := "gobo/gobolaw20.DriverDeep", spec := "driverDeep", unfollowed := true, recurses := true, named := ["gobo/gram.own", "internal/strconv.uint64pow10", "math/bits.deBruijn32tab", "math/bits.deBruijn64tab"], plainKeys := false, apart := false, laid := [("math/bits.deBruijn32tab", laid_math_bits_deBruijn32tab), ("math/bits.deBruijn64tab", laid_math_bits_deBruijn64tab), ("internal/strconv.uint64pow10", laid_internal_strconv_uint64pow10), ("gobo/gram.own", laid_gobo_gram_own)] }
def DriverDeepSaid : Prop := driverDeepRow.holds Tryz.pinned (OpenSpec.ofChange driverDeepSpec)

/-- ITS FALSE NEIGHBOUR: 'it returns false'. Refute it at one input. -/
def driverDeepWrong : ChangeSpec := { name := "driverDeep", fn := fun _ => fun
  | [d1, d2, d3] => { results := [.lit (.bool false)], args := [d1, d2, d3] }
  | _ => none }
def DriverDeepWrongFalsely : Prop := driverDeepRow.holds Tryz.pinned (OpenSpec.ofChange driverDeepWrong)

/- THE SECOND FORM. 'bulk': how many values and letters a reading holds, each counted each time it is reached (what is shared counts as often as it is met; a slice's spare places count too). A statement '..UptoSaid' is the law's where the arguments, and the package variables that the reading takes, are together of bulk at most 1048576: NARROWER than '..Said'. Prove '..Said' where nothing that the law and all that it calls make is longer than what came in: it says more and counts as full. Else prove '..UptoSaid'. A law counts once. -/
mutual
def uptoBulk {H : Type} : DataW H → Nat
  | .lit (.string bytes) => bytes.length + 1
  | .lit _ => 1
  | .nil => 1
  | .ptr d => uptoBulk d + 1
  | .slice elems spare => uptoBulkAll elems + uptoBulkAll spare + 1
  | .agg parts => uptoBulkAll parts + 1
  | .iface _ d => uptoBulk d + 1
  | .map entries => uptoBulkEntries entries + 1
  | .held _ => 1
def uptoBulkAll {H : Type} : List (DataW H) → Nat
  | [] => 0
  | d :: r => uptoBulk d + uptoBulkAll r
def uptoBulkEntries {H : Type} : List (Lit × DataW H) → Nat
  | [] => 0
  | x :: r => uptoBulkEntry x + uptoBulkEntries r
def uptoBulkEntry {H : Type} : Lit × DataW H → Nat
  | (.string bytes, d) => bytes.length + uptoBulk d + 1
  | (_, d) => uptoBulk d + 1
 end
def uptoSmall : (H : Type) → List (DataW H) → Bool := fun _ ds => decide (uptoBulkAll ds ≤ 1048576)
def OpenSpec.upto (s : _root_.Go.ChangeSpec) : _root_.Go.OpenSpec := { _root_.Go.OpenSpec.ofChange s with cond := some uptoSmall }

/-- 'gobolaw18.DetCaps', WHERE WHAT IT READS IS OF BULK AT MOST 1048576: true; the input reads as it did. -/
def detCapsUptoRow : OpenClaim := { program := "ytaokkliamoghbaagreatdoor", sum := "4affe2ff3cc46fe0db4272e02182059fc11e05eca3e30c01cdb2b6acb8f426b7", func := "gobo/gobolaw18.DetCaps", spec := "detCaps", unfollowed := true, recurses := true, named := ["gobo/gram.own", "internal/strconv.uint64pow10", "math/bits.deBruijn32tab", "math/bits.deBruijn64tab"], plainKeys := false, apart := false, laid := [("math/bits.deBruijn32tab", laid_math_bits_deBruijn32tab), ("math/bits.deBruijn64tab", laid_math_bits_deBruijn64tab), ("internal/strconv.uint64pow10", laid_internal_strconv_uint64pow10), ("gobo/gram.own", laid_gobo_gram_own)], narrowed := true }
def DetCapsUptoSaid : Prop := detCapsUptoRow.holds Tryz.pinned (OpenSpec.upto detCapsSpec)

/-- 'gobolaw18.DetSinks', WHERE WHAT IT READS IS OF BULK AT MOST 1048576: true; the input reads as it did. -/
def detSinksUptoRow : OpenClaim := { program := "ytaokkliamoghbaagreatdoor", sum := "4affe2ff3cc46fe0db4272e02182059fc11e05eca3e30c01cdb2b6acb8f426b7", func := "gobo/gobolaw18.DetSinks", spec := "detSinks", unfollowed := true, recurses := true, named := ["gobo/gram.own", "internal/strconv.uint64pow10", "math/bits.deBruijn32tab", "math/bits.deBruijn64tab"], plainKeys := false, apart := false, laid := [("math/bits.deBruijn32tab", laid_math_bits_deBruijn32tab), ("math/bits.deBruijn64tab", laid_math_bits_deBruijn64tab), ("internal/strconv.uint64pow10", laid_internal_strconv_uint64pow10), ("gobo/gram.own", laid_gobo_gram_own)], narrowed := true }
def DetSinksUptoSaid : Prop := detSinksUptoRow.holds Tryz.pinned (OpenSpec.upto detSinksSpec)

/-- 'gobolaw19.MergeMeans', WHERE WHAT IT READS IS OF BULK AT MOST 1048576: true; the input reads as it did. -/
def mergeMeansUptoRow : OpenClaim := { program := "ytaokkliamoghbaagreatdoor", sum := "4affe2ff3cc46fe0db4272e02182059fc11e05eca3e30c01cdb2b6acb8f426b7", func := "gobo/gobolaw19.MergeMeans", spec := "mergeMeans", unfollowed := true, recurses := true, named := ["gobo/gram.own", "internal/strconv.uint64pow10", "math/bits.deBruijn32tab", "math/bits.deBruijn64tab"], plainKeys := false, apart := false, laid := [("math/bits.deBruijn32tab", laid_math_bits_deBruijn32tab), ("math/bits.deBruijn64tab", laid_math_bits_deBruijn64tab), ("internal/strconv.uint64pow10", laid_internal_strconv_uint64pow10), ("gobo/gram.own", laid_gobo_gram_own)], narrowed := true }
def MergeMeansUptoSaid : Prop := mergeMeansUptoRow.holds Tryz.pinned (OpenSpec.upto mergeMeansSpec)

/-- 'gobolaw19.MergeLeast', WHERE WHAT IT READS IS OF BULK AT MOST 1048576: true; the input reads as it did. -/
def mergeLeastUptoRow : OpenClaim := { program := "ytaokkliamoghbaagreatdoor", sum := "4affe2ff3cc46fe0db4272e02182059fc11e05eca3e30c01cdb2b6acb8f426b7", func := "gobo/gobolaw19.MergeLeast", spec := "mergeLeast", unfollowed := true, recurses := true, named := ["gobo/gram.own", "internal/strconv.uint64pow10", "math/bits.deBruijn32tab", "math/bits.deBruijn64tab"], plainKeys := false, apart := false, laid := [("math/bits.deBruijn32tab", laid_math_bits_deBruijn32tab), ("math/bits.deBruijn64tab", laid_math_bits_deBruijn64tab), ("internal/strconv.uint64pow10", laid_internal_strconv_uint64pow10), ("gobo/gram.own", laid_gobo_gram_own)], narrowed := true }
def MergeLeastUptoSaid : Prop := mergeLeastUptoRow.holds Tryz.pinned (OpenSpec.upto mergeLeastSpec)

/-- 'gobolaw19.MergeOnto', WHERE WHAT IT READS IS OF BULK AT MOST 1048576: true; the input reads as it did. -/
def mergeOntoUptoRow : OpenClaim := { program := "ytaokkliamoghbaagreatdoor", sum := "4affe2ff3cc46fe0db4272e02182059fc11e05eca3e30c01cdb2b6acb8f426b7", func := "gobo/gobolaw19.MergeOnto", spec := "mergeOnto", unfollowed := true, recurses := true, named := ["gobo/gram.own", "internal/strconv.uint64pow10", "math/bits.deBruijn32tab", "math/bits.deBruijn64tab"], plainKeys := false, apart := false, laid := [("math/bits.deBruijn32tab", laid_math_bits_deBruijn32tab), ("math/bits.deBruijn64tab", laid_math_bits_deBruijn64tab), ("internal/strconv.uint64pow10", laid_internal_strconv_uint64pow10), ("gobo/gram.own", laid_gobo_gram_own)], narrowed := true }
def MergeOntoUptoSaid : Prop := mergeOntoUptoRow.holds Tryz.pinned (OpenSpec.upto mergeOntoSpec)

/-- 'gobolaw20.DriverSaves', WHERE WHAT IT READS IS OF BULK AT MOST 1048576: true; the input reads as it did. -/
def driverSavesUptoRow : OpenClaim := { program := "ytaokkliamoghbaagreatdoor", sum := "4affe2ff3cc46fe0db4272e02182059fc11e05eca3e30c01cdb2b6acb8f426b7", func := "gobo/gobolaw20.DriverSaves", spec := "driverSaves", unfollowed := true, recurses := true, named := ["gobo/gram.own", "internal/strconv.uint64pow10", "math/bits.deBruijn32tab", "math/bits.deBruijn64tab"], plainKeys := false, apart := false, laid := [("math/bits.deBruijn32tab", laid_math_bits_deBruijn32tab), ("math/bits.deBruijn64tab", laid_math_bits_deBruijn64tab), ("internal/strconv.uint64pow10", laid_internal_strconv_uint64pow10), ("gobo/gram.own", laid_gobo_gram_own)], narrowed := true }
def DriverSavesUptoSaid : Prop := driverSavesUptoRow.holds Tryz.pinned (OpenSpec.upto driverSavesSpec)

/-- 'gobolaw20.DriverDeep', WHERE WHAT IT READS IS OF BULK AT MOST 1048576: true; the input reads as it did. -/
def driverDeepUptoRow : OpenClaim := { program := "ytaokkliamoghbaagreatdoor", sum := "4affe2ff3cc46fe0db4272e02182059fc11e05eca3e30c01cdb2b6acb8f426b7", func := "gobo/gobolaw20.DriverDeep", spec := "driverDeep", unfollowed := true, recurses := true, named := ["gobo/gram.own", "internal/strconv.uint64pow10", "math/bits.deBruijn32tab", "math/bits.deBruijn64tab"], plainKeys := false, apart := false, laid := [("math/bits.deBruijn32tab", laid_math_bits_deBruijn32tab), ("math/bits.deBruijn64tab", laid_math_bits_deBruijn64tab), ("internal/strconv.uint64pow10", laid_internal_strconv_uint64pow10), ("gobo/gram.own", laid_gobo_gram_own)], narrowed := true }
def DriverDeepUptoSaid : Prop := driverDeepUptoRow.holds Tryz.pinned (OpenSpec.upto driverDeepSpec)

end Rows
end Go.Proofs.YtaokkliamoghbaaGreatDoor
