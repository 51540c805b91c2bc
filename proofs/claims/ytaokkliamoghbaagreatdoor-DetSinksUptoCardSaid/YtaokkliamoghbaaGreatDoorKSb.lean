/- Joined from texts of this seat, in their order. -/
import Derived.Test.YtaokkliamoghbaaGreatDoorKSa
import Derived.Test.YtaokkliamoghbaaGreatDoorJAy
set_option linter.unusedVariables false
set_option linter.unusedSimpArgs false
set_option linter.unusedSectionVars false
namespace Go.Proofs.YtaokkliamoghbaaGreatDoor.PVpa
open Go.RowKit Go.Proofs.YtaokkliamoghbaaGreatDoorW.PrintWords Go.Proofs.YtaokkliamoghbaaGreatDoorW.PrintLast Go.Proofs.YtaokkliamoghbaaGreatDoorW.PrintMore
theorem sinks_law (w:World)(ho:Own w)(ht:TabW w)(A:Option Addr)(cl:Nat)(l:List (List Int))(hl:(Kd.slice 3 (Kd.int .i64)).C w A l.length l)(hs:∀x∈l,x.length≤1048576) :
 Calls Tryz.prog 4 #[.slice A l.length cl] w fun e w'=>e=.returned (.bool true)∧Below w.heap.size w w':=
 sinks_lawH w ho ht A cl l (Zpe w A cl l hl hs) (fun W h1 h2=>toldD_true W h1 h2)
end Go.Proofs.YtaokkliamoghbaaGreatDoor.PVpa
