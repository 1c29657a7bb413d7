import Derived.Test.YtohmnlmeamkmjaaDoorZWInv
import Derived.Test.YtohmnlmeamkmjaaDoorZWFootNe
namespace Go.Proofs.YtohmnlmeamkmjaaDoorW.PrintWords
open Go.RowKit
end Go.Proofs.YtohmnlmeamkmjaaDoorW.PrintWords
namespace Go.Proofs.YtohmnlmeamkmjaaDoorW.PrintLast
section
variable {ops : Array Oper} {a : Act} {o og : Oper} {g : Nat} {t : Tmp} {u : Bool}
end
end Go.Proofs.YtohmnlmeamkmjaaDoorW.PrintLast
