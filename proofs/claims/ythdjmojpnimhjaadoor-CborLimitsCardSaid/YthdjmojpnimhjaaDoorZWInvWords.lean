import Derived.Test.YthdjmojpnimhjaaDoorZWInv
import Derived.Test.YthdjmojpnimhjaaDoorZWFootNe
namespace Go.Proofs.YthdjmojpnimhjaaDoorW.PrintWords
open Go.RowKit
end Go.Proofs.YthdjmojpnimhjaaDoorW.PrintWords
namespace Go.Proofs.YthdjmojpnimhjaaDoorW.PrintLast
section
variable {ops : Array Oper} {a : Act} {o og : Oper} {g : Nat} {t : Tmp} {u : Bool}
end
end Go.Proofs.YthdjmojpnimhjaaDoorW.PrintLast
