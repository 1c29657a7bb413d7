import Derived.Test.YthdjmojpnimhjaaDoorZWTab
import Derived.Test.YthdjmojpnimhjaaDoorZWFootNe
namespace Go.Proofs.YthdjmojpnimhjaaDoorW.PrintLast
section
variable {P : Program} {ops : Array Oper} {Q : Exit → Act → World → Prop} {md : Region.Mode} {T : Bool × List (List Nat × List Nat)} {B : List Nat} {O : List Nat} {b : Nat → Bool} {i j n : Nat}
end
end Go.Proofs.YthdjmojpnimhjaaDoorW.PrintLast

namespace Go.Proofs.YthdjmojpnimhjaaDoorW.PrintWords
open Go.RowKit
end Go.Proofs.YthdjmojpnimhjaaDoorW.PrintWords
namespace Go.Proofs.YthdjmojpnimhjaaDoorW.PrintLast
section
variable {ops : Array Oper} {a : Act} {o og : Oper} {g : Nat} {t : Tmp} {u : Bool}
end
end Go.Proofs.YthdjmojpnimhjaaDoorW.PrintLast
