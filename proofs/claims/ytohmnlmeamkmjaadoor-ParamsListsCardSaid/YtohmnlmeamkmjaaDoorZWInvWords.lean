import Derived.Test.YtohmnlmeamkmjaaDoorZWTab
import Derived.Test.YtohmnlmeamkmjaaDoorZWEqStruct
namespace Go.Proofs.YtohmnlmeamkmjaaDoorW.PrintLast
section
variable {P : Program} {ops : Array Oper} {Q : Exit → Act → World → Prop} {md : Region.Mode} {T : Bool × List (List Nat × List Nat)} {B : List Nat} {O : List Nat} {b : Nat → Bool} {i j n : Nat}
end
end Go.Proofs.YtohmnlmeamkmjaaDoorW.PrintLast

namespace Go.Proofs.YtohmnlmeamkmjaaDoorW.PrintWords
open Go.RowKit
end Go.Proofs.YtohmnlmeamkmjaaDoorW.PrintWords
namespace Go.Proofs.YtohmnlmeamkmjaaDoorW.PrintLast
section
variable {ops : Array Oper} {a : Act} {o og : Oper} {g : Nat} {t : Tmp} {u : Bool}
end
end Go.Proofs.YtohmnlmeamkmjaaDoorW.PrintLast
