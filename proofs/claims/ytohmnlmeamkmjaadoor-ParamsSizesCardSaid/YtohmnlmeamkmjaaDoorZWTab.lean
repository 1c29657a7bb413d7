import Derived.Test.YtohmnlmeamkmjaaDoorZWLast
import Derived.Test.YtohmnlmeamkmjaaDoorZWWords
namespace Go.Proofs.YtohmnlmeamkmjaaDoorW.PrintLast
open Go.Proofs.YtohmnlmeamkmjaaDoorW.PrintWords (Aside0)
section
variable {md : Region.Mode} {ops : Array Oper} {T : Bool × List (List Nat × List Nat)} {l l' li lj lk : Array Bool} {ds : List Nat} {i j k : Nat}
end
end Go.Proofs.YtohmnlmeamkmjaaDoorW.PrintLast
