import Derived.Test.YtijmigapdcikpaaDoorZWLast
import Derived.Test.YtijmigapdcikpaaDoorZWWords
namespace Go.Proofs.YtijmigapdcikpaaDoorW.PrintLast
open Go.Proofs.YtijmigapdcikpaaDoorW.PrintWords (Aside0)
section
variable {md : Region.Mode} {ops : Array Oper} {T : Bool × List (List Nat × List Nat)} {l l' li lj lk : Array Bool} {ds : List Nat} {i j k : Nat}
end
end Go.Proofs.YtijmigapdcikpaaDoorW.PrintLast
