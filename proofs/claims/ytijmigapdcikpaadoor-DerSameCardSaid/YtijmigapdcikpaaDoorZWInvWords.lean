import Derived.Test.YtijmigapdcikpaaDoorZWInv
import Derived.Test.YtijmigapdcikpaaDoorZWFootNe
namespace Go.Proofs.YtijmigapdcikpaaDoorW.PrintWords
open Go.RowKit
end Go.Proofs.YtijmigapdcikpaaDoorW.PrintWords
namespace Go.Proofs.YtijmigapdcikpaaDoorW.PrintLast
section
variable {ops : Array Oper} {a : Act} {o og : Oper} {g : Nat} {t : Tmp} {u : Bool}
end
end Go.Proofs.YtijmigapdcikpaaDoorW.PrintLast
