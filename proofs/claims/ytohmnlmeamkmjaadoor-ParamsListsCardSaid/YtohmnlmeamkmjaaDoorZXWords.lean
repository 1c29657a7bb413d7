import Derived.Test.YtohmnlmeamkmjaaDoorZWWords
import Derived.Test.YtohmnlmeamkmjaaDoorZWLast
import Derived.Test.YtohmnlmeamkmjaaDoorZWMore
import Derived.Laws.MakeOwn
namespace Go.Proofs.YtohmnlmeamkmjaaDoorW.PrintWords
open Go.RowKit Go.Proofs.YtohmnlmeamkmjaaDoorW.PrintLast Go.Proofs.YtohmnlmeamkmjaaDoorW.PrintMore
set_option linter.unusedVariables false
namespace Kd
section
variable {P : Program} {ops : Array Oper} {rest : List Oper} {o : Oper} {a : Act} {Q : Exit → Act → World → Prop} {α : Type}
end
end Kd
end Go.Proofs.YtohmnlmeamkmjaaDoorW.PrintWords
