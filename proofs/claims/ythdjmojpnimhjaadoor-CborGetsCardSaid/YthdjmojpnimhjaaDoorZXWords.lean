import Derived.Test.YthdjmojpnimhjaaDoorZWWords
import Derived.Test.YthdjmojpnimhjaaDoorZWLast
import Derived.Test.YthdjmojpnimhjaaDoorZWMore
import Derived.Laws.MakeOwn
namespace Go.Proofs.YthdjmojpnimhjaaDoorW.PrintWords
open Go.RowKit Go.Proofs.YthdjmojpnimhjaaDoorW.PrintLast Go.Proofs.YthdjmojpnimhjaaDoorW.PrintMore
set_option linter.unusedVariables false
namespace Kd
section
variable {P : Program} {ops : Array Oper} {rest : List Oper} {o : Oper} {a : Act} {Q : Exit → Act → World → Prop} {α : Type}
end
end Kd
end Go.Proofs.YthdjmojpnimhjaaDoorW.PrintWords
