import Derived.Test.YtijmigapdcikpaaDoorZWWords
import Derived.Test.YtijmigapdcikpaaDoorZWLast
import Derived.Test.YtijmigapdcikpaaDoorZWMore
import Derived.Laws.MakeOwn
namespace Go.Proofs.YtijmigapdcikpaaDoorW.PrintWords
open Go.RowKit Go.Proofs.YtijmigapdcikpaaDoorW.PrintLast Go.Proofs.YtijmigapdcikpaaDoorW.PrintMore
set_option linter.unusedVariables false
namespace Kd
section
variable {P : Program} {ops : Array Oper} {rest : List Oper} {o : Oper} {a : Act} {Q : Exit → Act → World → Prop} {α : Type}
end
end Kd
end Go.Proofs.YtijmigapdcikpaaDoorW.PrintWords
