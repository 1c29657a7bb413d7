import Derived.Test.YtgmnknhfeoleaaaGreatDoorZWWords
import Derived.Test.YtgmnknhfeoleaaaGreatDoorZWLast
import Derived.Test.YtgmnknhfeoleaaaGreatDoorZWMore
import Derived.Laws.MakeOwn
namespace Go.Proofs.YtgmnknhfeoleaaaGreatDoorW.PrintWords
open Go.RowKit Go.Proofs.YtgmnknhfeoleaaaGreatDoorW.PrintLast Go.Proofs.YtgmnknhfeoleaaaGreatDoorW.PrintMore
set_option linter.unusedVariables false
namespace Kd
section
variable {P : Program} {ops : Array Oper} {rest : List Oper} {o : Oper} {a : Act} {Q : Exit → Act → World → Prop} {α : Type}
end
end Kd
end Go.Proofs.YtgmnknhfeoleaaaGreatDoorW.PrintWords
