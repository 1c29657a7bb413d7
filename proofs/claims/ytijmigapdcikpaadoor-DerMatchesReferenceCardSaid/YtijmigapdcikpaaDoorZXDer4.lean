/- der: leaves that are encoded and read again; plain lemmas, no condition. -/
import Derived.Test.YtijmigapdcikpaaDoorZXDer3
namespace Go.Proofs.YtijmigapdcikpaaDoor.PDer
open Go.RowKit Go.Proofs.YtijmigapdcikpaaDoorW.PrintWords Go.Proofs.YtijmigapdcikpaaDoorW.PrintLast Go.Proofs.YtijmigapdcikpaaDoorW.PrintMore Go.Proofs.YtijmigapdcikpaaDoorW.Pu
set_option linter.unusedVariables false
set_option linter.unusedSimpArgs false
end Go.Proofs.YtijmigapdcikpaaDoor.PDer
