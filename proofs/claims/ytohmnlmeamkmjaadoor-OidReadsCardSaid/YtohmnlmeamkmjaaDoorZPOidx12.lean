import Derived.Test.YtohmnlmeamkmjaaDoorZPOidx0
import Derived.Test.YtohmnlmeamkmjaaDoorZPOidx2
namespace Go.Proofs.YtohmnlmeamkmjaaDoor.POid
open Go.RowKit Go.Proofs.YtohmnlmeamkmjaaDoorW.PrintWords Go.Proofs.YtohmnlmeamkmjaaDoorW.PrintLast Go.Proofs.YtohmnlmeamkmjaaDoorW.PrintMore
set_option linter.unusedVariables false
set_option linter.unusedSimpArgs false
end Go.Proofs.YtohmnlmeamkmjaaDoor.POid
