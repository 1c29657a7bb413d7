/- The reference's number, and both ways to parse. -/
import Derived.Test.YtohmnlmeamkmjaaDoorZXOid2
import Derived.Test.YtohmnlmeamkmjaaDoorZPOidx15
import Derived.Test.YtohmnlmeamkmjaaDoorZPOidx14
namespace Go.Proofs.YtohmnlmeamkmjaaDoor.POid
open Go.RowKit Go.Proofs.YtohmnlmeamkmjaaDoorW.PrintWords Go.Proofs.YtohmnlmeamkmjaaDoorW.PrintLast Go.Proofs.YtohmnlmeamkmjaaDoorW.PrintMore Go.Proofs.YtohmnlmeamkmjaaDoorW.Pu
end Go.Proofs.YtohmnlmeamkmjaaDoor.POid
