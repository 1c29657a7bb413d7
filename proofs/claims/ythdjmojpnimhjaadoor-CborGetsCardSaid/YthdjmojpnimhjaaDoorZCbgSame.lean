/- The reference's Same, as plain lists: no condition. -/
import Derived.Test.YthdjmojpnimhjaaDoorZXPure
import Derived.Test.YthdjmojpnimhjaaDoorZPCbgx10
namespace Go.Proofs.YthdjmojpnimhjaaDoor.PCbg
open Go.RowKit Go.Proofs.YthdjmojpnimhjaaDoorW.PrintWords Go.Proofs.YthdjmojpnimhjaaDoorW.PrintMore Go.Proofs.YthdjmojpnimhjaaDoorW.Pu
set_option linter.unusedVariables false
end Go.Proofs.YthdjmojpnimhjaaDoor.PCbg
