import Derived.Test.YtohmnlmeamkmjaaDoorZPParamsx0
import Derived.Test.YtohmnlmeamkmjaaDoorZPParamsx20
namespace Go.Proofs.YtohmnlmeamkmjaaDoor.PParams
open Go.RowKit Go.Proofs.YtohmnlmeamkmjaaDoorW.PrintWords Go.Proofs.YtohmnlmeamkmjaaDoorW.PrintLast Go.Proofs.YtohmnlmeamkmjaaDoorW.PrintMore
attribute [local go_sem] max2_int min2_int max_two min_two max_three min_three max_four min_four
set_option linter.unusedVariables false
set_option linter.unusedSimpArgs false
end Go.Proofs.YtohmnlmeamkmjaaDoor.PParams
