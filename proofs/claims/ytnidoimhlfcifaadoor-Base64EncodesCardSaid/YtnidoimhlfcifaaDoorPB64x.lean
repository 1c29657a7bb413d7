-- Written by a program: a copy of the kit's print, turned by this session (wip/xprint).
import Derived.Test.YtnidoimhlfcifaaDoorPB64x0
import Derived.Test.YtnidoimhlfcifaaDoorPB64x1
import Derived.Test.YtnidoimhlfcifaaDoorPB64x2
import Derived.Test.YtnidoimhlfcifaaDoorPB64x3
import Derived.Test.YtnidoimhlfcifaaDoorPB64x4
import Derived.Test.YtnidoimhlfcifaaDoorPB64x5
import Derived.Test.YtnidoimhlfcifaaDoorPB64x6
import Derived.Test.YtnidoimhlfcifaaDoorPB64x7
import Derived.Test.YtnidoimhlfcifaaDoorPB64x8
namespace Go.Proofs.YtnidoimhlfcifaaDoor.PB64
open Go.RowKit Go.Proofs.YtnidoimhlfcifaaDoorW.PrintWords Go.Proofs.YtnidoimhlfcifaaDoorW.PrintLast Go.Proofs.YtnidoimhlfcifaaDoorW.PrintMore
attribute [local go_sem] max2_int min2_int max_two min_two max_three min_three max_four min_four   -- for this text's walks alone
set_option linter.unusedVariables false
set_option linter.unusedSimpArgs false

end Go.Proofs.YtnidoimhlfcifaaDoor.PB64
