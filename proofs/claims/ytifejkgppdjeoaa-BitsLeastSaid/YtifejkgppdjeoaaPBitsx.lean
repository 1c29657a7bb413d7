-- Written by a program: a copy of the kit's print, turned by this session (wip/xprint).
import Derived.Test.YtifejkgppdjeoaaPBitsx0
import Derived.Test.YtifejkgppdjeoaaPBitsx1
import Derived.Test.YtifejkgppdjeoaaPBitsx2
import Derived.Test.YtifejkgppdjeoaaPBitsx3
import Derived.Test.YtifejkgppdjeoaaPBitsx4
import Derived.Test.YtifejkgppdjeoaaPBitsx5
import Derived.Test.YtifejkgppdjeoaaPBitsx6
namespace Go.Proofs.Ytifejkgppdjeoaa.PBits
open Go.RowKit Go.Proofs.YtifejkgppdjeoaaW.PrintWords Go.Proofs.YtifejkgppdjeoaaW.PrintLast Go.Proofs.YtifejkgppdjeoaaW.PrintMore
attribute [local go_sem] max2_int min2_int max_two min_two max_three min_three max_four min_four   -- for this text's walks alone
set_option linter.unusedVariables false
set_option linter.unusedSimpArgs false

end Go.Proofs.Ytifejkgppdjeoaa.PBits
