/- WireNil: no condition. -/
import Derived.Test.YtifejkgppdjeoaaPWirex5
namespace Go.Proofs.Ytifejkgppdjeoaa.Pure
open Go.RowKit Go.Proofs.Ytifejkgppdjeoaa.PWire Go.Proofs.YtifejkgppdjeoaaW.PrintWords Go.Proofs.YtifejkgppdjeoaaW.PrintLast
theorem WireNil : pyxlaw01_WireNil.Pure := fun _ _ _ _ _ _ => rfl
end Go.Proofs.Ytifejkgppdjeoaa.Pure
