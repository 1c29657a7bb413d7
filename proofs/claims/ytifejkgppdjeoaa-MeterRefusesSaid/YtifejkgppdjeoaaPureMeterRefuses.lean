/- MeterRefuses: no condition. -/
import Derived.Test.YtifejkgppdjeoaaPMeterx4
namespace Go.Proofs.Ytifejkgppdjeoaa.Pure
open Go.RowKit Go.Proofs.Ytifejkgppdjeoaa.PMeter
theorem MeterRefuses : pyxlaw03_MeterRefuses.Pure := fun _ _ _ _ _ _ => rfl
end Go.Proofs.Ytifejkgppdjeoaa.Pure
