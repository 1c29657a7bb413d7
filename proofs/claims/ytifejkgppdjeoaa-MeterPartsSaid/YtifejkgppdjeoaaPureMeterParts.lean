/- MeterParts: no condition. -/
import Derived.Test.YtifejkgppdjeoaaXPure
import Derived.Test.YtifejkgppdjeoaaPMeterx3
namespace Go.Proofs.Ytifejkgppdjeoaa.Pure
open Go.RowKit Go.Proofs.Ytifejkgppdjeoaa.PMeter Go.Proofs.YtifejkgppdjeoaaW.PrintWords Go.Proofs.YtifejkgppdjeoaaW.PrintMore Go.Proofs.YtifejkgppdjeoaaW.PrintLast Go.Proofs.YtifejkgppdjeoaaW.Pu
theorem MeterParts : pyxlaw03_MeterParts.Pure := by
  intro a0 a1 a2 w0 w1 w2
  rw [pyxlaw03_MeterParts.f, if_pos ⟨wf_u32 w1, wf_u32 w2⟩]
end Go.Proofs.Ytifejkgppdjeoaa.Pure
