/- WirePuts: no condition. -/
import Derived.Test.YtifejkgppdjeoaaPWirex4
namespace Go.Proofs.Ytifejkgppdjeoaa.Pure
open Go.RowKit Go.Proofs.Ytifejkgppdjeoaa.PWire
theorem WirePuts : pyxlaw01_WirePuts.Pure := by
  intro a0 a1 h0 h1
  have h2 : 0 ≤ a1 ∧ a1 < 18446744073709551616 := by
    simp only [Lit.wf, Bool.and_eq_true, decide_eq_true_eq, show IntKind.u64.min = 0 from rfl, show IntKind.u64.max = 18446744073709551615 from rfl] at h1
    omega
  rw [pyxlaw01_WirePuts.f, if_pos h2]
end Go.Proofs.Ytifejkgppdjeoaa.Pure
