/- A signature's bytes, changed: totals; the parse of what begins a signature: no condition. -/
import Derived.Test.YtijmigapdcikpaaDoorZPLmsx11
import Derived.Test.YtijmigapdcikpaaDoorZXLms4
namespace Go.Proofs.YtijmigapdcikpaaDoor.PLms
open Go.RowKit Go.Proofs.YtijmigapdcikpaaDoorW.PrintWords Go.Proofs.YtijmigapdcikpaaDoorW.PrintLast Go.Proofs.YtijmigapdcikpaaDoorW.PrintMore Go.Proofs.YtijmigapdcikpaaDoorW.Pu
set_option linter.unusedVariables false
theorem awake_ev : Ev (fun k => pyxlaw21_awake.f k) true := Ev.of pyxlaw21_awake.mono pyxlaw21_awake.eval
theorem told_some (c a : Int) (hc : c ≠ 0) (h0 : 0 ≤ a) (h1 : a < 9000000000000000000) : pyxlaw21_told.f (some (.fault c a)) c a = some true := by
  unfold pyxlaw21_told.f
  rw [if_neg hc, show fault_Code.f (some (.fault c a)) = some (c, true) from rfl, show fault_At.f (some (.fault c a)) = some (wrap64 a, true) from rfl, w64_ h0 h1]
  simp
end Go.Proofs.YtijmigapdcikpaaDoor.PLms
