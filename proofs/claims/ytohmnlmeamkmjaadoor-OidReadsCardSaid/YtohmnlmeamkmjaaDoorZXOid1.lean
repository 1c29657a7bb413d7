/- Decimal numbers, and what stands between dots. -/
import Derived.Test.YtohmnlmeamkmjaaDoorZXPure
import Derived.Test.YtohmnlmeamkmjaaDoorZPOidx17
import Derived.Test.YtohmnlmeamkmjaaDoorZPOidx7
namespace Go.Proofs.YtohmnlmeamkmjaaDoor.POid
open Go.RowKit Go.Proofs.YtohmnlmeamkmjaaDoorW.PrintWords Go.Proofs.YtohmnlmeamkmjaaDoorW.PrintLast Go.Proofs.YtohmnlmeamkmjaaDoorW.PrintMore Go.Proofs.YtohmnlmeamkmjaaDoorW.Pu
def isDig (c : UInt8) : Prop := 48 ≤ c.toNat ∧ c.toNat ≤ 57
instance (c : UInt8) : Decidable (isDig c) := by unfold isDig; infer_instance
end Go.Proofs.YtohmnlmeamkmjaaDoor.POid
