/- Both ways to parse agree; lists and bytes that are compared. -/
import Derived.Test.YtohmnlmeamkmjaaDoorZXOid3
namespace Go.Proofs.YtohmnlmeamkmjaaDoor.POid
open Go.RowKit Go.Proofs.YtohmnlmeamkmjaaDoorW.PrintWords Go.Proofs.YtohmnlmeamkmjaaDoorW.PrintLast Go.Proofs.YtohmnlmeamkmjaaDoorW.PrintMore Go.Proofs.YtohmnlmeamkmjaaDoorW.Pu
theorem spl_tx {l : List Int} (h : l ≠ []) : spl [] (joinG [46] (l.map DD)) = l.map DD :=
  spl_join _ (by simpa using h) (fun w hw x hx => by
    obtain ⟨n, _, rfl⟩ := List.mem_map.1 hw
    exact dd_dot _ x hx)
end Go.Proofs.YtohmnlmeamkmjaaDoor.POid
