/- The reference's Read; both agree. -/
import Derived.Test.YtohmnlmeamkmjaaDoorZXOid5
namespace Go.Proofs.YtohmnlmeamkmjaaDoor.POid
open Go.RowKit Go.Proofs.YtohmnlmeamkmjaaDoorW.PrintWords Go.Proofs.YtohmnlmeamkmjaaDoorW.PrintLast Go.Proofs.YtohmnlmeamkmjaaDoorW.PrintMore Go.Proofs.YtohmnlmeamkmjaaDoorW.Pu
theorem cont_len (l : List Int) : (cont l).length ≤ 189 := by
  unfold cont
  split
  · rename_i hv
    have hl := valid_len hv
    have h1 := ggo_len 9 (40 * rd l 0 + rd l 1) 0
    have h2 := flat_le (l.drop 2)
    rw [List.length_drop] at h2
    rw [List.length_append]
    omega
  · simp
theorem cont_ev {l : List Int} (hu : IsU32 l) : oid_Content.f l = some (cont l) := by
  rw [oid_Content.f, if_pos (by unfold u32B; rw [List.all_eq_true]; exact fun n hn => decide_eq_true (hu n hn))]
end Go.Proofs.YtohmnlmeamkmjaaDoor.POid
