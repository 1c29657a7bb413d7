/- The reference's number, and both ways to parse. -/
import Derived.Test.YtohmnlmeamkmjaaDoorZXOid2
import Derived.Test.YtohmnlmeamkmjaaDoorZPOidx15
import Derived.Test.YtohmnlmeamkmjaaDoorZPOidx14
namespace Go.Proofs.YtohmnlmeamkmjaaDoor.POid
open Go.RowKit Go.Proofs.YtohmnlmeamkmjaaDoorW.PrintWords Go.Proofs.YtohmnlmeamkmjaaDoorW.PrintLast Go.Proofs.YtohmnlmeamkmjaaDoorW.PrintMore Go.Proofs.YtohmnlmeamkmjaaDoorW.Pu
open Classical in
noncomputable def numW (w : List UInt8) : Int := if canon w ∧ w.length ≤ 10 ∧ dval 0 w ≤ 4294967295 then (dval 0 w : Int) else -1
theorem numW_pos {w : List UInt8} (h : 0 ≤ numW w) : w = DD (numW w) ∧ 0 ≤ numW w ∧ numW w < 4294967296 := by
  unfold numW at h ⊢
  split at h
  · rename_i hc
    rw [if_pos hc]
    refine ⟨?_, by omega, by have := hc.2.2; omega⟩
    show w = Lib.decDigits _
    rw [Int.toNat_natCast]
    exact canon_dd w.length w rfl hc.1
  · omega
theorem numW_DD {n : Int} (h : 0 ≤ n ∧ n < 4294967296) : numW (DD n) = n := by
  unfold numW
  rw [if_pos ⟨dd_canon _, DD_len h, by rw [show DD n = Lib.decDigits n.toNat from rfl, dd_val]; omega⟩]
  rw [show DD n = Lib.decDigits n.toNat from rfl, dd_val]
  omega
noncomputable def refP : List (List UInt8) → List Int → List Int × Bool
  | [], acc => if validB acc = true then (acc, true) else ([], false)
  | w :: ws, acc => if numW w < 0 then ([], false) else refP ws (acc ++ [numW w])
end Go.Proofs.YtohmnlmeamkmjaaDoor.POid
