/- The reference's Same, as plain lists: no condition. -/
import Derived.Test.YtijmigapdcikpaaDoorZXPure
import Derived.Test.YtijmigapdcikpaaDoorZPDsmx9
namespace Go.Proofs.YtijmigapdcikpaaDoor.PDsm
open Go.RowKit Go.Proofs.YtijmigapdcikpaaDoorW.PrintWords Go.Proofs.YtijmigapdcikpaaDoorW.PrintMore Go.Proofs.YtijmigapdcikpaaDoorW.Pu
set_option linter.unusedVariables false
theorem bytesOf_str {l : List Int} (h : IsBytes l) : bytesOf (strOfNums l) = l := by
  unfold bytesOf
  rw [strOfNums_data, List.map_map]
  conv => rhs; rw [← List.map_id l]
  apply List.map_congr_left
  intro x hx
  have := h x hx
  simp only [Function.comp, id]
  rw [show (UInt8.ofNat x.toNat).toNat = x.toNat % 256 from UInt8.toNat_ofNat']
  omega
theorem str_inj {a b : List Int} (ha : IsBytes a) (hb : IsBytes b) : (strOfNums a).toList = (strOfNums b).toList ↔ a = b := by
  constructor
  · intro h
    have h2 : bytesOf (strOfNums a) = bytesOf (strOfNums b) := by
      unfold bytesOf
      rw [← ByteArray.toList_eq, ← ByteArray.toList_eq, h]
    rwa [bytesOf_str ha, bytesOf_str hb] at h2
  · rintro rfl; rfl
end Go.Proofs.YtijmigapdcikpaaDoor.PDsm
