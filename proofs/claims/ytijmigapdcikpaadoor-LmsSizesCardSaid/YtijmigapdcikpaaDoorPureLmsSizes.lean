/- LmsSizes: no condition. -/
import Derived.Test.YtijmigapdcikpaaDoorPLmsx10
import Derived.Test.YtijmigapdcikpaaDoorXLms1
namespace Go.Proofs.YtijmigapdcikpaaDoor.Pure
open Go.RowKit Go.Proofs.YtijmigapdcikpaaDoor.PLms
theorem LmsSizes : pyxlaw21_LmsSizes.Pure := by
  intro a0 a1 h0 h1
  have b0 := wf_u32_ h0
  have b1 := wf_u32_ h1
  refine ⟨4000, ?_⟩
  unfold pyxlaw21_LmsSizes.f
  rw [pyxlaw21_awake.eval, w64_ b0.1 (by omega), w64_ b1.1 (by omega), rheight, rchains, rsize 3999, size_f, show lms_Height.f a0 = some (hgt a0) from rfl, show lms_Chains.f a1 = some (chn a1) from rfl]
  simp only [Option.bind_some, if_true]
  rw [hgt_pos, chn_pos]
  simp
end Go.Proofs.YtijmigapdcikpaaDoor.Pure
