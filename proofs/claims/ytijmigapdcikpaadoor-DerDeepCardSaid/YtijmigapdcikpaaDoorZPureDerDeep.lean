/- DerDeep: the pure half: twenty trees, each by the kernel. -/
import Derived.Test.YtijmigapdcikpaaDoorZPDerx15
import Derived.Test.YtijmigapdcikpaaDoorZXPure
import Derived.KernelRfl
namespace Go.Proofs.YtijmigapdcikpaaDoor.Pure
open Go.RowKit Go.Proofs.YtijmigapdcikpaaDoor.PDer Go.Proofs.YtijmigapdcikpaaDoorW.PrintWords Go.Proofs.YtijmigapdcikpaaDoorW.PrintLast Go.Proofs.YtijmigapdcikpaaDoorW.PrintMore Go.Proofs.YtijmigapdcikpaaDoorW.Pu
theorem deep_all : ((List.range 20).all fun i => pyxlaw08_DerDeep.l0 200 (i : Int) 0 4 [] == some true) = true := by kernel_rfl
theorem DerDeep : pyxlaw08_DerDeep.Pure := by
  intro a0 h0
  have b := wf_u8 h0
  refine ⟨200, ?_⟩
  unfold pyxlaw08_DerDeep.f
  rw [show pyxlaw08_awake.f 200 = some true by kernel_rfl, Option.bind_some, if_pos rfl]
  have e : wrap64 a0 = a0 := w64 (by omega) (by omega)
  rw [e]
  rw [Int.tmod_eq_emod_of_nonneg b.1]
  have := List.all_eq_true.1 deep_all (a0 % 20).toNat (by rw [List.mem_range]; omega)
  rw [show ((a0 % 20).toNat : Int) = a0 % 20 by omega] at this
  exact eq_of_beq this
end Go.Proofs.YtijmigapdcikpaaDoor.Pure
