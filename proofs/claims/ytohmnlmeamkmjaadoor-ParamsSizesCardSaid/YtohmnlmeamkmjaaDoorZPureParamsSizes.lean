/- ParamsSizes, the pure half. -/
import Derived.Test.YtohmnlmeamkmjaaDoorZPParamsx23
import Derived.Test.YtohmnlmeamkmjaaDoorZXPure
namespace Go.Proofs.YtohmnlmeamkmjaaDoor.Pure
open Go.RowKit Go.Proofs.YtohmnlmeamkmjaaDoor.PParams Go.Proofs.YtohmnlmeamkmjaaDoorW.PrintWords Go.Proofs.YtohmnlmeamkmjaaDoorW.PrintLast Go.Proofs.YtohmnlmeamkmjaaDoorW.PrintMore Go.Proofs.YtohmnlmeamkmjaaDoorW.Pu
set_option maxRecDepth 100000 in
theorem ParamsSizes : pyxlaw13_ParamsSizes.Pure := by
  intro a0 h0
  obtain ⟨h1, h2⟩ : 0 ≤ a0 ∧ a0 < 256 := wf_u8 h0
  refine ⟨64, ?_⟩
  rw [pyxlaw13_ParamsSizes.f, pyxlaw13_awake.eval, Option.bind_some, if_pos rfl]
  have e : ∃ i : Nat, i < 25 ∧ wrap64 (1 + Int.tmod (wrap64 a0) 25) = ((i + 1 : Nat) : Int) := by
    refine ⟨(a0 % 25).toNat, by omega, ?_⟩
    have e1 : wrap64 a0 = a0 := by unfold wrap64; omega
    rw [e1, Int.tmod_eq_emod_of_nonneg h1]
    unfold wrap64
    omega
  obtain ⟨i, hi, e⟩ := e
  rw [e]
  clear e h0 h1 h2
  rcases (show i = 0 ∨ i = 1 ∨ i = 2 ∨ i = 3 ∨ i = 4 ∨ i = 5 ∨ i = 6 ∨ i = 7 ∨ i = 8 ∨ i = 9 ∨ i = 10 ∨ i = 11 ∨ i = 12 ∨ i = 13 ∨ i = 14 ∨ i = 15 ∨ i = 16 ∨ i = 17 ∨ i = 18 ∨ i = 19 ∨ i = 20 ∨ i = 21 ∨ i = 22 ∨ i = 23 ∨ i = 24 by omega) with rfl | rfl | rfl | rfl | rfl | rfl | rfl | rfl | rfl | rfl | rfl | rfl | rfl | rfl | rfl | rfl | rfl | rfl | rfl | rfl | rfl | rfl | rfl | rfl | rfl
  all_goals
    show _ = some true
    kernel_rfl
end Go.Proofs.YtohmnlmeamkmjaaDoor.Pure
