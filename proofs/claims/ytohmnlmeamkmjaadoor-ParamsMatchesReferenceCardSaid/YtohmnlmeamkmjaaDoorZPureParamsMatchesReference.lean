/- ParamsMatchesReference, the pure half. -/
import Derived.Test.YtohmnlmeamkmjaaDoorZPParamsx22
import Derived.Test.YtohmnlmeamkmjaaDoorZXPure
namespace Go.Proofs.YtohmnlmeamkmjaaDoor.Pure
open Go.RowKit Go.Proofs.YtohmnlmeamkmjaaDoor.PParams Go.Proofs.YtohmnlmeamkmjaaDoorW.PrintWords Go.Proofs.YtohmnlmeamkmjaaDoorW.PrintLast Go.Proofs.YtohmnlmeamkmjaaDoorW.PrintMore Go.Proofs.YtohmnlmeamkmjaaDoorW.Pu
theorem get_out (k : Nat) (a0 : Int) (h : a0 < 1 ∨ 25 < a0) : params_Get.f (k + 1) a0 = some (0, 0, ⟨#[]⟩, 0, 0, 0, 0, [], 0, 0, false) := by
  rw [params_Get.f]
  by_cases c : a0 < 1
  · rw [if_pos c, params_Get.j0, if_pos rfl]
  · rw [if_neg c, decide_eq_true (show a0 > 25 by omega), params_Get.j0, if_pos rfl]
theorem ref_out (a0 : Int) (h : a0 < 1 ∨ 25 < a0) : pyxref13_Get.f a0 = some (0, 0, ⟨#[]⟩, 0, 0, 0, 0, ⟨#[]⟩, 0, 0) := by
  rw [pyxref13_Get.f]
  by_cases c : a0 < 1
  · rw [if_pos c]
  · rw [if_neg c, if_pos (show a0 > 25 by omega)]
theorem same_out : pyxlaw13_same.f 8 0 0 ⟨#[]⟩ 0 0 0 0 [] 0 0 0 0 ⟨#[]⟩ 0 0 0 0 ⟨#[]⟩ 0 0 = some true := by kernel_rfl
theorem same_out' (k : Nat) : pyxlaw13_same.f (k + 8) 0 0 ⟨#[]⟩ 0 0 0 0 [] 0 0 0 0 ⟨#[]⟩ 0 0 0 0 ⟨#[]⟩ 0 0 = some true :=
  at_rounds (fun k => pyxlaw13_same.mono _ _ _ _ _ _ _ _ _ _ _ _ _ _ _ _ _ _ _ _ k) (by omega) same_out
set_option maxRecDepth 100000 in
theorem ParamsMatchesReference : pyxlaw13_ParamsMatchesReference.Pure := by
  intro a0 h0
  refine ⟨64, ?_⟩
  rw [pyxlaw13_ParamsMatchesReference.f, pyxlaw13_awake.eval, Option.bind_some, if_pos rfl]
  by_cases c : 1 ≤ a0 ∧ a0 ≤ 25
  · clear h0
    rcases (show a0 = 1 ∨ a0 = 2 ∨ a0 = 3 ∨ a0 = 4 ∨ a0 = 5 ∨ a0 = 6 ∨ a0 = 7 ∨ a0 = 8 ∨ a0 = 9 ∨ a0 = 10 ∨ a0 = 11 ∨ a0 = 12 ∨ a0 = 13 ∨ a0 = 14 ∨ a0 = 15 ∨ a0 = 16 ∨ a0 = 17 ∨ a0 = 18 ∨ a0 = 19 ∨ a0 = 20 ∨ a0 = 21 ∨ a0 = 22 ∨ a0 = 23 ∨ a0 = 24 ∨ a0 = 25 by omega) with rfl | rfl | rfl | rfl | rfl | rfl | rfl | rfl | rfl | rfl | rfl | rfl | rfl | rfl | rfl | rfl | rfl | rfl | rfl | rfl | rfl | rfl | rfl | rfl | rfl
    all_goals
      show _ = some true
      kernel_rfl
  · have ho : a0 < 1 ∨ 25 < a0 := by omega
    have hl : pyxlaw13_ParamsMatchesReference.j0 64 a0 false 0 0 ⟨#[]⟩ 0 0 0 0 [] 0 0 = some true := by
      show pyxlaw13_ParamsMatchesReference.j0 (63 + 1) a0 false 0 0 ⟨#[]⟩ 0 0 0 0 [] 0 0 = some true
      rw [pyxlaw13_ParamsMatchesReference.j0, if_neg (by decide)]
      show pyxlaw13_ParamsMatchesReference.l0 (62 + 1) a0 0 0 0 ⟨#[]⟩ 0 0 0 0 [] 0 0 = some true
      rw [pyxlaw13_ParamsMatchesReference.l0, if_neg (by decide), get_out 61 a0 ho, Option.bind_some, ref_out a0 ho, Option.bind_some]
      show (pyxlaw13_same.f (54 + 8) 0 0 ⟨#[]⟩ 0 0 0 0 [] 0 0 0 0 ⟨#[]⟩ 0 0 0 0 ⟨#[]⟩ 0 0).bind _ = _
      rw [same_out', Option.bind_some]
    rw [get_out 63 a0 ho, Option.bind_some, ref_out a0 ho, Option.bind_some]
    show (pyxlaw13_same.f (56 + 8) 0 0 ⟨#[]⟩ 0 0 0 0 [] 0 0 0 0 ⟨#[]⟩ 0 0 0 0 ⟨#[]⟩ 0 0).bind _ = _
    rw [same_out', Option.bind_some, if_pos rfl]
    by_cases c1 : a0 ≥ 1
    · rw [if_pos c1, decide_eq_false (show ¬ a0 ≤ 25 by omega)]
      exact hl
    · rw [if_neg c1]
      exact hl
end Go.Proofs.YtohmnlmeamkmjaaDoor.Pure
