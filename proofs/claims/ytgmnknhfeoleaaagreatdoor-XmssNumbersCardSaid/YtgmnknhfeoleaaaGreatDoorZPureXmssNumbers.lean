/- XmssNumbers, the pure half. -/
import Derived.Test.YtgmnknhfeoleaaaGreatDoorZPXmssx27
import Derived.Test.YtgmnknhfeoleaaaGreatDoorZXPure
namespace Go.Proofs.YtgmnknhfeoleaaaGreatDoor.Pure
open Go.RowKit Go.Proofs.YtgmnknhfeoleaaaGreatDoor.PXmss Go.Proofs.YtgmnknhfeoleaaaGreatDoorW.PrintWords Go.Proofs.YtgmnknhfeoleaaaGreatDoorW.PrintLast Go.Proofs.YtgmnknhfeoleaaaGreatDoorW.PrintMore Go.Proofs.YtgmnknhfeoleaaaGreatDoorW.Pu
theorem get_out (k : Nat) (a0 : Int) (h : a0 < 1 ∨ 25 < a0) : params_Get.f (k + 1) a0 = some (0, 0, ⟨#[]⟩, 0, 0, 0, 0, [], 0, 0, false) := by
  rw [params_Get.f]
  by_cases c : a0 < 1
  · rw [if_pos c, params_Get.j0, if_pos rfl]
  · rw [if_neg c, decide_eq_true (show a0 > 25 by omega), params_Get.j0, if_pos rfl]
theorem get_some (a0 : Int) : ∃ x, params_Get.f 60 a0 = some x := by
  by_cases c : 1 ≤ a0 ∧ a0 ≤ 25
  · obtain ⟨n, rfl⟩ := Int.eq_ofNat_of_zero_le (show 0 ≤ a0 by omega)
    exact ⟨_, get_row n (by omega) (by omega)⟩
  · exact ⟨_, get_out 59 a0 (by omega)⟩
set_option maxRecDepth 100000 in
theorem XmssNumbers : pyxlaw22_XmssNumbers.Pure := by
  intro a0 h0
  refine ⟨60, ?_⟩
  by_cases c : 20 ≤ a0 ∧ a0 ≤ 25
  · clear h0
    rcases (show a0 = 20 ∨ a0 = 21 ∨ a0 = 22 ∨ a0 = 23 ∨ a0 = 24 ∨ a0 = 25 by omega) with rfl | rfl | rfl | rfl | rfl | rfl
    all_goals
      show _ = some true
      kernel_rfl
  · have e1 : xmss_Numbers.f a0 = some (0, 0, 0, false) := by rw [xmss_Numbers.f, if_neg c]
    have e2 : pyxref22_Numbers.f a0 = some [0, 0, 0] := by
      rw [pyxref22_Numbers.f]
      by_cases c1 : a0 < 20
      · rw [if_pos c1]
      · rw [if_neg c1, if_pos (by omega)]
    obtain ⟨x, hx⟩ := get_some a0
    rw [pyxlaw22_XmssNumbers.f, pyxlaw22_awake.f, Option.bind_some, if_pos rfl, e1, Option.bind_some, e2, Option.bind_some]
    rw [if_pos (by decide), if_pos (by rfl), if_pos (by decide), if_pos (by rfl), if_pos (by decide), if_pos (by rfl), if_neg (by decide), hx, Option.bind_some, if_neg (by decide)]
end Go.Proofs.YtgmnknhfeoleaaaGreatDoor.Pure
