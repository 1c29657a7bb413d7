/- cbor: the item of a number; plain lemmas, no condition. -/
import Derived.Test.YthdjmojpnimhjaaDoorZPCbgx16
import Derived.Test.YthdjmojpnimhjaaDoorZPCbgx10
import Derived.Test.YthdjmojpnimhjaaDoorZPCbgx14
import Derived.Test.YthdjmojpnimhjaaDoorZXCbg1
namespace Go.Proofs.YthdjmojpnimhjaaDoor.PCbg
open Go.RowKit Go.Proofs.YthdjmojpnimhjaaDoorW.PrintWords Go.Proofs.YthdjmojpnimhjaaDoorW.PrintLast Go.Proofs.YthdjmojpnimhjaaDoorW.PrintMore Go.Proofs.YthdjmojpnimhjaaDoorW.Pu
set_option linter.unusedVariables false
set_option linter.unusedSimpArgs false
theorem cbor_int_cases (a0 : Int) (h : -9223372036854775808 ≤ a0 ∧ a0 ≤ 9223372036854775807) : ∃ t n : Int, (t = 0 ∨ t = 1) ∧ (0 ≤ n ∧ n ≤ 9223372036854775807) ∧ cbor_Int.f a0 = some (t, n, [], []) ∧ pyxref10_Int.f a0 = some (t, n, [], []) ∧ ∀ k, cbor_Value.f (k + 2) t n [] [] = some (a0, true) := by
 by_cases c : a0 < 0
 ·refine ⟨1, -1 - a0, .inr rfl, by omega, ?_, ?_, fun k => ?_⟩
  ·rw [cbor_Int.f, if_pos c, w64 (by omega) (by omega), wu64 (by omega) (by omega)]
  ·rw [pyxref10_Int.f, if_neg (by omega), w64 (x := a0 + 1) (by omega) (by omega), w64 (x := -(a0 + 1)) (by omega) (by omega), wu64 (by omega) (by omega), show -(a0 + 1) = -1 - a0 by omega]
  ·unfold cbor_Value.f
   rw [if_neg (by decide), show ((1 : Int) != 1) = false from rfl, cbor_Value.j0, if_neg (by decide), decide_eq_false (by omega), cbor_Value.j1, if_neg (by decide), if_pos rfl, w64 (x := -1 - a0) (by omega) (by omega), w64 (by omega) (by omega)]
   exact congrArg some (congrArg (fun x => (x, true)) (by omega))
 ·refine ⟨0, a0, .inl rfl, by omega, ?_, ?_, fun k => ?_⟩
  ·rw [cbor_Int.f, if_neg c, wu64 (by omega) (by omega)]
  ·rw [pyxref10_Int.f, if_pos (by omega), wu64 (by omega) (by omega)]
  ·unfold cbor_Value.f
   rw [if_pos rfl, cbor_Value.j0, if_neg (by decide), decide_eq_false (by omega), cbor_Value.j1, if_neg (by decide), if_neg (by decide), w64 (by omega) (by omega)]
end Go.Proofs.YthdjmojpnimhjaaDoor.PCbg
