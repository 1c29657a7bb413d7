/- The reference's Same, as plain lists: no condition. -/
import Derived.Test.YthdjmojpnimhjaaDoorZXPure
import Derived.Test.YthdjmojpnimhjaaDoorZPCbix10
namespace Go.Proofs.YthdjmojpnimhjaaDoor.PCbi
open Go.RowKit Go.Proofs.YthdjmojpnimhjaaDoorW.PrintWords Go.Proofs.YthdjmojpnimhjaaDoorW.PrintMore Go.Proofs.YthdjmojpnimhjaaDoorW.Pu
set_option linter.unusedVariables false
theorem same_l (a b : List Int) (hlen : a.length = b.length) (hn : a.length < 4611686018427387904) : ∀ d i : Nat, a.length - i = d → i ≤ a.length →
    Ev (fun k => pyxref01_Same.l0 k a b (i : Int)) (decide (a.drop i = b.drop i)) := by
  intro d
  induction d with
  | zero =>
    intro i hd hi
    have e1 : a.drop i = [] := List.drop_eq_nil_of_le (by omega)
    have e2 : b.drop i = [] := List.drop_eq_nil_of_le (by omega)
    rw [e1, e2]
    exact Ev.last fun k => by rw [pyxref01_Same.l0, if_neg (by omega)]; rfl
  | succ d ih =>
    intro i hd hi
    have h1 : i < a.length := by omega
    have h2 : i < b.length := by omega
    rw [drop_rd a h1, drop_rd b h2]
    by_cases hr : rd a i = rd b i
    · rw [hr]
      have e : decide (rd b ↑i :: List.drop (i + 1) a = rd b ↑i :: List.drop (i + 1) b) = decide (a.drop (i + 1) = b.drop (i + 1)) := by simp
      rw [e]
      exact Ev.step' (ih (i + 1) (by omega) (by omega)) fun k => by rw [pyxref01_Same.l0, if_pos (by omega), if_pos (by omega), if_pos (by omega), if_pos hr, wsucc (by omega)]
    · have e : decide (rd a ↑i :: List.drop (i + 1) a = rd b ↑i :: List.drop (i + 1) b) = false := by simp [hr]
      rw [e]
      exact Ev.last fun k => by rw [pyxref01_Same.l0, if_pos (by omega), if_pos (by omega), if_pos (by omega), if_neg hr]
theorem same_ev (a b : List Int) (hn : a.length < 4611686018427387904) : Ev (fun k => pyxref01_Same.f k a b) (decide (a = b)) := by
  by_cases h : a.length = b.length
  · have := same_l a b h hn a.length 0 (by omega) (by omega)
    simp only [List.drop_zero] at this
    refine Ev.congr (fun k => ?_) this
    rw [pyxref01_Same.f, if_pos (by omega)]
    rfl
  · have e : decide (a = b) = false := by simp; intro h'; exact h (by rw [h'])
    rw [e]
    exact Ev.const' fun k => by rw [pyxref01_Same.f, if_neg (by omega)]
end Go.Proofs.YthdjmojpnimhjaaDoor.PCbi
