/- MeterMatchesReference: no condition. -/
import Derived.Test.YtifejkgppdjeoaaXPure
import Derived.Test.YtifejkgppdjeoaaPMeterx2
namespace Go.Proofs.Ytifejkgppdjeoaa.Pure
open Go.RowKit Go.Proofs.Ytifejkgppdjeoaa.PMeter Go.Proofs.YtifejkgppdjeoaaW.PrintWords Go.Proofs.YtifejkgppdjeoaaW.PrintMore Go.Proofs.YtifejkgppdjeoaaW.PrintLast Go.Proofs.YtifejkgppdjeoaaW.Pu
set_option linter.unusedVariables false

theorem full_eq (b c : Int) : (b - c == 0) = (b == c) := by
  by_cases h : b = c
  · rw [beq_iff_eq.2 h, beq_iff_eq.2 (by omega)]
  · rw [beq_eq_false_iff_ne.2 h, beq_eq_false_iff_ne.2 (by omega)]
theorem meter_l0 (l : List Int) (hw : ∀ x ∈ l, (Lit.int .i64 x).wf = true) (hl : l.length ≤ 300) (b : Int) (hb : b ≤ 4611686018427387904) : ∀ (m i : Nat) (c : Int), l.length - i = m → i ≤ l.length → 0 ≤ c → c ≤ b →
    Ev (fun k => pyxlaw03_MeterMatchesReference.l0 k l (i : Int) c b c b) true := by
  intro m
  induction m with
  | zero =>
    intro i c e hi h0 h1
    exact Ev.last fun k => by rw [pyxlaw03_MeterMatchesReference.l0, if_neg (by omega)]
  | succ m ih =>
    intro i c e hi h0 h1
    have hlt : i < l.length := by omega
    have hx := wf_i64 (hw _ (rd_mem hlt))
    generalize hX : rd l (i : Int) = x at hx
    have e1 : wrap64 (b - c) = b - c := w64 (by omega) (by omega)
    by_cases c1 : x < 0
    · have h := ih (i + 1) c (by omega) (by omega) h0 h1
      refine Ev.step' h fun k => ?_
      rw [pyxlaw03_MeterMatchesReference.l0, if_pos (by omega), if_pos (by omega), hX]
      simp only [pyxref03_Add.f, meter_Add.f, meter_Count.f, meter_Left.f, meter_Full.f, if_pos c1, Option.bind_some, e1, wsucc (show i < 4611686018427387904 by omega)]
      rw [if_neg (by simp), if_pos trivial, if_pos trivial, if_neg (by rw [full_eq]; simp)]
    · by_cases c2 : x > b - c
      · have h := ih (i + 1) c (by omega) (by omega) h0 h1
        refine Ev.step' h fun k => ?_
        rw [pyxlaw03_MeterMatchesReference.l0, if_pos (by omega), if_pos (by omega), hX]
        simp only [pyxref03_Add.f, meter_Add.f, meter_Count.f, meter_Left.f, meter_Full.f, if_neg c1, e1, if_pos c2, Option.bind_some, wsucc (show i < 4611686018427387904 by omega)]
        rw [if_neg (by simp), if_pos trivial, if_pos trivial, if_neg (by rw [full_eq]; simp)]
      · have h := ih (i + 1) (c + x) (by omega) (by omega) (by omega) (by omega)
        have e2 : wrap64 (c + x) = c + x := w64 (by omega) (by omega)
        have e3 : wrap64 (b - (c + x)) = b - (c + x) := w64 (by omega) (by omega)
        refine Ev.step' h fun k => ?_
        rw [pyxlaw03_MeterMatchesReference.l0, if_pos (by omega), if_pos (by omega), hX]
        simp only [pyxref03_Add.f, meter_Add.f, meter_Count.f, meter_Left.f, meter_Full.f, if_neg c1, e1, if_neg c2, Option.bind_some, e2, e3, wsucc (show i < 4611686018427387904 by omega)]
        rw [if_neg (by simp), if_pos trivial, if_pos trivial, if_neg (by rw [full_eq]; simp)]
theorem MeterMatchesReference : pyxlaw03_MeterMatchesReference.Pure := by
  intro a l ha _ hl hw
  have ha' := wf_i64 ha
  have hA : Ev (fun k => (pyxlaw03_awake.f).bind fun t => some t) true := Ev.const' fun k => rfl
  refine Ev.rounds (g := fun k => pyxlaw03_MeterMatchesReference.f k a l) ?_
  generalize hB : (if a < 0 then 0 else if 4611686018427387904 < a then 4611686018427387904 else a) = B
  have hB1 : 0 ≤ B ∧ B ≤ 4611686018427387904 := by subst hB; split <;> (try split) <;> omega
  have hN : meter_New.f a = some (0, B) := by rw [meter_New.f, hB]
  have hR : pyxref03_New.f a = some (0, B) := by
    unfold pyxref03_New.f
    subst hB
    split
    · rfl
    · split <;> rfl
  by_cases c : (l.length : Int) > 300
  · refine Ev.step' (f := fun k => (pyxlaw03_awake.f).bind fun t => some t) hA fun k => ?_
    rw [pyxlaw03_MeterMatchesReference.f, hN, Option.bind_some]
    simp only [pyxlaw03_awake.f, Option.bind_some, if_true, decide_eq_true c, pyxlaw03_MeterMatchesReference.j0]
  · have h := meter_l0 l hw (by omega) B hB1.2 l.length 0 0 (by omega) (by omega) (by omega) hB1.1
    refine Ev.step' h fun k => ?_
    rw [pyxlaw03_MeterMatchesReference.f, hN, Option.bind_some]
    simp only [pyxlaw03_awake.f, Option.bind_some, if_true, decide_eq_false c, pyxlaw03_MeterMatchesReference.j0, hR]
    rfl
end Go.Proofs.Ytifejkgppdjeoaa.Pure
