import Derived.Test.YtgmnknhfeoleaaaGreatDoorZPXmssx0
namespace Go.Proofs.YtgmnknhfeoleaaaGreatDoor.PXmss
open Go.RowKit Go.Proofs.YtgmnknhfeoleaaaGreatDoorW.PrintWords Go.Proofs.YtgmnknhfeoleaaaGreatDoorW.PrintLast Go.Proofs.YtgmnknhfeoleaaaGreatDoorW.PrintMore
set_option linter.unusedVariables false
set_option linter.unusedSimpArgs false
theorem results_tmp4 {fn : Func} {t u v x : Tmp} (h : fn.results = #[.tmp t, .tmp u, .tmp v, .tmp x]) (tmps : Array Value) (P : Program) (w : World) :
  (results fn tmps).run P w = .ok (.tuple #[tmps.getD t undef, tmps.getD u undef, tmps.getD v undef, tmps.getD x undef]) w := by
 simp [results, h]
def numT : Int → Option (Int × Int × Int × Bool)
 | 20 => some (32, 10, 67, true)
 | 21 => some (32, 16, 67, true)
 | 22 => some (32, 20, 67, true)
 | 23 => some (64, 10, 131, true)
 | 24 => some (64, 16, 131, true)
 | 25 => some (64, 20, 131, true)
 | _ => none
def xmss_Numbers.f (a0 : Int) : Option (Int × Int × Int × Bool) := if 20 ≤ a0 ∧ a0 ≤ 25 then numT a0 else some (0, 0, 0, false)
set_option maxRecDepth 100000 in
theorem num_20 (w : World) : Calls Tryz.prog 17 #[.int .i64 20] w fun e w' => e = .returned (.tuple #[.int .i64 32, .int .i64 10, .int .i64 67, .bool true]) ∧ Drawn0 w w' := by
 have hix : ∀ W, (Instr.index 84 (.agg #[.int .i64 10, .int .i64 16, .int .i64 20]) (.int .i64 0)).run Tryz.prog W = .ok (.int .i64 10) W := fun W => by simp [Instr.index, run_underlying Tryz.underlying84, asIntOf, go_sem]
 have hw1 : IntKind.i64.wrap 64 = 64 := by decide
 have hw2 : IntKind.i64.wrap 67 = 67 := by decide
 have hw3 : IntKind.i64.wrap 0 = 0 := by decide
 go_enter Tryz.func17, Tryz.ntmps17
 go_wp2
 go_region
 all_goals
  go_wp2
  refine bodyPost_ret (results_tmp4 rfl _ _ _) rfl ?_
  exact ⟨rfl, by first | exact Drawn0.refl _ | exact ⟨_, rfl⟩ | (repeat (first | exact Drawn0.refl _ | apply Drawn0.step))⟩
set_option maxRecDepth 100000 in
theorem num_21 (w : World) : Calls Tryz.prog 17 #[.int .i64 21] w fun e w' => e = .returned (.tuple #[.int .i64 32, .int .i64 16, .int .i64 67, .bool true]) ∧ Drawn0 w w' := by
 have hix : ∀ W, (Instr.index 84 (.agg #[.int .i64 10, .int .i64 16, .int .i64 20]) (.int .i64 1)).run Tryz.prog W = .ok (.int .i64 16) W := fun W => by simp [Instr.index, run_underlying Tryz.underlying84, asIntOf, go_sem]
 have hw1 : IntKind.i64.wrap 64 = 64 := by decide
 have hw2 : IntKind.i64.wrap 67 = 67 := by decide
 have hw3 : IntKind.i64.wrap 1 = 1 := by decide
 go_enter Tryz.func17, Tryz.ntmps17
 go_wp2
 go_region
 all_goals
  go_wp2
  refine bodyPost_ret (results_tmp4 rfl _ _ _) rfl ?_
  exact ⟨rfl, by first | exact Drawn0.refl _ | exact ⟨_, rfl⟩ | (repeat (first | exact Drawn0.refl _ | apply Drawn0.step))⟩
set_option maxRecDepth 100000 in
theorem num_22 (w : World) : Calls Tryz.prog 17 #[.int .i64 22] w fun e w' => e = .returned (.tuple #[.int .i64 32, .int .i64 20, .int .i64 67, .bool true]) ∧ Drawn0 w w' := by
 have hix : ∀ W, (Instr.index 84 (.agg #[.int .i64 10, .int .i64 16, .int .i64 20]) (.int .i64 2)).run Tryz.prog W = .ok (.int .i64 20) W := fun W => by simp [Instr.index, run_underlying Tryz.underlying84, asIntOf, go_sem]
 have hw1 : IntKind.i64.wrap 64 = 64 := by decide
 have hw2 : IntKind.i64.wrap 67 = 67 := by decide
 have hw3 : IntKind.i64.wrap 2 = 2 := by decide
 go_enter Tryz.func17, Tryz.ntmps17
 go_wp2
 go_region
 all_goals
  go_wp2
  refine bodyPost_ret (results_tmp4 rfl _ _ _) rfl ?_
  exact ⟨rfl, by first | exact Drawn0.refl _ | exact ⟨_, rfl⟩ | (repeat (first | exact Drawn0.refl _ | apply Drawn0.step))⟩
set_option maxRecDepth 100000 in
theorem num_23 (w : World) : Calls Tryz.prog 17 #[.int .i64 23] w fun e w' => e = .returned (.tuple #[.int .i64 64, .int .i64 10, .int .i64 131, .bool true]) ∧ Drawn0 w w' := by
 have hix : ∀ W, (Instr.index 84 (.agg #[.int .i64 10, .int .i64 16, .int .i64 20]) (.int .i64 0)).run Tryz.prog W = .ok (.int .i64 10) W := fun W => by simp [Instr.index, run_underlying Tryz.underlying84, asIntOf, go_sem]
 have hw1 : IntKind.i64.wrap 128 = 128 := by decide
 have hw2 : IntKind.i64.wrap 131 = 131 := by decide
 have hw3 : IntKind.i64.wrap 0 = 0 := by decide
 go_enter Tryz.func17, Tryz.ntmps17
 go_wp2
 go_region
 all_goals
  go_wp2
  refine bodyPost_ret (results_tmp4 rfl _ _ _) rfl ?_
  exact ⟨rfl, by first | exact Drawn0.refl _ | exact ⟨_, rfl⟩ | (repeat (first | exact Drawn0.refl _ | apply Drawn0.step))⟩
set_option maxRecDepth 100000 in
theorem num_24 (w : World) : Calls Tryz.prog 17 #[.int .i64 24] w fun e w' => e = .returned (.tuple #[.int .i64 64, .int .i64 16, .int .i64 131, .bool true]) ∧ Drawn0 w w' := by
 have hix : ∀ W, (Instr.index 84 (.agg #[.int .i64 10, .int .i64 16, .int .i64 20]) (.int .i64 1)).run Tryz.prog W = .ok (.int .i64 16) W := fun W => by simp [Instr.index, run_underlying Tryz.underlying84, asIntOf, go_sem]
 have hw1 : IntKind.i64.wrap 128 = 128 := by decide
 have hw2 : IntKind.i64.wrap 131 = 131 := by decide
 have hw3 : IntKind.i64.wrap 1 = 1 := by decide
 go_enter Tryz.func17, Tryz.ntmps17
 go_wp2
 go_region
 all_goals
  go_wp2
  refine bodyPost_ret (results_tmp4 rfl _ _ _) rfl ?_
  exact ⟨rfl, by first | exact Drawn0.refl _ | exact ⟨_, rfl⟩ | (repeat (first | exact Drawn0.refl _ | apply Drawn0.step))⟩
set_option maxRecDepth 100000 in
theorem num_25 (w : World) : Calls Tryz.prog 17 #[.int .i64 25] w fun e w' => e = .returned (.tuple #[.int .i64 64, .int .i64 20, .int .i64 131, .bool true]) ∧ Drawn0 w w' := by
 have hix : ∀ W, (Instr.index 84 (.agg #[.int .i64 10, .int .i64 16, .int .i64 20]) (.int .i64 2)).run Tryz.prog W = .ok (.int .i64 20) W := fun W => by simp [Instr.index, run_underlying Tryz.underlying84, asIntOf, go_sem]
 have hw1 : IntKind.i64.wrap 128 = 128 := by decide
 have hw2 : IntKind.i64.wrap 131 = 131 := by decide
 have hw3 : IntKind.i64.wrap 2 = 2 := by decide
 go_enter Tryz.func17, Tryz.ntmps17
 go_wp2
 go_region
 all_goals
  go_wp2
  refine bodyPost_ret (results_tmp4 rfl _ _ _) rfl ?_
  exact ⟨rfl, by first | exact Drawn0.refl _ | exact ⟨_, rfl⟩ | (repeat (first | exact Drawn0.refl _ | apply Drawn0.step))⟩
set_option maxRecDepth 100000 in
theorem num_out (a0 : Int) (h : a0 < 20 ∨ 25 < a0) (w : World) : Calls Tryz.prog 17 #[.int .i64 a0] w fun e w' => e = .returned (.tuple #[.int .i64 0, .int .i64 0, .int .i64 0, .bool false]) ∧ Drawn0 w w' := by
 by_cases c : a0 < 20
 ·have c1 : decide (a0 < 20) = true := decide_eq_true c
  go_enter Tryz.func17, Tryz.ntmps17
  go_wp2
  refine bodyPost_ret (results_tmp4 rfl _ _ _) rfl ?_
  exact ⟨rfl, Drawn0.refl _⟩
 ·have c1 : decide (a0 < 20) = false := decide_eq_false c
  have c2 : decide (a0 > 25) = true := decide_eq_true (by omega)
  go_enter Tryz.func17, Tryz.ntmps17
  go_wp2
  refine bodyPost_ret (results_tmp4 rfl _ _ _) rfl ?_
  exact ⟨rfl, Drawn0.refl _⟩
theorem xmss_Numbers.calls (a0 : Int) (r1 : Int) (r2 : Int) (r3 : Int) (r4 : Bool) (w : World) (h : xmss_Numbers.f a0 = some (r1, r2, r3, r4)) :
  Calls Tryz.prog 17 #[.int .i64 a0] w fun e w' => e = .returned (.tuple #[.int .i64 r1, .int .i64 r2, .int .i64 r3, .bool r4]) ∧ Drawn0 w w' := by
 rw [xmss_Numbers.f] at h
 by_cases c : 20 ≤ a0 ∧ a0 ≤ 25
 ·rw [if_pos c] at h
  rcases (show a0 = 20 ∨ a0 = 21 ∨ a0 = 22 ∨ a0 = 23 ∨ a0 = 24 ∨ a0 = 25 by omega) with rfl | rfl | rfl | rfl | rfl | rfl
  ·have h := Option.some.inj h
   simp only [Prod.mk.injEq] at h
   obtain ⟨rfl, rfl, rfl, rfl⟩ := h
   exact num_20 w
  ·have h := Option.some.inj h
   simp only [Prod.mk.injEq] at h
   obtain ⟨rfl, rfl, rfl, rfl⟩ := h
   exact num_21 w
  ·have h := Option.some.inj h
   simp only [Prod.mk.injEq] at h
   obtain ⟨rfl, rfl, rfl, rfl⟩ := h
   exact num_22 w
  ·have h := Option.some.inj h
   simp only [Prod.mk.injEq] at h
   obtain ⟨rfl, rfl, rfl, rfl⟩ := h
   exact num_23 w
  ·have h := Option.some.inj h
   simp only [Prod.mk.injEq] at h
   obtain ⟨rfl, rfl, rfl, rfl⟩ := h
   exact num_24 w
  ·have h := Option.some.inj h
   simp only [Prod.mk.injEq] at h
   obtain ⟨rfl, rfl, rfl, rfl⟩ := h
   exact num_25 w
 ·rw [if_neg c] at h
  have h := Option.some.inj h
  simp only [Prod.mk.injEq] at h
  obtain ⟨rfl, rfl, rfl, rfl⟩ := h
  exact num_out a0 (by omega) w
end Go.Proofs.YtgmnknhfeoleaaaGreatDoor.PXmss
