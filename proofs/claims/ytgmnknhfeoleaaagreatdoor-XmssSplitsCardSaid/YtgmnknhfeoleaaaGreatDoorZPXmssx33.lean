import Derived.Test.YtgmnknhfeoleaaaGreatDoorZQ
import Derived.Test.YtgmnknhfeoleaaaGreatDoorZSq
import Derived.Test.YtgmnknhfeoleaaaGreatDoorZPXmssx0
import Derived.Test.YtgmnknhfeoleaaaGreatDoorZPXmssx21
import Derived.Test.YtgmnknhfeoleaaaGreatDoorZPXmssx22
import Derived.Test.YtgmnknhfeoleaaaGreatDoorZPXmssx23
import Derived.Test.YtgmnknhfeoleaaaGreatDoorZPXmssx24
import Derived.Test.YtgmnknhfeoleaaaGreatDoorZPXmssx25
import Derived.Test.YtgmnknhfeoleaaaGreatDoorZPXmssx29
import Derived.Test.YtgmnknhfeoleaaaGreatDoorZPXmssx30
import Derived.Test.YtgmnknhfeoleaaaGreatDoorZPXmssx32
namespace Go.Proofs.YtgmnknhfeoleaaaGreatDoor.PXmss
open Go.RowKit Go.Proofs.YtgmnknhfeoleaaaGreatDoorW.PrintWords Go.Proofs.YtgmnknhfeoleaaaGreatDoorW.PrintLast Go.Proofs.YtgmnknhfeoleaaaGreatDoorW.PrintMore
attribute [local go_sem] max2_int min2_int max_two min_two max_three min_three max_four min_four
set_option linter.unusedVariables false
set_option linter.unusedSimpArgs false
mutual
def pyxlaw22_XmssSplits.j0 : Nat → Int → Int → Int → List (S65) → Bool → Option (Bool)
 | 0, _, _, _, _, _ => none
 | k + 1, x0, x1, x2, x3, x25 => if x25 = true then ((pyxlaw22_awake.f).bind fun t423 => (some t423)) else ((pyxref22_Make.f k (wrap64 (20 + (Int.tmod (wrap64 (x0)) 6))) x1 x2).bind fun t424 => ((pyxlaw22_changed.f k t424 x3).bind fun t427 => ((xmss_Split.f t427).bind fun bt430 => ((pyxref22_Signature.f k t427).bind fun bt443 => (if bt443.2.1 = 0 then ((pyxref22_Split.f k t427).bind fun bt448 => (if bt430.2.2.2.2.2.isNone = true then (if bt430.1 = bt448.1 then (if bt430.2.1 = bt448.2.1 then ((pyxref01_Same.f k bt430.2.2.1 bt448.2.2.1).bind fun t461 => (if t461 = true then (if (bt430.2.2.2.1.length : Int) = (bt448.2.2.2.1.length : Int) then (pyxlaw22_XmssSplits.j1 k t427 ((bt430.2.2.2.2.1.length : Int) != (bt448.2.2.2.2.length : Int)) bt430.1 bt430.2.1 bt430.2.2.1 bt430.2.2.2.1 bt430.2.2.2.2.1 bt448.1 bt448.2.1 bt448.2.2.1 bt448.2.2.2.1 bt448.2.2.2.2) else (pyxlaw22_XmssSplits.j1 k t427 true bt430.1 bt430.2.1 bt430.2.2.1 bt430.2.2.2.1 bt430.2.2.2.2.1 bt448.1 bt448.2.1 bt448.2.2.1 bt448.2.2.2.1 bt448.2.2.2.2)) else (pyxlaw22_XmssSplits.j1 k t427 true bt430.1 bt430.2.1 bt430.2.2.1 bt430.2.2.2.1 bt430.2.2.2.2.1 bt448.1 bt448.2.1 bt448.2.2.1 bt448.2.2.2.1 bt448.2.2.2.2))) else (pyxlaw22_XmssSplits.j1 k t427 true bt430.1 bt430.2.1 bt430.2.2.1 bt430.2.2.2.1 bt430.2.2.2.2.1 bt448.1 bt448.2.1 bt448.2.2.1 bt448.2.2.2.1 bt448.2.2.2.2)) else (pyxlaw22_XmssSplits.j1 k t427 true bt430.1 bt430.2.1 bt430.2.2.1 bt430.2.2.2.1 bt430.2.2.2.2.1 bt448.1 bt448.2.1 bt448.2.2.1 bt448.2.2.2.1 bt448.2.2.2.2)) else (pyxlaw22_XmssSplits.j1 k t427 true bt430.1 bt430.2.1 bt430.2.2.1 bt430.2.2.2.1 bt430.2.2.2.2.1 bt448.1 bt448.2.1 bt448.2.2.1 bt448.2.2.2.1 bt448.2.2.2.2))) else ((pyxlaw22_told.f bt430.2.2.2.2.2 bt443.2.1 bt443.2.2).bind fun t447 => (if t447 = true then (if bt430.1 = 0 then (some ((wrap64 ((wrap64 ((bt430.2.2.1.length : Int) + (bt430.2.2.2.1.length : Int))) + (bt430.2.2.2.2.1.length : Int))) == 0)) else (some false)) else (some false))))))))
def pyxlaw22_XmssSplits.j1 : Nat → List Int → Bool → Int → Int → List Int → List (List Int) → List (List Int) → Int → Int → List Int → List (List Int) → List (List Int) → Option (Bool)
 | 0, _, _, _, _, _, _, _, _, _, _, _, _ => none
 | k + 1, x9, x114, x443000, x443001, x443002, x443003, x443004, x460000, x460001, x460002, x460003, x460004 => if x114 = true then (some false) else (pyxlaw22_XmssSplits.l0 k x9 0 x443000 x443001 x443002 x443003 x443004 x460000 x460001 x460002 x460003 x460004)
def pyxlaw22_XmssSplits.l0 : Nat → List Int → Int → Int → Int → List Int → List (List Int) → List (List Int) → Int → Int → List Int → List (List Int) → List (List Int) → Option (Bool)
 | 0, _, _, _, _, _, _, _, _, _, _, _, _ => none
 | k + 1, x9, x15, x443000, x443001, x443002, x443003, x443004, x460000, x460001, x460002, x460003, x460004 => if x15 < (x443003.length : Int) then (if 0 ≤ x15 then (if x15 < (x460003.length : Int) then ((pyxref01_Same.f k (rd_L10 x443003 x15) (rd_L10 x460003 x15)).bind fun t464 => (if t464 = true then (pyxlaw22_XmssSplits.l0 k x9 (wrap64 (x15 + 1)) x443000 x443001 x443002 x443003 x443004 x460000 x460001 x460002 x460003 x460004) else (some false))) else (none)) else (none)) else (pyxlaw22_XmssSplits.l1 k x9 0 x443000 x443001 x443002 x443003 x443004 x460000 x460001 x460002 x460003 x460004)
def pyxlaw22_XmssSplits.l1 : Nat → List Int → Int → Int → Int → List Int → List (List Int) → List (List Int) → Int → Int → List Int → List (List Int) → List (List Int) → Option (Bool)
 | 0, _, _, _, _, _, _, _, _, _, _, _, _ => none
 | k + 1, x9, x16, x443000, x443001, x443002, x443003, x443004, x460000, x460001, x460002, x460003, x460004 => if x16 < (x443004.length : Int) then (if 0 ≤ x16 then (if x16 < (x460004.length : Int) then ((pyxref01_Same.f k (rd_L10 x443004 x16) (rd_L10 x460004 x16)).bind fun t467 => (if t467 = true then (pyxlaw22_XmssSplits.l1 k x9 (wrap64 (x16 + 1)) x443000 x443001 x443002 x443003 x443004 x460000 x460001 x460002 x460003 x460004) else (some false))) else (none)) else (none)) else ((xmss_Join.f x443000 x443001 x443002 x443003 x443004).bind fun bt468 => (if bt468.2 = true then ((pyxref01_Same.f k bt468.1 x9).bind fun t472 => (some t472)) else (some false)))
end
def pyxlaw22_XmssSplits.f (k : Nat) (a0 : Int) (a1 : Int) (a2 : Int) (l3 : List (S65)) : Option (Bool) := (pyxlaw22_awake.f).bind fun t422 => (if t422 = true then (pyxlaw22_XmssSplits.j0 k a0 a1 a2 l3 (decide ((l3.length : Int) > 20))) else (pyxlaw22_XmssSplits.j0 k a0 a1 a2 l3 true))
set_option maxHeartbeats 8000000 in
set_option maxRecDepth 100000 in
theorem pyxlaw22_XmssSplits.calls (k : Nat) (a0 : Int) (a1 : Int) (a2 : Int) (A3 : Option Addr) (c3 : Nat) (l3 : List (S65)) (r : Bool) (w : World) (hr3 : Kd.C k65 w A3 l3.length l3) (hc3 : l3.length ≤ c3) (h : pyxlaw22_XmssSplits.f k a0 a1 a2 l3 = some r) (hG : GOK w) (hr_ : r = true) :
  Calls Tryz.prog 6 #[.int .u8 a0, .int .u32 a1, .int .u32 a2, .slice A3 l3.length c3] w fun e w' => e = .returned (.bool r) ∧ Below w.heap.size w w' := by
 have HG := Aside0.mk hG
 clear hG
 have HT := Aside0.mk hr_
 clear hr_
 have hu54 := Tryz.underlying54
 have hu34 := Tryz.underlying34
 have hu57 := Tryz.underlying57
 have hu30 := Tryz.underlying30
 have HR3 := Aside0.mk hr3
 have HC3 := Aside0.mk hc3
 clear hr3 hc3
 have HB := Aside0.mk (Below.refl w.heap.size w)
 have H : ((pyxlaw22_awake.f).bind fun t422 => (if t422 = true then (pyxlaw22_XmssSplits.j0 k a0 a1 a2 l3 (decide ((l3.length : Int) > 20))) else (pyxlaw22_XmssSplits.j0 k a0 a1 a2 l3 true))) = some r := h
 clear h
 have HC5 := Aside0.mk H
 clear H
 go_enter Tryz.func6, Tryz.ntmps6
 go_upto_region 1 with (fail)
 repeat (go_quiet (fail); go_upto_region 1 with (fail))
 go_cut [25] (fun v25 wc => ∃ (kq : Nat) (x25_4 : Bool), v25 = .bool x25_4 ∧ Aside0 (pyxlaw22_XmssSplits.j0 kq a0 a1 a2 l3 x25_4 = some r) ∧ Aside0 (kq ≤ k) ∧ Aside0 (Below w.heap.size w wc))
 case first =>
  have H := HC5.out
  clear HC5
  replace H := Option.bind_eq_some_iff.mp H
  obtain ⟨t422, A60, H⟩ := H
  replace H : (if t422 = true then (pyxlaw22_XmssSplits.j0 k a0 a1 a2 l3 (decide ((l3.length : Int) > 20))) else (pyxlaw22_XmssSplits.j0 k a0 a1 a2 l3 true)) = some r := H
  have A6 := Aside0.mk A60
  clear A60
  by_cases c7 : t422 = true
  ·subst c7
   have H1 : (pyxlaw22_XmssSplits.j0 k a0 a1 a2 l3 (decide ((l3.length : Int) > 20))) = some r := by rw [if_pos rfl] at H; exact H
   clear H
   have H := H1
   clear H1
   have H' := Aside0.mk H
   clear H
   go_wp2_with (first | (go_at_call 8; (with_reducible refine (pyxlaw22_awake.calls  true _ A6.out q9_).mono ?_); rintro e w8 ⟨rfl, hb⟩; have n0_ := Aside0.mk (below_step q30_ hb); clear HB; have HB := n0_; clear n0_; (try clear hb); (try clear hb2); (try clear hk); (try clear hi)))
   repeat (go_quiet (first | (go_at_call 8; (with_reducible refine (pyxlaw22_awake.calls  true _ A6.out q9_).mono ?_); rintro e w8 ⟨rfl, hb⟩; have n0_ := Aside0.mk (below_step q30_ hb); clear HB; have HB := n0_; clear n0_; (try clear hb); (try clear hb2); (try clear hk); (try clear hi))); try go_wp2_with (first | (go_at_call 8; (with_reducible refine (pyxlaw22_awake.calls  true _ A6.out q9_).mono ?_); rintro e w8 ⟨rfl, hb⟩; have n0_ := Aside0.mk (below_step q30_ hb); clear HB; have HB := n0_; clear n0_; (try clear hb); (try clear hb2); (try clear hk); (try clear hi))))
   go_meet
   case rel => exact ⟨_, (decide ((l3.length : Int) > 20)), q64_, H', ⟨by first | omega | exact Nat.le_refl _⟩, ⟨by repeat (first | (with_reducible first | exact HB.out | apply below_alloc | apply pw_below_drewN | apply below_drew1) | exact HB.out)⟩⟩
  ·replace c7 := Bool.eq_false_iff.mpr c7
   subst c7
   have H1 : (pyxlaw22_XmssSplits.j0 k a0 a1 a2 l3 true) = some r := by rw [if_neg (show ¬ (false = true) by decide)] at H; exact H
   clear H
   have H := H1
   clear H1
   have H' := Aside0.mk H
   clear H
   go_wp2_with (first | (go_at_call 8; (with_reducible refine (pyxlaw22_awake.calls  false _ A6.out q9_).mono ?_); rintro e w9 ⟨rfl, hb⟩; have n0_ := Aside0.mk (below_step q30_ hb); clear HB; have HB := n0_; clear n0_; (try clear hb); (try clear hb2); (try clear hk); (try clear hi)))
   repeat (go_quiet (first | (go_at_call 8; (with_reducible refine (pyxlaw22_awake.calls  false _ A6.out q9_).mono ?_); rintro e w9 ⟨rfl, hb⟩; have n0_ := Aside0.mk (below_step q30_ hb); clear HB; have HB := n0_; clear n0_; (try clear hb); (try clear hb2); (try clear hk); (try clear hi))); try go_wp2_with (first | (go_at_call 8; (with_reducible refine (pyxlaw22_awake.calls  false _ A6.out q9_).mono ?_); rintro e w9 ⟨rfl, hb⟩; have n0_ := Aside0.mk (below_step q30_ hb); clear HB; have HB := n0_; clear n0_; (try clear hb); (try clear hb2); (try clear hk); (try clear hi))))
   go_meet
   case rel => exact ⟨_, (true), q64_, H', ⟨by first | omega | exact Nat.le_refl _⟩, ⟨by repeat (first | (with_reducible first | exact HB.out | apply below_alloc | apply pw_below_drewN | apply below_drew1) | exact HB.out)⟩⟩
 case rest =>
  clear HC5
  try clear p2
  try clear c3
  try clear c6
  try clear c7
  obtain ⟨kq, x25_4, rfl, HA, HJ4, HB⟩ := hcut
  cases kq with
  | zero => exact absurd HA.out (by simp [pyxlaw22_XmssSplits.j0])
  | succ kj4 =>
   have H := HA.out
   clear HA
   simp only [pyxlaw22_XmssSplits.j0] at H
   by_cases c10 : x25_4 = true
   ·subst c10
    have H1 : ((pyxlaw22_awake.f).bind fun t423 => (some t423)) = some r := by rw [if_pos rfl] at H; exact H
    clear H
    have H := H1
    clear H1
    replace H := Option.bind_eq_some_iff.mp H
    obtain ⟨t423, A110, H⟩ := H
    replace H : (some t423) = some r := H
    have A11 := Aside0.mk A110
    clear A110
    obtain rfl := Option.some.inj H
    go_wp2_with (first | (go_at_call 8; (with_reducible refine (pyxlaw22_awake.calls  t423 _ A11.out q9_).mono ?_); rintro e w12 ⟨rfl, hb⟩; have n0_ := Aside0.mk (below_step q30_ hb); clear HB; have HB := n0_; clear n0_; (try clear hb); (try clear hb2); (try clear hk); (try clear hi)))
    repeat (go_quiet (first | (go_at_call 8; (with_reducible refine (pyxlaw22_awake.calls  t423 _ A11.out q9_).mono ?_); rintro e w12 ⟨rfl, hb⟩; have n0_ := Aside0.mk (below_step q30_ hb); clear HB; have HB := n0_; clear n0_; (try clear hb); (try clear hb2); (try clear hk); (try clear hi))); try go_wp2_with (first | (go_at_call 8; (with_reducible refine (pyxlaw22_awake.calls  t423 _ A11.out q9_).mono ?_); rintro e w12 ⟨rfl, hb⟩; have n0_ := Aside0.mk (below_step q30_ hb); clear HB; have HB := n0_; clear n0_; (try clear hb); (try clear hb2); (try clear hk); (try clear hi))))
    go_ret
    exact ⟨by first | rfl | (simp [errW_none, errW_some] <;> rfl) | (simp [*, errW_none, errW_some] <;> rfl), by repeat (first | (with_reducible first | exact HB.out | apply below_alloc | apply pw_below_drewN | apply below_drew1) | exact HB.out)⟩
   ·replace c10 := Bool.eq_false_iff.mpr c10
    subst c10
    have H1 : ((pyxref22_Make.f kj4 (wrap64 (20 + (Int.tmod (wrap64 (a0)) 6))) a1 a2).bind fun t424 => ((pyxlaw22_changed.f kj4 t424 l3).bind fun t427 => ((xmss_Split.f t427).bind fun bt430 => ((pyxref22_Signature.f kj4 t427).bind fun bt443 => (if bt443.2.1 = 0 then ((pyxref22_Split.f kj4 t427).bind fun bt448 => (if bt430.2.2.2.2.2.isNone = true then (if bt430.1 = bt448.1 then (if bt430.2.1 = bt448.2.1 then ((pyxref01_Same.f kj4 bt430.2.2.1 bt448.2.2.1).bind fun t461 => (if t461 = true then (if (bt430.2.2.2.1.length : Int) = (bt448.2.2.2.1.length : Int) then (pyxlaw22_XmssSplits.j1 kj4 t427 ((bt430.2.2.2.2.1.length : Int) != (bt448.2.2.2.2.length : Int)) bt430.1 bt430.2.1 bt430.2.2.1 bt430.2.2.2.1 bt430.2.2.2.2.1 bt448.1 bt448.2.1 bt448.2.2.1 bt448.2.2.2.1 bt448.2.2.2.2) else (pyxlaw22_XmssSplits.j1 kj4 t427 true bt430.1 bt430.2.1 bt430.2.2.1 bt430.2.2.2.1 bt430.2.2.2.2.1 bt448.1 bt448.2.1 bt448.2.2.1 bt448.2.2.2.1 bt448.2.2.2.2)) else (pyxlaw22_XmssSplits.j1 kj4 t427 true bt430.1 bt430.2.1 bt430.2.2.1 bt430.2.2.2.1 bt430.2.2.2.2.1 bt448.1 bt448.2.1 bt448.2.2.1 bt448.2.2.2.1 bt448.2.2.2.2))) else (pyxlaw22_XmssSplits.j1 kj4 t427 true bt430.1 bt430.2.1 bt430.2.2.1 bt430.2.2.2.1 bt430.2.2.2.2.1 bt448.1 bt448.2.1 bt448.2.2.1 bt448.2.2.2.1 bt448.2.2.2.2)) else (pyxlaw22_XmssSplits.j1 kj4 t427 true bt430.1 bt430.2.1 bt430.2.2.1 bt430.2.2.2.1 bt430.2.2.2.2.1 bt448.1 bt448.2.1 bt448.2.2.1 bt448.2.2.2.1 bt448.2.2.2.2)) else (pyxlaw22_XmssSplits.j1 kj4 t427 true bt430.1 bt430.2.1 bt430.2.2.1 bt430.2.2.2.1 bt430.2.2.2.2.1 bt448.1 bt448.2.1 bt448.2.2.1 bt448.2.2.2.1 bt448.2.2.2.2))) else ((pyxlaw22_told.f bt430.2.2.2.2.2 bt443.2.1 bt443.2.2).bind fun t447 => (if t447 = true then (if bt430.1 = 0 then (some ((wrap64 ((wrap64 ((bt430.2.2.1.length : Int) + (bt430.2.2.2.1.length : Int))) + (bt430.2.2.2.2.1.length : Int))) == 0)) else (some false)) else (some false)))))))) = some r := by rw [if_neg (show ¬ (false = true) by decide)] at H; exact H
    clear H
    have H := H1
    clear H1
    replace H := Option.bind_eq_some_iff.mp H
    obtain ⟨t424, A130, H⟩ := H
    replace H : ((pyxlaw22_changed.f kj4 t424 l3).bind fun t427 => ((xmss_Split.f t427).bind fun bt430 => ((pyxref22_Signature.f kj4 t427).bind fun bt443 => (if bt443.2.1 = 0 then ((pyxref22_Split.f kj4 t427).bind fun bt448 => (if bt430.2.2.2.2.2.isNone = true then (if bt430.1 = bt448.1 then (if bt430.2.1 = bt448.2.1 then ((pyxref01_Same.f kj4 bt430.2.2.1 bt448.2.2.1).bind fun t461 => (if t461 = true then (if (bt430.2.2.2.1.length : Int) = (bt448.2.2.2.1.length : Int) then (pyxlaw22_XmssSplits.j1 kj4 t427 ((bt430.2.2.2.2.1.length : Int) != (bt448.2.2.2.2.length : Int)) bt430.1 bt430.2.1 bt430.2.2.1 bt430.2.2.2.1 bt430.2.2.2.2.1 bt448.1 bt448.2.1 bt448.2.2.1 bt448.2.2.2.1 bt448.2.2.2.2) else (pyxlaw22_XmssSplits.j1 kj4 t427 true bt430.1 bt430.2.1 bt430.2.2.1 bt430.2.2.2.1 bt430.2.2.2.2.1 bt448.1 bt448.2.1 bt448.2.2.1 bt448.2.2.2.1 bt448.2.2.2.2)) else (pyxlaw22_XmssSplits.j1 kj4 t427 true bt430.1 bt430.2.1 bt430.2.2.1 bt430.2.2.2.1 bt430.2.2.2.2.1 bt448.1 bt448.2.1 bt448.2.2.1 bt448.2.2.2.1 bt448.2.2.2.2))) else (pyxlaw22_XmssSplits.j1 kj4 t427 true bt430.1 bt430.2.1 bt430.2.2.1 bt430.2.2.2.1 bt430.2.2.2.2.1 bt448.1 bt448.2.1 bt448.2.2.1 bt448.2.2.2.1 bt448.2.2.2.2)) else (pyxlaw22_XmssSplits.j1 kj4 t427 true bt430.1 bt430.2.1 bt430.2.2.1 bt430.2.2.2.1 bt430.2.2.2.2.1 bt448.1 bt448.2.1 bt448.2.2.1 bt448.2.2.2.1 bt448.2.2.2.2)) else (pyxlaw22_XmssSplits.j1 kj4 t427 true bt430.1 bt430.2.1 bt430.2.2.1 bt430.2.2.2.1 bt430.2.2.2.2.1 bt448.1 bt448.2.1 bt448.2.2.1 bt448.2.2.2.1 bt448.2.2.2.2))) else ((pyxlaw22_told.f bt430.2.2.2.2.2 bt443.2.1 bt443.2.2).bind fun t447 => (if t447 = true then (if bt430.1 = 0 then (some ((wrap64 ((wrap64 ((bt430.2.2.1.length : Int) + (bt430.2.2.2.1.length : Int))) + (bt430.2.2.2.2.1.length : Int))) == 0)) else (some false)) else (some false))))))) = some r := H
    have A13 := Aside0.mk A130
    clear A130
    replace H := Option.bind_eq_some_iff.mp H
    obtain ⟨t427, A140, H⟩ := H
    replace H : ((xmss_Split.f t427).bind fun bt430 => ((pyxref22_Signature.f kj4 t427).bind fun bt443 => (if bt443.2.1 = 0 then ((pyxref22_Split.f kj4 t427).bind fun bt448 => (if bt430.2.2.2.2.2.isNone = true then (if bt430.1 = bt448.1 then (if bt430.2.1 = bt448.2.1 then ((pyxref01_Same.f kj4 bt430.2.2.1 bt448.2.2.1).bind fun t461 => (if t461 = true then (if (bt430.2.2.2.1.length : Int) = (bt448.2.2.2.1.length : Int) then (pyxlaw22_XmssSplits.j1 kj4 t427 ((bt430.2.2.2.2.1.length : Int) != (bt448.2.2.2.2.length : Int)) bt430.1 bt430.2.1 bt430.2.2.1 bt430.2.2.2.1 bt430.2.2.2.2.1 bt448.1 bt448.2.1 bt448.2.2.1 bt448.2.2.2.1 bt448.2.2.2.2) else (pyxlaw22_XmssSplits.j1 kj4 t427 true bt430.1 bt430.2.1 bt430.2.2.1 bt430.2.2.2.1 bt430.2.2.2.2.1 bt448.1 bt448.2.1 bt448.2.2.1 bt448.2.2.2.1 bt448.2.2.2.2)) else (pyxlaw22_XmssSplits.j1 kj4 t427 true bt430.1 bt430.2.1 bt430.2.2.1 bt430.2.2.2.1 bt430.2.2.2.2.1 bt448.1 bt448.2.1 bt448.2.2.1 bt448.2.2.2.1 bt448.2.2.2.2))) else (pyxlaw22_XmssSplits.j1 kj4 t427 true bt430.1 bt430.2.1 bt430.2.2.1 bt430.2.2.2.1 bt430.2.2.2.2.1 bt448.1 bt448.2.1 bt448.2.2.1 bt448.2.2.2.1 bt448.2.2.2.2)) else (pyxlaw22_XmssSplits.j1 kj4 t427 true bt430.1 bt430.2.1 bt430.2.2.1 bt430.2.2.2.1 bt430.2.2.2.2.1 bt448.1 bt448.2.1 bt448.2.2.1 bt448.2.2.2.1 bt448.2.2.2.2)) else (pyxlaw22_XmssSplits.j1 kj4 t427 true bt430.1 bt430.2.1 bt430.2.2.1 bt430.2.2.2.1 bt430.2.2.2.2.1 bt448.1 bt448.2.1 bt448.2.2.1 bt448.2.2.2.1 bt448.2.2.2.2))) else ((pyxlaw22_told.f bt430.2.2.2.2.2 bt443.2.1 bt443.2.2).bind fun t447 => (if t447 = true then (if bt430.1 = 0 then (some ((wrap64 ((wrap64 ((bt430.2.2.1.length : Int) + (bt430.2.2.2.1.length : Int))) + (bt430.2.2.2.2.1.length : Int))) == 0)) else (some false)) else (some false)))))) = some r := H
    have A14 := Aside0.mk A140
    clear A140
    replace H := Option.bind_eq_some_iff.mp H
    obtain ⟨⟨t430, t431, t432, t435, t438, t441⟩, A150, H⟩ := H
    replace H : ((pyxref22_Signature.f kj4 t427).bind fun bt443 => (if bt443.2.1 = 0 then ((pyxref22_Split.f kj4 t427).bind fun bt448 => (if t441.isNone = true then (if t430 = bt448.1 then (if t431 = bt448.2.1 then ((pyxref01_Same.f kj4 t432 bt448.2.2.1).bind fun t461 => (if t461 = true then (if (t435.length : Int) = (bt448.2.2.2.1.length : Int) then (pyxlaw22_XmssSplits.j1 kj4 t427 ((t438.length : Int) != (bt448.2.2.2.2.length : Int)) t430 t431 t432 t435 t438 bt448.1 bt448.2.1 bt448.2.2.1 bt448.2.2.2.1 bt448.2.2.2.2) else (pyxlaw22_XmssSplits.j1 kj4 t427 true t430 t431 t432 t435 t438 bt448.1 bt448.2.1 bt448.2.2.1 bt448.2.2.2.1 bt448.2.2.2.2)) else (pyxlaw22_XmssSplits.j1 kj4 t427 true t430 t431 t432 t435 t438 bt448.1 bt448.2.1 bt448.2.2.1 bt448.2.2.2.1 bt448.2.2.2.2))) else (pyxlaw22_XmssSplits.j1 kj4 t427 true t430 t431 t432 t435 t438 bt448.1 bt448.2.1 bt448.2.2.1 bt448.2.2.2.1 bt448.2.2.2.2)) else (pyxlaw22_XmssSplits.j1 kj4 t427 true t430 t431 t432 t435 t438 bt448.1 bt448.2.1 bt448.2.2.1 bt448.2.2.2.1 bt448.2.2.2.2)) else (pyxlaw22_XmssSplits.j1 kj4 t427 true t430 t431 t432 t435 t438 bt448.1 bt448.2.1 bt448.2.2.1 bt448.2.2.2.1 bt448.2.2.2.2))) else ((pyxlaw22_told.f t441 bt443.2.1 bt443.2.2).bind fun t447 => (if t447 = true then (if t430 = 0 then (some ((wrap64 ((wrap64 ((t432.length : Int) + (t435.length : Int))) + (t438.length : Int))) == 0)) else (some false)) else (some false))))) = some r := H
    have A15 := Aside0.mk A150
    clear A150
    replace H := Option.bind_eq_some_iff.mp H
    obtain ⟨⟨t443, t444, t445⟩, A160, H⟩ := H
    replace H : (if t444 = 0 then ((pyxref22_Split.f kj4 t427).bind fun bt448 => (if t441.isNone = true then (if t430 = bt448.1 then (if t431 = bt448.2.1 then ((pyxref01_Same.f kj4 t432 bt448.2.2.1).bind fun t461 => (if t461 = true then (if (t435.length : Int) = (bt448.2.2.2.1.length : Int) then (pyxlaw22_XmssSplits.j1 kj4 t427 ((t438.length : Int) != (bt448.2.2.2.2.length : Int)) t430 t431 t432 t435 t438 bt448.1 bt448.2.1 bt448.2.2.1 bt448.2.2.2.1 bt448.2.2.2.2) else (pyxlaw22_XmssSplits.j1 kj4 t427 true t430 t431 t432 t435 t438 bt448.1 bt448.2.1 bt448.2.2.1 bt448.2.2.2.1 bt448.2.2.2.2)) else (pyxlaw22_XmssSplits.j1 kj4 t427 true t430 t431 t432 t435 t438 bt448.1 bt448.2.1 bt448.2.2.1 bt448.2.2.2.1 bt448.2.2.2.2))) else (pyxlaw22_XmssSplits.j1 kj4 t427 true t430 t431 t432 t435 t438 bt448.1 bt448.2.1 bt448.2.2.1 bt448.2.2.2.1 bt448.2.2.2.2)) else (pyxlaw22_XmssSplits.j1 kj4 t427 true t430 t431 t432 t435 t438 bt448.1 bt448.2.1 bt448.2.2.1 bt448.2.2.2.1 bt448.2.2.2.2)) else (pyxlaw22_XmssSplits.j1 kj4 t427 true t430 t431 t432 t435 t438 bt448.1 bt448.2.1 bt448.2.2.1 bt448.2.2.2.1 bt448.2.2.2.2))) else ((pyxlaw22_told.f t441 t444 t445).bind fun t447 => (if t447 = true then (if t430 = 0 then (some ((wrap64 ((wrap64 ((t432.length : Int) + (t435.length : Int))) + (t438.length : Int))) == 0)) else (some false)) else (some false)))) = some r := H
    have A16 := Aside0.mk A160
    clear A160
    by_cases c17 : t444 = 0
    ·rw [if_pos c17] at H
     have c17b0 : (t444 == 0) = true := beq_iff_eq.mpr c17
     have c17b1 : (t444 != 0) = false := bne_eq_false_iff_eq.mpr c17
     clear c17
     replace H := Option.bind_eq_some_iff.mp H
     obtain ⟨⟨t448, t449, t450, t453, t456⟩, A180, H⟩ := H
     replace H : (if t441.isNone = true then (if t430 = t448 then (if t431 = t449 then ((pyxref01_Same.f kj4 t432 t450).bind fun t461 => (if t461 = true then (if (t435.length : Int) = (t453.length : Int) then (pyxlaw22_XmssSplits.j1 kj4 t427 ((t438.length : Int) != (t456.length : Int)) t430 t431 t432 t435 t438 t448 t449 t450 t453 t456) else (pyxlaw22_XmssSplits.j1 kj4 t427 true t430 t431 t432 t435 t438 t448 t449 t450 t453 t456)) else (pyxlaw22_XmssSplits.j1 kj4 t427 true t430 t431 t432 t435 t438 t448 t449 t450 t453 t456))) else (pyxlaw22_XmssSplits.j1 kj4 t427 true t430 t431 t432 t435 t438 t448 t449 t450 t453 t456)) else (pyxlaw22_XmssSplits.j1 kj4 t427 true t430 t431 t432 t435 t438 t448 t449 t450 t453 t456)) else (pyxlaw22_XmssSplits.j1 kj4 t427 true t430 t431 t432 t435 t438 t448 t449 t450 t453 t456)) = some r := H
     have A18 := Aside0.mk A180
     clear A180
     have HC19 := Aside0.mk H
     clear H
     go_upto_region 9 with (first | (go_at_call 10; (with_reducible refine (pyxref22_Make.calls kj4 (wrap64 (20 + (Int.tmod (wrap64 (a0)) 6))) a1 a2 t424 _ A13.out).mono ?_); rintro e w20 ⟨v425, rfl, ho0, hb⟩; have n0_ := Aside0.mk (Kd.R_lower ho0 (below_size q30_)); have n1_ := Aside0.mk (below_step q30_ hb); clear HB; have HO426 := n0_; have HB := n1_; clear n0_ n1_; (try clear hb); (try clear hb2); (try clear hk); (try clear hi); (try clear ho0); obtain ⟨Ao21, co21, eo21⟩ := Kd.R_slice HO426.out; subst eo21) | (go_at_call 9; (with_reducible refine (pyxlaw22_changed.calls kj4 _ _ t424 _ _ l3 t427 _ ?side1 ?side2 ?side3 ?side4 A14.out).mono ?_); (case side1 => repeat (first | exact (Kd.R_reads' HO426.out).2.2 | (with_reducible refine Kd.C_alloc ?_ _) | (with_reducible refine Kd.C_drewN ?_ _) | (with_reducible refine Kd.C_drew ?_))); (case side2 => exact (Kd.R_reads' HO426.out).2.1); (case side3 => repeat (first | exact (Kd.C_below HR3.out HB.out) | (with_reducible refine Kd.C_alloc ?_ _) | (with_reducible refine Kd.C_drewN ?_ _) | (with_reducible refine Kd.C_drew ?_))); (case side4 => exact HC3.out); rintro e w22 ⟨v428, rfl, ho0, hb⟩; have n0_ := Aside0.mk (Kd.R_elder' q50_ (Kd.R_base ho0) hb); have n1_ := Aside0.mk (Kd.R_lower (Kd.R_new' ho0 (Kd.R_lt q50_)) (below_size q30_)); have n2_ := Aside0.mk (below_step q30_ hb); clear HO426; clear HB; have HO426 := n0_; have HO429 := n1_; have HB := n2_; clear n0_ n1_ n2_; (try clear hb); (try clear hb2); (try clear hk); (try clear hi); (try clear ho0); obtain ⟨Ao23, co23, eo23⟩ := Kd.R_slice HO429.out; subst eo23) | (go_at_call 21; (with_reducible refine (xmss_Split.calls _ _ t427 t430 t431 t432 t435 t438 t441 _ ?side1 ?side2 A15.out q9_).mono ?_); (case side1 => repeat (first | exact (Kd.R_reads' HO429.out).2.2 | (with_reducible refine Kd.C_alloc ?_ _) | (with_reducible refine Kd.C_drewN ?_ _) | (with_reducible refine Kd.C_drew ?_))); (case side2 => exact (Kd.R_reads' HO429.out).2.1); rintro e w24 ⟨v433, v436, v439, rfl, ho0, ho1, ho2, hb⟩; have n0_ := Aside0.mk (Kd.R_below q50_ hb); have n1_ := Aside0.mk (Kd.R_below q51_ hb); have n2_ := Aside0.mk (Kd.V_lower (Kd.V_mono (ok' := fun k_ => some k_ ≠ (.slice Ao21 t424.length co21 : Value).ownBlock ∧ some k_ ≠ (.slice Ao23 t427.length co23 : Value).ownBlock) ho0 (fun k_ hk_ => ⟨(Kd.fresh' (Kd.R_lt q50_) k_ hk_.2.1), (Kd.fresh' (Kd.R_lt q51_) k_ hk_.2.1)⟩)) (below_size q30_)); have n3_ := Aside0.mk (Kd.V_lower (Kd.V_mono (ok' := fun k_ => some k_ ≠ (.slice Ao21 t424.length co21 : Value).ownBlock ∧ some k_ ≠ (.slice Ao23 t427.length co23 : Value).ownBlock) ho1 (fun k_ hk_ => ⟨(Kd.fresh' (Kd.R_lt q50_) k_ hk_.2.1), (Kd.fresh' (Kd.R_lt q51_) k_ hk_.2.1)⟩)) (below_size q30_)); have n4_ := Aside0.mk (Kd.V_lower (Kd.V_mono (ok' := fun k_ => some k_ ≠ (.slice Ao21 t424.length co21 : Value).ownBlock ∧ some k_ ≠ (.slice Ao23 t427.length co23 : Value).ownBlock) ho2 (fun k_ hk_ => ⟨(Kd.fresh' (Kd.R_lt q50_) k_ hk_.2.1), (Kd.fresh' (Kd.R_lt q51_) k_ hk_.2.1)⟩)) (below_size q30_)); have n5_ := Aside0.mk (below_step q30_ hb); clear HO426; clear HO429; clear HB; have HO426 := n0_; have HO429 := n1_; have HO434 := n2_; have HO437 := n3_; have HO440 := n4_; have HB := n5_; clear n0_ n1_ n2_ n3_ n4_ n5_; (try clear hb); (try clear hb2); (try clear hk); (try clear hi); (try clear ho0); (try clear ho1); (try clear ho2); (try simp only [errW_none, errW_some])) | ((with_reducible refine gate_dst (N := 10) rfl ?_); (try (refine gate_guard (by rfl) ?_; dsimp only)); refine box_event ?hg (N := 10) ?hd (cs := #[.int .i64 0, .int .u32 0, .slice none 0 0, .slice none 0 0, .slice none 0 0]) (t := 54) ?hr ?_; (case hd => rfl); (case hg => rfl); (case hr => first | (go_simp; done) | (go_simp; rfl)); intro gb442 hg w25 hbox hb; have n0_ := Aside0.mk (Kd.R_below q50_ hb); have n1_ := Aside0.mk (Kd.R_below q51_ hb); have n2_ := Aside0.mk (Kd.V_below (Kd.V_elderB q52_ gb442 (Nat.le_of_eq hg.symm)) hb); have n3_ := Aside0.mk (Kd.V_below (Kd.V_elderB q53_ gb442 (Nat.le_of_eq hg.symm)) hb); have n4_ := Aside0.mk (Kd.V_below (Kd.V_elderB q54_ gb442 (Nat.le_of_eq hg.symm)) hb); have n5_ := Aside0.mk (below_step q30_ hb); have n6_ := Aside0.mk (hbox); have n7_ := Aside0.mk ((by rw [hg]; exact (below_size q30_) : w.heap.size ≤ gb442)); have n8_ := Aside0.mk ((by rw [hg]; exact (below_size q30_) : w.heap.size ≤ gb442)); clear HO426; clear HO429; clear HO434; clear HO437; clear HO440; clear HB; have HO426 := n0_; have HO429 := n1_; have HO434 := n2_; have HO437 := n3_; have HO440 := n4_; have HB := n5_; have BK442 := n6_; have GW442 := n7_; have GE442 := n8_; clear n0_ n1_ n2_ n3_ n4_ n5_ n6_ n7_ n8_; clear hb hbox hg; obtain ⟨hcz26_0, hcz26_1, hcz26_2, hcz26_3, hcz26_4⟩ := cells5_ BK442.out; obtain ⟨hfz26_0, hfz26_1, hfz26_2, hfz26_3, hfz26_4⟩ := frz5_ BK442.out; obtain ⟨Ao27, co27, eo27⟩ := Kd.V_slice HO434.out; subst eo27; obtain ⟨Ao28, co28, eo28⟩ := Kd.V_slice HO437.out; subst eo28; obtain ⟨Ao29, co29, eo29⟩ := Kd.V_slice HO440.out; subst eo29) | (go_at_call 13; (with_reducible refine (pyxref22_Signature.calls kj4 _ _ t427 t443 t444 t445 _ ?side1 ?side2 A16.out).mono ?_); (case side1 => refine (Kd.R_reads' (e := 5) (base := w.heap.size) (ok := fun k_ => (True ∧ some k_ ≠ (.slice Ao21 t424.length co21 : Value).ownBlock)) (n := t427.length) (c := co23) ?_).2.2; exact q4_); (case side2 => exact (Kd.R_reads' HO429.out).2.1); rintro e w30 ⟨rfl, hb⟩; have n0_ := Aside0.mk (Kd.R_below (by (with_reducible repeat (first | apply Kd.R_alloc | apply Kd.R_drewN | apply Kd.R_drew)); exact (Kd.R_mono (Kd.R_far (p := ⟨gb442, 4, none⟩) (Kd.R_far (p := ⟨gb442, 3, none⟩) (Kd.R_far (p := ⟨gb442, 2, none⟩) (Kd.R_far (p := ⟨gb442, 1, none⟩) (Kd.R_far (p := ⟨gb442, 0, none⟩) (Kd.R_types HO426.out BK442.out (by decide)) (fun _ hk => hk.2) (.int .i64 t430)) (fun _ hk => hk.2) (.int .u32 t431)) (fun _ hk => hk.2) (.slice Ao27 t432.length co27)) (fun _ hk => hk.2) (.slice Ao28 t435.length co28)) (fun _ hk => hk.2) (.slice Ao29 t438.length co29)) (fun _ h_ => h_.1))) hb); have n1_ := Aside0.mk (Kd.R_below q4_ hb); have n2_ := Aside0.mk (Kd.V_below (by (with_reducible repeat (first | apply Kd.V_alloc | apply Kd.V_drewN | apply Kd.V_drew)); exact (Kd.V_mono (Kd.V_far (p := ⟨gb442, 4, none⟩) (Kd.V_far (p := ⟨gb442, 3, none⟩) (Kd.V_far (p := ⟨gb442, 2, none⟩) (Kd.V_far (p := ⟨gb442, 1, none⟩) (Kd.V_far (p := ⟨gb442, 0, none⟩) (Kd.V_mono HO434.out (fun k_ hk => (⟨hk, hk.2⟩ : _ ∧ k_ ≠ gb442))) (fun _ hk => hk.2) (.int .i64 t430)) (fun _ hk => hk.2) (.int .u32 t431)) (fun _ hk => hk.2) (.slice Ao27 t432.length co27)) (fun _ hk => hk.2) (.slice Ao28 t435.length co28)) (fun _ hk => hk.2) (.slice Ao29 t438.length co29)) (fun _ h_ => h_.1))) hb); have n3_ := Aside0.mk (Kd.V_below (by (with_reducible repeat (first | apply Kd.V_alloc | apply Kd.V_drewN | apply Kd.V_drew)); exact (Kd.V_mono (Kd.V_far (p := ⟨gb442, 4, none⟩) (Kd.V_far (p := ⟨gb442, 3, none⟩) (Kd.V_far (p := ⟨gb442, 2, none⟩) (Kd.V_far (p := ⟨gb442, 1, none⟩) (Kd.V_far (p := ⟨gb442, 0, none⟩) (Kd.V_mono HO437.out (fun k_ hk => (⟨hk, hk.2⟩ : _ ∧ k_ ≠ gb442))) (fun _ hk => hk.2) (.int .i64 t430)) (fun _ hk => hk.2) (.int .u32 t431)) (fun _ hk => hk.2) (.slice Ao27 t432.length co27)) (fun _ hk => hk.2) (.slice Ao28 t435.length co28)) (fun _ hk => hk.2) (.slice Ao29 t438.length co29)) (fun _ h_ => h_.1))) hb); have n4_ := Aside0.mk (Kd.V_below (by (with_reducible repeat (first | apply Kd.V_alloc | apply Kd.V_drewN | apply Kd.V_drew)); exact (Kd.V_mono (Kd.V_far (p := ⟨gb442, 4, none⟩) (Kd.V_far (p := ⟨gb442, 3, none⟩) (Kd.V_far (p := ⟨gb442, 2, none⟩) (Kd.V_far (p := ⟨gb442, 1, none⟩) (Kd.V_far (p := ⟨gb442, 0, none⟩) (Kd.V_mono HO440.out (fun k_ hk => (⟨hk, hk.2⟩ : _ ∧ k_ ≠ gb442))) (fun _ hk => hk.2) (.int .i64 t430)) (fun _ hk => hk.2) (.int .u32 t431)) (fun _ hk => hk.2) (.slice Ao27 t432.length co27)) (fun _ hk => hk.2) (.slice Ao28 t435.length co28)) (fun _ hk => hk.2) (.slice Ao29 t438.length co29)) (fun _ h_ => h_.1))) hb); have n5_ := Aside0.mk (blk_below (g := gb442) (o := .cells #[.int .i64 t430, .int .u32 t431, .slice Ao27 t432.length co27, .slice Ao28 t435.length co28, .slice Ao29 t438.length co29] 54 (0, 0)) (by (with_reducible repeat (first | refine blk_drewN ?_ _ | refine blk_drew ?_ | refine blk_alloc ?_ _)); exact set5_01234_ BK442.out) hb); have n6_ := Aside0.mk (below_step q26_ hb); clear HO426; clear HO429; clear HO434; clear HO437; clear HO440; clear BK442; clear HB; have HO426 := n0_; have HO429 := n1_; have HO434 := n2_; have HO437 := n3_; have HO440 := n4_; have BK442 := n5_; have HB := n6_; clear n0_ n1_ n2_ n3_ n4_ n5_ n6_; (try clear hb); (try clear hb2); (try clear hk); (try clear hi)) | ((with_reducible refine gate_dst (N := 13) rfl ?_); (try (refine gate_guard (by rfl) ?_; dsimp only)); refine box_event ?hg (N := 13) ?hd (cs := #[.int .i64 0, .int .i64 0]) (t := 34) ?hr ?_; (case hd => rfl); (case hg => rfl); (case hr => first | (go_simp; done) | (go_simp; rfl)); intro gb446 hg w31 hbox hb; have n0_ := Aside0.mk (Kd.R_below q50_ hb); have n1_ := Aside0.mk (Kd.R_below q51_ hb); have n2_ := Aside0.mk (Kd.V_below (Kd.V_elderB q52_ gb446 (Nat.le_of_eq hg.symm)) hb); have n3_ := Aside0.mk (Kd.V_below (Kd.V_elderB q53_ gb446 (Nat.le_of_eq hg.symm)) hb); have n4_ := Aside0.mk (Kd.V_below (Kd.V_elderB q54_ gb446 (Nat.le_of_eq hg.symm)) hb); have n5_ := Aside0.mk (blk_below (g := gb442) (o := .cells #[.int .i64 t430, .int .u32 t431, .slice Ao27 t432.length co27, .slice Ao28 t435.length co28, .slice Ao29 t438.length co29] 54 (0, 0)) q40_ hb); have n6_ := Aside0.mk (below_step q26_ hb); have n7_ := Aside0.mk (hbox); have n8_ := Aside0.mk ((by rw [hg]; exact (below_size q26_) : w.heap.size ≤ gb446)); have n9_ := Aside0.mk ((by rw [hg]; exact (below_size q26_) : w.heap.size ≤ gb446)); have n10_ := Aside0.mk ((by rw [hg]; exact Nat.ne_of_lt (blk_lt (g := gb442) (o := .cells #[.int .i64 t430, .int .u32 t431, .slice Ao27 t432.length co27, .slice Ao28 t435.length co28, .slice Ao29 t438.length co29] 54 (0, 0)) q40_) : gb442 ≠ gb446)); have n11_ := Aside0.mk ((by rw [hg]; exact Nat.ne_of_gt (blk_lt (g := gb442) (o := .cells #[.int .i64 t430, .int .u32 t431, .slice Ao27 t432.length co27, .slice Ao28 t435.length co28, .slice Ao29 t438.length co29] 54 (0, 0)) q40_) : gb446 ≠ gb442)); clear HO426; clear HO429; clear HO434; clear HO437; clear HO440; clear BK442; clear HB; have HO426 := n0_; have HO429 := n1_; have HO434 := n2_; have HO437 := n3_; have HO440 := n4_; have BK442 := n5_; have HB := n6_; have BK446 := n7_; have GW446 := n8_; have GE446 := n9_; have NB442_446 := n10_; have NB446_442 := n11_; clear n0_ n1_ n2_ n3_ n4_ n5_ n6_ n7_ n8_ n9_ n10_ n11_; clear hb hbox hg; have hnb32 := NB446_442.out; have hnc32 := NB442_446.out; obtain ⟨hcz33_0, hcz33_1⟩ := cells2_ BK446.out; obtain ⟨hfz33_0, hfz33_1⟩ := frz2_ BK446.out) | ((with_reducible refine gate_store (t := 34) (p := 13) rfl ?_); (try (rw [drewN_self w31]; generalize hq_ : World.drewN w31 _ = w31; have n0_ := Aside0.mk (Kd.R_at hq_ HO426.out); have n1_ := Aside0.mk (Kd.R_at hq_ HO429.out); have n2_ := Aside0.mk (Kd.V_at hq_ HO434.out); have n3_ := Aside0.mk (Kd.V_at hq_ HO437.out); have n4_ := Aside0.mk (Kd.V_at hq_ HO440.out); have n5_ := Aside0.mk (blk_at hq_ BK442.out); have n6_ := Aside0.mk (blk_at hq_ BK446.out); have n7_ := Aside0.mk (below_at hq_ HB.out); clear hq_ HO426 HO429 HO434 HO437 HO440 BK442 BK446 HB; have HO426 := n0_; have HO429 := n1_; have HO434 := n2_; have HO437 := n3_; have HO440 := n4_; have BK442 := n5_; have BK446 := n6_; have HB := n7_; clear n0_ n1_ n2_ n3_ n4_ n5_ n6_ n7_)); refine store_event (t := 34) (p := 13) (v := ?vo_w34) (w1 := ((w31.setCell ⟨gb446, 0, none⟩ (.int .i64 t444)).setCell ⟨gb446, 1, none⟩ (.int .i64 t445))) ?hg ?ho ?hn ?hr ?_; (case ho => rfl); (case hg => rfl); (case hn => rfl); (case hr => first | (go_simp; done) | (go_simp; rfl)); intro w34 hw; have n0_ : Aside0 (Kd.R (Kd.int .u8) 5 w34 w.heap.size (fun k_ => some k_ ≠ (.slice Ao23 t427.length co23 : Value).ownBlock) (.slice Ao21 t424.length co21) t424) := ⟨(by rw [hw]; exact (by (with_reducible repeat (first | apply Kd.R_alloc | apply Kd.R_drewN | apply Kd.R_drew)); exact Kd.R_mono (Kd.R_far (p := ⟨gb446, 1, none⟩) (Kd.R_far (p := ⟨gb446, 0, none⟩) (Kd.R_types HO426.out BK446.out (by decide)) (fun _ hk => hk.2) (.int .i64 t444)) (fun _ hk => hk.2) (.int .i64 t445)) (fun _ hk => hk.1.2)))⟩; have n1_ : Aside0 (Kd.R (Kd.int .u8) 5 w34 w.heap.size (fun k_ => some k_ ≠ (.slice Ao21 t424.length co21 : Value).ownBlock) (.slice Ao23 t427.length co23) t427) := ⟨(by rw [hw]; exact (by (with_reducible repeat (first | apply Kd.R_alloc | apply Kd.R_drewN | apply Kd.R_drew)); exact Kd.R_mono (Kd.R_far (p := ⟨gb446, 1, none⟩) (Kd.R_far (p := ⟨gb446, 0, none⟩) (Kd.R_types HO429.out BK446.out (by decide)) (fun _ hk => hk.2) (.int .i64 t444)) (fun _ hk => hk.2) (.int .i64 t445)) (fun _ hk => hk.1.2)))⟩; have n2_ : Aside0 (Kd.V (Kd.int .u8) 5 w34 w.heap.size (fun k_ => some k_ ≠ (.slice Ao21 t424.length co21 : Value).ownBlock ∧ some k_ ≠ (.slice Ao23 t427.length co23 : Value).ownBlock ∧ k_ ≠ gb442 ∧ k_ ≠ gb446) (.slice Ao27 t432.length co27) t432) := ⟨(by rw [hw]; exact (by (with_reducible repeat (first | apply Kd.V_alloc | apply Kd.V_drewN | apply Kd.V_drew)); exact Kd.V_mono (Kd.V_far (p := ⟨gb446, 1, none⟩) (Kd.V_far (p := ⟨gb446, 0, none⟩) (Kd.V_mono HO434.out (fun k_ hk => (⟨hk, hk.2⟩ : _ ∧ k_ ≠ gb446))) (fun _ hk => hk.2) (.int .i64 t444)) (fun _ hk => hk.2) (.int .i64 t445)) (fun _ hk => ⟨hk.1.1.1.1, ⟨hk.1.1.1.2, ⟨hk.1.1.2, hk.1.2⟩⟩⟩)))⟩; have n3_ : Aside0 (Kd.V (Kd.slice 5 (Kd.int .u8)) 25 w34 w.heap.size (fun k_ => some k_ ≠ (.slice Ao21 t424.length co21 : Value).ownBlock ∧ some k_ ≠ (.slice Ao23 t427.length co23 : Value).ownBlock ∧ k_ ≠ gb442 ∧ k_ ≠ gb446) (.slice Ao28 t435.length co28) t435) := ⟨(by rw [hw]; exact (by (with_reducible repeat (first | apply Kd.V_alloc | apply Kd.V_drewN | apply Kd.V_drew)); exact Kd.V_mono (Kd.V_far (p := ⟨gb446, 1, none⟩) (Kd.V_far (p := ⟨gb446, 0, none⟩) (Kd.V_mono HO437.out (fun k_ hk => (⟨hk, hk.2⟩ : _ ∧ k_ ≠ gb446))) (fun _ hk => hk.2) (.int .i64 t444)) (fun _ hk => hk.2) (.int .i64 t445)) (fun _ hk => ⟨hk.1.1.1.1, ⟨hk.1.1.1.2, ⟨hk.1.1.2, hk.1.2⟩⟩⟩)))⟩; have n4_ : Aside0 (Kd.V (Kd.slice 5 (Kd.int .u8)) 25 w34 w.heap.size (fun k_ => some k_ ≠ (.slice Ao21 t424.length co21 : Value).ownBlock ∧ some k_ ≠ (.slice Ao23 t427.length co23 : Value).ownBlock ∧ k_ ≠ gb442 ∧ k_ ≠ gb446) (.slice Ao29 t438.length co29) t438) := ⟨(by rw [hw]; exact (by (with_reducible repeat (first | apply Kd.V_alloc | apply Kd.V_drewN | apply Kd.V_drew)); exact Kd.V_mono (Kd.V_far (p := ⟨gb446, 1, none⟩) (Kd.V_far (p := ⟨gb446, 0, none⟩) (Kd.V_mono HO440.out (fun k_ hk => (⟨hk, hk.2⟩ : _ ∧ k_ ≠ gb446))) (fun _ hk => hk.2) (.int .i64 t444)) (fun _ hk => hk.2) (.int .i64 t445)) (fun _ hk => ⟨hk.1.1.1.1, ⟨hk.1.1.1.2, ⟨hk.1.1.2, hk.1.2⟩⟩⟩)))⟩; have n5_ : Aside0 (w34.heap[gb442]? = some (.cells #[.int .i64 t430, .int .u32 t431, .slice Ao27 t432.length co27, .slice Ao28 t435.length co28, .slice Ao29 t438.length co29] 54 (0, 0))) := ⟨(by rw [hw]; exact q6_)⟩; have n6_ : Aside0 (w34.heap[gb446]? = some (.cells #[.int .i64 t444, .int .i64 t445] 34 (0, 0))) := ⟨(by rw [hw]; exact (by (with_reducible repeat (first | refine blk_drewN ?_ _ | refine blk_drew ?_ | refine blk_alloc ?_ _)); exact set2_01_ BK446.out))⟩; have n7_ : Aside0 (Below w.heap.size w w34) := ⟨(by rw [hw]; exact q14_)⟩; clear hw; clear HO426; clear HO429; clear HO434; clear HO437; clear HO440; clear BK442; clear BK446; clear HB; have HO426 := n0_; have HO429 := n1_; have HO434 := n2_; have HO437 := n3_; have HO440 := n4_; have BK442 := n5_; have BK446 := n6_; have HB := n7_; clear n0_ n1_ n2_ n3_ n4_ n5_ n6_ n7_; obtain ⟨hcz35_0, hcz35_1⟩ := cells2_ BK446.out; obtain ⟨hfz35_0, hfz35_1⟩ := frz2_ BK446.out) | (go_at_call 22; (with_reducible refine (pyxref22_Split.calls kj4 (fun k_ => some k_ = (.slice Ao23 t427.length co23 : Value).ownBlock) _ _ t427 t448 t449 t450 t453 t456 _ ?side1 A18.out).mono ?_); (case side1 => exact Kd.R_V (Kd.R_tight rfl (Kd.R_types (Kd.R_types (HO429.out) BK442.out (by decide)) BK446.out (by decide)))); rintro e w36 ⟨v451, v454, v457, rfl, ho0, ho1, ho2, hb⟩; have n0_ := Aside0.mk (Kd.R_below q50_ hb); have n1_ := Aside0.mk (Kd.R_below q51_ hb); have n2_ := Aside0.mk (Kd.V_mono (Kd.V_told (Kd.V_told (Kd.V_old q52_ hb) (Kd.N_base ho1)) (Kd.N_base ho2)) (fun _ h_ => h_.1)); have n3_ := Aside0.mk (Kd.V_mono (Kd.V_told (Kd.V_told (Kd.V_old q53_ hb) (Kd.N_base ho1)) (Kd.N_base ho2)) (fun _ h_ => h_.1)); have n4_ := Aside0.mk (Kd.V_mono (Kd.V_told (Kd.V_told (Kd.V_old q54_ hb) (Kd.N_base ho1)) (Kd.N_base ho2)) (fun _ h_ => h_.1)); have n5_ := Aside0.mk (Kd.V_lower (Kd.V_mono (ok' := fun k_ => some k_ ≠ (v454 : Value).ownBlock ∧ some k_ ≠ (v457 : Value).ownBlock ∧ some k_ ≠ (.slice Ao21 t424.length co21 : Value).ownBlock ∧ k_ ≠ gb442 ∧ k_ ≠ gb446) ho0 (fun k_ hk_ => ⟨hk_.2.1, hk_.2.2, Or.elim hk_.1 (fun hs_ => ((Kd.R_types (Kd.R_types (HO429.out) BK442.out (by decide)) BK446.out (by decide)).1 k_ hs_.symm).1.1) (fun hn_ => (Kd.fresh' (Kd.R_lt q50_) k_ hn_)), Or.elim hk_.1 (fun hs_ => ((Kd.R_types (Kd.R_types (HO429.out) BK442.out (by decide)) BK446.out (by decide)).1 k_ hs_.symm).1.2) (fun hn_ => (Kd.freshB (g := gb442) (o := .cells #[.int .i64 t430, .int .u32 t431, .slice Ao27 t432.length co27, .slice Ao28 t435.length co28, .slice Ao29 t438.length co29] 54 (0, 0)) q40_ k_ hn_)), Or.elim hk_.1 (fun hs_ => ((Kd.R_types (Kd.R_types (HO429.out) BK442.out (by decide)) BK446.out (by decide)).1 k_ hs_.symm).2) (fun hn_ => (Kd.freshB (g := gb446) (o := .cells #[.int .i64 t444, .int .i64 t445] 34 (0, 0)) q41_ k_ hn_))⟩)) (below_size q14_)); have n6_ := Aside0.mk (Kd.N_lower (Kd.N_mono (ok' := fun k_ => some k_ ≠ (v457 : Value).ownBlock ∧ some k_ ≠ (.slice Ao21 t424.length co21 : Value).ownBlock ∧ k_ ≠ gb442 ∧ k_ ≠ gb446) ho1 (fun k_ hk_ => ⟨hk_.2, Or.elim hk_.1 (fun hs_ => ((Kd.R_types (Kd.R_types (HO429.out) BK442.out (by decide)) BK446.out (by decide)).1 k_ hs_.symm).1.1) (fun hn_ => (Kd.fresh' (Kd.R_lt q50_) k_ hn_)), Or.elim hk_.1 (fun hs_ => ((Kd.R_types (Kd.R_types (HO429.out) BK442.out (by decide)) BK446.out (by decide)).1 k_ hs_.symm).1.2) (fun hn_ => (Kd.freshB (g := gb442) (o := .cells #[.int .i64 t430, .int .u32 t431, .slice Ao27 t432.length co27, .slice Ao28 t435.length co28, .slice Ao29 t438.length co29] 54 (0, 0)) q40_ k_ hn_)), Or.elim hk_.1 (fun hs_ => ((Kd.R_types (Kd.R_types (HO429.out) BK442.out (by decide)) BK446.out (by decide)).1 k_ hs_.symm).2) (fun hn_ => (Kd.freshB (g := gb446) (o := .cells #[.int .i64 t444, .int .i64 t445] 34 (0, 0)) q41_ k_ hn_))⟩)) (below_size q14_)); have n7_ := Aside0.mk (Kd.N_lower (Kd.N_mono (ok' := fun k_ => some k_ ≠ (v454 : Value).ownBlock ∧ some k_ ≠ (.slice Ao21 t424.length co21 : Value).ownBlock ∧ k_ ≠ gb442 ∧ k_ ≠ gb446) ho2 (fun k_ hk_ => ⟨hk_.2, Or.elim hk_.1 (fun hs_ => ((Kd.R_types (Kd.R_types (HO429.out) BK442.out (by decide)) BK446.out (by decide)).1 k_ hs_.symm).1.1) (fun hn_ => (Kd.fresh' (Kd.R_lt q50_) k_ hn_)), Or.elim hk_.1 (fun hs_ => ((Kd.R_types (Kd.R_types (HO429.out) BK442.out (by decide)) BK446.out (by decide)).1 k_ hs_.symm).1.2) (fun hn_ => (Kd.freshB (g := gb442) (o := .cells #[.int .i64 t430, .int .u32 t431, .slice Ao27 t432.length co27, .slice Ao28 t435.length co28, .slice Ao29 t438.length co29] 54 (0, 0)) q40_ k_ hn_)), Or.elim hk_.1 (fun hs_ => ((Kd.R_types (Kd.R_types (HO429.out) BK442.out (by decide)) BK446.out (by decide)).1 k_ hs_.symm).2) (fun hn_ => (Kd.freshB (g := gb446) (o := .cells #[.int .i64 t444, .int .i64 t445] 34 (0, 0)) q41_ k_ hn_))⟩)) (below_size q14_)); have n8_ := Aside0.mk (blk_below (g := gb442) (o := .cells #[.int .i64 t430, .int .u32 t431, .slice Ao27 t432.length co27, .slice Ao28 t435.length co28, .slice Ao29 t438.length co29] 54 (0, 0)) q40_ hb); have n9_ := Aside0.mk (blk_below (g := gb446) (o := .cells #[.int .i64 t444, .int .i64 t445] 34 (0, 0)) q41_ hb); have n10_ := Aside0.mk (below_step q14_ hb); clear HO426; clear HO429; clear HO434; clear HO437; clear HO440; clear BK442; clear BK446; clear HB; have HO426 := n0_; have HO429 := n1_; have HO434 := n2_; have HO437 := n3_; have HO440 := n4_; have HO452 := n5_; have HO455 := n6_; have HO458 := n7_; have BK442 := n8_; have BK446 := n9_; have HB := n10_; clear n0_ n1_ n2_ n3_ n4_ n5_ n6_ n7_ n8_ n9_ n10_; (try clear hb); (try clear hb2); (try clear hk); (try clear hi); (try clear ho0); (try clear ho1); (try clear ho2)) | ((with_reducible refine gate_dst (N := 14) rfl ?_); (try (refine gate_guard (by rfl) ?_; dsimp only)); refine box_event ?hg (N := 14) ?hd (cs := #[.int .i64 0, .int .u32 0, .slice none 0 0, .slice none 0 0, .slice none 0 0]) (t := 57) ?hr ?_; (case hd => rfl); (case hg => rfl); (case hr => first | (go_simp; done) | (go_simp; rfl)); intro gb459 hg w37 hbox hb; have n0_ := Aside0.mk (Kd.R_below q50_ hb); have n1_ := Aside0.mk (Kd.R_below q51_ hb); have n2_ := Aside0.mk (Kd.V_below (Kd.V_elderB q52_ gb459 (Nat.le_of_eq hg.symm)) hb); have n3_ := Aside0.mk (Kd.V_below (Kd.V_elderB q53_ gb459 (Nat.le_of_eq hg.symm)) hb); have n4_ := Aside0.mk (Kd.V_below (Kd.V_elderB q54_ gb459 (Nat.le_of_eq hg.symm)) hb); have n5_ := Aside0.mk (Kd.V_below (Kd.V_elderB (by (with_reducible repeat (first | apply Kd.V_alloc | apply Kd.V_drewN | apply Kd.V_drew)); exact HO452.out) gb459 (Nat.le_of_eq hg.symm)) hb); have n6_ := Aside0.mk (Kd.N_below (Kd.N_elderB (by (with_reducible repeat (first | apply Kd.N_alloc | apply Kd.N_drewN | apply Kd.N_drew)); exact HO455.out) gb459 (Nat.le_of_eq hg.symm)) hb); have n7_ := Aside0.mk (Kd.N_below (Kd.N_elderB (by (with_reducible repeat (first | apply Kd.N_alloc | apply Kd.N_drewN | apply Kd.N_drew)); exact HO458.out) gb459 (Nat.le_of_eq hg.symm)) hb); have n8_ := Aside0.mk (blk_below (g := gb442) (o := .cells #[.int .i64 t430, .int .u32 t431, .slice Ao27 t432.length co27, .slice Ao28 t435.length co28, .slice Ao29 t438.length co29] 54 (0, 0)) q40_ hb); have n9_ := Aside0.mk (blk_below (g := gb446) (o := .cells #[.int .i64 t444, .int .i64 t445] 34 (0, 0)) q41_ hb); have n10_ := Aside0.mk (below_step q14_ hb); have n11_ := Aside0.mk (hbox); have n12_ := Aside0.mk ((by rw [hg]; exact (below_size q14_) : w.heap.size ≤ gb459)); have n13_ := Aside0.mk ((by rw [hg]; exact (below_size q14_) : w.heap.size ≤ gb459)); have n14_ := Aside0.mk ((by rw [hg]; exact Nat.ne_of_lt (blk_lt (g := gb442) (o := .cells #[.int .i64 t430, .int .u32 t431, .slice Ao27 t432.length co27, .slice Ao28 t435.length co28, .slice Ao29 t438.length co29] 54 (0, 0)) q40_) : gb442 ≠ gb459)); have n15_ := Aside0.mk ((by rw [hg]; exact Nat.ne_of_gt (blk_lt (g := gb442) (o := .cells #[.int .i64 t430, .int .u32 t431, .slice Ao27 t432.length co27, .slice Ao28 t435.length co28, .slice Ao29 t438.length co29] 54 (0, 0)) q40_) : gb459 ≠ gb442)); have n16_ := Aside0.mk ((by rw [hg]; exact Nat.ne_of_lt (blk_lt (g := gb446) (o := .cells #[.int .i64 t444, .int .i64 t445] 34 (0, 0)) q41_) : gb446 ≠ gb459)); have n17_ := Aside0.mk ((by rw [hg]; exact Nat.ne_of_gt (blk_lt (g := gb446) (o := .cells #[.int .i64 t444, .int .i64 t445] 34 (0, 0)) q41_) : gb459 ≠ gb446)); clear HO426; clear HO429; clear HO434; clear HO437; clear HO440; clear HO452; clear HO455; clear HO458; clear BK442; clear BK446; clear HB; have HO426 := n0_; have HO429 := n1_; have HO434 := n2_; have HO437 := n3_; have HO440 := n4_; have HO452 := n5_; have HO455 := n6_; have HO458 := n7_; have BK442 := n8_; have BK446 := n9_; have HB := n10_; have BK459 := n11_; have GW459 := n12_; have GE459 := n13_; have NB442_459 := n14_; have NB459_442 := n15_; have NB446_459 := n16_; have NB459_446 := n17_; clear n0_ n1_ n2_ n3_ n4_ n5_ n6_ n7_ n8_ n9_ n10_ n11_ n12_ n13_ n14_ n15_ n16_ n17_; clear hb hbox hg; have hnb38 := NB459_442.out; have hnc38 := NB442_459.out; have hnb39 := NB459_446.out; have hnc39 := NB446_459.out; obtain ⟨hcz40_0, hcz40_1, hcz40_2, hcz40_3, hcz40_4⟩ := cells5_ BK459.out; obtain ⟨hfz40_0, hfz40_1, hfz40_2, hfz40_3, hfz40_4⟩ := frz5_ BK459.out; obtain ⟨Ao41, co41, eo41⟩ := Kd.V_slice HO452.out; subst eo41; obtain ⟨Ao42, co42, eo42⟩ := Kd.N_slice HO455.out; subst eo42; obtain ⟨Ao43, co43, eo43⟩ := Kd.N_slice HO458.out; subst eo43))
     (try simp only [Act.put, List.setIfInBounds_toArray, List.set_cons_zero, List.set_cons_succ])
     go_cut [114] (fun v114 wc => ∃ (kq : Nat) (x114_18 : Bool), v114 = .bool x114_18 ∧ Aside0 (pyxlaw22_XmssSplits.j1 kq t427 x114_18 t430 t431 t432 t435 t438 t448 t449 t450 t453 t456 = some r) ∧ Aside0 (kq ≤ kj4) ∧ Aside0 (Kd.R (Kd.int .u8) 5 wc w.heap.size (fun _ => True) (.slice Ao23 t427.length co23) t427) ∧ Aside0 (Kd.V (Kd.int .u8) 5 wc w.heap.size (fun k_ => some k_ ≠ ((.slice Ao23 t427.length co23) : Value).ownBlock ∧ some k_ ≠ ((.slice Ao42 t453.length co42) : Value).ownBlock ∧ some k_ ≠ ((.slice Ao43 t456.length co43) : Value).ownBlock ∧ k_ ≠ gb442 ∧ k_ ≠ gb446 ∧ k_ ≠ gb459) (.slice Ao27 t432.length co27) t432) ∧ Aside0 (Kd.V (Kd.slice 5 (Kd.int .u8)) 25 wc w.heap.size (fun k_ => some k_ ≠ ((.slice Ao23 t427.length co23) : Value).ownBlock ∧ some k_ ≠ ((.slice Ao42 t453.length co42) : Value).ownBlock ∧ some k_ ≠ ((.slice Ao43 t456.length co43) : Value).ownBlock ∧ k_ ≠ gb442 ∧ k_ ≠ gb446 ∧ k_ ≠ gb459) (.slice Ao28 t435.length co28) t435) ∧ Aside0 (Kd.V (Kd.slice 5 (Kd.int .u8)) 25 wc w.heap.size (fun k_ => some k_ ≠ ((.slice Ao23 t427.length co23) : Value).ownBlock ∧ some k_ ≠ ((.slice Ao42 t453.length co42) : Value).ownBlock ∧ some k_ ≠ ((.slice Ao43 t456.length co43) : Value).ownBlock ∧ k_ ≠ gb442 ∧ k_ ≠ gb446 ∧ k_ ≠ gb459) (.slice Ao29 t438.length co29) t438) ∧ Aside0 (Kd.V (Kd.int .u8) 5 wc w.heap.size (fun k_ => some k_ ≠ ((.slice Ao42 t453.length co42) : Value).ownBlock ∧ some k_ ≠ ((.slice Ao43 t456.length co43) : Value).ownBlock ∧ k_ ≠ gb442 ∧ k_ ≠ gb446 ∧ k_ ≠ gb459) (.slice Ao41 t450.length co41) t450) ∧ Aside0 (Kd.N (Kd.slice 5 (Kd.int .u8)) 25 wc w.heap.size (fun k_ => some k_ ≠ ((.slice Ao43 t456.length co43) : Value).ownBlock ∧ k_ ≠ gb442 ∧ k_ ≠ gb446 ∧ k_ ≠ gb459) (.slice Ao42 t453.length co42) t453) ∧ Aside0 (Kd.N (Kd.slice 5 (Kd.int .u8)) 25 wc w.heap.size (fun k_ => some k_ ≠ ((.slice Ao42 t453.length co42) : Value).ownBlock ∧ k_ ≠ gb442 ∧ k_ ≠ gb446 ∧ k_ ≠ gb459) (.slice Ao43 t456.length co43) t456) ∧ Aside0 (wc.heap[gb442]? = some (.cells #[.int .i64 t430, .int .u32 t431, (.slice Ao27 t432.length co27), (.slice Ao28 t435.length co28), (.slice Ao29 t438.length co29)] 54 (0, 0))) ∧ Aside0 (wc.heap[gb446]? = some (.cells #[.int .i64 t444, .int .i64 t445] 34 (0, 0))) ∧ Aside0 (wc.heap[gb459]? = some (.cells #[.int .i64 t448, .int .u32 t449, (.slice Ao41 t450.length co41), (.slice Ao42 t453.length co42), (.slice Ao43 t456.length co43)] 57 (0, 0))) ∧ Aside0 (Below w.heap.size w wc))
     case first =>
      have H := HC19.out
      clear HC19
      rcases t441 with _ | q460
      ·have H1 : (if t430 = t448 then (if t431 = t449 then ((pyxref01_Same.f kj4 t432 t450).bind fun t461 => (if t461 = true then (if (t435.length : Int) = (t453.length : Int) then (pyxlaw22_XmssSplits.j1 kj4 t427 ((t438.length : Int) != (t456.length : Int)) t430 t431 t432 t435 t438 t448 t449 t450 t453 t456) else (pyxlaw22_XmssSplits.j1 kj4 t427 true t430 t431 t432 t435 t438 t448 t449 t450 t453 t456)) else (pyxlaw22_XmssSplits.j1 kj4 t427 true t430 t431 t432 t435 t438 t448 t449 t450 t453 t456))) else (pyxlaw22_XmssSplits.j1 kj4 t427 true t430 t431 t432 t435 t438 t448 t449 t450 t453 t456)) else (pyxlaw22_XmssSplits.j1 kj4 t427 true t430 t431 t432 t435 t438 t448 t449 t450 t453 t456)) = some r := by rw [if_pos (show (none : Option E).isNone = true by rfl)] at H; exact H
       clear H
       have H := H1
       clear H1
       try simp only [errW_none, errW_some]
       by_cases c44 : t430 = t448
       ·rw [if_pos c44] at H
        have c44b0 : (t430 == t448) = true := beq_iff_eq.mpr c44
        have c44b1 : (t430 != t448) = false := bne_eq_false_iff_eq.mpr c44
        clear c44
        (first | rw [c44b0] | (simp only [i64_w, i32_w]; rw [c44b0]) | skip)
        by_cases c45 : t431 = t449
        ·rw [if_pos c45] at H
         have c45b0 : (t431 == t449) = true := beq_iff_eq.mpr c45
         have c45b1 : (t431 != t449) = false := bne_eq_false_iff_eq.mpr c45
         clear c45
         replace H := Option.bind_eq_some_iff.mp H
         obtain ⟨t461, A460, H⟩ := H
         replace H : (if t461 = true then (if (t435.length : Int) = (t453.length : Int) then (pyxlaw22_XmssSplits.j1 kj4 t427 ((t438.length : Int) != (t456.length : Int)) t430 t431 t432 t435 t438 t448 t449 t450 t453 t456) else (pyxlaw22_XmssSplits.j1 kj4 t427 true t430 t431 t432 t435 t438 t448 t449 t450 t453 t456)) else (pyxlaw22_XmssSplits.j1 kj4 t427 true t430 t431 t432 t435 t438 t448 t449 t450 t453 t456)) = some r := H
         have A46 := Aside0.mk A460
         clear A460
         by_cases c47 : t461 = true
         ·subst c47
          have H1 : (if (t435.length : Int) = (t453.length : Int) then (pyxlaw22_XmssSplits.j1 kj4 t427 ((t438.length : Int) != (t456.length : Int)) t430 t431 t432 t435 t438 t448 t449 t450 t453 t456) else (pyxlaw22_XmssSplits.j1 kj4 t427 true t430 t431 t432 t435 t438 t448 t449 t450 t453 t456)) = some r := by rw [if_pos rfl] at H; exact H
          clear H
          have H := H1
          clear H1
          by_cases c48 : (t435.length : Int) = (t453.length : Int)
          ·rw [if_pos c48] at H
           have c48b0 : ((t435.length : Int) == (t453.length : Int)) = true := beq_iff_eq.mpr c48
           have c48b1 : ((t435.length : Int) != (t453.length : Int)) = false := bne_eq_false_iff_eq.mpr c48
           have c48b2 : (t435.length == t453.length) = true := by first | simpa using c48 | (simp at c48 ⊢; omega)
           clear c48
           have H' := Aside0.mk H
           clear H
           have hnb49 := NB442_446.out
           have hnc49 := NB446_442.out
           have hnb50 := NB442_459.out
           have hnc50 := NB459_442.out
           obtain ⟨hcz51_0, hcz51_1, hcz51_2, hcz51_3, hcz51_4⟩ := cells5_ BK442.out
           obtain ⟨hfz51_0, hfz51_1, hfz51_2, hfz51_3, hfz51_4⟩ := frz5_ BK442.out
           have hnb52 := NB459_446.out
           have hnc52 := NB446_459.out
           obtain ⟨hcz53_0, hcz53_1, hcz53_2, hcz53_3, hcz53_4⟩ := cells5_ BK459.out
           obtain ⟨hfz53_0, hfz53_1, hfz53_2, hfz53_3, hfz53_4⟩ := frz5_ BK459.out
           go_wp2_with (first | (go_at_call 23; (with_reducible refine (pyxref01_Same.calls kj4 _ _ t432 _ _ t450 true _ ?side1 ?side2 ?side3 ?side4 A46.out).mono ?_); (case side1 => refine (Kd.V_reads' (e := 5) (base := w.heap.size) (ok := fun k_ => ((((some k_ ≠ (.slice Ao21 t424.length co21 : Value).ownBlock ∧ (some k_ ≠ (.slice Ao23 t427.length co23 : Value).ownBlock ∧ (k_ ≠ gb442 ∧ k_ ≠ gb446))) ∧ some k_ ≠ (.slice Ao42 t453.length co42 : Value).ownBlock) ∧ some k_ ≠ (.slice Ao43 t456.length co43 : Value).ownBlock) ∧ k_ ≠ gb459)) (n := t432.length) (c := co27) ?_).2.2; exact q0_); (case side2 => exact (Kd.V_reads' HO434.out).2.1); (case side3 => refine (Kd.V_reads' (e := 5) (base := w.heap.size) (ok := fun k_ => ((some k_ ≠ (.slice Ao42 t453.length co42 : Value).ownBlock ∧ (some k_ ≠ (.slice Ao43 t456.length co43 : Value).ownBlock ∧ (some k_ ≠ (.slice Ao21 t424.length co21 : Value).ownBlock ∧ (k_ ≠ gb442 ∧ k_ ≠ gb446)))) ∧ k_ ≠ gb459)) (n := t450.length) (c := co41) ?_).2.2; exact q1_); (case side4 => exact (Kd.V_reads' HO452.out).2.1); rintro e w' ⟨rfl, ⟨nd, rfl⟩⟩; (try first | exact ⟨rfl, _, World.drewN_drewN _ _ _⟩ | exact ⟨rfl, _, Eq.trans (World.drewN_drewN _ _ _) (congrArg (World.drewN _) (Nat.add_assoc _ _ _))⟩)))
           go_meet
           case rel => exact ⟨_, (((t438.length : Int) != (t456.length : Int))), q64_, H', ⟨by have := HJ4.out; first | omega | exact Nat.le_refl _⟩, ⟨by (with_reducible repeat (first | apply Kd.R_alloc | apply Kd.R_drewN | apply Kd.R_drew)); exact farR_01234_ (Kd.R_types HO429.out BK459.out (by decide))⟩, ⟨by (with_reducible repeat (first | apply Kd.V_alloc | apply Kd.V_drewN | apply Kd.V_drew)); exact Kd.V_mono (Kd.V_far (p := ⟨gb459, 4, none⟩) (Kd.V_far (p := ⟨gb459, 3, none⟩) (Kd.V_far (p := ⟨gb459, 2, none⟩) (Kd.V_far (p := ⟨gb459, 1, none⟩) (Kd.V_far (p := ⟨gb459, 0, none⟩) (Kd.V_mono HO434.out (fun k_ hk => (⟨hk, hk.2⟩ : _ ∧ k_ ≠ gb459))) (fun _ hk => hk.2) (.int .i64 t448)) (fun _ hk => hk.2) (.int .u32 t449)) (fun _ hk => hk.2) (.slice Ao41 t450.length co41)) (fun _ hk => hk.2) (.slice Ao42 t453.length co42)) (fun _ hk => hk.2) (.slice Ao43 t456.length co43)) (fun _ hk => ⟨hk.1.1.1.1.2.1, ⟨hk.1.1.1.2, ⟨hk.1.1.2, ⟨hk.1.1.1.1.2.2.1, ⟨hk.1.1.1.1.2.2.2, hk.1.2⟩⟩⟩⟩⟩)⟩, ⟨by (with_reducible repeat (first | apply Kd.V_alloc | apply Kd.V_drewN | apply Kd.V_drew)); exact Kd.V_mono (Kd.V_far (p := ⟨gb459, 4, none⟩) (Kd.V_far (p := ⟨gb459, 3, none⟩) (Kd.V_far (p := ⟨gb459, 2, none⟩) (Kd.V_far (p := ⟨gb459, 1, none⟩) (Kd.V_far (p := ⟨gb459, 0, none⟩) (Kd.V_mono HO437.out (fun k_ hk => (⟨hk, hk.2⟩ : _ ∧ k_ ≠ gb459))) (fun _ hk => hk.2) (.int .i64 t448)) (fun _ hk => hk.2) (.int .u32 t449)) (fun _ hk => hk.2) (.slice Ao41 t450.length co41)) (fun _ hk => hk.2) (.slice Ao42 t453.length co42)) (fun _ hk => hk.2) (.slice Ao43 t456.length co43)) (fun _ hk => ⟨hk.1.1.1.1.2.1, ⟨hk.1.1.1.2, ⟨hk.1.1.2, ⟨hk.1.1.1.1.2.2.1, ⟨hk.1.1.1.1.2.2.2, hk.1.2⟩⟩⟩⟩⟩)⟩, ⟨by (with_reducible repeat (first | apply Kd.V_alloc | apply Kd.V_drewN | apply Kd.V_drew)); exact Kd.V_mono (Kd.V_far (p := ⟨gb459, 4, none⟩) (Kd.V_far (p := ⟨gb459, 3, none⟩) (Kd.V_far (p := ⟨gb459, 2, none⟩) (Kd.V_far (p := ⟨gb459, 1, none⟩) (Kd.V_far (p := ⟨gb459, 0, none⟩) (Kd.V_mono HO440.out (fun k_ hk => (⟨hk, hk.2⟩ : _ ∧ k_ ≠ gb459))) (fun _ hk => hk.2) (.int .i64 t448)) (fun _ hk => hk.2) (.int .u32 t449)) (fun _ hk => hk.2) (.slice Ao41 t450.length co41)) (fun _ hk => hk.2) (.slice Ao42 t453.length co42)) (fun _ hk => hk.2) (.slice Ao43 t456.length co43)) (fun _ hk => ⟨hk.1.1.1.1.2.1, ⟨hk.1.1.1.2, ⟨hk.1.1.2, ⟨hk.1.1.1.1.2.2.1, ⟨hk.1.1.1.1.2.2.2, hk.1.2⟩⟩⟩⟩⟩)⟩, ⟨by (with_reducible repeat (first | apply Kd.V_alloc | apply Kd.V_drewN | apply Kd.V_drew)); exact Kd.V_mono (Kd.V_far (p := ⟨gb459, 4, none⟩) (Kd.V_far (p := ⟨gb459, 3, none⟩) (Kd.V_far (p := ⟨gb459, 2, none⟩) (Kd.V_far (p := ⟨gb459, 1, none⟩) (Kd.V_far (p := ⟨gb459, 0, none⟩) (Kd.V_mono HO452.out (fun k_ hk => (⟨hk, hk.2⟩ : _ ∧ k_ ≠ gb459))) (fun _ hk => hk.2) (.int .i64 t448)) (fun _ hk => hk.2) (.int .u32 t449)) (fun _ hk => hk.2) (.slice Ao41 t450.length co41)) (fun _ hk => hk.2) (.slice Ao42 t453.length co42)) (fun _ hk => hk.2) (.slice Ao43 t456.length co43)) (fun _ hk => ⟨hk.1.1.1, ⟨hk.1.1.2.1, ⟨hk.1.1.2.2.2.1, ⟨hk.1.1.2.2.2.2, hk.1.2⟩⟩⟩⟩)⟩, ⟨by (with_reducible repeat (first | apply Kd.N_alloc | apply Kd.N_drewN | apply Kd.N_drew)); exact Kd.N_mono (Kd.N_far (p := ⟨gb459, 4, none⟩) (Kd.N_far (p := ⟨gb459, 3, none⟩) (Kd.N_far (p := ⟨gb459, 2, none⟩) (Kd.N_far (p := ⟨gb459, 1, none⟩) (Kd.N_far (p := ⟨gb459, 0, none⟩) (Kd.N_mono HO455.out (fun k_ hk => (⟨hk, hk.2⟩ : _ ∧ k_ ≠ gb459))) (fun _ hk => hk.2) (.int .i64 t448)) (fun _ hk => hk.2) (.int .u32 t449)) (fun _ hk => hk.2) (.slice Ao41 t450.length co41)) (fun _ hk => hk.2) (.slice Ao42 t453.length co42)) (fun _ hk => hk.2) (.slice Ao43 t456.length co43)) (fun _ hk => ⟨hk.1.1.1, ⟨hk.1.1.2.2.1, ⟨hk.1.1.2.2.2, hk.1.2⟩⟩⟩)⟩, ⟨by (with_reducible repeat (first | apply Kd.N_alloc | apply Kd.N_drewN | apply Kd.N_drew)); exact Kd.N_mono (Kd.N_far (p := ⟨gb459, 4, none⟩) (Kd.N_far (p := ⟨gb459, 3, none⟩) (Kd.N_far (p := ⟨gb459, 2, none⟩) (Kd.N_far (p := ⟨gb459, 1, none⟩) (Kd.N_far (p := ⟨gb459, 0, none⟩) (Kd.N_mono HO458.out (fun k_ hk => (⟨hk, hk.2⟩ : _ ∧ k_ ≠ gb459))) (fun _ hk => hk.2) (.int .i64 t448)) (fun _ hk => hk.2) (.int .u32 t449)) (fun _ hk => hk.2) (.slice Ao41 t450.length co41)) (fun _ hk => hk.2) (.slice Ao42 t453.length co42)) (fun _ hk => hk.2) (.slice Ao43 t456.length co43)) (fun _ hk => ⟨hk.1.1.1, ⟨hk.1.1.2.2.1, ⟨hk.1.1.2.2.2, hk.1.2⟩⟩⟩)⟩, ⟨by (with_reducible repeat (first | refine blk_drewN ?_ _ | refine blk_drew ?_ | refine blk_alloc ?_ _)); refine blk_far ?_ NB442_459.out _; (with_reducible repeat (first | refine blk_drewN ?_ _ | refine blk_drew ?_ | refine blk_alloc ?_ _)); refine blk_far ?_ NB442_459.out _; (with_reducible repeat (first | refine blk_drewN ?_ _ | refine blk_drew ?_ | refine blk_alloc ?_ _)); refine blk_far ?_ NB442_459.out _; (with_reducible repeat (first | refine blk_drewN ?_ _ | refine blk_drew ?_ | refine blk_alloc ?_ _)); refine blk_far ?_ NB442_459.out _; (with_reducible repeat (first | refine blk_drewN ?_ _ | refine blk_drew ?_ | refine blk_alloc ?_ _)); refine blk_far ?_ NB442_459.out _; (with_reducible repeat (first | refine blk_drewN ?_ _ | refine blk_drew ?_ | refine blk_alloc ?_ _)); exact BK442.out⟩, ⟨by (with_reducible repeat (first | refine blk_drewN ?_ _ | refine blk_drew ?_ | refine blk_alloc ?_ _)); refine blk_far ?_ NB446_459.out _; (with_reducible repeat (first | refine blk_drewN ?_ _ | refine blk_drew ?_ | refine blk_alloc ?_ _)); refine blk_far ?_ NB446_459.out _; (with_reducible repeat (first | refine blk_drewN ?_ _ | refine blk_drew ?_ | refine blk_alloc ?_ _)); refine blk_far ?_ NB446_459.out _; (with_reducible repeat (first | refine blk_drewN ?_ _ | refine blk_drew ?_ | refine blk_alloc ?_ _)); refine blk_far ?_ NB446_459.out _; (with_reducible repeat (first | refine blk_drewN ?_ _ | refine blk_drew ?_ | refine blk_alloc ?_ _)); refine blk_far ?_ NB446_459.out _; (with_reducible repeat (first | refine blk_drewN ?_ _ | refine blk_drew ?_ | refine blk_alloc ?_ _)); exact BK446.out⟩, ⟨by (with_reducible repeat (first | refine blk_drewN ?_ _ | refine blk_drew ?_ | refine blk_alloc ?_ _)); exact set5_01234_ BK459.out⟩, ⟨by repeat (first | (with_reducible first | exact HB.out | apply below_alloc | apply pw_below_drewN | apply below_drew1 | refine below_set ?_ GE442.out | refine below_set ?_ GE446.out | refine below_set ?_ GE459.out) | exact HB.out)⟩⟩
          ·rw [if_neg c48] at H
           have c48b0 : ((t435.length : Int) == (t453.length : Int)) = false := beq_eq_false_iff_ne.mpr c48
           have c48b1 : ((t435.length : Int) != (t453.length : Int)) = true := bne_iff_ne.mpr c48
           have c48b2 : (t435.length == t453.length) = false := by first | simpa using c48 | (simp at c48 ⊢; omega)
           have H' := Aside0.mk H
           clear H
           have hnb54 := NB442_446.out
           have hnc54 := NB446_442.out
           have hnb55 := NB442_459.out
           have hnc55 := NB459_442.out
           obtain ⟨hcz56_0, hcz56_1, hcz56_2, hcz56_3, hcz56_4⟩ := cells5_ BK442.out
           obtain ⟨hfz56_0, hfz56_1, hfz56_2, hfz56_3, hfz56_4⟩ := frz5_ BK442.out
           have hnb57 := NB459_446.out
           have hnc57 := NB446_459.out
           obtain ⟨hcz58_0, hcz58_1, hcz58_2, hcz58_3, hcz58_4⟩ := cells5_ BK459.out
           obtain ⟨hfz58_0, hfz58_1, hfz58_2, hfz58_3, hfz58_4⟩ := frz5_ BK459.out
           go_wp2_with (first | (go_at_call 23; (with_reducible refine (pyxref01_Same.calls kj4 _ _ t432 _ _ t450 true _ ?side1 ?side2 ?side3 ?side4 A46.out).mono ?_); (case side1 => refine (Kd.V_reads' (e := 5) (base := w.heap.size) (ok := fun k_ => ((((some k_ ≠ (.slice Ao21 t424.length co21 : Value).ownBlock ∧ (some k_ ≠ (.slice Ao23 t427.length co23 : Value).ownBlock ∧ (k_ ≠ gb442 ∧ k_ ≠ gb446))) ∧ some k_ ≠ (.slice Ao42 t453.length co42 : Value).ownBlock) ∧ some k_ ≠ (.slice Ao43 t456.length co43 : Value).ownBlock) ∧ k_ ≠ gb459)) (n := t432.length) (c := co27) ?_).2.2; exact q0_); (case side2 => exact (Kd.V_reads' HO434.out).2.1); (case side3 => refine (Kd.V_reads' (e := 5) (base := w.heap.size) (ok := fun k_ => ((some k_ ≠ (.slice Ao42 t453.length co42 : Value).ownBlock ∧ (some k_ ≠ (.slice Ao43 t456.length co43 : Value).ownBlock ∧ (some k_ ≠ (.slice Ao21 t424.length co21 : Value).ownBlock ∧ (k_ ≠ gb442 ∧ k_ ≠ gb446)))) ∧ k_ ≠ gb459)) (n := t450.length) (c := co41) ?_).2.2; exact q1_); (case side4 => exact (Kd.V_reads' HO452.out).2.1); rintro e w' ⟨rfl, ⟨nd, rfl⟩⟩; (try first | exact ⟨rfl, _, World.drewN_drewN _ _ _⟩ | exact ⟨rfl, _, Eq.trans (World.drewN_drewN _ _ _) (congrArg (World.drewN _) (Nat.add_assoc _ _ _))⟩)))
           go_meet
           case rel => exact ⟨_, (true), q64_, H', ⟨by have := HJ4.out; first | omega | exact Nat.le_refl _⟩, ⟨by (with_reducible repeat (first | apply Kd.R_alloc | apply Kd.R_drewN | apply Kd.R_drew)); exact farR_01234_ (Kd.R_types HO429.out BK459.out (by decide))⟩, ⟨by (with_reducible repeat (first | apply Kd.V_alloc | apply Kd.V_drewN | apply Kd.V_drew)); exact Kd.V_mono (Kd.V_far (p := ⟨gb459, 4, none⟩) (Kd.V_far (p := ⟨gb459, 3, none⟩) (Kd.V_far (p := ⟨gb459, 2, none⟩) (Kd.V_far (p := ⟨gb459, 1, none⟩) (Kd.V_far (p := ⟨gb459, 0, none⟩) (Kd.V_mono HO434.out (fun k_ hk => (⟨hk, hk.2⟩ : _ ∧ k_ ≠ gb459))) (fun _ hk => hk.2) (.int .i64 t448)) (fun _ hk => hk.2) (.int .u32 t449)) (fun _ hk => hk.2) (.slice Ao41 t450.length co41)) (fun _ hk => hk.2) (.slice Ao42 t453.length co42)) (fun _ hk => hk.2) (.slice Ao43 t456.length co43)) (fun _ hk => ⟨hk.1.1.1.1.2.1, ⟨hk.1.1.1.2, ⟨hk.1.1.2, ⟨hk.1.1.1.1.2.2.1, ⟨hk.1.1.1.1.2.2.2, hk.1.2⟩⟩⟩⟩⟩)⟩, ⟨by (with_reducible repeat (first | apply Kd.V_alloc | apply Kd.V_drewN | apply Kd.V_drew)); exact Kd.V_mono (Kd.V_far (p := ⟨gb459, 4, none⟩) (Kd.V_far (p := ⟨gb459, 3, none⟩) (Kd.V_far (p := ⟨gb459, 2, none⟩) (Kd.V_far (p := ⟨gb459, 1, none⟩) (Kd.V_far (p := ⟨gb459, 0, none⟩) (Kd.V_mono HO437.out (fun k_ hk => (⟨hk, hk.2⟩ : _ ∧ k_ ≠ gb459))) (fun _ hk => hk.2) (.int .i64 t448)) (fun _ hk => hk.2) (.int .u32 t449)) (fun _ hk => hk.2) (.slice Ao41 t450.length co41)) (fun _ hk => hk.2) (.slice Ao42 t453.length co42)) (fun _ hk => hk.2) (.slice Ao43 t456.length co43)) (fun _ hk => ⟨hk.1.1.1.1.2.1, ⟨hk.1.1.1.2, ⟨hk.1.1.2, ⟨hk.1.1.1.1.2.2.1, ⟨hk.1.1.1.1.2.2.2, hk.1.2⟩⟩⟩⟩⟩)⟩, ⟨by (with_reducible repeat (first | apply Kd.V_alloc | apply Kd.V_drewN | apply Kd.V_drew)); exact Kd.V_mono (Kd.V_far (p := ⟨gb459, 4, none⟩) (Kd.V_far (p := ⟨gb459, 3, none⟩) (Kd.V_far (p := ⟨gb459, 2, none⟩) (Kd.V_far (p := ⟨gb459, 1, none⟩) (Kd.V_far (p := ⟨gb459, 0, none⟩) (Kd.V_mono HO440.out (fun k_ hk => (⟨hk, hk.2⟩ : _ ∧ k_ ≠ gb459))) (fun _ hk => hk.2) (.int .i64 t448)) (fun _ hk => hk.2) (.int .u32 t449)) (fun _ hk => hk.2) (.slice Ao41 t450.length co41)) (fun _ hk => hk.2) (.slice Ao42 t453.length co42)) (fun _ hk => hk.2) (.slice Ao43 t456.length co43)) (fun _ hk => ⟨hk.1.1.1.1.2.1, ⟨hk.1.1.1.2, ⟨hk.1.1.2, ⟨hk.1.1.1.1.2.2.1, ⟨hk.1.1.1.1.2.2.2, hk.1.2⟩⟩⟩⟩⟩)⟩, ⟨by (with_reducible repeat (first | apply Kd.V_alloc | apply Kd.V_drewN | apply Kd.V_drew)); exact Kd.V_mono (Kd.V_far (p := ⟨gb459, 4, none⟩) (Kd.V_far (p := ⟨gb459, 3, none⟩) (Kd.V_far (p := ⟨gb459, 2, none⟩) (Kd.V_far (p := ⟨gb459, 1, none⟩) (Kd.V_far (p := ⟨gb459, 0, none⟩) (Kd.V_mono HO452.out (fun k_ hk => (⟨hk, hk.2⟩ : _ ∧ k_ ≠ gb459))) (fun _ hk => hk.2) (.int .i64 t448)) (fun _ hk => hk.2) (.int .u32 t449)) (fun _ hk => hk.2) (.slice Ao41 t450.length co41)) (fun _ hk => hk.2) (.slice Ao42 t453.length co42)) (fun _ hk => hk.2) (.slice Ao43 t456.length co43)) (fun _ hk => ⟨hk.1.1.1, ⟨hk.1.1.2.1, ⟨hk.1.1.2.2.2.1, ⟨hk.1.1.2.2.2.2, hk.1.2⟩⟩⟩⟩)⟩, ⟨by (with_reducible repeat (first | apply Kd.N_alloc | apply Kd.N_drewN | apply Kd.N_drew)); exact Kd.N_mono (Kd.N_far (p := ⟨gb459, 4, none⟩) (Kd.N_far (p := ⟨gb459, 3, none⟩) (Kd.N_far (p := ⟨gb459, 2, none⟩) (Kd.N_far (p := ⟨gb459, 1, none⟩) (Kd.N_far (p := ⟨gb459, 0, none⟩) (Kd.N_mono HO455.out (fun k_ hk => (⟨hk, hk.2⟩ : _ ∧ k_ ≠ gb459))) (fun _ hk => hk.2) (.int .i64 t448)) (fun _ hk => hk.2) (.int .u32 t449)) (fun _ hk => hk.2) (.slice Ao41 t450.length co41)) (fun _ hk => hk.2) (.slice Ao42 t453.length co42)) (fun _ hk => hk.2) (.slice Ao43 t456.length co43)) (fun _ hk => ⟨hk.1.1.1, ⟨hk.1.1.2.2.1, ⟨hk.1.1.2.2.2, hk.1.2⟩⟩⟩)⟩, ⟨by (with_reducible repeat (first | apply Kd.N_alloc | apply Kd.N_drewN | apply Kd.N_drew)); exact Kd.N_mono (Kd.N_far (p := ⟨gb459, 4, none⟩) (Kd.N_far (p := ⟨gb459, 3, none⟩) (Kd.N_far (p := ⟨gb459, 2, none⟩) (Kd.N_far (p := ⟨gb459, 1, none⟩) (Kd.N_far (p := ⟨gb459, 0, none⟩) (Kd.N_mono HO458.out (fun k_ hk => (⟨hk, hk.2⟩ : _ ∧ k_ ≠ gb459))) (fun _ hk => hk.2) (.int .i64 t448)) (fun _ hk => hk.2) (.int .u32 t449)) (fun _ hk => hk.2) (.slice Ao41 t450.length co41)) (fun _ hk => hk.2) (.slice Ao42 t453.length co42)) (fun _ hk => hk.2) (.slice Ao43 t456.length co43)) (fun _ hk => ⟨hk.1.1.1, ⟨hk.1.1.2.2.1, ⟨hk.1.1.2.2.2, hk.1.2⟩⟩⟩)⟩, ⟨by (with_reducible repeat (first | refine blk_drewN ?_ _ | refine blk_drew ?_ | refine blk_alloc ?_ _)); refine blk_far ?_ NB442_459.out _; (with_reducible repeat (first | refine blk_drewN ?_ _ | refine blk_drew ?_ | refine blk_alloc ?_ _)); refine blk_far ?_ NB442_459.out _; (with_reducible repeat (first | refine blk_drewN ?_ _ | refine blk_drew ?_ | refine blk_alloc ?_ _)); refine blk_far ?_ NB442_459.out _; (with_reducible repeat (first | refine blk_drewN ?_ _ | refine blk_drew ?_ | refine blk_alloc ?_ _)); refine blk_far ?_ NB442_459.out _; (with_reducible repeat (first | refine blk_drewN ?_ _ | refine blk_drew ?_ | refine blk_alloc ?_ _)); refine blk_far ?_ NB442_459.out _; (with_reducible repeat (first | refine blk_drewN ?_ _ | refine blk_drew ?_ | refine blk_alloc ?_ _)); exact BK442.out⟩, ⟨by (with_reducible repeat (first | refine blk_drewN ?_ _ | refine blk_drew ?_ | refine blk_alloc ?_ _)); refine blk_far ?_ NB446_459.out _; (with_reducible repeat (first | refine blk_drewN ?_ _ | refine blk_drew ?_ | refine blk_alloc ?_ _)); refine blk_far ?_ NB446_459.out _; (with_reducible repeat (first | refine blk_drewN ?_ _ | refine blk_drew ?_ | refine blk_alloc ?_ _)); refine blk_far ?_ NB446_459.out _; (with_reducible repeat (first | refine blk_drewN ?_ _ | refine blk_drew ?_ | refine blk_alloc ?_ _)); refine blk_far ?_ NB446_459.out _; (with_reducible repeat (first | refine blk_drewN ?_ _ | refine blk_drew ?_ | refine blk_alloc ?_ _)); refine blk_far ?_ NB446_459.out _; (with_reducible repeat (first | refine blk_drewN ?_ _ | refine blk_drew ?_ | refine blk_alloc ?_ _)); exact BK446.out⟩, ⟨by (with_reducible repeat (first | refine blk_drewN ?_ _ | refine blk_drew ?_ | refine blk_alloc ?_ _)); exact set5_01234_ BK459.out⟩, ⟨by repeat (first | (with_reducible first | exact HB.out | apply below_alloc | apply pw_below_drewN | apply below_drew1 | refine below_set ?_ GE442.out | refine below_set ?_ GE446.out | refine below_set ?_ GE459.out) | exact HB.out)⟩⟩
         ·replace c47 := Bool.eq_false_iff.mpr c47
          subst c47
          have H1 : (pyxlaw22_XmssSplits.j1 kj4 t427 true t430 t431 t432 t435 t438 t448 t449 t450 t453 t456) = some r := by rw [if_neg (show ¬ (false = true) by decide)] at H; exact H
          clear H
          have H := H1
          clear H1
          have H' := Aside0.mk H
          clear H
          have hnb59 := NB442_446.out
          have hnc59 := NB446_442.out
          have hnb60 := NB442_459.out
          have hnc60 := NB459_442.out
          obtain ⟨hcz61_0, hcz61_1, hcz61_2, hcz61_3, hcz61_4⟩ := cells5_ BK442.out
          obtain ⟨hfz61_0, hfz61_1, hfz61_2, hfz61_3, hfz61_4⟩ := frz5_ BK442.out
          have hnb62 := NB459_446.out
          have hnc62 := NB446_459.out
          obtain ⟨hcz63_0, hcz63_1, hcz63_2, hcz63_3, hcz63_4⟩ := cells5_ BK459.out
          obtain ⟨hfz63_0, hfz63_1, hfz63_2, hfz63_3, hfz63_4⟩ := frz5_ BK459.out
          go_wp2_with (first | (go_at_call 23; (with_reducible refine (pyxref01_Same.calls kj4 _ _ t432 _ _ t450 false _ ?side1 ?side2 ?side3 ?side4 A46.out).mono ?_); (case side1 => refine (Kd.V_reads' (e := 5) (base := w.heap.size) (ok := fun k_ => ((((some k_ ≠ (.slice Ao21 t424.length co21 : Value).ownBlock ∧ (some k_ ≠ (.slice Ao23 t427.length co23 : Value).ownBlock ∧ (k_ ≠ gb442 ∧ k_ ≠ gb446))) ∧ some k_ ≠ (.slice Ao42 t453.length co42 : Value).ownBlock) ∧ some k_ ≠ (.slice Ao43 t456.length co43 : Value).ownBlock) ∧ k_ ≠ gb459)) (n := t432.length) (c := co27) ?_).2.2; exact q0_); (case side2 => exact (Kd.V_reads' HO434.out).2.1); (case side3 => refine (Kd.V_reads' (e := 5) (base := w.heap.size) (ok := fun k_ => ((some k_ ≠ (.slice Ao42 t453.length co42 : Value).ownBlock ∧ (some k_ ≠ (.slice Ao43 t456.length co43 : Value).ownBlock ∧ (some k_ ≠ (.slice Ao21 t424.length co21 : Value).ownBlock ∧ (k_ ≠ gb442 ∧ k_ ≠ gb446)))) ∧ k_ ≠ gb459)) (n := t450.length) (c := co41) ?_).2.2; exact q1_); (case side4 => exact (Kd.V_reads' HO452.out).2.1); rintro e w' ⟨rfl, ⟨nd, rfl⟩⟩; (try first | exact ⟨rfl, _, World.drewN_drewN _ _ _⟩ | exact ⟨rfl, _, Eq.trans (World.drewN_drewN _ _ _) (congrArg (World.drewN _) (Nat.add_assoc _ _ _))⟩)))
          go_meet
          case rel => exact ⟨_, (true), q64_, H', ⟨by have := HJ4.out; first | omega | exact Nat.le_refl _⟩, ⟨by (with_reducible repeat (first | apply Kd.R_alloc | apply Kd.R_drewN | apply Kd.R_drew)); exact farR_01234_ (Kd.R_types HO429.out BK459.out (by decide))⟩, ⟨by (with_reducible repeat (first | apply Kd.V_alloc | apply Kd.V_drewN | apply Kd.V_drew)); exact Kd.V_mono (Kd.V_far (p := ⟨gb459, 4, none⟩) (Kd.V_far (p := ⟨gb459, 3, none⟩) (Kd.V_far (p := ⟨gb459, 2, none⟩) (Kd.V_far (p := ⟨gb459, 1, none⟩) (Kd.V_far (p := ⟨gb459, 0, none⟩) (Kd.V_mono HO434.out (fun k_ hk => (⟨hk, hk.2⟩ : _ ∧ k_ ≠ gb459))) (fun _ hk => hk.2) (.int .i64 t448)) (fun _ hk => hk.2) (.int .u32 t449)) (fun _ hk => hk.2) (.slice Ao41 t450.length co41)) (fun _ hk => hk.2) (.slice Ao42 t453.length co42)) (fun _ hk => hk.2) (.slice Ao43 t456.length co43)) (fun _ hk => ⟨hk.1.1.1.1.2.1, ⟨hk.1.1.1.2, ⟨hk.1.1.2, ⟨hk.1.1.1.1.2.2.1, ⟨hk.1.1.1.1.2.2.2, hk.1.2⟩⟩⟩⟩⟩)⟩, ⟨by (with_reducible repeat (first | apply Kd.V_alloc | apply Kd.V_drewN | apply Kd.V_drew)); exact Kd.V_mono (Kd.V_far (p := ⟨gb459, 4, none⟩) (Kd.V_far (p := ⟨gb459, 3, none⟩) (Kd.V_far (p := ⟨gb459, 2, none⟩) (Kd.V_far (p := ⟨gb459, 1, none⟩) (Kd.V_far (p := ⟨gb459, 0, none⟩) (Kd.V_mono HO437.out (fun k_ hk => (⟨hk, hk.2⟩ : _ ∧ k_ ≠ gb459))) (fun _ hk => hk.2) (.int .i64 t448)) (fun _ hk => hk.2) (.int .u32 t449)) (fun _ hk => hk.2) (.slice Ao41 t450.length co41)) (fun _ hk => hk.2) (.slice Ao42 t453.length co42)) (fun _ hk => hk.2) (.slice Ao43 t456.length co43)) (fun _ hk => ⟨hk.1.1.1.1.2.1, ⟨hk.1.1.1.2, ⟨hk.1.1.2, ⟨hk.1.1.1.1.2.2.1, ⟨hk.1.1.1.1.2.2.2, hk.1.2⟩⟩⟩⟩⟩)⟩, ⟨by (with_reducible repeat (first | apply Kd.V_alloc | apply Kd.V_drewN | apply Kd.V_drew)); exact Kd.V_mono (Kd.V_far (p := ⟨gb459, 4, none⟩) (Kd.V_far (p := ⟨gb459, 3, none⟩) (Kd.V_far (p := ⟨gb459, 2, none⟩) (Kd.V_far (p := ⟨gb459, 1, none⟩) (Kd.V_far (p := ⟨gb459, 0, none⟩) (Kd.V_mono HO440.out (fun k_ hk => (⟨hk, hk.2⟩ : _ ∧ k_ ≠ gb459))) (fun _ hk => hk.2) (.int .i64 t448)) (fun _ hk => hk.2) (.int .u32 t449)) (fun _ hk => hk.2) (.slice Ao41 t450.length co41)) (fun _ hk => hk.2) (.slice Ao42 t453.length co42)) (fun _ hk => hk.2) (.slice Ao43 t456.length co43)) (fun _ hk => ⟨hk.1.1.1.1.2.1, ⟨hk.1.1.1.2, ⟨hk.1.1.2, ⟨hk.1.1.1.1.2.2.1, ⟨hk.1.1.1.1.2.2.2, hk.1.2⟩⟩⟩⟩⟩)⟩, ⟨by (with_reducible repeat (first | apply Kd.V_alloc | apply Kd.V_drewN | apply Kd.V_drew)); exact Kd.V_mono (Kd.V_far (p := ⟨gb459, 4, none⟩) (Kd.V_far (p := ⟨gb459, 3, none⟩) (Kd.V_far (p := ⟨gb459, 2, none⟩) (Kd.V_far (p := ⟨gb459, 1, none⟩) (Kd.V_far (p := ⟨gb459, 0, none⟩) (Kd.V_mono HO452.out (fun k_ hk => (⟨hk, hk.2⟩ : _ ∧ k_ ≠ gb459))) (fun _ hk => hk.2) (.int .i64 t448)) (fun _ hk => hk.2) (.int .u32 t449)) (fun _ hk => hk.2) (.slice Ao41 t450.length co41)) (fun _ hk => hk.2) (.slice Ao42 t453.length co42)) (fun _ hk => hk.2) (.slice Ao43 t456.length co43)) (fun _ hk => ⟨hk.1.1.1, ⟨hk.1.1.2.1, ⟨hk.1.1.2.2.2.1, ⟨hk.1.1.2.2.2.2, hk.1.2⟩⟩⟩⟩)⟩, ⟨by (with_reducible repeat (first | apply Kd.N_alloc | apply Kd.N_drewN | apply Kd.N_drew)); exact Kd.N_mono (Kd.N_far (p := ⟨gb459, 4, none⟩) (Kd.N_far (p := ⟨gb459, 3, none⟩) (Kd.N_far (p := ⟨gb459, 2, none⟩) (Kd.N_far (p := ⟨gb459, 1, none⟩) (Kd.N_far (p := ⟨gb459, 0, none⟩) (Kd.N_mono HO455.out (fun k_ hk => (⟨hk, hk.2⟩ : _ ∧ k_ ≠ gb459))) (fun _ hk => hk.2) (.int .i64 t448)) (fun _ hk => hk.2) (.int .u32 t449)) (fun _ hk => hk.2) (.slice Ao41 t450.length co41)) (fun _ hk => hk.2) (.slice Ao42 t453.length co42)) (fun _ hk => hk.2) (.slice Ao43 t456.length co43)) (fun _ hk => ⟨hk.1.1.1, ⟨hk.1.1.2.2.1, ⟨hk.1.1.2.2.2, hk.1.2⟩⟩⟩)⟩, ⟨by (with_reducible repeat (first | apply Kd.N_alloc | apply Kd.N_drewN | apply Kd.N_drew)); exact Kd.N_mono (Kd.N_far (p := ⟨gb459, 4, none⟩) (Kd.N_far (p := ⟨gb459, 3, none⟩) (Kd.N_far (p := ⟨gb459, 2, none⟩) (Kd.N_far (p := ⟨gb459, 1, none⟩) (Kd.N_far (p := ⟨gb459, 0, none⟩) (Kd.N_mono HO458.out (fun k_ hk => (⟨hk, hk.2⟩ : _ ∧ k_ ≠ gb459))) (fun _ hk => hk.2) (.int .i64 t448)) (fun _ hk => hk.2) (.int .u32 t449)) (fun _ hk => hk.2) (.slice Ao41 t450.length co41)) (fun _ hk => hk.2) (.slice Ao42 t453.length co42)) (fun _ hk => hk.2) (.slice Ao43 t456.length co43)) (fun _ hk => ⟨hk.1.1.1, ⟨hk.1.1.2.2.1, ⟨hk.1.1.2.2.2, hk.1.2⟩⟩⟩)⟩, ⟨by (with_reducible repeat (first | refine blk_drewN ?_ _ | refine blk_drew ?_ | refine blk_alloc ?_ _)); refine blk_far ?_ NB442_459.out _; (with_reducible repeat (first | refine blk_drewN ?_ _ | refine blk_drew ?_ | refine blk_alloc ?_ _)); refine blk_far ?_ NB442_459.out _; (with_reducible repeat (first | refine blk_drewN ?_ _ | refine blk_drew ?_ | refine blk_alloc ?_ _)); refine blk_far ?_ NB442_459.out _; (with_reducible repeat (first | refine blk_drewN ?_ _ | refine blk_drew ?_ | refine blk_alloc ?_ _)); refine blk_far ?_ NB442_459.out _; (with_reducible repeat (first | refine blk_drewN ?_ _ | refine blk_drew ?_ | refine blk_alloc ?_ _)); refine blk_far ?_ NB442_459.out _; (with_reducible repeat (first | refine blk_drewN ?_ _ | refine blk_drew ?_ | refine blk_alloc ?_ _)); exact BK442.out⟩, ⟨by (with_reducible repeat (first | refine blk_drewN ?_ _ | refine blk_drew ?_ | refine blk_alloc ?_ _)); refine blk_far ?_ NB446_459.out _; (with_reducible repeat (first | refine blk_drewN ?_ _ | refine blk_drew ?_ | refine blk_alloc ?_ _)); refine blk_far ?_ NB446_459.out _; (with_reducible repeat (first | refine blk_drewN ?_ _ | refine blk_drew ?_ | refine blk_alloc ?_ _)); refine blk_far ?_ NB446_459.out _; (with_reducible repeat (first | refine blk_drewN ?_ _ | refine blk_drew ?_ | refine blk_alloc ?_ _)); refine blk_far ?_ NB446_459.out _; (with_reducible repeat (first | refine blk_drewN ?_ _ | refine blk_drew ?_ | refine blk_alloc ?_ _)); refine blk_far ?_ NB446_459.out _; (with_reducible repeat (first | refine blk_drewN ?_ _ | refine blk_drew ?_ | refine blk_alloc ?_ _)); exact BK446.out⟩, ⟨by (with_reducible repeat (first | refine blk_drewN ?_ _ | refine blk_drew ?_ | refine blk_alloc ?_ _)); exact set5_01234_ BK459.out⟩, ⟨by repeat (first | (with_reducible first | exact HB.out | apply below_alloc | apply pw_below_drewN | apply below_drew1 | refine below_set ?_ GE442.out | refine below_set ?_ GE446.out | refine below_set ?_ GE459.out) | exact HB.out)⟩⟩
        ·rw [if_neg c45] at H
         have c45b0 : (t431 == t449) = false := beq_eq_false_iff_ne.mpr c45
         have c45b1 : (t431 != t449) = true := bne_iff_ne.mpr c45
         have H' := Aside0.mk H
         clear H
         have hnb64 := NB442_446.out
         have hnc64 := NB446_442.out
         have hnb65 := NB442_459.out
         have hnc65 := NB459_442.out
         obtain ⟨hcz66_0, hcz66_1, hcz66_2, hcz66_3, hcz66_4⟩ := cells5_ BK442.out
         obtain ⟨hfz66_0, hfz66_1, hfz66_2, hfz66_3, hfz66_4⟩ := frz5_ BK442.out
         have hnb67 := NB459_446.out
         have hnc67 := NB446_459.out
         obtain ⟨hcz68_0, hcz68_1, hcz68_2, hcz68_3, hcz68_4⟩ := cells5_ BK459.out
         obtain ⟨hfz68_0, hfz68_1, hfz68_2, hfz68_3, hfz68_4⟩ := frz5_ BK459.out
         go_wp2
         repeat (go_quiet (fail); try go_wp2)
         go_meet
         case rel => exact ⟨_, (true), q64_, H', ⟨by have := HJ4.out; first | omega | exact Nat.le_refl _⟩, ⟨by (with_reducible repeat (first | apply Kd.R_alloc | apply Kd.R_drewN | apply Kd.R_drew)); exact farR_01234_ (Kd.R_types HO429.out BK459.out (by decide))⟩, ⟨by (with_reducible repeat (first | apply Kd.V_alloc | apply Kd.V_drewN | apply Kd.V_drew)); exact Kd.V_mono (Kd.V_far (p := ⟨gb459, 4, none⟩) (Kd.V_far (p := ⟨gb459, 3, none⟩) (Kd.V_far (p := ⟨gb459, 2, none⟩) (Kd.V_far (p := ⟨gb459, 1, none⟩) (Kd.V_far (p := ⟨gb459, 0, none⟩) (Kd.V_mono HO434.out (fun k_ hk => (⟨hk, hk.2⟩ : _ ∧ k_ ≠ gb459))) (fun _ hk => hk.2) (.int .i64 t448)) (fun _ hk => hk.2) (.int .u32 t449)) (fun _ hk => hk.2) (.slice Ao41 t450.length co41)) (fun _ hk => hk.2) (.slice Ao42 t453.length co42)) (fun _ hk => hk.2) (.slice Ao43 t456.length co43)) (fun _ hk => ⟨hk.1.1.1.1.2.1, ⟨hk.1.1.1.2, ⟨hk.1.1.2, ⟨hk.1.1.1.1.2.2.1, ⟨hk.1.1.1.1.2.2.2, hk.1.2⟩⟩⟩⟩⟩)⟩, ⟨by (with_reducible repeat (first | apply Kd.V_alloc | apply Kd.V_drewN | apply Kd.V_drew)); exact Kd.V_mono (Kd.V_far (p := ⟨gb459, 4, none⟩) (Kd.V_far (p := ⟨gb459, 3, none⟩) (Kd.V_far (p := ⟨gb459, 2, none⟩) (Kd.V_far (p := ⟨gb459, 1, none⟩) (Kd.V_far (p := ⟨gb459, 0, none⟩) (Kd.V_mono HO437.out (fun k_ hk => (⟨hk, hk.2⟩ : _ ∧ k_ ≠ gb459))) (fun _ hk => hk.2) (.int .i64 t448)) (fun _ hk => hk.2) (.int .u32 t449)) (fun _ hk => hk.2) (.slice Ao41 t450.length co41)) (fun _ hk => hk.2) (.slice Ao42 t453.length co42)) (fun _ hk => hk.2) (.slice Ao43 t456.length co43)) (fun _ hk => ⟨hk.1.1.1.1.2.1, ⟨hk.1.1.1.2, ⟨hk.1.1.2, ⟨hk.1.1.1.1.2.2.1, ⟨hk.1.1.1.1.2.2.2, hk.1.2⟩⟩⟩⟩⟩)⟩, ⟨by (with_reducible repeat (first | apply Kd.V_alloc | apply Kd.V_drewN | apply Kd.V_drew)); exact Kd.V_mono (Kd.V_far (p := ⟨gb459, 4, none⟩) (Kd.V_far (p := ⟨gb459, 3, none⟩) (Kd.V_far (p := ⟨gb459, 2, none⟩) (Kd.V_far (p := ⟨gb459, 1, none⟩) (Kd.V_far (p := ⟨gb459, 0, none⟩) (Kd.V_mono HO440.out (fun k_ hk => (⟨hk, hk.2⟩ : _ ∧ k_ ≠ gb459))) (fun _ hk => hk.2) (.int .i64 t448)) (fun _ hk => hk.2) (.int .u32 t449)) (fun _ hk => hk.2) (.slice Ao41 t450.length co41)) (fun _ hk => hk.2) (.slice Ao42 t453.length co42)) (fun _ hk => hk.2) (.slice Ao43 t456.length co43)) (fun _ hk => ⟨hk.1.1.1.1.2.1, ⟨hk.1.1.1.2, ⟨hk.1.1.2, ⟨hk.1.1.1.1.2.2.1, ⟨hk.1.1.1.1.2.2.2, hk.1.2⟩⟩⟩⟩⟩)⟩, ⟨by (with_reducible repeat (first | apply Kd.V_alloc | apply Kd.V_drewN | apply Kd.V_drew)); exact Kd.V_mono (Kd.V_far (p := ⟨gb459, 4, none⟩) (Kd.V_far (p := ⟨gb459, 3, none⟩) (Kd.V_far (p := ⟨gb459, 2, none⟩) (Kd.V_far (p := ⟨gb459, 1, none⟩) (Kd.V_far (p := ⟨gb459, 0, none⟩) (Kd.V_mono HO452.out (fun k_ hk => (⟨hk, hk.2⟩ : _ ∧ k_ ≠ gb459))) (fun _ hk => hk.2) (.int .i64 t448)) (fun _ hk => hk.2) (.int .u32 t449)) (fun _ hk => hk.2) (.slice Ao41 t450.length co41)) (fun _ hk => hk.2) (.slice Ao42 t453.length co42)) (fun _ hk => hk.2) (.slice Ao43 t456.length co43)) (fun _ hk => ⟨hk.1.1.1, ⟨hk.1.1.2.1, ⟨hk.1.1.2.2.2.1, ⟨hk.1.1.2.2.2.2, hk.1.2⟩⟩⟩⟩)⟩, ⟨by (with_reducible repeat (first | apply Kd.N_alloc | apply Kd.N_drewN | apply Kd.N_drew)); exact Kd.N_mono (Kd.N_far (p := ⟨gb459, 4, none⟩) (Kd.N_far (p := ⟨gb459, 3, none⟩) (Kd.N_far (p := ⟨gb459, 2, none⟩) (Kd.N_far (p := ⟨gb459, 1, none⟩) (Kd.N_far (p := ⟨gb459, 0, none⟩) (Kd.N_mono HO455.out (fun k_ hk => (⟨hk, hk.2⟩ : _ ∧ k_ ≠ gb459))) (fun _ hk => hk.2) (.int .i64 t448)) (fun _ hk => hk.2) (.int .u32 t449)) (fun _ hk => hk.2) (.slice Ao41 t450.length co41)) (fun _ hk => hk.2) (.slice Ao42 t453.length co42)) (fun _ hk => hk.2) (.slice Ao43 t456.length co43)) (fun _ hk => ⟨hk.1.1.1, ⟨hk.1.1.2.2.1, ⟨hk.1.1.2.2.2, hk.1.2⟩⟩⟩)⟩, ⟨by (with_reducible repeat (first | apply Kd.N_alloc | apply Kd.N_drewN | apply Kd.N_drew)); exact Kd.N_mono (Kd.N_far (p := ⟨gb459, 4, none⟩) (Kd.N_far (p := ⟨gb459, 3, none⟩) (Kd.N_far (p := ⟨gb459, 2, none⟩) (Kd.N_far (p := ⟨gb459, 1, none⟩) (Kd.N_far (p := ⟨gb459, 0, none⟩) (Kd.N_mono HO458.out (fun k_ hk => (⟨hk, hk.2⟩ : _ ∧ k_ ≠ gb459))) (fun _ hk => hk.2) (.int .i64 t448)) (fun _ hk => hk.2) (.int .u32 t449)) (fun _ hk => hk.2) (.slice Ao41 t450.length co41)) (fun _ hk => hk.2) (.slice Ao42 t453.length co42)) (fun _ hk => hk.2) (.slice Ao43 t456.length co43)) (fun _ hk => ⟨hk.1.1.1, ⟨hk.1.1.2.2.1, ⟨hk.1.1.2.2.2, hk.1.2⟩⟩⟩)⟩, ⟨by (with_reducible repeat (first | refine blk_drewN ?_ _ | refine blk_drew ?_ | refine blk_alloc ?_ _)); refine blk_far ?_ NB442_459.out _; (with_reducible repeat (first | refine blk_drewN ?_ _ | refine blk_drew ?_ | refine blk_alloc ?_ _)); refine blk_far ?_ NB442_459.out _; (with_reducible repeat (first | refine blk_drewN ?_ _ | refine blk_drew ?_ | refine blk_alloc ?_ _)); refine blk_far ?_ NB442_459.out _; (with_reducible repeat (first | refine blk_drewN ?_ _ | refine blk_drew ?_ | refine blk_alloc ?_ _)); refine blk_far ?_ NB442_459.out _; (with_reducible repeat (first | refine blk_drewN ?_ _ | refine blk_drew ?_ | refine blk_alloc ?_ _)); refine blk_far ?_ NB442_459.out _; (with_reducible repeat (first | refine blk_drewN ?_ _ | refine blk_drew ?_ | refine blk_alloc ?_ _)); exact BK442.out⟩, ⟨by (with_reducible repeat (first | refine blk_drewN ?_ _ | refine blk_drew ?_ | refine blk_alloc ?_ _)); refine blk_far ?_ NB446_459.out _; (with_reducible repeat (first | refine blk_drewN ?_ _ | refine blk_drew ?_ | refine blk_alloc ?_ _)); refine blk_far ?_ NB446_459.out _; (with_reducible repeat (first | refine blk_drewN ?_ _ | refine blk_drew ?_ | refine blk_alloc ?_ _)); refine blk_far ?_ NB446_459.out _; (with_reducible repeat (first | refine blk_drewN ?_ _ | refine blk_drew ?_ | refine blk_alloc ?_ _)); refine blk_far ?_ NB446_459.out _; (with_reducible repeat (first | refine blk_drewN ?_ _ | refine blk_drew ?_ | refine blk_alloc ?_ _)); refine blk_far ?_ NB446_459.out _; (with_reducible repeat (first | refine blk_drewN ?_ _ | refine blk_drew ?_ | refine blk_alloc ?_ _)); exact BK446.out⟩, ⟨by (with_reducible repeat (first | refine blk_drewN ?_ _ | refine blk_drew ?_ | refine blk_alloc ?_ _)); exact set5_01234_ BK459.out⟩, ⟨by repeat (first | (with_reducible first | exact HB.out | apply below_alloc | apply pw_below_drewN | apply below_drew1 | refine below_set ?_ GE442.out | refine below_set ?_ GE446.out | refine below_set ?_ GE459.out) | exact HB.out)⟩⟩
       ·rw [if_neg c44] at H
        have c44b0 : (t430 == t448) = false := beq_eq_false_iff_ne.mpr c44
        have c44b1 : (t430 != t448) = true := bne_iff_ne.mpr c44
        (first | rw [c44b0] | (simp only [i64_w, i32_w]; rw [c44b0]) | skip)
        have H' := Aside0.mk H
        clear H
        have hnb69 := NB442_446.out
        have hnc69 := NB446_442.out
        have hnb70 := NB442_459.out
        have hnc70 := NB459_442.out
        obtain ⟨hcz71_0, hcz71_1, hcz71_2, hcz71_3, hcz71_4⟩ := cells5_ BK442.out
        obtain ⟨hfz71_0, hfz71_1, hfz71_2, hfz71_3, hfz71_4⟩ := frz5_ BK442.out
        have hnb72 := NB459_446.out
        have hnc72 := NB446_459.out
        obtain ⟨hcz73_0, hcz73_1, hcz73_2, hcz73_3, hcz73_4⟩ := cells5_ BK459.out
        obtain ⟨hfz73_0, hfz73_1, hfz73_2, hfz73_3, hfz73_4⟩ := frz5_ BK459.out
        go_wp2
        repeat (go_quiet (fail); try go_wp2)
        go_meet
        case rel => exact ⟨_, (true), q64_, H', ⟨by have := HJ4.out; first | omega | exact Nat.le_refl _⟩, ⟨by (with_reducible repeat (first | apply Kd.R_alloc | apply Kd.R_drewN | apply Kd.R_drew)); exact farR_01234_ (Kd.R_types HO429.out BK459.out (by decide))⟩, ⟨by (with_reducible repeat (first | apply Kd.V_alloc | apply Kd.V_drewN | apply Kd.V_drew)); exact Kd.V_mono (Kd.V_far (p := ⟨gb459, 4, none⟩) (Kd.V_far (p := ⟨gb459, 3, none⟩) (Kd.V_far (p := ⟨gb459, 2, none⟩) (Kd.V_far (p := ⟨gb459, 1, none⟩) (Kd.V_far (p := ⟨gb459, 0, none⟩) (Kd.V_mono HO434.out (fun k_ hk => (⟨hk, hk.2⟩ : _ ∧ k_ ≠ gb459))) (fun _ hk => hk.2) (.int .i64 t448)) (fun _ hk => hk.2) (.int .u32 t449)) (fun _ hk => hk.2) (.slice Ao41 t450.length co41)) (fun _ hk => hk.2) (.slice Ao42 t453.length co42)) (fun _ hk => hk.2) (.slice Ao43 t456.length co43)) (fun _ hk => ⟨hk.1.1.1.1.2.1, ⟨hk.1.1.1.2, ⟨hk.1.1.2, ⟨hk.1.1.1.1.2.2.1, ⟨hk.1.1.1.1.2.2.2, hk.1.2⟩⟩⟩⟩⟩)⟩, ⟨by (with_reducible repeat (first | apply Kd.V_alloc | apply Kd.V_drewN | apply Kd.V_drew)); exact Kd.V_mono (Kd.V_far (p := ⟨gb459, 4, none⟩) (Kd.V_far (p := ⟨gb459, 3, none⟩) (Kd.V_far (p := ⟨gb459, 2, none⟩) (Kd.V_far (p := ⟨gb459, 1, none⟩) (Kd.V_far (p := ⟨gb459, 0, none⟩) (Kd.V_mono HO437.out (fun k_ hk => (⟨hk, hk.2⟩ : _ ∧ k_ ≠ gb459))) (fun _ hk => hk.2) (.int .i64 t448)) (fun _ hk => hk.2) (.int .u32 t449)) (fun _ hk => hk.2) (.slice Ao41 t450.length co41)) (fun _ hk => hk.2) (.slice Ao42 t453.length co42)) (fun _ hk => hk.2) (.slice Ao43 t456.length co43)) (fun _ hk => ⟨hk.1.1.1.1.2.1, ⟨hk.1.1.1.2, ⟨hk.1.1.2, ⟨hk.1.1.1.1.2.2.1, ⟨hk.1.1.1.1.2.2.2, hk.1.2⟩⟩⟩⟩⟩)⟩, ⟨by (with_reducible repeat (first | apply Kd.V_alloc | apply Kd.V_drewN | apply Kd.V_drew)); exact Kd.V_mono (Kd.V_far (p := ⟨gb459, 4, none⟩) (Kd.V_far (p := ⟨gb459, 3, none⟩) (Kd.V_far (p := ⟨gb459, 2, none⟩) (Kd.V_far (p := ⟨gb459, 1, none⟩) (Kd.V_far (p := ⟨gb459, 0, none⟩) (Kd.V_mono HO440.out (fun k_ hk => (⟨hk, hk.2⟩ : _ ∧ k_ ≠ gb459))) (fun _ hk => hk.2) (.int .i64 t448)) (fun _ hk => hk.2) (.int .u32 t449)) (fun _ hk => hk.2) (.slice Ao41 t450.length co41)) (fun _ hk => hk.2) (.slice Ao42 t453.length co42)) (fun _ hk => hk.2) (.slice Ao43 t456.length co43)) (fun _ hk => ⟨hk.1.1.1.1.2.1, ⟨hk.1.1.1.2, ⟨hk.1.1.2, ⟨hk.1.1.1.1.2.2.1, ⟨hk.1.1.1.1.2.2.2, hk.1.2⟩⟩⟩⟩⟩)⟩, ⟨by (with_reducible repeat (first | apply Kd.V_alloc | apply Kd.V_drewN | apply Kd.V_drew)); exact Kd.V_mono (Kd.V_far (p := ⟨gb459, 4, none⟩) (Kd.V_far (p := ⟨gb459, 3, none⟩) (Kd.V_far (p := ⟨gb459, 2, none⟩) (Kd.V_far (p := ⟨gb459, 1, none⟩) (Kd.V_far (p := ⟨gb459, 0, none⟩) (Kd.V_mono HO452.out (fun k_ hk => (⟨hk, hk.2⟩ : _ ∧ k_ ≠ gb459))) (fun _ hk => hk.2) (.int .i64 t448)) (fun _ hk => hk.2) (.int .u32 t449)) (fun _ hk => hk.2) (.slice Ao41 t450.length co41)) (fun _ hk => hk.2) (.slice Ao42 t453.length co42)) (fun _ hk => hk.2) (.slice Ao43 t456.length co43)) (fun _ hk => ⟨hk.1.1.1, ⟨hk.1.1.2.1, ⟨hk.1.1.2.2.2.1, ⟨hk.1.1.2.2.2.2, hk.1.2⟩⟩⟩⟩)⟩, ⟨by (with_reducible repeat (first | apply Kd.N_alloc | apply Kd.N_drewN | apply Kd.N_drew)); exact Kd.N_mono (Kd.N_far (p := ⟨gb459, 4, none⟩) (Kd.N_far (p := ⟨gb459, 3, none⟩) (Kd.N_far (p := ⟨gb459, 2, none⟩) (Kd.N_far (p := ⟨gb459, 1, none⟩) (Kd.N_far (p := ⟨gb459, 0, none⟩) (Kd.N_mono HO455.out (fun k_ hk => (⟨hk, hk.2⟩ : _ ∧ k_ ≠ gb459))) (fun _ hk => hk.2) (.int .i64 t448)) (fun _ hk => hk.2) (.int .u32 t449)) (fun _ hk => hk.2) (.slice Ao41 t450.length co41)) (fun _ hk => hk.2) (.slice Ao42 t453.length co42)) (fun _ hk => hk.2) (.slice Ao43 t456.length co43)) (fun _ hk => ⟨hk.1.1.1, ⟨hk.1.1.2.2.1, ⟨hk.1.1.2.2.2, hk.1.2⟩⟩⟩)⟩, ⟨by (with_reducible repeat (first | apply Kd.N_alloc | apply Kd.N_drewN | apply Kd.N_drew)); exact Kd.N_mono (Kd.N_far (p := ⟨gb459, 4, none⟩) (Kd.N_far (p := ⟨gb459, 3, none⟩) (Kd.N_far (p := ⟨gb459, 2, none⟩) (Kd.N_far (p := ⟨gb459, 1, none⟩) (Kd.N_far (p := ⟨gb459, 0, none⟩) (Kd.N_mono HO458.out (fun k_ hk => (⟨hk, hk.2⟩ : _ ∧ k_ ≠ gb459))) (fun _ hk => hk.2) (.int .i64 t448)) (fun _ hk => hk.2) (.int .u32 t449)) (fun _ hk => hk.2) (.slice Ao41 t450.length co41)) (fun _ hk => hk.2) (.slice Ao42 t453.length co42)) (fun _ hk => hk.2) (.slice Ao43 t456.length co43)) (fun _ hk => ⟨hk.1.1.1, ⟨hk.1.1.2.2.1, ⟨hk.1.1.2.2.2, hk.1.2⟩⟩⟩)⟩, ⟨by (with_reducible repeat (first | refine blk_drewN ?_ _ | refine blk_drew ?_ | refine blk_alloc ?_ _)); refine blk_far ?_ NB442_459.out _; (with_reducible repeat (first | refine blk_drewN ?_ _ | refine blk_drew ?_ | refine blk_alloc ?_ _)); refine blk_far ?_ NB442_459.out _; (with_reducible repeat (first | refine blk_drewN ?_ _ | refine blk_drew ?_ | refine blk_alloc ?_ _)); refine blk_far ?_ NB442_459.out _; (with_reducible repeat (first | refine blk_drewN ?_ _ | refine blk_drew ?_ | refine blk_alloc ?_ _)); refine blk_far ?_ NB442_459.out _; (with_reducible repeat (first | refine blk_drewN ?_ _ | refine blk_drew ?_ | refine blk_alloc ?_ _)); refine blk_far ?_ NB442_459.out _; (with_reducible repeat (first | refine blk_drewN ?_ _ | refine blk_drew ?_ | refine blk_alloc ?_ _)); exact BK442.out⟩, ⟨by (with_reducible repeat (first | refine blk_drewN ?_ _ | refine blk_drew ?_ | refine blk_alloc ?_ _)); refine blk_far ?_ NB446_459.out _; (with_reducible repeat (first | refine blk_drewN ?_ _ | refine blk_drew ?_ | refine blk_alloc ?_ _)); refine blk_far ?_ NB446_459.out _; (with_reducible repeat (first | refine blk_drewN ?_ _ | refine blk_drew ?_ | refine blk_alloc ?_ _)); refine blk_far ?_ NB446_459.out _; (with_reducible repeat (first | refine blk_drewN ?_ _ | refine blk_drew ?_ | refine blk_alloc ?_ _)); refine blk_far ?_ NB446_459.out _; (with_reducible repeat (first | refine blk_drewN ?_ _ | refine blk_drew ?_ | refine blk_alloc ?_ _)); refine blk_far ?_ NB446_459.out _; (with_reducible repeat (first | refine blk_drewN ?_ _ | refine blk_drew ?_ | refine blk_alloc ?_ _)); exact BK446.out⟩, ⟨by (with_reducible repeat (first | refine blk_drewN ?_ _ | refine blk_drew ?_ | refine blk_alloc ?_ _)); exact set5_01234_ BK459.out⟩, ⟨by repeat (first | (with_reducible first | exact HB.out | apply below_alloc | apply pw_below_drewN | apply below_drew1 | refine below_set ?_ GE442.out | refine below_set ?_ GE446.out | refine below_set ?_ GE459.out) | exact HB.out)⟩⟩
      ·have H1 : (pyxlaw22_XmssSplits.j1 kj4 t427 true t430 t431 t432 t435 t438 t448 t449 t450 t453 t456) = some r := by rw [if_neg (show ¬ (some q460).isNone = true by simp)] at H; exact H
       clear H
       have H := H1
       clear H1
       try simp only [errW_none, errW_some]
       have H' := Aside0.mk H
       clear H
       go_wp2
       repeat (go_quiet (fail); try go_wp2)
       go_meet
       case rel => exact ⟨_, (true), q64_, H', ⟨by have := HJ4.out; first | omega | exact Nat.le_refl _⟩, ⟨by (with_reducible repeat (first | apply Kd.R_alloc | apply Kd.R_drewN | apply Kd.R_drew)); exact farR_01234_ (Kd.R_types HO429.out BK459.out (by decide))⟩, ⟨by (with_reducible repeat (first | apply Kd.V_alloc | apply Kd.V_drewN | apply Kd.V_drew)); exact Kd.V_mono (Kd.V_far (p := ⟨gb459, 4, none⟩) (Kd.V_far (p := ⟨gb459, 3, none⟩) (Kd.V_far (p := ⟨gb459, 2, none⟩) (Kd.V_far (p := ⟨gb459, 1, none⟩) (Kd.V_far (p := ⟨gb459, 0, none⟩) (Kd.V_mono HO434.out (fun k_ hk => (⟨hk, hk.2⟩ : _ ∧ k_ ≠ gb459))) (fun _ hk => hk.2) (.int .i64 t448)) (fun _ hk => hk.2) (.int .u32 t449)) (fun _ hk => hk.2) (.slice Ao41 t450.length co41)) (fun _ hk => hk.2) (.slice Ao42 t453.length co42)) (fun _ hk => hk.2) (.slice Ao43 t456.length co43)) (fun _ hk => ⟨hk.1.1.1.1.2.1, ⟨hk.1.1.1.2, ⟨hk.1.1.2, ⟨hk.1.1.1.1.2.2.1, ⟨hk.1.1.1.1.2.2.2, hk.1.2⟩⟩⟩⟩⟩)⟩, ⟨by (with_reducible repeat (first | apply Kd.V_alloc | apply Kd.V_drewN | apply Kd.V_drew)); exact Kd.V_mono (Kd.V_far (p := ⟨gb459, 4, none⟩) (Kd.V_far (p := ⟨gb459, 3, none⟩) (Kd.V_far (p := ⟨gb459, 2, none⟩) (Kd.V_far (p := ⟨gb459, 1, none⟩) (Kd.V_far (p := ⟨gb459, 0, none⟩) (Kd.V_mono HO437.out (fun k_ hk => (⟨hk, hk.2⟩ : _ ∧ k_ ≠ gb459))) (fun _ hk => hk.2) (.int .i64 t448)) (fun _ hk => hk.2) (.int .u32 t449)) (fun _ hk => hk.2) (.slice Ao41 t450.length co41)) (fun _ hk => hk.2) (.slice Ao42 t453.length co42)) (fun _ hk => hk.2) (.slice Ao43 t456.length co43)) (fun _ hk => ⟨hk.1.1.1.1.2.1, ⟨hk.1.1.1.2, ⟨hk.1.1.2, ⟨hk.1.1.1.1.2.2.1, ⟨hk.1.1.1.1.2.2.2, hk.1.2⟩⟩⟩⟩⟩)⟩, ⟨by (with_reducible repeat (first | apply Kd.V_alloc | apply Kd.V_drewN | apply Kd.V_drew)); exact Kd.V_mono (Kd.V_far (p := ⟨gb459, 4, none⟩) (Kd.V_far (p := ⟨gb459, 3, none⟩) (Kd.V_far (p := ⟨gb459, 2, none⟩) (Kd.V_far (p := ⟨gb459, 1, none⟩) (Kd.V_far (p := ⟨gb459, 0, none⟩) (Kd.V_mono HO440.out (fun k_ hk => (⟨hk, hk.2⟩ : _ ∧ k_ ≠ gb459))) (fun _ hk => hk.2) (.int .i64 t448)) (fun _ hk => hk.2) (.int .u32 t449)) (fun _ hk => hk.2) (.slice Ao41 t450.length co41)) (fun _ hk => hk.2) (.slice Ao42 t453.length co42)) (fun _ hk => hk.2) (.slice Ao43 t456.length co43)) (fun _ hk => ⟨hk.1.1.1.1.2.1, ⟨hk.1.1.1.2, ⟨hk.1.1.2, ⟨hk.1.1.1.1.2.2.1, ⟨hk.1.1.1.1.2.2.2, hk.1.2⟩⟩⟩⟩⟩)⟩, ⟨by (with_reducible repeat (first | apply Kd.V_alloc | apply Kd.V_drewN | apply Kd.V_drew)); exact Kd.V_mono (Kd.V_far (p := ⟨gb459, 4, none⟩) (Kd.V_far (p := ⟨gb459, 3, none⟩) (Kd.V_far (p := ⟨gb459, 2, none⟩) (Kd.V_far (p := ⟨gb459, 1, none⟩) (Kd.V_far (p := ⟨gb459, 0, none⟩) (Kd.V_mono HO452.out (fun k_ hk => (⟨hk, hk.2⟩ : _ ∧ k_ ≠ gb459))) (fun _ hk => hk.2) (.int .i64 t448)) (fun _ hk => hk.2) (.int .u32 t449)) (fun _ hk => hk.2) (.slice Ao41 t450.length co41)) (fun _ hk => hk.2) (.slice Ao42 t453.length co42)) (fun _ hk => hk.2) (.slice Ao43 t456.length co43)) (fun _ hk => ⟨hk.1.1.1, ⟨hk.1.1.2.1, ⟨hk.1.1.2.2.2.1, ⟨hk.1.1.2.2.2.2, hk.1.2⟩⟩⟩⟩)⟩, ⟨by (with_reducible repeat (first | apply Kd.N_alloc | apply Kd.N_drewN | apply Kd.N_drew)); exact Kd.N_mono (Kd.N_far (p := ⟨gb459, 4, none⟩) (Kd.N_far (p := ⟨gb459, 3, none⟩) (Kd.N_far (p := ⟨gb459, 2, none⟩) (Kd.N_far (p := ⟨gb459, 1, none⟩) (Kd.N_far (p := ⟨gb459, 0, none⟩) (Kd.N_mono HO455.out (fun k_ hk => (⟨hk, hk.2⟩ : _ ∧ k_ ≠ gb459))) (fun _ hk => hk.2) (.int .i64 t448)) (fun _ hk => hk.2) (.int .u32 t449)) (fun _ hk => hk.2) (.slice Ao41 t450.length co41)) (fun _ hk => hk.2) (.slice Ao42 t453.length co42)) (fun _ hk => hk.2) (.slice Ao43 t456.length co43)) (fun _ hk => ⟨hk.1.1.1, ⟨hk.1.1.2.2.1, ⟨hk.1.1.2.2.2, hk.1.2⟩⟩⟩)⟩, ⟨by (with_reducible repeat (first | apply Kd.N_alloc | apply Kd.N_drewN | apply Kd.N_drew)); exact Kd.N_mono (Kd.N_far (p := ⟨gb459, 4, none⟩) (Kd.N_far (p := ⟨gb459, 3, none⟩) (Kd.N_far (p := ⟨gb459, 2, none⟩) (Kd.N_far (p := ⟨gb459, 1, none⟩) (Kd.N_far (p := ⟨gb459, 0, none⟩) (Kd.N_mono HO458.out (fun k_ hk => (⟨hk, hk.2⟩ : _ ∧ k_ ≠ gb459))) (fun _ hk => hk.2) (.int .i64 t448)) (fun _ hk => hk.2) (.int .u32 t449)) (fun _ hk => hk.2) (.slice Ao41 t450.length co41)) (fun _ hk => hk.2) (.slice Ao42 t453.length co42)) (fun _ hk => hk.2) (.slice Ao43 t456.length co43)) (fun _ hk => ⟨hk.1.1.1, ⟨hk.1.1.2.2.1, ⟨hk.1.1.2.2.2, hk.1.2⟩⟩⟩)⟩, ⟨by (with_reducible repeat (first | refine blk_drewN ?_ _ | refine blk_drew ?_ | refine blk_alloc ?_ _)); refine blk_far ?_ NB442_459.out _; (with_reducible repeat (first | refine blk_drewN ?_ _ | refine blk_drew ?_ | refine blk_alloc ?_ _)); refine blk_far ?_ NB442_459.out _; (with_reducible repeat (first | refine blk_drewN ?_ _ | refine blk_drew ?_ | refine blk_alloc ?_ _)); refine blk_far ?_ NB442_459.out _; (with_reducible repeat (first | refine blk_drewN ?_ _ | refine blk_drew ?_ | refine blk_alloc ?_ _)); refine blk_far ?_ NB442_459.out _; (with_reducible repeat (first | refine blk_drewN ?_ _ | refine blk_drew ?_ | refine blk_alloc ?_ _)); refine blk_far ?_ NB442_459.out _; (with_reducible repeat (first | refine blk_drewN ?_ _ | refine blk_drew ?_ | refine blk_alloc ?_ _)); exact BK442.out⟩, ⟨by (with_reducible repeat (first | refine blk_drewN ?_ _ | refine blk_drew ?_ | refine blk_alloc ?_ _)); refine blk_far ?_ NB446_459.out _; (with_reducible repeat (first | refine blk_drewN ?_ _ | refine blk_drew ?_ | refine blk_alloc ?_ _)); refine blk_far ?_ NB446_459.out _; (with_reducible repeat (first | refine blk_drewN ?_ _ | refine blk_drew ?_ | refine blk_alloc ?_ _)); refine blk_far ?_ NB446_459.out _; (with_reducible repeat (first | refine blk_drewN ?_ _ | refine blk_drew ?_ | refine blk_alloc ?_ _)); refine blk_far ?_ NB446_459.out _; (with_reducible repeat (first | refine blk_drewN ?_ _ | refine blk_drew ?_ | refine blk_alloc ?_ _)); refine blk_far ?_ NB446_459.out _; (with_reducible repeat (first | refine blk_drewN ?_ _ | refine blk_drew ?_ | refine blk_alloc ?_ _)); exact BK446.out⟩, ⟨by (with_reducible repeat (first | refine blk_drewN ?_ _ | refine blk_drew ?_ | refine blk_alloc ?_ _)); exact set5_01234_ BK459.out⟩, ⟨by repeat (first | (with_reducible first | exact HB.out | apply below_alloc | apply pw_below_drewN | apply below_drew1 | refine below_set ?_ GE442.out | refine below_set ?_ GE446.out | refine below_set ?_ GE459.out) | exact HB.out)⟩⟩
     case rest =>
      clear HC19
      try clear c1
      try clear p2
      try clear c3
      try clear c4
      try clear q4
      try clear c5
      try clear c6
      try clear p6
      try clear c7
      try clear c10
      try clear c17
      try clear c17b0
      try clear c17b1
      try clear c32
      try clear c38
      try clear c39
      try clear c44
      try clear c44b0
      try clear c44b1
      try clear c45
      try clear c45b0
      try clear c45b1
      try clear q46
      try clear c47
      try clear c48
      try clear c48b0
      try clear c48b1
      try clear c48b2
      try clear c49
      try clear c50
      try clear c52
      try clear c54
      try clear c55
      try clear c57
      try clear c59
      try clear c60
      try clear c62
      try clear c64
      try clear p64
      try clear c65
      try clear c67
      try clear c69
      try clear c70
      try clear c72
      try clear hcz26_0
      try clear hcz26_1
      try clear hcz26_2
      try clear hcz26_3
      try clear hcz26_4
      try clear hcz33_0
      try clear hcz33_1
      try clear hcz35_0
      try clear hcz35_1
      try clear hcz40_0
      try clear hcz40_1
      try clear hcz40_2
      try clear hcz40_3
      try clear hcz40_4
      try clear hcz51_0
      try clear hcz51_1
      try clear hcz51_2
      try clear hcz51_3
      try clear hcz51_4
      try clear hcz53_0
      try clear hcz53_1
      try clear hcz53_2
      try clear hcz53_3
      try clear hcz53_4
      try clear hcz56_0
      try clear hcz56_1
      try clear hcz56_2
      try clear hcz56_3
      try clear hcz56_4
      try clear hcz58_0
      try clear hcz58_1
      try clear hcz58_2
      try clear hcz58_3
      try clear hcz58_4
      try clear hcz61_0
      try clear hcz61_1
      try clear hcz61_2
      try clear hcz61_3
      try clear hcz61_4
      try clear hcz63_0
      try clear hcz63_1
      try clear hcz63_2
      try clear hcz63_3
      try clear hcz63_4
      try clear hcz66_0
      try clear hcz66_1
      try clear hcz66_2
      try clear hcz66_3
      try clear hcz66_4
      try clear hcz68_0
      try clear hcz68_1
      try clear hcz68_2
      try clear hcz68_3
      try clear hcz68_4
      try clear hcz71_0
      try clear hcz71_1
      try clear hcz71_2
      try clear hcz71_3
      try clear hcz71_4
      try clear hcz73_0
      try clear hcz73_1
      try clear hcz73_2
      try clear hcz73_3
      try clear hcz73_4
      try clear hfz26_0
      try clear hfz26_1
      try clear hfz26_2
      try clear hfz26_3
      try clear hfz26_4
      try clear hfz33_0
      try clear hfz33_1
      try clear hfz35_0
      try clear hfz35_1
      try clear hfz40_0
      try clear hfz40_1
      try clear hfz40_2
      try clear hfz40_3
      try clear hfz40_4
      try clear hfz51_0
      try clear hfz51_1
      try clear hfz51_2
      try clear hfz51_3
      try clear hfz51_4
      try clear hfz53_0
      try clear hfz53_1
      try clear hfz53_2
      try clear hfz53_3
      try clear hfz53_4
      try clear hfz56_0
      try clear hfz56_1
      try clear hfz56_2
      try clear hfz56_3
      try clear hfz56_4
      try clear hfz58_0
      try clear hfz58_1
      try clear hfz58_2
      try clear hfz58_3
      try clear hfz58_4
      try clear hfz61_0
      try clear hfz61_1
      try clear hfz61_2
      try clear hfz61_3
      try clear hfz61_4
      try clear hfz63_0
      try clear hfz63_1
      try clear hfz63_2
      try clear hfz63_3
      try clear hfz63_4
      try clear hfz66_0
      try clear hfz66_1
      try clear hfz66_2
      try clear hfz66_3
      try clear hfz66_4
      try clear hfz68_0
      try clear hfz68_1
      try clear hfz68_2
      try clear hfz68_3
      try clear hfz68_4
      try clear hfz71_0
      try clear hfz71_1
      try clear hfz71_2
      try clear hfz71_3
      try clear hfz71_4
      try clear hfz73_0
      try clear hfz73_1
      try clear hfz73_2
      try clear hfz73_3
      try clear hfz73_4
      try clear p2
      try clear q460
      obtain ⟨kq, x114_18, rfl, HA, HJ18, HO_9, HO_443002, HO_443003, HO_443004, HO_460002, HO_460003, HO_460004, BK442, BK446, BK459, HB⟩ := hcut
      cases kq with
      | zero => exact absurd HA.out (by simp [pyxlaw22_XmssSplits.j1])
      | succ kj18 =>
       have H := HA.out
       clear HA
       simp only [pyxlaw22_XmssSplits.j1] at H
       by_cases c74 : x114_18 = true
       ·subst c74
        have H1 : (some false) = some r := by rw [if_pos rfl] at H; exact H
        clear H
        have H := H1
        clear H1
        exact absurd ((Option.some.inj H).trans HT.out) (by decide)
       ·replace c74 := Bool.eq_false_iff.mpr c74
        subst c74
        have H1 : (pyxlaw22_XmssSplits.l0 kj18 t427 0 t430 t431 t432 t435 t438 t448 t449 t450 t453 t456) = some r := by rw [if_neg (show ¬ (false = true) by decide)] at H; exact H
        clear H
        have H := H1
        clear H1
        have H' := Aside0.mk H
        clear H
        go_wp2
        repeat (go_quiet (fail); try go_wp2)
        go_loopg [15] kj18 (fun kq v15 w' => ∃ (x15_3 : Int), v15 = .int .i64 x15_3 ∧ Aside0 (pyxlaw22_XmssSplits.l0 kq t427 x15_3 t430 t431 t432 t435 t438 t448 t449 t450 t453 t456 = some r) ∧ Aside0 (kq ≤ kj18) ∧ Aside0 (Kd.R (Kd.int .u8) 5 w' w.heap.size (fun _ => True) (.slice Ao23 t427.length co23) t427) ∧ Aside0 (Kd.V (Kd.int .u8) 5 w' w.heap.size (fun k_ => some k_ ≠ ((.slice Ao23 t427.length co23) : Value).ownBlock ∧ some k_ ≠ ((.slice Ao42 t453.length co42) : Value).ownBlock ∧ some k_ ≠ ((.slice Ao43 t456.length co43) : Value).ownBlock ∧ k_ ≠ gb442 ∧ k_ ≠ gb446 ∧ k_ ≠ gb459) (.slice Ao27 t432.length co27) t432) ∧ Aside0 (Kd.V (Kd.slice 5 (Kd.int .u8)) 25 w' w.heap.size (fun k_ => some k_ ≠ ((.slice Ao23 t427.length co23) : Value).ownBlock ∧ some k_ ≠ ((.slice Ao42 t453.length co42) : Value).ownBlock ∧ some k_ ≠ ((.slice Ao43 t456.length co43) : Value).ownBlock ∧ k_ ≠ gb442 ∧ k_ ≠ gb446 ∧ k_ ≠ gb459) (.slice Ao28 t435.length co28) t435) ∧ Aside0 (Kd.V (Kd.slice 5 (Kd.int .u8)) 25 w' w.heap.size (fun k_ => some k_ ≠ ((.slice Ao23 t427.length co23) : Value).ownBlock ∧ some k_ ≠ ((.slice Ao42 t453.length co42) : Value).ownBlock ∧ some k_ ≠ ((.slice Ao43 t456.length co43) : Value).ownBlock ∧ k_ ≠ gb442 ∧ k_ ≠ gb446 ∧ k_ ≠ gb459) (.slice Ao29 t438.length co29) t438) ∧ Aside0 (Kd.V (Kd.int .u8) 5 w' w.heap.size (fun k_ => some k_ ≠ ((.slice Ao42 t453.length co42) : Value).ownBlock ∧ some k_ ≠ ((.slice Ao43 t456.length co43) : Value).ownBlock ∧ k_ ≠ gb442 ∧ k_ ≠ gb446 ∧ k_ ≠ gb459) (.slice Ao41 t450.length co41) t450) ∧ Aside0 (Kd.N (Kd.slice 5 (Kd.int .u8)) 25 w' w.heap.size (fun k_ => some k_ ≠ ((.slice Ao43 t456.length co43) : Value).ownBlock ∧ k_ ≠ gb442 ∧ k_ ≠ gb446 ∧ k_ ≠ gb459) (.slice Ao42 t453.length co42) t453) ∧ Aside0 (Kd.N (Kd.slice 5 (Kd.int .u8)) 25 w' w.heap.size (fun k_ => some k_ ≠ ((.slice Ao42 t453.length co42) : Value).ownBlock ∧ k_ ≠ gb442 ∧ k_ ≠ gb446 ∧ k_ ≠ gb459) (.slice Ao43 t456.length co43) t456) ∧ Aside0 (w'.heap[gb442]? = some (.cells #[.int .i64 t430, .int .u32 t431, (.slice Ao27 t432.length co27), (.slice Ao28 t435.length co28), (.slice Ao29 t438.length co29)] 54 (0, 0))) ∧ Aside0 (w'.heap[gb446]? = some (.cells #[.int .i64 t444, .int .i64 t445] 34 (0, 0))) ∧ Aside0 (w'.heap[gb459]? = some (.cells #[.int .i64 t448, .int .u32 t449, (.slice Ao41 t450.length co41), (.slice Ao42 t453.length co42), (.slice Ao43 t456.length co43)] 57 (0, 0))) ∧ Aside0 (Below w.heap.size w w'))
        case atStart => exact ⟨(0), q64_, H', ⟨Nat.le_refl _⟩, ⟨by (with_reducible repeat (first | apply Kd.R_alloc | apply Kd.R_drewN | apply Kd.R_drew)); exact HO_9.out⟩, ⟨by (with_reducible repeat (first | apply Kd.V_alloc | apply Kd.V_drewN | apply Kd.V_drew)); exact HO_443002.out⟩, ⟨by (with_reducible repeat (first | apply Kd.V_alloc | apply Kd.V_drewN | apply Kd.V_drew)); exact HO_443003.out⟩, ⟨by (with_reducible repeat (first | apply Kd.V_alloc | apply Kd.V_drewN | apply Kd.V_drew)); exact HO_443004.out⟩, ⟨by (with_reducible repeat (first | apply Kd.V_alloc | apply Kd.V_drewN | apply Kd.V_drew)); exact HO_460002.out⟩, ⟨by (with_reducible repeat (first | apply Kd.N_alloc | apply Kd.N_drewN | apply Kd.N_drew)); exact HO_460003.out⟩, ⟨by (with_reducible repeat (first | apply Kd.N_alloc | apply Kd.N_drewN | apply Kd.N_drew)); exact HO_460004.out⟩, ⟨by (with_reducible repeat (first | refine blk_drewN ?_ _ | refine blk_drew ?_ | refine blk_alloc ?_ _)); exact BK442.out⟩, ⟨by (with_reducible repeat (first | refine blk_drewN ?_ _ | refine blk_drew ?_ | refine blk_alloc ?_ _)); exact BK446.out⟩, ⟨by (with_reducible repeat (first | refine blk_drewN ?_ _ | refine blk_drew ?_ | refine blk_alloc ?_ _)); exact BK459.out⟩, ⟨by repeat (first | (with_reducible first | exact HB.out | apply below_alloc | apply pw_below_drewN | apply below_drew1 | refine below_set ?_ GE442.out | refine below_set ?_ GE446.out | refine below_set ?_ GE459.out) | exact HB.out)⟩⟩
        case round =>
         clear H'
         try clear c1
         try clear p2
         try clear c3
         try clear c4
         try clear q4
         try clear c5
         try clear c6
         try clear p6
         try clear c7
         try clear c10
         try clear c17
         try clear c17b0
         try clear c17b1
         try clear c32
         try clear c38
         try clear c39
         try clear c44
         try clear c44b0
         try clear c44b1
         try clear c45
         try clear c45b0
         try clear c45b1
         try clear q46
         try clear c47
         try clear c48
         try clear c48b0
         try clear c48b1
         try clear c48b2
         try clear c49
         try clear c50
         try clear c52
         try clear c54
         try clear c55
         try clear c57
         try clear c59
         try clear c60
         try clear c62
         try clear c64
         try clear p64
         try clear c65
         try clear c67
         try clear c69
         try clear c70
         try clear c72
         try clear c74
         try clear hcz26_0
         try clear hcz26_1
         try clear hcz26_2
         try clear hcz26_3
         try clear hcz26_4
         try clear hcz33_0
         try clear hcz33_1
         try clear hcz35_0
         try clear hcz35_1
         try clear hcz40_0
         try clear hcz40_1
         try clear hcz40_2
         try clear hcz40_3
         try clear hcz40_4
         try clear hcz51_0
         try clear hcz51_1
         try clear hcz51_2
         try clear hcz51_3
         try clear hcz51_4
         try clear hcz53_0
         try clear hcz53_1
         try clear hcz53_2
         try clear hcz53_3
         try clear hcz53_4
         try clear hcz56_0
         try clear hcz56_1
         try clear hcz56_2
         try clear hcz56_3
         try clear hcz56_4
         try clear hcz58_0
         try clear hcz58_1
         try clear hcz58_2
         try clear hcz58_3
         try clear hcz58_4
         try clear hcz61_0
         try clear hcz61_1
         try clear hcz61_2
         try clear hcz61_3
         try clear hcz61_4
         try clear hcz63_0
         try clear hcz63_1
         try clear hcz63_2
         try clear hcz63_3
         try clear hcz63_4
         try clear hcz66_0
         try clear hcz66_1
         try clear hcz66_2
         try clear hcz66_3
         try clear hcz66_4
         try clear hcz68_0
         try clear hcz68_1
         try clear hcz68_2
         try clear hcz68_3
         try clear hcz68_4
         try clear hcz71_0
         try clear hcz71_1
         try clear hcz71_2
         try clear hcz71_3
         try clear hcz71_4
         try clear hcz73_0
         try clear hcz73_1
         try clear hcz73_2
         try clear hcz73_3
         try clear hcz73_4
         try clear hfz26_0
         try clear hfz26_1
         try clear hfz26_2
         try clear hfz26_3
         try clear hfz26_4
         try clear hfz33_0
         try clear hfz33_1
         try clear hfz35_0
         try clear hfz35_1
         try clear hfz40_0
         try clear hfz40_1
         try clear hfz40_2
         try clear hfz40_3
         try clear hfz40_4
         try clear hfz51_0
         try clear hfz51_1
         try clear hfz51_2
         try clear hfz51_3
         try clear hfz51_4
         try clear hfz53_0
         try clear hfz53_1
         try clear hfz53_2
         try clear hfz53_3
         try clear hfz53_4
         try clear hfz56_0
         try clear hfz56_1
         try clear hfz56_2
         try clear hfz56_3
         try clear hfz56_4
         try clear hfz58_0
         try clear hfz58_1
         try clear hfz58_2
         try clear hfz58_3
         try clear hfz58_4
         try clear hfz61_0
         try clear hfz61_1
         try clear hfz61_2
         try clear hfz61_3
         try clear hfz61_4
         try clear hfz63_0
         try clear hfz63_1
         try clear hfz63_2
         try clear hfz63_3
         try clear hfz63_4
         try clear hfz66_0
         try clear hfz66_1
         try clear hfz66_2
         try clear hfz66_3
         try clear hfz66_4
         try clear hfz68_0
         try clear hfz68_1
         try clear hfz68_2
         try clear hfz68_3
         try clear hfz68_4
         try clear hfz71_0
         try clear hfz71_1
         try clear hfz71_2
         try clear hfz71_3
         try clear hfz71_4
         try clear hfz73_0
         try clear hfz73_1
         try clear hfz73_2
         try clear hfz73_3
         try clear hfz73_4
         try clear p2
         try clear p6
         try clear p64
         try clear q4
         try clear q46
         try clear q460
         obtain ⟨x15_3, rfl, HA, HK3, HO_9, HO_443002, HO_443003, HO_443004, HO_460002, HO_460003, HO_460004, BK442, BK446, BK459, HB⟩ := hrel
         cases gk with
         | zero => exact absurd HA.out (by simp [pyxlaw22_XmssSplits.l0])
         | succ k3 =>
          have H := HA.out
          clear HA
          simp only [pyxlaw22_XmssSplits.l0] at H
          by_cases c75 : x15_3 < (t435.length : Int)
          ·rw [if_pos c75] at H
           have c75b0 : decide (x15_3 < (t435.length : Int)) = true := decide_eq_true c75
           clear c75
           by_cases c76 : 0 ≤ x15_3
           ·rw [if_pos c76] at H
            have c76b0 : decide (0 ≤ x15_3) = true := decide_eq_true c76
            clear c76
            by_cases c77 : x15_3 < (t453.length : Int)
            ·rw [if_pos c77] at H
             have c77b0 : decide (x15_3 < (t453.length : Int)) = true := decide_eq_true c77
             clear c77
             replace H := Option.bind_eq_some_iff.mp H
             obtain ⟨t464, A780, H⟩ := H
             replace H : (if t464 = true then (pyxlaw22_XmssSplits.l0 k3 t427 (wrap64 (x15_3 + 1)) t430 t431 t432 t435 t438 t448 t449 t450 t453 t456) else (some false)) = some r := H
             have A78 := Aside0.mk A780
             clear A780
             by_cases c79 : t464 = true
             ·subst c79
              have H1 : (pyxlaw22_XmssSplits.l0 k3 t427 (wrap64 (x15_3 + 1)) t430 t431 t432 t435 t438 t448 t449 t450 t453 t456) = some r := by rw [if_pos rfl] at H; exact H
              clear H
              have H := H1
              clear H1
              have H' := Aside0.mk H
              clear H
              have hnb80 := NB442_446.out
              have hnc80 := NB446_442.out
              have hnb81 := NB442_459.out
              have hnc81 := NB459_442.out
              obtain ⟨hcz82_0, hcz82_1, hcz82_2, hcz82_3, hcz82_4⟩ := cells5_ BK442.out
              obtain ⟨hfz82_0, hfz82_1, hfz82_2, hfz82_3, hfz82_4⟩ := frz5_ BK442.out
              have p462 : 0 ≤ (x15_3 : Int) := of_decide_eq_true q63_
              have q462 : x15_3 < (t435.length : Int) := of_decide_eq_true q63_
              obtain ⟨ad462, A462_0, c462_0, e462, hx462_0, hl462_0, hi462_0⟩ := at_L10 (Kd.V_reads' HO_443003.out).2.2 x15_3 p462 q462
              cases e462
              obtain ⟨ce462, hce462, hMe462, hcc462⟩ := Kd.V_get HO_443003.out [] x15_3 p462 (by first | exact q462 | exact of_decide_eq_true q63_ | (have e_ := (Kd.V_reads' HO_443003.out).1; omega))
              obtain ⟨ua462_0, uc462_0, rfl, ul462_0, ge462_0⟩ := Kd.FK_slice_open hMe462
              have hv462_0 := hcc462 0 _ rfl
              rw [Nat.add_zero, show ((Kd.slice 5 (Kd.int .u8))).sz = 1 from rfl, Nat.mul_one] at hv462_0
              replace hv462_0 := Option.some.inj (hv462_0.symm.trans hx462_0)
              injection hv462_0 with hva_ hvn_ hvc_
              rw [hva_] at ge462_0
              rw [hvc_] at ul462_0
              have HL462_0 := Aside0.mk (show Kd.V (Kd.int .u8) 5 _ w.heap.size _ _ (rd_L10 t435 x15_3) from Kd.V_mk ul462_0 ge462_0)
              clear hva_ hvn_ hvc_ ge462_0 ul462_0
              clear hcc462 hce462
              have HR462_0 := Aside0.mk hi462_0
              have HC462_0 := Aside0.mk hl462_0
              clear hi462_0 hl462_0
              replace p462 := eq_true p462
              replace q462 := eq_true q462
              have hnb83 := NB459_446.out
              have hnc83 := NB446_459.out
              obtain ⟨hcz84_0, hcz84_1, hcz84_2, hcz84_3, hcz84_4⟩ := cells5_ BK459.out
              obtain ⟨hfz84_0, hfz84_1, hfz84_2, hfz84_3, hfz84_4⟩ := frz5_ BK459.out
              have p463 : 0 ≤ (x15_3 : Int) := of_decide_eq_true q63_
              have q463 : x15_3 < (t453.length : Int) := of_decide_eq_true q63_
              obtain ⟨ad463, A463_0, c463_0, e463, hx463_0, hl463_0, hi463_0⟩ := at_L10 (Kd.N_reads' HO_460003.out).2.2 x15_3 p463 q463
              cases e463
              obtain ⟨ce463, hce463, hMe463, hcc463⟩ := Kd.N_get HO_460003.out [] x15_3 p463 (by first | exact q463 | exact of_decide_eq_true q63_ | (have e_ := (Kd.N_reads' HO_460003.out).1; omega))
              obtain ⟨ua463_0, uc463_0, rfl, ul463_0, ge463_0⟩ := Kd.FK_slice_open hMe463
              have hv463_0 := hcc463 0 _ rfl
              rw [Nat.add_zero, show ((Kd.slice 5 (Kd.int .u8))).sz = 1 from rfl, Nat.mul_one] at hv463_0
              replace hv463_0 := Option.some.inj (hv463_0.symm.trans hx463_0)
              injection hv463_0 with hva_ hvn_ hvc_
              rw [hva_] at ge463_0
              rw [hvc_] at ul463_0
              have HL463_0 := Aside0.mk (show Kd.V (Kd.int .u8) 5 _ w.heap.size _ _ (rd_L10 t453 x15_3) from Kd.V_mk ul463_0 ge463_0)
              clear hva_ hvn_ hvc_ ge463_0 ul463_0
              clear hcc463 hce463
              have HR463_0 := Aside0.mk hi463_0
              have HC463_0 := Aside0.mk hl463_0
              clear hi463_0 hl463_0
              replace p463 := eq_true p463
              replace q463 := eq_true q463
              go_wp2_with (first | (go_at_call 23; (with_reducible refine (pyxref01_Same.calls k3 _ _ (rd_L10 t435 x15_3) _ _ (rd_L10 t453 x15_3) true _ ?side1 ?side2 ?side3 ?side4 A78.out).mono ?_); (case side1 => repeat (first | exact q15_ | (with_reducible refine Kd.C_alloc ?_ _) | (with_reducible refine Kd.C_drewN ?_ _) | (with_reducible refine Kd.C_drew ?_))); (case side2 => exact HC462_0.out); (case side3 => repeat (first | exact q16_ | (with_reducible refine Kd.C_alloc ?_ _) | (with_reducible refine Kd.C_drewN ?_ _) | (with_reducible refine Kd.C_drew ?_))); (case side4 => exact HC463_0.out); rintro e w' ⟨rfl, ⟨nd, rfl⟩⟩; (try first | exact ⟨rfl, _, World.drewN_drewN _ _ _⟩ | exact ⟨rfl, _, Eq.trans (World.drewN_drewN _ _ _) (congrArg (World.drewN _) (Nat.add_assoc _ _ _))⟩)))
              repeat (go_quiet (first | (go_at_call 23; (with_reducible refine (pyxref01_Same.calls k3 _ _ (rd_L10 t435 x15_3) _ _ (rd_L10 t453 x15_3) true _ ?side1 ?side2 ?side3 ?side4 A78.out).mono ?_); (case side1 => repeat (first | exact q15_ | (with_reducible refine Kd.C_alloc ?_ _) | (with_reducible refine Kd.C_drewN ?_ _) | (with_reducible refine Kd.C_drew ?_))); (case side2 => exact HC462_0.out); (case side3 => repeat (first | exact q16_ | (with_reducible refine Kd.C_alloc ?_ _) | (with_reducible refine Kd.C_drewN ?_ _) | (with_reducible refine Kd.C_drew ?_))); (case side4 => exact HC463_0.out); rintro e w' ⟨rfl, ⟨nd, rfl⟩⟩; (try first | exact ⟨rfl, _, World.drewN_drewN _ _ _⟩ | exact ⟨rfl, _, Eq.trans (World.drewN_drewN _ _ _) (congrArg (World.drewN _) (Nat.add_assoc _ _ _))⟩))); try go_wp2_with (first | (go_at_call 23; (with_reducible refine (pyxref01_Same.calls k3 _ _ (rd_L10 t435 x15_3) _ _ (rd_L10 t453 x15_3) true _ ?side1 ?side2 ?side3 ?side4 A78.out).mono ?_); (case side1 => repeat (first | exact q15_ | (with_reducible refine Kd.C_alloc ?_ _) | (with_reducible refine Kd.C_drewN ?_ _) | (with_reducible refine Kd.C_drew ?_))); (case side2 => exact HC462_0.out); (case side3 => repeat (first | exact q16_ | (with_reducible refine Kd.C_alloc ?_ _) | (with_reducible refine Kd.C_drewN ?_ _) | (with_reducible refine Kd.C_drew ?_))); (case side4 => exact HC463_0.out); rintro e w' ⟨rfl, ⟨nd, rfl⟩⟩; (try first | exact ⟨rfl, _, World.drewN_drewN _ _ _⟩ | exact ⟨rfl, _, Eq.trans (World.drewN_drewN _ _ _) (congrArg (World.drewN _) (Nat.add_assoc _ _ _))⟩))))
              go_roundg k3
              case measure => have := HJ4.out; have := HJ18.out; have := HK3.out; omega
              case rel => exact ⟨(wrap64 (x15_3 + 1)), q64_, H', ⟨by have := HJ4.out; have := HJ18.out; have := HK3.out; omega⟩, ⟨by (with_reducible repeat (first | apply Kd.R_alloc | apply Kd.R_drewN | apply Kd.R_drew)); exact HO_9.out⟩, ⟨by (with_reducible repeat (first | apply Kd.V_alloc | apply Kd.V_drewN | apply Kd.V_drew)); exact HO_443002.out⟩, ⟨by (with_reducible repeat (first | apply Kd.V_alloc | apply Kd.V_drewN | apply Kd.V_drew)); exact HO_443003.out⟩, ⟨by (with_reducible repeat (first | apply Kd.V_alloc | apply Kd.V_drewN | apply Kd.V_drew)); exact HO_443004.out⟩, ⟨by (with_reducible repeat (first | apply Kd.V_alloc | apply Kd.V_drewN | apply Kd.V_drew)); exact HO_460002.out⟩, ⟨by (with_reducible repeat (first | apply Kd.N_alloc | apply Kd.N_drewN | apply Kd.N_drew)); exact HO_460003.out⟩, ⟨by (with_reducible repeat (first | apply Kd.N_alloc | apply Kd.N_drewN | apply Kd.N_drew)); exact HO_460004.out⟩, ⟨by (with_reducible repeat (first | refine blk_drewN ?_ _ | refine blk_drew ?_ | refine blk_alloc ?_ _)); exact BK442.out⟩, ⟨by (with_reducible repeat (first | refine blk_drewN ?_ _ | refine blk_drew ?_ | refine blk_alloc ?_ _)); exact BK446.out⟩, ⟨by (with_reducible repeat (first | refine blk_drewN ?_ _ | refine blk_drew ?_ | refine blk_alloc ?_ _)); exact BK459.out⟩, ⟨by repeat (first | (with_reducible first | exact HB.out | apply below_alloc | apply pw_below_drewN | apply below_drew1 | refine below_set ?_ GE442.out | refine below_set ?_ GE446.out | refine below_set ?_ GE459.out) | exact HB.out)⟩⟩
             ·replace c79 := Bool.eq_false_iff.mpr c79
              subst c79
              have H1 : (some false) = some r := by rw [if_neg (show ¬ (false = true) by decide)] at H; exact H
              clear H
              have H := H1
              clear H1
              exact absurd ((Option.some.inj H).trans HT.out) (by decide)
            ·rw [if_neg c77] at H
             exact absurd H (by simp)
           ·rw [if_neg c76] at H
            exact absurd H (by simp)
          ·rw [if_neg c75] at H
           have c75b0 : decide (x15_3 < (t435.length : Int)) = false := decide_eq_false c75
           clear c75
           have H' := Aside0.mk H
           clear H
           have hnb85 := NB442_446.out
           have hnc85 := NB446_442.out
           have hnb86 := NB442_459.out
           have hnc86 := NB459_442.out
           obtain ⟨hcz87_0, hcz87_1, hcz87_2, hcz87_3, hcz87_4⟩ := cells5_ BK442.out
           obtain ⟨hfz87_0, hfz87_1, hfz87_2, hfz87_3, hfz87_4⟩ := frz5_ BK442.out
           go_wp2
           repeat (go_quiet (fail); try go_wp2)
           go_loopg [16] k3 (fun kq v16 w' => ∃ (x16_4 : Int), v16 = .int .i64 x16_4 ∧ Aside0 (pyxlaw22_XmssSplits.l1 kq t427 x16_4 t430 t431 t432 t435 t438 t448 t449 t450 t453 t456 = some r) ∧ Aside0 (kq ≤ k3) ∧ Aside0 (Kd.R (Kd.int .u8) 5 w' w.heap.size (fun _ => True) (.slice Ao23 t427.length co23) t427) ∧ Aside0 (Kd.V (Kd.int .u8) 5 w' w.heap.size (fun k_ => some k_ ≠ ((.slice Ao23 t427.length co23) : Value).ownBlock ∧ some k_ ≠ ((.slice Ao42 t453.length co42) : Value).ownBlock ∧ some k_ ≠ ((.slice Ao43 t456.length co43) : Value).ownBlock ∧ k_ ≠ gb442 ∧ k_ ≠ gb446 ∧ k_ ≠ gb459) (.slice Ao27 t432.length co27) t432) ∧ Aside0 (Kd.V (Kd.slice 5 (Kd.int .u8)) 25 w' w.heap.size (fun k_ => some k_ ≠ ((.slice Ao23 t427.length co23) : Value).ownBlock ∧ some k_ ≠ ((.slice Ao42 t453.length co42) : Value).ownBlock ∧ some k_ ≠ ((.slice Ao43 t456.length co43) : Value).ownBlock ∧ k_ ≠ gb442 ∧ k_ ≠ gb446 ∧ k_ ≠ gb459) (.slice Ao28 t435.length co28) t435) ∧ Aside0 (Kd.V (Kd.slice 5 (Kd.int .u8)) 25 w' w.heap.size (fun k_ => some k_ ≠ ((.slice Ao23 t427.length co23) : Value).ownBlock ∧ some k_ ≠ ((.slice Ao42 t453.length co42) : Value).ownBlock ∧ some k_ ≠ ((.slice Ao43 t456.length co43) : Value).ownBlock ∧ k_ ≠ gb442 ∧ k_ ≠ gb446 ∧ k_ ≠ gb459) (.slice Ao29 t438.length co29) t438) ∧ Aside0 (Kd.V (Kd.int .u8) 5 w' w.heap.size (fun k_ => some k_ ≠ ((.slice Ao42 t453.length co42) : Value).ownBlock ∧ some k_ ≠ ((.slice Ao43 t456.length co43) : Value).ownBlock ∧ k_ ≠ gb442 ∧ k_ ≠ gb446 ∧ k_ ≠ gb459) (.slice Ao41 t450.length co41) t450) ∧ Aside0 (Kd.N (Kd.slice 5 (Kd.int .u8)) 25 w' w.heap.size (fun k_ => some k_ ≠ ((.slice Ao43 t456.length co43) : Value).ownBlock ∧ k_ ≠ gb442 ∧ k_ ≠ gb446 ∧ k_ ≠ gb459) (.slice Ao42 t453.length co42) t453) ∧ Aside0 (Kd.N (Kd.slice 5 (Kd.int .u8)) 25 w' w.heap.size (fun k_ => some k_ ≠ ((.slice Ao42 t453.length co42) : Value).ownBlock ∧ k_ ≠ gb442 ∧ k_ ≠ gb446 ∧ k_ ≠ gb459) (.slice Ao43 t456.length co43) t456) ∧ Aside0 (w'.heap[gb442]? = some (.cells #[.int .i64 t430, .int .u32 t431, (.slice Ao27 t432.length co27), (.slice Ao28 t435.length co28), (.slice Ao29 t438.length co29)] 54 (0, 0))) ∧ Aside0 (w'.heap[gb446]? = some (.cells #[.int .i64 t444, .int .i64 t445] 34 (0, 0))) ∧ Aside0 (w'.heap[gb459]? = some (.cells #[.int .i64 t448, .int .u32 t449, (.slice Ao41 t450.length co41), (.slice Ao42 t453.length co42), (.slice Ao43 t456.length co43)] 57 (0, 0))) ∧ Aside0 (Below w.heap.size w w'))
           case atStart => exact ⟨(0), q64_, H', ⟨Nat.le_refl _⟩, ⟨by (with_reducible repeat (first | apply Kd.R_alloc | apply Kd.R_drewN | apply Kd.R_drew)); exact HO_9.out⟩, ⟨by (with_reducible repeat (first | apply Kd.V_alloc | apply Kd.V_drewN | apply Kd.V_drew)); exact HO_443002.out⟩, ⟨by (with_reducible repeat (first | apply Kd.V_alloc | apply Kd.V_drewN | apply Kd.V_drew)); exact HO_443003.out⟩, ⟨by (with_reducible repeat (first | apply Kd.V_alloc | apply Kd.V_drewN | apply Kd.V_drew)); exact HO_443004.out⟩, ⟨by (with_reducible repeat (first | apply Kd.V_alloc | apply Kd.V_drewN | apply Kd.V_drew)); exact HO_460002.out⟩, ⟨by (with_reducible repeat (first | apply Kd.N_alloc | apply Kd.N_drewN | apply Kd.N_drew)); exact HO_460003.out⟩, ⟨by (with_reducible repeat (first | apply Kd.N_alloc | apply Kd.N_drewN | apply Kd.N_drew)); exact HO_460004.out⟩, ⟨by (with_reducible repeat (first | refine blk_drewN ?_ _ | refine blk_drew ?_ | refine blk_alloc ?_ _)); exact BK442.out⟩, ⟨by (with_reducible repeat (first | refine blk_drewN ?_ _ | refine blk_drew ?_ | refine blk_alloc ?_ _)); exact BK446.out⟩, ⟨by (with_reducible repeat (first | refine blk_drewN ?_ _ | refine blk_drew ?_ | refine blk_alloc ?_ _)); exact BK459.out⟩, ⟨by repeat (first | (with_reducible first | exact HB.out | apply below_alloc | apply pw_below_drewN | apply below_drew1 | refine below_set ?_ GE442.out | refine below_set ?_ GE446.out | refine below_set ?_ GE459.out) | exact HB.out)⟩⟩
           case round =>
            clear H'
            try clear c1
            try clear p2
            try clear c3
            try clear c4
            try clear p4
            try clear q4
            try clear hx4
            try clear c5
            try clear c6
            try clear p6
            try clear c7
            try clear c8
            try clear c10
            try clear c17
            try clear c17b0
            try clear c17b1
            try clear c32
            try clear c38
            try clear c39
            try clear c44
            try clear c44b0
            try clear c44b1
            try clear c45
            try clear c45b0
            try clear c45b1
            try clear c46
            try clear p46
            try clear q46
            try clear hx46
            try clear c47
            try clear c48
            try clear c48b0
            try clear c48b1
            try clear c48b2
            try clear c49
            try clear c50
            try clear c52
            try clear c54
            try clear c55
            try clear c57
            try clear c59
            try clear c60
            try clear c62
            try clear c64
            try clear p64
            try clear c65
            try clear c67
            try clear c69
            try clear c70
            try clear c72
            try clear c74
            try clear c75
            try clear c75b0
            try clear c76
            try clear c76b0
            try clear c77
            try clear c77b0
            try clear c79
            try clear c80
            try clear c81
            try clear c83
            try clear c85
            try clear c86
            try clear hcz26_0
            try clear hcz26_1
            try clear hcz26_2
            try clear hcz26_3
            try clear hcz26_4
            try clear hcz33_0
            try clear hcz33_1
            try clear hcz35_0
            try clear hcz35_1
            try clear hcz40_0
            try clear hcz40_1
            try clear hcz40_2
            try clear hcz40_3
            try clear hcz40_4
            try clear hcz51_0
            try clear hcz51_1
            try clear hcz51_2
            try clear hcz51_3
            try clear hcz51_4
            try clear hcz53_0
            try clear hcz53_1
            try clear hcz53_2
            try clear hcz53_3
            try clear hcz53_4
            try clear hcz56_0
            try clear hcz56_1
            try clear hcz56_2
            try clear hcz56_3
            try clear hcz56_4
            try clear hcz58_0
            try clear hcz58_1
            try clear hcz58_2
            try clear hcz58_3
            try clear hcz58_4
            try clear hcz61_0
            try clear hcz61_1
            try clear hcz61_2
            try clear hcz61_3
            try clear hcz61_4
            try clear hcz63_0
            try clear hcz63_1
            try clear hcz63_2
            try clear hcz63_3
            try clear hcz63_4
            try clear hcz66_0
            try clear hcz66_1
            try clear hcz66_2
            try clear hcz66_3
            try clear hcz66_4
            try clear hcz68_0
            try clear hcz68_1
            try clear hcz68_2
            try clear hcz68_3
            try clear hcz68_4
            try clear hcz71_0
            try clear hcz71_1
            try clear hcz71_2
            try clear hcz71_3
            try clear hcz71_4
            try clear hcz73_0
            try clear hcz73_1
            try clear hcz73_2
            try clear hcz73_3
            try clear hcz73_4
            try clear hcz82_0
            try clear hcz82_1
            try clear hcz82_2
            try clear hcz82_3
            try clear hcz82_4
            try clear hcz84_0
            try clear hcz84_1
            try clear hcz84_2
            try clear hcz84_3
            try clear hcz84_4
            try clear hcz87_0
            try clear hcz87_1
            try clear hcz87_2
            try clear hcz87_3
            try clear hcz87_4
            try clear hfz26_0
            try clear hfz26_1
            try clear hfz26_2
            try clear hfz26_3
            try clear hfz26_4
            try clear hfz33_0
            try clear hfz33_1
            try clear hfz35_0
            try clear hfz35_1
            try clear hfz40_0
            try clear hfz40_1
            try clear hfz40_2
            try clear hfz40_3
            try clear hfz40_4
            try clear hfz51_0
            try clear hfz51_1
            try clear hfz51_2
            try clear hfz51_3
            try clear hfz51_4
            try clear hfz53_0
            try clear hfz53_1
            try clear hfz53_2
            try clear hfz53_3
            try clear hfz53_4
            try clear hfz56_0
            try clear hfz56_1
            try clear hfz56_2
            try clear hfz56_3
            try clear hfz56_4
            try clear hfz58_0
            try clear hfz58_1
            try clear hfz58_2
            try clear hfz58_3
            try clear hfz58_4
            try clear hfz61_0
            try clear hfz61_1
            try clear hfz61_2
            try clear hfz61_3
            try clear hfz61_4
            try clear hfz63_0
            try clear hfz63_1
            try clear hfz63_2
            try clear hfz63_3
            try clear hfz63_4
            try clear hfz66_0
            try clear hfz66_1
            try clear hfz66_2
            try clear hfz66_3
            try clear hfz66_4
            try clear hfz68_0
            try clear hfz68_1
            try clear hfz68_2
            try clear hfz68_3
            try clear hfz68_4
            try clear hfz71_0
            try clear hfz71_1
            try clear hfz71_2
            try clear hfz71_3
            try clear hfz71_4
            try clear hfz73_0
            try clear hfz73_1
            try clear hfz73_2
            try clear hfz73_3
            try clear hfz73_4
            try clear hfz82_0
            try clear hfz82_1
            try clear hfz82_2
            try clear hfz82_3
            try clear hfz82_4
            try clear hfz84_0
            try clear hfz84_1
            try clear hfz84_2
            try clear hfz84_3
            try clear hfz84_4
            try clear hfz87_0
            try clear hfz87_1
            try clear hfz87_2
            try clear hfz87_3
            try clear hfz87_4
            try clear hx462_0
            try clear hx463_0
            try clear p2
            try clear p462
            try clear p463
            try clear p6
            try clear p64
            try clear q4
            try clear q46
            try clear q460
            try clear q462
            try clear q463
            obtain ⟨x16_4, rfl, HA, HK4, HO_9, HO_443002, HO_443003, HO_443004, HO_460002, HO_460003, HO_460004, BK442, BK446, BK459, HB⟩ := hrel
            cases gk with
            | zero => exact absurd HA.out (by simp [pyxlaw22_XmssSplits.l1])
            | succ k4 =>
             have H := HA.out
             clear HA
             simp only [pyxlaw22_XmssSplits.l1] at H
             by_cases c88 : x16_4 < (t438.length : Int)
             ·rw [if_pos c88] at H
              have c88b0 : decide (x16_4 < (t438.length : Int)) = true := decide_eq_true c88
              clear c88
              by_cases c89 : 0 ≤ x16_4
              ·rw [if_pos c89] at H
               have c89b0 : decide (0 ≤ x16_4) = true := decide_eq_true c89
               clear c89
               by_cases c90 : x16_4 < (t456.length : Int)
               ·rw [if_pos c90] at H
                have c90b0 : decide (x16_4 < (t456.length : Int)) = true := decide_eq_true c90
                clear c90
                replace H := Option.bind_eq_some_iff.mp H
                obtain ⟨t467, A910, H⟩ := H
                replace H : (if t467 = true then (pyxlaw22_XmssSplits.l1 k4 t427 (wrap64 (x16_4 + 1)) t430 t431 t432 t435 t438 t448 t449 t450 t453 t456) else (some false)) = some r := H
                have A91 := Aside0.mk A910
                clear A910
                by_cases c92 : t467 = true
                ·subst c92
                 have H1 : (pyxlaw22_XmssSplits.l1 k4 t427 (wrap64 (x16_4 + 1)) t430 t431 t432 t435 t438 t448 t449 t450 t453 t456) = some r := by rw [if_pos rfl] at H; exact H
                 clear H
                 have H := H1
                 clear H1
                 have H' := Aside0.mk H
                 clear H
                 have hnb93 := NB442_446.out
                 have hnc93 := NB446_442.out
                 have hnb94 := NB442_459.out
                 have hnc94 := NB459_442.out
                 obtain ⟨hcz95_0, hcz95_1, hcz95_2, hcz95_3, hcz95_4⟩ := cells5_ BK442.out
                 obtain ⟨hfz95_0, hfz95_1, hfz95_2, hfz95_3, hfz95_4⟩ := frz5_ BK442.out
                 have p465 : 0 ≤ (x16_4 : Int) := of_decide_eq_true q63_
                 have q465 : x16_4 < (t438.length : Int) := of_decide_eq_true q63_
                 obtain ⟨ad465, A465_0, c465_0, e465, hx465_0, hl465_0, hi465_0⟩ := at_L10 (Kd.V_reads' HO_443004.out).2.2 x16_4 p465 q465
                 cases e465
                 obtain ⟨ce465, hce465, hMe465, hcc465⟩ := Kd.V_get HO_443004.out [] x16_4 p465 (by first | exact q465 | exact of_decide_eq_true q63_ | (have e_ := (Kd.V_reads' HO_443004.out).1; omega))
                 obtain ⟨ua465_0, uc465_0, rfl, ul465_0, ge465_0⟩ := Kd.FK_slice_open hMe465
                 have hv465_0 := hcc465 0 _ rfl
                 rw [Nat.add_zero, show ((Kd.slice 5 (Kd.int .u8))).sz = 1 from rfl, Nat.mul_one] at hv465_0
                 replace hv465_0 := Option.some.inj (hv465_0.symm.trans hx465_0)
                 injection hv465_0 with hva_ hvn_ hvc_
                 rw [hva_] at ge465_0
                 rw [hvc_] at ul465_0
                 have HL465_0 := Aside0.mk (show Kd.V (Kd.int .u8) 5 _ w.heap.size _ _ (rd_L10 t438 x16_4) from Kd.V_mk ul465_0 ge465_0)
                 clear hva_ hvn_ hvc_ ge465_0 ul465_0
                 clear hcc465 hce465
                 have HR465_0 := Aside0.mk hi465_0
                 have HC465_0 := Aside0.mk hl465_0
                 clear hi465_0 hl465_0
                 replace p465 := eq_true p465
                 replace q465 := eq_true q465
                 have hnb96 := NB459_446.out
                 have hnc96 := NB446_459.out
                 obtain ⟨hcz97_0, hcz97_1, hcz97_2, hcz97_3, hcz97_4⟩ := cells5_ BK459.out
                 obtain ⟨hfz97_0, hfz97_1, hfz97_2, hfz97_3, hfz97_4⟩ := frz5_ BK459.out
                 have p466 : 0 ≤ (x16_4 : Int) := of_decide_eq_true q63_
                 have q466 : x16_4 < (t456.length : Int) := of_decide_eq_true q63_
                 obtain ⟨ad466, A466_0, c466_0, e466, hx466_0, hl466_0, hi466_0⟩ := at_L10 (Kd.N_reads' HO_460004.out).2.2 x16_4 p466 q466
                 cases e466
                 obtain ⟨ce466, hce466, hMe466, hcc466⟩ := Kd.N_get HO_460004.out [] x16_4 p466 (by first | exact q466 | exact of_decide_eq_true q63_ | (have e_ := (Kd.N_reads' HO_460004.out).1; omega))
                 obtain ⟨ua466_0, uc466_0, rfl, ul466_0, ge466_0⟩ := Kd.FK_slice_open hMe466
                 have hv466_0 := hcc466 0 _ rfl
                 rw [Nat.add_zero, show ((Kd.slice 5 (Kd.int .u8))).sz = 1 from rfl, Nat.mul_one] at hv466_0
                 replace hv466_0 := Option.some.inj (hv466_0.symm.trans hx466_0)
                 injection hv466_0 with hva_ hvn_ hvc_
                 rw [hva_] at ge466_0
                 rw [hvc_] at ul466_0
                 have HL466_0 := Aside0.mk (show Kd.V (Kd.int .u8) 5 _ w.heap.size _ _ (rd_L10 t456 x16_4) from Kd.V_mk ul466_0 ge466_0)
                 clear hva_ hvn_ hvc_ ge466_0 ul466_0
                 clear hcc466 hce466
                 have HR466_0 := Aside0.mk hi466_0
                 have HC466_0 := Aside0.mk hl466_0
                 clear hi466_0 hl466_0
                 replace p466 := eq_true p466
                 replace q466 := eq_true q466
                 go_wp2_with (first | (go_at_call 23; (with_reducible refine (pyxref01_Same.calls k4 _ _ (rd_L10 t438 x16_4) _ _ (rd_L10 t456 x16_4) true _ ?side1 ?side2 ?side3 ?side4 A91.out).mono ?_); (case side1 => repeat (first | exact q17_ | (with_reducible refine Kd.C_alloc ?_ _) | (with_reducible refine Kd.C_drewN ?_ _) | (with_reducible refine Kd.C_drew ?_))); (case side2 => exact HC465_0.out); (case side3 => repeat (first | exact q18_ | (with_reducible refine Kd.C_alloc ?_ _) | (with_reducible refine Kd.C_drewN ?_ _) | (with_reducible refine Kd.C_drew ?_))); (case side4 => exact HC466_0.out); rintro e w' ⟨rfl, ⟨nd, rfl⟩⟩; (try first | exact ⟨rfl, _, World.drewN_drewN _ _ _⟩ | exact ⟨rfl, _, Eq.trans (World.drewN_drewN _ _ _) (congrArg (World.drewN _) (Nat.add_assoc _ _ _))⟩)))
                 repeat (go_quiet (first | (go_at_call 23; (with_reducible refine (pyxref01_Same.calls k4 _ _ (rd_L10 t438 x16_4) _ _ (rd_L10 t456 x16_4) true _ ?side1 ?side2 ?side3 ?side4 A91.out).mono ?_); (case side1 => repeat (first | exact q17_ | (with_reducible refine Kd.C_alloc ?_ _) | (with_reducible refine Kd.C_drewN ?_ _) | (with_reducible refine Kd.C_drew ?_))); (case side2 => exact HC465_0.out); (case side3 => repeat (first | exact q18_ | (with_reducible refine Kd.C_alloc ?_ _) | (with_reducible refine Kd.C_drewN ?_ _) | (with_reducible refine Kd.C_drew ?_))); (case side4 => exact HC466_0.out); rintro e w' ⟨rfl, ⟨nd, rfl⟩⟩; (try first | exact ⟨rfl, _, World.drewN_drewN _ _ _⟩ | exact ⟨rfl, _, Eq.trans (World.drewN_drewN _ _ _) (congrArg (World.drewN _) (Nat.add_assoc _ _ _))⟩))); try go_wp2_with (first | (go_at_call 23; (with_reducible refine (pyxref01_Same.calls k4 _ _ (rd_L10 t438 x16_4) _ _ (rd_L10 t456 x16_4) true _ ?side1 ?side2 ?side3 ?side4 A91.out).mono ?_); (case side1 => repeat (first | exact q17_ | (with_reducible refine Kd.C_alloc ?_ _) | (with_reducible refine Kd.C_drewN ?_ _) | (with_reducible refine Kd.C_drew ?_))); (case side2 => exact HC465_0.out); (case side3 => repeat (first | exact q18_ | (with_reducible refine Kd.C_alloc ?_ _) | (with_reducible refine Kd.C_drewN ?_ _) | (with_reducible refine Kd.C_drew ?_))); (case side4 => exact HC466_0.out); rintro e w' ⟨rfl, ⟨nd, rfl⟩⟩; (try first | exact ⟨rfl, _, World.drewN_drewN _ _ _⟩ | exact ⟨rfl, _, Eq.trans (World.drewN_drewN _ _ _) (congrArg (World.drewN _) (Nat.add_assoc _ _ _))⟩))))
                 go_roundg k4
                 case measure => have := HJ4.out; have := HJ18.out; have := HK3.out; have := HK4.out; omega
                 case rel => exact ⟨(wrap64 (x16_4 + 1)), q64_, H', ⟨by have := HJ4.out; have := HJ18.out; have := HK3.out; have := HK4.out; omega⟩, ⟨by (with_reducible repeat (first | apply Kd.R_alloc | apply Kd.R_drewN | apply Kd.R_drew)); exact HO_9.out⟩, ⟨by (with_reducible repeat (first | apply Kd.V_alloc | apply Kd.V_drewN | apply Kd.V_drew)); exact HO_443002.out⟩, ⟨by (with_reducible repeat (first | apply Kd.V_alloc | apply Kd.V_drewN | apply Kd.V_drew)); exact HO_443003.out⟩, ⟨by (with_reducible repeat (first | apply Kd.V_alloc | apply Kd.V_drewN | apply Kd.V_drew)); exact HO_443004.out⟩, ⟨by (with_reducible repeat (first | apply Kd.V_alloc | apply Kd.V_drewN | apply Kd.V_drew)); exact HO_460002.out⟩, ⟨by (with_reducible repeat (first | apply Kd.N_alloc | apply Kd.N_drewN | apply Kd.N_drew)); exact HO_460003.out⟩, ⟨by (with_reducible repeat (first | apply Kd.N_alloc | apply Kd.N_drewN | apply Kd.N_drew)); exact HO_460004.out⟩, ⟨by (with_reducible repeat (first | refine blk_drewN ?_ _ | refine blk_drew ?_ | refine blk_alloc ?_ _)); exact BK442.out⟩, ⟨by (with_reducible repeat (first | refine blk_drewN ?_ _ | refine blk_drew ?_ | refine blk_alloc ?_ _)); exact BK446.out⟩, ⟨by (with_reducible repeat (first | refine blk_drewN ?_ _ | refine blk_drew ?_ | refine blk_alloc ?_ _)); exact BK459.out⟩, ⟨by repeat (first | (with_reducible first | exact HB.out | apply below_alloc | apply pw_below_drewN | apply below_drew1 | refine below_set ?_ GE442.out | refine below_set ?_ GE446.out | refine below_set ?_ GE459.out) | exact HB.out)⟩⟩
                ·replace c92 := Bool.eq_false_iff.mpr c92
                 subst c92
                 have H1 : (some false) = some r := by rw [if_neg (show ¬ (false = true) by decide)] at H; exact H
                 clear H
                 have H := H1
                 clear H1
                 exact absurd ((Option.some.inj H).trans HT.out) (by decide)
               ·rw [if_neg c90] at H
                exact absurd H (by simp)
              ·rw [if_neg c89] at H
               exact absurd H (by simp)
             ·rw [if_neg c88] at H
              have c88b0 : decide (x16_4 < (t438.length : Int)) = false := decide_eq_false c88
              clear c88
              replace H := Option.bind_eq_some_iff.mp H
              obtain ⟨⟨t468, t471⟩, A980, H⟩ := H
              replace H : (if t471 = true then ((pyxref01_Same.f k4 t468 t427).bind fun t472 => (some t472)) else (some false)) = some r := H
              have A98 := Aside0.mk A980
              clear A980
              by_cases c99 : t471 = true
              ·subst c99
               have H1 : ((pyxref01_Same.f k4 t468 t427).bind fun t472 => (some t472)) = some r := by rw [if_pos rfl] at H; exact H
               clear H
               have H := H1
               clear H1
               replace H := Option.bind_eq_some_iff.mp H
               obtain ⟨t472, A1000, H⟩ := H
               replace H : (some t472) = some r := H
               have A100 := Aside0.mk A1000
               clear A1000
               obtain rfl := Option.some.inj H
               have hnb101 := NB442_446.out
               have hnc101 := NB446_442.out
               have hnb102 := NB442_459.out
               have hnc102 := NB459_442.out
               obtain ⟨hcz103_0, hcz103_1, hcz103_2, hcz103_3, hcz103_4⟩ := cells5_ BK442.out
               obtain ⟨hfz103_0, hfz103_1, hfz103_2, hfz103_3, hfz103_4⟩ := frz5_ BK442.out
               go_wp2_with (first | (go_at_call 24; (with_reducible refine (xmss_Join.calls t430 t431 _ _ t432 _ _ t435 _ _ t438 t468 true _ ?side1 ?side2 ?side3 ?side4 ?side5 ?side6 A98.out).mono ?_); (case side1 => repeat (first | exact (Kd.V_reads' HO_443002.out).2.2 | (with_reducible refine Kd.C_alloc ?_ _) | (with_reducible refine Kd.C_drewN ?_ _) | (with_reducible refine Kd.C_drew ?_))); (case side2 => exact (Kd.V_reads' HO_443002.out).2.1); (case side3 => repeat (first | exact (Kd.V_reads' HO_443003.out).2.2 | (with_reducible refine Kd.C_alloc ?_ _) | (with_reducible refine Kd.C_drewN ?_ _) | (with_reducible refine Kd.C_drew ?_))); (case side4 => exact (Kd.V_reads' HO_443003.out).2.1); (case side5 => repeat (first | exact (Kd.V_reads' HO_443004.out).2.2 | (with_reducible refine Kd.C_alloc ?_ _) | (with_reducible refine Kd.C_drewN ?_ _) | (with_reducible refine Kd.C_drew ?_))); (case side6 => exact (Kd.V_reads' HO_443004.out).2.1); rintro e w104 ⟨v469, rfl, ho0, hb⟩; have n0_ := Aside0.mk (Kd.R_elder' (by (with_reducible repeat (first | apply Kd.R_alloc | apply Kd.R_drewN | apply Kd.R_drew)); exact HO_9.out) (Kd.R_base ho0) hb); have n1_ := Aside0.mk (Kd.V_elder' (by (with_reducible repeat (first | apply Kd.V_alloc | apply Kd.V_drewN | apply Kd.V_drew)); exact HO_443002.out) (Kd.R_base ho0) hb); have n2_ := Aside0.mk (Kd.V_elder' (by (with_reducible repeat (first | apply Kd.V_alloc | apply Kd.V_drewN | apply Kd.V_drew)); exact HO_443003.out) (Kd.R_base ho0) hb); have n3_ := Aside0.mk (Kd.V_elder' (by (with_reducible repeat (first | apply Kd.V_alloc | apply Kd.V_drewN | apply Kd.V_drew)); exact HO_443004.out) (Kd.R_base ho0) hb); have n4_ := Aside0.mk (Kd.V_elder' (by (with_reducible repeat (first | apply Kd.V_alloc | apply Kd.V_drewN | apply Kd.V_drew)); exact HO_460002.out) (Kd.R_base ho0) hb); have n5_ := Aside0.mk (Kd.N_elder' (by (with_reducible repeat (first | apply Kd.N_alloc | apply Kd.N_drewN | apply Kd.N_drew)); exact HO_460003.out) (Kd.R_base ho0) hb); have n6_ := Aside0.mk (Kd.N_elder' (by (with_reducible repeat (first | apply Kd.N_alloc | apply Kd.N_drewN | apply Kd.N_drew)); exact HO_460004.out) (Kd.R_base ho0) hb); have n7_ := Aside0.mk (Kd.R_lower (Kd.R_new' ho0 (Kd.R_lt (by (with_reducible repeat (first | apply Kd.R_alloc | apply Kd.R_drewN | apply Kd.R_drew)); exact HO_9.out))) (below_size q11_)); have n8_ := Aside0.mk (blk_below (g := gb442) (o := .cells #[.int .i64 t430, .int .u32 t431, .slice Ao27 t432.length co27, .slice Ao28 t435.length co28, .slice Ao29 t438.length co29] 54 (0, 0)) q40_ hb); have n9_ := Aside0.mk (blk_below (g := gb446) (o := .cells #[.int .i64 t444, .int .i64 t445] 34 (0, 0)) q41_ hb); have n10_ := Aside0.mk (blk_below (g := gb459) (o := .cells #[.int .i64 t448, .int .u32 t449, .slice Ao41 t450.length co41, .slice Ao42 t453.length co42, .slice Ao43 t456.length co43] 57 (0, 0)) (by (with_reducible repeat (first | refine blk_drewN ?_ _ | refine blk_drew ?_ | refine blk_alloc ?_ _)); exact BK459.out) hb); have n11_ := Aside0.mk (below_step q11_ hb); clear HO_9; clear HO_443002; clear HO_443003; clear HO_443004; clear HO_460002; clear HO_460003; clear HO_460004; clear BK442; clear BK446; clear BK459; clear HB; have HO_9 := n0_; have HO_443002 := n1_; have HO_443003 := n2_; have HO_443004 := n3_; have HO_460002 := n4_; have HO_460003 := n5_; have HO_460004 := n6_; have HO470 := n7_; have BK442 := n8_; have BK446 := n9_; have BK459 := n10_; have HB := n11_; clear n0_ n1_ n2_ n3_ n4_ n5_ n6_ n7_ n8_ n9_ n10_ n11_; (try clear hb); (try clear hb2); (try clear hk); (try clear hi); (try clear ho0); obtain ⟨Ao105, co105, eo105⟩ := Kd.R_slice HO470.out; subst eo105) | (go_at_call 23; (with_reducible refine (pyxref01_Same.calls k4 _ _ t468 _ _ t427 t472 _ ?side1 ?side2 ?side3 ?side4 A100.out).mono ?_); (case side1 => repeat (first | exact (Kd.R_reads' HO470.out).2.2 | (with_reducible refine Kd.C_alloc ?_ _) | (with_reducible refine Kd.C_drewN ?_ _) | (with_reducible refine Kd.C_drew ?_))); (case side2 => exact (Kd.R_reads' HO470.out).2.1); (case side3 => repeat (first | exact (Kd.R_reads' HO_9.out).2.2 | (with_reducible refine Kd.C_alloc ?_ _) | (with_reducible refine Kd.C_drewN ?_ _) | (with_reducible refine Kd.C_drew ?_))); (case side4 => exact (Kd.R_reads' HO_9.out).2.1); rintro e w' ⟨rfl, ⟨nd, rfl⟩⟩; (try first | exact ⟨rfl, _, World.drewN_drewN _ _ _⟩ | exact ⟨rfl, _, Eq.trans (World.drewN_drewN _ _ _) (congrArg (World.drewN _) (Nat.add_assoc _ _ _))⟩)))
               go_ret
               exact ⟨by first | rfl | (simp [errW_none, errW_some] <;> rfl) | (simp [*, errW_none, errW_some] <;> rfl), by repeat (first | (with_reducible first | exact HB.out | apply below_alloc | apply pw_below_drewN | apply below_drew1 | refine below_set ?_ GE442.out | refine below_set ?_ GE446.out | refine below_set ?_ GE459.out) | exact HB.out)⟩
              ·replace c99 := Bool.eq_false_iff.mpr c99
               subst c99
               have H1 : (some false) = some r := by rw [if_neg (show ¬ (false = true) by decide)] at H; exact H
               clear H
               have H := H1
               clear H1
               exact absurd ((Option.some.inj H).trans HT.out) (by decide)
    ·rw [if_neg c17] at H
     have c17b0 : (t444 == 0) = false := beq_eq_false_iff_ne.mpr c17
     have c17b1 : (t444 != 0) = true := bne_iff_ne.mpr c17
     replace H := Option.bind_eq_some_iff.mp H
     obtain ⟨t447, A1060, H⟩ := H
     replace H : (if t447 = true then (if t430 = 0 then (some ((wrap64 ((wrap64 ((t432.length : Int) + (t435.length : Int))) + (t438.length : Int))) == 0)) else (some false)) else (some false)) = some r := H
     have A106 := Aside0.mk A1060
     clear A1060
     by_cases c107 : t447 = true
     ·subst c107
      have H1 : (if t430 = 0 then (some ((wrap64 ((wrap64 ((t432.length : Int) + (t435.length : Int))) + (t438.length : Int))) == 0)) else (some false)) = some r := by rw [if_pos rfl] at H; exact H
      clear H
      have H := H1
      clear H1
      by_cases c108 : t430 = 0
      ·rw [if_pos c108] at H
       have c108b0 : (t430 == 0) = true := beq_iff_eq.mpr c108
       have c108b1 : (t430 != 0) = false := bne_eq_false_iff_eq.mpr c108
       clear c108
       obtain rfl := Option.some.inj H
       go_wp2_with (first | (go_at_call 10; (with_reducible refine (pyxref22_Make.calls kj4 (wrap64 (20 + (Int.tmod (wrap64 (a0)) 6))) a1 a2 t424 _ A13.out).mono ?_); rintro e w109 ⟨v425, rfl, ho0, hb⟩; have n0_ := Aside0.mk (Kd.R_lower ho0 (below_size q30_)); have n1_ := Aside0.mk (below_step q30_ hb); clear HB; have HO426 := n0_; have HB := n1_; clear n0_ n1_; (try clear hb); (try clear hb2); (try clear hk); (try clear hi); (try clear ho0); obtain ⟨Ao110, co110, eo110⟩ := Kd.R_slice HO426.out; subst eo110) | (go_at_call 9; (with_reducible refine (pyxlaw22_changed.calls kj4 _ _ t424 _ _ l3 t427 _ ?side1 ?side2 ?side3 ?side4 A14.out).mono ?_); (case side1 => repeat (first | exact (Kd.R_reads' HO426.out).2.2 | (with_reducible refine Kd.C_alloc ?_ _) | (with_reducible refine Kd.C_drewN ?_ _) | (with_reducible refine Kd.C_drew ?_))); (case side2 => exact (Kd.R_reads' HO426.out).2.1); (case side3 => repeat (first | exact (Kd.C_below HR3.out HB.out) | (with_reducible refine Kd.C_alloc ?_ _) | (with_reducible refine Kd.C_drewN ?_ _) | (with_reducible refine Kd.C_drew ?_))); (case side4 => exact HC3.out); rintro e w111 ⟨v428, rfl, ho0, hb⟩; have n0_ := Aside0.mk (Kd.R_elder' q50_ (Kd.R_base ho0) hb); have n1_ := Aside0.mk (Kd.R_lower (Kd.R_new' ho0 (Kd.R_lt q50_)) (below_size q30_)); have n2_ := Aside0.mk (below_step q30_ hb); clear HO426; clear HB; have HO426 := n0_; have HO429 := n1_; have HB := n2_; clear n0_ n1_ n2_; (try clear hb); (try clear hb2); (try clear hk); (try clear hi); (try clear ho0); obtain ⟨Ao112, co112, eo112⟩ := Kd.R_slice HO429.out; subst eo112) | (go_at_call 21; (with_reducible refine (xmss_Split.calls _ _ t427 t430 t431 t432 t435 t438 t441 _ ?side1 ?side2 A15.out q9_).mono ?_); (case side1 => repeat (first | exact (Kd.R_reads' HO429.out).2.2 | (with_reducible refine Kd.C_alloc ?_ _) | (with_reducible refine Kd.C_drewN ?_ _) | (with_reducible refine Kd.C_drew ?_))); (case side2 => exact (Kd.R_reads' HO429.out).2.1); rintro e w113 ⟨v433, v436, v439, rfl, ho0, ho1, ho2, hb⟩; have n0_ := Aside0.mk (Kd.R_below q50_ hb); have n1_ := Aside0.mk (Kd.R_below q51_ hb); have n2_ := Aside0.mk (Kd.V_lower (Kd.V_mono (ok' := fun k_ => some k_ ≠ (.slice Ao110 t424.length co110 : Value).ownBlock ∧ some k_ ≠ (.slice Ao112 t427.length co112 : Value).ownBlock) ho0 (fun k_ hk_ => ⟨(Kd.fresh' (Kd.R_lt q50_) k_ hk_.2.1), (Kd.fresh' (Kd.R_lt q51_) k_ hk_.2.1)⟩)) (below_size q30_)); have n3_ := Aside0.mk (Kd.V_lower (Kd.V_mono (ok' := fun k_ => some k_ ≠ (.slice Ao110 t424.length co110 : Value).ownBlock ∧ some k_ ≠ (.slice Ao112 t427.length co112 : Value).ownBlock) ho1 (fun k_ hk_ => ⟨(Kd.fresh' (Kd.R_lt q50_) k_ hk_.2.1), (Kd.fresh' (Kd.R_lt q51_) k_ hk_.2.1)⟩)) (below_size q30_)); have n4_ := Aside0.mk (Kd.V_lower (Kd.V_mono (ok' := fun k_ => some k_ ≠ (.slice Ao110 t424.length co110 : Value).ownBlock ∧ some k_ ≠ (.slice Ao112 t427.length co112 : Value).ownBlock) ho2 (fun k_ hk_ => ⟨(Kd.fresh' (Kd.R_lt q50_) k_ hk_.2.1), (Kd.fresh' (Kd.R_lt q51_) k_ hk_.2.1)⟩)) (below_size q30_)); have n5_ := Aside0.mk (below_step q30_ hb); clear HO426; clear HO429; clear HB; have HO426 := n0_; have HO429 := n1_; have HO434 := n2_; have HO437 := n3_; have HO440 := n4_; have HB := n5_; clear n0_ n1_ n2_ n3_ n4_ n5_; (try clear hb); (try clear hb2); (try clear hk); (try clear hi); (try clear ho0); (try clear ho1); (try clear ho2); (try simp only [errW_none, errW_some])) | ((with_reducible refine gate_dst (N := 10) rfl ?_); (try (refine gate_guard (by rfl) ?_; dsimp only)); refine box_event ?hg (N := 10) ?hd (cs := #[.int .i64 0, .int .u32 0, .slice none 0 0, .slice none 0 0, .slice none 0 0]) (t := 54) ?hr ?_; (case hd => rfl); (case hg => rfl); (case hr => first | (go_simp; done) | (go_simp; rfl)); intro gb442 hg w114 hbox hb; have n0_ := Aside0.mk (Kd.R_below q50_ hb); have n1_ := Aside0.mk (Kd.R_below q51_ hb); have n2_ := Aside0.mk (Kd.V_below (Kd.V_elderB q52_ gb442 (Nat.le_of_eq hg.symm)) hb); have n3_ := Aside0.mk (Kd.V_below (Kd.V_elderB q53_ gb442 (Nat.le_of_eq hg.symm)) hb); have n4_ := Aside0.mk (Kd.V_below (Kd.V_elderB q54_ gb442 (Nat.le_of_eq hg.symm)) hb); have n5_ := Aside0.mk (below_step q30_ hb); have n6_ := Aside0.mk (hbox); have n7_ := Aside0.mk ((by rw [hg]; exact (below_size q30_) : w.heap.size ≤ gb442)); have n8_ := Aside0.mk ((by rw [hg]; exact (below_size q30_) : w.heap.size ≤ gb442)); clear HO426; clear HO429; clear HO434; clear HO437; clear HO440; clear HB; have HO426 := n0_; have HO429 := n1_; have HO434 := n2_; have HO437 := n3_; have HO440 := n4_; have HB := n5_; have BK442 := n6_; have GW442 := n7_; have GE442 := n8_; clear n0_ n1_ n2_ n3_ n4_ n5_ n6_ n7_ n8_; clear hb hbox hg; obtain ⟨hcz115_0, hcz115_1, hcz115_2, hcz115_3, hcz115_4⟩ := cells5_ BK442.out; obtain ⟨hfz115_0, hfz115_1, hfz115_2, hfz115_3, hfz115_4⟩ := frz5_ BK442.out; obtain ⟨Ao116, co116, eo116⟩ := Kd.V_slice HO434.out; subst eo116; obtain ⟨Ao117, co117, eo117⟩ := Kd.V_slice HO437.out; subst eo117; obtain ⟨Ao118, co118, eo118⟩ := Kd.V_slice HO440.out; subst eo118) | (go_at_call 13; (with_reducible refine (pyxref22_Signature.calls kj4 _ _ t427 t443 t444 t445 _ ?side1 ?side2 A16.out).mono ?_); (case side1 => refine (Kd.R_reads' (e := 5) (base := w.heap.size) (ok := fun k_ => (True ∧ some k_ ≠ (.slice Ao110 t424.length co110 : Value).ownBlock)) (n := t427.length) (c := co112) ?_).2.2; exact q2_); (case side2 => exact (Kd.R_reads' HO429.out).2.1); rintro e w119 ⟨rfl, hb⟩; have n0_ := Aside0.mk (Kd.R_below (by (with_reducible repeat (first | apply Kd.R_alloc | apply Kd.R_drewN | apply Kd.R_drew)); exact (Kd.R_mono (Kd.R_far (p := ⟨gb442, 4, none⟩) (Kd.R_far (p := ⟨gb442, 3, none⟩) (Kd.R_far (p := ⟨gb442, 2, none⟩) (Kd.R_far (p := ⟨gb442, 1, none⟩) (Kd.R_far (p := ⟨gb442, 0, none⟩) (Kd.R_types HO426.out BK442.out (by decide)) (fun _ hk => hk.2) (.int .i64 t430)) (fun _ hk => hk.2) (.int .u32 t431)) (fun _ hk => hk.2) (.slice Ao116 t432.length co116)) (fun _ hk => hk.2) (.slice Ao117 t435.length co117)) (fun _ hk => hk.2) (.slice Ao118 t438.length co118)) (fun _ h_ => h_.1))) hb); have n1_ := Aside0.mk (Kd.R_below q2_ hb); have n2_ := Aside0.mk (Kd.V_below (by (with_reducible repeat (first | apply Kd.V_alloc | apply Kd.V_drewN | apply Kd.V_drew)); exact (Kd.V_mono (Kd.V_far (p := ⟨gb442, 4, none⟩) (Kd.V_far (p := ⟨gb442, 3, none⟩) (Kd.V_far (p := ⟨gb442, 2, none⟩) (Kd.V_far (p := ⟨gb442, 1, none⟩) (Kd.V_far (p := ⟨gb442, 0, none⟩) (Kd.V_mono HO434.out (fun k_ hk => (⟨hk, hk.2⟩ : _ ∧ k_ ≠ gb442))) (fun _ hk => hk.2) (.int .i64 t430)) (fun _ hk => hk.2) (.int .u32 t431)) (fun _ hk => hk.2) (.slice Ao116 t432.length co116)) (fun _ hk => hk.2) (.slice Ao117 t435.length co117)) (fun _ hk => hk.2) (.slice Ao118 t438.length co118)) (fun _ h_ => h_.1))) hb); have n3_ := Aside0.mk (Kd.V_below (by (with_reducible repeat (first | apply Kd.V_alloc | apply Kd.V_drewN | apply Kd.V_drew)); exact (Kd.V_mono (Kd.V_far (p := ⟨gb442, 4, none⟩) (Kd.V_far (p := ⟨gb442, 3, none⟩) (Kd.V_far (p := ⟨gb442, 2, none⟩) (Kd.V_far (p := ⟨gb442, 1, none⟩) (Kd.V_far (p := ⟨gb442, 0, none⟩) (Kd.V_mono HO437.out (fun k_ hk => (⟨hk, hk.2⟩ : _ ∧ k_ ≠ gb442))) (fun _ hk => hk.2) (.int .i64 t430)) (fun _ hk => hk.2) (.int .u32 t431)) (fun _ hk => hk.2) (.slice Ao116 t432.length co116)) (fun _ hk => hk.2) (.slice Ao117 t435.length co117)) (fun _ hk => hk.2) (.slice Ao118 t438.length co118)) (fun _ h_ => h_.1))) hb); have n4_ := Aside0.mk (Kd.V_below (by (with_reducible repeat (first | apply Kd.V_alloc | apply Kd.V_drewN | apply Kd.V_drew)); exact (Kd.V_mono (Kd.V_far (p := ⟨gb442, 4, none⟩) (Kd.V_far (p := ⟨gb442, 3, none⟩) (Kd.V_far (p := ⟨gb442, 2, none⟩) (Kd.V_far (p := ⟨gb442, 1, none⟩) (Kd.V_far (p := ⟨gb442, 0, none⟩) (Kd.V_mono HO440.out (fun k_ hk => (⟨hk, hk.2⟩ : _ ∧ k_ ≠ gb442))) (fun _ hk => hk.2) (.int .i64 t430)) (fun _ hk => hk.2) (.int .u32 t431)) (fun _ hk => hk.2) (.slice Ao116 t432.length co116)) (fun _ hk => hk.2) (.slice Ao117 t435.length co117)) (fun _ hk => hk.2) (.slice Ao118 t438.length co118)) (fun _ h_ => h_.1))) hb); have n5_ := Aside0.mk (blk_below (g := gb442) (o := .cells #[.int .i64 t430, .int .u32 t431, .slice Ao116 t432.length co116, .slice Ao117 t435.length co117, .slice Ao118 t438.length co118] 54 (0, 0)) (by (with_reducible repeat (first | refine blk_drewN ?_ _ | refine blk_drew ?_ | refine blk_alloc ?_ _)); exact set5_01234_ BK442.out) hb); have n6_ := Aside0.mk (below_step q26_ hb); clear HO426; clear HO429; clear HO434; clear HO437; clear HO440; clear BK442; clear HB; have HO426 := n0_; have HO429 := n1_; have HO434 := n2_; have HO437 := n3_; have HO440 := n4_; have BK442 := n5_; have HB := n6_; clear n0_ n1_ n2_ n3_ n4_ n5_ n6_; (try clear hb); (try clear hb2); (try clear hk); (try clear hi)) | ((with_reducible refine gate_dst (N := 13) rfl ?_); (try (refine gate_guard (by rfl) ?_; dsimp only)); refine box_event ?hg (N := 13) ?hd (cs := #[.int .i64 0, .int .i64 0]) (t := 34) ?hr ?_; (case hd => rfl); (case hg => rfl); (case hr => first | (go_simp; done) | (go_simp; rfl)); intro gb446 hg w120 hbox hb; have n0_ := Aside0.mk (Kd.R_below q50_ hb); have n1_ := Aside0.mk (Kd.R_below q51_ hb); have n2_ := Aside0.mk (Kd.V_below (Kd.V_elderB q52_ gb446 (Nat.le_of_eq hg.symm)) hb); have n3_ := Aside0.mk (Kd.V_below (Kd.V_elderB q53_ gb446 (Nat.le_of_eq hg.symm)) hb); have n4_ := Aside0.mk (Kd.V_below (Kd.V_elderB q54_ gb446 (Nat.le_of_eq hg.symm)) hb); have n5_ := Aside0.mk (blk_below (g := gb442) (o := .cells #[.int .i64 t430, .int .u32 t431, .slice Ao116 t432.length co116, .slice Ao117 t435.length co117, .slice Ao118 t438.length co118] 54 (0, 0)) q40_ hb); have n6_ := Aside0.mk (below_step q26_ hb); have n7_ := Aside0.mk (hbox); have n8_ := Aside0.mk ((by rw [hg]; exact (below_size q26_) : w.heap.size ≤ gb446)); have n9_ := Aside0.mk ((by rw [hg]; exact (below_size q26_) : w.heap.size ≤ gb446)); have n10_ := Aside0.mk ((by rw [hg]; exact Nat.ne_of_lt (blk_lt (g := gb442) (o := .cells #[.int .i64 t430, .int .u32 t431, .slice Ao116 t432.length co116, .slice Ao117 t435.length co117, .slice Ao118 t438.length co118] 54 (0, 0)) q40_) : gb442 ≠ gb446)); have n11_ := Aside0.mk ((by rw [hg]; exact Nat.ne_of_gt (blk_lt (g := gb442) (o := .cells #[.int .i64 t430, .int .u32 t431, .slice Ao116 t432.length co116, .slice Ao117 t435.length co117, .slice Ao118 t438.length co118] 54 (0, 0)) q40_) : gb446 ≠ gb442)); clear HO426; clear HO429; clear HO434; clear HO437; clear HO440; clear BK442; clear HB; have HO426 := n0_; have HO429 := n1_; have HO434 := n2_; have HO437 := n3_; have HO440 := n4_; have BK442 := n5_; have HB := n6_; have BK446 := n7_; have GW446 := n8_; have GE446 := n9_; have NB442_446 := n10_; have NB446_442 := n11_; clear n0_ n1_ n2_ n3_ n4_ n5_ n6_ n7_ n8_ n9_ n10_ n11_; clear hb hbox hg; have hnb121 := NB446_442.out; have hnc121 := NB442_446.out; obtain ⟨hcz122_0, hcz122_1⟩ := cells2_ BK446.out; obtain ⟨hfz122_0, hfz122_1⟩ := frz2_ BK446.out; have CA106 := fun W => pyxlaw22_told.calls t441 t444 t445 true W A106.out; try simp only [errW_none, errW_some] at CA106) | (go_at_call 16; (with_reducible refine (CA106 _ (by first | exact GOK.below HG.out q14_ | (repeat (first | exact HG.out | apply GOK.drewN | apply GOK.drew)))).mono ?_); rintro e w123 ⟨rfl, hb⟩; have n0_ := Aside0.mk (Kd.R_below (by (with_reducible repeat (first | apply Kd.R_alloc | apply Kd.R_drewN | apply Kd.R_drew)); exact (Kd.R_mono (Kd.R_far (p := ⟨gb446, 1, none⟩) (Kd.R_far (p := ⟨gb446, 0, none⟩) (Kd.R_types HO426.out BK446.out (by decide)) (fun _ hk => hk.2) (.int .i64 t444)) (fun _ hk => hk.2) (.int .i64 t445)) (fun _ h_ => h_.1))) hb); have n1_ := Aside0.mk (Kd.R_below (by (with_reducible repeat (first | apply Kd.R_alloc | apply Kd.R_drewN | apply Kd.R_drew)); exact (Kd.R_mono (Kd.R_far (p := ⟨gb446, 1, none⟩) (Kd.R_far (p := ⟨gb446, 0, none⟩) (Kd.R_types HO429.out BK446.out (by decide)) (fun _ hk => hk.2) (.int .i64 t444)) (fun _ hk => hk.2) (.int .i64 t445)) (fun _ h_ => h_.1))) hb); have n2_ := Aside0.mk (Kd.V_below (by (with_reducible repeat (first | apply Kd.V_alloc | apply Kd.V_drewN | apply Kd.V_drew)); exact (Kd.V_mono (Kd.V_far (p := ⟨gb446, 1, none⟩) (Kd.V_far (p := ⟨gb446, 0, none⟩) (Kd.V_mono HO434.out (fun k_ hk => (⟨hk, hk.2⟩ : _ ∧ k_ ≠ gb446))) (fun _ hk => hk.2) (.int .i64 t444)) (fun _ hk => hk.2) (.int .i64 t445)) (fun _ h_ => h_.1))) hb); have n3_ := Aside0.mk (Kd.V_below (by (with_reducible repeat (first | apply Kd.V_alloc | apply Kd.V_drewN | apply Kd.V_drew)); exact (Kd.V_mono (Kd.V_far (p := ⟨gb446, 1, none⟩) (Kd.V_far (p := ⟨gb446, 0, none⟩) (Kd.V_mono HO437.out (fun k_ hk => (⟨hk, hk.2⟩ : _ ∧ k_ ≠ gb446))) (fun _ hk => hk.2) (.int .i64 t444)) (fun _ hk => hk.2) (.int .i64 t445)) (fun _ h_ => h_.1))) hb); have n4_ := Aside0.mk (Kd.V_below (by (with_reducible repeat (first | apply Kd.V_alloc | apply Kd.V_drewN | apply Kd.V_drew)); exact (Kd.V_mono (Kd.V_far (p := ⟨gb446, 1, none⟩) (Kd.V_far (p := ⟨gb446, 0, none⟩) (Kd.V_mono HO440.out (fun k_ hk => (⟨hk, hk.2⟩ : _ ∧ k_ ≠ gb446))) (fun _ hk => hk.2) (.int .i64 t444)) (fun _ hk => hk.2) (.int .i64 t445)) (fun _ h_ => h_.1))) hb); have n5_ := Aside0.mk (blk_below (g := gb442) (o := .cells #[.int .i64 t430, .int .u32 t431, .slice Ao116 t432.length co116, .slice Ao117 t435.length co117, .slice Ao118 t438.length co118] 54 (0, 0)) q6_ hb); have n6_ := Aside0.mk (blk_below (g := gb446) (o := .cells #[.int .i64 t444, .int .i64 t445] 34 (0, 0)) (by (with_reducible repeat (first | refine blk_drewN ?_ _ | refine blk_drew ?_ | refine blk_alloc ?_ _)); exact set2_01_ BK446.out) hb); have n7_ := Aside0.mk (below_step q14_ hb); clear HO426; clear HO429; clear HO434; clear HO437; clear HO440; clear BK442; clear BK446; clear HB; have HO426 := n0_; have HO429 := n1_; have HO434 := n2_; have HO437 := n3_; have HO440 := n4_; have BK442 := n5_; have BK446 := n6_; have HB := n7_; clear n0_ n1_ n2_ n3_ n4_ n5_ n6_ n7_; (try clear hb); (try clear hb2); (try clear hk); (try clear hi); obtain ⟨hcz124_0, hcz124_1, hcz124_2, hcz124_3, hcz124_4⟩ := cells5_ BK442.out; obtain ⟨hfz124_0, hfz124_1, hfz124_2, hfz124_3, hfz124_4⟩ := frz5_ BK442.out))
       go_ret
       exact ⟨by first | rfl | (simp [errW_none, errW_some] <;> rfl) | (simp [*, errW_none, errW_some] <;> rfl), by repeat (first | (with_reducible first | exact HB.out | apply below_alloc | apply pw_below_drewN | apply below_drew1 | refine below_set ?_ GE442.out | refine below_set ?_ GE446.out) | exact HB.out)⟩
      ·rw [if_neg c108] at H
       have c108b0 : (t430 == 0) = false := beq_eq_false_iff_ne.mpr c108
       have c108b1 : (t430 != 0) = true := bne_iff_ne.mpr c108
       exact absurd ((Option.some.inj H).trans HT.out) (by decide)
     ·replace c107 := Bool.eq_false_iff.mpr c107
      subst c107
      have H1 : (some false) = some r := by rw [if_neg (show ¬ (false = true) by decide)] at H; exact H
      clear H
      have H := H1
      clear H1
      exact absurd ((Option.some.inj H).trans HT.out) (by decide)
def pyxlaw22_XmssSplits.Pure : Prop := ∀ (a0 : Int) (a1 : Int) (a2 : Int) (l3 : List (S65)), (Lit.int .u8 a0).wf = true → (Lit.int .u32 a1).wf = true → (Lit.int .u32 a2).wf = true → l3.length ≤ maxLen → l3.length * 40 ≤ 140737488351232 → (∀ x ∈ l3, ((Lit.int .i64 x.f0).wf = true ∧ (Lit.int .u8 x.f1).wf = true ∧ (Lit.int .u16 x.f2).wf = true ∧ (x.f3.length * Tryz.prog.bytesOf 5 ≤ reachBytes ∧ ∀ y ∈ x.f3, (Lit.int .u8 y).wf = true))) → ∃ k, pyxlaw22_XmssSplits.f k a0 a1 a2 l3 = some true
theorem pyxlaw22_XmssSplits.walk (P : pyxlaw22_XmssSplits.Pure) (a0 : Int) (a1 : Int) (a2 : Int) (a3 : Option Addr) (cap3 : Nat) (l3 : List (S65)) (w : World) (w0 : (Lit.int .u8 a0).wf = true) (w1 : (Lit.int .u32 a1).wf = true) (w2 : (Lit.int .u32 a2).wf = true) (w3 : Kd.C k65 w a3 l3.length l3) (hc3 : l3.length ≤ cap3) (y3 : l3.length * 40 ≤ 140737488351232) (q3 : ∀ x ∈ l3, ((Lit.int .i64 x.f0).wf = true ∧ (Lit.int .u8 x.f1).wf = true ∧ (Lit.int .u16 x.f2).wf = true ∧ (x.f3.length * Tryz.prog.bytesOf 5 ≤ reachBytes ∧ ∀ y ∈ x.f3, (Lit.int .u8 y).wf = true))) (hG : GOK w) :
  Calls Tryz.prog 6 #[.int .u8 a0, .int .u32 a1, .int .u32 a2, .slice a3 l3.length cap3] w fun e w' => e = .returned (.bool true) ∧ Below w.heap.size w w' := by
 have hm3 : l3.length ≤ maxLen := w3.2.1
 obtain ⟨k, h⟩ := P a0 a1 a2 l3 w0 w1 w2 hm3 y3 q3
 refine (pyxlaw22_XmssSplits.calls k a0 a1 a2 _ _ l3 true w w3 hc3 h hG rfl).mono ?_
 rintro e w' ⟨rfl, hd⟩
 exact ⟨rfl, hd⟩
end Go.Proofs.YtgmnknhfeoleaaaGreatDoor.PXmss
