-- Written by a program: a copy of the kit's print, turned by this session (wip/xprint).
import Derived.Test.YtifejkgppdjeoaaPBitsx0
import Derived.Test.YtifejkgppdjeoaaPBitsx1
import Derived.Test.YtifejkgppdjeoaaPBitsx2
import Derived.Test.YtifejkgppdjeoaaPBitsx3
namespace Go.Proofs.Ytifejkgppdjeoaa.PBits
open Go.RowKit Go.Proofs.YtifejkgppdjeoaaW.PrintWords Go.Proofs.YtifejkgppdjeoaaW.PrintLast Go.Proofs.YtifejkgppdjeoaaW.PrintMore
attribute [local go_sem] max2_int min2_int max_two min_two max_three min_three max_four min_four   -- for this text's walks alone
set_option linter.unusedVariables false
set_option linter.unusedSimpArgs false

/-! ### pyxlaw05_BitsSingle: function 12 -/
def pyxlaw05_BitsSingle.j0 : Nat → Int → List Int → Int → Bool → Option (Bool)
  | 0, _, _, _, _ => none
  | k + 1, x0, x1, x2, x28 => if x28 = true then ((pyxlaw05_awake.f k).bind fun t244 => (some t244)) else ((bits_Pack.f k (wrap64 (1 + (Int.tmod (wrap64 (x0)) 32))) x1).bind fun bt245 => (if bt245.2 = true then (if (wrap64 ((wrap64 (1 + (Int.tmod (wrap64 (x0)) 32))) * (x1.length : Int))) = 0 then (none) else ((bits_Bit.f bt245.1 (Int.tmod (wrap64 (x2)) (wrap64 ((wrap64 (1 + (Int.tmod (wrap64 (x0)) 32))) * (x1.length : Int))))).bind fun bt249 => ((bits_Bit.f bt245.1 (wrap64 (8 * (bt245.1.length : Int)))).bind fun bt251 => ((bits_Bit.f bt245.1 (wrap64 ((-1) - (Int.tmod (wrap64 (x2)) (wrap64 ((wrap64 (1 + (Int.tmod (wrap64 (x0)) 32))) * (x1.length : Int))))))).bind fun bt253 => (if bt249.2 = true then (if bt251.2 = true then (some false) else (if bt253.2 = true then (some false) else (if (wrap64 (1 + (Int.tmod (wrap64 (x0)) 32))) = 0 then (none) else (if 0 ≤ (wrap64 (Int.tdiv (Int.tmod (wrap64 (x2)) (wrap64 ((wrap64 (1 + (Int.tmod (wrap64 (x0)) 32))) * (x1.length : Int)))) (wrap64 (1 + (Int.tmod (wrap64 (x0)) 32))))) then (if (wrap64 (Int.tdiv (Int.tmod (wrap64 (x2)) (wrap64 ((wrap64 (1 + (Int.tmod (wrap64 (x0)) 32))) * (x1.length : Int)))) (wrap64 (1 + (Int.tmod (wrap64 (x0)) 32))))) < (x1.length : Int) then (if 0 ≤ (IntKind.u64.wrap (Int.tmod (Int.tmod (wrap64 (x2)) (wrap64 ((wrap64 (1 + (Int.tmod (wrap64 (x0)) 32))) * (x1.length : Int)))) (wrap64 (1 + (Int.tmod (wrap64 (x0)) 32))))) then (some (bt249.1 == (wrap64 (Go.bits .and .u32 (shr .u32 (rd x1 (wrap64 (Int.tdiv (Int.tmod (wrap64 (x2)) (wrap64 ((wrap64 (1 + (Int.tmod (wrap64 (x0)) 32))) * (x1.length : Int)))) (wrap64 (1 + (Int.tmod (wrap64 (x0)) 32)))))) (IntKind.u64.wrap (Int.tmod (Int.tmod (wrap64 (x2)) (wrap64 ((wrap64 (1 + (Int.tmod (wrap64 (x0)) 32))) * (x1.length : Int)))) (wrap64 (1 + (Int.tmod (wrap64 (x0)) 32)))))) 1)))) else (none)) else (none)) else (none))))) else (some false)))))) else (some true)))
def pyxlaw05_BitsSingle.f (k : Nat) (a0 : Int) (l1 : List Int) (a2 : Int) : Option (Bool) := (pyxlaw05_awake.f k).bind fun t243 => (if t243 = true then (if (l1.length : Int) > 300 then (pyxlaw05_BitsSingle.j0 k a0 l1 a2 true) else (pyxlaw05_BitsSingle.j0 k a0 l1 a2 ((l1.length : Int) == 0))) else (pyxlaw05_BitsSingle.j0 k a0 l1 a2 true))
theorem pyxlaw05_BitsSingle.mono_l : ∀ k, (∀ y0 y1 y2 y3, LeO (pyxlaw05_BitsSingle.j0 k y0 y1 y2 y3) (pyxlaw05_BitsSingle.j0 (k + 1) y0 y1 y2 y3))
  | 0 => fun _ _ _ _ r h => by simp [pyxlaw05_BitsSingle.j0] at h
  | k + 1 => by
    have ih0 := pyxlaw05_BitsSingle.mono_l k
    · intro y0 y1 y2 y3
      unfold pyxlaw05_BitsSingle.j0
      repeat' first
      | (with_reducible exact ih0 _ _ _ _)
      | (with_reducible exact bits_Pack.mono _ _ _)
      | (with_reducible exact pyxlaw05_awake.mono _)
      | (with_reducible exact LeO.refl _)
      | (with_reducible exact LeO.none _)
      | (with_reducible refine LeO.ite ?_ ?_)
      | (with_reducible refine LeO.bind ?_ (fun _ => ?_))
      | exact ih0 _ _ _ _
      | exact bits_Pack.mono _ _ _
      | exact pyxlaw05_awake.mono _
      | exact LeO.none _
      | refine LeO.ite ?_ ?_
      | refine LeO.bind ?_ (fun _ => ?_)
theorem pyxlaw05_BitsSingle.mono : ∀ a0 a1 a2 k, LeO (pyxlaw05_BitsSingle.f k a0 a1 a2) (pyxlaw05_BitsSingle.f (k + 1) a0 a1 a2) := by
  intro a0 a1 a2 k
  have ih0 := pyxlaw05_BitsSingle.mono_l k
  unfold pyxlaw05_BitsSingle.f
  repeat' first
      | (with_reducible exact ih0 _ _ _ _)
      | (with_reducible exact bits_Pack.mono _ _ _)
      | (with_reducible exact pyxlaw05_awake.mono _)
      | (with_reducible exact LeO.refl _)
      | (with_reducible exact LeO.none _)
      | (with_reducible refine LeO.ite ?_ ?_)
      | (with_reducible refine LeO.bind ?_ (fun _ => ?_))
      | exact ih0 _ _ _ _
      | exact bits_Pack.mono _ _ _
      | exact pyxlaw05_awake.mono _
      | exact LeO.none _
      | refine LeO.ite ?_ ?_
      | refine LeO.bind ?_ (fun _ => ?_)
set_option maxHeartbeats 8000000 in
set_option maxRecDepth 100000 in
theorem pyxlaw05_BitsSingle.calls (k : Nat) (a0 : Int) (A1 : Option Addr) (c1 : Nat) (l1 : List Int) (a2 : Int) (r : Bool) (w : World) (hr1 : Kd.C (Kd.int .u32) w A1 l1.length l1) (hc1 : l1.length ≤ c1) (h : pyxlaw05_BitsSingle.f k a0 l1 a2 = some r) (hr_ : r = true) :
    Calls Try.prog 12 #[.int .u8 a0, .slice A1 l1.length c1, .int .u16 a2] w fun e w' => e = .returned (.bool r) ∧ Below w.heap.size w w' := by
  have HT := Aside0.mk hr_
  clear hr_
  have HR1 := Aside0.mk hr1
  have HC1 := Aside0.mk hc1
  clear hr1 hc1
  have HB := Aside0.mk (Below.refl w.heap.size w)
  have H : ((pyxlaw05_awake.f k).bind fun t243 => (if t243 = true then (if (l1.length : Int) > 300 then (pyxlaw05_BitsSingle.j0 k a0 l1 a2 true) else (pyxlaw05_BitsSingle.j0 k a0 l1 a2 ((l1.length : Int) == 0))) else (pyxlaw05_BitsSingle.j0 k a0 l1 a2 true))) = some r := h
  clear h
  have HC4 := Aside0.mk H
  clear H
  go_enter Try.func12, Try.ntmps12
  go_upto_region 1 with (fail)
  repeat (go_quiet (fail); go_upto_region 1 with (fail))
  go_cut [28] (fun v28 wc => ∃ (kq : Nat) (x28_3 : Bool), v28 = .bool x28_3 ∧ Aside0 (pyxlaw05_BitsSingle.j0 kq a0 l1 a2 x28_3 = some r) ∧ Aside0 (kq ≤ k) ∧ Aside0 (Below w.heap.size w wc))
  case first =>
    have H := HC4.out
    clear HC4
    replace H := Option.bind_eq_some_iff.mp H
    obtain ⟨t243, A50, H⟩ := H
    replace H : (if t243 = true then (if (l1.length : Int) > 300 then (pyxlaw05_BitsSingle.j0 k a0 l1 a2 true) else (pyxlaw05_BitsSingle.j0 k a0 l1 a2 ((l1.length : Int) == 0))) else (pyxlaw05_BitsSingle.j0 k a0 l1 a2 true)) = some r := H
    have A5 := Aside0.mk A50
    clear A50
    by_cases c6 : t243 = true
    · subst c6
      have H1 : (if (l1.length : Int) > 300 then (pyxlaw05_BitsSingle.j0 k a0 l1 a2 true) else (pyxlaw05_BitsSingle.j0 k a0 l1 a2 ((l1.length : Int) == 0))) = some r := by rw [if_pos rfl] at H; exact H
      clear H
      have H := H1
      clear H1
      by_cases c7 : (l1.length : Int) > 300
      · rw [if_pos c7] at H
        have c7b0 : decide (300 < (l1.length : Int)) = true := decide_eq_true c7
        have c7b1 : decide (300 < l1.length) = true := decide_eq_true (by omega)
        clear c7
        (first | rw [c7b0] | (simp only [i64_w, i32_w]; rw [c7b0]) | skip)
        have H' := Aside0.mk H
        clear H
        go_wp2_with (first | (go_at_call 35; (with_reducible refine (pyxlaw05_awake.calls k  true _ A5.out).mono ?_); rintro e w8 ⟨rfl, hb⟩; have n0_ := Aside0.mk (below_step (by repeat (first | (with_reducible first | exact HB.out | apply below_alloc | apply pw_below_drewN | apply below_drew1) | exact HB.out)) hb); clear HB; have HB := n0_; clear n0_; (try clear hb); (try clear hb2); (try clear hk); (try clear hi)))
        repeat (go_quiet (first | (go_at_call 35; (with_reducible refine (pyxlaw05_awake.calls k  true _ A5.out).mono ?_); rintro e w8 ⟨rfl, hb⟩; have n0_ := Aside0.mk (below_step (by repeat (first | (with_reducible first | exact HB.out | apply below_alloc | apply pw_below_drewN | apply below_drew1) | exact HB.out)) hb); clear HB; have HB := n0_; clear n0_; (try clear hb); (try clear hb2); (try clear hk); (try clear hi))); try go_wp2_with (first | (go_at_call 35; (with_reducible refine (pyxlaw05_awake.calls k  true _ A5.out).mono ?_); rintro e w8 ⟨rfl, hb⟩; have n0_ := Aside0.mk (below_step (by repeat (first | (with_reducible first | exact HB.out | apply below_alloc | apply pw_below_drewN | apply below_drew1) | exact HB.out)) hb); clear HB; have HB := n0_; clear n0_; (try clear hb); (try clear hb2); (try clear hk); (try clear hi))))
        go_meet
        case rel => exact ⟨_, (true), (by first | rfl | (simp; done) | (simp [*]; done)), H', ⟨by first | omega | exact Nat.le_refl _⟩, ⟨by repeat (first | (with_reducible first | exact HB.out | apply below_alloc | apply pw_below_drewN | apply below_drew1) | exact HB.out)⟩⟩
      · rw [if_neg c7] at H
        have c7b0 : decide (300 < (l1.length : Int)) = false := decide_eq_false c7
        have c7b1 : decide (300 < l1.length) = false := decide_eq_false (by omega)
        clear c7
        (first | rw [c7b0] | (simp only [i64_w, i32_w]; rw [c7b0]) | skip)
        have H' := Aside0.mk H
        clear H
        go_wp2_with (first | (go_at_call 35; (with_reducible refine (pyxlaw05_awake.calls k  true _ A5.out).mono ?_); rintro e w9 ⟨rfl, hb⟩; have n0_ := Aside0.mk (below_step (by repeat (first | (with_reducible first | exact HB.out | apply below_alloc | apply pw_below_drewN | apply below_drew1) | exact HB.out)) hb); clear HB; have HB := n0_; clear n0_; (try clear hb); (try clear hb2); (try clear hk); (try clear hi)))
        repeat (go_quiet (first | (go_at_call 35; (with_reducible refine (pyxlaw05_awake.calls k  true _ A5.out).mono ?_); rintro e w9 ⟨rfl, hb⟩; have n0_ := Aside0.mk (below_step (by repeat (first | (with_reducible first | exact HB.out | apply below_alloc | apply pw_below_drewN | apply below_drew1) | exact HB.out)) hb); clear HB; have HB := n0_; clear n0_; (try clear hb); (try clear hb2); (try clear hk); (try clear hi))); try go_wp2_with (first | (go_at_call 35; (with_reducible refine (pyxlaw05_awake.calls k  true _ A5.out).mono ?_); rintro e w9 ⟨rfl, hb⟩; have n0_ := Aside0.mk (below_step (by repeat (first | (with_reducible first | exact HB.out | apply below_alloc | apply pw_below_drewN | apply below_drew1) | exact HB.out)) hb); clear HB; have HB := n0_; clear n0_; (try clear hb); (try clear hb2); (try clear hk); (try clear hi))))
        go_meet
        case rel => exact ⟨_, (((l1.length : Int) == 0)), (by first | rfl | (simp; done) | (simp [*]; done)), H', ⟨by first | omega | exact Nat.le_refl _⟩, ⟨by repeat (first | (with_reducible first | exact HB.out | apply below_alloc | apply pw_below_drewN | apply below_drew1) | exact HB.out)⟩⟩
    · replace c6 := Bool.eq_false_iff.mpr c6
      subst c6
      have H1 : (pyxlaw05_BitsSingle.j0 k a0 l1 a2 true) = some r := by rw [if_neg (show ¬ (false = true) by decide)] at H; exact H
      clear H
      have H := H1
      clear H1
      have H' := Aside0.mk H
      clear H
      go_wp2_with (first | (go_at_call 35; (with_reducible refine (pyxlaw05_awake.calls k  false _ A5.out).mono ?_); rintro e w10 ⟨rfl, hb⟩; have n0_ := Aside0.mk (below_step (by repeat (first | (with_reducible first | exact HB.out | apply below_alloc | apply pw_below_drewN | apply below_drew1) | exact HB.out)) hb); clear HB; have HB := n0_; clear n0_; (try clear hb); (try clear hb2); (try clear hk); (try clear hi)))
      repeat (go_quiet (first | (go_at_call 35; (with_reducible refine (pyxlaw05_awake.calls k  false _ A5.out).mono ?_); rintro e w10 ⟨rfl, hb⟩; have n0_ := Aside0.mk (below_step (by repeat (first | (with_reducible first | exact HB.out | apply below_alloc | apply pw_below_drewN | apply below_drew1) | exact HB.out)) hb); clear HB; have HB := n0_; clear n0_; (try clear hb); (try clear hb2); (try clear hk); (try clear hi))); try go_wp2_with (first | (go_at_call 35; (with_reducible refine (pyxlaw05_awake.calls k  false _ A5.out).mono ?_); rintro e w10 ⟨rfl, hb⟩; have n0_ := Aside0.mk (below_step (by repeat (first | (with_reducible first | exact HB.out | apply below_alloc | apply pw_below_drewN | apply below_drew1) | exact HB.out)) hb); clear HB; have HB := n0_; clear n0_; (try clear hb); (try clear hb2); (try clear hk); (try clear hi))))
      go_meet
      case rel => exact ⟨_, (true), (by first | rfl | (simp; done) | (simp [*]; done)), H', ⟨by first | omega | exact Nat.le_refl _⟩, ⟨by repeat (first | (with_reducible first | exact HB.out | apply below_alloc | apply pw_below_drewN | apply below_drew1) | exact HB.out)⟩⟩
  case rest =>
    clear HC4
    try clear c1
    try clear p2
    try clear c6
    try clear c7
    try clear c7b0
    try clear c7b1
    obtain ⟨kq, x28_3, rfl, HA, HJ3, HB⟩ := hcut
    cases kq with
    | zero => exact absurd HA.out (by simp [pyxlaw05_BitsSingle.j0])
    | succ kj3 =>
      have H := HA.out
      clear HA
      simp only [pyxlaw05_BitsSingle.j0] at H
      by_cases c11 : x28_3 = true
      · subst c11
        have H1 : ((pyxlaw05_awake.f kj3).bind fun t244 => (some t244)) = some r := by rw [if_pos rfl] at H; exact H
        clear H
        have H := H1
        clear H1
        replace H := Option.bind_eq_some_iff.mp H
        obtain ⟨t244, A120, H⟩ := H
        replace H : (some t244) = some r := H
        have A12 := Aside0.mk A120
        clear A120
        obtain rfl := Option.some.inj H
        go_wp2_with (first | (go_at_call 35; (with_reducible refine (pyxlaw05_awake.calls kj3  t244 _ A12.out).mono ?_); rintro e w13 ⟨rfl, hb⟩; have n0_ := Aside0.mk (below_step (by repeat (first | (with_reducible first | exact HB.out | apply below_alloc | apply pw_below_drewN | apply below_drew1) | exact HB.out)) hb); clear HB; have HB := n0_; clear n0_; (try clear hb); (try clear hb2); (try clear hk); (try clear hi)))
        repeat (go_quiet (first | (go_at_call 35; (with_reducible refine (pyxlaw05_awake.calls kj3  t244 _ A12.out).mono ?_); rintro e w13 ⟨rfl, hb⟩; have n0_ := Aside0.mk (below_step (by repeat (first | (with_reducible first | exact HB.out | apply below_alloc | apply pw_below_drewN | apply below_drew1) | exact HB.out)) hb); clear HB; have HB := n0_; clear n0_; (try clear hb); (try clear hb2); (try clear hk); (try clear hi))); try go_wp2_with (first | (go_at_call 35; (with_reducible refine (pyxlaw05_awake.calls kj3  t244 _ A12.out).mono ?_); rintro e w13 ⟨rfl, hb⟩; have n0_ := Aside0.mk (below_step (by repeat (first | (with_reducible first | exact HB.out | apply below_alloc | apply pw_below_drewN | apply below_drew1) | exact HB.out)) hb); clear HB; have HB := n0_; clear n0_; (try clear hb); (try clear hb2); (try clear hk); (try clear hi))))
        go_ret
        exact ⟨by first | rfl | (simp [errW_none, errW_some] <;> rfl) | (simp [*, errW_none, errW_some] <;> rfl), by repeat (first | (with_reducible first | exact HB.out | apply below_alloc | apply pw_below_drewN | apply below_drew1) | exact HB.out)⟩
      · replace c11 := Bool.eq_false_iff.mpr c11
        subst c11
        have H1 : ((bits_Pack.f kj3 (wrap64 (1 + (Int.tmod (wrap64 (a0)) 32))) l1).bind fun bt245 => (if bt245.2 = true then (if (wrap64 ((wrap64 (1 + (Int.tmod (wrap64 (a0)) 32))) * (l1.length : Int))) = 0 then (none) else ((bits_Bit.f bt245.1 (Int.tmod (wrap64 (a2)) (wrap64 ((wrap64 (1 + (Int.tmod (wrap64 (a0)) 32))) * (l1.length : Int))))).bind fun bt249 => ((bits_Bit.f bt245.1 (wrap64 (8 * (bt245.1.length : Int)))).bind fun bt251 => ((bits_Bit.f bt245.1 (wrap64 ((-1) - (Int.tmod (wrap64 (a2)) (wrap64 ((wrap64 (1 + (Int.tmod (wrap64 (a0)) 32))) * (l1.length : Int))))))).bind fun bt253 => (if bt249.2 = true then (if bt251.2 = true then (some false) else (if bt253.2 = true then (some false) else (if (wrap64 (1 + (Int.tmod (wrap64 (a0)) 32))) = 0 then (none) else (if 0 ≤ (wrap64 (Int.tdiv (Int.tmod (wrap64 (a2)) (wrap64 ((wrap64 (1 + (Int.tmod (wrap64 (a0)) 32))) * (l1.length : Int)))) (wrap64 (1 + (Int.tmod (wrap64 (a0)) 32))))) then (if (wrap64 (Int.tdiv (Int.tmod (wrap64 (a2)) (wrap64 ((wrap64 (1 + (Int.tmod (wrap64 (a0)) 32))) * (l1.length : Int)))) (wrap64 (1 + (Int.tmod (wrap64 (a0)) 32))))) < (l1.length : Int) then (if 0 ≤ (IntKind.u64.wrap (Int.tmod (Int.tmod (wrap64 (a2)) (wrap64 ((wrap64 (1 + (Int.tmod (wrap64 (a0)) 32))) * (l1.length : Int)))) (wrap64 (1 + (Int.tmod (wrap64 (a0)) 32))))) then (some (bt249.1 == (wrap64 (Go.bits .and .u32 (shr .u32 (rd l1 (wrap64 (Int.tdiv (Int.tmod (wrap64 (a2)) (wrap64 ((wrap64 (1 + (Int.tmod (wrap64 (a0)) 32))) * (l1.length : Int)))) (wrap64 (1 + (Int.tmod (wrap64 (a0)) 32)))))) (IntKind.u64.wrap (Int.tmod (Int.tmod (wrap64 (a2)) (wrap64 ((wrap64 (1 + (Int.tmod (wrap64 (a0)) 32))) * (l1.length : Int)))) (wrap64 (1 + (Int.tmod (wrap64 (a0)) 32)))))) 1)))) else (none)) else (none)) else (none))))) else (some false)))))) else (some true))) = some r := by rw [if_neg (show ¬ (false = true) by decide)] at H; exact H
        clear H
        have H := H1
        clear H1
        replace H := Option.bind_eq_some_iff.mp H
        obtain ⟨⟨t245, t246⟩, A140, H⟩ := H
        replace H : (if t246 = true then (if (wrap64 ((wrap64 (1 + (Int.tmod (wrap64 (a0)) 32))) * (l1.length : Int))) = 0 then (none) else ((bits_Bit.f t245 (Int.tmod (wrap64 (a2)) (wrap64 ((wrap64 (1 + (Int.tmod (wrap64 (a0)) 32))) * (l1.length : Int))))).bind fun bt249 => ((bits_Bit.f t245 (wrap64 (8 * (t245.length : Int)))).bind fun bt251 => ((bits_Bit.f t245 (wrap64 ((-1) - (Int.tmod (wrap64 (a2)) (wrap64 ((wrap64 (1 + (Int.tmod (wrap64 (a0)) 32))) * (l1.length : Int))))))).bind fun bt253 => (if bt249.2 = true then (if bt251.2 = true then (some false) else (if bt253.2 = true then (some false) else (if (wrap64 (1 + (Int.tmod (wrap64 (a0)) 32))) = 0 then (none) else (if 0 ≤ (wrap64 (Int.tdiv (Int.tmod (wrap64 (a2)) (wrap64 ((wrap64 (1 + (Int.tmod (wrap64 (a0)) 32))) * (l1.length : Int)))) (wrap64 (1 + (Int.tmod (wrap64 (a0)) 32))))) then (if (wrap64 (Int.tdiv (Int.tmod (wrap64 (a2)) (wrap64 ((wrap64 (1 + (Int.tmod (wrap64 (a0)) 32))) * (l1.length : Int)))) (wrap64 (1 + (Int.tmod (wrap64 (a0)) 32))))) < (l1.length : Int) then (if 0 ≤ (IntKind.u64.wrap (Int.tmod (Int.tmod (wrap64 (a2)) (wrap64 ((wrap64 (1 + (Int.tmod (wrap64 (a0)) 32))) * (l1.length : Int)))) (wrap64 (1 + (Int.tmod (wrap64 (a0)) 32))))) then (some (bt249.1 == (wrap64 (Go.bits .and .u32 (shr .u32 (rd l1 (wrap64 (Int.tdiv (Int.tmod (wrap64 (a2)) (wrap64 ((wrap64 (1 + (Int.tmod (wrap64 (a0)) 32))) * (l1.length : Int)))) (wrap64 (1 + (Int.tmod (wrap64 (a0)) 32)))))) (IntKind.u64.wrap (Int.tmod (Int.tmod (wrap64 (a2)) (wrap64 ((wrap64 (1 + (Int.tmod (wrap64 (a0)) 32))) * (l1.length : Int)))) (wrap64 (1 + (Int.tmod (wrap64 (a0)) 32)))))) 1)))) else (none)) else (none)) else (none))))) else (some false)))))) else (some true)) = some r := H
        have A14 := Aside0.mk A140
        clear A140
        by_cases c15 : t246 = true
        · subst c15
          have H1 : (if (wrap64 ((wrap64 (1 + (Int.tmod (wrap64 (a0)) 32))) * (l1.length : Int))) = 0 then (none) else ((bits_Bit.f t245 (Int.tmod (wrap64 (a2)) (wrap64 ((wrap64 (1 + (Int.tmod (wrap64 (a0)) 32))) * (l1.length : Int))))).bind fun bt249 => ((bits_Bit.f t245 (wrap64 (8 * (t245.length : Int)))).bind fun bt251 => ((bits_Bit.f t245 (wrap64 ((-1) - (Int.tmod (wrap64 (a2)) (wrap64 ((wrap64 (1 + (Int.tmod (wrap64 (a0)) 32))) * (l1.length : Int))))))).bind fun bt253 => (if bt249.2 = true then (if bt251.2 = true then (some false) else (if bt253.2 = true then (some false) else (if (wrap64 (1 + (Int.tmod (wrap64 (a0)) 32))) = 0 then (none) else (if 0 ≤ (wrap64 (Int.tdiv (Int.tmod (wrap64 (a2)) (wrap64 ((wrap64 (1 + (Int.tmod (wrap64 (a0)) 32))) * (l1.length : Int)))) (wrap64 (1 + (Int.tmod (wrap64 (a0)) 32))))) then (if (wrap64 (Int.tdiv (Int.tmod (wrap64 (a2)) (wrap64 ((wrap64 (1 + (Int.tmod (wrap64 (a0)) 32))) * (l1.length : Int)))) (wrap64 (1 + (Int.tmod (wrap64 (a0)) 32))))) < (l1.length : Int) then (if 0 ≤ (IntKind.u64.wrap (Int.tmod (Int.tmod (wrap64 (a2)) (wrap64 ((wrap64 (1 + (Int.tmod (wrap64 (a0)) 32))) * (l1.length : Int)))) (wrap64 (1 + (Int.tmod (wrap64 (a0)) 32))))) then (some (bt249.1 == (wrap64 (Go.bits .and .u32 (shr .u32 (rd l1 (wrap64 (Int.tdiv (Int.tmod (wrap64 (a2)) (wrap64 ((wrap64 (1 + (Int.tmod (wrap64 (a0)) 32))) * (l1.length : Int)))) (wrap64 (1 + (Int.tmod (wrap64 (a0)) 32)))))) (IntKind.u64.wrap (Int.tmod (Int.tmod (wrap64 (a2)) (wrap64 ((wrap64 (1 + (Int.tmod (wrap64 (a0)) 32))) * (l1.length : Int)))) (wrap64 (1 + (Int.tmod (wrap64 (a0)) 32)))))) 1)))) else (none)) else (none)) else (none))))) else (some false)))))) = some r := by rw [if_pos rfl] at H; exact H
          clear H
          have H := H1
          clear H1
          by_cases c16 : (wrap64 ((wrap64 (1 + (Int.tmod (wrap64 (a0)) 32))) * (l1.length : Int))) = 0
          · rw [if_pos c16] at H
            exact absurd H (by simp)
          · rw [if_neg c16] at H
            have c16b0 : ((wrap64 ((wrap64 (1 + (Int.tmod (wrap64 (a0)) 32))) * (l1.length : Int))) == 0) = false := beq_eq_false_iff_ne.mpr c16
            have c16b1 : ((wrap64 ((wrap64 (1 + (Int.tmod (wrap64 (a0)) 32))) * (l1.length : Int))) != 0) = true := bne_iff_ne.mpr c16
            replace H := Option.bind_eq_some_iff.mp H
            obtain ⟨⟨t249, t250⟩, A170, H⟩ := H
            replace H : ((bits_Bit.f t245 (wrap64 (8 * (t245.length : Int)))).bind fun bt251 => ((bits_Bit.f t245 (wrap64 ((-1) - (Int.tmod (wrap64 (a2)) (wrap64 ((wrap64 (1 + (Int.tmod (wrap64 (a0)) 32))) * (l1.length : Int))))))).bind fun bt253 => (if t250 = true then (if bt251.2 = true then (some false) else (if bt253.2 = true then (some false) else (if (wrap64 (1 + (Int.tmod (wrap64 (a0)) 32))) = 0 then (none) else (if 0 ≤ (wrap64 (Int.tdiv (Int.tmod (wrap64 (a2)) (wrap64 ((wrap64 (1 + (Int.tmod (wrap64 (a0)) 32))) * (l1.length : Int)))) (wrap64 (1 + (Int.tmod (wrap64 (a0)) 32))))) then (if (wrap64 (Int.tdiv (Int.tmod (wrap64 (a2)) (wrap64 ((wrap64 (1 + (Int.tmod (wrap64 (a0)) 32))) * (l1.length : Int)))) (wrap64 (1 + (Int.tmod (wrap64 (a0)) 32))))) < (l1.length : Int) then (if 0 ≤ (IntKind.u64.wrap (Int.tmod (Int.tmod (wrap64 (a2)) (wrap64 ((wrap64 (1 + (Int.tmod (wrap64 (a0)) 32))) * (l1.length : Int)))) (wrap64 (1 + (Int.tmod (wrap64 (a0)) 32))))) then (some (t249 == (wrap64 (Go.bits .and .u32 (shr .u32 (rd l1 (wrap64 (Int.tdiv (Int.tmod (wrap64 (a2)) (wrap64 ((wrap64 (1 + (Int.tmod (wrap64 (a0)) 32))) * (l1.length : Int)))) (wrap64 (1 + (Int.tmod (wrap64 (a0)) 32)))))) (IntKind.u64.wrap (Int.tmod (Int.tmod (wrap64 (a2)) (wrap64 ((wrap64 (1 + (Int.tmod (wrap64 (a0)) 32))) * (l1.length : Int)))) (wrap64 (1 + (Int.tmod (wrap64 (a0)) 32)))))) 1)))) else (none)) else (none)) else (none))))) else (some false)))) = some r := H
            have A17 := Aside0.mk A170
            clear A170
            replace H := Option.bind_eq_some_iff.mp H
            obtain ⟨⟨t251, t252⟩, A180, H⟩ := H
            replace H : ((bits_Bit.f t245 (wrap64 ((-1) - (Int.tmod (wrap64 (a2)) (wrap64 ((wrap64 (1 + (Int.tmod (wrap64 (a0)) 32))) * (l1.length : Int))))))).bind fun bt253 => (if t250 = true then (if t252 = true then (some false) else (if bt253.2 = true then (some false) else (if (wrap64 (1 + (Int.tmod (wrap64 (a0)) 32))) = 0 then (none) else (if 0 ≤ (wrap64 (Int.tdiv (Int.tmod (wrap64 (a2)) (wrap64 ((wrap64 (1 + (Int.tmod (wrap64 (a0)) 32))) * (l1.length : Int)))) (wrap64 (1 + (Int.tmod (wrap64 (a0)) 32))))) then (if (wrap64 (Int.tdiv (Int.tmod (wrap64 (a2)) (wrap64 ((wrap64 (1 + (Int.tmod (wrap64 (a0)) 32))) * (l1.length : Int)))) (wrap64 (1 + (Int.tmod (wrap64 (a0)) 32))))) < (l1.length : Int) then (if 0 ≤ (IntKind.u64.wrap (Int.tmod (Int.tmod (wrap64 (a2)) (wrap64 ((wrap64 (1 + (Int.tmod (wrap64 (a0)) 32))) * (l1.length : Int)))) (wrap64 (1 + (Int.tmod (wrap64 (a0)) 32))))) then (some (t249 == (wrap64 (Go.bits .and .u32 (shr .u32 (rd l1 (wrap64 (Int.tdiv (Int.tmod (wrap64 (a2)) (wrap64 ((wrap64 (1 + (Int.tmod (wrap64 (a0)) 32))) * (l1.length : Int)))) (wrap64 (1 + (Int.tmod (wrap64 (a0)) 32)))))) (IntKind.u64.wrap (Int.tmod (Int.tmod (wrap64 (a2)) (wrap64 ((wrap64 (1 + (Int.tmod (wrap64 (a0)) 32))) * (l1.length : Int)))) (wrap64 (1 + (Int.tmod (wrap64 (a0)) 32)))))) 1)))) else (none)) else (none)) else (none))))) else (some false))) = some r := H
            have A18 := Aside0.mk A180
            clear A180
            replace H := Option.bind_eq_some_iff.mp H
            obtain ⟨⟨t253, t254⟩, A190, H⟩ := H
            replace H : (if t250 = true then (if t252 = true then (some false) else (if t254 = true then (some false) else (if (wrap64 (1 + (Int.tmod (wrap64 (a0)) 32))) = 0 then (none) else (if 0 ≤ (wrap64 (Int.tdiv (Int.tmod (wrap64 (a2)) (wrap64 ((wrap64 (1 + (Int.tmod (wrap64 (a0)) 32))) * (l1.length : Int)))) (wrap64 (1 + (Int.tmod (wrap64 (a0)) 32))))) then (if (wrap64 (Int.tdiv (Int.tmod (wrap64 (a2)) (wrap64 ((wrap64 (1 + (Int.tmod (wrap64 (a0)) 32))) * (l1.length : Int)))) (wrap64 (1 + (Int.tmod (wrap64 (a0)) 32))))) < (l1.length : Int) then (if 0 ≤ (IntKind.u64.wrap (Int.tmod (Int.tmod (wrap64 (a2)) (wrap64 ((wrap64 (1 + (Int.tmod (wrap64 (a0)) 32))) * (l1.length : Int)))) (wrap64 (1 + (Int.tmod (wrap64 (a0)) 32))))) then (some (t249 == (wrap64 (Go.bits .and .u32 (shr .u32 (rd l1 (wrap64 (Int.tdiv (Int.tmod (wrap64 (a2)) (wrap64 ((wrap64 (1 + (Int.tmod (wrap64 (a0)) 32))) * (l1.length : Int)))) (wrap64 (1 + (Int.tmod (wrap64 (a0)) 32)))))) (IntKind.u64.wrap (Int.tmod (Int.tmod (wrap64 (a2)) (wrap64 ((wrap64 (1 + (Int.tmod (wrap64 (a0)) 32))) * (l1.length : Int)))) (wrap64 (1 + (Int.tmod (wrap64 (a0)) 32)))))) 1)))) else (none)) else (none)) else (none))))) else (some false)) = some r := H
            have A19 := Aside0.mk A190
            clear A190
            by_cases c20 : t250 = true
            · subst c20
              have H1 : (if t252 = true then (some false) else (if t254 = true then (some false) else (if (wrap64 (1 + (Int.tmod (wrap64 (a0)) 32))) = 0 then (none) else (if 0 ≤ (wrap64 (Int.tdiv (Int.tmod (wrap64 (a2)) (wrap64 ((wrap64 (1 + (Int.tmod (wrap64 (a0)) 32))) * (l1.length : Int)))) (wrap64 (1 + (Int.tmod (wrap64 (a0)) 32))))) then (if (wrap64 (Int.tdiv (Int.tmod (wrap64 (a2)) (wrap64 ((wrap64 (1 + (Int.tmod (wrap64 (a0)) 32))) * (l1.length : Int)))) (wrap64 (1 + (Int.tmod (wrap64 (a0)) 32))))) < (l1.length : Int) then (if 0 ≤ (IntKind.u64.wrap (Int.tmod (Int.tmod (wrap64 (a2)) (wrap64 ((wrap64 (1 + (Int.tmod (wrap64 (a0)) 32))) * (l1.length : Int)))) (wrap64 (1 + (Int.tmod (wrap64 (a0)) 32))))) then (some (t249 == (wrap64 (Go.bits .and .u32 (shr .u32 (rd l1 (wrap64 (Int.tdiv (Int.tmod (wrap64 (a2)) (wrap64 ((wrap64 (1 + (Int.tmod (wrap64 (a0)) 32))) * (l1.length : Int)))) (wrap64 (1 + (Int.tmod (wrap64 (a0)) 32)))))) (IntKind.u64.wrap (Int.tmod (Int.tmod (wrap64 (a2)) (wrap64 ((wrap64 (1 + (Int.tmod (wrap64 (a0)) 32))) * (l1.length : Int)))) (wrap64 (1 + (Int.tmod (wrap64 (a0)) 32)))))) 1)))) else (none)) else (none)) else (none))))) = some r := by rw [if_pos rfl] at H; exact H
              clear H
              have H := H1
              clear H1
              by_cases c21 : t252 = true
              · subst c21
                have H1 : (some false) = some r := by rw [if_pos rfl] at H; exact H
                clear H
                have H := H1
                clear H1
                exact absurd ((Option.some.inj H).trans HT.out) (by decide)
              · replace c21 := Bool.eq_false_iff.mpr c21
                subst c21
                have H1 : (if t254 = true then (some false) else (if (wrap64 (1 + (Int.tmod (wrap64 (a0)) 32))) = 0 then (none) else (if 0 ≤ (wrap64 (Int.tdiv (Int.tmod (wrap64 (a2)) (wrap64 ((wrap64 (1 + (Int.tmod (wrap64 (a0)) 32))) * (l1.length : Int)))) (wrap64 (1 + (Int.tmod (wrap64 (a0)) 32))))) then (if (wrap64 (Int.tdiv (Int.tmod (wrap64 (a2)) (wrap64 ((wrap64 (1 + (Int.tmod (wrap64 (a0)) 32))) * (l1.length : Int)))) (wrap64 (1 + (Int.tmod (wrap64 (a0)) 32))))) < (l1.length : Int) then (if 0 ≤ (IntKind.u64.wrap (Int.tmod (Int.tmod (wrap64 (a2)) (wrap64 ((wrap64 (1 + (Int.tmod (wrap64 (a0)) 32))) * (l1.length : Int)))) (wrap64 (1 + (Int.tmod (wrap64 (a0)) 32))))) then (some (t249 == (wrap64 (Go.bits .and .u32 (shr .u32 (rd l1 (wrap64 (Int.tdiv (Int.tmod (wrap64 (a2)) (wrap64 ((wrap64 (1 + (Int.tmod (wrap64 (a0)) 32))) * (l1.length : Int)))) (wrap64 (1 + (Int.tmod (wrap64 (a0)) 32)))))) (IntKind.u64.wrap (Int.tmod (Int.tmod (wrap64 (a2)) (wrap64 ((wrap64 (1 + (Int.tmod (wrap64 (a0)) 32))) * (l1.length : Int)))) (wrap64 (1 + (Int.tmod (wrap64 (a0)) 32)))))) 1)))) else (none)) else (none)) else (none)))) = some r := by rw [if_neg (show ¬ (false = true) by decide)] at H; exact H
                clear H
                have H := H1
                clear H1
                by_cases c22 : t254 = true
                · subst c22
                  have H1 : (some false) = some r := by rw [if_pos rfl] at H; exact H
                  clear H
                  have H := H1
                  clear H1
                  exact absurd ((Option.some.inj H).trans HT.out) (by decide)
                · replace c22 := Bool.eq_false_iff.mpr c22
                  subst c22
                  have H1 : (if (wrap64 (1 + (Int.tmod (wrap64 (a0)) 32))) = 0 then (none) else (if 0 ≤ (wrap64 (Int.tdiv (Int.tmod (wrap64 (a2)) (wrap64 ((wrap64 (1 + (Int.tmod (wrap64 (a0)) 32))) * (l1.length : Int)))) (wrap64 (1 + (Int.tmod (wrap64 (a0)) 32))))) then (if (wrap64 (Int.tdiv (Int.tmod (wrap64 (a2)) (wrap64 ((wrap64 (1 + (Int.tmod (wrap64 (a0)) 32))) * (l1.length : Int)))) (wrap64 (1 + (Int.tmod (wrap64 (a0)) 32))))) < (l1.length : Int) then (if 0 ≤ (IntKind.u64.wrap (Int.tmod (Int.tmod (wrap64 (a2)) (wrap64 ((wrap64 (1 + (Int.tmod (wrap64 (a0)) 32))) * (l1.length : Int)))) (wrap64 (1 + (Int.tmod (wrap64 (a0)) 32))))) then (some (t249 == (wrap64 (Go.bits .and .u32 (shr .u32 (rd l1 (wrap64 (Int.tdiv (Int.tmod (wrap64 (a2)) (wrap64 ((wrap64 (1 + (Int.tmod (wrap64 (a0)) 32))) * (l1.length : Int)))) (wrap64 (1 + (Int.tmod (wrap64 (a0)) 32)))))) (IntKind.u64.wrap (Int.tmod (Int.tmod (wrap64 (a2)) (wrap64 ((wrap64 (1 + (Int.tmod (wrap64 (a0)) 32))) * (l1.length : Int)))) (wrap64 (1 + (Int.tmod (wrap64 (a0)) 32)))))) 1)))) else (none)) else (none)) else (none))) = some r := by rw [if_neg (show ¬ (false = true) by decide)] at H; exact H
                  clear H
                  have H := H1
                  clear H1
                  by_cases c23 : (wrap64 (1 + (Int.tmod (wrap64 (a0)) 32))) = 0
                  · rw [if_pos c23] at H
                    exact absurd H (by simp)
                  · rw [if_neg c23] at H
                    have c23b0 : ((wrap64 (1 + (Int.tmod (wrap64 (a0)) 32))) == 0) = false := beq_eq_false_iff_ne.mpr c23
                    have c23b1 : ((wrap64 (1 + (Int.tmod (wrap64 (a0)) 32))) != 0) = true := bne_iff_ne.mpr c23
                    obtain ⟨ji24, hji24⟩ : ∃ j_ : Int, (wrap64 (Int.tdiv (Int.tmod (wrap64 (a2)) (wrap64 ((wrap64 (1 + (Int.tmod (wrap64 (a0)) 32))) * (l1.length : Int)))) (wrap64 (1 + (Int.tmod (wrap64 (a0)) 32))))) = j_ := ⟨_, rfl⟩
                    replace H : (if 0 ≤ (ji24) then (if (ji24) < (l1.length : Int) then (if 0 ≤ (IntKind.u64.wrap (Int.tmod (Int.tmod (wrap64 (a2)) (wrap64 ((wrap64 (1 + (Int.tmod (wrap64 (a0)) 32))) * (l1.length : Int)))) (wrap64 (1 + (Int.tmod (wrap64 (a0)) 32))))) then (some (t249 == (wrap64 (Go.bits .and .u32 (shr .u32 (rd l1 (ji24)) (IntKind.u64.wrap (Int.tmod (Int.tmod (wrap64 (a2)) (wrap64 ((wrap64 (1 + (Int.tmod (wrap64 (a0)) 32))) * (l1.length : Int)))) (wrap64 (1 + (Int.tmod (wrap64 (a0)) 32)))))) 1)))) else (none)) else (none)) else (none)) = some r := by first | (rw [hji24] at H; exact H) | (simp only [hji24] at H ⊢; exact H)
                    (try rw [hji24] at A14)
                    (try rw [hji24] at A17)
                    (try rw [hji24] at A18)
                    (try rw [hji24] at A19)
                    have hji24w : (IntKind.i64.wrap (Int.tdiv (Int.tmod (wrap64 (a2)) (wrap64 ((wrap64 (1 + (Int.tmod (wrap64 (a0)) 32))) * (l1.length : Int)))) (wrap64 (1 + (Int.tmod (wrap64 (a0)) 32))))) = ji24 := (i64_w _).trans hji24
                    by_cases c25 : 0 ≤ (ji24)
                    · rw [if_pos c25] at H
                      have c25b0 : decide (0 ≤ (ji24)) = true := decide_eq_true c25
                      clear c25
                      by_cases c26 : (ji24) < (l1.length : Int)
                      · rw [if_pos c26] at H
                        have c26b0 : decide ((ji24) < (l1.length : Int)) = true := decide_eq_true c26
                        clear c26
                        obtain ⟨ji27, hji27⟩ : ∃ j_ : Int, (IntKind.u64.wrap (Int.tmod (Int.tmod (wrap64 (a2)) (wrap64 ((wrap64 (1 + (Int.tmod (wrap64 (a0)) 32))) * (l1.length : Int)))) (wrap64 (1 + (Int.tmod (wrap64 (a0)) 32))))) = j_ := ⟨_, rfl⟩
                        replace H : (if 0 ≤ (ji27) then (some (t249 == (wrap64 (Go.bits .and .u32 (shr .u32 (rd l1 (ji24)) (ji27)) 1)))) else (none)) = some r := by first | (rw [hji27] at H; exact H) | (simp only [hji27] at H ⊢; exact H)
                        (try rw [hji27] at A14)
                        (try rw [hji27] at A17)
                        (try rw [hji27] at A18)
                        (try rw [hji27] at A19)
                        by_cases c28 : 0 ≤ (ji27)
                        · rw [if_pos c28] at H
                          have c28b0 := eq_true c28
                          have c28b1 : decide (0 ≤ (ji27)) = true := decide_eq_true c28
                          clear c28
                          obtain ⟨ji29, hji29⟩ : ∃ j_ : Int, (shr .u32 (rd l1 (ji24)) (ji27)) = j_ := ⟨_, rfl⟩
                          replace H : (some (t249 == (wrap64 (Go.bits .and .u32 (ji29) 1)))) = some r := by first | (rw [hji29] at H; exact H) | (simp only [hji29] at H ⊢; exact H)
                          (try rw [hji29] at A14)
                          (try rw [hji29] at A17)
                          (try rw [hji29] at A18)
                          (try rw [hji29] at A19)
                          have hji29_ : ((rd l1 (ji24)) / 2 ^ min (ji27).toNat 32) = ji29 := hji29
                          have hji29z : (ji27) ≤ 32 → ((rd l1 (ji24)) / 2 ^ (ji27).toNat) = ji29 := shr_small hji29
                          obtain rfl := Option.some.inj H
                          go_wp2_with (first | (go_at_call 36; (with_reducible refine (bits_Pack.calls kj3 (wrap64 (1 + (Int.tmod (wrap64 (a0)) 32))) _ _ l1 t245 true _ ?side1 ?side2 A14.out).mono ?_); (case side1 => repeat (first | exact (Kd.C_below HR1.out HB.out) | (with_reducible refine Kd.C_alloc ?_ _) | (with_reducible refine Kd.C_drewN ?_ _) | (with_reducible refine Kd.C_drew ?_))); (case side2 => exact HC1.out); rintro e w30 ⟨v247, rfl, ho0, hb⟩; have n0_ := Aside0.mk (Kd.R_lower ho0 (below_size (by repeat (first | (with_reducible first | exact HB.out | apply below_alloc | apply pw_below_drewN | apply below_drew1) | exact HB.out)))); have n1_ := Aside0.mk (below_step (by repeat (first | (with_reducible first | exact HB.out | apply below_alloc | apply pw_below_drewN | apply below_drew1) | exact HB.out)) hb); clear HB; have HO248 := n0_; have HB := n1_; clear n0_ n1_; (try clear hb); (try clear hb2); (try clear hk); (try clear hi); (try clear ho0); obtain ⟨Ao31, co31, eo31⟩ := Kd.R_slice HO248.out; subst eo31) | (go_at_call 43; (with_reducible refine (bits_Bit.calls _ _ t245 (Int.tmod (wrap64 (a2)) (wrap64 ((wrap64 (1 + (Int.tmod (wrap64 (a0)) 32))) * (l1.length : Int)))) t249 true _ ?side1 ?side2 A17.out).mono ?_); (case side1 => repeat (first | exact (Kd.R_reads' HO248.out).2.2 | (with_reducible refine Kd.C_alloc ?_ _) | (with_reducible refine Kd.C_drewN ?_ _) | (with_reducible refine Kd.C_drew ?_))); (case side2 => exact (Kd.R_reads' HO248.out).2.1); rintro e w' ⟨rfl, ⟨nd, rfl⟩⟩; (try first | exact ⟨rfl, _, World.drewN_drewN _ _ _⟩ | exact ⟨rfl, _, Eq.trans (World.drewN_drewN _ _ _) (congrArg (World.drewN _) (Nat.add_assoc _ _ _))⟩)) | (go_at_call 43; (with_reducible refine (bits_Bit.calls _ _ t245 (wrap64 (8 * (t245.length : Int))) t251 false _ ?side1 ?side2 A18.out).mono ?_); (case side1 => repeat (first | exact (Kd.R_reads' HO248.out).2.2 | (with_reducible refine Kd.C_alloc ?_ _) | (with_reducible refine Kd.C_drewN ?_ _) | (with_reducible refine Kd.C_drew ?_))); (case side2 => exact (Kd.R_reads' HO248.out).2.1); rintro e w' ⟨rfl, ⟨nd, rfl⟩⟩; (try first | exact ⟨rfl, _, World.drewN_drewN _ _ _⟩ | exact ⟨rfl, _, Eq.trans (World.drewN_drewN _ _ _) (congrArg (World.drewN _) (Nat.add_assoc _ _ _))⟩)) | (go_at_call 43; (with_reducible refine (bits_Bit.calls _ _ t245 (wrap64 ((-1) - (Int.tmod (wrap64 (a2)) (wrap64 ((wrap64 (1 + (Int.tmod (wrap64 (a0)) 32))) * (l1.length : Int)))))) t253 false _ ?side1 ?side2 A19.out).mono ?_); (case side1 => repeat (first | exact (Kd.R_reads' HO248.out).2.2 | (with_reducible refine Kd.C_alloc ?_ _) | (with_reducible refine Kd.C_drewN ?_ _) | (with_reducible refine Kd.C_drew ?_))); (case side2 => exact (Kd.R_reads' HO248.out).2.1); rintro e w' ⟨rfl, ⟨nd, rfl⟩⟩; (try first | exact ⟨rfl, _, World.drewN_drewN _ _ _⟩ | exact ⟨rfl, _, Eq.trans (World.drewN_drewN _ _ _) (congrArg (World.drewN _) (Nat.add_assoc _ _ _))⟩); have p255 : 0 ≤ ((ji24) : Int) := of_decide_eq_true (by first | (with_reducible assumption) | assumption); have q255 : (ji24) < (l1.length : Int) := of_decide_eq_true (by first | (with_reducible assumption) | assumption); obtain ⟨ad255, e255, hx255_0⟩ := Kd.at_int HR1.out (ji24) p255 q255; cases e255; replace hx255_0 := (HB.out.cell (World.block_lt_of_cell? w _ hx255_0)).trans hx255_0; replace p255 := eq_true p255; replace q255 := eq_true q255))
                          repeat (go_quiet (first | (go_at_call 36; (with_reducible refine (bits_Pack.calls kj3 (wrap64 (1 + (Int.tmod (wrap64 (a0)) 32))) _ _ l1 t245 true _ ?side1 ?side2 A14.out).mono ?_); (case side1 => repeat (first | exact (Kd.C_below HR1.out HB.out) | (with_reducible refine Kd.C_alloc ?_ _) | (with_reducible refine Kd.C_drewN ?_ _) | (with_reducible refine Kd.C_drew ?_))); (case side2 => exact HC1.out); rintro e w30 ⟨v247, rfl, ho0, hb⟩; have n0_ := Aside0.mk (Kd.R_lower ho0 (below_size (by repeat (first | (with_reducible first | exact HB.out | apply below_alloc | apply pw_below_drewN | apply below_drew1) | exact HB.out)))); have n1_ := Aside0.mk (below_step (by repeat (first | (with_reducible first | exact HB.out | apply below_alloc | apply pw_below_drewN | apply below_drew1) | exact HB.out)) hb); clear HB; have HO248 := n0_; have HB := n1_; clear n0_ n1_; (try clear hb); (try clear hb2); (try clear hk); (try clear hi); (try clear ho0); obtain ⟨Ao31, co31, eo31⟩ := Kd.R_slice HO248.out; subst eo31) | (go_at_call 43; (with_reducible refine (bits_Bit.calls _ _ t245 (Int.tmod (wrap64 (a2)) (wrap64 ((wrap64 (1 + (Int.tmod (wrap64 (a0)) 32))) * (l1.length : Int)))) t249 true _ ?side1 ?side2 A17.out).mono ?_); (case side1 => repeat (first | exact (Kd.R_reads' HO248.out).2.2 | (with_reducible refine Kd.C_alloc ?_ _) | (with_reducible refine Kd.C_drewN ?_ _) | (with_reducible refine Kd.C_drew ?_))); (case side2 => exact (Kd.R_reads' HO248.out).2.1); rintro e w' ⟨rfl, ⟨nd, rfl⟩⟩; (try first | exact ⟨rfl, _, World.drewN_drewN _ _ _⟩ | exact ⟨rfl, _, Eq.trans (World.drewN_drewN _ _ _) (congrArg (World.drewN _) (Nat.add_assoc _ _ _))⟩)) | (go_at_call 43; (with_reducible refine (bits_Bit.calls _ _ t245 (wrap64 (8 * (t245.length : Int))) t251 false _ ?side1 ?side2 A18.out).mono ?_); (case side1 => repeat (first | exact (Kd.R_reads' HO248.out).2.2 | (with_reducible refine Kd.C_alloc ?_ _) | (with_reducible refine Kd.C_drewN ?_ _) | (with_reducible refine Kd.C_drew ?_))); (case side2 => exact (Kd.R_reads' HO248.out).2.1); rintro e w' ⟨rfl, ⟨nd, rfl⟩⟩; (try first | exact ⟨rfl, _, World.drewN_drewN _ _ _⟩ | exact ⟨rfl, _, Eq.trans (World.drewN_drewN _ _ _) (congrArg (World.drewN _) (Nat.add_assoc _ _ _))⟩)) | (go_at_call 43; (with_reducible refine (bits_Bit.calls _ _ t245 (wrap64 ((-1) - (Int.tmod (wrap64 (a2)) (wrap64 ((wrap64 (1 + (Int.tmod (wrap64 (a0)) 32))) * (l1.length : Int)))))) t253 false _ ?side1 ?side2 A19.out).mono ?_); (case side1 => repeat (first | exact (Kd.R_reads' HO248.out).2.2 | (with_reducible refine Kd.C_alloc ?_ _) | (with_reducible refine Kd.C_drewN ?_ _) | (with_reducible refine Kd.C_drew ?_))); (case side2 => exact (Kd.R_reads' HO248.out).2.1); rintro e w' ⟨rfl, ⟨nd, rfl⟩⟩; (try first | exact ⟨rfl, _, World.drewN_drewN _ _ _⟩ | exact ⟨rfl, _, Eq.trans (World.drewN_drewN _ _ _) (congrArg (World.drewN _) (Nat.add_assoc _ _ _))⟩); have p255 : 0 ≤ ((ji24) : Int) := of_decide_eq_true (by first | (with_reducible assumption) | assumption); have q255 : (ji24) < (l1.length : Int) := of_decide_eq_true (by first | (with_reducible assumption) | assumption); obtain ⟨ad255, e255, hx255_0⟩ := Kd.at_int HR1.out (ji24) p255 q255; cases e255; replace hx255_0 := (HB.out.cell (World.block_lt_of_cell? w _ hx255_0)).trans hx255_0; replace p255 := eq_true p255; replace q255 := eq_true q255)); try go_wp2_with (first | (go_at_call 36; (with_reducible refine (bits_Pack.calls kj3 (wrap64 (1 + (Int.tmod (wrap64 (a0)) 32))) _ _ l1 t245 true _ ?side1 ?side2 A14.out).mono ?_); (case side1 => repeat (first | exact (Kd.C_below HR1.out HB.out) | (with_reducible refine Kd.C_alloc ?_ _) | (with_reducible refine Kd.C_drewN ?_ _) | (with_reducible refine Kd.C_drew ?_))); (case side2 => exact HC1.out); rintro e w30 ⟨v247, rfl, ho0, hb⟩; have n0_ := Aside0.mk (Kd.R_lower ho0 (below_size (by repeat (first | (with_reducible first | exact HB.out | apply below_alloc | apply pw_below_drewN | apply below_drew1) | exact HB.out)))); have n1_ := Aside0.mk (below_step (by repeat (first | (with_reducible first | exact HB.out | apply below_alloc | apply pw_below_drewN | apply below_drew1) | exact HB.out)) hb); clear HB; have HO248 := n0_; have HB := n1_; clear n0_ n1_; (try clear hb); (try clear hb2); (try clear hk); (try clear hi); (try clear ho0); obtain ⟨Ao31, co31, eo31⟩ := Kd.R_slice HO248.out; subst eo31) | (go_at_call 43; (with_reducible refine (bits_Bit.calls _ _ t245 (Int.tmod (wrap64 (a2)) (wrap64 ((wrap64 (1 + (Int.tmod (wrap64 (a0)) 32))) * (l1.length : Int)))) t249 true _ ?side1 ?side2 A17.out).mono ?_); (case side1 => repeat (first | exact (Kd.R_reads' HO248.out).2.2 | (with_reducible refine Kd.C_alloc ?_ _) | (with_reducible refine Kd.C_drewN ?_ _) | (with_reducible refine Kd.C_drew ?_))); (case side2 => exact (Kd.R_reads' HO248.out).2.1); rintro e w' ⟨rfl, ⟨nd, rfl⟩⟩; (try first | exact ⟨rfl, _, World.drewN_drewN _ _ _⟩ | exact ⟨rfl, _, Eq.trans (World.drewN_drewN _ _ _) (congrArg (World.drewN _) (Nat.add_assoc _ _ _))⟩)) | (go_at_call 43; (with_reducible refine (bits_Bit.calls _ _ t245 (wrap64 (8 * (t245.length : Int))) t251 false _ ?side1 ?side2 A18.out).mono ?_); (case side1 => repeat (first | exact (Kd.R_reads' HO248.out).2.2 | (with_reducible refine Kd.C_alloc ?_ _) | (with_reducible refine Kd.C_drewN ?_ _) | (with_reducible refine Kd.C_drew ?_))); (case side2 => exact (Kd.R_reads' HO248.out).2.1); rintro e w' ⟨rfl, ⟨nd, rfl⟩⟩; (try first | exact ⟨rfl, _, World.drewN_drewN _ _ _⟩ | exact ⟨rfl, _, Eq.trans (World.drewN_drewN _ _ _) (congrArg (World.drewN _) (Nat.add_assoc _ _ _))⟩)) | (go_at_call 43; (with_reducible refine (bits_Bit.calls _ _ t245 (wrap64 ((-1) - (Int.tmod (wrap64 (a2)) (wrap64 ((wrap64 (1 + (Int.tmod (wrap64 (a0)) 32))) * (l1.length : Int)))))) t253 false _ ?side1 ?side2 A19.out).mono ?_); (case side1 => repeat (first | exact (Kd.R_reads' HO248.out).2.2 | (with_reducible refine Kd.C_alloc ?_ _) | (with_reducible refine Kd.C_drewN ?_ _) | (with_reducible refine Kd.C_drew ?_))); (case side2 => exact (Kd.R_reads' HO248.out).2.1); rintro e w' ⟨rfl, ⟨nd, rfl⟩⟩; (try first | exact ⟨rfl, _, World.drewN_drewN _ _ _⟩ | exact ⟨rfl, _, Eq.trans (World.drewN_drewN _ _ _) (congrArg (World.drewN _) (Nat.add_assoc _ _ _))⟩); have p255 : 0 ≤ ((ji24) : Int) := of_decide_eq_true (by first | (with_reducible assumption) | assumption); have q255 : (ji24) < (l1.length : Int) := of_decide_eq_true (by first | (with_reducible assumption) | assumption); obtain ⟨ad255, e255, hx255_0⟩ := Kd.at_int HR1.out (ji24) p255 q255; cases e255; replace hx255_0 := (HB.out.cell (World.block_lt_of_cell? w _ hx255_0)).trans hx255_0; replace p255 := eq_true p255; replace q255 := eq_true q255)))
                          go_ret
                          exact ⟨by first | rfl | (simp [errW_none, errW_some] <;> rfl) | (simp only [← hji24, ← hji27, ← hji29]; first | rfl | (simp [errW_none, errW_some] <;> rfl)) | (simp [*, errW_none, errW_some] <;> rfl), by repeat (first | (with_reducible first | exact HB.out | apply below_alloc | apply pw_below_drewN | apply below_drew1) | exact HB.out)⟩
                        · rw [if_neg c28] at H
                          exact absurd H (by simp)
                      · rw [if_neg c26] at H
                        exact absurd H (by simp)
                    · rw [if_neg c25] at H
                      exact absurd H (by simp)
            · replace c20 := Bool.eq_false_iff.mpr c20
              subst c20
              have H1 : (some false) = some r := by rw [if_neg (show ¬ (false = true) by decide)] at H; exact H
              clear H
              have H := H1
              clear H1
              exact absurd ((Option.some.inj H).trans HT.out) (by decide)
        · replace c15 := Bool.eq_false_iff.mpr c15
          subst c15
          have H1 : (some true) = some r := by rw [if_neg (show ¬ (false = true) by decide)] at H; exact H
          clear H
          have H := H1
          clear H1
          obtain rfl := Option.some.inj H
          go_wp2_with (first | (go_at_call 36; (with_reducible refine (bits_Pack.calls kj3 (wrap64 (1 + (Int.tmod (wrap64 (a0)) 32))) _ _ l1 t245 false _ ?side1 ?side2 A14.out).mono ?_); (case side1 => repeat (first | exact (Kd.C_below HR1.out HB.out) | (with_reducible refine Kd.C_alloc ?_ _) | (with_reducible refine Kd.C_drewN ?_ _) | (with_reducible refine Kd.C_drew ?_))); (case side2 => exact HC1.out); rintro e w32 ⟨v247, rfl, ho0, hb⟩; have n0_ := Aside0.mk (Kd.R_lower ho0 (below_size (by repeat (first | (with_reducible first | exact HB.out | apply below_alloc | apply pw_below_drewN | apply below_drew1) | exact HB.out)))); have n1_ := Aside0.mk (below_step (by repeat (first | (with_reducible first | exact HB.out | apply below_alloc | apply pw_below_drewN | apply below_drew1) | exact HB.out)) hb); clear HB; have HO248 := n0_; have HB := n1_; clear n0_ n1_; (try clear hb); (try clear hb2); (try clear hk); (try clear hi); (try clear ho0)))
          repeat (go_quiet (first | (go_at_call 36; (with_reducible refine (bits_Pack.calls kj3 (wrap64 (1 + (Int.tmod (wrap64 (a0)) 32))) _ _ l1 t245 false _ ?side1 ?side2 A14.out).mono ?_); (case side1 => repeat (first | exact (Kd.C_below HR1.out HB.out) | (with_reducible refine Kd.C_alloc ?_ _) | (with_reducible refine Kd.C_drewN ?_ _) | (with_reducible refine Kd.C_drew ?_))); (case side2 => exact HC1.out); rintro e w32 ⟨v247, rfl, ho0, hb⟩; have n0_ := Aside0.mk (Kd.R_lower ho0 (below_size (by repeat (first | (with_reducible first | exact HB.out | apply below_alloc | apply pw_below_drewN | apply below_drew1) | exact HB.out)))); have n1_ := Aside0.mk (below_step (by repeat (first | (with_reducible first | exact HB.out | apply below_alloc | apply pw_below_drewN | apply below_drew1) | exact HB.out)) hb); clear HB; have HO248 := n0_; have HB := n1_; clear n0_ n1_; (try clear hb); (try clear hb2); (try clear hk); (try clear hi); (try clear ho0))); try go_wp2_with (first | (go_at_call 36; (with_reducible refine (bits_Pack.calls kj3 (wrap64 (1 + (Int.tmod (wrap64 (a0)) 32))) _ _ l1 t245 false _ ?side1 ?side2 A14.out).mono ?_); (case side1 => repeat (first | exact (Kd.C_below HR1.out HB.out) | (with_reducible refine Kd.C_alloc ?_ _) | (with_reducible refine Kd.C_drewN ?_ _) | (with_reducible refine Kd.C_drew ?_))); (case side2 => exact HC1.out); rintro e w32 ⟨v247, rfl, ho0, hb⟩; have n0_ := Aside0.mk (Kd.R_lower ho0 (below_size (by repeat (first | (with_reducible first | exact HB.out | apply below_alloc | apply pw_below_drewN | apply below_drew1) | exact HB.out)))); have n1_ := Aside0.mk (below_step (by repeat (first | (with_reducible first | exact HB.out | apply below_alloc | apply pw_below_drewN | apply below_drew1) | exact HB.out)) hb); clear HB; have HO248 := n0_; have HB := n1_; clear n0_ n1_; (try clear hb); (try clear hb2); (try clear hk); (try clear hi); (try clear ho0))))
          go_ret
          exact ⟨by first | rfl | (simp [errW_none, errW_some] <;> rfl) | (simp [*, errW_none, errW_some] <;> rfl), by repeat (first | (with_reducible first | exact HB.out | apply below_alloc | apply pw_below_drewN | apply below_drew1) | exact HB.out)⟩

/-- THE ONE PURE STATEMENT of pyxlaw05_BitsSingle: yours. -/
def pyxlaw05_BitsSingle.Pure : Prop := ∀ (a0 : Int) (l1 : List Int) (a2 : Int), (Lit.int .u8 a0).wf = true → l1.length ≤ maxLen → l1.length * 4 ≤ 140737488351232 → (∀ x ∈ l1, (Lit.int .u32 x).wf = true) → (Lit.int .u16 a2).wf = true → ∃ k, pyxlaw05_BitsSingle.f k a0 l1 a2 = some true
theorem pyxlaw05_BitsSingle.walk (P : pyxlaw05_BitsSingle.Pure) (a0 : Int) (a1 : Option Addr) (len1 cap1 : Nat) (z1 : List Int) (a2 : Int) (w : World) (w0 : (Lit.int .u8 a0).wf = true) (w1 : (a1 = none ∧ len1 = 0 ∧ cap1 = 0 ∧ z1 = []) ∨ ∃ x, a1 = some x ∧ len1 ≤ cap1 ∧ cap1 ≤ maxLen ∧ z1.length = cap1 ∧ (∀ i, i < z1.length → w.cell? (x.add i) = some (.int .u32 (z1.getD i 0))) ∧ ∀ n ∈ z1, (Lit.int .u32 n).wf = true) (y1 : len1 * 4 ≤ 140737488351232) (w2 : (Lit.int .u16 a2).wf = true) :
    Calls Try.prog 12 #[.int .u8 a0, .slice a1 len1 cap1, .int .u16 a2] w fun e w' => e = .returned (.bool true) ∧ Below w.heap.size w w' := by
  obtain ⟨l1, rfl, hr1, hm1, hw1, hc1⟩ := ReadsInt.ofRowC w1
  obtain ⟨k, h⟩ := P a0 l1 a2 w0 hm1 y1 hw1 w2
  refine (pyxlaw05_BitsSingle.calls k a0 _ _ l1 a2 true w (Kd.C_of_reads (d := (0 : Int)) (h1 := fun _ => rfl) hr1) hc1 h rfl).mono ?_
  rintro e w' ⟨rfl, hd⟩
  exact ⟨rfl, hd⟩

/-! ### pyxlaw05_BitsLeast: function 13 -/
def pyxlaw05_BitsLeast.j0 : Nat → Int → Int → Bool → Option (Bool)
  | 0, _, _, _ => none
  | k + 1, x0, x1, x15 => if x15 = true then (some false) else ((bits_Pack.f k x1 (([x0] : List Int))).bind fun bt262 => (if x1 ≥ 1 then (if x1 ≤ 32 then ((pyxref05_Least.f k x0).bind fun t266 => (some (bt262.2 == (decide (t266 ≤ x1))))) else (some (bt262.2 == false))) else (some (bt262.2 == false))))
def pyxlaw05_BitsLeast.f (k : Nat) (a0 : Int) (a1 : Int) : Option (Bool) := (pyxlaw05_awake.f k).bind fun t256 => (if t256 = true then ((bits_Least.f a0).bind fun t257 => ((pyxref05_Least.f k a0).bind fun t258 => (pyxlaw05_BitsLeast.j0 k a0 a1 (t257 != t258)))) else (pyxlaw05_BitsLeast.j0 k a0 a1 true))
theorem pyxlaw05_BitsLeast.mono_l : ∀ k, (∀ y0 y1 y2, LeO (pyxlaw05_BitsLeast.j0 k y0 y1 y2) (pyxlaw05_BitsLeast.j0 (k + 1) y0 y1 y2))
  | 0 => fun _ _ _ r h => by simp [pyxlaw05_BitsLeast.j0] at h
  | k + 1 => by
    have ih0 := pyxlaw05_BitsLeast.mono_l k
    · intro y0 y1 y2
      unfold pyxlaw05_BitsLeast.j0
      repeat' first
      | (with_reducible exact ih0 _ _ _)
      | (with_reducible exact bits_Pack.mono _ _ _)
      | (with_reducible exact pyxlaw05_awake.mono _)
      | (with_reducible exact pyxref05_Least.mono _ _)
      | (with_reducible exact LeO.refl _)
      | (with_reducible exact LeO.none _)
      | (with_reducible refine LeO.ite ?_ ?_)
      | (with_reducible refine LeO.bind ?_ (fun _ => ?_))
      | exact ih0 _ _ _
      | exact bits_Pack.mono _ _ _
      | exact pyxlaw05_awake.mono _
      | exact pyxref05_Least.mono _ _
      | exact LeO.none _
      | refine LeO.ite ?_ ?_
      | refine LeO.bind ?_ (fun _ => ?_)
theorem pyxlaw05_BitsLeast.mono : ∀ a0 a1 k, LeO (pyxlaw05_BitsLeast.f k a0 a1) (pyxlaw05_BitsLeast.f (k + 1) a0 a1) := by
  intro a0 a1 k
  have ih0 := pyxlaw05_BitsLeast.mono_l k
  unfold pyxlaw05_BitsLeast.f
  repeat' first
      | (with_reducible exact ih0 _ _ _)
      | (with_reducible exact bits_Pack.mono _ _ _)
      | (with_reducible exact pyxlaw05_awake.mono _)
      | (with_reducible exact pyxref05_Least.mono _ _)
      | (with_reducible exact LeO.refl _)
      | (with_reducible exact LeO.none _)
      | (with_reducible refine LeO.ite ?_ ?_)
      | (with_reducible refine LeO.bind ?_ (fun _ => ?_))
      | exact ih0 _ _ _
      | exact bits_Pack.mono _ _ _
      | exact pyxlaw05_awake.mono _
      | exact pyxref05_Least.mono _ _
      | exact LeO.none _
      | refine LeO.ite ?_ ?_
      | refine LeO.bind ?_ (fun _ => ?_)
set_option maxHeartbeats 8000000 in
set_option maxRecDepth 100000 in
theorem pyxlaw05_BitsLeast.calls (k : Nat) (a0 : Int) (a1 : Int) (r : Bool) (w : World) (h : pyxlaw05_BitsLeast.f k a0 a1 = some r) (hr_ : r = true) :
    Calls Try.prog 13 #[.int .u32 a0, .int .i64 a1] w fun e w' => e = .returned (.bool r) ∧ Below w.heap.size w w' := by
  have HT := Aside0.mk hr_
  clear hr_
  have HB := Aside0.mk (Below.refl w.heap.size w)
  have H : ((pyxlaw05_awake.f k).bind fun t256 => (if t256 = true then ((bits_Least.f a0).bind fun t257 => ((pyxref05_Least.f k a0).bind fun t258 => (pyxlaw05_BitsLeast.j0 k a0 a1 (t257 != t258)))) else (pyxlaw05_BitsLeast.j0 k a0 a1 true))) = some r := h
  clear h
  have HC3 := Aside0.mk H
  clear H
  go_enter Try.func13, Try.ntmps13
  go_upto_region 1 with (fail)
  go_cut [15] (fun v15 wc => ∃ (kq : Nat) (x15_2 : Bool), v15 = .bool x15_2 ∧ Aside0 (pyxlaw05_BitsLeast.j0 kq a0 a1 x15_2 = some r) ∧ Aside0 (kq ≤ k) ∧ Aside0 (Below w.heap.size w wc))
  case first =>
    have H := HC3.out
    clear HC3
    replace H := Option.bind_eq_some_iff.mp H
    obtain ⟨t256, A40, H⟩ := H
    replace H : (if t256 = true then ((bits_Least.f a0).bind fun t257 => ((pyxref05_Least.f k a0).bind fun t258 => (pyxlaw05_BitsLeast.j0 k a0 a1 (t257 != t258)))) else (pyxlaw05_BitsLeast.j0 k a0 a1 true)) = some r := H
    have A4 := Aside0.mk A40
    clear A40
    by_cases c5 : t256 = true
    · subst c5
      have H1 : ((bits_Least.f a0).bind fun t257 => ((pyxref05_Least.f k a0).bind fun t258 => (pyxlaw05_BitsLeast.j0 k a0 a1 (t257 != t258)))) = some r := by rw [if_pos rfl] at H; exact H
      clear H
      have H := H1
      clear H1
      replace H := Option.bind_eq_some_iff.mp H
      obtain ⟨t257, A60, H⟩ := H
      replace H : ((pyxref05_Least.f k a0).bind fun t258 => (pyxlaw05_BitsLeast.j0 k a0 a1 (t257 != t258))) = some r := H
      have A6 := Aside0.mk A60
      clear A60
      replace H := Option.bind_eq_some_iff.mp H
      obtain ⟨t258, A70, H⟩ := H
      replace H : (pyxlaw05_BitsLeast.j0 k a0 a1 (t257 != t258)) = some r := H
      have A7 := Aside0.mk A70
      clear A70
      have H' := Aside0.mk H
      clear H
      go_wp2_with (first | ((with_reducible refine gate_callee (f := 35) rfl ?_); refine goesL_ (some 7) rfl rfl Try.func35 (by kernel_rfl) rfl #[] rfl (by (try simp only [List.map_toArray, List.map_cons, List.map_nil]); first | done | rfl | (simp only [List.length_drop, List.length_take]; rfl)) ?_; (with_reducible refine (pyxlaw05_awake.calls k  true _ A4.out).mono ?_); rintro e w8 ⟨rfl, hb⟩; refine ⟨_, rfl, ?_⟩; have n0_ := Aside0.mk (below_step (by repeat (first | (with_reducible first | exact HB.out | apply below_alloc | apply pw_below_drewN | apply below_drew1) | exact HB.out)) hb); clear HB; have HB := n0_; clear n0_; (try clear hb); (try clear hb2); (try clear hk); (try clear hi)) | (go_at_call 44; (with_reducible refine (bits_Least.calls a0 t257 _ A6.out).mono ?_); rintro e w' ⟨rfl, ⟨nd, rfl⟩⟩) | (go_at_call 45; (with_reducible refine (pyxref05_Least.calls k a0 t258 _ A7.out).mono ?_); rintro e w' ⟨rfl, ⟨nd, rfl⟩⟩))
      go_meet
      case rel => exact ⟨_, ((t257 != t258)), (by first | rfl | (simp; done) | (simp [*]; done)), H', ⟨by first | omega | exact Nat.le_refl _⟩, ⟨by repeat (first | (with_reducible first | exact HB.out | apply below_alloc | apply pw_below_drewN | apply below_drew1) | exact HB.out)⟩⟩
    · replace c5 := Bool.eq_false_iff.mpr c5
      subst c5
      have H1 : (pyxlaw05_BitsLeast.j0 k a0 a1 true) = some r := by rw [if_neg (show ¬ (false = true) by decide)] at H; exact H
      clear H
      have H := H1
      clear H1
      have H' := Aside0.mk H
      clear H
      go_wp2_with (first | ((with_reducible refine gate_callee (f := 35) rfl ?_); refine goesL_ (some 7) rfl rfl Try.func35 (by kernel_rfl) rfl #[] rfl (by (try simp only [List.map_toArray, List.map_cons, List.map_nil]); first | done | rfl | (simp only [List.length_drop, List.length_take]; rfl)) ?_; (with_reducible refine (pyxlaw05_awake.calls k  false _ A4.out).mono ?_); rintro e w9 ⟨rfl, hb⟩; refine ⟨_, rfl, ?_⟩; have n0_ := Aside0.mk (below_step (by repeat (first | (with_reducible first | exact HB.out | apply below_alloc | apply pw_below_drewN | apply below_drew1) | exact HB.out)) hb); clear HB; have HB := n0_; clear n0_; (try clear hb); (try clear hb2); (try clear hk); (try clear hi)))
      go_meet
      case rel => exact ⟨_, (true), (by first | rfl | (simp; done) | (simp [*]; done)), H', ⟨by first | omega | exact Nat.le_refl _⟩, ⟨by repeat (first | (with_reducible first | exact HB.out | apply below_alloc | apply pw_below_drewN | apply below_drew1) | exact HB.out)⟩⟩
  case rest =>
    clear HC3
    try clear c1
    try clear p2
    try clear c3
    try clear c5
    obtain ⟨kq, x15_2, rfl, HA, HJ2, HB⟩ := hcut
    cases kq with
    | zero => exact absurd HA.out (by simp [pyxlaw05_BitsLeast.j0])
    | succ kj2 =>
      have H := HA.out
      clear HA
      simp only [pyxlaw05_BitsLeast.j0] at H
      by_cases c10 : x15_2 = true
      · subst c10
        have H1 : (some false) = some r := by rw [if_pos rfl] at H; exact H
        clear H
        have H := H1
        clear H1
        exact absurd ((Option.some.inj H).trans HT.out) (by decide)
      · replace c10 := Bool.eq_false_iff.mpr c10
        subst c10
        have H1 : ((bits_Pack.f kj2 a1 (([a0] : List Int))).bind fun bt262 => (if a1 ≥ 1 then (if a1 ≤ 32 then ((pyxref05_Least.f kj2 a0).bind fun t266 => (some (bt262.2 == (decide (t266 ≤ a1))))) else (some (bt262.2 == false))) else (some (bt262.2 == false)))) = some r := by rw [if_neg (show ¬ (false = true) by decide)] at H; exact H
        clear H
        have H := H1
        clear H1
        obtain ⟨y259, hy259⟩ : ∃ y_ : List Int, y_ = (([a0] : List Int)) := ⟨_, rfl⟩
        replace H : ((bits_Pack.f kj2 a1 y259).bind fun bt262 => (if a1 ≥ 1 then (if a1 ≤ 32 then ((pyxref05_Least.f kj2 a0).bind fun t266 => (some (bt262.2 == (decide (t266 ≤ a1))))) else (some (bt262.2 == false))) else (some (bt262.2 == false)))) = some r := by first | (rw [hy259]; with_reducible exact H) | (have H2_ := (Option.bind_some _ _).symm.trans H; rw [hy259]; with_reducible exact H2_) | (have H2_ := (Option.bind_some _ _).symm.trans H; with_reducible exact H2_) | with_reducible exact H | (rw [hy259]; exact H) | exact H
        have Ny259 := Aside0.mk hy259
        clear hy259
        replace H := Option.bind_eq_some_iff.mp H
        obtain ⟨⟨t262, t263⟩, A110, H⟩ := H
        replace H : (if a1 ≥ 1 then (if a1 ≤ 32 then ((pyxref05_Least.f kj2 a0).bind fun t266 => (some (t263 == (decide (t266 ≤ a1))))) else (some (t263 == false))) else (some (t263 == false))) = some r := H
        have A11 := Aside0.mk A110
        clear A110
        by_cases c12 : a1 ≥ 1
        · rw [if_pos c12] at H
          have c12b0 : decide (1 ≤ a1) = true := decide_eq_true c12
          clear c12
          by_cases c13 : a1 ≤ 32
          · rw [if_pos c13] at H
            have c13b0 : decide (a1 ≤ 32) = true := decide_eq_true c13
            clear c13
            replace H := Option.bind_eq_some_iff.mp H
            obtain ⟨t266, A140, H⟩ := H
            replace H : (some (t263 == (decide (t266 ≤ a1)))) = some r := H
            have A14 := Aside0.mk A140
            clear A140
            obtain rfl := Option.some.inj H
            go_wp2_with (first | ((with_reducible refine gate_dst (N := 19) rfl ?_); refine Kd.R_lit (Kd.int .u32) _ 34 ?hg (N := 19) ?hd (xs := ([a0] : List Int)) (inner := [.int .u32 a0]) (ok := fun _ => True) (okp := fun _ => True) ?hr ?hp (fun _ hk => hk) trivial (Below.refl _ _) (Nat.le_refl _) (by simp) ?_; (case hd => rfl); (case hg => rfl); (case hr => first | (go_simp; done) | (go_simp; rfl)); (case hp => exact (Reps.one (show Kd.M (Kd.int .u32) _ _ _ a0 [.int .u32 a0] from rfl) (Reps.none _ _))); intro v260 w15 ho16 hb hg_ hnew_; clear hg_ hnew_; (first | rw [← Ny259.out] at ho16 | (simp only [Int.reduceToNat] at ho16; rw [← Ny259.out] at ho16)); have n0_ := Aside0.mk (Kd.R_lower ho16 (below_size (by repeat (first | (with_reducible first | exact HB.out | apply below_alloc | apply pw_below_drewN | apply below_drew1) | exact HB.out)))); have n1_ := Aside0.mk (below_step (by repeat (first | (with_reducible first | exact HB.out | apply below_alloc | apply pw_below_drewN | apply below_drew1) | exact HB.out)) hb); clear HB; have HO261 := n0_; have HB := n1_; clear n0_ n1_; clear hb ho16; obtain ⟨Ao17, co17, eo17⟩ := Kd.R_slice HO261.out; subst eo17) | ((with_reducible refine gate_callee (f := 36) rfl ?_); refine goesL_ (some 20) rfl rfl Try.func36 (by kernel_rfl) rfl #[.int .i64 a1, .slice Ao17 y259.length co17] rfl (by (try simp only [List.map_toArray, List.map_cons, List.map_nil]); first | done | rfl | (simp only [List.length_drop, List.length_take]; rfl)) ?_; (with_reducible refine (bits_Pack.calls kj2 a1 _ _ y259 t262 t263 _ ?side1 ?side2 A11.out).mono ?_); (case side1 => repeat (first | exact (Kd.R_reads' HO261.out).2.2 | (with_reducible refine Kd.C_alloc ?_ _) | (with_reducible refine Kd.C_drewN ?_ _) | (with_reducible refine Kd.C_drew ?_))); (case side2 => exact (Kd.R_reads' HO261.out).2.1); rintro e w18 ⟨v264, rfl, ho0, hb⟩; refine ⟨_, rfl, ?_⟩; have n0_ := Aside0.mk (Kd.R_below (by (with_reducible repeat (first | apply Kd.R_alloc | apply Kd.R_drewN | apply Kd.R_drew)); exact HO261.out) hb); have n1_ := Aside0.mk (Kd.R_lower ho0 (below_size (by repeat (first | (with_reducible first | exact HB.out | apply below_alloc | apply pw_below_drewN | apply below_drew1) | exact HB.out)))); have n2_ := Aside0.mk (below_step (by repeat (first | (with_reducible first | exact HB.out | apply below_alloc | apply pw_below_drewN | apply below_drew1) | exact HB.out)) hb); clear HO261; clear HB; have HO261 := n0_; have HO265 := n1_; have HB := n2_; clear n0_ n1_ n2_; (try clear hb); (try clear hb2); (try clear hk); (try clear hi); (try clear ho0)) | (go_at_call 45; (with_reducible refine (pyxref05_Least.calls kj2 a0 t266 _ A14.out).mono ?_); rintro e w' ⟨rfl, ⟨nd, rfl⟩⟩))
            go_ret
            exact ⟨by first | rfl | (simp [errW_none, errW_some] <;> rfl) | (simp [*, errW_none, errW_some] <;> rfl), by repeat (first | (with_reducible first | exact HB.out | apply below_alloc | apply pw_below_drewN | apply below_drew1) | exact HB.out)⟩
          · rw [if_neg c13] at H
            have c13b0 : decide (a1 ≤ 32) = false := decide_eq_false c13
            clear c13
            obtain rfl := Option.some.inj H
            go_wp2_with (first | ((with_reducible refine gate_dst (N := 19) rfl ?_); refine Kd.R_lit (Kd.int .u32) _ 34 ?hg (N := 19) ?hd (xs := ([a0] : List Int)) (inner := [.int .u32 a0]) (ok := fun _ => True) (okp := fun _ => True) ?hr ?hp (fun _ hk => hk) trivial (Below.refl _ _) (Nat.le_refl _) (by simp) ?_; (case hd => rfl); (case hg => rfl); (case hr => first | (go_simp; done) | (go_simp; rfl)); (case hp => exact (Reps.one (show Kd.M (Kd.int .u32) _ _ _ a0 [.int .u32 a0] from rfl) (Reps.none _ _))); intro v260 w19 ho20 hb hg_ hnew_; clear hg_ hnew_; (first | rw [← Ny259.out] at ho20 | (simp only [Int.reduceToNat] at ho20; rw [← Ny259.out] at ho20)); have n0_ := Aside0.mk (Kd.R_lower ho20 (below_size (by repeat (first | (with_reducible first | exact HB.out | apply below_alloc | apply pw_below_drewN | apply below_drew1) | exact HB.out)))); have n1_ := Aside0.mk (below_step (by repeat (first | (with_reducible first | exact HB.out | apply below_alloc | apply pw_below_drewN | apply below_drew1) | exact HB.out)) hb); clear HB; have HO261 := n0_; have HB := n1_; clear n0_ n1_; clear hb ho20; obtain ⟨Ao21, co21, eo21⟩ := Kd.R_slice HO261.out; subst eo21) | ((with_reducible refine gate_callee (f := 36) rfl ?_); refine goesL_ (some 20) rfl rfl Try.func36 (by kernel_rfl) rfl #[.int .i64 a1, .slice Ao21 y259.length co21] rfl (by (try simp only [List.map_toArray, List.map_cons, List.map_nil]); first | done | rfl | (simp only [List.length_drop, List.length_take]; rfl)) ?_; (with_reducible refine (bits_Pack.calls kj2 a1 _ _ y259 t262 t263 _ ?side1 ?side2 A11.out).mono ?_); (case side1 => repeat (first | exact (Kd.R_reads' HO261.out).2.2 | (with_reducible refine Kd.C_alloc ?_ _) | (with_reducible refine Kd.C_drewN ?_ _) | (with_reducible refine Kd.C_drew ?_))); (case side2 => exact (Kd.R_reads' HO261.out).2.1); rintro e w22 ⟨v264, rfl, ho0, hb⟩; refine ⟨_, rfl, ?_⟩; have n0_ := Aside0.mk (Kd.R_below (by (with_reducible repeat (first | apply Kd.R_alloc | apply Kd.R_drewN | apply Kd.R_drew)); exact HO261.out) hb); have n1_ := Aside0.mk (Kd.R_lower ho0 (below_size (by repeat (first | (with_reducible first | exact HB.out | apply below_alloc | apply pw_below_drewN | apply below_drew1) | exact HB.out)))); have n2_ := Aside0.mk (below_step (by repeat (first | (with_reducible first | exact HB.out | apply below_alloc | apply pw_below_drewN | apply below_drew1) | exact HB.out)) hb); clear HO261; clear HB; have HO261 := n0_; have HO265 := n1_; have HB := n2_; clear n0_ n1_ n2_; (try clear hb); (try clear hb2); (try clear hk); (try clear hi); (try clear ho0)))
            go_ret
            exact ⟨by first | rfl | (simp [errW_none, errW_some] <;> rfl) | (simp [*, errW_none, errW_some] <;> rfl), by repeat (first | (with_reducible first | exact HB.out | apply below_alloc | apply pw_below_drewN | apply below_drew1) | exact HB.out)⟩
        · rw [if_neg c12] at H
          have c12b0 : decide (1 ≤ a1) = false := decide_eq_false c12
          clear c12
          obtain rfl := Option.some.inj H
          go_wp2_with (first | ((with_reducible refine gate_dst (N := 19) rfl ?_); refine Kd.R_lit (Kd.int .u32) _ 34 ?hg (N := 19) ?hd (xs := ([a0] : List Int)) (inner := [.int .u32 a0]) (ok := fun _ => True) (okp := fun _ => True) ?hr ?hp (fun _ hk => hk) trivial (Below.refl _ _) (Nat.le_refl _) (by simp) ?_; (case hd => rfl); (case hg => rfl); (case hr => first | (go_simp; done) | (go_simp; rfl)); (case hp => exact (Reps.one (show Kd.M (Kd.int .u32) _ _ _ a0 [.int .u32 a0] from rfl) (Reps.none _ _))); intro v260 w23 ho24 hb hg_ hnew_; clear hg_ hnew_; (first | rw [← Ny259.out] at ho24 | (simp only [Int.reduceToNat] at ho24; rw [← Ny259.out] at ho24)); have n0_ := Aside0.mk (Kd.R_lower ho24 (below_size (by repeat (first | (with_reducible first | exact HB.out | apply below_alloc | apply pw_below_drewN | apply below_drew1) | exact HB.out)))); have n1_ := Aside0.mk (below_step (by repeat (first | (with_reducible first | exact HB.out | apply below_alloc | apply pw_below_drewN | apply below_drew1) | exact HB.out)) hb); clear HB; have HO261 := n0_; have HB := n1_; clear n0_ n1_; clear hb ho24; obtain ⟨Ao25, co25, eo25⟩ := Kd.R_slice HO261.out; subst eo25) | ((with_reducible refine gate_callee (f := 36) rfl ?_); refine goesL_ (some 20) rfl rfl Try.func36 (by kernel_rfl) rfl #[.int .i64 a1, .slice Ao25 y259.length co25] rfl (by (try simp only [List.map_toArray, List.map_cons, List.map_nil]); first | done | rfl | (simp only [List.length_drop, List.length_take]; rfl)) ?_; (with_reducible refine (bits_Pack.calls kj2 a1 _ _ y259 t262 t263 _ ?side1 ?side2 A11.out).mono ?_); (case side1 => repeat (first | exact (Kd.R_reads' HO261.out).2.2 | (with_reducible refine Kd.C_alloc ?_ _) | (with_reducible refine Kd.C_drewN ?_ _) | (with_reducible refine Kd.C_drew ?_))); (case side2 => exact (Kd.R_reads' HO261.out).2.1); rintro e w26 ⟨v264, rfl, ho0, hb⟩; refine ⟨_, rfl, ?_⟩; have n0_ := Aside0.mk (Kd.R_below (by (with_reducible repeat (first | apply Kd.R_alloc | apply Kd.R_drewN | apply Kd.R_drew)); exact HO261.out) hb); have n1_ := Aside0.mk (Kd.R_lower ho0 (below_size (by repeat (first | (with_reducible first | exact HB.out | apply below_alloc | apply pw_below_drewN | apply below_drew1) | exact HB.out)))); have n2_ := Aside0.mk (below_step (by repeat (first | (with_reducible first | exact HB.out | apply below_alloc | apply pw_below_drewN | apply below_drew1) | exact HB.out)) hb); clear HO261; clear HB; have HO261 := n0_; have HO265 := n1_; have HB := n2_; clear n0_ n1_ n2_; (try clear hb); (try clear hb2); (try clear hk); (try clear hi); (try clear ho0)))
          go_ret
          exact ⟨by first | rfl | (simp [errW_none, errW_some] <;> rfl) | (simp [*, errW_none, errW_some] <;> rfl), by repeat (first | (with_reducible first | exact HB.out | apply below_alloc | apply pw_below_drewN | apply below_drew1) | exact HB.out)⟩

/-- THE ONE PURE STATEMENT of pyxlaw05_BitsLeast: yours. -/
def pyxlaw05_BitsLeast.Pure : Prop := ∀ (a0 : Int) (a1 : Int), (Lit.int .u32 a0).wf = true → (Lit.int .i64 a1).wf = true → ∃ k, pyxlaw05_BitsLeast.f k a0 a1 = some true
theorem pyxlaw05_BitsLeast.walk (P : pyxlaw05_BitsLeast.Pure) (a0 : Int) (a1 : Int) (w : World) (w0 : (Lit.int .u32 a0).wf = true) (w1 : (Lit.int .i64 a1).wf = true) :
    Calls Try.prog 13 #[.int .u32 a0, .int .i64 a1] w fun e w' => e = .returned (.bool true) ∧ Below w.heap.size w w' := by
  obtain ⟨k, h⟩ := P a0 a1 w0 w1
  refine (pyxlaw05_BitsLeast.calls k a0 a1 true w h rfl).mono ?_
  rintro e w' ⟨rfl, hd⟩
  exact ⟨rfl, hd⟩

end Go.Proofs.Ytifejkgppdjeoaa.PBits
