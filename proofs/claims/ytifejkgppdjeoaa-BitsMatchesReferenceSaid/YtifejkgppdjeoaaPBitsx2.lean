-- Written by a program: a copy of the kit's print, turned by this session (wip/xprint).
import Derived.Test.YtifejkgppdjeoaaPBitsx0
import Derived.Test.YtifejkgppdjeoaaPBitsx1
namespace Go.Proofs.Ytifejkgppdjeoaa.PBits
open Go.RowKit Go.Proofs.YtifejkgppdjeoaaW.PrintWords Go.Proofs.YtifejkgppdjeoaaW.PrintLast Go.Proofs.YtifejkgppdjeoaaW.PrintMore
attribute [local go_sem] max2_int min2_int max_two min_two max_three min_three max_four min_four   -- for this text's walks alone
set_option linter.unusedVariables false
set_option linter.unusedSimpArgs false

/-! ### bits_Unpack: function 38 -/
mutual
def bits_Unpack.j0 : Nat → Int → Int → List Int → Bool → Option (List Int × Bool)
  | 0, _, _, _, _ => none
  | k + 1, x0, x1, x2, x33 => if x33 = true then (some (([] : List Int), false)) else (if 0 ≤ x1 then (if (x1 : Int).toNat ≤ 70368744177664 then (bits_Unpack.l0 k x0 x2 (List.replicate (x1 : Int).toNat 0) 0 0 x1 0) else (none)) else (none))
def bits_Unpack.l0 : Nat → Int → List Int → List Int → Int → Int → Int → Int → Option (List Int × Bool)
  | 0, _, _, _, _, _, _, _ => none
  | k + 1, x0, x2, x8, x9, x10, x36, x37 => if x37 < x36 then (bits_Unpack.l1 k x0 x2 x8 x9 x10 x37 x36 x37) else (if x9 = 0 then (some (x8, true)) else (some (([] : List Int), false)))
def bits_Unpack.l1 : Nat → Int → List Int → List Int → Int → Int → Int → Int → Int → Option (List Int × Bool)
  | 0, _, _, _, _, _, _, _, _ => none
  | k + 1, x0, x2, x8, x9, x10, x11, x36, x37 => if x10 < x0 then (if 0 < (x2.length : Int) then (if 0 ≤ x10 then (if 1 ≤ (x2.length : Int) then (bits_Unpack.l1 k x0 (x2.drop 1) x8 (Go.bits .or .u64 x9 (shl .u64 (IntKind.u64.wrap (rd x2 0)) x10)) (wrap64 (x10 + 8)) x11 x36 x37) else (none)) else (none)) else (none)) else (if 0 ≤ x0 then (if 0 ≤ x11 then (if x11 < (x8.length : Int) then (bits_Unpack.l0 k x0 x2 (x8.set (x11 : Int).toNat ((Go.bits .and .u64 x9 (IntKind.u64.wrap ((shl .u64 1 x0) - 1))) % 4294967296)) (shr .u64 x9 x0) (wrap64 (x10 - x0)) x36 (wrap64 (x37 + 1))) else (none)) else (none)) else (none))
end
def bits_Unpack.f (k : Nat) (a0 : Int) (a1 : Int) (l2 : List Int) : Option (List Int × Bool) := if a0 < 1 then (bits_Unpack.j0 k a0 a1 l2 true) else (if a0 > 32 then (bits_Unpack.j0 k a0 a1 l2 true) else (if a1 < 0 then (bits_Unpack.j0 k a0 a1 l2 true) else (if a1 > 1048576 then (bits_Unpack.j0 k a0 a1 l2 true) else ((bits_Size.f a0 a1).bind fun t116 => (bits_Unpack.j0 k a0 a1 l2 ((l2.length : Int) != t116))))))
theorem bits_Unpack.mono_l : ∀ k, (∀ y0 y1 y2 y3, LeO (bits_Unpack.j0 k y0 y1 y2 y3) (bits_Unpack.j0 (k + 1) y0 y1 y2 y3)) ∧ (∀ y0 y1 y2 y3 y4 y5 y6, LeO (bits_Unpack.l0 k y0 y1 y2 y3 y4 y5 y6) (bits_Unpack.l0 (k + 1) y0 y1 y2 y3 y4 y5 y6)) ∧ (∀ y0 y1 y2 y3 y4 y5 y6 y7, LeO (bits_Unpack.l1 k y0 y1 y2 y3 y4 y5 y6 y7) (bits_Unpack.l1 (k + 1) y0 y1 y2 y3 y4 y5 y6 y7))
  | 0 => ⟨fun _ _ _ _ r h => by simp [bits_Unpack.j0] at h, fun _ _ _ _ _ _ _ r h => by simp [bits_Unpack.l0] at h, fun _ _ _ _ _ _ _ _ r h => by simp [bits_Unpack.l1] at h⟩
  | k + 1 => by
    obtain ⟨ih0, ih1, ih2⟩ := bits_Unpack.mono_l k
    refine ⟨?_, ?_, ?_⟩
    · intro y0 y1 y2 y3
      unfold bits_Unpack.j0
      repeat' first
      | (with_reducible exact ih0 _ _ _ _)
      | (with_reducible exact ih1 _ _ _ _ _ _ _)
      | (with_reducible exact ih2 _ _ _ _ _ _ _ _)
      | (with_reducible exact LeO.refl _)
      | (with_reducible exact LeO.none _)
      | (with_reducible refine LeO.ite ?_ ?_)
      | (with_reducible refine LeO.bind ?_ (fun _ => ?_))
      | exact ih0 _ _ _ _
      | exact ih1 _ _ _ _ _ _ _
      | exact ih2 _ _ _ _ _ _ _ _
      | exact LeO.none _
      | refine LeO.ite ?_ ?_
      | refine LeO.bind ?_ (fun _ => ?_)
    · intro y0 y1 y2 y3 y4 y5 y6
      unfold bits_Unpack.l0
      repeat' first
      | (with_reducible exact ih0 _ _ _ _)
      | (with_reducible exact ih1 _ _ _ _ _ _ _)
      | (with_reducible exact ih2 _ _ _ _ _ _ _ _)
      | (with_reducible exact LeO.refl _)
      | (with_reducible exact LeO.none _)
      | (with_reducible refine LeO.ite ?_ ?_)
      | (with_reducible refine LeO.bind ?_ (fun _ => ?_))
      | exact ih0 _ _ _ _
      | exact ih1 _ _ _ _ _ _ _
      | exact ih2 _ _ _ _ _ _ _ _
      | exact LeO.none _
      | refine LeO.ite ?_ ?_
      | refine LeO.bind ?_ (fun _ => ?_)
    · intro y0 y1 y2 y3 y4 y5 y6 y7
      unfold bits_Unpack.l1
      repeat' first
      | (with_reducible exact ih0 _ _ _ _)
      | (with_reducible exact ih1 _ _ _ _ _ _ _)
      | (with_reducible exact ih2 _ _ _ _ _ _ _ _)
      | (with_reducible exact LeO.refl _)
      | (with_reducible exact LeO.none _)
      | (with_reducible refine LeO.ite ?_ ?_)
      | (with_reducible refine LeO.bind ?_ (fun _ => ?_))
      | exact ih0 _ _ _ _
      | exact ih1 _ _ _ _ _ _ _
      | exact ih2 _ _ _ _ _ _ _ _
      | exact LeO.none _
      | refine LeO.ite ?_ ?_
      | refine LeO.bind ?_ (fun _ => ?_)
theorem bits_Unpack.mono : ∀ a0 a1 a2 k, LeO (bits_Unpack.f k a0 a1 a2) (bits_Unpack.f (k + 1) a0 a1 a2) := by
  intro a0 a1 a2 k
  obtain ⟨ih0, ih1, ih2⟩ := bits_Unpack.mono_l k
  unfold bits_Unpack.f
  repeat' first
      | (with_reducible exact ih0 _ _ _ _)
      | (with_reducible exact ih1 _ _ _ _ _ _ _)
      | (with_reducible exact ih2 _ _ _ _ _ _ _ _)
      | (with_reducible exact LeO.refl _)
      | (with_reducible exact LeO.none _)
      | (with_reducible refine LeO.ite ?_ ?_)
      | (with_reducible refine LeO.bind ?_ (fun _ => ?_))
      | exact ih0 _ _ _ _
      | exact ih1 _ _ _ _ _ _ _
      | exact ih2 _ _ _ _ _ _ _ _
      | exact LeO.none _
      | refine LeO.ite ?_ ?_
      | refine LeO.bind ?_ (fun _ => ?_)
set_option maxHeartbeats 8000000 in
set_option maxRecDepth 100000 in
theorem bits_Unpack.calls (k : Nat) (a0 : Int) (a1 : Int) (P2_ : Nat → Prop) (A2 : Option Addr) (c2 : Nat) (l2 : List Int) (r1 : List Int) (r2 : Bool) (w : World) (hs2 : Kd.V (Kd.int .u8) 5 w w.heap.size (fun k_ => P2_ k_) (.slice A2 l2.length c2) l2) (h : bits_Unpack.f k a0 a1 l2 = some (r1, r2)) :
    Calls Try.prog 38 #[.int .i64 a0, .int .i64 a1, .slice A2 l2.length c2] w fun e w' => ∃ v0_ : Value, e = .returned (.tuple #[v0_, .bool r2]) ∧ Kd.R (Kd.int .u32) 34 w' w.heap.size (fun k_ => (w.heap.size ≤ k_)) v0_ r1 ∧ Below w.heap.size w w' := by
  have HO2 := Aside0.mk (show Kd.V (Kd.int .u8) 5 w w.heap.size (fun k_ => (P2_ k_ ∨ w.heap.size ≤ k_)) (.slice A2 l2.length c2) l2 from Kd.V_mono hs2 (fun k_ hk => .inl hk))
  have HB := Aside0.mk (Below.refl w.heap.size w)
  have H : (if a0 < 1 then (bits_Unpack.j0 k a0 a1 l2 true) else (if a0 > 32 then (bits_Unpack.j0 k a0 a1 l2 true) else (if a1 < 0 then (bits_Unpack.j0 k a0 a1 l2 true) else (if a1 > 1048576 then (bits_Unpack.j0 k a0 a1 l2 true) else ((bits_Size.f a0 a1).bind fun t116 => (bits_Unpack.j0 k a0 a1 l2 ((l2.length : Int) != t116))))))) = some (r1, r2) := h
  clear h
  have HC4 := Aside0.mk H
  clear H
  go_enter Try.func38, Try.ntmps38
  go_upto_region 1 with (fail)
  go_cut [33] (fun v33 wc => ∃ (kq : Nat) (x33_3 : Bool), v33 = .bool x33_3 ∧ Aside0 (bits_Unpack.j0 kq a0 a1 l2 x33_3 = some (r1, r2)) ∧ Aside0 (kq ≤ k) ∧ Aside0 (Kd.V (Kd.int .u8) 5 wc w.heap.size (fun k_ => (P2_ k_ ∨ w.heap.size ≤ k_)) (.slice A2 l2.length c2) l2) ∧ Aside0 (Below w.heap.size w wc))
  case first =>
    have H := HC4.out
    clear HC4
    by_cases c5 : a0 < 1
    · rw [if_pos c5] at H
      have c5b0 : decide (a0 < 1) = true := decide_eq_true c5
      clear c5
      (first | rw [c5b0] | (simp only [i64_w, i32_w]; rw [c5b0]) | skip)
      have H' := Aside0.mk H
      clear H
      go_wp2
      go_meet
      case rel => exact ⟨_, (true), (by first | rfl | (simp; done) | (simp [*]; done)), H', ⟨by first | omega | exact Nat.le_refl _⟩, ⟨by (with_reducible repeat (first | apply Kd.V_alloc | apply Kd.V_drewN | apply Kd.V_drew)); exact HO2.out⟩, ⟨by repeat (first | (with_reducible first | exact HB.out | apply below_alloc | apply pw_below_drewN | apply below_drew1) | exact HB.out)⟩⟩
    · rw [if_neg c5] at H
      have c5b0 : decide (a0 < 1) = false := decide_eq_false c5
      clear c5
      (first | rw [c5b0] | (simp only [i64_w, i32_w]; rw [c5b0]) | skip)
      by_cases c6 : a0 > 32
      · rw [if_pos c6] at H
        have c6b0 : decide (32 < a0) = true := decide_eq_true c6
        clear c6
        have H' := Aside0.mk H
        clear H
        go_wp2
        go_meet
        case rel => exact ⟨_, (true), (by first | rfl | (simp; done) | (simp [*]; done)), H', ⟨by first | omega | exact Nat.le_refl _⟩, ⟨by (with_reducible repeat (first | apply Kd.V_alloc | apply Kd.V_drewN | apply Kd.V_drew)); exact HO2.out⟩, ⟨by repeat (first | (with_reducible first | exact HB.out | apply below_alloc | apply pw_below_drewN | apply below_drew1) | exact HB.out)⟩⟩
      · rw [if_neg c6] at H
        have c6b0 : decide (32 < a0) = false := decide_eq_false c6
        clear c6
        by_cases c7 : a1 < 0
        · rw [if_pos c7] at H
          have c7b0 : decide (a1 < 0) = true := decide_eq_true c7
          clear c7
          have H' := Aside0.mk H
          clear H
          go_wp2
          go_meet
          case rel => exact ⟨_, (true), (by first | rfl | (simp; done) | (simp [*]; done)), H', ⟨by first | omega | exact Nat.le_refl _⟩, ⟨by (with_reducible repeat (first | apply Kd.V_alloc | apply Kd.V_drewN | apply Kd.V_drew)); exact HO2.out⟩, ⟨by repeat (first | (with_reducible first | exact HB.out | apply below_alloc | apply pw_below_drewN | apply below_drew1) | exact HB.out)⟩⟩
        · rw [if_neg c7] at H
          have c7b0 : decide (a1 < 0) = false := decide_eq_false c7
          clear c7
          by_cases c8 : a1 > 1048576
          · rw [if_pos c8] at H
            have c8b0 : decide (1048576 < a1) = true := decide_eq_true c8
            clear c8
            have H' := Aside0.mk H
            clear H
            go_wp2
            go_meet
            case rel => exact ⟨_, (true), (by first | rfl | (simp; done) | (simp [*]; done)), H', ⟨by first | omega | exact Nat.le_refl _⟩, ⟨by (with_reducible repeat (first | apply Kd.V_alloc | apply Kd.V_drewN | apply Kd.V_drew)); exact HO2.out⟩, ⟨by repeat (first | (with_reducible first | exact HB.out | apply below_alloc | apply pw_below_drewN | apply below_drew1) | exact HB.out)⟩⟩
          · rw [if_neg c8] at H
            have c8b0 : decide (1048576 < a1) = false := decide_eq_false c8
            clear c8
            replace H := Option.bind_eq_some_iff.mp H
            obtain ⟨t116, A90, H⟩ := H
            replace H : (bits_Unpack.j0 k a0 a1 l2 ((l2.length : Int) != t116)) = some (r1, r2) := H
            have A9 := Aside0.mk A90
            clear A90
            have H' := Aside0.mk H
            clear H
            go_wp2_with (first | (go_at_call 41; (with_reducible refine (bits_Size.calls a0 a1 t116 _ A9.out).mono ?_); rintro e w' ⟨rfl, ⟨nd, rfl⟩⟩))
            go_meet
            case rel => exact ⟨_, (((l2.length : Int) != t116)), (by first | rfl | (simp; done) | (simp [*]; done)), H', ⟨by first | omega | exact Nat.le_refl _⟩, ⟨by (with_reducible repeat (first | apply Kd.V_alloc | apply Kd.V_drewN | apply Kd.V_drew)); exact HO2.out⟩, ⟨by repeat (first | (with_reducible first | exact HB.out | apply below_alloc | apply pw_below_drewN | apply below_drew1) | exact HB.out)⟩⟩
  case rest =>
    clear HC4
    try clear c2
    try clear p2
    try clear c3
    try clear c5
    try clear c5b0
    try clear c6
    try clear c6b0
    try clear c7
    try clear c7b0
    try clear c8
    try clear c8b0
    obtain ⟨kq, x33_3, rfl, HA, HJ3, HO_2, HB⟩ := hcut
    cases kq with
    | zero => exact absurd HA.out (by simp [bits_Unpack.j0])
    | succ kj3 =>
      have H := HA.out
      clear HA
      simp only [bits_Unpack.j0] at H
      by_cases c10 : x33_3 = true
      · subst c10
        have H1 : (some (([] : List Int), false)) = some (r1, r2) := by rw [if_pos rfl] at H; exact H
        clear H
        have H := H1
        clear H1
        simp only [Option.some.injEq, Prod.mk.injEq] at H
        obtain ⟨rfl, rfl⟩ := H
        go_wp2
        go_ret2
        exact ⟨_, by first | rfl | (simp [errW_none, errW_some] <;> rfl) | (simp [*, errW_none, errW_some] <;> rfl), by first | exact Kd.R_nil _ _ _ _ _ | exact Kd.N_nil _ _ _ _ _ | exact Kd.V_nil _ _ _ _ _ | exact Kd.Q_nil _ _ _ _ _ | exact Kd.S_nil _ _ _ _ _, by repeat (first | (with_reducible first | exact HB.out | apply below_alloc | apply pw_below_drewN | apply below_drew1) | exact HB.out)⟩
      · replace c10 := Bool.eq_false_iff.mpr c10
        subst c10
        have H1 : (if 0 ≤ a1 then (if (a1 : Int).toNat ≤ 70368744177664 then (bits_Unpack.l0 kj3 a0 l2 (List.replicate (a1 : Int).toNat 0) 0 0 a1 0) else (none)) else (none)) = some (r1, r2) := by rw [if_neg (show ¬ (false = true) by decide)] at H; exact H
        clear H
        have H := H1
        clear H1
        by_cases c11 : 0 ≤ a1
        · rw [if_pos c11] at H
          have c11b0 := eq_true c11
          have c11b1 : decide (0 ≤ a1) = true := decide_eq_true c11
          clear c11
          by_cases c12 : (a1 : Int).toNat ≤ 70368744177664
          · rw [if_pos c12] at H
            have c12b0 := eq_true c12
            have c12b1 : decide ((a1 : Int).toNat ≤ 70368744177664) = true := decide_eq_true c12
            clear c12
            obtain ⟨y117, hy117⟩ : ∃ y_ : List Int, y_ = (List.replicate (a1 : Int).toNat 0) := ⟨_, rfl⟩
            replace H : (bits_Unpack.l0 kj3 a0 l2 y117 0 0 a1 0) = some (r1, r2) := by first | (rw [hy117]; with_reducible exact H) | (have H2_ := (Option.bind_some _ _).symm.trans H; rw [hy117]; with_reducible exact H2_) | (have H2_ := (Option.bind_some _ _).symm.trans H; with_reducible exact H2_) | with_reducible exact H | (rw [hy117]; exact H) | exact H
            have Ny117 := Aside0.mk hy117
            clear hy117
            have H' := Aside0.mk H
            clear H
            go_wp2_with (first | ((with_reducible refine gate_dst (N := 35) rfl ?_); (try (refine gate_guard (by rfl) ?_; dsimp only)); refine Kd.R_make (Kd.int .u32) _ 34 rfl (N := 35) rfl 60 _ _ rfl a1 rfl rfl Try.underlying60 (.int .u32 0) 4 info34 rfl (by decide) (by omega) 0 (ok := fun _ => True) (okp := fun _ => True) rfl (fun _ hk => hk) trivial (of_decide_eq_true (by first | (with_reducible assumption) | assumption)) (Nat.le_trans (Nat.mul_le_mul_right _ (of_decide_eq_true (by first | (with_reducible assumption) | assumption) : a1.toNat ≤ 70368744177664)) (by omega)) (Below.refl _ _) (Nat.le_refl _) ?_; intro v118 w13 ho14 hb hg_ hnew_; clear hg_ hnew_; (first | rw [← Ny117.out] at ho14 | (simp only [Int.reduceToNat] at ho14; rw [← Ny117.out] at ho14)); have n0_ := Aside0.mk (Kd.V_elder' (by (with_reducible repeat (first | apply Kd.V_alloc | apply Kd.V_drewN | apply Kd.V_drew)); exact HO_2.out) (Kd.R_base ho14) hb); have n1_ := Aside0.mk (Kd.R_lower (Kd.R_newM (M := fun k_ => (w.heap.size ≤ k_)) ho14 (below_size (by repeat (first | (with_reducible first | exact HB.out | apply below_alloc | apply pw_below_drewN | apply below_drew1) | exact HB.out))) (fun k_ h_ => h_)) (below_size (by repeat (first | (with_reducible first | exact HB.out | apply below_alloc | apply pw_below_drewN | apply below_drew1) | exact HB.out)))); have n2_ := Aside0.mk (below_step (by repeat (first | (with_reducible first | exact HB.out | apply below_alloc | apply pw_below_drewN | apply below_drew1) | exact HB.out)) hb); clear HO_2; clear HB; have HO_2 := n0_; have HO119 := n1_; have HB := n2_; clear n0_ n1_ n2_; clear hb ho14))
            go_loopg [2, 9, 10, 37] kj3 (fun kq v2 v9 v10 v37 w' => ∃ (x2_2 : List Int) (x8_2 : List Int) (x9_2 : Int) (x10_2 : Int) (x37_2 : Int), v9 = .int .u64 x9_2 ∧ v10 = .int .i64 x10_2 ∧ v37 = .int .i64 x37_2 ∧ Aside0 (bits_Unpack.l0 kq a0 x2_2 x8_2 x9_2 x10_2 a1 x37_2 = some (r1, r2)) ∧ Aside0 (kq ≤ kj3) ∧ Aside0 (Kd.V (Kd.int .u8) 5 w' w.heap.size (fun k_ => (P2_ k_ ∨ w.heap.size ≤ k_) ∧ some k_ ≠ (v118 : Value).ownBlock) v2 x2_2) ∧ Aside0 (Kd.R (Kd.int .u32) 34 w' w.heap.size (fun k_ => (w.heap.size ≤ k_)) v118 x8_2) ∧ Aside0 (Below w.heap.size w w'))
            case atStart => exact ⟨(l2), (y117), (0), (0), (0), (by first | rfl | (simp; done) | (simp [*]; done)), (by first | rfl | (simp; done) | (simp [*]; done)), (by first | rfl | (simp; done) | (simp [*]; done)), H', ⟨Nat.le_refl _⟩, ⟨by (with_reducible repeat (first | apply Kd.V_alloc | apply Kd.V_drewN | apply Kd.V_drew)); exact HO_2.out⟩, ⟨by (with_reducible repeat (first | apply Kd.R_alloc | apply Kd.R_drewN | apply Kd.R_drew)); exact Kd.R_mono HO119.out (fun _ hk => hk.1)⟩, ⟨by repeat (first | (with_reducible first | exact HB.out | apply below_alloc | apply pw_below_drewN | apply below_drew1) | exact HB.out)⟩⟩
            case round =>
              clear H'
              try clear c1
              try clear c2
              try clear p2
              try clear c3
              try clear c5
              try clear c5b0
              try clear c6
              try clear c6b0
              try clear c7
              try clear c7b0
              try clear c8
              try clear c8b0
              try clear c10
              try clear c11
              try clear c11b0
              try clear c11b1
              try clear c12
              try clear c12b0
              try clear c12b1
              try clear p2
              obtain ⟨x2_2, x8_2, x9_2, x10_2, x37_2, rfl, rfl, rfl, HA, HK2, HO_2, HO_8, HB⟩ := hrel
              cases gk with
              | zero => exact absurd HA.out (by simp [bits_Unpack.l0])
              | succ k2 =>
                have H := HA.out
                clear HA
                simp only [bits_Unpack.l0] at H
                by_cases c15 : x37_2 < a1
                · rw [if_pos c15] at H
                  have c15b0 : decide (x37_2 < a1) = true := decide_eq_true c15
                  clear c15
                  have H' := Aside0.mk H
                  clear H
                  go_wp2
                  go_loopg [2, 9, 10] k2 (fun kq v2 v9 v10 w' => ∃ (x2_3 : List Int) (x9_3 : Int) (x10_3 : Int), v9 = .int .u64 x9_3 ∧ v10 = .int .i64 x10_3 ∧ Aside0 (bits_Unpack.l1 kq a0 x2_3 x8_2 x9_3 x10_3 x37_2 a1 x37_2 = some (r1, r2)) ∧ Aside0 (kq ≤ k2) ∧ Aside0 (Kd.V (Kd.int .u8) 5 w' w.heap.size (fun k_ => (P2_ k_ ∨ w.heap.size ≤ k_) ∧ some k_ ≠ (v118 : Value).ownBlock) v2 x2_3) ∧ Aside0 (Kd.R (Kd.int .u32) 34 w' w.heap.size (fun k_ => (w.heap.size ≤ k_)) v118 x8_2) ∧ Aside0 (Below w.heap.size w w'))
                  case atStart => exact ⟨(x2_2), (x9_2), (x10_2), (by first | rfl | (simp; done) | (simp [*]; done)), (by first | rfl | (simp; done) | (simp [*]; done)), H', ⟨Nat.le_refl _⟩, ⟨by (with_reducible repeat (first | apply Kd.V_alloc | apply Kd.V_drewN | apply Kd.V_drew)); exact HO_2.out⟩, ⟨by (with_reducible repeat (first | apply Kd.R_alloc | apply Kd.R_drewN | apply Kd.R_drew)); exact HO_8.out⟩, ⟨by repeat (first | (with_reducible first | exact HB.out | apply below_alloc | apply pw_below_drewN | apply below_drew1) | exact HB.out)⟩⟩
                  case round =>
                    clear H'
                    try clear c1
                    try clear c2
                    try clear p2
                    try clear c3
                    try clear c5
                    try clear c5b0
                    try clear c6
                    try clear c6b0
                    try clear c7
                    try clear c7b0
                    try clear c8
                    try clear c8b0
                    try clear c10
                    try clear c11
                    try clear c11b0
                    try clear c11b1
                    try clear c12
                    try clear c12b0
                    try clear c12b1
                    try clear c15
                    try clear c15b0
                    try clear p2
                    obtain ⟨x2_3, x9_3, x10_3, rfl, rfl, HA, HK3, HO_2, HO_8, HB⟩ := hrel
                    cases gk with
                    | zero => exact absurd HA.out (by simp [bits_Unpack.l1])
                    | succ k3 =>
                      have H := HA.out
                      clear HA
                      simp only [bits_Unpack.l1] at H
                      by_cases c16 : x10_3 < a0
                      · rw [if_pos c16] at H
                        have c16b0 : decide (x10_3 < a0) = true := decide_eq_true c16
                        clear c16
                        by_cases c17 : 0 < (x2_3.length : Int)
                        · rw [if_pos c17] at H
                          have c17b0 : decide (0 < (x2_3.length : Int)) = true := decide_eq_true c17
                          have c17b1 : decide (0 < x2_3.length) = true := decide_eq_true (by omega)
                          clear c17
                          by_cases c18 : 0 ≤ x10_3
                          · rw [if_pos c18] at H
                            have c18b0 := eq_true c18
                            have c18b1 : decide (0 ≤ x10_3) = true := decide_eq_true c18
                            clear c18
                            obtain ⟨ji19, hji19⟩ : ∃ j_ : Int, (shl .u64 (IntKind.u64.wrap (rd x2_3 0)) x10_3) = j_ := ⟨_, rfl⟩
                            replace H : (if 1 ≤ (x2_3.length : Int) then (bits_Unpack.l1 k3 a0 (x2_3.drop 1) x8_2 (Go.bits .or .u64 x9_3 (ji19)) (wrap64 (x10_3 + 8)) x37_2 a1 x37_2) else (none)) = some (r1, r2) := by first | (rw [hji19] at H; exact H) | (simp only [hji19] at H ⊢; exact H)
                            have hji19_ : (IntKind.u64.wrap ((IntKind.u64.wrap (rd x2_3 0)) * 2 ^ min x10_3.toNat 64)) = ji19 := hji19
                            have hji19z : x10_3 ≤ 64 → (IntKind.u64.wrap ((IntKind.u64.wrap (rd x2_3 0)) * 2 ^ x10_3.toNat)) = ji19 := shl_small hji19
                            by_cases c20 : 1 ≤ (x2_3.length : Int)
                            · rw [if_pos c20] at H
                              have c20b0 := eq_true c20
                              have c20b1 : decide (1 ≤ (x2_3.length : Int)) = true := decide_eq_true c20
                              clear c20
                              obtain ⟨y121, hy121⟩ : ∃ y_ : List Int, y_ = (x2_3.drop 1) := ⟨_, rfl⟩
                              replace H : (bits_Unpack.l1 k3 a0 y121 x8_2 (Go.bits .or .u64 x9_3 (ji19)) (wrap64 (x10_3 + 8)) x37_2 a1 x37_2) = some (r1, r2) := by first | (rw [hy121]; with_reducible exact H) | (have H2_ := (Option.bind_some _ _).symm.trans H; rw [hy121]; with_reducible exact H2_) | (have H2_ := (Option.bind_some _ _).symm.trans H; with_reducible exact H2_) | with_reducible exact H | (rw [hy121]; exact H) | exact H
                              have Ny121 := Aside0.mk hy121
                              clear hy121
                              have H' := Aside0.mk H
                              clear H
                              obtain ⟨Ao21, co21, eo21⟩ := Kd.V_slice HO_2.out
                              subst eo21
                              have p120 : 0 ≤ (0 : Int) := (by omega)
                              have q120 : 0 < (x2_3.length : Int) := of_decide_eq_true (by first | (with_reducible assumption) | assumption)
                              obtain ⟨ad120, e120, hx120_0⟩ := Kd.at_int (Kd.V_reads' HO_2.out).2.2 0 p120 q120
                              cases e120
                              have qi120 : (0 < x2_3.length) = True := eq_true (by omega)
                              (try rw [show ((0 : Int)).toNat = 0 from rfl] at hx120_0)
                              (try rw [Addr.add_zero'] at hx120_0)
                              replace p120 := eq_true p120
                              replace q120 := eq_true q120
                              have q22 : (1 : Int) ≤ ((x2_3.length : Int) : Int) := of_decide_eq_true (by first | (with_reducible assumption) | assumption)
                              obtain ⟨i022, hi022, _, hsz22, _⟩ := info_parts info5
                              have hroom22 : x2_3.length ≤ co21 := (Kd.V_reads' HO_2.out).2.1
                              have hC22 : Kd.F (Kd.int .u8) _ _ (some ad120) x2_3.length x2_3 := (Kd.V_at (base := w.heap.size) HO_2.out).2.2
                              have hcut22 := cut_from (P := Try.prog) 36 5 .i64 Try.underlying36 hi022 1 hsz22 (some ad120) x2_3.length co21 1 (by omega) q22
                              have hr22 := Kd.F_cut (m := (1 : Int).toNat) (c := co21) hC22 (by omega) hroom22
                              obtain ⟨A22, hA22⟩ : ∃ A1, A1 = (if co21 = (1 : Int).toNat then (some ad120) else ((some ad120) : Option Addr).map (·.add ((1 : Int).toNat * 1))) := ⟨_, rfl⟩
                              obtain ⟨c22, hc22⟩ : ∃ c1, c1 = co21 - (1 : Int).toNat := ⟨_, rfl⟩
                              have hy22 : y121.length = x2_3.length - (1 : Int).toNat := (by rw [Ny121.out, List.length_drop] <;> omega)
                              rw [show (x2_3).drop (1 : Int).toNat = y121 from Ny121.out.symm] at hr22
                              replace hr22 : Kd.F (Kd.int .u8) _ _ A22 y121.length y121 := (by rw [hA22]; exact hr22)
                              rw [← hy22, ← hA22, ← hc22] at hcut22
                              have HO125 := Aside0.mk (show Kd.V (Kd.int .u8) 5 _ w.heap.size _ (.slice A22 y121.length c22) y121 from Kd.V_mk (by rw [hy22, hc22]; exact Nat.sub_le_sub_right hroom22 _) hr22)
                              have HC125 := Aside0.mk (show y121.length ≤ c22 from by rw [hy22, hc22]; exact Nat.sub_le_sub_right hroom22 _)
                              clear hr22 hC22 hroom22 hi022 hsz22 hc22
                              have KY22 := Aside0.mk hy22
                              have KA22 := Aside0.mk hA22
                              clear hy22 hA22
                              replace q22 := eq_true q22
                              go_wp2
                              go_roundg k3
                              case measure => have := HJ3.out; have := HK2.out; have := HK3.out; omega
                              case rel => exact ⟨(y121), (Go.bits .or .u64 x9_3 (ji19)), (wrap64 (x10_3 + 8)), (by first | rfl | (simp; done) | (simp only [← hji19] <;> (first | rfl | simp)) | (simp [*]; done)), (by first | rfl | (simp; done) | (simp [*]; done)), H', ⟨by have := HJ3.out; have := HK2.out; have := HK3.out; omega⟩, ⟨by (with_reducible repeat (first | apply Kd.V_alloc | apply Kd.V_drewN | apply Kd.V_drew)); exact HO125.out⟩, ⟨by (with_reducible repeat (first | apply Kd.R_alloc | apply Kd.R_drewN | apply Kd.R_drew)); exact HO_8.out⟩, ⟨by repeat (first | (with_reducible first | exact HB.out | apply below_alloc | apply pw_below_drewN | apply below_drew1) | exact HB.out)⟩⟩
                            · rw [if_neg c20] at H
                              exact absurd H (by simp)
                          · rw [if_neg c18] at H
                            exact absurd H (by simp)
                        · rw [if_neg c17] at H
                          exact absurd H (by simp)
                      · rw [if_neg c16] at H
                        have c16b0 : decide (x10_3 < a0) = false := decide_eq_false c16
                        clear c16
                        by_cases c23 : 0 ≤ a0
                        · rw [if_pos c23] at H
                          have c23b0 := eq_true c23
                          have c23b1 : decide (0 ≤ a0) = true := decide_eq_true c23
                          clear c23
                          obtain ⟨ji24, hji24⟩ : ∃ j_ : Int, (shl .u64 1 a0) = j_ := ⟨_, rfl⟩
                          replace H : (if 0 ≤ x37_2 then (if x37_2 < (x8_2.length : Int) then (bits_Unpack.l0 k3 a0 x2_3 (x8_2.set (x37_2 : Int).toNat ((Go.bits .and .u64 x9_3 (IntKind.u64.wrap ((ji24) - 1))) % 4294967296)) (shr .u64 x9_3 a0) (wrap64 (x10_3 - a0)) a1 (wrap64 (x37_2 + 1))) else (none)) else (none)) = some (r1, r2) := by first | (rw [hji24] at H; exact H) | (simp only [hji24] at H ⊢; exact H)
                          have hji24_ : (IntKind.u64.wrap (1 * 2 ^ min a0.toNat 64)) = ji24 := hji24
                          have hji24z : a0 ≤ 64 → (IntKind.u64.wrap (1 * 2 ^ a0.toNat)) = ji24 := shl_small hji24
                          have hji24u : (IntKind.u64.wrap (2 ^ min a0.toNat 64)) = ji24 := by have h_ := hji24_; rw [Int.one_mul] at h_; exact h_
                          have hji24v : a0 ≤ 64 → (IntKind.u64.wrap (2 ^ a0.toNat)) = ji24 := fun hle_ => by have h_ := hji24z hle_; rw [Int.one_mul] at h_; exact h_
                          by_cases c25 : 0 ≤ x37_2
                          · rw [if_pos c25] at H
                            have c25b0 : decide (0 ≤ x37_2) = true := decide_eq_true c25
                            clear c25
                            by_cases c26 : x37_2 < (x8_2.length : Int)
                            · rw [if_pos c26] at H
                              have c26b0 : decide (x37_2 < (x8_2.length : Int)) = true := decide_eq_true c26
                              clear c26
                              obtain ⟨y126, hy126⟩ : ∃ y_ : List Int, y_ = (x8_2.set (x37_2 : Int).toNat ((Go.bits .and .u64 x9_3 (IntKind.u64.wrap ((ji24) - 1))) % 4294967296)) := ⟨_, rfl⟩
                              replace H : (bits_Unpack.l0 k3 a0 x2_3 y126 (shr .u64 x9_3 a0) (wrap64 (x10_3 - a0)) a1 (wrap64 (x37_2 + 1))) = some (r1, r2) := by first | (rw [hy126]; with_reducible exact H) | (have H2_ := (Option.bind_some _ _).symm.trans H; rw [hy126]; with_reducible exact H2_) | (have H2_ := (Option.bind_some _ _).symm.trans H; with_reducible exact H2_) | with_reducible exact H | (rw [hy126]; exact H) | exact H
                              have Ny126 := Aside0.mk hy126
                              clear hy126
                              have c28b0 := eq_true (of_decide_eq_true (by first | (with_reducible assumption) | assumption) : 0 ≤ a0)
                              obtain ⟨ji29, hji29⟩ : ∃ j_ : Int, (shr .u64 x9_3 a0) = j_ := ⟨_, rfl⟩
                              replace H : (bits_Unpack.l0 k3 a0 x2_3 y126 ji29 (wrap64 (x10_3 - a0)) a1 (wrap64 (x37_2 + 1))) = some (r1, r2) := by first | (rw [hji29] at H; exact H) | (simp only [hji29] at H ⊢; exact H)
                              have hji29_ : (x9_3 / 2 ^ min a0.toNat 64) = ji29 := hji29
                              have hji29z : a0 ≤ 64 → (x9_3 / 2 ^ a0.toNat) = ji29 := shr_small hji29
                              have H' := Aside0.mk H
                              clear H
                              have p27 : 0 ≤ (x37_2 : Int) := of_decide_eq_true (by first | (with_reducible assumption) | assumption)
                              have q27 : (x37_2 : Int) < ((x8_2.length : Int) : Int) := of_decide_eq_true (by first | (with_reducible assumption) | assumption)
                              obtain ⟨go27, co27, eo27, gb27, gl27, cl27, HG27⟩ := Kd.R_form HO_8.out (by omega)
                              (first | cases eo27 | (injection eo27 with ea_ en_ ec_; (first | subst ea_ | (injection ea_ with ea_; subst ea_)); subst ec_; clear en_))
                              have GB27 := Aside0.mk gb27
                              have GG27 := Aside0.mk HG27
                              clear gb27 gl27 HG27
                              obtain ⟨hx27_0, hf27_0⟩ := Kd.R_celln 0 HO_8.out (x37_2 : Int) p27 q27
                              replace p27 := eq_true p27
                              replace q27 := eq_true q27
                              have HP30 := Kd.R_putg HO_8.out (x37_2 : Int) ((Go.bits .and .u64 x9_3 (IntKind.u64.wrap ((ji24) - 1))) % 4294967296)
                              go_wp2_with (first | ((with_reducible refine gate_store (t := 34) (p := 63) rfl ?_); refine store_event (t := 34) (p := 63) (v := ?vo_w31) (w1 := (wr.setCell ⟨go27, (x37_2 : Int).toNat, none⟩ (.int .u32 ((Go.bits .and .u64 x9_3 (IntKind.u64.wrap ((ji24) - 1))) % 4294967296)))) ?hg ?ho ?hn ?hr ?_; (case ho => rfl); (case hg => rfl); (case hn => rfl); (case hr => first | (go_simp; done) | (go_simp; rfl)); intro w31 hw; have hg : wr.grownBy w31 (some go27) := (by rw [hw]; exact HP30.2); have hp_ : Kd.R (Kd.int .u32) 34 w31 w.heap.size (fun k_ => (w.heap.size ≤ k_)) (.slice (some ⟨go27, 0, none⟩) x8_2.length co27) y126 := (by rw [hw, Ny126.out]; exact HP30.1); clear HP30; have n0_ := Aside0.mk (Kd.V_afterv (v := (.slice (some ⟨go27, 0, none⟩) x8_2.length co27)) (v1 := (.slice (some ⟨go27, 0, none⟩) x8_2.length co27)) (ok := (fun k_ => (P2_ k_ ∨ w.heap.size ≤ k_))) (by (with_reducible repeat (first | apply Kd.V_alloc | apply Kd.V_drewN | apply Kd.V_drew)); exact HO_2.out) hg (.inl rfl)); have n1_ := Aside0.mk (hp_); have n2_ := Aside0.mk ((by rw [hw]; exact below_set (HB.out) GB27.out : Below w.heap.size w w31)); clear HO_2; clear HO_8; clear HB; have HO_2 := n0_; have HO_8 := n1_; have HB := n2_; clear n0_ n1_ n2_; clear hg hw hp_))
                              go_roundg k3
                              case measure => have := HJ3.out; have := HK2.out; have := HK3.out; omega
                              case rel => exact ⟨(x2_3), (y126), (ji29), (wrap64 (x10_3 - a0)), (wrap64 (x37_2 + 1)), (by first | rfl | (simp; done) | (simp only [← hji29] <;> (first | rfl | simp)) | (simp [*]; done)), (by first | rfl | (simp; done) | (simp [*]; done)), (by first | rfl | (simp; done) | (simp [*]; done)), H', ⟨by have := HJ3.out; have := HK2.out; have := HK3.out; omega⟩, ⟨by (with_reducible repeat (first | apply Kd.V_alloc | apply Kd.V_drewN | apply Kd.V_drew)); exact HO_2.out⟩, ⟨by (with_reducible repeat (first | apply Kd.R_alloc | apply Kd.R_drewN | apply Kd.R_drew)); exact HO_8.out⟩, ⟨by repeat (first | (with_reducible first | exact HB.out | apply below_alloc | apply pw_below_drewN | apply below_drew1) | exact HB.out)⟩⟩
                            · rw [if_neg c26] at H
                              exact absurd H (by simp)
                          · rw [if_neg c25] at H
                            exact absurd H (by simp)
                        · rw [if_neg c23] at H
                          exact absurd H (by simp)
                · rw [if_neg c15] at H
                  have c15b0 : decide (x37_2 < a1) = false := decide_eq_false c15
                  clear c15
                  by_cases c32 : x9_2 = 0
                  · rw [if_pos c32] at H
                    have c32b0 : (x9_2 == 0) = true := beq_iff_eq.mpr c32
                    have c32b1 : (x9_2 != 0) = false := bne_eq_false_iff_eq.mpr c32
                    clear c32
                    simp only [Option.some.injEq, Prod.mk.injEq] at H
                    obtain ⟨rfl, rfl⟩ := H
                    go_wp2
                    go_ret2
                    exact ⟨_, by first | rfl | (simp [errW_none, errW_some] <;> rfl) | (simp [*, errW_none, errW_some] <;> rfl), by (with_reducible repeat (first | apply Kd.R_alloc | apply Kd.R_drewN | apply Kd.R_drew)); exact HO_8.out, by repeat (first | (with_reducible first | exact HB.out | apply below_alloc | apply pw_below_drewN | apply below_drew1) | exact HB.out)⟩
                  · rw [if_neg c32] at H
                    have c32b0 : (x9_2 == 0) = false := beq_eq_false_iff_ne.mpr c32
                    have c32b1 : (x9_2 != 0) = true := bne_iff_ne.mpr c32
                    simp only [Option.some.injEq, Prod.mk.injEq] at H
                    obtain ⟨rfl, rfl⟩ := H
                    go_wp2
                    go_ret2
                    exact ⟨_, by first | rfl | (simp [errW_none, errW_some] <;> rfl) | (simp [*, errW_none, errW_some] <;> rfl), by first | exact Kd.R_nil _ _ _ _ _ | exact Kd.N_nil _ _ _ _ _ | exact Kd.V_nil _ _ _ _ _ | exact Kd.Q_nil _ _ _ _ _ | exact Kd.S_nil _ _ _ _ _, by repeat (first | (with_reducible first | exact HB.out | apply below_alloc | apply pw_below_drewN | apply below_drew1) | exact HB.out)⟩
          · rw [if_neg c12] at H
            exact absurd H (by simp)
        · rw [if_neg c11] at H
          exact absurd H (by simp)

/-! ### pyxref05_Same: function 40 -/
def pyxref05_Same.l0 : Nat → List Int → List Int → Int → Option (Bool)
  | 0, _, _, _ => none
  | k + 1, x0, x1, x5 => if x5 < (x0.length : Int) then (if 0 ≤ x5 then (if x5 < (x1.length : Int) then (if (rd x0 x5) = (rd x1 x5) then (pyxref05_Same.l0 k x0 x1 (wrap64 (x5 + 1))) else (some false)) else (none)) else (none)) else (some true)
def pyxref05_Same.f (k : Nat) (l0 : List Int) (l1 : List Int) : Option (Bool) := if (l0.length : Int) = (l1.length : Int) then (pyxref05_Same.l0 k l0 l1 0) else (some false)
theorem pyxref05_Same.mono_l : ∀ k, (∀ y0 y1 y2, LeO (pyxref05_Same.l0 k y0 y1 y2) (pyxref05_Same.l0 (k + 1) y0 y1 y2))
  | 0 => fun _ _ _ r h => by simp [pyxref05_Same.l0] at h
  | k + 1 => by
    have ih0 := pyxref05_Same.mono_l k
    · intro y0 y1 y2
      unfold pyxref05_Same.l0
      repeat' first
      | (with_reducible exact ih0 _ _ _)
      | (with_reducible exact LeO.refl _)
      | (with_reducible exact LeO.none _)
      | (with_reducible refine LeO.ite ?_ ?_)
      | (with_reducible refine LeO.bind ?_ (fun _ => ?_))
      | exact ih0 _ _ _
      | exact LeO.none _
      | refine LeO.ite ?_ ?_
      | refine LeO.bind ?_ (fun _ => ?_)
theorem pyxref05_Same.mono : ∀ a0 a1 k, LeO (pyxref05_Same.f k a0 a1) (pyxref05_Same.f (k + 1) a0 a1) := by
  intro a0 a1 k
  have ih0 := pyxref05_Same.mono_l k
  unfold pyxref05_Same.f
  repeat' first
      | (with_reducible exact ih0 _ _ _)
      | (with_reducible exact LeO.refl _)
      | (with_reducible exact LeO.none _)
      | (with_reducible refine LeO.ite ?_ ?_)
      | (with_reducible refine LeO.bind ?_ (fun _ => ?_))
      | exact ih0 _ _ _
      | exact LeO.none _
      | refine LeO.ite ?_ ?_
      | refine LeO.bind ?_ (fun _ => ?_)
set_option maxHeartbeats 8000000 in
set_option maxRecDepth 100000 in
theorem pyxref05_Same.calls (k : Nat) (A0 : Option Addr) (c0 : Nat) (l0 : List Int) (A1 : Option Addr) (c1 : Nat) (l1 : List Int) (r : Bool) (w : World) (hr0 : Kd.C (Kd.int .u32) w A0 l0.length l0) (hc0 : l0.length ≤ c0) (hr1 : Kd.C (Kd.int .u32) w A1 l1.length l1) (hc1 : l1.length ≤ c1) (h : pyxref05_Same.f k l0 l1 = some r) :
    Calls Try.prog 40 #[.slice A0 l0.length c0, .slice A1 l1.length c1] w fun e w' => e = .returned (.bool r) ∧ Drawn0 w w' := by
  have HR0 := Aside0.mk hr0
  have HC0 := Aside0.mk hc0
  clear hr0 hc0
  have HR1 := Aside0.mk hr1
  have HC1 := Aside0.mk hc1
  clear hr1 hc1
  have H : (if (l0.length : Int) = (l1.length : Int) then (pyxref05_Same.l0 k l0 l1 0) else (some false)) = some r := h
  clear h
  by_cases c3 : (l0.length : Int) = (l1.length : Int)
  · rw [if_pos c3] at H
    have c3b0 : ((l0.length : Int) == (l1.length : Int)) = true := beq_iff_eq.mpr c3
    have c3b1 : ((l0.length : Int) != (l1.length : Int)) = false := bne_eq_false_iff_eq.mpr c3
    have c3b2 : (l0.length == l1.length) = true := by first | simpa using c3 | (simp at c3 ⊢; omega)
    clear c3
    have H' := Aside0.mk H
    clear H
    go_enter Try.func40, Try.ntmps40
    go_wp2
    repeat (go_quiet (fail); try go_wp2)
    go_loopg [5] k (fun kq v5 w' => ∃ (x5_1 : Int), v5 = .int .i64 x5_1 ∧ Aside0 (pyxref05_Same.l0 kq l0 l1 x5_1 = some r) ∧ Aside0 (kq ≤ k) ∧ Drawn0 w w')
    case atStart => exact ⟨(0), (by first | rfl | (simp; done) | (simp [*]; done)), H', ⟨Nat.le_refl _⟩, by repeat (first | exact Drawn0.refl _ | apply Drawn0.step)⟩
    case round =>
      clear H'
      try clear c1
      try clear p2
      try clear c3
      try clear c3b0
      try clear c3b1
      try clear c3b2
      obtain ⟨x5_1, rfl, HA, HK1, ⟨m1, rfl⟩⟩ := hrel
      cases gk with
      | zero => exact absurd HA.out (by simp [pyxref05_Same.l0])
      | succ k1 =>
        have H := HA.out
        clear HA
        simp only [pyxref05_Same.l0] at H
        by_cases c4 : x5_1 < (l0.length : Int)
        · rw [if_pos c4] at H
          have c4b0 : decide (x5_1 < (l0.length : Int)) = true := decide_eq_true c4
          clear c4
          by_cases c5 : 0 ≤ x5_1
          · rw [if_pos c5] at H
            have c5b0 : decide (0 ≤ x5_1) = true := decide_eq_true c5
            clear c5
            by_cases c6 : x5_1 < (l1.length : Int)
            · rw [if_pos c6] at H
              have c6b0 : decide (x5_1 < (l1.length : Int)) = true := decide_eq_true c6
              clear c6
              by_cases c7 : (rd l0 x5_1) = (rd l1 x5_1)
              · rw [if_pos c7] at H
                have c7b0 : ((rd l0 x5_1) == (rd l1 x5_1)) = true := beq_iff_eq.mpr c7
                have c7b1 : ((rd l0 x5_1) != (rd l1 x5_1)) = false := bne_eq_false_iff_eq.mpr c7
                clear c7
                have H' := Aside0.mk H
                clear H
                have p127 : 0 ≤ (x5_1 : Int) := of_decide_eq_true (by first | (with_reducible assumption) | assumption)
                have q127 : x5_1 < (l0.length : Int) := of_decide_eq_true (by first | (with_reducible assumption) | assumption)
                obtain ⟨ad127, e127, hx127_0⟩ := Kd.at_int HR0.out x5_1 p127 q127
                cases e127
                replace p127 := eq_true p127
                replace q127 := eq_true q127
                have p128 : 0 ≤ (x5_1 : Int) := of_decide_eq_true (by first | (with_reducible assumption) | assumption)
                have q128 : x5_1 < (l1.length : Int) := of_decide_eq_true (by first | (with_reducible assumption) | assumption)
                obtain ⟨ad128, e128, hx128_0⟩ := Kd.at_int HR1.out x5_1 p128 q128
                cases e128
                replace p128 := eq_true p128
                replace q128 := eq_true q128
                go_wp2
                repeat (go_quiet (fail); try go_wp2)
                go_roundg k1
                case measure => have := HK1.out; omega
                case rel => exact ⟨(wrap64 (x5_1 + 1)), (by first | rfl | (simp; done) | (simp [*]; done)), H', ⟨by have := HK1.out; omega⟩, by repeat (first | exact Drawn0.refl _ | apply Drawn0.step)⟩
              · rw [if_neg c7] at H
                have c7b0 : ((rd l0 x5_1) == (rd l1 x5_1)) = false := beq_eq_false_iff_ne.mpr c7
                have c7b1 : ((rd l0 x5_1) != (rd l1 x5_1)) = true := bne_iff_ne.mpr c7
                obtain rfl := Option.some.inj H
                have p127 : 0 ≤ (x5_1 : Int) := of_decide_eq_true (by first | (with_reducible assumption) | assumption)
                have q127 : x5_1 < (l0.length : Int) := of_decide_eq_true (by first | (with_reducible assumption) | assumption)
                obtain ⟨ad127, e127, hx127_0⟩ := Kd.at_int HR0.out x5_1 p127 q127
                cases e127
                replace p127 := eq_true p127
                replace q127 := eq_true q127
                have p128 : 0 ≤ (x5_1 : Int) := of_decide_eq_true (by first | (with_reducible assumption) | assumption)
                have q128 : x5_1 < (l1.length : Int) := of_decide_eq_true (by first | (with_reducible assumption) | assumption)
                obtain ⟨ad128, e128, hx128_0⟩ := Kd.at_int HR1.out x5_1 p128 q128
                cases e128
                replace p128 := eq_true p128
                replace q128 := eq_true q128
                go_wp2
                repeat (go_quiet (fail); try go_wp2)
                go_ret
                exact ⟨by first | rfl | (simp; done) | (simp [*]; done), by repeat (first | exact Drawn0.refl _ | apply Drawn0.step)⟩
            · rw [if_neg c6] at H
              exact absurd H (by simp)
          · rw [if_neg c5] at H
            exact absurd H (by simp)
        · rw [if_neg c4] at H
          have c4b0 : decide (x5_1 < (l0.length : Int)) = false := decide_eq_false c4
          clear c4
          obtain rfl := Option.some.inj H
          go_wp2
          repeat (go_quiet (fail); try go_wp2)
          go_ret
          exact ⟨by first | rfl | (simp; done) | (simp [*]; done), by repeat (first | exact Drawn0.refl _ | apply Drawn0.step)⟩
  · rw [if_neg c3] at H
    have c3b0 : ((l0.length : Int) == (l1.length : Int)) = false := beq_eq_false_iff_ne.mpr c3
    have c3b1 : ((l0.length : Int) != (l1.length : Int)) = true := bne_iff_ne.mpr c3
    have c3b2 : (l0.length == l1.length) = false := by first | simpa using c3 | (simp at c3 ⊢; omega)
    obtain rfl := Option.some.inj H
    go_enter Try.func40, Try.ntmps40
    go_wp2
    repeat (go_quiet (fail); try go_wp2)
    go_ret
    exact ⟨by first | rfl | (simp; done) | (simp [*]; done), by repeat (first | exact Drawn0.refl _ | apply Drawn0.step)⟩

/-! ### bits_Bit: function 43 -/
def bits_Bit.f (l0 : List Int) (a1 : Int) : Option (Int × Bool) := if a1 < 0 then (some (0, false)) else (if (wrap64 (Int.tdiv a1 8)) ≥ (l0.length : Int) then (some (0, false)) else (if 0 ≤ (wrap64 (Int.tdiv a1 8)) then (if (wrap64 (Int.tdiv a1 8)) < (l0.length : Int) then (if 0 ≤ (Int.tmod a1 8) then (some (wrap64 (Go.bits .and .u8 (shr .u8 (rd l0 (wrap64 (Int.tdiv a1 8))) (Int.tmod a1 8)) 1), true)) else (none)) else (none)) else (none)))
set_option maxHeartbeats 8000000 in
set_option maxRecDepth 100000 in
theorem bits_Bit.calls (A0 : Option Addr) (c0 : Nat) (l0 : List Int) (a1 : Int) (r1 : Int) (r2 : Bool) (w : World) (hr0 : Kd.C (Kd.int .u8) w A0 l0.length l0) (hc0 : l0.length ≤ c0) (h : bits_Bit.f l0 a1 = some (r1, r2)) :
    Calls Try.prog 43 #[.slice A0 l0.length c0, .int .i64 a1] w fun e w' => e = .returned (.tuple #[.int .i64 r1, .bool r2]) ∧ Drawn0 w w' := by
  have HR0 := Aside0.mk hr0
  have HC0 := Aside0.mk hc0
  clear hr0 hc0
  have H : (if a1 < 0 then (some (0, false)) else (if (wrap64 (Int.tdiv a1 8)) ≥ (l0.length : Int) then (some (0, false)) else (if 0 ≤ (wrap64 (Int.tdiv a1 8)) then (if (wrap64 (Int.tdiv a1 8)) < (l0.length : Int) then (if 0 ≤ (Int.tmod a1 8) then (some (wrap64 (Go.bits .and .u8 (shr .u8 (rd l0 (wrap64 (Int.tdiv a1 8))) (Int.tmod a1 8)) 1), true)) else (none)) else (none)) else (none)))) = some (r1, r2) := h
  clear h
  by_cases c3 : a1 < 0
  · rw [if_pos c3] at H
    have c3b0 : decide (a1 < 0) = true := decide_eq_true c3
    clear c3
    simp only [Option.some.injEq, Prod.mk.injEq] at H
    obtain ⟨rfl, rfl⟩ := H
    go_enter Try.func43, Try.ntmps43
    go_wp2
    go_ret2
    exact ⟨by first | rfl | (simp; done) | (simp [*]; done), by repeat (first | exact Drawn0.refl _ | apply Drawn0.step)⟩
  · rw [if_neg c3] at H
    have c3b0 : decide (a1 < 0) = false := decide_eq_false c3
    clear c3
    by_cases c4 : (wrap64 (Int.tdiv a1 8)) ≥ (l0.length : Int)
    · rw [if_pos c4] at H
      have c4b0 : decide ((l0.length : Int) ≤ (wrap64 (Int.tdiv a1 8))) = true := decide_eq_true c4
      clear c4
      simp only [Option.some.injEq, Prod.mk.injEq] at H
      obtain ⟨rfl, rfl⟩ := H
      go_enter Try.func43, Try.ntmps43
      go_wp2
      go_ret2
      exact ⟨by first | rfl | (simp; done) | (simp [*]; done), by repeat (first | exact Drawn0.refl _ | apply Drawn0.step)⟩
    · rw [if_neg c4] at H
      have c4b0 : decide ((l0.length : Int) ≤ (wrap64 (Int.tdiv a1 8))) = false := decide_eq_false c4
      clear c4
      obtain ⟨ji5, hji5⟩ : ∃ j_ : Int, (wrap64 (Int.tdiv a1 8)) = j_ := ⟨_, rfl⟩
      replace H : (if 0 ≤ (ji5) then (if (ji5) < (l0.length : Int) then (if 0 ≤ (Int.tmod a1 8) then (some (wrap64 (Go.bits .and .u8 (shr .u8 (rd l0 (ji5)) (Int.tmod a1 8)) 1), true)) else (none)) else (none)) else (none)) = some (r1, r2) := by first | (rw [hji5] at H; exact H) | (simp only [hji5] at H ⊢; exact H)
      (try rw [hji5] at c4b0)
      have hji5w : (IntKind.i64.wrap (Int.tdiv a1 8)) = ji5 := (i64_w _).trans hji5
      by_cases c6 : 0 ≤ (ji5)
      · rw [if_pos c6] at H
        have c6b0 : decide (0 ≤ (ji5)) = true := decide_eq_true c6
        clear c6
        by_cases c7 : (ji5) < (l0.length : Int)
        · rw [if_pos c7] at H
          have c7b0 : decide ((ji5) < (l0.length : Int)) = true := decide_eq_true c7
          clear c7
          obtain ⟨ji8, hji8⟩ : ∃ j_ : Int, (Int.tmod a1 8) = j_ := ⟨_, rfl⟩
          replace H : (if 0 ≤ (ji8) then (some (wrap64 (Go.bits .and .u8 (shr .u8 (rd l0 (ji5)) (ji8)) 1), true)) else (none)) = some (r1, r2) := by first | (rw [hji8] at H; exact H) | (simp only [hji8] at H ⊢; exact H)
          by_cases c9 : 0 ≤ (ji8)
          · rw [if_pos c9] at H
            have c9b0 := eq_true c9
            have c9b1 : decide (0 ≤ (ji8)) = true := decide_eq_true c9
            clear c9
            obtain ⟨ji10, hji10⟩ : ∃ j_ : Int, (shr .u8 (rd l0 (ji5)) (ji8)) = j_ := ⟨_, rfl⟩
            replace H : (some (wrap64 (Go.bits .and .u8 (ji10) 1), true)) = some (r1, r2) := by first | (rw [hji10] at H; exact H) | (simp only [hji10] at H ⊢; exact H)
            have hji10_ : ((rd l0 (ji5)) / 2 ^ min (ji8).toNat 8) = ji10 := hji10
            have hji10z : (ji8) ≤ 8 → ((rd l0 (ji5)) / 2 ^ (ji8).toNat) = ji10 := shr_small hji10
            simp only [Option.some.injEq, Prod.mk.injEq] at H
            obtain ⟨rfl, rfl⟩ := H
            have p129 : 0 ≤ ((ji5) : Int) := of_decide_eq_true (by first | (with_reducible assumption) | assumption)
            have q129 : (ji5) < (l0.length : Int) := of_decide_eq_true (by first | (with_reducible assumption) | assumption)
            obtain ⟨ad129, e129, hx129_0⟩ := Kd.at_int HR0.out (ji5) p129 q129
            cases e129
            replace p129 := eq_true p129
            replace q129 := eq_true q129
            go_enter Try.func43, Try.ntmps43
            go_wp2
            go_ret2
            exact ⟨by first | rfl | (simp; done) | (simp only [← hji5, ← hji8, ← hji10] <;> (first | rfl | simp)) | (simp [*]; done), by repeat (first | exact Drawn0.refl _ | apply Drawn0.step)⟩
          · rw [if_neg c9] at H
            exact absurd H (by simp)
        · rw [if_neg c7] at H
          exact absurd H (by simp)
      · rw [if_neg c6] at H
        exact absurd H (by simp)

/-! ### pyxlaw05_awake: function 35 -/
def pyxlaw05_awake.f (k : Nat)  : Option (Bool) := (bits_Pack.f k 4 (([1, 2, 3] : List Int))).bind fun bt133 => ((bits_Unpack.f k 4 3 (([33, 3] : List Int))).bind fun bt140 => ((bits_Unpack.f k 4 3 (([33, 19] : List Int))).bind fun bt147 => ((bits_Pack.f k 4 (([16] : List Int))).bind fun bt154 => ((bits_Bit.f (([0, 2] : List Int)) 9).bind fun bt161 => ((pyxref01_Same.f k bt133.1 (([33, 3] : List Int))).bind fun t166 => (if t166 = true then (if bt133.2 = true then ((pyxref05_Same.f k bt140.1 (([1, 2, 3] : List Int))).bind fun t170 => (if t170 = true then (if bt140.2 = true then (if bt147.2 = true then (some false) else (if bt154.2 = true then (some false) else (if bt161.1 = 1 then (if bt161.2 = true then ((bits_Size.f 4 3).bind fun t171 => (if t171 = 2 then ((bits_Least.f 255).bind fun t172 => (some (t172 == 8))) else (some false))) else (some false)) else (some false)))) else (some false)) else (some false))) else (some false)) else (some false)))))))
theorem pyxlaw05_awake.mono : ∀ k, LeO (pyxlaw05_awake.f k ) (pyxlaw05_awake.f (k + 1) ) := by
  intro  k
  unfold pyxlaw05_awake.f
  repeat' first
      | (with_reducible exact bits_Pack.mono _ _ _)
      | (with_reducible exact bits_Unpack.mono _ _ _ _)
      | (with_reducible exact pyxref01_Same.mono _ _ _)
      | (with_reducible exact pyxref05_Same.mono _ _ _)
      | (with_reducible exact LeO.refl _)
      | (with_reducible exact LeO.none _)
      | (with_reducible refine LeO.ite ?_ ?_)
      | (with_reducible refine LeO.bind ?_ (fun _ => ?_))
      | exact bits_Pack.mono _ _ _
      | exact bits_Unpack.mono _ _ _ _
      | exact pyxref01_Same.mono _ _ _
      | exact pyxref05_Same.mono _ _ _
      | exact LeO.none _
      | refine LeO.ite ?_ ?_
      | refine LeO.bind ?_ (fun _ => ?_)
theorem pyxlaw05_awake.eval : pyxlaw05_awake.f 64 = some true := by kernel_rfl
theorem pyxlaw05_awake.only {k : Nat} {r : Bool} (h : pyxlaw05_awake.f k = some r) : r = true := by
  obtain ⟨k', h1, h2⟩ := together pyxlaw05_awake.mono pyxlaw05_awake.mono ⟨k, h⟩ ⟨64, pyxlaw05_awake.eval⟩
  exact Option.some.inj (h1.symm.trans h2)
set_option maxHeartbeats 8000000 in
set_option maxRecDepth 100000 in
theorem pyxlaw05_awake.calls (k : Nat)  (r : Bool) (w : World) (h : pyxlaw05_awake.f k  = some r) :
    Calls Try.prog 35 #[] w fun e w' => e = .returned (.bool r) ∧ Below w.heap.size w w' := by
  have HT := Aside0.mk (pyxlaw05_awake.only h)
  have HB := Aside0.mk (Below.refl w.heap.size w)
  have H : ((bits_Pack.f k 4 (([1, 2, 3] : List Int))).bind fun bt133 => ((bits_Unpack.f k 4 3 (([33, 3] : List Int))).bind fun bt140 => ((bits_Unpack.f k 4 3 (([33, 19] : List Int))).bind fun bt147 => ((bits_Pack.f k 4 (([16] : List Int))).bind fun bt154 => ((bits_Bit.f (([0, 2] : List Int)) 9).bind fun bt161 => ((pyxref01_Same.f k bt133.1 (([33, 3] : List Int))).bind fun t166 => (if t166 = true then (if bt133.2 = true then ((pyxref05_Same.f k bt140.1 (([1, 2, 3] : List Int))).bind fun t170 => (if t170 = true then (if bt140.2 = true then (if bt147.2 = true then (some false) else (if bt154.2 = true then (some false) else (if bt161.1 = 1 then (if bt161.2 = true then ((bits_Size.f 4 3).bind fun t171 => (if t171 = 2 then ((bits_Least.f 255).bind fun t172 => (some (t172 == 8))) else (some false))) else (some false)) else (some false)))) else (some false)) else (some false))) else (some false)) else (some false)))))))) = some r := h
  clear h
  obtain ⟨y130, hy130⟩ : ∃ y_ : List Int, y_ = (([1, 2, 3] : List Int)) := ⟨_, rfl⟩
  replace H : ((bits_Pack.f k 4 y130).bind fun bt133 => ((bits_Unpack.f k 4 3 (([33, 3] : List Int))).bind fun bt140 => ((bits_Unpack.f k 4 3 (([33, 19] : List Int))).bind fun bt147 => ((bits_Pack.f k 4 (([16] : List Int))).bind fun bt154 => ((bits_Bit.f (([0, 2] : List Int)) 9).bind fun bt161 => ((pyxref01_Same.f k bt133.1 (([33, 3] : List Int))).bind fun t166 => (if t166 = true then (if bt133.2 = true then ((pyxref05_Same.f k bt140.1 (([1, 2, 3] : List Int))).bind fun t170 => (if t170 = true then (if bt140.2 = true then (if bt147.2 = true then (some false) else (if bt154.2 = true then (some false) else (if bt161.1 = 1 then (if bt161.2 = true then ((bits_Size.f 4 3).bind fun t171 => (if t171 = 2 then ((bits_Least.f 255).bind fun t172 => (some (t172 == 8))) else (some false))) else (some false)) else (some false)))) else (some false)) else (some false))) else (some false)) else (some false)))))))) = some r := by first | (rw [hy130]; with_reducible exact H) | (have H2_ := (Option.bind_some _ _).symm.trans H; rw [hy130]; with_reducible exact H2_) | (have H2_ := (Option.bind_some _ _).symm.trans H; with_reducible exact H2_) | with_reducible exact H | (rw [hy130]; exact H) | exact H
  have Ny130 := Aside0.mk hy130
  clear hy130
  replace H := Option.bind_eq_some_iff.mp H
  obtain ⟨⟨t133, t134⟩, A10, H⟩ := H
  replace H : ((bits_Unpack.f k 4 3 (([33, 3] : List Int))).bind fun bt140 => ((bits_Unpack.f k 4 3 (([33, 19] : List Int))).bind fun bt147 => ((bits_Pack.f k 4 (([16] : List Int))).bind fun bt154 => ((bits_Bit.f (([0, 2] : List Int)) 9).bind fun bt161 => ((pyxref01_Same.f k t133 (([33, 3] : List Int))).bind fun t166 => (if t166 = true then (if t134 = true then ((pyxref05_Same.f k bt140.1 (([1, 2, 3] : List Int))).bind fun t170 => (if t170 = true then (if bt140.2 = true then (if bt147.2 = true then (some false) else (if bt154.2 = true then (some false) else (if bt161.1 = 1 then (if bt161.2 = true then ((bits_Size.f 4 3).bind fun t171 => (if t171 = 2 then ((bits_Least.f 255).bind fun t172 => (some (t172 == 8))) else (some false))) else (some false)) else (some false)))) else (some false)) else (some false))) else (some false)) else (some false))))))) = some r := H
  have A1 := Aside0.mk A10
  clear A10
  obtain ⟨y137, hy137⟩ : ∃ y_ : List Int, y_ = (([33, 3] : List Int)) := ⟨_, rfl⟩
  replace H : ((bits_Unpack.f k 4 3 y137).bind fun bt140 => ((bits_Unpack.f k 4 3 (([33, 19] : List Int))).bind fun bt147 => ((bits_Pack.f k 4 (([16] : List Int))).bind fun bt154 => ((bits_Bit.f (([0, 2] : List Int)) 9).bind fun bt161 => ((pyxref01_Same.f k t133 (([33, 3] : List Int))).bind fun t166 => (if t166 = true then (if t134 = true then ((pyxref05_Same.f k bt140.1 (([1, 2, 3] : List Int))).bind fun t170 => (if t170 = true then (if bt140.2 = true then (if bt147.2 = true then (some false) else (if bt154.2 = true then (some false) else (if bt161.1 = 1 then (if bt161.2 = true then ((bits_Size.f 4 3).bind fun t171 => (if t171 = 2 then ((bits_Least.f 255).bind fun t172 => (some (t172 == 8))) else (some false))) else (some false)) else (some false)))) else (some false)) else (some false))) else (some false)) else (some false))))))) = some r := by first | (rw [hy137]; with_reducible exact H) | (have H2_ := (Option.bind_some _ _).symm.trans H; rw [hy137]; with_reducible exact H2_) | (have H2_ := (Option.bind_some _ _).symm.trans H; with_reducible exact H2_) | with_reducible exact H | (rw [hy137]; exact H) | exact H
  have Ny137 := Aside0.mk hy137
  clear hy137
  replace H := Option.bind_eq_some_iff.mp H
  obtain ⟨⟨t140, t143⟩, A20, H⟩ := H
  replace H : ((bits_Unpack.f k 4 3 (([33, 19] : List Int))).bind fun bt147 => ((bits_Pack.f k 4 (([16] : List Int))).bind fun bt154 => ((bits_Bit.f (([0, 2] : List Int)) 9).bind fun bt161 => ((pyxref01_Same.f k t133 (([33, 3] : List Int))).bind fun t166 => (if t166 = true then (if t134 = true then ((pyxref05_Same.f k t140 (([1, 2, 3] : List Int))).bind fun t170 => (if t170 = true then (if t143 = true then (if bt147.2 = true then (some false) else (if bt154.2 = true then (some false) else (if bt161.1 = 1 then (if bt161.2 = true then ((bits_Size.f 4 3).bind fun t171 => (if t171 = 2 then ((bits_Least.f 255).bind fun t172 => (some (t172 == 8))) else (some false))) else (some false)) else (some false)))) else (some false)) else (some false))) else (some false)) else (some false)))))) = some r := H
  have A2 := Aside0.mk A20
  clear A20
  obtain ⟨y144, hy144⟩ : ∃ y_ : List Int, y_ = (([33, 19] : List Int)) := ⟨_, rfl⟩
  replace H : ((bits_Unpack.f k 4 3 y144).bind fun bt147 => ((bits_Pack.f k 4 (([16] : List Int))).bind fun bt154 => ((bits_Bit.f (([0, 2] : List Int)) 9).bind fun bt161 => ((pyxref01_Same.f k t133 (([33, 3] : List Int))).bind fun t166 => (if t166 = true then (if t134 = true then ((pyxref05_Same.f k t140 (([1, 2, 3] : List Int))).bind fun t170 => (if t170 = true then (if t143 = true then (if bt147.2 = true then (some false) else (if bt154.2 = true then (some false) else (if bt161.1 = 1 then (if bt161.2 = true then ((bits_Size.f 4 3).bind fun t171 => (if t171 = 2 then ((bits_Least.f 255).bind fun t172 => (some (t172 == 8))) else (some false))) else (some false)) else (some false)))) else (some false)) else (some false))) else (some false)) else (some false)))))) = some r := by first | (rw [hy144]; with_reducible exact H) | (have H2_ := (Option.bind_some _ _).symm.trans H; rw [hy144]; with_reducible exact H2_) | (have H2_ := (Option.bind_some _ _).symm.trans H; with_reducible exact H2_) | with_reducible exact H | (rw [hy144]; exact H) | exact H
  have Ny144 := Aside0.mk hy144
  clear hy144
  replace H := Option.bind_eq_some_iff.mp H
  obtain ⟨⟨t147, t150⟩, A30, H⟩ := H
  replace H : ((bits_Pack.f k 4 (([16] : List Int))).bind fun bt154 => ((bits_Bit.f (([0, 2] : List Int)) 9).bind fun bt161 => ((pyxref01_Same.f k t133 (([33, 3] : List Int))).bind fun t166 => (if t166 = true then (if t134 = true then ((pyxref05_Same.f k t140 (([1, 2, 3] : List Int))).bind fun t170 => (if t170 = true then (if t143 = true then (if t150 = true then (some false) else (if bt154.2 = true then (some false) else (if bt161.1 = 1 then (if bt161.2 = true then ((bits_Size.f 4 3).bind fun t171 => (if t171 = 2 then ((bits_Least.f 255).bind fun t172 => (some (t172 == 8))) else (some false))) else (some false)) else (some false)))) else (some false)) else (some false))) else (some false)) else (some false))))) = some r := H
  have A3 := Aside0.mk A30
  clear A30
  obtain ⟨y151, hy151⟩ : ∃ y_ : List Int, y_ = (([16] : List Int)) := ⟨_, rfl⟩
  replace H : ((bits_Pack.f k 4 y151).bind fun bt154 => ((bits_Bit.f (([0, 2] : List Int)) 9).bind fun bt161 => ((pyxref01_Same.f k t133 (([33, 3] : List Int))).bind fun t166 => (if t166 = true then (if t134 = true then ((pyxref05_Same.f k t140 (([1, 2, 3] : List Int))).bind fun t170 => (if t170 = true then (if t143 = true then (if t150 = true then (some false) else (if bt154.2 = true then (some false) else (if bt161.1 = 1 then (if bt161.2 = true then ((bits_Size.f 4 3).bind fun t171 => (if t171 = 2 then ((bits_Least.f 255).bind fun t172 => (some (t172 == 8))) else (some false))) else (some false)) else (some false)))) else (some false)) else (some false))) else (some false)) else (some false))))) = some r := by first | (rw [hy151]; with_reducible exact H) | (have H2_ := (Option.bind_some _ _).symm.trans H; rw [hy151]; with_reducible exact H2_) | (have H2_ := (Option.bind_some _ _).symm.trans H; with_reducible exact H2_) | with_reducible exact H | (rw [hy151]; exact H) | exact H
  have Ny151 := Aside0.mk hy151
  clear hy151
  replace H := Option.bind_eq_some_iff.mp H
  obtain ⟨⟨t154, t155⟩, A40, H⟩ := H
  replace H : ((bits_Bit.f (([0, 2] : List Int)) 9).bind fun bt161 => ((pyxref01_Same.f k t133 (([33, 3] : List Int))).bind fun t166 => (if t166 = true then (if t134 = true then ((pyxref05_Same.f k t140 (([1, 2, 3] : List Int))).bind fun t170 => (if t170 = true then (if t143 = true then (if t150 = true then (some false) else (if t155 = true then (some false) else (if bt161.1 = 1 then (if bt161.2 = true then ((bits_Size.f 4 3).bind fun t171 => (if t171 = 2 then ((bits_Least.f 255).bind fun t172 => (some (t172 == 8))) else (some false))) else (some false)) else (some false)))) else (some false)) else (some false))) else (some false)) else (some false)))) = some r := H
  have A4 := Aside0.mk A40
  clear A40
  obtain ⟨y158, hy158⟩ : ∃ y_ : List Int, y_ = (([0, 2] : List Int)) := ⟨_, rfl⟩
  replace H : ((bits_Bit.f y158 9).bind fun bt161 => ((pyxref01_Same.f k t133 (([33, 3] : List Int))).bind fun t166 => (if t166 = true then (if t134 = true then ((pyxref05_Same.f k t140 (([1, 2, 3] : List Int))).bind fun t170 => (if t170 = true then (if t143 = true then (if t150 = true then (some false) else (if t155 = true then (some false) else (if bt161.1 = 1 then (if bt161.2 = true then ((bits_Size.f 4 3).bind fun t171 => (if t171 = 2 then ((bits_Least.f 255).bind fun t172 => (some (t172 == 8))) else (some false))) else (some false)) else (some false)))) else (some false)) else (some false))) else (some false)) else (some false)))) = some r := by first | (rw [hy158]; with_reducible exact H) | (have H2_ := (Option.bind_some _ _).symm.trans H; rw [hy158]; with_reducible exact H2_) | (have H2_ := (Option.bind_some _ _).symm.trans H; with_reducible exact H2_) | with_reducible exact H | (rw [hy158]; exact H) | exact H
  have Ny158 := Aside0.mk hy158
  clear hy158
  replace H := Option.bind_eq_some_iff.mp H
  obtain ⟨⟨t161, t162⟩, A50, H⟩ := H
  replace H : ((pyxref01_Same.f k t133 (([33, 3] : List Int))).bind fun t166 => (if t166 = true then (if t134 = true then ((pyxref05_Same.f k t140 (([1, 2, 3] : List Int))).bind fun t170 => (if t170 = true then (if t143 = true then (if t150 = true then (some false) else (if t155 = true then (some false) else (if t161 = 1 then (if t162 = true then ((bits_Size.f 4 3).bind fun t171 => (if t171 = 2 then ((bits_Least.f 255).bind fun t172 => (some (t172 == 8))) else (some false))) else (some false)) else (some false)))) else (some false)) else (some false))) else (some false)) else (some false))) = some r := H
  have A5 := Aside0.mk A50
  clear A50
  obtain ⟨y163, hy163⟩ : ∃ y_ : List Int, y_ = (([33, 3] : List Int)) := ⟨_, rfl⟩
  replace H : ((pyxref01_Same.f k t133 y163).bind fun t166 => (if t166 = true then (if t134 = true then ((pyxref05_Same.f k t140 (([1, 2, 3] : List Int))).bind fun t170 => (if t170 = true then (if t143 = true then (if t150 = true then (some false) else (if t155 = true then (some false) else (if t161 = 1 then (if t162 = true then ((bits_Size.f 4 3).bind fun t171 => (if t171 = 2 then ((bits_Least.f 255).bind fun t172 => (some (t172 == 8))) else (some false))) else (some false)) else (some false)))) else (some false)) else (some false))) else (some false)) else (some false))) = some r := by first | (rw [hy163]; with_reducible exact H) | (have H2_ := (Option.bind_some _ _).symm.trans H; rw [hy163]; with_reducible exact H2_) | (have H2_ := (Option.bind_some _ _).symm.trans H; with_reducible exact H2_) | with_reducible exact H | (rw [hy163]; exact H) | exact H
  have Ny163 := Aside0.mk hy163
  clear hy163
  replace H := Option.bind_eq_some_iff.mp H
  obtain ⟨t166, A60, H⟩ := H
  replace H : (if t166 = true then (if t134 = true then ((pyxref05_Same.f k t140 (([1, 2, 3] : List Int))).bind fun t170 => (if t170 = true then (if t143 = true then (if t150 = true then (some false) else (if t155 = true then (some false) else (if t161 = 1 then (if t162 = true then ((bits_Size.f 4 3).bind fun t171 => (if t171 = 2 then ((bits_Least.f 255).bind fun t172 => (some (t172 == 8))) else (some false))) else (some false)) else (some false)))) else (some false)) else (some false))) else (some false)) else (some false)) = some r := H
  have A6 := Aside0.mk A60
  clear A60
  by_cases c7 : t166 = true
  · subst c7
    have H1 : (if t134 = true then ((pyxref05_Same.f k t140 (([1, 2, 3] : List Int))).bind fun t170 => (if t170 = true then (if t143 = true then (if t150 = true then (some false) else (if t155 = true then (some false) else (if t161 = 1 then (if t162 = true then ((bits_Size.f 4 3).bind fun t171 => (if t171 = 2 then ((bits_Least.f 255).bind fun t172 => (some (t172 == 8))) else (some false))) else (some false)) else (some false)))) else (some false)) else (some false))) else (some false)) = some r := by rw [if_pos rfl] at H; exact H
    clear H
    have H := H1
    clear H1
    by_cases c8 : t134 = true
    · subst c8
      have H1 : ((pyxref05_Same.f k t140 (([1, 2, 3] : List Int))).bind fun t170 => (if t170 = true then (if t143 = true then (if t150 = true then (some false) else (if t155 = true then (some false) else (if t161 = 1 then (if t162 = true then ((bits_Size.f 4 3).bind fun t171 => (if t171 = 2 then ((bits_Least.f 255).bind fun t172 => (some (t172 == 8))) else (some false))) else (some false)) else (some false)))) else (some false)) else (some false))) = some r := by rw [if_pos rfl] at H; exact H
      clear H
      have H := H1
      clear H1
      obtain ⟨y167, hy167⟩ : ∃ y_ : List Int, y_ = (([1, 2, 3] : List Int)) := ⟨_, rfl⟩
      replace H : ((pyxref05_Same.f k t140 y167).bind fun t170 => (if t170 = true then (if t143 = true then (if t150 = true then (some false) else (if t155 = true then (some false) else (if t161 = 1 then (if t162 = true then ((bits_Size.f 4 3).bind fun t171 => (if t171 = 2 then ((bits_Least.f 255).bind fun t172 => (some (t172 == 8))) else (some false))) else (some false)) else (some false)))) else (some false)) else (some false))) = some r := by first | (rw [hy167]; with_reducible exact H) | (have H2_ := (Option.bind_some _ _).symm.trans H; rw [hy167]; with_reducible exact H2_) | (have H2_ := (Option.bind_some _ _).symm.trans H; with_reducible exact H2_) | with_reducible exact H | (rw [hy167]; exact H) | exact H
      have Ny167 := Aside0.mk hy167
      clear hy167
      replace H := Option.bind_eq_some_iff.mp H
      obtain ⟨t170, A90, H⟩ := H
      replace H : (if t170 = true then (if t143 = true then (if t150 = true then (some false) else (if t155 = true then (some false) else (if t161 = 1 then (if t162 = true then ((bits_Size.f 4 3).bind fun t171 => (if t171 = 2 then ((bits_Least.f 255).bind fun t172 => (some (t172 == 8))) else (some false))) else (some false)) else (some false)))) else (some false)) else (some false)) = some r := H
      have A9 := Aside0.mk A90
      clear A90
      by_cases c10 : t170 = true
      · subst c10
        have H1 : (if t143 = true then (if t150 = true then (some false) else (if t155 = true then (some false) else (if t161 = 1 then (if t162 = true then ((bits_Size.f 4 3).bind fun t171 => (if t171 = 2 then ((bits_Least.f 255).bind fun t172 => (some (t172 == 8))) else (some false))) else (some false)) else (some false)))) else (some false)) = some r := by rw [if_pos rfl] at H; exact H
        clear H
        have H := H1
        clear H1
        by_cases c11 : t143 = true
        · subst c11
          have H1 : (if t150 = true then (some false) else (if t155 = true then (some false) else (if t161 = 1 then (if t162 = true then ((bits_Size.f 4 3).bind fun t171 => (if t171 = 2 then ((bits_Least.f 255).bind fun t172 => (some (t172 == 8))) else (some false))) else (some false)) else (some false)))) = some r := by rw [if_pos rfl] at H; exact H
          clear H
          have H := H1
          clear H1
          by_cases c12 : t150 = true
          · subst c12
            have H1 : (some false) = some r := by rw [if_pos rfl] at H; exact H
            clear H
            have H := H1
            clear H1
            exact absurd ((Option.some.inj H).trans HT.out) (by decide)
          · replace c12 := Bool.eq_false_iff.mpr c12
            subst c12
            have H1 : (if t155 = true then (some false) else (if t161 = 1 then (if t162 = true then ((bits_Size.f 4 3).bind fun t171 => (if t171 = 2 then ((bits_Least.f 255).bind fun t172 => (some (t172 == 8))) else (some false))) else (some false)) else (some false))) = some r := by rw [if_neg (show ¬ (false = true) by decide)] at H; exact H
            clear H
            have H := H1
            clear H1
            by_cases c13 : t155 = true
            · subst c13
              have H1 : (some false) = some r := by rw [if_pos rfl] at H; exact H
              clear H
              have H := H1
              clear H1
              exact absurd ((Option.some.inj H).trans HT.out) (by decide)
            · replace c13 := Bool.eq_false_iff.mpr c13
              subst c13
              have H1 : (if t161 = 1 then (if t162 = true then ((bits_Size.f 4 3).bind fun t171 => (if t171 = 2 then ((bits_Least.f 255).bind fun t172 => (some (t172 == 8))) else (some false))) else (some false)) else (some false)) = some r := by rw [if_neg (show ¬ (false = true) by decide)] at H; exact H
              clear H
              have H := H1
              clear H1
              by_cases c14 : t161 = 1
              · rw [if_pos c14] at H
                have c14b0 : (t161 == 1) = true := beq_iff_eq.mpr c14
                have c14b1 : (t161 != 1) = false := bne_eq_false_iff_eq.mpr c14
                clear c14
                by_cases c15 : t162 = true
                · subst c15
                  have H1 : ((bits_Size.f 4 3).bind fun t171 => (if t171 = 2 then ((bits_Least.f 255).bind fun t172 => (some (t172 == 8))) else (some false))) = some r := by rw [if_pos rfl] at H; exact H
                  clear H
                  have H := H1
                  clear H1
                  replace H := Option.bind_eq_some_iff.mp H
                  obtain ⟨t171, A160, H⟩ := H
                  replace H : (if t171 = 2 then ((bits_Least.f 255).bind fun t172 => (some (t172 == 8))) else (some false)) = some r := H
                  have A16 := Aside0.mk A160
                  clear A160
                  by_cases c17 : t171 = 2
                  · rw [if_pos c17] at H
                    have c17b0 : (t171 == 2) = true := beq_iff_eq.mpr c17
                    have c17b1 : (t171 != 2) = false := bne_eq_false_iff_eq.mpr c17
                    clear c17
                    replace H := Option.bind_eq_some_iff.mp H
                    obtain ⟨t172, A180, H⟩ := H
                    replace H : (some (t172 == 8)) = some r := H
                    have A18 := Aside0.mk A180
                    clear A180
                    obtain rfl := Option.some.inj H
                    go_enter Try.func35, Try.ntmps35
                    go_wp2_with (first | ((with_reducible refine gate_dst (N := 12) rfl ?_); (try (refine gate_guard (by rfl) ?_; dsimp only)); refine Kd.R_lit (Kd.int .u32) _ 34 ?hg (N := 12) ?hd (xs := ([1, 2, 3] : List Int)) (inner := [.int .u32 1, .int .u32 2, .int .u32 3]) (ok := fun _ => True) (okp := fun _ => True) ?hr ?hp (fun _ hk => hk) trivial (Below.refl _ _) (Nat.le_refl _) (by simp) ?_; (case hd => rfl); (case hg => rfl); (case hr => first | (go_simp; done) | (go_simp; rfl)); (case hp => exact (Reps.one (show Kd.M (Kd.int .u32) _ _ _ 1 [.int .u32 1] from rfl) (Reps.one (show Kd.M (Kd.int .u32) _ _ _ 2 [.int .u32 2] from rfl) (Reps.one (show Kd.M (Kd.int .u32) _ _ _ 3 [.int .u32 3] from rfl) (Reps.none _ _))))); intro v131 w19 ho20 hb hg_ hnew_; clear hg_ hnew_; (first | rw [← Ny130.out] at ho20 | (simp only [Int.reduceToNat] at ho20; rw [← Ny130.out] at ho20)); have n0_ := Aside0.mk (Kd.R_lower ho20 (below_size (by repeat (first | (with_reducible first | exact HB.out | apply below_alloc | apply pw_below_drewN | apply below_drew1) | exact HB.out)))); have n1_ := Aside0.mk (below_step (by repeat (first | (with_reducible first | exact HB.out | apply below_alloc | apply pw_below_drewN | apply below_drew1) | exact HB.out)) hb); clear HB; have HO132 := n0_; have HB := n1_; clear n0_ n1_; clear hb ho20; obtain ⟨Ao21, co21, eo21⟩ := Kd.R_slice HO132.out; subst eo21) | ((with_reducible refine gate_callee (f := 36) rfl ?_); refine goesL_ (some 13) rfl rfl Try.func36 (by kernel_rfl) rfl #[.int .i64 4, .slice Ao21 y130.length co21] rfl (by (try simp only [List.map_toArray, List.map_cons, List.map_nil]); first | done | rfl | (simp only [List.length_drop, List.length_take]; rfl)) ?_; (with_reducible refine (bits_Pack.calls k 4 _ _ y130 t133 true _ ?side1 ?side2 A1.out).mono ?_); (case side1 => repeat (first | exact (Kd.R_reads' HO132.out).2.2 | (with_reducible refine Kd.C_alloc ?_ _) | (with_reducible refine Kd.C_drewN ?_ _) | (with_reducible refine Kd.C_drew ?_))); (case side2 => exact (Kd.R_reads' HO132.out).2.1); rintro e w22 ⟨v135, rfl, ho0, hb⟩; refine ⟨_, rfl, ?_⟩; have n0_ := Aside0.mk (Kd.R_below (by (with_reducible repeat (first | apply Kd.R_alloc | apply Kd.R_drewN | apply Kd.R_drew)); exact HO132.out) hb); have n1_ := Aside0.mk (Kd.R_lower ho0 (below_size (by repeat (first | (with_reducible first | exact HB.out | apply below_alloc | apply pw_below_drewN | apply below_drew1) | exact HB.out)))); have n2_ := Aside0.mk (below_step (by repeat (first | (with_reducible first | exact HB.out | apply below_alloc | apply pw_below_drewN | apply below_drew1) | exact HB.out)) hb); clear HO132; clear HB; have HO132 := n0_; have HO136 := n1_; have HB := n2_; clear n0_ n1_ n2_; (try clear hb); (try clear hb2); (try clear hk); (try clear hi); (try clear ho0)) | ((with_reducible refine gate_dst (N := 17) rfl ?_); (try (refine gate_guard (by rfl) ?_; dsimp only)); refine Kd.R_lit (Kd.int .u8) _ 5 ?hg (N := 17) ?hd (xs := ([33, 3] : List Int)) (inner := [.int .u8 33, .int .u8 3]) (ok := fun _ => True) (okp := fun _ => True) ?hr ?hp (fun _ hk => hk) trivial (Below.refl _ _) (Nat.le_refl _) (by simp) ?_; (case hd => rfl); (case hg => rfl); (case hr => first | (go_simp; done) | (go_simp; rfl)); (case hp => exact (Reps.one (show Kd.M (Kd.int .u8) _ _ _ 33 [.int .u8 33] from rfl) (Reps.one (show Kd.M (Kd.int .u8) _ _ _ 3 [.int .u8 3] from rfl) (Reps.none _ _)))); intro v138 w23 ho24 hb hg_ hnew_; clear hg_ hnew_; (first | rw [← Ny137.out] at ho24 | (simp only [Int.reduceToNat] at ho24; rw [← Ny137.out] at ho24)); have n0_ := Aside0.mk (Kd.R_below (by (with_reducible repeat (first | apply Kd.R_alloc | apply Kd.R_drewN | apply Kd.R_drew)); exact HO132.out) hb); have n1_ := Aside0.mk (Kd.R_elder' (by (with_reducible repeat (first | apply Kd.R_alloc | apply Kd.R_drewN | apply Kd.R_drew)); exact HO136.out) (Kd.R_base ho24) hb); have n2_ := Aside0.mk (Kd.R_lower (Kd.R_new' ho24 (Kd.R_lt (by (with_reducible repeat (first | apply Kd.R_alloc | apply Kd.R_drewN | apply Kd.R_drew)); exact HO136.out))) (below_size (by repeat (first | (with_reducible first | exact HB.out | apply below_alloc | apply pw_below_drewN | apply below_drew1) | exact HB.out)))); have n3_ := Aside0.mk (below_step (by repeat (first | (with_reducible first | exact HB.out | apply below_alloc | apply pw_below_drewN | apply below_drew1) | exact HB.out)) hb); clear HO132; clear HO136; clear HB; have HO132 := n0_; have HO136 := n1_; have HO139 := n2_; have HB := n3_; clear n0_ n1_ n2_ n3_; clear hb ho24; obtain ⟨Ao25, co25, eo25⟩ := Kd.R_slice HO139.out; subst eo25) | ((with_reducible refine gate_callee (f := 38) rfl ?_); refine goesL_ (some 18) rfl rfl Try.func38 (by kernel_rfl) rfl #[.int .i64 4, .int .i64 3, .slice Ao25 y137.length co25] rfl (by (try simp only [List.map_toArray, List.map_cons, List.map_nil]); first | done | rfl | (simp only [List.length_drop, List.length_take]; rfl)) ?_; (with_reducible refine (bits_Unpack.calls k 4 3 (fun k_ => some k_ = (.slice Ao25 y137.length co25 : Value).ownBlock) _ _ y137 t140 true _ ?side1 A2.out).mono ?_); (case side1 => exact Kd.R_V (Kd.R_tight rfl (Kd.R_apart' (HO139.out) (Kd.R_typed HO132.out) (by decide)))); rintro e w26 ⟨v141, rfl, ho0, hb⟩; refine ⟨_, rfl, ?_⟩; have n0_ := Aside0.mk (Kd.R_elder' (by (with_reducible repeat (first | apply Kd.R_alloc | apply Kd.R_drewN | apply Kd.R_drew)); exact HO132.out) (Kd.R_base ho0) hb); have n1_ := Aside0.mk (Kd.R_below (by (with_reducible repeat (first | apply Kd.R_alloc | apply Kd.R_drewN | apply Kd.R_drew)); exact HO136.out) hb); have n2_ := Aside0.mk (Kd.R_below (by (with_reducible repeat (first | apply Kd.R_alloc | apply Kd.R_drewN | apply Kd.R_drew)); exact HO139.out) hb); have n3_ := Aside0.mk (Kd.R_lower (Kd.R_new' (Kd.R_mono (ok' := fun k_ => True) ho0 (fun _ hk_ => trivial)) (Kd.R_lt (by (with_reducible repeat (first | apply Kd.R_alloc | apply Kd.R_drewN | apply Kd.R_drew)); exact HO132.out))) (below_size (by repeat (first | (with_reducible first | exact HB.out | apply below_alloc | apply pw_below_drewN | apply below_drew1) | exact HB.out)))); have n4_ := Aside0.mk (below_step (by repeat (first | (with_reducible first | exact HB.out | apply below_alloc | apply pw_below_drewN | apply below_drew1) | exact HB.out)) hb); clear HO132; clear HO136; clear HO139; clear HB; have HO132 := n0_; have HO136 := n1_; have HO139 := n2_; have HO142 := n3_; have HB := n4_; clear n0_ n1_ n2_ n3_ n4_; (try clear hb); (try clear hb2); (try clear hk); (try clear hi); (try clear ho0)) | ((with_reducible refine gate_dst (N := 22) rfl ?_); (try (refine gate_guard (by rfl) ?_; dsimp only)); refine Kd.R_lit (Kd.int .u8) _ 5 ?hg (N := 22) ?hd (xs := ([33, 19] : List Int)) (inner := [.int .u8 33, .int .u8 19]) (ok := fun _ => True) (okp := fun _ => True) ?hr ?hp (fun _ hk => hk) trivial (Below.refl _ _) (Nat.le_refl _) (by simp) ?_; (case hd => rfl); (case hg => rfl); (case hr => first | (go_simp; done) | (go_simp; rfl)); (case hp => exact (Reps.one (show Kd.M (Kd.int .u8) _ _ _ 33 [.int .u8 33] from rfl) (Reps.one (show Kd.M (Kd.int .u8) _ _ _ 19 [.int .u8 19] from rfl) (Reps.none _ _)))); intro v145 w27 ho28 hb hg_ hnew_; clear hg_ hnew_; (first | rw [← Ny144.out] at ho28 | (simp only [Int.reduceToNat] at ho28; rw [← Ny144.out] at ho28)); have n0_ := Aside0.mk (Kd.R_below (by (with_reducible repeat (first | apply Kd.R_alloc | apply Kd.R_drewN | apply Kd.R_drew)); exact HO132.out) hb); have n1_ := Aside0.mk (Kd.R_elder' (by (with_reducible repeat (first | apply Kd.R_alloc | apply Kd.R_drewN | apply Kd.R_drew)); exact HO136.out) (Kd.R_base ho28) hb); have n2_ := Aside0.mk (Kd.R_elder' (by (with_reducible repeat (first | apply Kd.R_alloc | apply Kd.R_drewN | apply Kd.R_drew)); exact HO139.out) (Kd.R_base ho28) hb); have n3_ := Aside0.mk (Kd.R_below (by (with_reducible repeat (first | apply Kd.R_alloc | apply Kd.R_drewN | apply Kd.R_drew)); exact HO142.out) hb); have n4_ := Aside0.mk (Kd.R_lower (Kd.R_new' (Kd.R_new' ho28 (Kd.R_lt (by (with_reducible repeat (first | apply Kd.R_alloc | apply Kd.R_drewN | apply Kd.R_drew)); exact HO136.out))) (Kd.R_lt (by (with_reducible repeat (first | apply Kd.R_alloc | apply Kd.R_drewN | apply Kd.R_drew)); exact HO139.out))) (below_size (by repeat (first | (with_reducible first | exact HB.out | apply below_alloc | apply pw_below_drewN | apply below_drew1) | exact HB.out)))); have n5_ := Aside0.mk (below_step (by repeat (first | (with_reducible first | exact HB.out | apply below_alloc | apply pw_below_drewN | apply below_drew1) | exact HB.out)) hb); clear HO132; clear HO136; clear HO139; clear HO142; clear HB; have HO132 := n0_; have HO136 := n1_; have HO139 := n2_; have HO142 := n3_; have HO146 := n4_; have HB := n5_; clear n0_ n1_ n2_ n3_ n4_ n5_; clear hb ho28; obtain ⟨Ao29, co29, eo29⟩ := Kd.R_slice HO146.out; subst eo29) | ((with_reducible refine gate_callee (f := 38) rfl ?_); refine goesL_ (some 23) rfl rfl Try.func38 (by kernel_rfl) rfl #[.int .i64 4, .int .i64 3, .slice Ao29 y144.length co29] rfl (by (try simp only [List.map_toArray, List.map_cons, List.map_nil]); first | done | rfl | (simp only [List.length_drop, List.length_take]; rfl)) ?_; (with_reducible refine (bits_Unpack.calls k 4 3 (fun k_ => some k_ = (.slice Ao29 y144.length co29 : Value).ownBlock) _ _ y144 t147 false _ ?side1 A3.out).mono ?_); (case side1 => exact Kd.R_V (Kd.R_tight rfl (Kd.R_apart' (Kd.R_apart' (HO146.out) (Kd.R_typed HO132.out) (by decide)) (Kd.R_typed HO142.out) (by decide)))); rintro e w30 ⟨v148, rfl, ho0, hb⟩; refine ⟨_, rfl, ?_⟩; have n0_ := Aside0.mk (Kd.R_elder' (by (with_reducible repeat (first | apply Kd.R_alloc | apply Kd.R_drewN | apply Kd.R_drew)); exact HO132.out) (Kd.R_base ho0) hb); have n1_ := Aside0.mk (Kd.R_below (by (with_reducible repeat (first | apply Kd.R_alloc | apply Kd.R_drewN | apply Kd.R_drew)); exact HO136.out) hb); have n2_ := Aside0.mk (Kd.R_below (by (with_reducible repeat (first | apply Kd.R_alloc | apply Kd.R_drewN | apply Kd.R_drew)); exact HO139.out) hb); have n3_ := Aside0.mk (Kd.R_elder' (by (with_reducible repeat (first | apply Kd.R_alloc | apply Kd.R_drewN | apply Kd.R_drew)); exact HO142.out) (Kd.R_base ho0) hb); have n4_ := Aside0.mk (Kd.R_below (by (with_reducible repeat (first | apply Kd.R_alloc | apply Kd.R_drewN | apply Kd.R_drew)); exact HO146.out) hb); have n5_ := Aside0.mk (Kd.R_lower (Kd.R_new' (Kd.R_new' (Kd.R_mono (ok' := fun k_ => True) ho0 (fun _ hk_ => trivial)) (Kd.R_lt (by (with_reducible repeat (first | apply Kd.R_alloc | apply Kd.R_drewN | apply Kd.R_drew)); exact HO132.out))) (Kd.R_lt (by (with_reducible repeat (first | apply Kd.R_alloc | apply Kd.R_drewN | apply Kd.R_drew)); exact HO142.out))) (below_size (by repeat (first | (with_reducible first | exact HB.out | apply below_alloc | apply pw_below_drewN | apply below_drew1) | exact HB.out)))); have n6_ := Aside0.mk (below_step (by repeat (first | (with_reducible first | exact HB.out | apply below_alloc | apply pw_below_drewN | apply below_drew1) | exact HB.out)) hb); clear HO132; clear HO136; clear HO139; clear HO142; clear HO146; clear HB; have HO132 := n0_; have HO136 := n1_; have HO139 := n2_; have HO142 := n3_; have HO146 := n4_; have HO149 := n5_; have HB := n6_; clear n0_ n1_ n2_ n3_ n4_ n5_ n6_; (try clear hb); (try clear hb2); (try clear hk); (try clear hi); (try clear ho0)) | ((with_reducible refine gate_dst (N := 27) rfl ?_); (try (refine gate_guard (by rfl) ?_; dsimp only)); refine Kd.R_lit (Kd.int .u32) _ 34 ?hg (N := 27) ?hd (xs := ([16] : List Int)) (inner := [.int .u32 16]) (ok := fun _ => True) (okp := fun _ => True) ?hr ?hp (fun _ hk => hk) trivial (Below.refl _ _) (Nat.le_refl _) (by simp) ?_; (case hd => rfl); (case hg => rfl); (case hr => first | (go_simp; done) | (go_simp; rfl)); (case hp => exact (Reps.one (show Kd.M (Kd.int .u32) _ _ _ 16 [.int .u32 16] from rfl) (Reps.none _ _))); intro v152 w31 ho32 hb hg_ hnew_; clear hg_ hnew_; (first | rw [← Ny151.out] at ho32 | (simp only [Int.reduceToNat] at ho32; rw [← Ny151.out] at ho32)); have n0_ := Aside0.mk (Kd.R_elder' (by (with_reducible repeat (first | apply Kd.R_alloc | apply Kd.R_drewN | apply Kd.R_drew)); exact HO132.out) (Kd.R_base ho32) hb); have n1_ := Aside0.mk (Kd.R_below (by (with_reducible repeat (first | apply Kd.R_alloc | apply Kd.R_drewN | apply Kd.R_drew)); exact HO136.out) hb); have n2_ := Aside0.mk (Kd.R_below (by (with_reducible repeat (first | apply Kd.R_alloc | apply Kd.R_drewN | apply Kd.R_drew)); exact HO139.out) hb); have n3_ := Aside0.mk (Kd.R_elder' (by (with_reducible repeat (first | apply Kd.R_alloc | apply Kd.R_drewN | apply Kd.R_drew)); exact HO142.out) (Kd.R_base ho32) hb); have n4_ := Aside0.mk (Kd.R_below (by (with_reducible repeat (first | apply Kd.R_alloc | apply Kd.R_drewN | apply Kd.R_drew)); exact HO146.out) hb); have n5_ := Aside0.mk (Kd.R_elder' (by (with_reducible repeat (first | apply Kd.R_alloc | apply Kd.R_drewN | apply Kd.R_drew)); exact HO149.out) (Kd.R_base ho32) hb); have n6_ := Aside0.mk (Kd.R_lower (Kd.R_new' (Kd.R_new' (Kd.R_new' ho32 (Kd.R_lt (by (with_reducible repeat (first | apply Kd.R_alloc | apply Kd.R_drewN | apply Kd.R_drew)); exact HO132.out))) (Kd.R_lt (by (with_reducible repeat (first | apply Kd.R_alloc | apply Kd.R_drewN | apply Kd.R_drew)); exact HO142.out))) (Kd.R_lt (by (with_reducible repeat (first | apply Kd.R_alloc | apply Kd.R_drewN | apply Kd.R_drew)); exact HO149.out))) (below_size (by repeat (first | (with_reducible first | exact HB.out | apply below_alloc | apply pw_below_drewN | apply below_drew1) | exact HB.out)))); have n7_ := Aside0.mk (below_step (by repeat (first | (with_reducible first | exact HB.out | apply below_alloc | apply pw_below_drewN | apply below_drew1) | exact HB.out)) hb); clear HO132; clear HO136; clear HO139; clear HO142; clear HO146; clear HO149; clear HB; have HO132 := n0_; have HO136 := n1_; have HO139 := n2_; have HO142 := n3_; have HO146 := n4_; have HO149 := n5_; have HO153 := n6_; have HB := n7_; clear n0_ n1_ n2_ n3_ n4_ n5_ n6_ n7_; clear hb ho32; obtain ⟨Ao33, co33, eo33⟩ := Kd.R_slice HO153.out; subst eo33) | ((with_reducible refine gate_callee (f := 36) rfl ?_); refine goesL_ (some 28) rfl rfl Try.func36 (by kernel_rfl) rfl #[.int .i64 4, .slice Ao33 y151.length co33] rfl (by (try simp only [List.map_toArray, List.map_cons, List.map_nil]); first | done | rfl | (simp only [List.length_drop, List.length_take]; rfl)) ?_; (with_reducible refine (bits_Pack.calls k 4 _ _ y151 t154 false _ ?side1 ?side2 A4.out).mono ?_); (case side1 => repeat (first | exact (Kd.R_reads' HO153.out).2.2 | (with_reducible refine Kd.C_alloc ?_ _) | (with_reducible refine Kd.C_drewN ?_ _) | (with_reducible refine Kd.C_drew ?_))); (case side2 => exact (Kd.R_reads' HO153.out).2.1); rintro e w34 ⟨v156, rfl, ho0, hb⟩; refine ⟨_, rfl, ?_⟩; have n0_ := Aside0.mk (Kd.R_below (by (with_reducible repeat (first | apply Kd.R_alloc | apply Kd.R_drewN | apply Kd.R_drew)); exact HO132.out) hb); have n1_ := Aside0.mk (Kd.R_elder' (by (with_reducible repeat (first | apply Kd.R_alloc | apply Kd.R_drewN | apply Kd.R_drew)); exact HO136.out) (Kd.R_base ho0) hb); have n2_ := Aside0.mk (Kd.R_elder' (by (with_reducible repeat (first | apply Kd.R_alloc | apply Kd.R_drewN | apply Kd.R_drew)); exact HO139.out) (Kd.R_base ho0) hb); have n3_ := Aside0.mk (Kd.R_below (by (with_reducible repeat (first | apply Kd.R_alloc | apply Kd.R_drewN | apply Kd.R_drew)); exact HO142.out) hb); have n4_ := Aside0.mk (Kd.R_elder' (by (with_reducible repeat (first | apply Kd.R_alloc | apply Kd.R_drewN | apply Kd.R_drew)); exact HO146.out) (Kd.R_base ho0) hb); have n5_ := Aside0.mk (Kd.R_below (by (with_reducible repeat (first | apply Kd.R_alloc | apply Kd.R_drewN | apply Kd.R_drew)); exact HO149.out) hb); have n6_ := Aside0.mk (Kd.R_below (by (with_reducible repeat (first | apply Kd.R_alloc | apply Kd.R_drewN | apply Kd.R_drew)); exact HO153.out) hb); have n7_ := Aside0.mk (Kd.R_lower (Kd.R_new' (Kd.R_new' (Kd.R_new' ho0 (Kd.R_lt (by (with_reducible repeat (first | apply Kd.R_alloc | apply Kd.R_drewN | apply Kd.R_drew)); exact HO136.out))) (Kd.R_lt (by (with_reducible repeat (first | apply Kd.R_alloc | apply Kd.R_drewN | apply Kd.R_drew)); exact HO139.out))) (Kd.R_lt (by (with_reducible repeat (first | apply Kd.R_alloc | apply Kd.R_drewN | apply Kd.R_drew)); exact HO146.out))) (below_size (by repeat (first | (with_reducible first | exact HB.out | apply below_alloc | apply pw_below_drewN | apply below_drew1) | exact HB.out)))); have n8_ := Aside0.mk (below_step (by repeat (first | (with_reducible first | exact HB.out | apply below_alloc | apply pw_below_drewN | apply below_drew1) | exact HB.out)) hb); clear HO132; clear HO136; clear HO139; clear HO142; clear HO146; clear HO149; clear HO153; clear HB; have HO132 := n0_; have HO136 := n1_; have HO139 := n2_; have HO142 := n3_; have HO146 := n4_; have HO149 := n5_; have HO153 := n6_; have HO157 := n7_; have HB := n8_; clear n0_ n1_ n2_ n3_ n4_ n5_ n6_ n7_ n8_; (try clear hb); (try clear hb2); (try clear hk); (try clear hi); (try clear ho0)) | ((with_reducible refine gate_dst (N := 32) rfl ?_); (try (refine gate_guard (by rfl) ?_; dsimp only)); refine Kd.R_lit (Kd.int .u8) _ 5 ?hg (N := 32) ?hd (xs := ([0, 2] : List Int)) (inner := [.int .u8 0, .int .u8 2]) (ok := fun _ => True) (okp := fun _ => True) ?hr ?hp (fun _ hk => hk) trivial (Below.refl _ _) (Nat.le_refl _) (by simp) ?_; (case hd => rfl); (case hg => rfl); (case hr => first | (go_simp; done) | (go_simp; rfl)); (case hp => exact (Reps.one (show Kd.M (Kd.int .u8) _ _ _ 0 [.int .u8 0] from rfl) (Reps.one (show Kd.M (Kd.int .u8) _ _ _ 2 [.int .u8 2] from rfl) (Reps.none _ _)))); intro v159 w35 ho36 hb hg_ hnew_; clear hg_ hnew_; (first | rw [← Ny158.out] at ho36 | (simp only [Int.reduceToNat] at ho36; rw [← Ny158.out] at ho36)); have n0_ := Aside0.mk (Kd.R_below (by (with_reducible repeat (first | apply Kd.R_alloc | apply Kd.R_drewN | apply Kd.R_drew)); exact HO132.out) hb); have n1_ := Aside0.mk (Kd.R_elder' (by (with_reducible repeat (first | apply Kd.R_alloc | apply Kd.R_drewN | apply Kd.R_drew)); exact HO136.out) (Kd.R_base ho36) hb); have n2_ := Aside0.mk (Kd.R_elder' (by (with_reducible repeat (first | apply Kd.R_alloc | apply Kd.R_drewN | apply Kd.R_drew)); exact HO139.out) (Kd.R_base ho36) hb); have n3_ := Aside0.mk (Kd.R_below (by (with_reducible repeat (first | apply Kd.R_alloc | apply Kd.R_drewN | apply Kd.R_drew)); exact HO142.out) hb); have n4_ := Aside0.mk (Kd.R_elder' (by (with_reducible repeat (first | apply Kd.R_alloc | apply Kd.R_drewN | apply Kd.R_drew)); exact HO146.out) (Kd.R_base ho36) hb); have n5_ := Aside0.mk (Kd.R_below (by (with_reducible repeat (first | apply Kd.R_alloc | apply Kd.R_drewN | apply Kd.R_drew)); exact HO149.out) hb); have n6_ := Aside0.mk (Kd.R_below (by (with_reducible repeat (first | apply Kd.R_alloc | apply Kd.R_drewN | apply Kd.R_drew)); exact HO153.out) hb); have n7_ := Aside0.mk (Kd.R_elder' (by (with_reducible repeat (first | apply Kd.R_alloc | apply Kd.R_drewN | apply Kd.R_drew)); exact HO157.out) (Kd.R_base ho36) hb); have n8_ := Aside0.mk (Kd.R_lower (Kd.R_new' (Kd.R_new' (Kd.R_new' (Kd.R_new' ho36 (Kd.R_lt (by (with_reducible repeat (first | apply Kd.R_alloc | apply Kd.R_drewN | apply Kd.R_drew)); exact HO136.out))) (Kd.R_lt (by (with_reducible repeat (first | apply Kd.R_alloc | apply Kd.R_drewN | apply Kd.R_drew)); exact HO139.out))) (Kd.R_lt (by (with_reducible repeat (first | apply Kd.R_alloc | apply Kd.R_drewN | apply Kd.R_drew)); exact HO146.out))) (Kd.R_lt (by (with_reducible repeat (first | apply Kd.R_alloc | apply Kd.R_drewN | apply Kd.R_drew)); exact HO157.out))) (below_size (by repeat (first | (with_reducible first | exact HB.out | apply below_alloc | apply pw_below_drewN | apply below_drew1) | exact HB.out)))); have n9_ := Aside0.mk (below_step (by repeat (first | (with_reducible first | exact HB.out | apply below_alloc | apply pw_below_drewN | apply below_drew1) | exact HB.out)) hb); clear HO132; clear HO136; clear HO139; clear HO142; clear HO146; clear HO149; clear HO153; clear HO157; clear HB; have HO132 := n0_; have HO136 := n1_; have HO139 := n2_; have HO142 := n3_; have HO146 := n4_; have HO149 := n5_; have HO153 := n6_; have HO157 := n7_; have HO160 := n8_; have HB := n9_; clear n0_ n1_ n2_ n3_ n4_ n5_ n6_ n7_ n8_ n9_; clear hb ho36; obtain ⟨Ao37, co37, eo37⟩ := Kd.R_slice HO160.out; subst eo37) | ((with_reducible refine gate_callee (f := 43) rfl ?_); refine goesL_ (some 33) rfl rfl Try.func43 (by kernel_rfl) rfl #[.slice Ao37 y158.length co37, .int .i64 9] rfl (by (try simp only [List.map_toArray, List.map_cons, List.map_nil]); first | done | rfl | (simp only [List.length_drop, List.length_take]; rfl)) ?_; (with_reducible refine (bits_Bit.calls _ _ y158 9 t161 true _ ?side1 ?side2 A5.out).mono ?_); (case side1 => repeat (first | exact (Kd.R_reads' HO160.out).2.2 | (with_reducible refine Kd.C_alloc ?_ _) | (with_reducible refine Kd.C_drewN ?_ _) | (with_reducible refine Kd.C_drew ?_))); (case side2 => exact (Kd.R_reads' HO160.out).2.1); rintro e w' ⟨rfl, ⟨nd, rfl⟩⟩; refine ⟨_, rfl, ?_⟩) | ((with_reducible refine gate_dst (N := 37) rfl ?_); (try (refine gate_guard (by rfl) ?_; dsimp only)); refine Kd.R_lit (Kd.int .u8) _ 5 ?hg (N := 37) ?hd (xs := ([33, 3] : List Int)) (inner := [.int .u8 33, .int .u8 3]) (ok := fun _ => True) (okp := fun _ => True) ?hr ?hp (fun _ hk => hk) trivial (Below.refl _ _) (Nat.le_refl _) (by simp) ?_; (case hd => rfl); (case hg => rfl); (case hr => first | (go_simp; done) | (go_simp; rfl)); (case hp => exact (Reps.one (show Kd.M (Kd.int .u8) _ _ _ 33 [.int .u8 33] from rfl) (Reps.one (show Kd.M (Kd.int .u8) _ _ _ 3 [.int .u8 3] from rfl) (Reps.none _ _)))); intro v164 w38 ho39 hb hg_ hnew_; clear hg_ hnew_; (first | rw [← Ny163.out] at ho39 | (simp only [Int.reduceToNat] at ho39; rw [← Ny163.out] at ho39)); have n0_ := Aside0.mk (Kd.R_below (by (with_reducible repeat (first | apply Kd.R_alloc | apply Kd.R_drewN | apply Kd.R_drew)); exact HO132.out) hb); have n1_ := Aside0.mk (Kd.R_elder' (by (with_reducible repeat (first | apply Kd.R_alloc | apply Kd.R_drewN | apply Kd.R_drew)); exact HO136.out) (Kd.R_base ho39) hb); have n2_ := Aside0.mk (Kd.R_elder' (by (with_reducible repeat (first | apply Kd.R_alloc | apply Kd.R_drewN | apply Kd.R_drew)); exact HO139.out) (Kd.R_base ho39) hb); have n3_ := Aside0.mk (Kd.R_below (by (with_reducible repeat (first | apply Kd.R_alloc | apply Kd.R_drewN | apply Kd.R_drew)); exact HO142.out) hb); have n4_ := Aside0.mk (Kd.R_elder' (by (with_reducible repeat (first | apply Kd.R_alloc | apply Kd.R_drewN | apply Kd.R_drew)); exact HO146.out) (Kd.R_base ho39) hb); have n5_ := Aside0.mk (Kd.R_below (by (with_reducible repeat (first | apply Kd.R_alloc | apply Kd.R_drewN | apply Kd.R_drew)); exact HO149.out) hb); have n6_ := Aside0.mk (Kd.R_below (by (with_reducible repeat (first | apply Kd.R_alloc | apply Kd.R_drewN | apply Kd.R_drew)); exact HO153.out) hb); have n7_ := Aside0.mk (Kd.R_elder' (by (with_reducible repeat (first | apply Kd.R_alloc | apply Kd.R_drewN | apply Kd.R_drew)); exact HO157.out) (Kd.R_base ho39) hb); have n8_ := Aside0.mk (Kd.R_elder' (by (with_reducible repeat (first | apply Kd.R_alloc | apply Kd.R_drewN | apply Kd.R_drew)); exact HO160.out) (Kd.R_base ho39) hb); have n9_ := Aside0.mk (Kd.R_lower (Kd.R_new' (Kd.R_new' (Kd.R_new' (Kd.R_new' (Kd.R_new' ho39 (Kd.R_lt (by (with_reducible repeat (first | apply Kd.R_alloc | apply Kd.R_drewN | apply Kd.R_drew)); exact HO136.out))) (Kd.R_lt (by (with_reducible repeat (first | apply Kd.R_alloc | apply Kd.R_drewN | apply Kd.R_drew)); exact HO139.out))) (Kd.R_lt (by (with_reducible repeat (first | apply Kd.R_alloc | apply Kd.R_drewN | apply Kd.R_drew)); exact HO146.out))) (Kd.R_lt (by (with_reducible repeat (first | apply Kd.R_alloc | apply Kd.R_drewN | apply Kd.R_drew)); exact HO157.out))) (Kd.R_lt (by (with_reducible repeat (first | apply Kd.R_alloc | apply Kd.R_drewN | apply Kd.R_drew)); exact HO160.out))) (below_size (by repeat (first | (with_reducible first | exact HB.out | apply below_alloc | apply pw_below_drewN | apply below_drew1) | exact HB.out)))); have n10_ := Aside0.mk (below_step (by repeat (first | (with_reducible first | exact HB.out | apply below_alloc | apply pw_below_drewN | apply below_drew1) | exact HB.out)) hb); clear HO132; clear HO136; clear HO139; clear HO142; clear HO146; clear HO149; clear HO153; clear HO157; clear HO160; clear HB; have HO132 := n0_; have HO136 := n1_; have HO139 := n2_; have HO142 := n3_; have HO146 := n4_; have HO149 := n5_; have HO153 := n6_; have HO157 := n7_; have HO160 := n8_; have HO165 := n9_; have HB := n10_; clear n0_ n1_ n2_ n3_ n4_ n5_ n6_ n7_ n8_ n9_ n10_; clear hb ho39; obtain ⟨Ao40, co40, eo40⟩ := Kd.R_slice HO136.out; subst eo40; obtain ⟨Ao41, co41, eo41⟩ := Kd.R_slice HO165.out; subst eo41) | ((with_reducible refine gate_callee (f := 30) rfl ?_); refine goesL_ (some 38) rfl rfl Try.func30 (by kernel_rfl) rfl #[.slice Ao40 t133.length co40, .slice Ao41 y163.length co41] rfl (by (try simp only [List.map_toArray, List.map_cons, List.map_nil]); first | done | rfl | (simp only [List.length_drop, List.length_take]; rfl)) ?_; (with_reducible refine (pyxref01_Same.calls k _ _ t133 _ _ y163 true _ ?side1 ?side2 ?side3 ?side4 A6.out).mono ?_); (case side1 => repeat (first | exact (Kd.R_reads' HO136.out).2.2 | (with_reducible refine Kd.C_alloc ?_ _) | (with_reducible refine Kd.C_drewN ?_ _) | (with_reducible refine Kd.C_drew ?_))); (case side2 => exact (Kd.R_reads' HO136.out).2.1); (case side3 => repeat (first | exact (Kd.R_reads' HO165.out).2.2 | (with_reducible refine Kd.C_alloc ?_ _) | (with_reducible refine Kd.C_drewN ?_ _) | (with_reducible refine Kd.C_drew ?_))); (case side4 => exact (Kd.R_reads' HO165.out).2.1); rintro e w' ⟨rfl, ⟨nd, rfl⟩⟩; refine ⟨_, rfl, ?_⟩) | ((with_reducible refine gate_dst (N := 44) rfl ?_); (try (refine gate_guard (by rfl) ?_; dsimp only)); refine Kd.R_lit (Kd.int .u32) _ 34 ?hg (N := 44) ?hd (xs := ([1, 2, 3] : List Int)) (inner := [.int .u32 1, .int .u32 2, .int .u32 3]) (ok := fun _ => True) (okp := fun _ => True) ?hr ?hp (fun _ hk => hk) trivial (Below.refl _ _) (Nat.le_refl _) (by simp) ?_; (case hd => rfl); (case hg => rfl); (case hr => first | (go_simp; done) | (go_simp; rfl)); (case hp => exact (Reps.one (show Kd.M (Kd.int .u32) _ _ _ 1 [.int .u32 1] from rfl) (Reps.one (show Kd.M (Kd.int .u32) _ _ _ 2 [.int .u32 2] from rfl) (Reps.one (show Kd.M (Kd.int .u32) _ _ _ 3 [.int .u32 3] from rfl) (Reps.none _ _))))); intro v168 w42 ho43 hb hg_ hnew_; clear hg_ hnew_; (first | rw [← Ny167.out] at ho43 | (simp only [Int.reduceToNat] at ho43; rw [← Ny167.out] at ho43)); have n0_ := Aside0.mk (Kd.R_elder' (by (with_reducible repeat (first | apply Kd.R_alloc | apply Kd.R_drewN | apply Kd.R_drew)); exact HO132.out) (Kd.R_base ho43) hb); have n1_ := Aside0.mk (Kd.R_below (by (with_reducible repeat (first | apply Kd.R_alloc | apply Kd.R_drewN | apply Kd.R_drew)); exact HO136.out) hb); have n2_ := Aside0.mk (Kd.R_below (by (with_reducible repeat (first | apply Kd.R_alloc | apply Kd.R_drewN | apply Kd.R_drew)); exact HO139.out) hb); have n3_ := Aside0.mk (Kd.R_elder' (by (with_reducible repeat (first | apply Kd.R_alloc | apply Kd.R_drewN | apply Kd.R_drew)); exact HO142.out) (Kd.R_base ho43) hb); have n4_ := Aside0.mk (Kd.R_below (by (with_reducible repeat (first | apply Kd.R_alloc | apply Kd.R_drewN | apply Kd.R_drew)); exact HO146.out) hb); have n5_ := Aside0.mk (Kd.R_elder' (by (with_reducible repeat (first | apply Kd.R_alloc | apply Kd.R_drewN | apply Kd.R_drew)); exact HO149.out) (Kd.R_base ho43) hb); have n6_ := Aside0.mk (Kd.R_elder' (by (with_reducible repeat (first | apply Kd.R_alloc | apply Kd.R_drewN | apply Kd.R_drew)); exact HO153.out) (Kd.R_base ho43) hb); have n7_ := Aside0.mk (Kd.R_below (by (with_reducible repeat (first | apply Kd.R_alloc | apply Kd.R_drewN | apply Kd.R_drew)); exact HO157.out) hb); have n8_ := Aside0.mk (Kd.R_below (by (with_reducible repeat (first | apply Kd.R_alloc | apply Kd.R_drewN | apply Kd.R_drew)); exact HO160.out) hb); have n9_ := Aside0.mk (Kd.R_below (by (with_reducible repeat (first | apply Kd.R_alloc | apply Kd.R_drewN | apply Kd.R_drew)); exact HO165.out) hb); have n10_ := Aside0.mk (Kd.R_lower (Kd.R_new' (Kd.R_new' (Kd.R_new' (Kd.R_new' ho43 (Kd.R_lt (by (with_reducible repeat (first | apply Kd.R_alloc | apply Kd.R_drewN | apply Kd.R_drew)); exact HO132.out))) (Kd.R_lt (by (with_reducible repeat (first | apply Kd.R_alloc | apply Kd.R_drewN | apply Kd.R_drew)); exact HO142.out))) (Kd.R_lt (by (with_reducible repeat (first | apply Kd.R_alloc | apply Kd.R_drewN | apply Kd.R_drew)); exact HO149.out))) (Kd.R_lt (by (with_reducible repeat (first | apply Kd.R_alloc | apply Kd.R_drewN | apply Kd.R_drew)); exact HO153.out))) (below_size (by repeat (first | (with_reducible first | exact HB.out | apply below_alloc | apply pw_below_drewN | apply below_drew1) | exact HB.out)))); have n11_ := Aside0.mk (below_step (by repeat (first | (with_reducible first | exact HB.out | apply below_alloc | apply pw_below_drewN | apply below_drew1) | exact HB.out)) hb); clear HO132; clear HO136; clear HO139; clear HO142; clear HO146; clear HO149; clear HO153; clear HO157; clear HO160; clear HO165; clear HB; have HO132 := n0_; have HO136 := n1_; have HO139 := n2_; have HO142 := n3_; have HO146 := n4_; have HO149 := n5_; have HO153 := n6_; have HO157 := n7_; have HO160 := n8_; have HO165 := n9_; have HO169 := n10_; have HB := n11_; clear n0_ n1_ n2_ n3_ n4_ n5_ n6_ n7_ n8_ n9_ n10_ n11_; clear hb ho43; obtain ⟨Ao44, co44, eo44⟩ := Kd.R_slice HO142.out; subst eo44; obtain ⟨Ao45, co45, eo45⟩ := Kd.R_slice HO169.out; subst eo45) | (go_at_call 40; (with_reducible refine (pyxref05_Same.calls k _ _ t140 _ _ y167 true _ ?side1 ?side2 ?side3 ?side4 A9.out).mono ?_); (case side1 => repeat (first | exact (Kd.R_reads' HO142.out).2.2 | (with_reducible refine Kd.C_alloc ?_ _) | (with_reducible refine Kd.C_drewN ?_ _) | (with_reducible refine Kd.C_drew ?_))); (case side2 => exact (Kd.R_reads' HO142.out).2.1); (case side3 => repeat (first | exact (Kd.R_reads' HO169.out).2.2 | (with_reducible refine Kd.C_alloc ?_ _) | (with_reducible refine Kd.C_drewN ?_ _) | (with_reducible refine Kd.C_drew ?_))); (case side4 => exact (Kd.R_reads' HO169.out).2.1); rintro e w' ⟨rfl, ⟨nd, rfl⟩⟩) | (go_at_call 41; (with_reducible refine (bits_Size.calls 4 3 t171 _ A16.out).mono ?_); rintro e w' ⟨rfl, ⟨nd, rfl⟩⟩) | (go_at_call 44; (with_reducible refine (bits_Least.calls 255 t172 _ A18.out).mono ?_); rintro e w' ⟨rfl, ⟨nd, rfl⟩⟩))
                    go_ret
                    exact ⟨by first | rfl | (simp [errW_none, errW_some] <;> rfl) | (simp [*, errW_none, errW_some] <;> rfl), by repeat (first | (with_reducible first | exact HB.out | apply below_alloc | apply pw_below_drewN | apply below_drew1) | exact HB.out)⟩
                  · rw [if_neg c17] at H
                    have c17b0 : (t171 == 2) = false := beq_eq_false_iff_ne.mpr c17
                    have c17b1 : (t171 != 2) = true := bne_iff_ne.mpr c17
                    exact absurd ((Option.some.inj H).trans HT.out) (by decide)
                · replace c15 := Bool.eq_false_iff.mpr c15
                  subst c15
                  have H1 : (some false) = some r := by rw [if_neg (show ¬ (false = true) by decide)] at H; exact H
                  clear H
                  have H := H1
                  clear H1
                  exact absurd ((Option.some.inj H).trans HT.out) (by decide)
              · rw [if_neg c14] at H
                have c14b0 : (t161 == 1) = false := beq_eq_false_iff_ne.mpr c14
                have c14b1 : (t161 != 1) = true := bne_iff_ne.mpr c14
                exact absurd ((Option.some.inj H).trans HT.out) (by decide)
        · replace c11 := Bool.eq_false_iff.mpr c11
          subst c11
          have H1 : (some false) = some r := by rw [if_neg (show ¬ (false = true) by decide)] at H; exact H
          clear H
          have H := H1
          clear H1
          exact absurd ((Option.some.inj H).trans HT.out) (by decide)
      · replace c10 := Bool.eq_false_iff.mpr c10
        subst c10
        have H1 : (some false) = some r := by rw [if_neg (show ¬ (false = true) by decide)] at H; exact H
        clear H
        have H := H1
        clear H1
        exact absurd ((Option.some.inj H).trans HT.out) (by decide)
    · replace c8 := Bool.eq_false_iff.mpr c8
      subst c8
      have H1 : (some false) = some r := by rw [if_neg (show ¬ (false = true) by decide)] at H; exact H
      clear H
      have H := H1
      clear H1
      exact absurd ((Option.some.inj H).trans HT.out) (by decide)
  · replace c7 := Bool.eq_false_iff.mpr c7
    subst c7
    have H1 : (some false) = some r := by rw [if_neg (show ¬ (false = true) by decide)] at H; exact H
    clear H
    have H := H1
    clear H1
    exact absurd ((Option.some.inj H).trans HT.out) (by decide)

end Go.Proofs.Ytifejkgppdjeoaa.PBits
