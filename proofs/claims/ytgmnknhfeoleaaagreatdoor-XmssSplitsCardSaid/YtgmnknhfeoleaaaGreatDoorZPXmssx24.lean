import Derived.Test.YtgmnknhfeoleaaaGreatDoorZQ
import Derived.Test.YtgmnknhfeoleaaaGreatDoorZSq
import Derived.Test.YtgmnknhfeoleaaaGreatDoorZPXmssx0
namespace Go.Proofs.YtgmnknhfeoleaaaGreatDoor.PXmss
open Go.RowKit Go.Proofs.YtgmnknhfeoleaaaGreatDoorW.PrintWords Go.Proofs.YtgmnknhfeoleaaaGreatDoorW.PrintLast Go.Proofs.YtgmnknhfeoleaaaGreatDoorW.PrintMore
attribute [local go_sem] max2_int min2_int max_two min_two max_three min_three max_four min_four
set_option linter.unusedVariables false
set_option linter.unusedSimpArgs false
mutual
def pyxlaw22_changed.l0 : Nat → List (S65) → List Int → Int → Option (List Int)
 | 0, _, _, _ => none
 | k + 1, x1, x5, x6 => if x6 < (x1.length : Int) then (if 0 ≤ x6 then (if ((rd_T65 x1 x6).f0) ≥ 0 then (pyxlaw22_changed.j1 k x1 x5 x6 (decide (((rd_T65 x1 x6).f0) < (x5.length : Int)))) else (pyxlaw22_changed.j1 k x1 x5 x6 false)) else (none)) else (some x5)
def pyxlaw22_changed.j1 : Nat → List (S65) → List Int → Int → Bool → Option (List Int)
 | 0, _, _, _, _ => none
 | k + 1, x1, x5, x6, x31 => if x31 = true then (if 0 ≤ x6 then (if x6 < (x1.length : Int) then (if 0 ≤ ((rd_T65 x1 x6).f0) then (if ((rd_T65 x1 x6).f0) < (x5.length : Int) then (pyxlaw22_changed.j2 k x1 (x5.set (((rd_T65 x1 x6).f0) : Int).toNat ((rd_T65 x1 x6).f1)) x6) else (none)) else (none)) else (none)) else (none)) else (pyxlaw22_changed.j2 k x1 x5 x6)
def pyxlaw22_changed.j2 : Nat → List (S65) → List Int → Int → Option (List Int)
 | 0, _, _, _ => none
 | k + 1, x1, x5, x6 => if 0 ≤ x6 then (if x6 < (x1.length : Int) then (if (wrap64 ((rd_T65 x1 x6).f2)) ≤ (x5.length : Int) then (if 0 ≤ (wrap64 ((x5.length : Int) - (wrap64 ((rd_T65 x1 x6).f2)))) then (if (wrap64 ((x5.length : Int) - (wrap64 ((rd_T65 x1 x6).f2)))) ≤ (x5.length : Int) then ((some (x5.take ((wrap64 ((x5.length : Int) - (wrap64 ((rd_T65 x1 x6).f2)))) : Int).toNat : List Int)).bind fun y252 => (if (((rd_T65 x1 x6).f3).length : Int) ≤ 100 then (if y252.length + ((rd_T65 x1 x6).f3).length < 140737488355328 then (pyxlaw22_changed.l0 k x1 (y252 ++ ((rd_T65 x1 x6).f3)) (wrap64 (x6 + 1))) else (none)) else (pyxlaw22_changed.l0 k x1 y252 (wrap64 (x6 + 1))))) else (none)) else (none)) else (if (((rd_T65 x1 x6).f3).length : Int) ≤ 100 then (if x5.length + ((rd_T65 x1 x6).f3).length < 140737488355328 then (pyxlaw22_changed.l0 k x1 (x5 ++ ((rd_T65 x1 x6).f3)) (wrap64 (x6 + 1))) else (none)) else (pyxlaw22_changed.l0 k x1 x5 (wrap64 (x6 + 1))))) else (none)) else (none)
end
def pyxlaw22_changed.f (k : Nat) (l0 : List Int) (l1 : List (S65)) : Option (List Int) := (some (([] : List Int) : List Int)).bind fun y239 => (if y239.length + l0.length < 140737488355328 then (pyxlaw22_changed.l0 k l1 (y239 ++ l0) 0) else (none))
def pyxlaw22_changed.T6 : Bool × List (List Nat × List Nat) := (true, [([], []), ([], []), ([], []), ([1, 2], [1, 2]), ([3], [3]), ([4], [4]), ([], []), ([], []), ([6, 7], [6, 7]), ([8], [8]), ([9], [9]), ([0, 5, 0, 1, 2, 3, 4, 5, 6, 7, 8, 9, 10], [0, 5]), ([11, 10, 0, 1, 2, 3, 4, 5, 6, 7, 8, 9, 10], [10, 11])])
def pyxlaw22_changed.B6 : List Nat := [0, 0, 0, 6, 14, 30, 0, 0, 192, 448, 960, 2047, 4095]
theorem pyxlaw22_changed.tab6 : rtab .any (opsOf Tryz.f9 6) = pyxlaw22_changed.T6 := by kernel_rfl
theorem pyxlaw22_changed.bits6 : waitsOk pyxlaw22_changed.T6.2 pyxlaw22_changed.B6 = true := by kernel_rfl
set_option maxHeartbeats 8000000 in
set_option maxRecDepth 100000 in
theorem pyxlaw22_changed.calls (k : Nat) (A0 : Option Addr) (c0 : Nat) (l0 : List Int) (A1 : Option Addr) (c1 : Nat) (l1 : List (S65)) (r : List Int) (w : World) (hr0 : Kd.C (Kd.int .u8) w A0 l0.length l0) (hc0 : l0.length ≤ c0) (hr1 : Kd.C k65 w A1 l1.length l1) (hc1 : l1.length ≤ c1) (h : pyxlaw22_changed.f k l0 l1 = some r) :
  Calls Tryz.prog 9 #[.slice A0 l0.length c0, .slice A1 l1.length c1] w fun e w' => ∃ v0_ : Value, e = .returned (v0_) ∧ Kd.R (Kd.int .u8) 5 w' w.heap.size (fun _ => True) v0_ r ∧ Below w.heap.size w w' := by
 have HR0 := Aside0.mk hr0
 have HC0 := Aside0.mk hc0
 clear hr0 hc0
 have HR1 := Aside0.mk hr1
 have HC1 := Aside0.mk hc1
 clear hr1 hc1
 have HB := Aside0.mk (Below.refl w.heap.size w)
 have H : ((some (([] : List Int) : List Int)).bind fun y239 => (if y239.length + l0.length < 140737488355328 then (pyxlaw22_changed.l0 k l1 (y239 ++ l0) 0) else (none))) = some r := h
 clear h
 obtain ⟨y239, hy239⟩ : ∃ y_ : List Int, y_ = (([] : List Int)) := ⟨_, rfl⟩
 replace H : (if y239.length + l0.length < 140737488355328 then (pyxlaw22_changed.l0 k l1 (y239 ++ l0) 0) else (none)) = some r := by first | (rw [hy239]; with_reducible exact H) | (have H2_ := (Option.bind_some _ _).symm.trans H; rw [hy239]; with_reducible exact H2_) | (have H2_ := (Option.bind_some _ _).symm.trans H; with_reducible exact H2_) | with_reducible exact H | (rw [hy239]; exact H) | exact H
 have Ny239 := Aside0.mk hy239
 clear hy239
 by_cases c3 : y239.length + l0.length < 140737488355328
 ·rw [if_pos c3] at H
  have LMc3 := Aside0.mk c3
  clear c3
  obtain ⟨y242, hy242⟩ : ∃ y_ : List Int, y_ = (y239 ++ l0) := ⟨_, rfl⟩
  replace H : (pyxlaw22_changed.l0 k l1 y242 0) = some r := by first | (rw [hy242]; with_reducible exact H) | (have H2_ := (Option.bind_some _ _).symm.trans H; rw [hy242]; with_reducible exact H2_) | (have H2_ := (Option.bind_some _ _).symm.trans H; with_reducible exact H2_) | with_reducible exact H | (rw [hy242]; exact H) | exact H
  have Ny242 := Aside0.mk hy242
  clear hy242
  have H' := Aside0.mk H
  clear H
  go_enter Tryz.func9, Tryz.ntmps9
  go_wp2_with (first | ((with_reducible refine gate_dst (N := 7) rfl ?_); (try (refine gate_guard (by rfl) ?_; dsimp only)); refine Kd.R_lit (Kd.int .u8) _ 5 ?hg (N := 7) ?hd (xs := ([] : List Int)) (inner := []) (ok := fun _ => True) (okp := fun _ => True) ?hr ?hp (fun _ hk => hk) trivial (Below.refl _ _) (Nat.le_refl _) (by simp) ?_; (case hd => rfl); (case hg => rfl); (case hr => first | (go_simp; done) | (go_simp; rfl)); (case hp => exact (Reps.none _ _)); intro v240 w4 ho5 hb hg_ hnew_; clear hg_ hnew_; (first | rw [← Ny239.out] at ho5 | (simp only [Int.reduceToNat] at ho5; rw [← Ny239.out] at ho5)); have n0_ := Aside0.mk (Kd.R_lower ho5 (below_size q30_)); have n1_ := Aside0.mk (below_step q30_ hb); clear HB; have HO241 := n0_; have HB := n1_; clear n0_ n1_; clear hb ho5) | ((with_reducible refine gate_builtin (b := .append) (xs := #[.tmp 7, .tmp 8]) rfl ?_); (try (refine gate_guard (by rfl) ?_; dsimp only)); at_builtin; refine Kd.R_append_rows (Kd.int .u8) (w0 := w) w.heap.size rfl (.tmp 7) (.tmp 8) 25 5 (.int .u8 0) 1 rfl Tryz.underlying25 info5 rfl (by decide) (by omega) v240 y239 l0 _ _ _ (fun _ => True) (fun _ => False) rfl rfl ?aO ?aR (fun _ _ h => h) (fun _ h => h.elim) ?aF ?aB ?aS ?aL ?_; (case aR => repeat (first | exact (Kd.C_below HR0.out HB.out) | (with_reducible refine Kd.C_alloc ?_ _) | (with_reducible refine Kd.C_drewN ?_ _) | (with_reducible refine Kd.C_drew ?_))); (case aB => exact q30_); (case aF => exact (fun _ _ => trivial)); (case aO => exact (by (with_reducible repeat (first | apply Kd.R_alloc | apply Kd.R_drewN | apply Kd.R_drew)); exact HO241.out)); (case aS => exact (below_size q30_)); (case aL => have := LMc3.out; omega); intro v243 w6 ho hb hg hat; rw [← Ny242.out] at ho; have n0_ := Aside0.mk (hb); have n1_ := Aside0.mk (ho); clear HB; clear HO241; have HB := n0_; have HO244 := n1_; clear n0_ n1_; clear ho hb hg hat))
  go_loopg [5, 6] k (fun kq v5 v6 w' => ∃ (x5_1 : List Int) (x6_1 : Int), v6 = .int .i64 x6_1 ∧ Aside0 (pyxlaw22_changed.l0 kq l1 x5_1 x6_1 = some r) ∧ Aside0 (kq ≤ k) ∧ Aside0 (Kd.R (Kd.int .u8) 5 w' w.heap.size (fun _ => True) v5 x5_1) ∧ Aside0 (Below w.heap.size w w'))
  case atStart => exact ⟨(y242), (0), q64_, H', ⟨Nat.le_refl _⟩, ⟨by (with_reducible repeat (first | apply Kd.R_alloc | apply Kd.R_drewN | apply Kd.R_drew)); exact HO244.out⟩, ⟨by repeat (first | (with_reducible first | exact HB.out | apply below_alloc | apply pw_below_drewN | apply below_drew1) | exact HB.out)⟩⟩
  case round =>
   clear H'
   try clear c1
   try clear p2
   try clear c3
   obtain ⟨x5_1, x6_1, rfl, HA, HK1, HO_5, HB⟩ := hrel
   cases gk with
   | zero => exact absurd HA.out (by simp [pyxlaw22_changed.l0])
   | succ k1 =>
    have H := HA.out
    clear HA
    simp only [pyxlaw22_changed.l0] at H
    by_cases c7 : x6_1 < (l1.length : Int)
    ·rw [if_pos c7] at H
     have c7b0 : decide (x6_1 < (l1.length : Int)) = true := decide_eq_true c7
     clear c7
     have HC8 := Aside0.mk H
     clear H
     go_upto_region 5 with (fail)
     go_cut [31] (fun v31 wc => ∃ (kq : Nat) (x31_7 : Bool), v31 = .bool x31_7 ∧ Aside0 (pyxlaw22_changed.j1 kq l1 x5_1 x6_1 x31_7 = some r) ∧ Aside0 (kq ≤ k1) ∧ Aside0 (Kd.R (Kd.int .u8) 5 wc w.heap.size (fun _ => True) u5 x5_1) ∧ Aside0 (Below w.heap.size w wc))
     case first =>
      have H := HC8.out
      clear HC8
      by_cases c9 : 0 ≤ x6_1
      ·rw [if_pos c9] at H
       have c9b0 : decide (0 ≤ x6_1) = true := decide_eq_true c9
       clear c9
       (first | rw [c9b0] | (simp only [i64_w, i32_w]; rw [c9b0]) | skip)
       by_cases c10 : ((rd_T65 l1 x6_1).f0) ≥ 0
       ·rw [if_pos c10] at H
        have c10b0 : decide (0 ≤ ((rd_T65 l1 x6_1).f0)) = true := decide_eq_true c10
        clear c10
        have H' := Aside0.mk H
        clear H
        have p245 : 0 ≤ (x6_1 : Int) := of_decide_eq_true q63_
        have q245 : x6_1 < (l1.length : Int) := of_decide_eq_true q63_
        obtain ⟨ad245, A245_3, c245_3, e245, hx245_0, hx245_1, hx245_2, hx245_3, hl245_3, hi245_3⟩ := at_T65 HR1.out x6_1 p245 q245
        cases e245
        replace hx245_0 := (HB.out.cell (World.block_lt_of_cell? w _ hx245_0)).trans hx245_0
        replace hx245_1 := (HB.out.cell (World.block_lt_of_cell? w _ hx245_1)).trans hx245_1
        replace hx245_2 := (HB.out.cell (World.block_lt_of_cell? w _ hx245_2)).trans hx245_2
        replace hx245_3 := (HB.out.cell (World.block_lt_of_cell? w _ hx245_3)).trans hx245_3
        have HR245_3 := Aside0.mk hi245_3
        have HC245_3 := Aside0.mk hl245_3
        clear hi245_3 hl245_3
        replace p245 := eq_true p245
        replace q245 := eq_true q245
        have p246 : 0 ≤ (x6_1 : Int) := of_decide_eq_true q63_
        have q246 : x6_1 < (l1.length : Int) := of_decide_eq_true q63_
        obtain ⟨ad246, A246_3, c246_3, e246, hx246_0, hx246_1, hx246_2, hx246_3, hl246_3, hi246_3⟩ := at_T65 HR1.out x6_1 p246 q246
        obtain rfl : ad245 = ad246 := (by injection e246)
        replace hx246_0 := (HB.out.cell (World.block_lt_of_cell? w _ hx246_0)).trans hx246_0
        replace hx246_1 := (HB.out.cell (World.block_lt_of_cell? w _ hx246_1)).trans hx246_1
        replace hx246_2 := (HB.out.cell (World.block_lt_of_cell? w _ hx246_2)).trans hx246_2
        replace hx246_3 := (HB.out.cell (World.block_lt_of_cell? w _ hx246_3)).trans hx246_3
        have HR246_3 := Aside0.mk hi246_3
        have HC246_3 := Aside0.mk hl246_3
        clear hi246_3 hl246_3
        replace p246 := eq_true p246
        replace q246 := eq_true q246
        have ea_ := Option.some.inj (hx245_3.symm.trans hx246_3)
        injection ea_ with ea_ en_ ec_
        subst ea_
        subst ec_
        clear en_
        obtain ⟨Ao11, co11, eo11⟩ := Kd.R_slice HO_5.out
        subst eo11
        go_wp2
        go_meet
        case rel => exact ⟨_, (decide (((rd_T65 l1 x6_1).f0) < (x5_1.length : Int))), q64_, H', ⟨by have := HK1.out; first | omega | exact Nat.le_refl _⟩, ⟨by (with_reducible repeat (first | apply Kd.R_alloc | apply Kd.R_drewN | apply Kd.R_drew)); exact HO_5.out⟩, ⟨by repeat (first | (with_reducible first | exact HB.out | apply below_alloc | apply pw_below_drewN | apply below_drew1) | exact HB.out)⟩⟩
       ·rw [if_neg c10] at H
        have c10b0 : decide (0 ≤ ((rd_T65 l1 x6_1).f0)) = false := decide_eq_false c10
        clear c10
        have H' := Aside0.mk H
        clear H
        have p245 : 0 ≤ (x6_1 : Int) := of_decide_eq_true q63_
        have q245 : x6_1 < (l1.length : Int) := of_decide_eq_true q63_
        obtain ⟨ad245, A245_3, c245_3, e245, hx245_0, hx245_1, hx245_2, hx245_3, hl245_3, hi245_3⟩ := at_T65 HR1.out x6_1 p245 q245
        cases e245
        replace hx245_0 := (HB.out.cell (World.block_lt_of_cell? w _ hx245_0)).trans hx245_0
        replace hx245_1 := (HB.out.cell (World.block_lt_of_cell? w _ hx245_1)).trans hx245_1
        replace hx245_2 := (HB.out.cell (World.block_lt_of_cell? w _ hx245_2)).trans hx245_2
        replace hx245_3 := (HB.out.cell (World.block_lt_of_cell? w _ hx245_3)).trans hx245_3
        have HR245_3 := Aside0.mk hi245_3
        have HC245_3 := Aside0.mk hl245_3
        clear hi245_3 hl245_3
        replace p245 := eq_true p245
        replace q245 := eq_true q245
        go_wp2
        go_meet
        case rel => exact ⟨_, (false), q64_, H', ⟨by have := HK1.out; first | omega | exact Nat.le_refl _⟩, ⟨by (with_reducible repeat (first | apply Kd.R_alloc | apply Kd.R_drewN | apply Kd.R_drew)); exact HO_5.out⟩, ⟨by repeat (first | (with_reducible first | exact HB.out | apply below_alloc | apply pw_below_drewN | apply below_drew1) | exact HB.out)⟩⟩
      ·rw [if_neg c9] at H
       exact absurd H (by simp)
     case rest =>
      clear HC8
      try clear c1
      try clear c2
      try clear p2
      try clear q2
      try clear hx2
      try clear c3
      try clear c7
      try clear c7b0
      try clear c9
      try clear c9b0
      try clear c10
      try clear c10b0
      try clear hx245_0
      try clear hx245_1
      try clear hx245_2
      try clear hx245_3
      try clear hx246_0
      try clear hx246_1
      try clear hx246_2
      try clear hx246_3
      try clear p2
      try clear p245
      try clear p246
      try clear q245
      try clear q246
      obtain ⟨kq, x31_7, rfl, HA, HJ7, HO_5, HB⟩ := hcut
      cases kq with
      | zero => exact absurd HA.out (by simp [pyxlaw22_changed.j1])
      | succ kj7 =>
       have H := HA.out
       clear HA
       simp only [pyxlaw22_changed.j1] at H
       have HC12 := Aside0.mk H
       clear H
       go_upto_if 31 with (fail)
       go_cut [] (fun wc => ∃ (kq : Nat) (x5_11 : List Int), Aside0 (pyxlaw22_changed.j2 kq l1 x5_11 x6_1 = some r) ∧ Aside0 (kq ≤ kj7) ∧ Aside0 (Kd.R (Kd.int .u8) 5 wc w.heap.size (fun _ => True) u5 x5_11) ∧ Aside0 (Below w.heap.size w wc))
       case first =>
        have H := HC12.out
        clear HC12
        by_cases c13 : x31_7 = true
        ·subst c13
         have H1 : (if 0 ≤ x6_1 then (if x6_1 < (l1.length : Int) then (if 0 ≤ ((rd_T65 l1 x6_1).f0) then (if ((rd_T65 l1 x6_1).f0) < (x5_1.length : Int) then (pyxlaw22_changed.j2 kj7 l1 (x5_1.set (((rd_T65 l1 x6_1).f0) : Int).toNat ((rd_T65 l1 x6_1).f1)) x6_1) else (none)) else (none)) else (none)) else (none)) = some r := by rw [if_pos rfl] at H; exact H
         clear H
         have H := H1
         clear H1
         by_cases c14 : 0 ≤ x6_1
         ·rw [if_pos c14] at H
          have c14b0 : decide (0 ≤ x6_1) = true := decide_eq_true c14
          clear c14
          (first | rw [c14b0] | (simp only [i64_w, i32_w]; rw [c14b0]) | skip)
          by_cases c15 : x6_1 < (l1.length : Int)
          ·rw [if_pos c15] at H
           have c15b0 : decide (x6_1 < (l1.length : Int)) = true := decide_eq_true c15
           clear c15
           by_cases c16 : 0 ≤ ((rd_T65 l1 x6_1).f0)
           ·rw [if_pos c16] at H
            have c16b0 : decide (0 ≤ ((rd_T65 l1 x6_1).f0)) = true := decide_eq_true c16
            clear c16
            by_cases c17 : ((rd_T65 l1 x6_1).f0) < (x5_1.length : Int)
            ·rw [if_pos c17] at H
             have c17b0 : decide (((rd_T65 l1 x6_1).f0) < (x5_1.length : Int)) = true := decide_eq_true c17
             clear c17
             obtain ⟨y249, hy249⟩ : ∃ y_ : List Int, y_ = (x5_1.set (((rd_T65 l1 x6_1).f0) : Int).toNat ((rd_T65 l1 x6_1).f1)) := ⟨_, rfl⟩
             replace H : (pyxlaw22_changed.j2 kj7 l1 y249 x6_1) = some r := by first | (rw [hy249]; with_reducible exact H) | (have H2_ := (Option.bind_some _ _).symm.trans H; rw [hy249]; with_reducible exact H2_) | (have H2_ := (Option.bind_some _ _).symm.trans H; with_reducible exact H2_) | with_reducible exact H | (rw [hy249]; exact H) | exact H
             have Ny249 := Aside0.mk hy249
             clear hy249
             have H' := Aside0.mk H
             clear H
             try go_wp2
             have n0_ := Aside0.mk (Kd.R_drew HO_5.out)
             have n1_ := Aside0.mk (below_drew1 HB.out)
             clear HO_5
             clear HB
             have HO_5 := n0_
             have HB := n1_
             clear n0_ n1_
             have p247 : 0 ≤ (x6_1 : Int) := of_decide_eq_true q63_
             have q247 : x6_1 < (l1.length : Int) := of_decide_eq_true q63_
             obtain ⟨ad247, A247_3, c247_3, e247, hx247_0, hx247_1, hx247_2, hx247_3, hl247_3, hi247_3⟩ := at_T65 HR1.out x6_1 p247 q247
             have hw247_3 := hx247_3
             have hw247_2 := hx247_2
             have hw247_1 := hx247_1
             have hw247_0 := hx247_0
             cases e247
             replace hx247_0 := (HB.out.cell (World.block_lt_of_cell? w _ hx247_0)).trans hx247_0
             replace hx247_1 := (HB.out.cell (World.block_lt_of_cell? w _ hx247_1)).trans hx247_1
             replace hx247_2 := (HB.out.cell (World.block_lt_of_cell? w _ hx247_2)).trans hx247_2
             replace hx247_3 := (HB.out.cell (World.block_lt_of_cell? w _ hx247_3)).trans hx247_3
             have HR247_3 := Aside0.mk hi247_3
             have HC247_3 := Aside0.mk hl247_3
             clear hi247_3 hl247_3
             replace p247 := eq_true p247
             replace q247 := eq_true q247
             have p248 : 0 ≤ (x6_1 : Int) := of_decide_eq_true q63_
             have q248 : x6_1 < (l1.length : Int) := of_decide_eq_true q63_
             obtain ⟨ad248, A248_3, c248_3, e248, hx248_0, hx248_1, hx248_2, hx248_3, hl248_3, hi248_3⟩ := at_T65 HR1.out x6_1 p248 q248
             have hw248_3 := hx248_3
             have hw248_2 := hx248_2
             have hw248_1 := hx248_1
             have hw248_0 := hx248_0
             obtain rfl : ad247 = ad248 := (by injection e248)
             replace hx248_0 := (HB.out.cell (World.block_lt_of_cell? w _ hx248_0)).trans hx248_0
             replace hx248_1 := (HB.out.cell (World.block_lt_of_cell? w _ hx248_1)).trans hx248_1
             replace hx248_2 := (HB.out.cell (World.block_lt_of_cell? w _ hx248_2)).trans hx248_2
             replace hx248_3 := (HB.out.cell (World.block_lt_of_cell? w _ hx248_3)).trans hx248_3
             have HR248_3 := Aside0.mk hi248_3
             have HC248_3 := Aside0.mk hl248_3
             clear hi248_3 hl248_3
             replace p248 := eq_true p248
             replace q248 := eq_true q248
             have ea_ := Option.some.inj (hx247_3.symm.trans hx248_3)
             injection ea_ with ea_ en_ ec_
             subst ea_
             subst ec_
             clear en_
             have p18 : 0 ≤ (((rd_T65 l1 x6_1).f0) : Int) := of_decide_eq_true q63_
             have q18 : (((rd_T65 l1 x6_1).f0) : Int) < ((x5_1.length : Int) : Int) := of_decide_eq_true q63_
             obtain ⟨go18, co18, eo18, gb18, gl18, cl18, HG18⟩ := Kd.R_form HO_5.out (by omega)
             (first | cases eo18 | (injection eo18 with ea_ en_ ec_; (first | subst ea_ | (injection ea_ with ea_; subst ea_)); subst ec_; clear en_))
             have GB18 := Aside0.mk gb18
             have GG18 := Aside0.mk HG18
             clear gb18 gl18 HG18
             obtain ⟨hx18_0, hf18_0⟩ := Kd.R_celln 0 HO_5.out (((rd_T65 l1 x6_1).f0) : Int) p18 q18
             replace p18 := eq_true p18
             replace q18 := eq_true q18
             have HP20 := Kd.R_putn HO_5.out (((rd_T65 l1 x6_1).f0) : Int) ((rd_T65 l1 x6_1).f1)
             rw [← Ny249.out] at HP20
             have HQ20 := Aside0.mk HP20
             clear HP20
             refine start_ (n := 13) (S := fun w' => w'.cell? (ad247.add ((x6_1).toNat * 4)) = some (.int .i64 ((rd_T65 l1 x6_1).f0)) ∧ w'.cell? ⟨(ad247.add ((x6_1).toNat * 4)).block, (ad247.add ((x6_1).toNat * 4)).off + 1, none⟩ = some (.int .u8 ((rd_T65 l1 x6_1).f1)) ∧ w'.cell? ⟨(ad247.add ((x6_1).toNat * 4)).block, (ad247.add ((x6_1).toNat * 4)).off + 2, none⟩ = some (.int .u16 ((rd_T65 l1 x6_1).f2)) ∧ w'.cell? ⟨(ad247.add ((x6_1).toNat * 4)).block, (ad247.add ((x6_1).toNat * 4)).off + 3, none⟩ = some (.slice A247_3 ((rd_T65 l1 x6_1).f3).length c247_3) ∧ w'.cell? (ad247.add ((x6_1).toNat * 4)) = some (.int .i64 ((rd_T65 l1 x6_1).f0)) ∧ w'.cell? ⟨(ad247.add ((x6_1).toNat * 4)).block, (ad247.add ((x6_1).toNat * 4)).off + 1, none⟩ = some (.int .u8 ((rd_T65 l1 x6_1).f1)) ∧ w'.cell? ⟨(ad247.add ((x6_1).toNat * 4)).block, (ad247.add ((x6_1).toNat * 4)).off + 2, none⟩ = some (.int .u16 ((rd_T65 l1 x6_1).f2)) ∧ w'.cell? ⟨(ad247.add ((x6_1).toNat * 4)).block, (ad247.add ((x6_1).toNat * 4)).off + 3, none⟩ = some (.slice A247_3 ((rd_T65 l1 x6_1).f3).length c247_3)) (ds := [12]) #[false, false, false, false, false, false, false, false, false, false, false, false, false] (by kernel_rfl) rfl rfl ⟨((HB.out.cell (World.block_lt_of_cell? w _ hw247_0)).trans hw247_0), ((HB.out.cell (World.block_lt_of_cell? w _ hw247_1)).trans hw247_1), ((HB.out.cell (World.block_lt_of_cell? w _ hw247_2)).trans hw247_2), ((HB.out.cell (World.block_lt_of_cell? w _ hw247_3)).trans hw247_3), ((HB.out.cell (World.block_lt_of_cell? w _ hw248_0)).trans hw248_0), ((HB.out.cell (World.block_lt_of_cell? w _ hw248_1)).trans hw248_1), ((HB.out.cell (World.block_lt_of_cell? w _ hw248_2)).trans hw248_2), ((HB.out.cell (World.block_lt_of_cell? w _ hw248_3)).trans hw248_3)⟩ (fun hHeld => ?_); refine with_tabW pyxlaw22_changed.tab6 pyxlaw22_changed.bits6 (fun HT_ HW_ => ?_)
             generalize wc.drew = w19 at HO_5 HB GG18 HQ20 HR247_3 HR248_3 hf18_0 hx18_0 hx247_0 hx247_1 hx247_2 hx247_3 hx248_0 hx248_1 hx248_2 hx248_3 hHeld ⊢
             refine pu_ 0 (N := some 32) #[true, false, false, false, false, false, false, false, false, false, false, false, false] rfl rfl ?_
             refine pu_ 1 (N := some 33) #[true, true, false, false, false, false, false, false, false, false, false, false, false] rfl rfl ?_
             refine pu_ 2 (N := some 34) #[true, true, true, false, false, false, false, false, false, false, false, false, false] rfl rfl ?_
             refine pu_ 3 (N := some 35) #[true, true, true, true, false, false, false, false, false, false, false, false, false] rfl rfl ?_
             refine pu_ 4 (N := some 36) #[true, true, true, true, true, false, false, false, false, false, false, false, false] rfl rfl ?_
             refine pu_ 6 (N := some 38) #[true, true, true, true, true, false, true, false, false, false, false, false, false] rfl rfl ?_
             refine pu_ 7 (N := some 39) #[true, true, true, true, true, false, true, true, false, false, false, false, false] rfl rfl ?_
             refine pu_ 8 (N := some 40) #[true, true, true, true, true, false, true, true, true, false, false, false, false] rfl rfl ?_
             refine pu_ 9 (N := some 41) #[true, true, true, true, true, false, true, true, true, true, false, false, false] rfl rfl ?_
             refine tk8_ 5 (N := some 37) #[true, true, true, true, true, true, true, true, true, true, false, false, false] rfl rfl hHeld ?_
             refine tk8_ 10 (N := some 42) #[true, true, true, true, true, true, true, true, true, true, true, false, false] rfl rfl hHeld ?_
             refine pu_ 11 (N := some 43) #[true, true, true, true, true, true, true, true, true, true, true, true, false] rfl rfl ?_
             refine last_ (i := 12) (N := none) #[true, true, true, true, true, true, true, true, true, true, true, true, true] rfl rfl (one_of HT_.out (by kernel_rfl)) (by decide) (fun K hK => ?_)
             refine skip_ (w1 := ?_) (by rfl) rfl ?_ ?_
             rotate_left
             ·go_simp
              rfl
             refine hK.out _ _ ?_
             clear hK K
             refine done_ (done_of HT_.out (by kernel_rfl)) ?_
             try go_wp2
             go_meet
             case rel => exact ⟨_, (y249), H', ⟨by have := HK1.out; have := HJ7.out; first | omega | exact Nat.le_refl _⟩, ⟨by (with_reducible repeat (first | apply Kd.R_alloc | apply Kd.R_drewN | apply Kd.R_drew)); exact HQ20.out⟩, ⟨by repeat (first | (with_reducible first | exact HB.out | apply below_alloc | apply pw_below_drewN | apply below_drew1 | refine below_set ?_ GB18.out) | exact HB.out)⟩⟩
            ·rw [if_neg c17] at H
             exact absurd H (by simp)
           ·rw [if_neg c16] at H
            exact absurd H (by simp)
          ·rw [if_neg c15] at H
           exact absurd H (by simp)
         ·rw [if_neg c14] at H
          exact absurd H (by simp)
        ·replace c13 := Bool.eq_false_iff.mpr c13
         subst c13
         have H1 : (pyxlaw22_changed.j2 kj7 l1 x5_1 x6_1) = some r := by rw [if_neg (show ¬ (false = true) by decide)] at H; exact H
         clear H
         have H := H1
         clear H1
         have H' := Aside0.mk H
         clear H
         go_wp2
         go_meet
         case rel => exact ⟨_, (x5_1), H', ⟨by have := HK1.out; have := HJ7.out; first | omega | exact Nat.le_refl _⟩, ⟨by (with_reducible repeat (first | apply Kd.R_alloc | apply Kd.R_drewN | apply Kd.R_drew)); exact HO_5.out⟩, ⟨by repeat (first | (with_reducible first | exact HB.out | apply below_alloc | apply pw_below_drewN | apply below_drew1) | exact HB.out)⟩⟩
       case rest =>
        clear HC12
        try clear c1
        try clear p1
        try clear q1
        try clear hx1
        try clear c2
        try clear p2
        try clear q2
        try clear hx2
        try clear c3
        try clear c7
        try clear c7b0
        try clear c9
        try clear c9b0
        try clear c10
        try clear c10b0
        try clear c13
        try clear c14
        try clear c14b0
        try clear c15
        try clear c15b0
        try clear c16
        try clear c16b0
        try clear c17
        try clear c17b0
        try clear p18
        try clear q18
        try clear hx18
        try clear hf18
        try clear hx18_0
        try clear hx245_0
        try clear hx245_1
        try clear hx245_2
        try clear hx245_3
        try clear hx246_0
        try clear hx246_1
        try clear hx246_2
        try clear hx246_3
        try clear hx247_0
        try clear hx247_1
        try clear hx247_2
        try clear hx247_3
        try clear hx248_0
        try clear hx248_1
        try clear hx248_2
        try clear hx248_3
        try clear p18
        try clear p2
        try clear p245
        try clear p246
        try clear p247
        try clear p248
        try clear q18
        try clear q2
        try clear q245
        try clear q246
        try clear q247
        try clear q248
        obtain ⟨kq, x5_11, HA, HJ11, HO_5, HB⟩ := hcut
        cases kq with
        | zero => exact absurd HA.out (by simp [pyxlaw22_changed.j2])
        | succ kj11 =>
         have H := HA.out
         clear HA
         simp only [pyxlaw22_changed.j2] at H
         by_cases c21 : 0 ≤ x6_1
         ·rw [if_pos c21] at H
          have c21b0 : decide (0 ≤ x6_1) = true := decide_eq_true c21
          clear c21
          by_cases c22 : x6_1 < (l1.length : Int)
          ·rw [if_pos c22] at H
           have c22b0 : decide (x6_1 < (l1.length : Int)) = true := decide_eq_true c22
           clear c22
           by_cases c23 : (wrap64 ((rd_T65 l1 x6_1).f2)) ≤ (x5_11.length : Int)
           ·rw [if_pos c23] at H
            have c23b0 : decide ((wrap64 ((rd_T65 l1 x6_1).f2)) ≤ (x5_11.length : Int)) = true := decide_eq_true c23
            clear c23
            obtain ⟨ji24, hji24⟩ : ∃ j_ : Int, (wrap64 ((x5_11.length : Int) - (wrap64 ((rd_T65 l1 x6_1).f2)))) = j_ := ⟨_, rfl⟩
            replace H : (if 0 ≤ (ji24) then (if (ji24) ≤ (x5_11.length : Int) then ((some (x5_11.take ((ji24) : Int).toNat : List Int)).bind fun y252 => (if (((rd_T65 l1 x6_1).f3).length : Int) ≤ 100 then (if y252.length + ((rd_T65 l1 x6_1).f3).length < 140737488355328 then (pyxlaw22_changed.l0 kj11 l1 (y252 ++ ((rd_T65 l1 x6_1).f3)) (wrap64 (x6_1 + 1))) else (none)) else (pyxlaw22_changed.l0 kj11 l1 y252 (wrap64 (x6_1 + 1))))) else (none)) else (none)) = some r := by first | (rw [hji24] at H; exact H) | (simp only [hji24] at H ⊢; exact H)
            have hji24w : (IntKind.i64.wrap ((x5_11.length : Int) - (wrap64 ((rd_T65 l1 x6_1).f2)))) = ji24 := (i64_w _).trans hji24
            by_cases c25 : 0 ≤ (ji24)
            ·rw [if_pos c25] at H
             have c25b0 := eq_true c25
             have c25b1 : decide (0 ≤ (ji24)) = true := decide_eq_true c25
             clear c25
             by_cases c26 : (ji24) ≤ (x5_11.length : Int)
             ·rw [if_pos c26] at H
              have c26b0 := eq_true c26
              have c26b1 : decide ((ji24) ≤ (x5_11.length : Int)) = true := decide_eq_true c26
              clear c26
              obtain ⟨y252, hy252⟩ : ∃ y_ : List Int, y_ = (x5_11.take ((ji24) : Int).toNat) := ⟨_, rfl⟩
              replace H : (if (((rd_T65 l1 x6_1).f3).length : Int) ≤ 100 then (if y252.length + ((rd_T65 l1 x6_1).f3).length < 140737488355328 then (pyxlaw22_changed.l0 kj11 l1 (y252 ++ ((rd_T65 l1 x6_1).f3)) (wrap64 (x6_1 + 1))) else (none)) else (pyxlaw22_changed.l0 kj11 l1 y252 (wrap64 (x6_1 + 1)))) = some r := by first | (rw [hy252]; with_reducible exact H) | (have H2_ := (Option.bind_some _ _).symm.trans H; rw [hy252]; with_reducible exact H2_) | (have H2_ := (Option.bind_some _ _).symm.trans H; with_reducible exact H2_) | with_reducible exact H | (rw [hy252]; exact H) | exact H
              have Ny252 := Aside0.mk hy252
              clear hy252
              by_cases c27 : (((rd_T65 l1 x6_1).f3).length : Int) ≤ 100
              ·rw [if_pos c27] at H
               have c27b0 : decide ((((rd_T65 l1 x6_1).f3).length : Int) ≤ 100) = true := decide_eq_true c27
               have c27b1 : decide (((rd_T65 l1 x6_1).f3).length ≤ 100) = true := decide_eq_true (by omega)
               clear c27
               by_cases c28 : y252.length + ((rd_T65 l1 x6_1).f3).length < 140737488355328
               ·rw [if_pos c28] at H
                have LMc28 := Aside0.mk c28
                clear c28
                obtain ⟨y257, hy257⟩ : ∃ y_ : List Int, y_ = (y252 ++ ((rd_T65 l1 x6_1).f3)) := ⟨_, rfl⟩
                replace H : (pyxlaw22_changed.l0 kj11 l1 y257 (wrap64 (x6_1 + 1))) = some r := by first | (rw [hy257]; with_reducible exact H) | (have H2_ := (Option.bind_some _ _).symm.trans H; rw [hy257]; with_reducible exact H2_) | (have H2_ := (Option.bind_some _ _).symm.trans H; with_reducible exact H2_) | with_reducible exact H | (rw [hy257]; exact H) | exact H
                have Ny257 := Aside0.mk hy257
                clear hy257
                have H' := Aside0.mk H
                clear H
                have p250 : 0 ≤ (x6_1 : Int) := of_decide_eq_true q63_
                have q250 : x6_1 < (l1.length : Int) := of_decide_eq_true q63_
                obtain ⟨ad250, A250_3, c250_3, e250, hx250_0, hx250_1, hx250_2, hx250_3, hl250_3, hi250_3⟩ := at_T65 HR1.out x6_1 p250 q250
                cases e250
                replace hx250_0 := (HB.out.cell (World.block_lt_of_cell? w _ hx250_0)).trans hx250_0
                replace hx250_1 := (HB.out.cell (World.block_lt_of_cell? w _ hx250_1)).trans hx250_1
                replace hx250_2 := (HB.out.cell (World.block_lt_of_cell? w _ hx250_2)).trans hx250_2
                replace hx250_3 := (HB.out.cell (World.block_lt_of_cell? w _ hx250_3)).trans hx250_3
                have HR250_3 := Aside0.mk hi250_3
                have HC250_3 := Aside0.mk hl250_3
                clear hi250_3 hl250_3
                replace p250 := eq_true p250
                replace q250 := eq_true q250
                obtain ⟨Ao29, co29, eo29⟩ := Kd.R_slice HO_5.out
                subst eo29
                have p251 : 0 ≤ (x6_1 : Int) := of_decide_eq_true q63_
                have q251 : x6_1 < (l1.length : Int) := of_decide_eq_true q63_
                obtain ⟨ad251, A251_3, c251_3, e251, hx251_0, hx251_1, hx251_2, hx251_3, hl251_3, hi251_3⟩ := at_T65 HR1.out x6_1 p251 q251
                obtain rfl : ad250 = ad251 := (by injection e251)
                replace hx251_0 := (HB.out.cell (World.block_lt_of_cell? w _ hx251_0)).trans hx251_0
                replace hx251_1 := (HB.out.cell (World.block_lt_of_cell? w _ hx251_1)).trans hx251_1
                replace hx251_2 := (HB.out.cell (World.block_lt_of_cell? w _ hx251_2)).trans hx251_2
                replace hx251_3 := (HB.out.cell (World.block_lt_of_cell? w _ hx251_3)).trans hx251_3
                have HR251_3 := Aside0.mk hi251_3
                have HC251_3 := Aside0.mk hl251_3
                clear hi251_3 hl251_3
                replace p251 := eq_true p251
                replace q251 := eq_true q251
                have ea_ := Option.some.inj (hx250_3.symm.trans hx251_3)
                injection ea_ with ea_ en_ ec_
                subst ea_
                subst ec_
                clear en_
                have q30 : ((ji24) : Int) ≤ ((x5_11.length : Int) : Int) := of_decide_eq_true q63_
                obtain ⟨i030, hi030, _, hsz30, _⟩ := info_parts info5
                have hcut30 := cut_to (P := Tryz.prog) 25 5 .i64 Tryz.underlying25 hi030 Ao29 x5_11.length co29 (ji24) (of_decide_eq_true q63_) q30 (Kd.R_reads' HO_5.out).2.1
                have hr30 := Kd.R_take (m := ((ji24) : Int).toNat) HO_5.out (by omega)
                have hy30 : y252.length = ((ji24) : Int).toNat := (by rw [Ny252.out, List.length_take]; omega)
                rw [← Ny252.out] at hr30
                rw [← hy30] at hr30 hcut30
                clear hy30 hi030 hsz30 HO_5
                have HO254 := Aside0.mk hr30
                clear hr30
                replace q30 := eq_true q30
                have p255 : 0 ≤ (x6_1 : Int) := of_decide_eq_true q63_
                have q255 : x6_1 < (l1.length : Int) := of_decide_eq_true q63_
                obtain ⟨ad255, A255_3, c255_3, e255, hx255_0, hx255_1, hx255_2, hx255_3, hl255_3, hi255_3⟩ := at_T65 HR1.out x6_1 p255 q255
                obtain rfl : ad250 = ad255 := (by injection e255)
                replace hx255_0 := (HB.out.cell (World.block_lt_of_cell? w _ hx255_0)).trans hx255_0
                replace hx255_1 := (HB.out.cell (World.block_lt_of_cell? w _ hx255_1)).trans hx255_1
                replace hx255_2 := (HB.out.cell (World.block_lt_of_cell? w _ hx255_2)).trans hx255_2
                replace hx255_3 := (HB.out.cell (World.block_lt_of_cell? w _ hx255_3)).trans hx255_3
                have HR255_3 := Aside0.mk hi255_3
                have HC255_3 := Aside0.mk hl255_3
                clear hi255_3 hl255_3
                replace p255 := eq_true p255
                replace q255 := eq_true q255
                have ea_ := Option.some.inj (hx250_3.symm.trans hx255_3)
                injection ea_ with ea_ en_ ec_
                subst ea_
                subst ec_
                clear en_
                have p256 : 0 ≤ (x6_1 : Int) := of_decide_eq_true q63_
                have q256 : x6_1 < (l1.length : Int) := of_decide_eq_true q63_
                obtain ⟨ad256, A256_3, c256_3, e256, hx256_0, hx256_1, hx256_2, hx256_3, hl256_3, hi256_3⟩ := at_T65 HR1.out x6_1 p256 q256
                obtain rfl : ad250 = ad256 := (by injection e256)
                replace hx256_0 := (HB.out.cell (World.block_lt_of_cell? w _ hx256_0)).trans hx256_0
                replace hx256_1 := (HB.out.cell (World.block_lt_of_cell? w _ hx256_1)).trans hx256_1
                replace hx256_2 := (HB.out.cell (World.block_lt_of_cell? w _ hx256_2)).trans hx256_2
                replace hx256_3 := (HB.out.cell (World.block_lt_of_cell? w _ hx256_3)).trans hx256_3
                have HR256_3 := Aside0.mk hi256_3
                have HC256_3 := Aside0.mk hl256_3
                clear hi256_3 hl256_3
                replace p256 := eq_true p256
                replace q256 := eq_true q256
                have ea_ := Option.some.inj (hx250_3.symm.trans hx256_3)
                injection ea_ with ea_ en_ ec_
                subst ea_
                subst ec_
                clear en_
                go_wp2_with (first | ((with_reducible refine gate_builtin (b := .append) (xs := #[.tmp 71, .tmp 76]) rfl ?_); (try (refine gate_guard (by rfl) ?_; dsimp only)); at_builtin; refine Kd.R_append_rows (Kd.int .u8) (w0 := w) w.heap.size rfl (.tmp 71) (.tmp 76) 25 5 (.int .u8 0) 1 rfl Tryz.underlying25 info5 rfl (by decide) (by omega) (.slice Ao29 y252.length co29) y252 ((rd_T65 l1 x6_1).f3) _ _ _ (fun _ => True) (fun _ => False) rfl rfl ?aO ?aR (fun _ _ h => h) (fun _ h => h.elim) ?aF ?aB ?aS ?aL ?_; (case aR => repeat (first | exact (Kd.C_below HR256_3.out HB.out) | (with_reducible refine Kd.C_alloc ?_ _) | (with_reducible refine Kd.C_drewN ?_ _) | (with_reducible refine Kd.C_drew ?_))); (case aB => exact q30_); (case aF => exact (fun _ _ => trivial)); (case aO => exact (by (with_reducible repeat (first | apply Kd.R_alloc | apply Kd.R_drewN | apply Kd.R_drew)); exact HO254.out)); (case aS => exact (below_size q30_)); (case aL => have := LMc28.out; omega); intro v258 w31 ho hb hg hat; rw [← Ny257.out] at ho; have n0_ := Aside0.mk (hb); have n1_ := Aside0.mk (ho); clear HB; clear HO254; have HB := n0_; have HO259 := n1_; clear n0_ n1_; clear ho hb hg hat))
                go_roundg kj11
                case measure => have := HK1.out; have := HJ7.out; have := HJ11.out; omega
                case rel => exact ⟨(y257), (wrap64 (x6_1 + 1)), q64_, H', ⟨by have := HK1.out; have := HJ7.out; have := HJ11.out; omega⟩, ⟨by (with_reducible repeat (first | apply Kd.R_alloc | apply Kd.R_drewN | apply Kd.R_drew)); exact HO259.out⟩, ⟨by repeat (first | (with_reducible first | exact HB.out | apply below_alloc | apply pw_below_drewN | apply below_drew1) | exact HB.out)⟩⟩
               ·rw [if_neg c28] at H
                exact absurd H (by simp)
              ·rw [if_neg c27] at H
               have c27b0 : decide ((((rd_T65 l1 x6_1).f3).length : Int) ≤ 100) = false := decide_eq_false c27
               have c27b1 : decide (((rd_T65 l1 x6_1).f3).length ≤ 100) = false := decide_eq_false (by omega)
               clear c27
               have H' := Aside0.mk H
               clear H
               have p250 : 0 ≤ (x6_1 : Int) := of_decide_eq_true q63_
               have q250 : x6_1 < (l1.length : Int) := of_decide_eq_true q63_
               obtain ⟨ad250, A250_3, c250_3, e250, hx250_0, hx250_1, hx250_2, hx250_3, hl250_3, hi250_3⟩ := at_T65 HR1.out x6_1 p250 q250
               cases e250
               replace hx250_0 := (HB.out.cell (World.block_lt_of_cell? w _ hx250_0)).trans hx250_0
               replace hx250_1 := (HB.out.cell (World.block_lt_of_cell? w _ hx250_1)).trans hx250_1
               replace hx250_2 := (HB.out.cell (World.block_lt_of_cell? w _ hx250_2)).trans hx250_2
               replace hx250_3 := (HB.out.cell (World.block_lt_of_cell? w _ hx250_3)).trans hx250_3
               have HR250_3 := Aside0.mk hi250_3
               have HC250_3 := Aside0.mk hl250_3
               clear hi250_3 hl250_3
               replace p250 := eq_true p250
               replace q250 := eq_true q250
               obtain ⟨Ao32, co32, eo32⟩ := Kd.R_slice HO_5.out
               subst eo32
               have p251 : 0 ≤ (x6_1 : Int) := of_decide_eq_true q63_
               have q251 : x6_1 < (l1.length : Int) := of_decide_eq_true q63_
               obtain ⟨ad251, A251_3, c251_3, e251, hx251_0, hx251_1, hx251_2, hx251_3, hl251_3, hi251_3⟩ := at_T65 HR1.out x6_1 p251 q251
               obtain rfl : ad250 = ad251 := (by injection e251)
               replace hx251_0 := (HB.out.cell (World.block_lt_of_cell? w _ hx251_0)).trans hx251_0
               replace hx251_1 := (HB.out.cell (World.block_lt_of_cell? w _ hx251_1)).trans hx251_1
               replace hx251_2 := (HB.out.cell (World.block_lt_of_cell? w _ hx251_2)).trans hx251_2
               replace hx251_3 := (HB.out.cell (World.block_lt_of_cell? w _ hx251_3)).trans hx251_3
               have HR251_3 := Aside0.mk hi251_3
               have HC251_3 := Aside0.mk hl251_3
               clear hi251_3 hl251_3
               replace p251 := eq_true p251
               replace q251 := eq_true q251
               have ea_ := Option.some.inj (hx250_3.symm.trans hx251_3)
               injection ea_ with ea_ en_ ec_
               subst ea_
               subst ec_
               clear en_
               have q33 : ((ji24) : Int) ≤ ((x5_11.length : Int) : Int) := of_decide_eq_true q63_
               obtain ⟨i033, hi033, _, hsz33, _⟩ := info_parts info5
               have hcut33 := cut_to (P := Tryz.prog) 25 5 .i64 Tryz.underlying25 hi033 Ao32 x5_11.length co32 (ji24) (of_decide_eq_true q63_) q33 (Kd.R_reads' HO_5.out).2.1
               have hr33 := Kd.R_take (m := ((ji24) : Int).toNat) HO_5.out (by omega)
               have hy33 : y252.length = ((ji24) : Int).toNat := (by rw [Ny252.out, List.length_take]; omega)
               rw [← Ny252.out] at hr33
               rw [← hy33] at hr33 hcut33
               clear hy33 hi033 hsz33 HO_5
               have HO254 := Aside0.mk hr33
               clear hr33
               replace q33 := eq_true q33
               have p255 : 0 ≤ (x6_1 : Int) := of_decide_eq_true q63_
               have q255 : x6_1 < (l1.length : Int) := of_decide_eq_true q63_
               obtain ⟨ad255, A255_3, c255_3, e255, hx255_0, hx255_1, hx255_2, hx255_3, hl255_3, hi255_3⟩ := at_T65 HR1.out x6_1 p255 q255
               obtain rfl : ad250 = ad255 := (by injection e255)
               replace hx255_0 := (HB.out.cell (World.block_lt_of_cell? w _ hx255_0)).trans hx255_0
               replace hx255_1 := (HB.out.cell (World.block_lt_of_cell? w _ hx255_1)).trans hx255_1
               replace hx255_2 := (HB.out.cell (World.block_lt_of_cell? w _ hx255_2)).trans hx255_2
               replace hx255_3 := (HB.out.cell (World.block_lt_of_cell? w _ hx255_3)).trans hx255_3
               have HR255_3 := Aside0.mk hi255_3
               have HC255_3 := Aside0.mk hl255_3
               clear hi255_3 hl255_3
               replace p255 := eq_true p255
               replace q255 := eq_true q255
               have ea_ := Option.some.inj (hx250_3.symm.trans hx255_3)
               injection ea_ with ea_ en_ ec_
               subst ea_
               subst ec_
               clear en_
               go_wp2
               go_roundg kj11
               case measure => have := HK1.out; have := HJ7.out; have := HJ11.out; omega
               case rel => exact ⟨(y252), (wrap64 (x6_1 + 1)), q64_, H', ⟨by have := HK1.out; have := HJ7.out; have := HJ11.out; omega⟩, ⟨by (with_reducible repeat (first | apply Kd.R_alloc | apply Kd.R_drewN | apply Kd.R_drew)); exact HO254.out⟩, ⟨by repeat (first | (with_reducible first | exact HB.out | apply below_alloc | apply pw_below_drewN | apply below_drew1) | exact HB.out)⟩⟩
             ·rw [if_neg c26] at H
              exact absurd H (by simp)
            ·rw [if_neg c25] at H
             exact absurd H (by simp)
           ·rw [if_neg c23] at H
            have c23b0 : decide ((wrap64 ((rd_T65 l1 x6_1).f2)) ≤ (x5_11.length : Int)) = false := decide_eq_false c23
            clear c23
            by_cases c34 : (((rd_T65 l1 x6_1).f3).length : Int) ≤ 100
            ·rw [if_pos c34] at H
             have c34b0 : decide ((((rd_T65 l1 x6_1).f3).length : Int) ≤ 100) = true := decide_eq_true c34
             have c34b1 : decide (((rd_T65 l1 x6_1).f3).length ≤ 100) = true := decide_eq_true (by omega)
             clear c34
             by_cases c35 : x5_11.length + ((rd_T65 l1 x6_1).f3).length < 140737488355328
             ·rw [if_pos c35] at H
              have LMc35 := Aside0.mk c35
              clear c35
              obtain ⟨y262, hy262⟩ : ∃ y_ : List Int, y_ = (x5_11 ++ ((rd_T65 l1 x6_1).f3)) := ⟨_, rfl⟩
              replace H : (pyxlaw22_changed.l0 kj11 l1 y262 (wrap64 (x6_1 + 1))) = some r := by first | (rw [hy262]; with_reducible exact H) | (have H2_ := (Option.bind_some _ _).symm.trans H; rw [hy262]; with_reducible exact H2_) | (have H2_ := (Option.bind_some _ _).symm.trans H; with_reducible exact H2_) | with_reducible exact H | (rw [hy262]; exact H) | exact H
              have Ny262 := Aside0.mk hy262
              clear hy262
              have H' := Aside0.mk H
              clear H
              have p250 : 0 ≤ (x6_1 : Int) := of_decide_eq_true q63_
              have q250 : x6_1 < (l1.length : Int) := of_decide_eq_true q63_
              obtain ⟨ad250, A250_3, c250_3, e250, hx250_0, hx250_1, hx250_2, hx250_3, hl250_3, hi250_3⟩ := at_T65 HR1.out x6_1 p250 q250
              cases e250
              replace hx250_0 := (HB.out.cell (World.block_lt_of_cell? w _ hx250_0)).trans hx250_0
              replace hx250_1 := (HB.out.cell (World.block_lt_of_cell? w _ hx250_1)).trans hx250_1
              replace hx250_2 := (HB.out.cell (World.block_lt_of_cell? w _ hx250_2)).trans hx250_2
              replace hx250_3 := (HB.out.cell (World.block_lt_of_cell? w _ hx250_3)).trans hx250_3
              have HR250_3 := Aside0.mk hi250_3
              have HC250_3 := Aside0.mk hl250_3
              clear hi250_3 hl250_3
              replace p250 := eq_true p250
              replace q250 := eq_true q250
              obtain ⟨Ao36, co36, eo36⟩ := Kd.R_slice HO_5.out
              subst eo36
              have p260 : 0 ≤ (x6_1 : Int) := of_decide_eq_true q63_
              have q260 : x6_1 < (l1.length : Int) := of_decide_eq_true q63_
              obtain ⟨ad260, A260_3, c260_3, e260, hx260_0, hx260_1, hx260_2, hx260_3, hl260_3, hi260_3⟩ := at_T65 HR1.out x6_1 p260 q260
              obtain rfl : ad250 = ad260 := (by injection e260)
              replace hx260_0 := (HB.out.cell (World.block_lt_of_cell? w _ hx260_0)).trans hx260_0
              replace hx260_1 := (HB.out.cell (World.block_lt_of_cell? w _ hx260_1)).trans hx260_1
              replace hx260_2 := (HB.out.cell (World.block_lt_of_cell? w _ hx260_2)).trans hx260_2
              replace hx260_3 := (HB.out.cell (World.block_lt_of_cell? w _ hx260_3)).trans hx260_3
              have HR260_3 := Aside0.mk hi260_3
              have HC260_3 := Aside0.mk hl260_3
              clear hi260_3 hl260_3
              replace p260 := eq_true p260
              replace q260 := eq_true q260
              have ea_ := Option.some.inj (hx250_3.symm.trans hx260_3)
              injection ea_ with ea_ en_ ec_
              subst ea_
              subst ec_
              clear en_
              have p261 : 0 ≤ (x6_1 : Int) := of_decide_eq_true q63_
              have q261 : x6_1 < (l1.length : Int) := of_decide_eq_true q63_
              obtain ⟨ad261, A261_3, c261_3, e261, hx261_0, hx261_1, hx261_2, hx261_3, hl261_3, hi261_3⟩ := at_T65 HR1.out x6_1 p261 q261
              obtain rfl : ad250 = ad261 := (by injection e261)
              replace hx261_0 := (HB.out.cell (World.block_lt_of_cell? w _ hx261_0)).trans hx261_0
              replace hx261_1 := (HB.out.cell (World.block_lt_of_cell? w _ hx261_1)).trans hx261_1
              replace hx261_2 := (HB.out.cell (World.block_lt_of_cell? w _ hx261_2)).trans hx261_2
              replace hx261_3 := (HB.out.cell (World.block_lt_of_cell? w _ hx261_3)).trans hx261_3
              have HR261_3 := Aside0.mk hi261_3
              have HC261_3 := Aside0.mk hl261_3
              clear hi261_3 hl261_3
              replace p261 := eq_true p261
              replace q261 := eq_true q261
              have ea_ := Option.some.inj (hx250_3.symm.trans hx261_3)
              injection ea_ with ea_ en_ ec_
              subst ea_
              subst ec_
              clear en_
              go_wp2_with (first | ((with_reducible refine gate_builtin (b := .append) (xs := #[.tmp 71, .tmp 76]) rfl ?_); (try (refine gate_guard (by rfl) ?_; dsimp only)); at_builtin; refine Kd.R_append_rows (Kd.int .u8) (w0 := w) w.heap.size rfl (.tmp 71) (.tmp 76) 25 5 (.int .u8 0) 1 rfl Tryz.underlying25 info5 rfl (by decide) (by omega) (.slice Ao36 x5_11.length co36) x5_11 ((rd_T65 l1 x6_1).f3) _ _ _ (fun _ => True) (fun _ => False) rfl rfl ?aO ?aR (fun _ _ h => h) (fun _ h => h.elim) ?aF ?aB ?aS ?aL ?_; (case aR => repeat (first | exact (Kd.C_below HR261_3.out HB.out) | (with_reducible refine Kd.C_alloc ?_ _) | (with_reducible refine Kd.C_drewN ?_ _) | (with_reducible refine Kd.C_drew ?_))); (case aB => exact q30_); (case aF => exact (fun _ _ => trivial)); (case aO => exact q56_); (case aS => exact (below_size q30_)); (case aL => have := LMc35.out; omega); intro v263 w37 ho hb hg hat; rw [← Ny262.out] at ho; have n0_ := Aside0.mk (hb); have n1_ := Aside0.mk (ho); clear HB; clear HO_5; have HB := n0_; have HO264 := n1_; clear n0_ n1_; clear ho hb hg hat))
              go_roundg kj11
              case measure => have := HK1.out; have := HJ7.out; have := HJ11.out; omega
              case rel => exact ⟨(y262), (wrap64 (x6_1 + 1)), q64_, H', ⟨by have := HK1.out; have := HJ7.out; have := HJ11.out; omega⟩, ⟨by (with_reducible repeat (first | apply Kd.R_alloc | apply Kd.R_drewN | apply Kd.R_drew)); exact HO264.out⟩, ⟨by repeat (first | (with_reducible first | exact HB.out | apply below_alloc | apply pw_below_drewN | apply below_drew1) | exact HB.out)⟩⟩
             ·rw [if_neg c35] at H
              exact absurd H (by simp)
            ·rw [if_neg c34] at H
             have c34b0 : decide ((((rd_T65 l1 x6_1).f3).length : Int) ≤ 100) = false := decide_eq_false c34
             have c34b1 : decide (((rd_T65 l1 x6_1).f3).length ≤ 100) = false := decide_eq_false (by omega)
             clear c34
             have H' := Aside0.mk H
             clear H
             have p250 : 0 ≤ (x6_1 : Int) := of_decide_eq_true q63_
             have q250 : x6_1 < (l1.length : Int) := of_decide_eq_true q63_
             obtain ⟨ad250, A250_3, c250_3, e250, hx250_0, hx250_1, hx250_2, hx250_3, hl250_3, hi250_3⟩ := at_T65 HR1.out x6_1 p250 q250
             cases e250
             replace hx250_0 := (HB.out.cell (World.block_lt_of_cell? w _ hx250_0)).trans hx250_0
             replace hx250_1 := (HB.out.cell (World.block_lt_of_cell? w _ hx250_1)).trans hx250_1
             replace hx250_2 := (HB.out.cell (World.block_lt_of_cell? w _ hx250_2)).trans hx250_2
             replace hx250_3 := (HB.out.cell (World.block_lt_of_cell? w _ hx250_3)).trans hx250_3
             have HR250_3 := Aside0.mk hi250_3
             have HC250_3 := Aside0.mk hl250_3
             clear hi250_3 hl250_3
             replace p250 := eq_true p250
             replace q250 := eq_true q250
             obtain ⟨Ao38, co38, eo38⟩ := Kd.R_slice HO_5.out
             subst eo38
             have p260 : 0 ≤ (x6_1 : Int) := of_decide_eq_true q63_
             have q260 : x6_1 < (l1.length : Int) := of_decide_eq_true q63_
             obtain ⟨ad260, A260_3, c260_3, e260, hx260_0, hx260_1, hx260_2, hx260_3, hl260_3, hi260_3⟩ := at_T65 HR1.out x6_1 p260 q260
             obtain rfl : ad250 = ad260 := (by injection e260)
             replace hx260_0 := (HB.out.cell (World.block_lt_of_cell? w _ hx260_0)).trans hx260_0
             replace hx260_1 := (HB.out.cell (World.block_lt_of_cell? w _ hx260_1)).trans hx260_1
             replace hx260_2 := (HB.out.cell (World.block_lt_of_cell? w _ hx260_2)).trans hx260_2
             replace hx260_3 := (HB.out.cell (World.block_lt_of_cell? w _ hx260_3)).trans hx260_3
             have HR260_3 := Aside0.mk hi260_3
             have HC260_3 := Aside0.mk hl260_3
             clear hi260_3 hl260_3
             replace p260 := eq_true p260
             replace q260 := eq_true q260
             have ea_ := Option.some.inj (hx250_3.symm.trans hx260_3)
             injection ea_ with ea_ en_ ec_
             subst ea_
             subst ec_
             clear en_
             go_wp2
             go_roundg kj11
             case measure => have := HK1.out; have := HJ7.out; have := HJ11.out; omega
             case rel => exact ⟨(x5_11), (wrap64 (x6_1 + 1)), q64_, H', ⟨by have := HK1.out; have := HJ7.out; have := HJ11.out; omega⟩, ⟨by (with_reducible repeat (first | apply Kd.R_alloc | apply Kd.R_drewN | apply Kd.R_drew)); exact HO_5.out⟩, ⟨by repeat (first | (with_reducible first | exact HB.out | apply below_alloc | apply pw_below_drewN | apply below_drew1) | exact HB.out)⟩⟩
          ·rw [if_neg c22] at H
           exact absurd H (by simp)
         ·rw [if_neg c21] at H
          exact absurd H (by simp)
    ·rw [if_neg c7] at H
     have c7b0 : decide (x6_1 < (l1.length : Int)) = false := decide_eq_false c7
     clear c7
     obtain rfl := Option.some.inj H
     go_wp2
     go_ret
     exact ⟨_, by first | rfl | (simp [errW_none, errW_some] <;> rfl) | (simp [*, errW_none, errW_some] <;> rfl), by (with_reducible repeat (first | apply Kd.R_alloc | apply Kd.R_drewN | apply Kd.R_drew)); exact HO_5.out, by repeat (first | (with_reducible first | exact HB.out | apply below_alloc | apply pw_below_drewN | apply below_drew1) | exact HB.out)⟩
 ·rw [if_neg c3] at H
  exact absurd H (by simp)
end Go.Proofs.YtgmnknhfeoleaaaGreatDoor.PXmss
