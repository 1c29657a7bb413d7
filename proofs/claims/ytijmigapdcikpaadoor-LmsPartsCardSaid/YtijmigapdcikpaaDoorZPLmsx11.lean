import Derived.Test.YtijmigapdcikpaaDoorZPLmsx0
namespace Go.Proofs.YtijmigapdcikpaaDoor.PLms
open Go.RowKit Go.Proofs.YtijmigapdcikpaaDoorW.PrintWords Go.Proofs.YtijmigapdcikpaaDoorW.PrintLast Go.Proofs.YtijmigapdcikpaaDoorW.PrintMore
attribute [local go_sem] max2_int min2_int max_two min_two max_three min_three max_four min_four
set_option linter.unusedVariables false
set_option linter.unusedSimpArgs false
mutual
def pyxlaw21_changed.l0 : Nat → List (S105) → List Int → Int → Option (List Int)
  | 0, _, _, _ => none
  | k + 1, x1, x5, x6 => if x6 < (x1.length : Int) then (if 0 ≤ x6 then (if ((rd_T105 x1 x6).f0) ≥ 0 then (pyxlaw21_changed.j1 k x1 x5 x6 (decide (((rd_T105 x1 x6).f0) < (x5.length : Int)))) else (pyxlaw21_changed.j1 k x1 x5 x6 false)) else (none)) else (some x5)
def pyxlaw21_changed.j1 : Nat → List (S105) → List Int → Int → Bool → Option (List Int)
  | 0, _, _, _, _ => none
  | k + 1, x1, x5, x6, x31 => if x31 = true then (if 0 ≤ x6 then (if x6 < (x1.length : Int) then (if 0 ≤ ((rd_T105 x1 x6).f0) then (if ((rd_T105 x1 x6).f0) < (x5.length : Int) then (pyxlaw21_changed.j2 k x1 (x5.set (((rd_T105 x1 x6).f0) : Int).toNat ((rd_T105 x1 x6).f1)) x6) else (none)) else (none)) else (none)) else (none)) else (pyxlaw21_changed.j2 k x1 x5 x6)
def pyxlaw21_changed.j2 : Nat → List (S105) → List Int → Int → Option (List Int)
  | 0, _, _, _ => none
  | k + 1, x1, x5, x6 => if 0 ≤ x6 then (if x6 < (x1.length : Int) then (if (wrap64 ((rd_T105 x1 x6).f2)) ≤ (x5.length : Int) then (if 0 ≤ (wrap64 ((x5.length : Int) - (wrap64 ((rd_T105 x1 x6).f2)))) then (if (wrap64 ((x5.length : Int) - (wrap64 ((rd_T105 x1 x6).f2)))) ≤ (x5.length : Int) then ((some (x5.take ((wrap64 ((x5.length : Int) - (wrap64 ((rd_T105 x1 x6).f2)))) : Int).toNat : List Int)).bind fun y227 => (if (((rd_T105 x1 x6).f3).length : Int) ≤ 100 then (if y227.length + ((rd_T105 x1 x6).f3).length < 140737488355328 then (pyxlaw21_changed.l0 k x1 (y227 ++ ((rd_T105 x1 x6).f3)) (wrap64 (x6 + 1))) else (none)) else (pyxlaw21_changed.l0 k x1 y227 (wrap64 (x6 + 1))))) else (none)) else (none)) else (if (((rd_T105 x1 x6).f3).length : Int) ≤ 100 then (if x5.length + ((rd_T105 x1 x6).f3).length < 140737488355328 then (pyxlaw21_changed.l0 k x1 (x5 ++ ((rd_T105 x1 x6).f3)) (wrap64 (x6 + 1))) else (none)) else (pyxlaw21_changed.l0 k x1 x5 (wrap64 (x6 + 1))))) else (none)) else (none)
end
def pyxlaw21_changed.f (k : Nat) (l0 : List Int) (l1 : List (S105)) : Option (List Int) := (some (([] : List Int) : List Int)).bind fun y214 => (if y214.length + l0.length < 140737488355328 then (pyxlaw21_changed.l0 k l1 (y214 ++ l0) 0) else (none))
def pyxlaw21_changed.T6 : Bool × List (List Nat × List Nat) := (true, [([], []), ([], []), ([], []), ([1, 2], [1, 2]), ([3], [3]), ([4], [4]), ([], []), ([], []), ([6, 7], [6, 7]), ([8], [8]), ([9], [9]), ([0, 5, 0, 1, 2, 3, 4, 5, 6, 7, 8, 9, 10], [0, 5]), ([11, 10, 0, 1, 2, 3, 4, 5, 6, 7, 8, 9, 10], [10, 11])])
def pyxlaw21_changed.B6 : List Nat := [0, 0, 0, 6, 14, 30, 0, 0, 192, 448, 960, 2047, 4095]
theorem pyxlaw21_changed.tab6 : rtab .any (opsOf Tryd.f28 6) = pyxlaw21_changed.T6 := by kernel_rfl
theorem pyxlaw21_changed.bits6 : waitsOk pyxlaw21_changed.T6.2 pyxlaw21_changed.B6 = true := by kernel_rfl
set_option maxHeartbeats 8000000 in
set_option maxRecDepth 100000 in
theorem pyxlaw21_changed.calls (k : Nat) (A0 : Option Addr) (c0 : Nat) (l0 : List Int) (A1 : Option Addr) (c1 : Nat) (l1 : List (S105)) (r : List Int) (w : World) (hr0 : Kd.C (Kd.int .u8) w A0 l0.length l0) (hc0 : l0.length ≤ c0) (hr1 : Kd.C k105 w A1 l1.length l1) (hc1 : l1.length ≤ c1) (h : pyxlaw21_changed.f k l0 l1 = some r) :
    Calls Tryd.prog 28 #[.slice A0 l0.length c0, .slice A1 l1.length c1] w fun e w' => ∃ v0_ : Value, e = .returned (v0_) ∧ Kd.R (Kd.int .u8) 5 w' w.heap.size (fun _ => True) v0_ r ∧ Below w.heap.size w w' := by
  have HR0 := Aside0.mk hr0
  have HC0 := Aside0.mk hc0
  clear hr0 hc0
  have HR1 := Aside0.mk hr1
  have HC1 := Aside0.mk hc1
  clear hr1 hc1
  have HB := Aside0.mk (Below.refl w.heap.size w)
  have H : ((some (([] : List Int) : List Int)).bind fun y214 => (if y214.length + l0.length < 140737488355328 then (pyxlaw21_changed.l0 k l1 (y214 ++ l0) 0) else (none))) = some r := h
  clear h
  obtain ⟨y214, hy214⟩ : ∃ y_ : List Int, y_ = (([] : List Int)) := ⟨_, rfl⟩
  replace H : (if y214.length + l0.length < 140737488355328 then (pyxlaw21_changed.l0 k l1 (y214 ++ l0) 0) else (none)) = some r := by first | (rw [hy214]; with_reducible exact H) | (have H2_ := (Option.bind_some _ _).symm.trans H; rw [hy214]; with_reducible exact H2_) | (have H2_ := (Option.bind_some _ _).symm.trans H; with_reducible exact H2_) | with_reducible exact H | (rw [hy214]; exact H) | exact H
  have Ny214 := Aside0.mk hy214
  clear hy214
  by_cases c3 : y214.length + l0.length < 140737488355328
  · rw [if_pos c3] at H
    have LMc3 := Aside0.mk c3
    clear c3
    obtain ⟨y217, hy217⟩ : ∃ y_ : List Int, y_ = (y214 ++ l0) := ⟨_, rfl⟩
    replace H : (pyxlaw21_changed.l0 k l1 y217 0) = some r := by first | (rw [hy217]; with_reducible exact H) | (have H2_ := (Option.bind_some _ _).symm.trans H; rw [hy217]; with_reducible exact H2_) | (have H2_ := (Option.bind_some _ _).symm.trans H; with_reducible exact H2_) | with_reducible exact H | (rw [hy217]; exact H) | exact H
    have Ny217 := Aside0.mk hy217
    clear hy217
    have H' := Aside0.mk H
    clear H
    go_enter Tryd.func28, Tryd.ntmps28
    go_wp2_with (first | ((with_reducible refine gate_dst (N := 7) rfl ?_); (try (refine gate_guard (by rfl) ?_; dsimp only)); refine Kd.R_lit (Kd.int .u8) _ 5 ?hg (N := 7) ?hd (xs := ([] : List Int)) (inner := []) (ok := fun _ => True) (okp := fun _ => True) ?hr ?hp (fun _ hk => hk) trivial (Below.refl _ _) (Nat.le_refl _) (by simp) ?_; (case hd => rfl); (case hg => rfl); (case hr => first | (go_simp; done) | (go_simp; rfl)); (case hp => exact (Reps.none _ _)); intro v215 w4 ho5 hb hg_ hnew_; clear hg_ hnew_; (first | rw [← Ny214.out] at ho5 | (simp only [Int.reduceToNat] at ho5; rw [← Ny214.out] at ho5)); have n0_ := Aside0.mk (Kd.R_lower ho5 (below_size (by repeat (first | (with_reducible first | exact HB.out | apply below_alloc | apply pw_below_drewN | apply below_drew1) | exact HB.out)))); have n1_ := Aside0.mk (below_step (by repeat (first | (with_reducible first | exact HB.out | apply below_alloc | apply pw_below_drewN | apply below_drew1) | exact HB.out)) hb); clear HB; have HO216 := n0_; have HB := n1_; clear n0_ n1_; clear hb ho5) | ((with_reducible refine gate_builtin (b := .append) (xs := #[.tmp 7, .tmp 8]) rfl ?_); (try (refine gate_guard (by rfl) ?_; dsimp only)); at_builtin; refine Kd.R_append_rows (Kd.int .u8) (w0 := w) w.heap.size rfl (.tmp 7) (.tmp 8) 22 5 (.int .u8 0) 1 rfl Tryd.underlying22 info5 rfl (by decide) (by omega) v215 y214 l0 _ _ _ (fun _ => True) (fun _ => False) rfl rfl ?aO ?aR (fun _ _ h => h) (fun _ h => h.elim) ?aF ?aB ?aS ?aL ?_; (case aR => repeat (first | exact (Kd.C_below HR0.out HB.out) | (with_reducible refine Kd.C_alloc ?_ _) | (with_reducible refine Kd.C_drewN ?_ _) | (with_reducible refine Kd.C_drew ?_))); (case aB => exact (by repeat (first | (with_reducible first | exact HB.out | apply below_alloc | apply pw_below_drewN | apply below_drew1) | exact HB.out))); (case aF => exact (fun _ _ => trivial)); (case aO => exact (by (with_reducible repeat (first | apply Kd.R_alloc | apply Kd.R_drewN | apply Kd.R_drew)); exact HO216.out)); (case aS => exact (below_size (by repeat (first | (with_reducible first | exact HB.out | apply below_alloc | apply pw_below_drewN | apply below_drew1) | exact HB.out)))); (case aL => have := LMc3.out; omega); intro v218 w6 ho hb hg hat; rw [← Ny217.out] at ho; have n0_ := Aside0.mk (hb); have n1_ := Aside0.mk (ho); clear HB; clear HO216; have HB := n0_; have HO219 := n1_; clear n0_ n1_; clear ho hb hg hat))
    go_loopg [5, 6] k (fun kq v5 v6 w' => ∃ (x5_1 : List Int) (x6_1 : Int), v6 = .int .i64 x6_1 ∧ Aside0 (pyxlaw21_changed.l0 kq l1 x5_1 x6_1 = some r) ∧ Aside0 (kq ≤ k) ∧ Aside0 (Kd.R (Kd.int .u8) 5 w' w.heap.size (fun _ => True) v5 x5_1) ∧ Aside0 (Below w.heap.size w w'))
    case atStart => exact ⟨(y217), (0), (by first | rfl | (simp; done) | (simp [*]; done)), H', ⟨Nat.le_refl _⟩, ⟨by (with_reducible repeat (first | apply Kd.R_alloc | apply Kd.R_drewN | apply Kd.R_drew)); exact HO219.out⟩, ⟨by repeat (first | (with_reducible first | exact HB.out | apply below_alloc | apply pw_below_drewN | apply below_drew1) | exact HB.out)⟩⟩
    case round =>
      clear H'
      try clear c1
      try clear c2
      try clear p2
      try clear c3
      obtain ⟨x5_1, x6_1, rfl, HA, HK1, HO_5, HB⟩ := hrel
      cases gk with
      | zero => exact absurd HA.out (by simp [pyxlaw21_changed.l0])
      | succ k1 =>
        have H := HA.out
        clear HA
        simp only [pyxlaw21_changed.l0] at H
        by_cases c7 : x6_1 < (l1.length : Int)
        · rw [if_pos c7] at H
          have c7b0 : decide (x6_1 < (l1.length : Int)) = true := decide_eq_true c7
          clear c7
          have HC8 := Aside0.mk H
          clear H
          go_upto_region 5 with (fail)
          go_cut [31] (fun v31 wc => ∃ (kq : Nat) (x31_7 : Bool), v31 = .bool x31_7 ∧ Aside0 (pyxlaw21_changed.j1 kq l1 x5_1 x6_1 x31_7 = some r) ∧ Aside0 (kq ≤ k1) ∧ Aside0 (Kd.R (Kd.int .u8) 5 wc w.heap.size (fun _ => True) u5 x5_1) ∧ Aside0 (Below w.heap.size w wc))
          case first =>
            have H := HC8.out
            clear HC8
            by_cases c9 : 0 ≤ x6_1
            · rw [if_pos c9] at H
              have c9b0 : decide (0 ≤ x6_1) = true := decide_eq_true c9
              clear c9
              (first | rw [c9b0] | (simp only [i64_w, i32_w]; rw [c9b0]) | skip)
              by_cases c10 : ((rd_T105 l1 x6_1).f0) ≥ 0
              · rw [if_pos c10] at H
                have c10b0 : decide (0 ≤ ((rd_T105 l1 x6_1).f0)) = true := decide_eq_true c10
                clear c10
                have H' := Aside0.mk H
                clear H
                have p220 : 0 ≤ (x6_1 : Int) := of_decide_eq_true (by first | (with_reducible assumption) | assumption)
                have q220 : x6_1 < (l1.length : Int) := of_decide_eq_true (by first | (with_reducible assumption) | assumption)
                obtain ⟨ad220, A220_3, c220_3, e220, hx220_0, hx220_1, hx220_2, hx220_3, hl220_3, hi220_3⟩ := at_T105 HR1.out x6_1 p220 q220
                cases e220
                replace hx220_0 := (HB.out.cell (World.block_lt_of_cell? w _ hx220_0)).trans hx220_0
                replace hx220_1 := (HB.out.cell (World.block_lt_of_cell? w _ hx220_1)).trans hx220_1
                replace hx220_2 := (HB.out.cell (World.block_lt_of_cell? w _ hx220_2)).trans hx220_2
                replace hx220_3 := (HB.out.cell (World.block_lt_of_cell? w _ hx220_3)).trans hx220_3
                have HR220_3 := Aside0.mk hi220_3
                have HC220_3 := Aside0.mk hl220_3
                clear hi220_3 hl220_3
                replace p220 := eq_true p220
                replace q220 := eq_true q220
                have p221 : 0 ≤ (x6_1 : Int) := of_decide_eq_true (by first | (with_reducible assumption) | assumption)
                have q221 : x6_1 < (l1.length : Int) := of_decide_eq_true (by first | (with_reducible assumption) | assumption)
                obtain ⟨ad221, A221_3, c221_3, e221, hx221_0, hx221_1, hx221_2, hx221_3, hl221_3, hi221_3⟩ := at_T105 HR1.out x6_1 p221 q221
                obtain rfl : ad220 = ad221 := (by injection e221)
                replace hx221_0 := (HB.out.cell (World.block_lt_of_cell? w _ hx221_0)).trans hx221_0
                replace hx221_1 := (HB.out.cell (World.block_lt_of_cell? w _ hx221_1)).trans hx221_1
                replace hx221_2 := (HB.out.cell (World.block_lt_of_cell? w _ hx221_2)).trans hx221_2
                replace hx221_3 := (HB.out.cell (World.block_lt_of_cell? w _ hx221_3)).trans hx221_3
                have HR221_3 := Aside0.mk hi221_3
                have HC221_3 := Aside0.mk hl221_3
                clear hi221_3 hl221_3
                replace p221 := eq_true p221
                replace q221 := eq_true q221
                have ea_ := Option.some.inj (hx220_3.symm.trans hx221_3)
                injection ea_ with ea_ en_ ec_
                subst ea_
                subst ec_
                clear en_
                obtain ⟨Ao11, co11, eo11⟩ := Kd.R_slice HO_5.out
                subst eo11
                go_wp2
                go_meet
                case rel => exact ⟨_, (decide (((rd_T105 l1 x6_1).f0) < (x5_1.length : Int))), (by first | rfl | (simp; done) | (simp [*]; done)), H', ⟨by have := HK1.out; first | omega | exact Nat.le_refl _⟩, ⟨by (with_reducible repeat (first | apply Kd.R_alloc | apply Kd.R_drewN | apply Kd.R_drew)); exact HO_5.out⟩, ⟨by repeat (first | (with_reducible first | exact HB.out | apply below_alloc | apply pw_below_drewN | apply below_drew1) | exact HB.out)⟩⟩
              · rw [if_neg c10] at H
                have c10b0 : decide (0 ≤ ((rd_T105 l1 x6_1).f0)) = false := decide_eq_false c10
                clear c10
                have H' := Aside0.mk H
                clear H
                have p220 : 0 ≤ (x6_1 : Int) := of_decide_eq_true (by first | (with_reducible assumption) | assumption)
                have q220 : x6_1 < (l1.length : Int) := of_decide_eq_true (by first | (with_reducible assumption) | assumption)
                obtain ⟨ad220, A220_3, c220_3, e220, hx220_0, hx220_1, hx220_2, hx220_3, hl220_3, hi220_3⟩ := at_T105 HR1.out x6_1 p220 q220
                cases e220
                replace hx220_0 := (HB.out.cell (World.block_lt_of_cell? w _ hx220_0)).trans hx220_0
                replace hx220_1 := (HB.out.cell (World.block_lt_of_cell? w _ hx220_1)).trans hx220_1
                replace hx220_2 := (HB.out.cell (World.block_lt_of_cell? w _ hx220_2)).trans hx220_2
                replace hx220_3 := (HB.out.cell (World.block_lt_of_cell? w _ hx220_3)).trans hx220_3
                have HR220_3 := Aside0.mk hi220_3
                have HC220_3 := Aside0.mk hl220_3
                clear hi220_3 hl220_3
                replace p220 := eq_true p220
                replace q220 := eq_true q220
                go_wp2
                go_meet
                case rel => exact ⟨_, (false), (by first | rfl | (simp; done) | (simp [*]; done)), H', ⟨by have := HK1.out; first | omega | exact Nat.le_refl _⟩, ⟨by (with_reducible repeat (first | apply Kd.R_alloc | apply Kd.R_drewN | apply Kd.R_drew)); exact HO_5.out⟩, ⟨by repeat (first | (with_reducible first | exact HB.out | apply below_alloc | apply pw_below_drewN | apply below_drew1) | exact HB.out)⟩⟩
            · rw [if_neg c9] at H
              exact absurd H (by simp)
          case rest =>
            clear HC8
            try clear c1
            try clear c2
            try clear p2
            try clear q2
            try clear hx2
            try clear c3
            try clear c7
            try clear c7b0
            try clear c9
            try clear c9b0
            try clear c10
            try clear c10b0
            try clear hx220_0
            try clear hx220_1
            try clear hx220_2
            try clear hx220_3
            try clear hx221_0
            try clear hx221_1
            try clear hx221_2
            try clear hx221_3
            try clear p2
            try clear p220
            try clear p221
            try clear q220
            try clear q221
            obtain ⟨kq, x31_7, rfl, HA, HJ7, HO_5, HB⟩ := hcut
            cases kq with
            | zero => exact absurd HA.out (by simp [pyxlaw21_changed.j1])
            | succ kj7 =>
              have H := HA.out
              clear HA
              simp only [pyxlaw21_changed.j1] at H
              have HC12 := Aside0.mk H
              clear H
              go_upto_if 31 with (fail)
              go_cut [] (fun wc => ∃ (kq : Nat) (x5_11 : List Int), Aside0 (pyxlaw21_changed.j2 kq l1 x5_11 x6_1 = some r) ∧ Aside0 (kq ≤ kj7) ∧ Aside0 (Kd.R (Kd.int .u8) 5 wc w.heap.size (fun _ => True) u5 x5_11) ∧ Aside0 (Below w.heap.size w wc))
              case first =>
                have H := HC12.out
                clear HC12
                by_cases c13 : x31_7 = true
                · subst c13
                  have H1 : (if 0 ≤ x6_1 then (if x6_1 < (l1.length : Int) then (if 0 ≤ ((rd_T105 l1 x6_1).f0) then (if ((rd_T105 l1 x6_1).f0) < (x5_1.length : Int) then (pyxlaw21_changed.j2 kj7 l1 (x5_1.set (((rd_T105 l1 x6_1).f0) : Int).toNat ((rd_T105 l1 x6_1).f1)) x6_1) else (none)) else (none)) else (none)) else (none)) = some r := by rw [if_pos rfl] at H; exact H
                  clear H
                  have H := H1
                  clear H1
                  by_cases c14 : 0 ≤ x6_1
                  · rw [if_pos c14] at H
                    have c14b0 : decide (0 ≤ x6_1) = true := decide_eq_true c14
                    clear c14
                    (first | rw [c14b0] | (simp only [i64_w, i32_w]; rw [c14b0]) | skip)
                    by_cases c15 : x6_1 < (l1.length : Int)
                    · rw [if_pos c15] at H
                      have c15b0 : decide (x6_1 < (l1.length : Int)) = true := decide_eq_true c15
                      clear c15
                      by_cases c16 : 0 ≤ ((rd_T105 l1 x6_1).f0)
                      · rw [if_pos c16] at H
                        have c16b0 : decide (0 ≤ ((rd_T105 l1 x6_1).f0)) = true := decide_eq_true c16
                        clear c16
                        by_cases c17 : ((rd_T105 l1 x6_1).f0) < (x5_1.length : Int)
                        · rw [if_pos c17] at H
                          have c17b0 : decide (((rd_T105 l1 x6_1).f0) < (x5_1.length : Int)) = true := decide_eq_true c17
                          clear c17
                          obtain ⟨y224, hy224⟩ : ∃ y_ : List Int, y_ = (x5_1.set (((rd_T105 l1 x6_1).f0) : Int).toNat ((rd_T105 l1 x6_1).f1)) := ⟨_, rfl⟩
                          replace H : (pyxlaw21_changed.j2 kj7 l1 y224 x6_1) = some r := by first | (rw [hy224]; with_reducible exact H) | (have H2_ := (Option.bind_some _ _).symm.trans H; rw [hy224]; with_reducible exact H2_) | (have H2_ := (Option.bind_some _ _).symm.trans H; with_reducible exact H2_) | with_reducible exact H | (rw [hy224]; exact H) | exact H
                          have Ny224 := Aside0.mk hy224
                          clear hy224
                          have H' := Aside0.mk H
                          clear H
                          try go_wp2
                          have n0_ := Aside0.mk (Kd.R_drew HO_5.out)
                          have n1_ := Aside0.mk (below_drew1 HB.out)
                          clear HO_5
                          clear HB
                          have HO_5 := n0_
                          have HB := n1_
                          clear n0_ n1_
                          have p222 : 0 ≤ (x6_1 : Int) := of_decide_eq_true (by first | (with_reducible assumption) | assumption)
                          have q222 : x6_1 < (l1.length : Int) := of_decide_eq_true (by first | (with_reducible assumption) | assumption)
                          obtain ⟨ad222, A222_3, c222_3, e222, hx222_0, hx222_1, hx222_2, hx222_3, hl222_3, hi222_3⟩ := at_T105 HR1.out x6_1 p222 q222
                          have hw222_3 := hx222_3
                          have hw222_2 := hx222_2
                          have hw222_1 := hx222_1
                          have hw222_0 := hx222_0
                          cases e222
                          replace hx222_0 := (HB.out.cell (World.block_lt_of_cell? w _ hx222_0)).trans hx222_0
                          replace hx222_1 := (HB.out.cell (World.block_lt_of_cell? w _ hx222_1)).trans hx222_1
                          replace hx222_2 := (HB.out.cell (World.block_lt_of_cell? w _ hx222_2)).trans hx222_2
                          replace hx222_3 := (HB.out.cell (World.block_lt_of_cell? w _ hx222_3)).trans hx222_3
                          have HR222_3 := Aside0.mk hi222_3
                          have HC222_3 := Aside0.mk hl222_3
                          clear hi222_3 hl222_3
                          replace p222 := eq_true p222
                          replace q222 := eq_true q222
                          have p223 : 0 ≤ (x6_1 : Int) := of_decide_eq_true (by first | (with_reducible assumption) | assumption)
                          have q223 : x6_1 < (l1.length : Int) := of_decide_eq_true (by first | (with_reducible assumption) | assumption)
                          obtain ⟨ad223, A223_3, c223_3, e223, hx223_0, hx223_1, hx223_2, hx223_3, hl223_3, hi223_3⟩ := at_T105 HR1.out x6_1 p223 q223
                          have hw223_3 := hx223_3
                          have hw223_2 := hx223_2
                          have hw223_1 := hx223_1
                          have hw223_0 := hx223_0
                          obtain rfl : ad222 = ad223 := (by injection e223)
                          replace hx223_0 := (HB.out.cell (World.block_lt_of_cell? w _ hx223_0)).trans hx223_0
                          replace hx223_1 := (HB.out.cell (World.block_lt_of_cell? w _ hx223_1)).trans hx223_1
                          replace hx223_2 := (HB.out.cell (World.block_lt_of_cell? w _ hx223_2)).trans hx223_2
                          replace hx223_3 := (HB.out.cell (World.block_lt_of_cell? w _ hx223_3)).trans hx223_3
                          have HR223_3 := Aside0.mk hi223_3
                          have HC223_3 := Aside0.mk hl223_3
                          clear hi223_3 hl223_3
                          replace p223 := eq_true p223
                          replace q223 := eq_true q223
                          have ea_ := Option.some.inj (hx222_3.symm.trans hx223_3)
                          injection ea_ with ea_ en_ ec_
                          subst ea_
                          subst ec_
                          clear en_
                          have p18 : 0 ≤ (((rd_T105 l1 x6_1).f0) : Int) := of_decide_eq_true (by first | (with_reducible assumption) | assumption)
                          have q18 : (((rd_T105 l1 x6_1).f0) : Int) < ((x5_1.length : Int) : Int) := of_decide_eq_true (by first | (with_reducible assumption) | assumption)
                          obtain ⟨go18, co18, eo18, gb18, gl18, cl18, HG18⟩ := Kd.R_form HO_5.out (by omega)
                          (first | cases eo18 | (injection eo18 with ea_ en_ ec_; (first | subst ea_ | (injection ea_ with ea_; subst ea_)); subst ec_; clear en_))
                          have GB18 := Aside0.mk gb18
                          have GG18 := Aside0.mk HG18
                          clear gb18 gl18 HG18
                          obtain ⟨hx18_0, hf18_0⟩ := Kd.R_celln 0 HO_5.out (((rd_T105 l1 x6_1).f0) : Int) p18 q18
                          replace p18 := eq_true p18
                          replace q18 := eq_true q18
                          have HP20 := Kd.R_putn HO_5.out (((rd_T105 l1 x6_1).f0) : Int) ((rd_T105 l1 x6_1).f1)
                          rw [← Ny224.out] at HP20
                          have HQ20 := Aside0.mk HP20
                          clear HP20
                          refine start_ (n := 13) (S := fun w' => w'.cell? (ad222.add ((x6_1).toNat * 4)) = some (.int .i64 ((rd_T105 l1 x6_1).f0)) ∧ w'.cell? ⟨(ad222.add ((x6_1).toNat * 4)).block, (ad222.add ((x6_1).toNat * 4)).off + 1, none⟩ = some (.int .u8 ((rd_T105 l1 x6_1).f1)) ∧ w'.cell? ⟨(ad222.add ((x6_1).toNat * 4)).block, (ad222.add ((x6_1).toNat * 4)).off + 2, none⟩ = some (.int .u16 ((rd_T105 l1 x6_1).f2)) ∧ w'.cell? ⟨(ad222.add ((x6_1).toNat * 4)).block, (ad222.add ((x6_1).toNat * 4)).off + 3, none⟩ = some (.slice A222_3 ((rd_T105 l1 x6_1).f3).length c222_3) ∧ w'.cell? (ad222.add ((x6_1).toNat * 4)) = some (.int .i64 ((rd_T105 l1 x6_1).f0)) ∧ w'.cell? ⟨(ad222.add ((x6_1).toNat * 4)).block, (ad222.add ((x6_1).toNat * 4)).off + 1, none⟩ = some (.int .u8 ((rd_T105 l1 x6_1).f1)) ∧ w'.cell? ⟨(ad222.add ((x6_1).toNat * 4)).block, (ad222.add ((x6_1).toNat * 4)).off + 2, none⟩ = some (.int .u16 ((rd_T105 l1 x6_1).f2)) ∧ w'.cell? ⟨(ad222.add ((x6_1).toNat * 4)).block, (ad222.add ((x6_1).toNat * 4)).off + 3, none⟩ = some (.slice A222_3 ((rd_T105 l1 x6_1).f3).length c222_3)) (ds := [12]) #[false, false, false, false, false, false, false, false, false, false, false, false, false] (by kernel_rfl) rfl rfl ⟨((HB.out.cell (World.block_lt_of_cell? w _ hw222_0)).trans hw222_0), ((HB.out.cell (World.block_lt_of_cell? w _ hw222_1)).trans hw222_1), ((HB.out.cell (World.block_lt_of_cell? w _ hw222_2)).trans hw222_2), ((HB.out.cell (World.block_lt_of_cell? w _ hw222_3)).trans hw222_3), ((HB.out.cell (World.block_lt_of_cell? w _ hw223_0)).trans hw223_0), ((HB.out.cell (World.block_lt_of_cell? w _ hw223_1)).trans hw223_1), ((HB.out.cell (World.block_lt_of_cell? w _ hw223_2)).trans hw223_2), ((HB.out.cell (World.block_lt_of_cell? w _ hw223_3)).trans hw223_3)⟩ (fun hHeld => ?_); refine with_tabW pyxlaw21_changed.tab6 pyxlaw21_changed.bits6 (fun HT_ HW_ => ?_)
                          generalize wc.drew = w19 at HO_5 HB GG18 HQ20 HR222_3 HR223_3 hf18_0 hx18_0 hx222_0 hx222_1 hx222_2 hx222_3 hx223_0 hx223_1 hx223_2 hx223_3 hHeld ⊢
                          refine pure_ (i := 0) (N := some 32) (v := ?_) (a' := ?_) #[true, false, false, false, false, false, false, false, false, false, false, false, false] rfl rfl (any_of HT_.out (by kernel_rfl)) (fun _ _ _ h => h) (Or.inl ⟨by rfl, ?_⟩) ?_ ?_
                          rotate_left
                          · intro w'
                            go_simp
                            with_reducible rfl
                          rotate_left
                          · simp only [Act.put, List.setIfInBounds_toArray, List.set_cons_zero, List.set_cons_succ, i64_w, i32_w]
                            rfl
                          refine pure_ (i := 1) (N := some 33) (v := ?_) (a' := ?_) #[true, true, false, false, false, false, false, false, false, false, false, false, false] rfl rfl (any_of HT_.out (by kernel_rfl)) (fun _ _ _ h => h) (Or.inl ⟨by rfl, ?_⟩) ?_ ?_
                          rotate_left
                          · intro w'
                            go_simp
                            with_reducible rfl
                          rotate_left
                          · simp only [Act.put, List.setIfInBounds_toArray, List.set_cons_zero, List.set_cons_succ, i64_w, i32_w]
                            rfl
                          refine pure_ (i := 2) (N := some 34) (v := ?_) (a' := ?_) #[true, true, true, false, false, false, false, false, false, false, false, false, false] rfl rfl (any_of HT_.out (by kernel_rfl)) (fun _ _ _ h => h) (Or.inl ⟨by rfl, ?_⟩) ?_ ?_
                          rotate_left
                          · intro w'
                            go_simp
                            with_reducible rfl
                          rotate_left
                          · simp only [Act.put, List.setIfInBounds_toArray, List.set_cons_zero, List.set_cons_succ, i64_w, i32_w]
                            rfl
                          refine pure_ (i := 3) (N := some 35) (v := ?_) (a' := ?_) #[true, true, true, true, false, false, false, false, false, false, false, false, false] rfl rfl (any_of HT_.out (by kernel_rfl)) (fun _ _ _ h => h) (Or.inl ⟨by rfl, ?_⟩) ?_ ?_
                          rotate_left
                          · intro w'
                            go_simp
                            with_reducible rfl
                          rotate_left
                          · simp only [Act.put, List.setIfInBounds_toArray, List.set_cons_zero, List.set_cons_succ, i64_w, i32_w]
                            rfl
                          refine pure_ (i := 4) (N := some 36) (v := ?_) (a' := ?_) #[true, true, true, true, true, false, false, false, false, false, false, false, false] rfl rfl (any_of HT_.out (by kernel_rfl)) (fun _ _ _ h => h) (Or.inl ⟨by rfl, ?_⟩) ?_ ?_
                          rotate_left
                          · intro w'
                            go_simp
                            with_reducible rfl
                          rotate_left
                          · simp only [Act.put, List.setIfInBounds_toArray, List.set_cons_zero, List.set_cons_succ, i64_w, i32_w]
                            rfl
                          refine pure_ (i := 6) (N := some 38) (v := ?_) (a' := ?_) #[true, true, true, true, true, false, true, false, false, false, false, false, false] rfl rfl (any_of HT_.out (by kernel_rfl)) (fun _ _ _ h => h) (Or.inl ⟨by rfl, ?_⟩) ?_ ?_
                          rotate_left
                          · intro w'
                            go_simp
                            with_reducible rfl
                          rotate_left
                          · simp only [Act.put, List.setIfInBounds_toArray, List.set_cons_zero, List.set_cons_succ, i64_w, i32_w]
                            rfl
                          refine pure_ (i := 7) (N := some 39) (v := ?_) (a' := ?_) #[true, true, true, true, true, false, true, true, false, false, false, false, false] rfl rfl (any_of HT_.out (by kernel_rfl)) (fun _ _ _ h => h) (Or.inl ⟨by rfl, ?_⟩) ?_ ?_
                          rotate_left
                          · intro w'
                            go_simp
                            with_reducible rfl
                          rotate_left
                          · simp only [Act.put, List.setIfInBounds_toArray, List.set_cons_zero, List.set_cons_succ, i64_w, i32_w]
                            rfl
                          refine pure_ (i := 8) (N := some 40) (v := ?_) (a' := ?_) #[true, true, true, true, true, false, true, true, true, false, false, false, false] rfl rfl (any_of HT_.out (by kernel_rfl)) (fun _ _ _ h => h) (Or.inl ⟨by rfl, ?_⟩) ?_ ?_
                          rotate_left
                          · intro w'
                            go_simp
                            with_reducible rfl
                          rotate_left
                          · simp only [Act.put, List.setIfInBounds_toArray, List.set_cons_zero, List.set_cons_succ, i64_w, i32_w]
                            rfl
                          refine pure_ (i := 9) (N := some 41) (v := ?_) (a' := ?_) #[true, true, true, true, true, false, true, true, true, true, false, false, false] rfl rfl (any_of HT_.out (by kernel_rfl)) (fun _ _ _ h => h) (Or.inl ⟨by rfl, ?_⟩) ?_ ?_
                          rotate_left
                          · intro w'
                            go_simp
                            with_reducible rfl
                          rotate_left
                          · simp only [Act.put, List.setIfInBounds_toArray, List.set_cons_zero, List.set_cons_succ, i64_w, i32_w]
                            rfl
                          refine take_ (i := 5) (N := some 37) (v := ?_) (a' := ?_) #[true, true, true, true, true, true, true, true, true, true, false, false, false] rfl rfl (take_ofW HT_.out HW_.out (by kernel_rfl)) (fun _ _ _ h => h) (Or.inl ⟨by rfl, ?_⟩) hHeld ?_ ?_
                          rotate_left
                          · rintro w' ⟨s0, s1, s2, s3, s4, s5, s6, s7⟩
                            go_simp
                            with_reducible rfl
                          rotate_left
                          · simp only [Act.put, List.setIfInBounds_toArray, List.set_cons_zero, List.set_cons_succ, i64_w, i32_w]
                            rfl
                          refine take_ (i := 10) (N := some 42) (v := ?_) (a' := ?_) #[true, true, true, true, true, true, true, true, true, true, true, false, false] rfl rfl (take_ofW HT_.out HW_.out (by kernel_rfl)) (fun _ _ _ h => h) (Or.inl ⟨by rfl, ?_⟩) hHeld ?_ ?_
                          rotate_left
                          · rintro w' ⟨s0, s1, s2, s3, s4, s5, s6, s7⟩
                            go_simp
                            with_reducible rfl
                          rotate_left
                          · simp only [Act.put, List.setIfInBounds_toArray, List.set_cons_zero, List.set_cons_succ, i64_w, i32_w]
                            rfl
                          refine pure_ (i := 11) (N := some 43) (v := ?_) (a' := ?_) #[true, true, true, true, true, true, true, true, true, true, true, true, false] rfl rfl (any_of HT_.out (by kernel_rfl)) (fun _ _ _ h => h) (Or.inl ⟨by rfl, ?_⟩) ?_ ?_
                          rotate_left
                          · intro w'
                            go_simp
                            with_reducible rfl
                          rotate_left
                          · simp only [Act.put, List.setIfInBounds_toArray, List.set_cons_zero, List.set_cons_succ, i64_w, i32_w]
                            rfl
                          refine last_ (i := 12) (N := none) #[true, true, true, true, true, true, true, true, true, true, true, true, true] rfl rfl (one_of HT_.out (by kernel_rfl)) (by decide) (fun K hK => ?_)
                          refine skip_ (w1 := ?_) (by rfl) rfl ?_ ?_
                          rotate_left
                          · go_simp
                            rfl
                          refine hK.out _ _ ?_
                          clear hK K
                          refine done_ (done_of HT_.out (by kernel_rfl)) ?_
                          try go_wp2
                          go_meet
                          case rel => exact ⟨_, (y224), H', ⟨by have := HK1.out; have := HJ7.out; first | omega | exact Nat.le_refl _⟩, ⟨by (with_reducible repeat (first | apply Kd.R_alloc | apply Kd.R_drewN | apply Kd.R_drew)); exact HQ20.out⟩, ⟨by repeat (first | (with_reducible first | exact HB.out | apply below_alloc | apply pw_below_drewN | apply below_drew1 | refine below_set ?_ GB18.out) | exact HB.out)⟩⟩
                        · rw [if_neg c17] at H
                          exact absurd H (by simp)
                      · rw [if_neg c16] at H
                        exact absurd H (by simp)
                    · rw [if_neg c15] at H
                      exact absurd H (by simp)
                  · rw [if_neg c14] at H
                    exact absurd H (by simp)
                · replace c13 := Bool.eq_false_iff.mpr c13
                  subst c13
                  have H1 : (pyxlaw21_changed.j2 kj7 l1 x5_1 x6_1) = some r := by rw [if_neg (show ¬ (false = true) by decide)] at H; exact H
                  clear H
                  have H := H1
                  clear H1
                  have H' := Aside0.mk H
                  clear H
                  go_wp2
                  go_meet
                  case rel => exact ⟨_, (x5_1), H', ⟨by have := HK1.out; have := HJ7.out; first | omega | exact Nat.le_refl _⟩, ⟨by (with_reducible repeat (first | apply Kd.R_alloc | apply Kd.R_drewN | apply Kd.R_drew)); exact HO_5.out⟩, ⟨by repeat (first | (with_reducible first | exact HB.out | apply below_alloc | apply pw_below_drewN | apply below_drew1) | exact HB.out)⟩⟩
              case rest =>
                clear HC12
                try clear c1
                try clear p1
                try clear q1
                try clear hx1
                try clear c2
                try clear p2
                try clear q2
                try clear hx2
                try clear c3
                try clear c7
                try clear c7b0
                try clear c9
                try clear c9b0
                try clear c10
                try clear c10b0
                try clear c13
                try clear c14
                try clear c14b0
                try clear c15
                try clear c15b0
                try clear c16
                try clear c16b0
                try clear c17
                try clear c17b0
                try clear p18
                try clear q18
                try clear hx18
                try clear hf18
                try clear hx18_0
                try clear hx220_0
                try clear hx220_1
                try clear hx220_2
                try clear hx220_3
                try clear hx221_0
                try clear hx221_1
                try clear hx221_2
                try clear hx221_3
                try clear hx222_0
                try clear hx222_1
                try clear hx222_2
                try clear hx222_3
                try clear hx223_0
                try clear hx223_1
                try clear hx223_2
                try clear hx223_3
                try clear p18
                try clear p2
                try clear p220
                try clear p221
                try clear p222
                try clear p223
                try clear q18
                try clear q2
                try clear q220
                try clear q221
                try clear q222
                try clear q223
                obtain ⟨kq, x5_11, HA, HJ11, HO_5, HB⟩ := hcut
                cases kq with
                | zero => exact absurd HA.out (by simp [pyxlaw21_changed.j2])
                | succ kj11 =>
                  have H := HA.out
                  clear HA
                  simp only [pyxlaw21_changed.j2] at H
                  by_cases c21 : 0 ≤ x6_1
                  · rw [if_pos c21] at H
                    have c21b0 : decide (0 ≤ x6_1) = true := decide_eq_true c21
                    clear c21
                    by_cases c22 : x6_1 < (l1.length : Int)
                    · rw [if_pos c22] at H
                      have c22b0 : decide (x6_1 < (l1.length : Int)) = true := decide_eq_true c22
                      clear c22
                      by_cases c23 : (wrap64 ((rd_T105 l1 x6_1).f2)) ≤ (x5_11.length : Int)
                      · rw [if_pos c23] at H
                        have c23b0 : decide ((wrap64 ((rd_T105 l1 x6_1).f2)) ≤ (x5_11.length : Int)) = true := decide_eq_true c23
                        clear c23
                        obtain ⟨ji24, hji24⟩ : ∃ j_ : Int, (wrap64 ((x5_11.length : Int) - (wrap64 ((rd_T105 l1 x6_1).f2)))) = j_ := ⟨_, rfl⟩
                        replace H : (if 0 ≤ (ji24) then (if (ji24) ≤ (x5_11.length : Int) then ((some (x5_11.take ((ji24) : Int).toNat : List Int)).bind fun y227 => (if (((rd_T105 l1 x6_1).f3).length : Int) ≤ 100 then (if y227.length + ((rd_T105 l1 x6_1).f3).length < 140737488355328 then (pyxlaw21_changed.l0 kj11 l1 (y227 ++ ((rd_T105 l1 x6_1).f3)) (wrap64 (x6_1 + 1))) else (none)) else (pyxlaw21_changed.l0 kj11 l1 y227 (wrap64 (x6_1 + 1))))) else (none)) else (none)) = some r := by first | (rw [hji24] at H; exact H) | (simp only [hji24] at H ⊢; exact H)
                        have hji24w : (IntKind.i64.wrap ((x5_11.length : Int) - (wrap64 ((rd_T105 l1 x6_1).f2)))) = ji24 := (i64_w _).trans hji24
                        by_cases c25 : 0 ≤ (ji24)
                        · rw [if_pos c25] at H
                          have c25b0 := eq_true c25
                          have c25b1 : decide (0 ≤ (ji24)) = true := decide_eq_true c25
                          clear c25
                          by_cases c26 : (ji24) ≤ (x5_11.length : Int)
                          · rw [if_pos c26] at H
                            have c26b0 := eq_true c26
                            have c26b1 : decide ((ji24) ≤ (x5_11.length : Int)) = true := decide_eq_true c26
                            clear c26
                            obtain ⟨y227, hy227⟩ : ∃ y_ : List Int, y_ = (x5_11.take ((ji24) : Int).toNat) := ⟨_, rfl⟩
                            replace H : (if (((rd_T105 l1 x6_1).f3).length : Int) ≤ 100 then (if y227.length + ((rd_T105 l1 x6_1).f3).length < 140737488355328 then (pyxlaw21_changed.l0 kj11 l1 (y227 ++ ((rd_T105 l1 x6_1).f3)) (wrap64 (x6_1 + 1))) else (none)) else (pyxlaw21_changed.l0 kj11 l1 y227 (wrap64 (x6_1 + 1)))) = some r := by first | (rw [hy227]; with_reducible exact H) | (have H2_ := (Option.bind_some _ _).symm.trans H; rw [hy227]; with_reducible exact H2_) | (have H2_ := (Option.bind_some _ _).symm.trans H; with_reducible exact H2_) | with_reducible exact H | (rw [hy227]; exact H) | exact H
                            have Ny227 := Aside0.mk hy227
                            clear hy227
                            by_cases c27 : (((rd_T105 l1 x6_1).f3).length : Int) ≤ 100
                            · rw [if_pos c27] at H
                              have c27b0 : decide ((((rd_T105 l1 x6_1).f3).length : Int) ≤ 100) = true := decide_eq_true c27
                              have c27b1 : decide (((rd_T105 l1 x6_1).f3).length ≤ 100) = true := decide_eq_true (by omega)
                              clear c27
                              by_cases c28 : y227.length + ((rd_T105 l1 x6_1).f3).length < 140737488355328
                              · rw [if_pos c28] at H
                                have LMc28 := Aside0.mk c28
                                clear c28
                                obtain ⟨y232, hy232⟩ : ∃ y_ : List Int, y_ = (y227 ++ ((rd_T105 l1 x6_1).f3)) := ⟨_, rfl⟩
                                replace H : (pyxlaw21_changed.l0 kj11 l1 y232 (wrap64 (x6_1 + 1))) = some r := by first | (rw [hy232]; with_reducible exact H) | (have H2_ := (Option.bind_some _ _).symm.trans H; rw [hy232]; with_reducible exact H2_) | (have H2_ := (Option.bind_some _ _).symm.trans H; with_reducible exact H2_) | with_reducible exact H | (rw [hy232]; exact H) | exact H
                                have Ny232 := Aside0.mk hy232
                                clear hy232
                                have H' := Aside0.mk H
                                clear H
                                have p225 : 0 ≤ (x6_1 : Int) := of_decide_eq_true (by first | (with_reducible assumption) | assumption)
                                have q225 : x6_1 < (l1.length : Int) := of_decide_eq_true (by first | (with_reducible assumption) | assumption)
                                obtain ⟨ad225, A225_3, c225_3, e225, hx225_0, hx225_1, hx225_2, hx225_3, hl225_3, hi225_3⟩ := at_T105 HR1.out x6_1 p225 q225
                                cases e225
                                replace hx225_0 := (HB.out.cell (World.block_lt_of_cell? w _ hx225_0)).trans hx225_0
                                replace hx225_1 := (HB.out.cell (World.block_lt_of_cell? w _ hx225_1)).trans hx225_1
                                replace hx225_2 := (HB.out.cell (World.block_lt_of_cell? w _ hx225_2)).trans hx225_2
                                replace hx225_3 := (HB.out.cell (World.block_lt_of_cell? w _ hx225_3)).trans hx225_3
                                have HR225_3 := Aside0.mk hi225_3
                                have HC225_3 := Aside0.mk hl225_3
                                clear hi225_3 hl225_3
                                replace p225 := eq_true p225
                                replace q225 := eq_true q225
                                obtain ⟨Ao29, co29, eo29⟩ := Kd.R_slice HO_5.out
                                subst eo29
                                have p226 : 0 ≤ (x6_1 : Int) := of_decide_eq_true (by first | (with_reducible assumption) | assumption)
                                have q226 : x6_1 < (l1.length : Int) := of_decide_eq_true (by first | (with_reducible assumption) | assumption)
                                obtain ⟨ad226, A226_3, c226_3, e226, hx226_0, hx226_1, hx226_2, hx226_3, hl226_3, hi226_3⟩ := at_T105 HR1.out x6_1 p226 q226
                                obtain rfl : ad225 = ad226 := (by injection e226)
                                replace hx226_0 := (HB.out.cell (World.block_lt_of_cell? w _ hx226_0)).trans hx226_0
                                replace hx226_1 := (HB.out.cell (World.block_lt_of_cell? w _ hx226_1)).trans hx226_1
                                replace hx226_2 := (HB.out.cell (World.block_lt_of_cell? w _ hx226_2)).trans hx226_2
                                replace hx226_3 := (HB.out.cell (World.block_lt_of_cell? w _ hx226_3)).trans hx226_3
                                have HR226_3 := Aside0.mk hi226_3
                                have HC226_3 := Aside0.mk hl226_3
                                clear hi226_3 hl226_3
                                replace p226 := eq_true p226
                                replace q226 := eq_true q226
                                have ea_ := Option.some.inj (hx225_3.symm.trans hx226_3)
                                injection ea_ with ea_ en_ ec_
                                subst ea_
                                subst ec_
                                clear en_
                                have q30 : ((ji24) : Int) ≤ ((x5_11.length : Int) : Int) := of_decide_eq_true (by first | (with_reducible assumption) | assumption)
                                obtain ⟨i030, hi030, _, hsz30, _⟩ := info_parts info5
                                have hcut30 := cut_to (P := Tryd.prog) 22 5 .i64 Tryd.underlying22 hi030 Ao29 x5_11.length co29 (ji24) (of_decide_eq_true (by first | (with_reducible assumption) | assumption)) q30 (Kd.R_reads' HO_5.out).2.1
                                have hr30 := Kd.R_take (m := ((ji24) : Int).toNat) HO_5.out (by omega)
                                have hy30 : y227.length = ((ji24) : Int).toNat := (by rw [Ny227.out, List.length_take]; omega)
                                rw [← Ny227.out] at hr30
                                rw [← hy30] at hr30 hcut30
                                clear hy30 hi030 hsz30 HO_5
                                have HO229 := Aside0.mk hr30
                                clear hr30
                                replace q30 := eq_true q30
                                have p230 : 0 ≤ (x6_1 : Int) := of_decide_eq_true (by first | (with_reducible assumption) | assumption)
                                have q230 : x6_1 < (l1.length : Int) := of_decide_eq_true (by first | (with_reducible assumption) | assumption)
                                obtain ⟨ad230, A230_3, c230_3, e230, hx230_0, hx230_1, hx230_2, hx230_3, hl230_3, hi230_3⟩ := at_T105 HR1.out x6_1 p230 q230
                                obtain rfl : ad225 = ad230 := (by injection e230)
                                replace hx230_0 := (HB.out.cell (World.block_lt_of_cell? w _ hx230_0)).trans hx230_0
                                replace hx230_1 := (HB.out.cell (World.block_lt_of_cell? w _ hx230_1)).trans hx230_1
                                replace hx230_2 := (HB.out.cell (World.block_lt_of_cell? w _ hx230_2)).trans hx230_2
                                replace hx230_3 := (HB.out.cell (World.block_lt_of_cell? w _ hx230_3)).trans hx230_3
                                have HR230_3 := Aside0.mk hi230_3
                                have HC230_3 := Aside0.mk hl230_3
                                clear hi230_3 hl230_3
                                replace p230 := eq_true p230
                                replace q230 := eq_true q230
                                have ea_ := Option.some.inj (hx225_3.symm.trans hx230_3)
                                injection ea_ with ea_ en_ ec_
                                subst ea_
                                subst ec_
                                clear en_
                                have p231 : 0 ≤ (x6_1 : Int) := of_decide_eq_true (by first | (with_reducible assumption) | assumption)
                                have q231 : x6_1 < (l1.length : Int) := of_decide_eq_true (by first | (with_reducible assumption) | assumption)
                                obtain ⟨ad231, A231_3, c231_3, e231, hx231_0, hx231_1, hx231_2, hx231_3, hl231_3, hi231_3⟩ := at_T105 HR1.out x6_1 p231 q231
                                obtain rfl : ad225 = ad231 := (by injection e231)
                                replace hx231_0 := (HB.out.cell (World.block_lt_of_cell? w _ hx231_0)).trans hx231_0
                                replace hx231_1 := (HB.out.cell (World.block_lt_of_cell? w _ hx231_1)).trans hx231_1
                                replace hx231_2 := (HB.out.cell (World.block_lt_of_cell? w _ hx231_2)).trans hx231_2
                                replace hx231_3 := (HB.out.cell (World.block_lt_of_cell? w _ hx231_3)).trans hx231_3
                                have HR231_3 := Aside0.mk hi231_3
                                have HC231_3 := Aside0.mk hl231_3
                                clear hi231_3 hl231_3
                                replace p231 := eq_true p231
                                replace q231 := eq_true q231
                                have ea_ := Option.some.inj (hx225_3.symm.trans hx231_3)
                                injection ea_ with ea_ en_ ec_
                                subst ea_
                                subst ec_
                                clear en_
                                go_wp2_with (first | ((with_reducible refine gate_builtin (b := .append) (xs := #[.tmp 71, .tmp 76]) rfl ?_); (try (refine gate_guard (by rfl) ?_; dsimp only)); at_builtin; refine Kd.R_append_rows (Kd.int .u8) (w0 := w) w.heap.size rfl (.tmp 71) (.tmp 76) 22 5 (.int .u8 0) 1 rfl Tryd.underlying22 info5 rfl (by decide) (by omega) (.slice Ao29 y227.length co29) y227 ((rd_T105 l1 x6_1).f3) _ _ _ (fun _ => True) (fun _ => False) rfl rfl ?aO ?aR (fun _ _ h => h) (fun _ h => h.elim) ?aF ?aB ?aS ?aL ?_; (case aR => repeat (first | exact (Kd.C_below HR231_3.out HB.out) | (with_reducible refine Kd.C_alloc ?_ _) | (with_reducible refine Kd.C_drewN ?_ _) | (with_reducible refine Kd.C_drew ?_))); (case aB => exact (by repeat (first | (with_reducible first | exact HB.out | apply below_alloc | apply pw_below_drewN | apply below_drew1) | exact HB.out))); (case aF => exact (fun _ _ => trivial)); (case aO => exact (by (with_reducible repeat (first | apply Kd.R_alloc | apply Kd.R_drewN | apply Kd.R_drew)); exact HO229.out)); (case aS => exact (below_size (by repeat (first | (with_reducible first | exact HB.out | apply below_alloc | apply pw_below_drewN | apply below_drew1) | exact HB.out)))); (case aL => have := LMc28.out; omega); intro v233 w31 ho hb hg hat; rw [← Ny232.out] at ho; have n0_ := Aside0.mk (hb); have n1_ := Aside0.mk (ho); clear HB; clear HO229; have HB := n0_; have HO234 := n1_; clear n0_ n1_; clear ho hb hg hat))
                                go_roundg kj11
                                case measure => have := HK1.out; have := HJ7.out; have := HJ11.out; omega
                                case rel => exact ⟨(y232), (wrap64 (x6_1 + 1)), (by first | rfl | (simp; done) | (simp [*]; done)), H', ⟨by have := HK1.out; have := HJ7.out; have := HJ11.out; omega⟩, ⟨by (with_reducible repeat (first | apply Kd.R_alloc | apply Kd.R_drewN | apply Kd.R_drew)); exact HO234.out⟩, ⟨by repeat (first | (with_reducible first | exact HB.out | apply below_alloc | apply pw_below_drewN | apply below_drew1) | exact HB.out)⟩⟩
                              · rw [if_neg c28] at H
                                exact absurd H (by simp)
                            · rw [if_neg c27] at H
                              have c27b0 : decide ((((rd_T105 l1 x6_1).f3).length : Int) ≤ 100) = false := decide_eq_false c27
                              have c27b1 : decide (((rd_T105 l1 x6_1).f3).length ≤ 100) = false := decide_eq_false (by omega)
                              clear c27
                              have H' := Aside0.mk H
                              clear H
                              have p225 : 0 ≤ (x6_1 : Int) := of_decide_eq_true (by first | (with_reducible assumption) | assumption)
                              have q225 : x6_1 < (l1.length : Int) := of_decide_eq_true (by first | (with_reducible assumption) | assumption)
                              obtain ⟨ad225, A225_3, c225_3, e225, hx225_0, hx225_1, hx225_2, hx225_3, hl225_3, hi225_3⟩ := at_T105 HR1.out x6_1 p225 q225
                              cases e225
                              replace hx225_0 := (HB.out.cell (World.block_lt_of_cell? w _ hx225_0)).trans hx225_0
                              replace hx225_1 := (HB.out.cell (World.block_lt_of_cell? w _ hx225_1)).trans hx225_1
                              replace hx225_2 := (HB.out.cell (World.block_lt_of_cell? w _ hx225_2)).trans hx225_2
                              replace hx225_3 := (HB.out.cell (World.block_lt_of_cell? w _ hx225_3)).trans hx225_3
                              have HR225_3 := Aside0.mk hi225_3
                              have HC225_3 := Aside0.mk hl225_3
                              clear hi225_3 hl225_3
                              replace p225 := eq_true p225
                              replace q225 := eq_true q225
                              obtain ⟨Ao32, co32, eo32⟩ := Kd.R_slice HO_5.out
                              subst eo32
                              have p226 : 0 ≤ (x6_1 : Int) := of_decide_eq_true (by first | (with_reducible assumption) | assumption)
                              have q226 : x6_1 < (l1.length : Int) := of_decide_eq_true (by first | (with_reducible assumption) | assumption)
                              obtain ⟨ad226, A226_3, c226_3, e226, hx226_0, hx226_1, hx226_2, hx226_3, hl226_3, hi226_3⟩ := at_T105 HR1.out x6_1 p226 q226
                              obtain rfl : ad225 = ad226 := (by injection e226)
                              replace hx226_0 := (HB.out.cell (World.block_lt_of_cell? w _ hx226_0)).trans hx226_0
                              replace hx226_1 := (HB.out.cell (World.block_lt_of_cell? w _ hx226_1)).trans hx226_1
                              replace hx226_2 := (HB.out.cell (World.block_lt_of_cell? w _ hx226_2)).trans hx226_2
                              replace hx226_3 := (HB.out.cell (World.block_lt_of_cell? w _ hx226_3)).trans hx226_3
                              have HR226_3 := Aside0.mk hi226_3
                              have HC226_3 := Aside0.mk hl226_3
                              clear hi226_3 hl226_3
                              replace p226 := eq_true p226
                              replace q226 := eq_true q226
                              have ea_ := Option.some.inj (hx225_3.symm.trans hx226_3)
                              injection ea_ with ea_ en_ ec_
                              subst ea_
                              subst ec_
                              clear en_
                              have q33 : ((ji24) : Int) ≤ ((x5_11.length : Int) : Int) := of_decide_eq_true (by first | (with_reducible assumption) | assumption)
                              obtain ⟨i033, hi033, _, hsz33, _⟩ := info_parts info5
                              have hcut33 := cut_to (P := Tryd.prog) 22 5 .i64 Tryd.underlying22 hi033 Ao32 x5_11.length co32 (ji24) (of_decide_eq_true (by first | (with_reducible assumption) | assumption)) q33 (Kd.R_reads' HO_5.out).2.1
                              have hr33 := Kd.R_take (m := ((ji24) : Int).toNat) HO_5.out (by omega)
                              have hy33 : y227.length = ((ji24) : Int).toNat := (by rw [Ny227.out, List.length_take]; omega)
                              rw [← Ny227.out] at hr33
                              rw [← hy33] at hr33 hcut33
                              clear hy33 hi033 hsz33 HO_5
                              have HO229 := Aside0.mk hr33
                              clear hr33
                              replace q33 := eq_true q33
                              have p230 : 0 ≤ (x6_1 : Int) := of_decide_eq_true (by first | (with_reducible assumption) | assumption)
                              have q230 : x6_1 < (l1.length : Int) := of_decide_eq_true (by first | (with_reducible assumption) | assumption)
                              obtain ⟨ad230, A230_3, c230_3, e230, hx230_0, hx230_1, hx230_2, hx230_3, hl230_3, hi230_3⟩ := at_T105 HR1.out x6_1 p230 q230
                              obtain rfl : ad225 = ad230 := (by injection e230)
                              replace hx230_0 := (HB.out.cell (World.block_lt_of_cell? w _ hx230_0)).trans hx230_0
                              replace hx230_1 := (HB.out.cell (World.block_lt_of_cell? w _ hx230_1)).trans hx230_1
                              replace hx230_2 := (HB.out.cell (World.block_lt_of_cell? w _ hx230_2)).trans hx230_2
                              replace hx230_3 := (HB.out.cell (World.block_lt_of_cell? w _ hx230_3)).trans hx230_3
                              have HR230_3 := Aside0.mk hi230_3
                              have HC230_3 := Aside0.mk hl230_3
                              clear hi230_3 hl230_3
                              replace p230 := eq_true p230
                              replace q230 := eq_true q230
                              have ea_ := Option.some.inj (hx225_3.symm.trans hx230_3)
                              injection ea_ with ea_ en_ ec_
                              subst ea_
                              subst ec_
                              clear en_
                              go_wp2
                              go_roundg kj11
                              case measure => have := HK1.out; have := HJ7.out; have := HJ11.out; omega
                              case rel => exact ⟨(y227), (wrap64 (x6_1 + 1)), (by first | rfl | (simp; done) | (simp [*]; done)), H', ⟨by have := HK1.out; have := HJ7.out; have := HJ11.out; omega⟩, ⟨by (with_reducible repeat (first | apply Kd.R_alloc | apply Kd.R_drewN | apply Kd.R_drew)); exact HO229.out⟩, ⟨by repeat (first | (with_reducible first | exact HB.out | apply below_alloc | apply pw_below_drewN | apply below_drew1) | exact HB.out)⟩⟩
                          · rw [if_neg c26] at H
                            exact absurd H (by simp)
                        · rw [if_neg c25] at H
                          exact absurd H (by simp)
                      · rw [if_neg c23] at H
                        have c23b0 : decide ((wrap64 ((rd_T105 l1 x6_1).f2)) ≤ (x5_11.length : Int)) = false := decide_eq_false c23
                        clear c23
                        by_cases c34 : (((rd_T105 l1 x6_1).f3).length : Int) ≤ 100
                        · rw [if_pos c34] at H
                          have c34b0 : decide ((((rd_T105 l1 x6_1).f3).length : Int) ≤ 100) = true := decide_eq_true c34
                          have c34b1 : decide (((rd_T105 l1 x6_1).f3).length ≤ 100) = true := decide_eq_true (by omega)
                          clear c34
                          by_cases c35 : x5_11.length + ((rd_T105 l1 x6_1).f3).length < 140737488355328
                          · rw [if_pos c35] at H
                            have LMc35 := Aside0.mk c35
                            clear c35
                            obtain ⟨y237, hy237⟩ : ∃ y_ : List Int, y_ = (x5_11 ++ ((rd_T105 l1 x6_1).f3)) := ⟨_, rfl⟩
                            replace H : (pyxlaw21_changed.l0 kj11 l1 y237 (wrap64 (x6_1 + 1))) = some r := by first | (rw [hy237]; with_reducible exact H) | (have H2_ := (Option.bind_some _ _).symm.trans H; rw [hy237]; with_reducible exact H2_) | (have H2_ := (Option.bind_some _ _).symm.trans H; with_reducible exact H2_) | with_reducible exact H | (rw [hy237]; exact H) | exact H
                            have Ny237 := Aside0.mk hy237
                            clear hy237
                            have H' := Aside0.mk H
                            clear H
                            have p225 : 0 ≤ (x6_1 : Int) := of_decide_eq_true (by first | (with_reducible assumption) | assumption)
                            have q225 : x6_1 < (l1.length : Int) := of_decide_eq_true (by first | (with_reducible assumption) | assumption)
                            obtain ⟨ad225, A225_3, c225_3, e225, hx225_0, hx225_1, hx225_2, hx225_3, hl225_3, hi225_3⟩ := at_T105 HR1.out x6_1 p225 q225
                            cases e225
                            replace hx225_0 := (HB.out.cell (World.block_lt_of_cell? w _ hx225_0)).trans hx225_0
                            replace hx225_1 := (HB.out.cell (World.block_lt_of_cell? w _ hx225_1)).trans hx225_1
                            replace hx225_2 := (HB.out.cell (World.block_lt_of_cell? w _ hx225_2)).trans hx225_2
                            replace hx225_3 := (HB.out.cell (World.block_lt_of_cell? w _ hx225_3)).trans hx225_3
                            have HR225_3 := Aside0.mk hi225_3
                            have HC225_3 := Aside0.mk hl225_3
                            clear hi225_3 hl225_3
                            replace p225 := eq_true p225
                            replace q225 := eq_true q225
                            obtain ⟨Ao36, co36, eo36⟩ := Kd.R_slice HO_5.out
                            subst eo36
                            have p235 : 0 ≤ (x6_1 : Int) := of_decide_eq_true (by first | (with_reducible assumption) | assumption)
                            have q235 : x6_1 < (l1.length : Int) := of_decide_eq_true (by first | (with_reducible assumption) | assumption)
                            obtain ⟨ad235, A235_3, c235_3, e235, hx235_0, hx235_1, hx235_2, hx235_3, hl235_3, hi235_3⟩ := at_T105 HR1.out x6_1 p235 q235
                            obtain rfl : ad225 = ad235 := (by injection e235)
                            replace hx235_0 := (HB.out.cell (World.block_lt_of_cell? w _ hx235_0)).trans hx235_0
                            replace hx235_1 := (HB.out.cell (World.block_lt_of_cell? w _ hx235_1)).trans hx235_1
                            replace hx235_2 := (HB.out.cell (World.block_lt_of_cell? w _ hx235_2)).trans hx235_2
                            replace hx235_3 := (HB.out.cell (World.block_lt_of_cell? w _ hx235_3)).trans hx235_3
                            have HR235_3 := Aside0.mk hi235_3
                            have HC235_3 := Aside0.mk hl235_3
                            clear hi235_3 hl235_3
                            replace p235 := eq_true p235
                            replace q235 := eq_true q235
                            have ea_ := Option.some.inj (hx225_3.symm.trans hx235_3)
                            injection ea_ with ea_ en_ ec_
                            subst ea_
                            subst ec_
                            clear en_
                            have p236 : 0 ≤ (x6_1 : Int) := of_decide_eq_true (by first | (with_reducible assumption) | assumption)
                            have q236 : x6_1 < (l1.length : Int) := of_decide_eq_true (by first | (with_reducible assumption) | assumption)
                            obtain ⟨ad236, A236_3, c236_3, e236, hx236_0, hx236_1, hx236_2, hx236_3, hl236_3, hi236_3⟩ := at_T105 HR1.out x6_1 p236 q236
                            obtain rfl : ad225 = ad236 := (by injection e236)
                            replace hx236_0 := (HB.out.cell (World.block_lt_of_cell? w _ hx236_0)).trans hx236_0
                            replace hx236_1 := (HB.out.cell (World.block_lt_of_cell? w _ hx236_1)).trans hx236_1
                            replace hx236_2 := (HB.out.cell (World.block_lt_of_cell? w _ hx236_2)).trans hx236_2
                            replace hx236_3 := (HB.out.cell (World.block_lt_of_cell? w _ hx236_3)).trans hx236_3
                            have HR236_3 := Aside0.mk hi236_3
                            have HC236_3 := Aside0.mk hl236_3
                            clear hi236_3 hl236_3
                            replace p236 := eq_true p236
                            replace q236 := eq_true q236
                            have ea_ := Option.some.inj (hx225_3.symm.trans hx236_3)
                            injection ea_ with ea_ en_ ec_
                            subst ea_
                            subst ec_
                            clear en_
                            go_wp2_with (first | ((with_reducible refine gate_builtin (b := .append) (xs := #[.tmp 71, .tmp 76]) rfl ?_); (try (refine gate_guard (by rfl) ?_; dsimp only)); at_builtin; refine Kd.R_append_rows (Kd.int .u8) (w0 := w) w.heap.size rfl (.tmp 71) (.tmp 76) 22 5 (.int .u8 0) 1 rfl Tryd.underlying22 info5 rfl (by decide) (by omega) (.slice Ao36 x5_11.length co36) x5_11 ((rd_T105 l1 x6_1).f3) _ _ _ (fun _ => True) (fun _ => False) rfl rfl ?aO ?aR (fun _ _ h => h) (fun _ h => h.elim) ?aF ?aB ?aS ?aL ?_; (case aR => repeat (first | exact (Kd.C_below HR236_3.out HB.out) | (with_reducible refine Kd.C_alloc ?_ _) | (with_reducible refine Kd.C_drewN ?_ _) | (with_reducible refine Kd.C_drew ?_))); (case aB => exact (by repeat (first | (with_reducible first | exact HB.out | apply below_alloc | apply pw_below_drewN | apply below_drew1) | exact HB.out))); (case aF => exact (fun _ _ => trivial)); (case aO => exact (by (with_reducible repeat (first | apply Kd.R_alloc | apply Kd.R_drewN | apply Kd.R_drew)); exact HO_5.out)); (case aS => exact (below_size (by repeat (first | (with_reducible first | exact HB.out | apply below_alloc | apply pw_below_drewN | apply below_drew1) | exact HB.out)))); (case aL => have := LMc35.out; omega); intro v238 w37 ho hb hg hat; rw [← Ny237.out] at ho; have n0_ := Aside0.mk (hb); have n1_ := Aside0.mk (ho); clear HB; clear HO_5; have HB := n0_; have HO239 := n1_; clear n0_ n1_; clear ho hb hg hat))
                            go_roundg kj11
                            case measure => have := HK1.out; have := HJ7.out; have := HJ11.out; omega
                            case rel => exact ⟨(y237), (wrap64 (x6_1 + 1)), (by first | rfl | (simp; done) | (simp [*]; done)), H', ⟨by have := HK1.out; have := HJ7.out; have := HJ11.out; omega⟩, ⟨by (with_reducible repeat (first | apply Kd.R_alloc | apply Kd.R_drewN | apply Kd.R_drew)); exact HO239.out⟩, ⟨by repeat (first | (with_reducible first | exact HB.out | apply below_alloc | apply pw_below_drewN | apply below_drew1) | exact HB.out)⟩⟩
                          · rw [if_neg c35] at H
                            exact absurd H (by simp)
                        · rw [if_neg c34] at H
                          have c34b0 : decide ((((rd_T105 l1 x6_1).f3).length : Int) ≤ 100) = false := decide_eq_false c34
                          have c34b1 : decide (((rd_T105 l1 x6_1).f3).length ≤ 100) = false := decide_eq_false (by omega)
                          clear c34
                          have H' := Aside0.mk H
                          clear H
                          have p225 : 0 ≤ (x6_1 : Int) := of_decide_eq_true (by first | (with_reducible assumption) | assumption)
                          have q225 : x6_1 < (l1.length : Int) := of_decide_eq_true (by first | (with_reducible assumption) | assumption)
                          obtain ⟨ad225, A225_3, c225_3, e225, hx225_0, hx225_1, hx225_2, hx225_3, hl225_3, hi225_3⟩ := at_T105 HR1.out x6_1 p225 q225
                          cases e225
                          replace hx225_0 := (HB.out.cell (World.block_lt_of_cell? w _ hx225_0)).trans hx225_0
                          replace hx225_1 := (HB.out.cell (World.block_lt_of_cell? w _ hx225_1)).trans hx225_1
                          replace hx225_2 := (HB.out.cell (World.block_lt_of_cell? w _ hx225_2)).trans hx225_2
                          replace hx225_3 := (HB.out.cell (World.block_lt_of_cell? w _ hx225_3)).trans hx225_3
                          have HR225_3 := Aside0.mk hi225_3
                          have HC225_3 := Aside0.mk hl225_3
                          clear hi225_3 hl225_3
                          replace p225 := eq_true p225
                          replace q225 := eq_true q225
                          obtain ⟨Ao38, co38, eo38⟩ := Kd.R_slice HO_5.out
                          subst eo38
                          have p235 : 0 ≤ (x6_1 : Int) := of_decide_eq_true (by first | (with_reducible assumption) | assumption)
                          have q235 : x6_1 < (l1.length : Int) := of_decide_eq_true (by first | (with_reducible assumption) | assumption)
                          obtain ⟨ad235, A235_3, c235_3, e235, hx235_0, hx235_1, hx235_2, hx235_3, hl235_3, hi235_3⟩ := at_T105 HR1.out x6_1 p235 q235
                          obtain rfl : ad225 = ad235 := (by injection e235)
                          replace hx235_0 := (HB.out.cell (World.block_lt_of_cell? w _ hx235_0)).trans hx235_0
                          replace hx235_1 := (HB.out.cell (World.block_lt_of_cell? w _ hx235_1)).trans hx235_1
                          replace hx235_2 := (HB.out.cell (World.block_lt_of_cell? w _ hx235_2)).trans hx235_2
                          replace hx235_3 := (HB.out.cell (World.block_lt_of_cell? w _ hx235_3)).trans hx235_3
                          have HR235_3 := Aside0.mk hi235_3
                          have HC235_3 := Aside0.mk hl235_3
                          clear hi235_3 hl235_3
                          replace p235 := eq_true p235
                          replace q235 := eq_true q235
                          have ea_ := Option.some.inj (hx225_3.symm.trans hx235_3)
                          injection ea_ with ea_ en_ ec_
                          subst ea_
                          subst ec_
                          clear en_
                          go_wp2
                          go_roundg kj11
                          case measure => have := HK1.out; have := HJ7.out; have := HJ11.out; omega
                          case rel => exact ⟨(x5_11), (wrap64 (x6_1 + 1)), (by first | rfl | (simp; done) | (simp [*]; done)), H', ⟨by have := HK1.out; have := HJ7.out; have := HJ11.out; omega⟩, ⟨by (with_reducible repeat (first | apply Kd.R_alloc | apply Kd.R_drewN | apply Kd.R_drew)); exact HO_5.out⟩, ⟨by repeat (first | (with_reducible first | exact HB.out | apply below_alloc | apply pw_below_drewN | apply below_drew1) | exact HB.out)⟩⟩
                    · rw [if_neg c22] at H
                      exact absurd H (by simp)
                  · rw [if_neg c21] at H
                    exact absurd H (by simp)
        · rw [if_neg c7] at H
          have c7b0 : decide (x6_1 < (l1.length : Int)) = false := decide_eq_false c7
          clear c7
          obtain rfl := Option.some.inj H
          go_wp2
          go_ret
          exact ⟨_, by first | rfl | (simp [errW_none, errW_some] <;> rfl) | (simp [*, errW_none, errW_some] <;> rfl), by (with_reducible repeat (first | apply Kd.R_alloc | apply Kd.R_drewN | apply Kd.R_drew)); exact HO_5.out, by repeat (first | (with_reducible first | exact HB.out | apply below_alloc | apply pw_below_drewN | apply below_drew1) | exact HB.out)⟩
  · rw [if_neg c3] at H
    exact absurd H (by simp)
end Go.Proofs.YtijmigapdcikpaaDoor.PLms
