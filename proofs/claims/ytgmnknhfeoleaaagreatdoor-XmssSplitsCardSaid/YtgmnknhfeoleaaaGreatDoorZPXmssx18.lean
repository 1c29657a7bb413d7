import Derived.Test.YtgmnknhfeoleaaaGreatDoorZQ
import Derived.Test.YtgmnknhfeoleaaaGreatDoorZPXmssx0
namespace Go.Proofs.YtgmnknhfeoleaaaGreatDoor.PXmss
open Go.RowKit Go.Proofs.YtgmnknhfeoleaaaGreatDoorW.PrintWords Go.Proofs.YtgmnknhfeoleaaaGreatDoorW.PrintLast Go.Proofs.YtgmnknhfeoleaaaGreatDoorW.PrintMore
attribute [local go_sem] max2_int min2_int max_two min_two max_three min_three max_four min_four
set_option linter.unusedVariables false
set_option linter.unusedSimpArgs false
def pyxref22_Numbers.f (a0 : Int) : Option (List Int) := if a0 < 20 then (some (([0, 0, 0] : List Int))) else (if a0 > 25 then (some (([0, 0, 0] : List Int))) else ((some (([(([32, 10, 67] : List Int)), (([32, 16, 67] : List Int)), (([32, 20, 67] : List Int)), (([64, 10, 131] : List Int)), (([64, 16, 131] : List Int)), (([64, 20, 131] : List Int))] : List (List Int)) : List (List Int))).bind fun y194 => (if 0 ≤ (wrap64 (a0 - 20)) then (if (wrap64 (a0 - 20)) < (y194.length : Int) then (some (rd_L8 y194 (wrap64 (a0 - 20)))) else (none)) else (none))))
set_option maxHeartbeats 8000000 in
set_option maxRecDepth 100000 in
theorem pyxref22_Numbers.calls (a0 : Int) (r : List Int) (w : World) (h : pyxref22_Numbers.f a0 = some r) :
  Calls Tryz.prog 18 #[.int .i64 a0] w fun e w' => ∃ v0_ : Value, e = .returned (v0_) ∧ Kd.V (Kd.int .i64) 3 w' w.heap.size (fun k_ => (w.heap.size ≤ k_)) v0_ r ∧ Below w.heap.size w w' := by
 have HB := Aside0.mk (Below.refl w.heap.size w)
 have H : (if a0 < 20 then (some (([0, 0, 0] : List Int))) else (if a0 > 25 then (some (([0, 0, 0] : List Int))) else ((some (([(([32, 10, 67] : List Int)), (([32, 16, 67] : List Int)), (([32, 20, 67] : List Int)), (([64, 10, 131] : List Int)), (([64, 16, 131] : List Int)), (([64, 20, 131] : List Int))] : List (List Int)) : List (List Int))).bind fun y194 => (if 0 ≤ (wrap64 (a0 - 20)) then (if (wrap64 (a0 - 20)) < (y194.length : Int) then (some (rd_L8 y194 (wrap64 (a0 - 20)))) else (none)) else (none))))) = some r := h
 clear h
 by_cases c2 : a0 < 20
 ·rw [if_pos c2] at H
  have c2b0 : decide (a0 < 20) = true := decide_eq_true c2
  clear c2
  obtain ⟨y170, hy170⟩ : ∃ y_ : List Int, y_ = (([0, 0, 0] : List Int)) := ⟨_, rfl⟩
  replace H : (some y170) = some r := by first | (rw [hy170]; with_reducible exact H) | (have H2_ := (Option.bind_some _ _).symm.trans H; rw [hy170]; with_reducible exact H2_) | (have H2_ := (Option.bind_some _ _).symm.trans H; with_reducible exact H2_) | with_reducible exact H | (rw [hy170]; exact H) | exact H
  have Ny170 := Aside0.mk hy170
  clear hy170
  obtain rfl := Option.some.inj H
  go_enter Tryz.func18, Tryz.ntmps18
  go_wp2_with (first | ((with_reducible refine gate_dst (N := 9) rfl ?_); refine Kd.R_lit (Kd.int .i64) _ 3 ?hg (N := 9) ?hd (xs := ([0, 0, 0] : List Int)) (inner := [.int .i64 0, .int .i64 0, .int .i64 0]) (ok := fun _ => True) (okp := fun _ => True) ?hr ?hp (fun _ hk => hk) trivial (Below.refl _ _) (Nat.le_refl _) (by simp) ?_; (case hd => rfl); (case hg => rfl); (case hr => first | (go_simp; done) | (go_simp; rfl)); (case hp => exact (Reps.one (show Kd.M (Kd.int .i64) _ _ _ 0 [.int .i64 0] from rfl) (Reps.one (show Kd.M (Kd.int .i64) _ _ _ 0 [.int .i64 0] from rfl) (Reps.one (show Kd.M (Kd.int .i64) _ _ _ 0 [.int .i64 0] from rfl) (Reps.none _ _))))); intro v171 w3 ho4 hb hg_ hnew_; clear hg_ hnew_; (first | rw [← Ny170.out] at ho4 | (simp only [Int.reduceToNat] at ho4; rw [← Ny170.out] at ho4)); have n0_ := Aside0.mk (Kd.R_lower (Kd.R_newM (M := fun k_ => (w.heap.size ≤ k_)) ho4 (below_size q30_) (fun k_ h_ => h_)) (below_size q30_)); have n1_ := Aside0.mk (below_step q30_ hb); clear HB; have HO172 := n0_; have HB := n1_; clear n0_ n1_; clear hb ho4))
  go_ret
  exact ⟨_, by first | rfl | (simp [errW_none, errW_some] <;> rfl) | (simp [*, errW_none, errW_some] <;> rfl), Kd.R_V (by (with_reducible repeat (first | apply Kd.R_alloc | apply Kd.R_drewN | apply Kd.R_drew)); exact Kd.R_mono HO172.out (fun _ hk => hk.1)), by repeat (first | (with_reducible first | exact HB.out | apply below_alloc | apply pw_below_drewN | apply below_drew1) | exact HB.out)⟩
 ·rw [if_neg c2] at H
  have c2b0 : decide (a0 < 20) = false := decide_eq_false c2
  clear c2
  by_cases c5 : a0 > 25
  ·rw [if_pos c5] at H
   have c5b0 : decide (25 < a0) = true := decide_eq_true c5
   clear c5
   obtain ⟨y173, hy173⟩ : ∃ y_ : List Int, y_ = (([0, 0, 0] : List Int)) := ⟨_, rfl⟩
   replace H : (some y173) = some r := by first | (rw [hy173]; with_reducible exact H) | (have H2_ := (Option.bind_some _ _).symm.trans H; rw [hy173]; with_reducible exact H2_) | (have H2_ := (Option.bind_some _ _).symm.trans H; with_reducible exact H2_) | with_reducible exact H | (rw [hy173]; exact H) | exact H
   have Ny173 := Aside0.mk hy173
   clear hy173
   obtain rfl := Option.some.inj H
   go_enter Tryz.func18, Tryz.ntmps18
   go_wp2_with (first | ((with_reducible refine gate_dst (N := 9) rfl ?_); refine Kd.R_lit (Kd.int .i64) _ 3 ?hg (N := 9) ?hd (xs := ([0, 0, 0] : List Int)) (inner := [.int .i64 0, .int .i64 0, .int .i64 0]) (ok := fun _ => True) (okp := fun _ => True) ?hr ?hp (fun _ hk => hk) trivial (Below.refl _ _) (Nat.le_refl _) (by simp) ?_; (case hd => rfl); (case hg => rfl); (case hr => first | (go_simp; done) | (go_simp; rfl)); (case hp => exact (Reps.one (show Kd.M (Kd.int .i64) _ _ _ 0 [.int .i64 0] from rfl) (Reps.one (show Kd.M (Kd.int .i64) _ _ _ 0 [.int .i64 0] from rfl) (Reps.one (show Kd.M (Kd.int .i64) _ _ _ 0 [.int .i64 0] from rfl) (Reps.none _ _))))); intro v174 w6 ho7 hb hg_ hnew_; clear hg_ hnew_; (first | rw [← Ny173.out] at ho7 | (simp only [Int.reduceToNat] at ho7; rw [← Ny173.out] at ho7)); have n0_ := Aside0.mk (Kd.R_lower (Kd.R_newM (M := fun k_ => (w.heap.size ≤ k_)) ho7 (below_size q30_) (fun k_ h_ => h_)) (below_size q30_)); have n1_ := Aside0.mk (below_step q30_ hb); clear HB; have HO175 := n0_; have HB := n1_; clear n0_ n1_; clear hb ho7))
   go_ret
   exact ⟨_, by first | rfl | (simp [errW_none, errW_some] <;> rfl) | (simp [*, errW_none, errW_some] <;> rfl), Kd.R_V (by (with_reducible repeat (first | apply Kd.R_alloc | apply Kd.R_drewN | apply Kd.R_drew)); exact Kd.R_mono HO175.out (fun _ hk => hk.1)), by repeat (first | (with_reducible first | exact HB.out | apply below_alloc | apply pw_below_drewN | apply below_drew1) | exact HB.out)⟩
  ·rw [if_neg c5] at H
   have c5b0 : decide (25 < a0) = false := decide_eq_false c5
   clear c5
   obtain ⟨y176, hy176⟩ : ∃ y_ : List Int, y_ = (([32, 10, 67] : List Int)) := ⟨_, rfl⟩
   replace H : ((some (([y176, (([32, 16, 67] : List Int)), (([32, 20, 67] : List Int)), (([64, 10, 131] : List Int)), (([64, 16, 131] : List Int)), (([64, 20, 131] : List Int))] : List (List Int)) : List (List Int))).bind fun y194 => (if 0 ≤ (wrap64 (a0 - 20)) then (if (wrap64 (a0 - 20)) < (y194.length : Int) then (some (rd_L8 y194 (wrap64 (a0 - 20)))) else (none)) else (none))) = some r := by first | (rw [hy176]; with_reducible exact H) | (have H2_ := (Option.bind_some _ _).symm.trans H; rw [hy176]; with_reducible exact H2_) | (have H2_ := (Option.bind_some _ _).symm.trans H; with_reducible exact H2_) | with_reducible exact H | (rw [hy176]; exact H) | exact H
   have Ny176 := Aside0.mk hy176
   clear hy176
   obtain ⟨y179, hy179⟩ : ∃ y_ : List Int, y_ = (([32, 16, 67] : List Int)) := ⟨_, rfl⟩
   replace H : ((some (([y176, y179, (([32, 20, 67] : List Int)), (([64, 10, 131] : List Int)), (([64, 16, 131] : List Int)), (([64, 20, 131] : List Int))] : List (List Int)) : List (List Int))).bind fun y194 => (if 0 ≤ (wrap64 (a0 - 20)) then (if (wrap64 (a0 - 20)) < (y194.length : Int) then (some (rd_L8 y194 (wrap64 (a0 - 20)))) else (none)) else (none))) = some r := by first | (rw [hy179]; with_reducible exact H) | (have H2_ := (Option.bind_some _ _).symm.trans H; rw [hy179]; with_reducible exact H2_) | (have H2_ := (Option.bind_some _ _).symm.trans H; with_reducible exact H2_) | with_reducible exact H | (rw [hy179]; exact H) | exact H
   have Ny179 := Aside0.mk hy179
   clear hy179
   obtain ⟨y182, hy182⟩ : ∃ y_ : List Int, y_ = (([32, 20, 67] : List Int)) := ⟨_, rfl⟩
   replace H : ((some (([y176, y179, y182, (([64, 10, 131] : List Int)), (([64, 16, 131] : List Int)), (([64, 20, 131] : List Int))] : List (List Int)) : List (List Int))).bind fun y194 => (if 0 ≤ (wrap64 (a0 - 20)) then (if (wrap64 (a0 - 20)) < (y194.length : Int) then (some (rd_L8 y194 (wrap64 (a0 - 20)))) else (none)) else (none))) = some r := by first | (rw [hy182]; with_reducible exact H) | (have H2_ := (Option.bind_some _ _).symm.trans H; rw [hy182]; with_reducible exact H2_) | (have H2_ := (Option.bind_some _ _).symm.trans H; with_reducible exact H2_) | with_reducible exact H | (rw [hy182]; exact H) | exact H
   have Ny182 := Aside0.mk hy182
   clear hy182
   obtain ⟨y185, hy185⟩ : ∃ y_ : List Int, y_ = (([64, 10, 131] : List Int)) := ⟨_, rfl⟩
   replace H : ((some (([y176, y179, y182, y185, (([64, 16, 131] : List Int)), (([64, 20, 131] : List Int))] : List (List Int)) : List (List Int))).bind fun y194 => (if 0 ≤ (wrap64 (a0 - 20)) then (if (wrap64 (a0 - 20)) < (y194.length : Int) then (some (rd_L8 y194 (wrap64 (a0 - 20)))) else (none)) else (none))) = some r := by first | (rw [hy185]; with_reducible exact H) | (have H2_ := (Option.bind_some _ _).symm.trans H; rw [hy185]; with_reducible exact H2_) | (have H2_ := (Option.bind_some _ _).symm.trans H; with_reducible exact H2_) | with_reducible exact H | (rw [hy185]; exact H) | exact H
   have Ny185 := Aside0.mk hy185
   clear hy185
   obtain ⟨y188, hy188⟩ : ∃ y_ : List Int, y_ = (([64, 16, 131] : List Int)) := ⟨_, rfl⟩
   replace H : ((some (([y176, y179, y182, y185, y188, (([64, 20, 131] : List Int))] : List (List Int)) : List (List Int))).bind fun y194 => (if 0 ≤ (wrap64 (a0 - 20)) then (if (wrap64 (a0 - 20)) < (y194.length : Int) then (some (rd_L8 y194 (wrap64 (a0 - 20)))) else (none)) else (none))) = some r := by first | (rw [hy188]; with_reducible exact H) | (have H2_ := (Option.bind_some _ _).symm.trans H; rw [hy188]; with_reducible exact H2_) | (have H2_ := (Option.bind_some _ _).symm.trans H; with_reducible exact H2_) | with_reducible exact H | (rw [hy188]; exact H) | exact H
   have Ny188 := Aside0.mk hy188
   clear hy188
   obtain ⟨y191, hy191⟩ : ∃ y_ : List Int, y_ = (([64, 20, 131] : List Int)) := ⟨_, rfl⟩
   replace H : ((some (([y176, y179, y182, y185, y188, y191] : List (List Int)) : List (List Int))).bind fun y194 => (if 0 ≤ (wrap64 (a0 - 20)) then (if (wrap64 (a0 - 20)) < (y194.length : Int) then (some (rd_L8 y194 (wrap64 (a0 - 20)))) else (none)) else (none))) = some r := by first | (rw [hy191]; with_reducible exact H) | (have H2_ := (Option.bind_some _ _).symm.trans H; rw [hy191]; with_reducible exact H2_) | (have H2_ := (Option.bind_some _ _).symm.trans H; with_reducible exact H2_) | with_reducible exact H | (rw [hy191]; exact H) | exact H
   have Ny191 := Aside0.mk hy191
   clear hy191
   obtain ⟨y194, hy194⟩ : ∃ y_ : List (List Int), y_ = (([y176, y179, y182, y185, y188, y191] : List (List Int))) := ⟨_, rfl⟩
   replace H : (if 0 ≤ (wrap64 (a0 - 20)) then (if (wrap64 (a0 - 20)) < (y194.length : Int) then (some (rd_L8 y194 (wrap64 (a0 - 20)))) else (none)) else (none)) = some r := by first | (rw [hy194]; with_reducible exact H) | (have H2_ := (Option.bind_some _ _).symm.trans H; rw [hy194]; with_reducible exact H2_) | (have H2_ := (Option.bind_some _ _).symm.trans H; with_reducible exact H2_) | with_reducible exact H | (rw [hy194]; exact H) | exact H
   have Ny194 := Aside0.mk hy194
   clear hy194
   obtain ⟨ji8, hji8⟩ : ∃ j_ : Int, (wrap64 (a0 - 20)) = j_ := ⟨_, rfl⟩
   replace H : (if 0 ≤ (ji8) then (if (ji8) < (y194.length : Int) then (some (rd_L8 y194 (ji8))) else (none)) else (none)) = some r := by first | (rw [hji8] at H; exact H) | (simp only [hji8] at H ⊢; exact H)
   have hji8w : (IntKind.i64.wrap (a0 - 20)) = ji8 := (i64_w _).trans hji8
   by_cases c9 : 0 ≤ (ji8)
   ·rw [if_pos c9] at H
    have c9b0 : decide (0 ≤ (ji8)) = true := decide_eq_true c9
    clear c9
    by_cases c10 : (ji8) < (y194.length : Int)
    ·rw [if_pos c10] at H
     have c10b0 : decide ((ji8) < (y194.length : Int)) = true := decide_eq_true c10
     clear c10
     obtain rfl := Option.some.inj H
     go_enter Tryz.func18, Tryz.ntmps18
     go_wp2_with (first | ((with_reducible refine gate_dst (N := 10) rfl ?_); refine Kd.R_lit (Kd.int .i64) _ 3 ?hg (N := 10) ?hd (xs := ([32, 10, 67] : List Int)) (inner := [.int .i64 32, .int .i64 10, .int .i64 67]) (ok := fun _ => True) (okp := fun _ => True) ?hr ?hp (fun _ hk => hk) trivial (Below.refl _ _) (Nat.le_refl _) (by simp) ?_; (case hd => rfl); (case hg => rfl); (case hr => first | (go_simp; done) | (go_simp; rfl)); (case hp => exact (Reps.one (show Kd.M (Kd.int .i64) _ _ _ 32 [.int .i64 32] from rfl) (Reps.one (show Kd.M (Kd.int .i64) _ _ _ 10 [.int .i64 10] from rfl) (Reps.one (show Kd.M (Kd.int .i64) _ _ _ 67 [.int .i64 67] from rfl) (Reps.none _ _))))); intro v177 w11 ho12 hb hg_ hnew_; clear hg_ hnew_; (first | rw [← Ny176.out] at ho12 | (simp only [Int.reduceToNat] at ho12; rw [← Ny176.out] at ho12)); have n0_ := Aside0.mk (Kd.R_lower (Kd.R_newM (M := fun k_ => (w.heap.size ≤ k_)) ho12 (below_size q30_) (fun k_ h_ => h_)) (below_size q30_)); have n1_ := Aside0.mk (below_step q30_ hb); clear HB; have HO178 := n0_; have HB := n1_; clear n0_ n1_; clear hb ho12) | ((with_reducible refine gate_dst (N := 11) rfl ?_); refine Kd.R_lit (Kd.int .i64) _ 3 ?hg (N := 11) ?hd (xs := ([32, 16, 67] : List Int)) (inner := [.int .i64 32, .int .i64 16, .int .i64 67]) (ok := fun _ => True) (okp := fun _ => True) ?hr ?hp (fun _ hk => hk) trivial (Below.refl _ _) (Nat.le_refl _) (by simp) ?_; (case hd => rfl); (case hg => rfl); (case hr => first | (go_simp; done) | (go_simp; rfl)); (case hp => exact (Reps.one (show Kd.M (Kd.int .i64) _ _ _ 32 [.int .i64 32] from rfl) (Reps.one (show Kd.M (Kd.int .i64) _ _ _ 16 [.int .i64 16] from rfl) (Reps.one (show Kd.M (Kd.int .i64) _ _ _ 67 [.int .i64 67] from rfl) (Reps.none _ _))))); intro v180 w13 ho14 hb hg_ hnew_; clear hg_ hnew_; (first | rw [← Ny179.out] at ho14 | (simp only [Int.reduceToNat] at ho14; rw [← Ny179.out] at ho14)); have n0_ := Aside0.mk (Kd.R_elder' q45_ (Kd.R_base ho14) hb); have n1_ := Aside0.mk (Kd.R_lower (Kd.R_new' (Kd.R_newM (M := fun k_ => (w.heap.size ≤ k_)) ho14 (below_size q30_) (fun k_ h_ => h_)) (Kd.R_lt q45_)) (below_size q30_)); have n2_ := Aside0.mk (below_step q30_ hb); clear HO178; clear HB; have HO178 := n0_; have HO181 := n1_; have HB := n2_; clear n0_ n1_ n2_; clear hb ho14) | ((with_reducible refine gate_dst (N := 12) rfl ?_); refine Kd.R_lit (Kd.int .i64) _ 3 ?hg (N := 12) ?hd (xs := ([32, 20, 67] : List Int)) (inner := [.int .i64 32, .int .i64 20, .int .i64 67]) (ok := fun _ => True) (okp := fun _ => True) ?hr ?hp (fun _ hk => hk) trivial (Below.refl _ _) (Nat.le_refl _) (by simp) ?_; (case hd => rfl); (case hg => rfl); (case hr => first | (go_simp; done) | (go_simp; rfl)); (case hp => exact (Reps.one (show Kd.M (Kd.int .i64) _ _ _ 32 [.int .i64 32] from rfl) (Reps.one (show Kd.M (Kd.int .i64) _ _ _ 20 [.int .i64 20] from rfl) (Reps.one (show Kd.M (Kd.int .i64) _ _ _ 67 [.int .i64 67] from rfl) (Reps.none _ _))))); intro v183 w15 ho16 hb hg_ hnew_; clear hg_ hnew_; (first | rw [← Ny182.out] at ho16 | (simp only [Int.reduceToNat] at ho16; rw [← Ny182.out] at ho16)); have n0_ := Aside0.mk (Kd.R_elder' q45_ (Kd.R_base ho16) hb); have n1_ := Aside0.mk (Kd.R_elder' q46_ (Kd.R_base ho16) hb); have n2_ := Aside0.mk (Kd.R_lower (Kd.R_new' (Kd.R_new' (Kd.R_newM (M := fun k_ => (w.heap.size ≤ k_)) ho16 (below_size q30_) (fun k_ h_ => h_)) (Kd.R_lt q45_)) (Kd.R_lt q46_)) (below_size q30_)); have n3_ := Aside0.mk (below_step q30_ hb); clear HO178; clear HO181; clear HB; have HO178 := n0_; have HO181 := n1_; have HO184 := n2_; have HB := n3_; clear n0_ n1_ n2_ n3_; clear hb ho16) | ((with_reducible refine gate_dst (N := 13) rfl ?_); refine Kd.R_lit (Kd.int .i64) _ 3 ?hg (N := 13) ?hd (xs := ([64, 10, 131] : List Int)) (inner := [.int .i64 64, .int .i64 10, .int .i64 131]) (ok := fun _ => True) (okp := fun _ => True) ?hr ?hp (fun _ hk => hk) trivial (Below.refl _ _) (Nat.le_refl _) (by simp) ?_; (case hd => rfl); (case hg => rfl); (case hr => first | (go_simp; done) | (go_simp; rfl)); (case hp => exact (Reps.one (show Kd.M (Kd.int .i64) _ _ _ 64 [.int .i64 64] from rfl) (Reps.one (show Kd.M (Kd.int .i64) _ _ _ 10 [.int .i64 10] from rfl) (Reps.one (show Kd.M (Kd.int .i64) _ _ _ 131 [.int .i64 131] from rfl) (Reps.none _ _))))); intro v186 w17 ho18 hb hg_ hnew_; clear hg_ hnew_; (first | rw [← Ny185.out] at ho18 | (simp only [Int.reduceToNat] at ho18; rw [← Ny185.out] at ho18)); have n0_ := Aside0.mk (Kd.R_elder' q45_ (Kd.R_base ho18) hb); have n1_ := Aside0.mk (Kd.R_elder' q46_ (Kd.R_base ho18) hb); have n2_ := Aside0.mk (Kd.R_elder' q47_ (Kd.R_base ho18) hb); have n3_ := Aside0.mk (Kd.R_lower (Kd.R_new' (Kd.R_new' (Kd.R_new' (Kd.R_newM (M := fun k_ => (w.heap.size ≤ k_)) ho18 (below_size q30_) (fun k_ h_ => h_)) (Kd.R_lt q45_)) (Kd.R_lt q46_)) (Kd.R_lt q47_)) (below_size q30_)); have n4_ := Aside0.mk (below_step q30_ hb); clear HO178; clear HO181; clear HO184; clear HB; have HO178 := n0_; have HO181 := n1_; have HO184 := n2_; have HO187 := n3_; have HB := n4_; clear n0_ n1_ n2_ n3_ n4_; clear hb ho18) | ((with_reducible refine gate_dst (N := 14) rfl ?_); refine Kd.R_lit (Kd.int .i64) _ 3 ?hg (N := 14) ?hd (xs := ([64, 16, 131] : List Int)) (inner := [.int .i64 64, .int .i64 16, .int .i64 131]) (ok := fun _ => True) (okp := fun _ => True) ?hr ?hp (fun _ hk => hk) trivial (Below.refl _ _) (Nat.le_refl _) (by simp) ?_; (case hd => rfl); (case hg => rfl); (case hr => first | (go_simp; done) | (go_simp; rfl)); (case hp => exact (Reps.one (show Kd.M (Kd.int .i64) _ _ _ 64 [.int .i64 64] from rfl) (Reps.one (show Kd.M (Kd.int .i64) _ _ _ 16 [.int .i64 16] from rfl) (Reps.one (show Kd.M (Kd.int .i64) _ _ _ 131 [.int .i64 131] from rfl) (Reps.none _ _))))); intro v189 w19 ho20 hb hg_ hnew_; clear hg_ hnew_; (first | rw [← Ny188.out] at ho20 | (simp only [Int.reduceToNat] at ho20; rw [← Ny188.out] at ho20)); have n0_ := Aside0.mk (Kd.R_elder' q45_ (Kd.R_base ho20) hb); have n1_ := Aside0.mk (Kd.R_elder' q46_ (Kd.R_base ho20) hb); have n2_ := Aside0.mk (Kd.R_elder' q47_ (Kd.R_base ho20) hb); have n3_ := Aside0.mk (Kd.R_elder' q48_ (Kd.R_base ho20) hb); have n4_ := Aside0.mk (Kd.R_lower (Kd.R_new' (Kd.R_new' (Kd.R_new' (Kd.R_new' (Kd.R_newM (M := fun k_ => (w.heap.size ≤ k_)) ho20 (below_size q30_) (fun k_ h_ => h_)) (Kd.R_lt q45_)) (Kd.R_lt q46_)) (Kd.R_lt q47_)) (Kd.R_lt q48_)) (below_size q30_)); have n5_ := Aside0.mk (below_step q30_ hb); clear HO178; clear HO181; clear HO184; clear HO187; clear HB; have HO178 := n0_; have HO181 := n1_; have HO184 := n2_; have HO187 := n3_; have HO190 := n4_; have HB := n5_; clear n0_ n1_ n2_ n3_ n4_ n5_; clear hb ho20) | ((with_reducible refine gate_dst (N := 15) rfl ?_); refine Kd.R_lit (Kd.int .i64) _ 3 ?hg (N := 15) ?hd (xs := ([64, 20, 131] : List Int)) (inner := [.int .i64 64, .int .i64 20, .int .i64 131]) (ok := fun _ => True) (okp := fun _ => True) ?hr ?hp (fun _ hk => hk) trivial (Below.refl _ _) (Nat.le_refl _) (by simp) ?_; (case hd => rfl); (case hg => rfl); (case hr => first | (go_simp; done) | (go_simp; rfl)); (case hp => exact (Reps.one (show Kd.M (Kd.int .i64) _ _ _ 64 [.int .i64 64] from rfl) (Reps.one (show Kd.M (Kd.int .i64) _ _ _ 20 [.int .i64 20] from rfl) (Reps.one (show Kd.M (Kd.int .i64) _ _ _ 131 [.int .i64 131] from rfl) (Reps.none _ _))))); intro v192 w21 ho22 hb hg_ hnew_; clear hg_ hnew_; (first | rw [← Ny191.out] at ho22 | (simp only [Int.reduceToNat] at ho22; rw [← Ny191.out] at ho22)); have n0_ := Aside0.mk (Kd.R_elder' q45_ (Kd.R_base ho22) hb); have n1_ := Aside0.mk (Kd.R_elder' q46_ (Kd.R_base ho22) hb); have n2_ := Aside0.mk (Kd.R_elder' q47_ (Kd.R_base ho22) hb); have n3_ := Aside0.mk (Kd.R_elder' q48_ (Kd.R_base ho22) hb); have n4_ := Aside0.mk (Kd.R_elder' (by (with_reducible repeat (first | apply Kd.R_alloc | apply Kd.R_drewN | apply Kd.R_drew)); exact HO190.out) (Kd.R_base ho22) hb); have n5_ := Aside0.mk (Kd.R_lower (Kd.R_new' (Kd.R_new' (Kd.R_new' (Kd.R_new' (Kd.R_new' (Kd.R_newM (M := fun k_ => (w.heap.size ≤ k_)) ho22 (below_size q30_) (fun k_ h_ => h_)) (Kd.R_lt q45_)) (Kd.R_lt q46_)) (Kd.R_lt q47_)) (Kd.R_lt q48_)) (Kd.R_lt (by (with_reducible repeat (first | apply Kd.R_alloc | apply Kd.R_drewN | apply Kd.R_drew)); exact HO190.out))) (below_size q30_)); have n6_ := Aside0.mk (below_step q30_ hb); clear HO178; clear HO181; clear HO184; clear HO187; clear HO190; clear HB; have HO178 := n0_; have HO181 := n1_; have HO184 := n2_; have HO187 := n3_; have HO190 := n4_; have HO193 := n5_; have HB := n6_; clear n0_ n1_ n2_ n3_ n4_ n5_ n6_; clear hb ho22; obtain ⟨Ao23, co23, eo23⟩ := Kd.R_slice HO178.out; subst eo23; obtain ⟨Ao24, co24, eo24⟩ := Kd.R_slice HO181.out; subst eo24; obtain ⟨Ao25, co25, eo25⟩ := Kd.R_slice HO184.out; subst eo25; obtain ⟨Ao26, co26, eo26⟩ := Kd.R_slice HO187.out; subst eo26; obtain ⟨Ao27, co27, eo27⟩ := Kd.R_slice HO190.out; subst eo27; obtain ⟨Ao28, co28, eo28⟩ := Kd.R_slice HO193.out; subst eo28) | ((with_reducible refine gate_dst (N := 16) rfl ?_); refine Kd.N_lit (Kd.slice 3 (Kd.int .i64)) _ 41 ?hg (N' := 16) ?hd (xs := ([y176, y179, y182, y185, y188, y191] : List (List Int))) (inner := [.slice Ao23 y176.length co23, .slice Ao24 y179.length co24, .slice Ao25 y182.length co25, .slice Ao26 y185.length co26, .slice Ao27 y188.length co27, .slice Ao28 y191.length co28]) (ok := (fun k_ => (w.heap.size ≤ k_))) (okp := (fun k_ => (w.heap.size ≤ k_))) ?hr ?hp (fun _ hk => hk) ((show ∀ k_, w21.heap.size ≤ k_ → (fun k_ => (w.heap.size ≤ k_)) k_ from fun k_ hk => (Nat.le_trans (below_size q30_) hk)) _ (Nat.le_refl _)) (Below.refl _ _) (Nat.le_refl _) (by simp) ?_; (case hd => rfl); (case hg => rfl); (case hr => first | (go_simp; done) | (go_simp; rfl)); (case hp => exact (Reps.one (show Kd.FK (Kd.slice 3 (Kd.int .i64)) _ _ y176 [.slice Ao23 y176.length co23] from (Kd.FK_slice_mk (Kd.R_reads' (Kd.R_mono (ok' := (fun k_ => (w.heap.size ≤ k_))) (HO178.out) (fun k_ hk => hk.1.1.1.1.1.1))).2.1 (Kd.R_F (Kd.R_mono (ok' := (fun k_ => (w.heap.size ≤ k_))) (HO178.out) (fun k_ hk => hk.1.1.1.1.1.1))))) (Reps.one (show Kd.FK (Kd.slice 3 (Kd.int .i64)) _ _ y179 [.slice Ao24 y179.length co24] from (Kd.FK_slice_mk (Kd.R_reads' (Kd.R_mono (ok' := (fun k_ => (w.heap.size ≤ k_))) (HO181.out) (fun k_ hk => hk.1.1.1.1.1.1))).2.1 (Kd.R_F (Kd.R_mono (ok' := (fun k_ => (w.heap.size ≤ k_))) (HO181.out) (fun k_ hk => hk.1.1.1.1.1.1))))) (Reps.one (show Kd.FK (Kd.slice 3 (Kd.int .i64)) _ _ y182 [.slice Ao25 y182.length co25] from (Kd.FK_slice_mk (Kd.R_reads' (Kd.R_mono (ok' := (fun k_ => (w.heap.size ≤ k_))) (HO184.out) (fun k_ hk => hk.1.1.1.1.1.1))).2.1 (Kd.R_F (Kd.R_mono (ok' := (fun k_ => (w.heap.size ≤ k_))) (HO184.out) (fun k_ hk => hk.1.1.1.1.1.1))))) (Reps.one (show Kd.FK (Kd.slice 3 (Kd.int .i64)) _ _ y185 [.slice Ao26 y185.length co26] from (Kd.FK_slice_mk (Kd.R_reads' (Kd.R_mono (ok' := (fun k_ => (w.heap.size ≤ k_))) (HO187.out) (fun k_ hk => hk.1.1.1.1.1.1))).2.1 (Kd.R_F (Kd.R_mono (ok' := (fun k_ => (w.heap.size ≤ k_))) (HO187.out) (fun k_ hk => hk.1.1.1.1.1.1))))) (Reps.one (show Kd.FK (Kd.slice 3 (Kd.int .i64)) _ _ y188 [.slice Ao27 y188.length co27] from (Kd.FK_slice_mk (Kd.R_reads' (Kd.R_mono (ok' := (fun k_ => (w.heap.size ≤ k_))) (HO190.out) (fun k_ hk => hk.1.1.1.1.1.1))).2.1 (Kd.R_F (Kd.R_mono (ok' := (fun k_ => (w.heap.size ≤ k_))) (HO190.out) (fun k_ hk => hk.1.1.1.1.1.1))))) (Reps.one (show Kd.FK (Kd.slice 3 (Kd.int .i64)) _ _ y191 [.slice Ao28 y191.length co28] from (Kd.FK_slice_mk (Kd.R_reads' (Kd.R_mono (ok' := (fun k_ => (w.heap.size ≤ k_))) (HO193.out) (fun k_ hk => hk.1.1.1.1.1.1))).2.1 (Kd.R_F (Kd.R_mono (ok' := (fun k_ => (w.heap.size ≤ k_))) (HO193.out) (fun k_ hk => hk.1.1.1.1.1.1))))) (Reps.none _ _)))))))); intro v195 w29 ho30 hb hg_ hnew_; clear hg_ hnew_; (first | rw [← Ny194.out] at ho30 | (simp only [Int.reduceToNat] at ho30; rw [← Ny194.out] at ho30)); have n0_ := Aside0.mk (Kd.N_lower ho30 (below_size q30_)); have n1_ := Aside0.mk (below_step q30_ hb); clear HB; clear HO178; clear HO181; clear HO184; clear HO187; clear HO190; clear HO193; have HO196 := n0_; have HB := n1_; clear n0_ n1_; clear hb ho30; obtain ⟨Ao31, co31, eo31⟩ := Kd.N_slice HO196.out; subst eo31; have p197 : 0 ≤ ((ji8) : Int) := of_decide_eq_true q63_; have q197 : (ji8) < (y194.length : Int) := of_decide_eq_true q63_; obtain ⟨ad197, A197_0, c197_0, e197, hx197_0, hl197_0, hi197_0⟩ := at_L8 (Kd.N_reads' HO196.out).2.2 (ji8) p197 q197; cases e197; obtain ⟨ce197, hce197, hMe197, hcc197⟩ := Kd.N_get HO196.out [] (ji8) p197 (by first | exact q197 | exact of_decide_eq_true q63_ | (have e_ := (Kd.N_reads' HO196.out).1; omega)); obtain ⟨ua197_0, uc197_0, rfl, ul197_0, ge197_0⟩ := Kd.FK_slice_open hMe197; have hv197_0 := hcc197 0 _ rfl; rw [Nat.add_zero, show ((Kd.slice 3 (Kd.int .i64))).sz = 1 from rfl, Nat.mul_one] at hv197_0; replace hv197_0 := Option.some.inj (hv197_0.symm.trans hx197_0); injection hv197_0 with hva_ hvn_ hvc_; rw [hva_] at ge197_0; rw [hvc_] at ul197_0; have HL197_0 := Aside0.mk (show Kd.V (Kd.int .i64) 3 _ w.heap.size _ _ (rd_L8 y194 (ji8)) from Kd.V_mk ul197_0 ge197_0); clear hva_ hvn_ hvc_ ge197_0 ul197_0; clear hcc197 hce197; have HR197_0 := Aside0.mk hi197_0; have HC197_0 := Aside0.mk hl197_0; clear hi197_0 hl197_0; replace p197 := eq_true p197; replace q197 := eq_true q197))
     go_ret
     exact ⟨_, by first | rfl | (simp [errW_none, errW_some] <;> rfl) | (simp only [← hji8]; first | rfl | (simp [errW_none, errW_some] <;> rfl)) | (simp [*, errW_none, errW_some] <;> rfl), by (with_reducible repeat (first | apply Kd.V_alloc | apply Kd.V_drewN | apply Kd.V_drew)); exact Kd.V_mono HL197_0.out (fun _ hk => hk.1), by repeat (first | (with_reducible first | exact HB.out | apply below_alloc | apply pw_below_drewN | apply below_drew1) | exact HB.out)⟩
    ·rw [if_neg c10] at H
     exact absurd H (by simp)
   ·rw [if_neg c9] at H
    exact absurd H (by simp)
def pyxref05_Least.l0 : Nat → Int → Int → Option (Int)
 | 0, _, _ => none
 | k + 1, x0, x3 => if x0 > 0 then (pyxref05_Least.l0 k ((Int.tdiv x0 2) % 4294967296) (wrap64 (x3 + 1))) else (some x3)
def pyxref05_Least.f (k : Nat) (a0 : Int) : Option (Int) := pyxref05_Least.l0 k a0 0
set_option maxHeartbeats 8000000 in
set_option maxRecDepth 100000 in
theorem pyxref05_Least.calls (k : Nat) (a0 : Int) (r : Int) (w : World) (h : pyxref05_Least.f k a0 = some r) :
  Calls Tryz.prog 66 #[.int .u32 a0] w fun e w' => e = .returned (.int .i64 r) ∧ Drawn0 w w' := by
 have H : (pyxref05_Least.l0 k a0 0) = some r := h
 clear h
 have H' := Aside0.mk H
 clear H
 go_enter Tryz.func66, Tryz.ntmps66
 go_wp2
 go_loopg [0, 3] k (fun kq v0 v3 w' => ∃ (x0_1 : Int) (x3_1 : Int), v0 = .int .u32 x0_1 ∧ v3 = .int .i64 x3_1 ∧ Aside0 (pyxref05_Least.l0 kq x0_1 x3_1 = some r) ∧ Aside0 (kq ≤ k) ∧ Drawn0 w w')
 case atStart => exact ⟨(a0), (0), q64_, q64_, H', ⟨Nat.le_refl _⟩, by repeat (first | exact Drawn0.refl _ | apply Drawn0.step)⟩
 case round =>
  clear H'
  obtain ⟨x0_1, x3_1, rfl, rfl, HA, HK1, ⟨m1, rfl⟩⟩ := hrel
  cases gk with
  | zero => exact absurd HA.out (by simp [pyxref05_Least.l0])
  | succ k1 =>
   have H := HA.out
   clear HA
   simp only [pyxref05_Least.l0] at H
   by_cases c2 : x0_1 > 0
   ·rw [if_pos c2] at H
    have c2b0 : decide (0 < x0_1) = true := decide_eq_true c2
    clear c2
    have H' := Aside0.mk H
    clear H
    go_wp2
    go_roundg k1
    case measure => have := HK1.out; omega
    case rel => exact ⟨((Int.tdiv x0_1 2) % 4294967296), (wrap64 (x3_1 + 1)), q64_, q64_, H', ⟨by have := HK1.out; omega⟩, by repeat (first | exact Drawn0.refl _ | apply Drawn0.step)⟩
   ·rw [if_neg c2] at H
    have c2b0 : decide (0 < x0_1) = false := decide_eq_false c2
    clear c2
    obtain rfl := Option.some.inj H
    go_wp2
    go_ret
    exact ⟨by first | rfl | (simp; done) | (simp [*]; done), by repeat (first | exact Drawn0.refl _ | apply Drawn0.step)⟩
mutual
def pyxref05_Pack.j0 : Nat → Int → List Int → Bool → Option (List Int × Bool)
 | 0, _, _, _ => none
 | k + 1, x0, x1, x24 => if x24 = true then (some (([] : List Int), false)) else (pyxref05_Pack.l0 k x0 x1 ([] : List Int) 0)
def pyxref05_Pack.l0 : Nat → Int → List Int → List Int → Int → Option (List Int × Bool)
 | 0, _, _, _, _ => none
 | k + 1, x0, x1, x6, x7 => if x7 < (x1.length : Int) then (if 0 ≤ x7 then ((pyxref05_Least.f k (rd x1 x7)).bind fun t199 => (if t199 > x0 then (some (([] : List Int), false)) else (pyxref05_Pack.l1 k x0 x1 x6 x7 (rd x1 x7) 0))) else (none)) else (pyxref05_Pack.l2 k x6)
def pyxref05_Pack.l1 : Nat → Int → List Int → List Int → Int → Int → Int → Option (List Int × Bool)
 | 0, _, _, _, _, _, _ => none
 | k + 1, x0, x1, x6, x7, x8, x9 => if x9 < x0 then (if x6.length < 17592186044416 then (pyxref05_Pack.l1 k x0 x1 (x6 ++ [wrap64 (Int.tmod x8 2)]) x7 ((Int.tdiv x8 2) % 4294967296) (wrap64 (x9 + 1))) else (none)) else (pyxref05_Pack.l0 k x0 x1 x6 (wrap64 (x7 + 1)))
def pyxref05_Pack.l2 : Nat → List Int → Option (List Int × Bool)
 | 0, _ => none
 | k + 1, x6 => if ((x6.length : Int) % 8) = 0 then (pyxref05_Pack.l3 k x6 ([] : List Int) 0) else (if x6.length < 17592186044416 then (pyxref05_Pack.l2 k (x6 ++ [0])) else (none))
def pyxref05_Pack.l3 : Nat → List Int → List Int → Int → Option (List Int × Bool)
 | 0, _, _, _ => none
 | k + 1, x6, x10, x11 => if x11 < (x6.length : Int) then (pyxref05_Pack.l4 k x6 x10 x11 0 7) else (some (x10, true))
def pyxref05_Pack.l4 : Nat → List Int → List Int → Int → Int → Int → Option (List Int × Bool)
 | 0, _, _, _, _, _ => none
 | k + 1, x6, x10, x11, x12, x13 => if x13 ≥ 0 then (if 0 ≤ (wrap64 (x11 + x13)) then (if (wrap64 (x11 + x13)) < (x6.length : Int) then (pyxref05_Pack.l4 k x6 x10 x11 (wrap64 ((wrap64 (2 * x12)) + (rd x6 (wrap64 (x11 + x13))))) (wrap64 (x13 - 1))) else (none)) else (none)) else (if x10.length < 140737488355328 then (pyxref05_Pack.l3 k x6 (x10 ++ [(x12) % 256]) (wrap64 (x11 + 8))) else (none))
end
def pyxref05_Pack.f (k : Nat) (a0 : Int) (l1 : List Int) : Option (List Int × Bool) := if a0 < 1 then (pyxref05_Pack.j0 k a0 l1 true) else (if a0 > 32 then (pyxref05_Pack.j0 k a0 l1 true) else (pyxref05_Pack.j0 k a0 l1 (decide ((l1.length : Int) > 1048576))))
set_option maxHeartbeats 8000000 in
set_option maxRecDepth 100000 in
theorem pyxref05_Pack.calls (k : Nat) (a0 : Int) (A1 : Option Addr) (c1 : Nat) (l1 : List Int) (r1 : List Int) (r2 : Bool) (w : World) (hr1 : Kd.C (Kd.int .u32) w A1 l1.length l1) (hc1 : l1.length ≤ c1) (h : pyxref05_Pack.f k a0 l1 = some (r1, r2)) :
  Calls Tryz.prog 51 #[.int .i64 a0, .slice A1 l1.length c1] w fun e w' => ∃ v0_ : Value, e = .returned (.tuple #[v0_, .bool r2]) ∧ Kd.R (Kd.int .u8) 5 w' w.heap.size (fun _ => True) v0_ r1 ∧ Below w.heap.size w w' := by
 have HR1 := Aside0.mk hr1
 have HC1 := Aside0.mk hc1
 clear hr1 hc1
 have HB := Aside0.mk (Below.refl w.heap.size w)
 have H : (if a0 < 1 then (pyxref05_Pack.j0 k a0 l1 true) else (if a0 > 32 then (pyxref05_Pack.j0 k a0 l1 true) else (pyxref05_Pack.j0 k a0 l1 (decide ((l1.length : Int) > 1048576))))) = some (r1, r2) := h
 clear h
 have HC3 := Aside0.mk H
 clear H
 go_enter Tryz.func51, Tryz.ntmps51
 go_upto_region 1 with (fail)
 go_cut [24] (fun v24 wc => ∃ (kq : Nat) (x24_2 : Bool), v24 = .bool x24_2 ∧ Aside0 (pyxref05_Pack.j0 kq a0 l1 x24_2 = some (r1, r2)) ∧ Aside0 (kq ≤ k) ∧ Aside0 (Below w.heap.size w wc))
 case first =>
  have H := HC3.out
  clear HC3
  by_cases c4 : a0 < 1
  ·rw [if_pos c4] at H
   have c4b0 : decide (a0 < 1) = true := decide_eq_true c4
   clear c4
   (first | rw [c4b0] | (simp only [i64_w, i32_w]; rw [c4b0]) | skip)
   have H' := Aside0.mk H
   clear H
   go_wp2
   go_meet
   case rel => exact ⟨_, (true), q64_, H', ⟨by first | omega | exact Nat.le_refl _⟩, ⟨by repeat (first | (with_reducible first | exact HB.out | apply below_alloc | apply pw_below_drewN | apply below_drew1) | exact HB.out)⟩⟩
  ·rw [if_neg c4] at H
   have c4b0 : decide (a0 < 1) = false := decide_eq_false c4
   clear c4
   (first | rw [c4b0] | (simp only [i64_w, i32_w]; rw [c4b0]) | skip)
   by_cases c5 : a0 > 32
   ·rw [if_pos c5] at H
    have c5b0 : decide (32 < a0) = true := decide_eq_true c5
    clear c5
    have H' := Aside0.mk H
    clear H
    go_wp2
    go_meet
    case rel => exact ⟨_, (true), q64_, H', ⟨by first | omega | exact Nat.le_refl _⟩, ⟨by repeat (first | (with_reducible first | exact HB.out | apply below_alloc | apply pw_below_drewN | apply below_drew1) | exact HB.out)⟩⟩
   ·rw [if_neg c5] at H
    have c5b0 : decide (32 < a0) = false := decide_eq_false c5
    clear c5
    have H' := Aside0.mk H
    clear H
    go_wp2
    go_meet
    case rel => exact ⟨_, (decide ((l1.length : Int) > 1048576)), q64_, H', ⟨by first | omega | exact Nat.le_refl _⟩, ⟨by repeat (first | (with_reducible first | exact HB.out | apply below_alloc | apply pw_below_drewN | apply below_drew1) | exact HB.out)⟩⟩
 case rest =>
  clear HC3
  try clear c1
  try clear p2
  try clear c4
  try clear c4b0
  try clear c5
  try clear c5b0
  obtain ⟨kq, x24_2, rfl, HA, HJ2, HB⟩ := hcut
  cases kq with
  | zero => exact absurd HA.out (by simp [pyxref05_Pack.j0])
  | succ kj2 =>
   have H := HA.out
   clear HA
   simp only [pyxref05_Pack.j0] at H
   by_cases c6 : x24_2 = true
   ·subst c6
    have H1 : (some (([] : List Int), false)) = some (r1, r2) := by rw [if_pos rfl] at H; exact H
    clear H
    have H := H1
    clear H1
    simp only [Option.some.injEq, Prod.mk.injEq] at H
    obtain ⟨rfl, rfl⟩ := H
    go_wp2
    go_ret2
    exact ⟨_, by first | rfl | (simp [errW_none, errW_some] <;> rfl) | (simp [*, errW_none, errW_some] <;> rfl), by first | exact Kd.R_nil _ _ _ _ _ | exact Kd.N_nil _ _ _ _ _ | exact Kd.V_nil _ _ _ _ _ | exact Kd.Q_nil _ _ _ _ _ | exact Kd.S_nil _ _ _ _ _, by repeat (first | (with_reducible first | exact HB.out | apply below_alloc | apply pw_below_drewN | apply below_drew1) | exact HB.out)⟩
   ·replace c6 := Bool.eq_false_iff.mpr c6
    subst c6
    have H1 : (pyxref05_Pack.l0 kj2 a0 l1 ([] : List Int) 0) = some (r1, r2) := by rw [if_neg (show ¬ (false = true) by decide)] at H; exact H
    clear H
    have H := H1
    clear H1
    have H' := Aside0.mk H
    clear H
    go_wp2
    go_loopg [6, 7] kj2 (fun kq v6 v7 w' => ∃ (x6_2 : List Int) (x7_2 : Int), v7 = .int .i64 x7_2 ∧ Aside0 (pyxref05_Pack.l0 kq a0 l1 x6_2 x7_2 = some (r1, r2)) ∧ Aside0 (kq ≤ kj2) ∧ Aside0 (Kd.R (Kd.int .i64) 3 w' w.heap.size (fun _ => True) v6 x6_2) ∧ Aside0 (Below w.heap.size w w'))
    case atStart => exact ⟨(([] : List Int)), (0), q64_, H', ⟨Nat.le_refl _⟩, ⟨by first | exact Kd.R_nil _ _ _ _ _ | exact Kd.N_nil _ _ _ _ _ | exact Kd.V_nil _ _ _ _ _ | exact Kd.Q_nil _ _ _ _ _ | exact Kd.S_nil _ _ _ _ _⟩, ⟨by repeat (first | (with_reducible first | exact HB.out | apply below_alloc | apply pw_below_drewN | apply below_drew1) | exact HB.out)⟩⟩
    case round =>
     clear H'
     try clear c1
     try clear p2
     try clear c4
     try clear c4b0
     try clear c5
     try clear c5b0
     try clear c6
     try clear p2
     obtain ⟨x6_2, x7_2, rfl, HA, HK2, HO_6, HB⟩ := hrel
     cases gk with
     | zero => exact absurd HA.out (by simp [pyxref05_Pack.l0])
     | succ k2 =>
      have H := HA.out
      clear HA
      simp only [pyxref05_Pack.l0] at H
      by_cases c7 : x7_2 < (l1.length : Int)
      ·rw [if_pos c7] at H
       have c7b0 : decide (x7_2 < (l1.length : Int)) = true := decide_eq_true c7
       clear c7
       by_cases c8 : 0 ≤ x7_2
       ·rw [if_pos c8] at H
        have c8b0 : decide (0 ≤ x7_2) = true := decide_eq_true c8
        clear c8
        replace H := Option.bind_eq_some_iff.mp H
        obtain ⟨t199, A90, H⟩ := H
        replace H : (if t199 > a0 then (some (([] : List Int), false)) else (pyxref05_Pack.l1 k2 a0 l1 x6_2 x7_2 (rd l1 x7_2) 0)) = some (r1, r2) := H
        have A9 := Aside0.mk A90
        clear A90
        by_cases c10 : t199 > a0
        ·rw [if_pos c10] at H
         have c10b0 : decide (a0 < t199) = true := decide_eq_true c10
         clear c10
         simp only [Option.some.injEq, Prod.mk.injEq] at H
         obtain ⟨rfl, rfl⟩ := H
         have p198 : 0 ≤ (x7_2 : Int) := of_decide_eq_true q63_
         have q198 : x7_2 < (l1.length : Int) := of_decide_eq_true q63_
         obtain ⟨ad198, e198, hx198_0⟩ := Kd.at_int HR1.out x7_2 p198 q198
         cases e198
         replace hx198_0 := (HB.out.cell (World.block_lt_of_cell? w _ hx198_0)).trans hx198_0
         replace p198 := eq_true p198
         replace q198 := eq_true q198
         go_wp2_with (first | ((with_reducible refine gate_callee (f := 66) rfl ?_); refine goesL_ (some 36) rfl rfl Tryz.func66 (by kernel_rfl) rfl #[.int .u32 (rd l1 x7_2)] rfl q29_ ?_; (with_reducible refine (pyxref05_Least.calls k2 (rd l1 x7_2) t199 _ A9.out).mono ?_); rintro e w' ⟨rfl, ⟨nd, rfl⟩⟩; refine ⟨_, rfl, ?_⟩))
         go_ret2
         exact ⟨_, by first | rfl | (simp [errW_none, errW_some] <;> rfl) | (simp [*, errW_none, errW_some] <;> rfl), by first | exact Kd.R_nil _ _ _ _ _ | exact Kd.N_nil _ _ _ _ _ | exact Kd.V_nil _ _ _ _ _ | exact Kd.Q_nil _ _ _ _ _ | exact Kd.S_nil _ _ _ _ _, by repeat (first | (with_reducible first | exact HB.out | apply below_alloc | apply pw_below_drewN | apply below_drew1) | exact HB.out)⟩
        ·rw [if_neg c10] at H
         have c10b0 : decide (a0 < t199) = false := decide_eq_false c10
         clear c10
         have H' := Aside0.mk H
         clear H
         have p198 : 0 ≤ (x7_2 : Int) := of_decide_eq_true q63_
         have q198 : x7_2 < (l1.length : Int) := of_decide_eq_true q63_
         obtain ⟨ad198, e198, hx198_0⟩ := Kd.at_int HR1.out x7_2 p198 q198
         cases e198
         replace hx198_0 := (HB.out.cell (World.block_lt_of_cell? w _ hx198_0)).trans hx198_0
         replace p198 := eq_true p198
         replace q198 := eq_true q198
         go_wp2_with (first | ((with_reducible refine gate_callee (f := 66) rfl ?_); refine goesL_ (some 36) rfl rfl Tryz.func66 (by kernel_rfl) rfl #[.int .u32 (rd l1 x7_2)] rfl q29_ ?_; (with_reducible refine (pyxref05_Least.calls k2 (rd l1 x7_2) t199 _ A9.out).mono ?_); rintro e w' ⟨rfl, ⟨nd, rfl⟩⟩; refine ⟨_, rfl, ?_⟩))
         go_loopg [6, 8, 9] k2 (fun kq v6 v8 v9 w' => ∃ (x6_3 : List Int) (x8_3 : Int) (x9_3 : Int), v8 = .int .u32 x8_3 ∧ v9 = .int .i64 x9_3 ∧ Aside0 (pyxref05_Pack.l1 kq a0 l1 x6_3 x7_2 x8_3 x9_3 = some (r1, r2)) ∧ Aside0 (kq ≤ k2) ∧ Aside0 (Kd.R (Kd.int .i64) 3 w' w.heap.size (fun _ => True) v6 x6_3) ∧ Aside0 (Below w.heap.size w w'))
         case atStart => exact ⟨(x6_2), (rd l1 x7_2), (0), q64_, q64_, H', ⟨Nat.le_refl _⟩, ⟨by (with_reducible repeat (first | apply Kd.R_alloc | apply Kd.R_drewN | apply Kd.R_drew)); exact HO_6.out⟩, ⟨by repeat (first | (with_reducible first | exact HB.out | apply below_alloc | apply pw_below_drewN | apply below_drew1) | exact HB.out)⟩⟩
         case round =>
          clear H'
          try clear c1
          try clear p1
          try clear q1
          try clear hx1
          try clear p2
          try clear c4
          try clear c4b0
          try clear c5
          try clear c5b0
          try clear c6
          try clear c7
          try clear c7b0
          try clear c8
          try clear c8b0
          try clear c10
          try clear c10b0
          try clear hx198_0
          try clear p198
          try clear p2
          try clear q198
          obtain ⟨x6_3, x8_3, x9_3, rfl, rfl, HA, HK3, HO_6, HB⟩ := hrel
          cases gk with
          | zero => exact absurd HA.out (by simp [pyxref05_Pack.l1])
          | succ k3 =>
           have H := HA.out
           clear HA
           simp only [pyxref05_Pack.l1] at H
           by_cases c11 : x9_3 < a0
           ·rw [if_pos c11] at H
            have c11b0 : decide (x9_3 < a0) = true := decide_eq_true c11
            clear c11
            by_cases c12 : x6_3.length < 17592186044416
            ·rw [if_pos c12] at H
             have LMc12 := Aside0.mk c12
             clear c12
             obtain ⟨y200, hy200⟩ : ∃ y_ : List Int, y_ = (x6_3 ++ [wrap64 (Int.tmod x8_3 2)]) := ⟨_, rfl⟩
             replace H : (pyxref05_Pack.l1 k3 a0 l1 y200 x7_2 ((Int.tdiv x8_3 2) % 4294967296) (wrap64 (x9_3 + 1))) = some (r1, r2) := by first | (rw [hy200]; with_reducible exact H) | (have H2_ := (Option.bind_some _ _).symm.trans H; rw [hy200]; with_reducible exact H2_) | (have H2_ := (Option.bind_some _ _).symm.trans H; with_reducible exact H2_) | with_reducible exact H | (rw [hy200]; exact H) | exact H
             have Ny200 := Aside0.mk hy200
             clear hy200
             have H' := Aside0.mk H
             clear H
             go_wp2_with (first | ((with_reducible refine gate_builtin (b := .append) (xs := #[.tmp 44, .tmp 48]) rfl ?_); (try (refine gate_guard (by rfl) ?_; dsimp only)); at_builtin; refine Kd.R_append (Kd.int .i64) (w0 := w) w.heap.size rfl (.tmp 44) (.tmp 48) 41 3 (.int .i64 0) 8 rfl Tryz.underlying41 info3 rfl (by decide) (by omega) u6 x6_3 (wrap64 (Int.tmod x8_3 2)) [.int .i64 (wrap64 (Int.tmod x8_3 2))] (fun _ => True) (fun _ => False) rfl rfl ?aP (fun _ hk => hk.elim) ?aF ?aO ?aB ?aS ?aL ?_; (case aP => exact rfl); (case aB => exact q30_); (case aF => exact (fun _ _ => trivial)); (case aO => exact q55_); (case aS => exact (below_size q30_)); (case aL => have := LMc12.out; omega); intro v201 w13 ho hb hg hat; rw [← Ny200.out] at ho; have n0_ := Aside0.mk (hb); have n1_ := Aside0.mk (ho); clear HB; clear HO_6; have HB := n0_; have HO202 := n1_; clear n0_ n1_; clear ho hb hg hat))
             go_roundg k3
             case measure => have := HJ2.out; have := HK2.out; have := HK3.out; omega
             case rel => exact ⟨(y200), ((Int.tdiv x8_3 2) % 4294967296), (wrap64 (x9_3 + 1)), q64_, q64_, H', ⟨by have := HJ2.out; have := HK2.out; have := HK3.out; omega⟩, ⟨by (with_reducible repeat (first | apply Kd.R_alloc | apply Kd.R_drewN | apply Kd.R_drew)); exact HO202.out⟩, ⟨by repeat (first | (with_reducible first | exact HB.out | apply below_alloc | apply pw_below_drewN | apply below_drew1) | exact HB.out)⟩⟩
            ·rw [if_neg c12] at H
             exact absurd H (by simp)
           ·rw [if_neg c11] at H
            have c11b0 : decide (x9_3 < a0) = false := decide_eq_false c11
            clear c11
            have H' := Aside0.mk H
            clear H
            go_wp2
            go_roundg k3
            case measure => have := HJ2.out; have := HK2.out; have := HK3.out; omega
            case rel => exact ⟨(x6_3), (wrap64 (x7_2 + 1)), q64_, H', ⟨by have := HJ2.out; have := HK2.out; have := HK3.out; omega⟩, ⟨by (with_reducible repeat (first | apply Kd.R_alloc | apply Kd.R_drewN | apply Kd.R_drew)); exact HO_6.out⟩, ⟨by repeat (first | (with_reducible first | exact HB.out | apply below_alloc | apply pw_below_drewN | apply below_drew1) | exact HB.out)⟩⟩
       ·rw [if_neg c8] at H
        exact absurd H (by simp)
      ·rw [if_neg c7] at H
       have c7b0 : decide (x7_2 < (l1.length : Int)) = false := decide_eq_false c7
       clear c7
       have H' := Aside0.mk H
       clear H
       go_wp2
       go_loopg [6] k2 (fun kq v6 w' => ∃ (x6_3 : List Int), Aside0 (pyxref05_Pack.l2 kq x6_3 = some (r1, r2)) ∧ Aside0 (kq ≤ k2) ∧ Aside0 (Kd.R (Kd.int .i64) 3 w' w.heap.size (fun _ => True) v6 x6_3) ∧ Aside0 (Below w.heap.size w w'))
       case atStart => exact ⟨(x6_2), H', ⟨Nat.le_refl _⟩, ⟨by (with_reducible repeat (first | apply Kd.R_alloc | apply Kd.R_drewN | apply Kd.R_drew)); exact HO_6.out⟩, ⟨by repeat (first | (with_reducible first | exact HB.out | apply below_alloc | apply pw_below_drewN | apply below_drew1) | exact HB.out)⟩⟩
       case round =>
        clear H'
        try clear c1
        try clear p1
        try clear q1
        try clear hx1
        try clear p2
        try clear c4
        try clear c4b0
        try clear c5
        try clear c5b0
        try clear c6
        try clear p6
        try clear c7
        try clear c7b0
        try clear c8
        try clear c8b0
        try clear c10
        try clear c10b0
        try clear c11
        try clear c11b0
        try clear c12
        try clear hx198_0
        try clear p1
        try clear p198
        try clear p2
        try clear q1
        try clear q198
        obtain ⟨x6_3, HA, HK3, HO_6, HB⟩ := hrel
        cases gk with
        | zero => exact absurd HA.out (by simp [pyxref05_Pack.l2])
        | succ k3 =>
         have H := HA.out
         clear HA
         simp only [pyxref05_Pack.l2] at H
         by_cases c14 : ((x6_3.length : Int) % 8) = 0
         ·rw [if_pos c14] at H
          have c14b0 : (((x6_3.length : Int) % 8) == 0) = true := beq_iff_eq.mpr c14
          have c14b1 : (((x6_3.length : Int) % 8) != 0) = false := bne_eq_false_iff_eq.mpr c14
          clear c14
          have H' := Aside0.mk H
          clear H
          obtain ⟨Ao15, co15, eo15⟩ := Kd.R_slice HO_6.out
          subst eo15
          go_wp2
          go_loopg [10, 11] k3 (fun kq v10 v11 w' => ∃ (x10_4 : List Int) (x11_4 : Int), v11 = .int .i64 x11_4 ∧ Aside0 (pyxref05_Pack.l3 kq x6_3 x10_4 x11_4 = some (r1, r2)) ∧ Aside0 (kq ≤ k3) ∧ Aside0 (Kd.R (Kd.int .i64) 3 w' w.heap.size (fun _ => True) (.slice Ao15 x6_3.length co15) x6_3) ∧ Aside0 (Kd.R (Kd.int .u8) 5 w' w.heap.size (fun _ => True) v10 x10_4) ∧ Aside0 (Below w.heap.size w w'))
          case atStart => exact ⟨(([] : List Int)), (0), q64_, H', ⟨Nat.le_refl _⟩, ⟨by (with_reducible repeat (first | apply Kd.R_alloc | apply Kd.R_drewN | apply Kd.R_drew)); exact HO_6.out⟩, ⟨by first | exact Kd.R_nil _ _ _ _ _ | exact Kd.N_nil _ _ _ _ _ | exact Kd.V_nil _ _ _ _ _ | exact Kd.Q_nil _ _ _ _ _ | exact Kd.S_nil _ _ _ _ _⟩, ⟨by repeat (first | (with_reducible first | exact HB.out | apply below_alloc | apply pw_below_drewN | apply below_drew1) | exact HB.out)⟩⟩
          case round =>
           clear H'
           try clear c1
           try clear p1
           try clear q1
           try clear hx1
           try clear p2
           try clear c4
           try clear c4b0
           try clear c5
           try clear c5b0
           try clear c6
           try clear p6
           try clear c7
           try clear c7b0
           try clear c8
           try clear c8b0
           try clear c10
           try clear c10b0
           try clear c11
           try clear c11b0
           try clear c12
           try clear c14
           try clear c14b0
           try clear c14b1
           try clear hx198_0
           try clear p1
           try clear p198
           try clear p2
           try clear p6
           try clear q1
           try clear q198
           obtain ⟨x10_4, x11_4, rfl, HA, HK4, HO_6, HO_10, HB⟩ := hrel
           cases gk with
           | zero => exact absurd HA.out (by simp [pyxref05_Pack.l3])
           | succ k4 =>
            have H := HA.out
            clear HA
            simp only [pyxref05_Pack.l3] at H
            by_cases c16 : x11_4 < (x6_3.length : Int)
            ·rw [if_pos c16] at H
             have c16b0 : decide (x11_4 < (x6_3.length : Int)) = true := decide_eq_true c16
             clear c16
             have H' := Aside0.mk H
             clear H
             go_wp2
             go_loopg [12, 13] k4 (fun kq v12 v13 w' => ∃ (x12_5 : Int) (x13_5 : Int), v12 = .int .i64 x12_5 ∧ v13 = .int .i64 x13_5 ∧ Aside0 (pyxref05_Pack.l4 kq x6_3 x10_4 x11_4 x12_5 x13_5 = some (r1, r2)) ∧ Aside0 (kq ≤ k4) ∧ Aside0 (Kd.R (Kd.int .i64) 3 w' w.heap.size (fun _ => True) (.slice Ao15 x6_3.length co15) x6_3) ∧ Aside0 (Kd.R (Kd.int .u8) 5 w' w.heap.size (fun _ => True) u10 x10_4) ∧ Aside0 (Below w.heap.size w w'))
             case atStart => exact ⟨(0), (7), q64_, q64_, H', ⟨Nat.le_refl _⟩, ⟨by (with_reducible repeat (first | apply Kd.R_alloc | apply Kd.R_drewN | apply Kd.R_drew)); exact HO_6.out⟩, ⟨by (with_reducible repeat (first | apply Kd.R_alloc | apply Kd.R_drewN | apply Kd.R_drew)); exact HO_10.out⟩, ⟨by repeat (first | (with_reducible first | exact HB.out | apply below_alloc | apply pw_below_drewN | apply below_drew1) | exact HB.out)⟩⟩
             case round =>
              clear H'
              try clear c1
              try clear p1
              try clear q1
              try clear hx1
              try clear p2
              try clear c4
              try clear c4b0
              try clear c5
              try clear c5b0
              try clear c6
              try clear p6
              try clear c7
              try clear c7b0
              try clear c8
              try clear c8b0
              try clear c10
              try clear c10b0
              try clear c11
              try clear c11b0
              try clear c12
              try clear c14
              try clear c14b0
              try clear c14b1
              try clear c16
              try clear c16b0
              try clear hx198_0
              try clear p1
              try clear p198
              try clear p2
              try clear p6
              try clear q1
              try clear q198
              obtain ⟨x12_5, x13_5, rfl, rfl, HA, HK5, HO_6, HO_10, HB⟩ := hrel
              cases gk with
              | zero => exact absurd HA.out (by simp [pyxref05_Pack.l4])
              | succ k5 =>
               have H := HA.out
               clear HA
               simp only [pyxref05_Pack.l4] at H
               by_cases c17 : x13_5 ≥ 0
               ·rw [if_pos c17] at H
                have c17b0 : decide (0 ≤ x13_5) = true := decide_eq_true c17
                clear c17
                obtain ⟨ji18, hji18⟩ : ∃ j_ : Int, (wrap64 (x11_4 + x13_5)) = j_ := ⟨_, rfl⟩
                replace H : (if 0 ≤ (ji18) then (if (ji18) < (x6_3.length : Int) then (pyxref05_Pack.l4 k5 x6_3 x10_4 x11_4 (wrap64 ((wrap64 (2 * x12_5)) + (rd x6_3 (ji18)))) (wrap64 (x13_5 - 1))) else (none)) else (none)) = some (r1, r2) := by first | (rw [hji18] at H; exact H) | (simp only [hji18] at H ⊢; exact H)
                have hji18w : (IntKind.i64.wrap (x11_4 + x13_5)) = ji18 := (i64_w _).trans hji18
                by_cases c19 : 0 ≤ (ji18)
                ·rw [if_pos c19] at H
                 have c19b0 : decide (0 ≤ (ji18)) = true := decide_eq_true c19
                 clear c19
                 by_cases c20 : (ji18) < (x6_3.length : Int)
                 ·rw [if_pos c20] at H
                  have c20b0 : decide ((ji18) < (x6_3.length : Int)) = true := decide_eq_true c20
                  clear c20
                  have H' := Aside0.mk H
                  clear H
                  have p206 : 0 ≤ ((ji18) : Int) := of_decide_eq_true q63_
                  have q206 : (ji18) < (x6_3.length : Int) := of_decide_eq_true q63_
                  obtain ⟨ad206, e206, hx206_0⟩ := Kd.at_int (Kd.R_reads' HO_6.out).2.2 (ji18) p206 q206
                  cases e206
                  replace p206 := eq_true p206
                  replace q206 := eq_true q206
                  go_wp2
                  go_roundg k5
                  case measure => have := HJ2.out; have := HK2.out; have := HK3.out; have := HK4.out; have := HK5.out; omega
                  case rel => exact ⟨(wrap64 ((wrap64 (2 * x12_5)) + (rd x6_3 (ji18)))), (wrap64 (x13_5 - 1)), (by first | rfl | (simp; done) | (simp only [← hji18] <;> (first | rfl | simp)) | (simp [*]; done)), q64_, H', ⟨by have := HJ2.out; have := HK2.out; have := HK3.out; have := HK4.out; have := HK5.out; omega⟩, ⟨by (with_reducible repeat (first | apply Kd.R_alloc | apply Kd.R_drewN | apply Kd.R_drew)); exact HO_6.out⟩, ⟨by (with_reducible repeat (first | apply Kd.R_alloc | apply Kd.R_drewN | apply Kd.R_drew)); exact HO_10.out⟩, ⟨by repeat (first | (with_reducible first | exact HB.out | apply below_alloc | apply pw_below_drewN | apply below_drew1) | exact HB.out)⟩⟩
                 ·rw [if_neg c20] at H
                  exact absurd H (by simp)
                ·rw [if_neg c19] at H
                 exact absurd H (by simp)
               ·rw [if_neg c17] at H
                have c17b0 : decide (0 ≤ x13_5) = false := decide_eq_false c17
                clear c17
                by_cases c21 : x10_4.length < 140737488355328
                ·rw [if_pos c21] at H
                 have LMc21 := Aside0.mk c21
                 clear c21
                 obtain ⟨y207, hy207⟩ : ∃ y_ : List Int, y_ = (x10_4 ++ [(x12_5) % 256]) := ⟨_, rfl⟩
                 replace H : (pyxref05_Pack.l3 k5 x6_3 y207 (wrap64 (x11_4 + 8))) = some (r1, r2) := by first | (rw [hy207]; with_reducible exact H) | (have H2_ := (Option.bind_some _ _).symm.trans H; rw [hy207]; with_reducible exact H2_) | (have H2_ := (Option.bind_some _ _).symm.trans H; with_reducible exact H2_) | with_reducible exact H | (rw [hy207]; exact H) | exact H
                 have Ny207 := Aside0.mk hy207
                 clear hy207
                 have H' := Aside0.mk H
                 clear H
                 go_wp2_with (first | ((with_reducible refine gate_builtin (b := .append) (xs := #[.tmp 78, .tmp 81]) rfl ?_); (try (refine gate_guard (by rfl) ?_; dsimp only)); at_builtin; refine Kd.R_append (Kd.int .u8) (w0 := w) w.heap.size rfl (.tmp 78) (.tmp 81) 25 5 (.int .u8 0) 1 rfl Tryz.underlying25 info5 rfl (by decide) (by omega) u10 x10_4 ((x12_5) % 256) [.int .u8 ((x12_5) % 256)] (fun _ => True) (fun _ => False) rfl rfl ?aP (fun _ hk => hk.elim) ?aF ?aO ?aB ?aS ?aL ?_; (case aP => exact rfl); (case aB => exact q30_); (case aF => exact (fun _ _ => trivial)); (case aO => exact (by (with_reducible repeat (first | apply Kd.R_alloc | apply Kd.R_drewN | apply Kd.R_drew)); exact HO_10.out)); (case aS => exact (below_size q30_)); (case aL => have := LMc21.out; omega); intro v208 w22 ho hb hg hat; rw [← Ny207.out] at ho; have n0_ := Aside0.mk (Kd.R_over' q55_ (Kd.R_typed (by (with_reducible repeat (first | apply Kd.R_alloc | apply Kd.R_drewN | apply Kd.R_drew)); exact HO_10.out)) (by decide) hg); have n1_ := Aside0.mk (hb); have n2_ := Aside0.mk (ho); clear HO_6; clear HB; clear HO_10; have HO_6 := n0_; have HB := n1_; have HO209 := n2_; clear n0_ n1_ n2_; clear ho hb hg hat))
                 go_roundg k5
                 case measure => have := HJ2.out; have := HK2.out; have := HK3.out; have := HK4.out; have := HK5.out; omega
                 case rel => exact ⟨(y207), (wrap64 (x11_4 + 8)), q64_, H', ⟨by have := HJ2.out; have := HK2.out; have := HK3.out; have := HK4.out; have := HK5.out; omega⟩, ⟨by (with_reducible repeat (first | apply Kd.R_alloc | apply Kd.R_drewN | apply Kd.R_drew)); exact HO_6.out⟩, ⟨by (with_reducible repeat (first | apply Kd.R_alloc | apply Kd.R_drewN | apply Kd.R_drew)); exact HO209.out⟩, ⟨by repeat (first | (with_reducible first | exact HB.out | apply below_alloc | apply pw_below_drewN | apply below_drew1) | exact HB.out)⟩⟩
                ·rw [if_neg c21] at H
                 exact absurd H (by simp)
            ·rw [if_neg c16] at H
             have c16b0 : decide (x11_4 < (x6_3.length : Int)) = false := decide_eq_false c16
             clear c16
             simp only [Option.some.injEq, Prod.mk.injEq] at H
             obtain ⟨rfl, rfl⟩ := H
             go_wp2
             go_ret2
             exact ⟨_, by first | rfl | (simp [errW_none, errW_some] <;> rfl) | (simp [*, errW_none, errW_some] <;> rfl), by (with_reducible repeat (first | apply Kd.R_alloc | apply Kd.R_drewN | apply Kd.R_drew)); exact HO_10.out, by repeat (first | (with_reducible first | exact HB.out | apply below_alloc | apply pw_below_drewN | apply below_drew1) | exact HB.out)⟩
         ·rw [if_neg c14] at H
          have c14b0 : (((x6_3.length : Int) % 8) == 0) = false := beq_eq_false_iff_ne.mpr c14
          have c14b1 : (((x6_3.length : Int) % 8) != 0) = true := bne_iff_ne.mpr c14
          by_cases c23 : x6_3.length < 17592186044416
          ·rw [if_pos c23] at H
           have LMc23 := Aside0.mk c23
           clear c23
           obtain ⟨y203, hy203⟩ : ∃ y_ : List Int, y_ = (x6_3 ++ [0]) := ⟨_, rfl⟩
           replace H : (pyxref05_Pack.l2 k3 y203) = some (r1, r2) := by first | (rw [hy203]; with_reducible exact H) | (have H2_ := (Option.bind_some _ _).symm.trans H; rw [hy203]; with_reducible exact H2_) | (have H2_ := (Option.bind_some _ _).symm.trans H; with_reducible exact H2_) | with_reducible exact H | (rw [hy203]; exact H) | exact H
           have Ny203 := Aside0.mk hy203
           clear hy203
           have H' := Aside0.mk H
           clear H
           obtain ⟨Ao24, co24, eo24⟩ := Kd.R_slice HO_6.out
           subst eo24
           go_wp2_with (first | ((with_reducible refine gate_builtin (b := .append) (xs := #[.tmp 56, .tmp 57]) rfl ?_); (try (refine gate_guard (by rfl) ?_; dsimp only)); at_builtin; refine Kd.R_append (Kd.int .i64) (w0 := w) w.heap.size rfl (.tmp 56) (.tmp 57) 41 3 (.int .i64 0) 8 rfl Tryz.underlying41 info3 rfl (by decide) (by omega) (.slice Ao24 x6_3.length co24) x6_3 0 [.int .i64 0] (fun _ => True) (fun _ => False) rfl rfl ?aP (fun _ hk => hk.elim) ?aF ?aO ?aB ?aS ?aL ?_; (case aP => exact rfl); (case aB => exact q30_); (case aF => exact (fun _ _ => trivial)); (case aO => exact q55_); (case aS => exact (below_size q30_)); (case aL => have := LMc23.out; omega); intro v204 w25 ho hb hg hat; rw [← Ny203.out] at ho; have n0_ := Aside0.mk (hb); have n1_ := Aside0.mk (ho); clear HB; clear HO_6; have HB := n0_; have HO205 := n1_; clear n0_ n1_; clear ho hb hg hat))
           go_roundg k3
           case measure => have := HJ2.out; have := HK2.out; have := HK3.out; omega
           case rel => exact ⟨(y203), H', ⟨by have := HJ2.out; have := HK2.out; have := HK3.out; omega⟩, ⟨by (with_reducible repeat (first | apply Kd.R_alloc | apply Kd.R_drewN | apply Kd.R_drew)); exact HO205.out⟩, ⟨by repeat (first | (with_reducible first | exact HB.out | apply below_alloc | apply pw_below_drewN | apply below_drew1) | exact HB.out)⟩⟩
          ·rw [if_neg c23] at H
           exact absurd H (by simp)
end Go.Proofs.YtgmnknhfeoleaaaGreatDoor.PXmss
