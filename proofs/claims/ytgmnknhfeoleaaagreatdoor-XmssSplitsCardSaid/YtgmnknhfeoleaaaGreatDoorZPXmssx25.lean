import Derived.Test.YtgmnknhfeoleaaaGreatDoorZQ
import Derived.Test.YtgmnknhfeoleaaaGreatDoorZSq
import Derived.Test.YtgmnknhfeoleaaaGreatDoorZPXmssx0
import Derived.Test.YtgmnknhfeoleaaaGreatDoorZPXmssx18
import Derived.Test.YtgmnknhfeoleaaaGreatDoorZPXmssx19
namespace Go.Proofs.YtgmnknhfeoleaaaGreatDoor.PXmss
open Go.RowKit Go.Proofs.YtgmnknhfeoleaaaGreatDoorW.PrintWords Go.Proofs.YtgmnknhfeoleaaaGreatDoorW.PrintLast Go.Proofs.YtgmnknhfeoleaaaGreatDoorW.PrintMore
attribute [local go_sem] max2_int min2_int max_two min_two max_three min_three max_four min_four
set_option linter.unusedVariables false
set_option linter.unusedSimpArgs false
def pyxref22_Make.f (k : Nat) (a0 : Int) (a1 : Int) (a2 : Int) : Option (List Int) := (pyxref22_Numbers.f a0).bind fun t265 => ((some (([(a1 / 16777216) % 256, (a1 / 65536) % 256, (a1 / 256) % 256, (a1) % 256] : List Int) : List Int)).bind fun y268 => (if 0 < (t265.length : Int) then (if 1 < (t265.length : Int) then (if 2 < (t265.length : Int) then ((pyxref15_Spread.f k a2 (wrap64 ((rd t265 0) * (wrap64 ((wrap64 (1 + (rd t265 1))) + (rd t265 2)))))).bind fun t274 => (if y268.length + t274.length < 140737488355328 then (some (y268 ++ t274)) else (none))) else (none)) else (none)) else (none)))
def pyxref22_Make.T3 : Bool × List (List Nat × List Nat) := (true, [([], []), ([], []), ([], []), ([2], [2]), ([3], [3]), ([], []), ([5], [5]), ([6], [6]), ([7], [7]), ([], []), ([9], [9]), ([10], [10]), ([8, 11], [8, 11]), ([4, 12], [4, 12]), ([1, 13], [1, 13]), ([0, 14, 14], [0, 14]), ([15, 15, 0, 1, 2, 3, 4, 5, 6, 7, 8, 9, 10, 11, 12, 13, 14, 15], [15])])
def pyxref22_Make.B3 : List Nat := [0, 0, 0, 4, 12, 0, 32, 96, 224, 0, 512, 1536, 4064, 8188, 16382, 32767, 65535]
theorem pyxref22_Make.tab3 : rtab .any (opsOf Tryz.f10 3) = pyxref22_Make.T3 := by kernel_rfl
theorem pyxref22_Make.bits3 : waitsOk pyxref22_Make.T3.2 pyxref22_Make.B3 = true := by kernel_rfl
set_option maxHeartbeats 8000000 in
set_option maxRecDepth 100000 in
theorem pyxref22_Make.calls (k : Nat) (a0 : Int) (a1 : Int) (a2 : Int) (r : List Int) (w : World) (h : pyxref22_Make.f k a0 a1 a2 = some r) :
  Calls Tryz.prog 10 #[.int .i64 a0, .int .u32 a1, .int .u32 a2] w fun e w' => ∃ v0_ : Value, e = .returned (v0_) ∧ Kd.R (Kd.int .u8) 5 w' w.heap.size (fun _ => True) v0_ r ∧ Below w.heap.size w w' := by
 have HB := Aside0.mk (Below.refl w.heap.size w)
 have H : ((pyxref22_Numbers.f a0).bind fun t265 => ((some (([(a1 / 16777216) % 256, (a1 / 65536) % 256, (a1 / 256) % 256, (a1) % 256] : List Int) : List Int)).bind fun y268 => (if 0 < (t265.length : Int) then (if 1 < (t265.length : Int) then (if 2 < (t265.length : Int) then ((pyxref15_Spread.f k a2 (wrap64 ((rd t265 0) * (wrap64 ((wrap64 (1 + (rd t265 1))) + (rd t265 2)))))).bind fun t274 => (if y268.length + t274.length < 140737488355328 then (some (y268 ++ t274)) else (none))) else (none)) else (none)) else (none)))) = some r := h
 clear h
 replace H := Option.bind_eq_some_iff.mp H
 obtain ⟨t265, A40, H⟩ := H
 replace H : ((some (([(a1 / 16777216) % 256, (a1 / 65536) % 256, (a1 / 256) % 256, (a1) % 256] : List Int) : List Int)).bind fun y268 => (if 0 < (t265.length : Int) then (if 1 < (t265.length : Int) then (if 2 < (t265.length : Int) then ((pyxref15_Spread.f k a2 (wrap64 ((rd t265 0) * (wrap64 ((wrap64 (1 + (rd t265 1))) + (rd t265 2)))))).bind fun t274 => (if y268.length + t274.length < 140737488355328 then (some (y268 ++ t274)) else (none))) else (none)) else (none)) else (none))) = some r := H
 have A4 := Aside0.mk A40
 clear A40
 obtain ⟨y268, hy268⟩ : ∃ y_ : List Int, y_ = (([(a1 / 16777216) % 256, (a1 / 65536) % 256, (a1 / 256) % 256, (a1) % 256] : List Int)) := ⟨_, rfl⟩
 replace H : (if 0 < (t265.length : Int) then (if 1 < (t265.length : Int) then (if 2 < (t265.length : Int) then ((pyxref15_Spread.f k a2 (wrap64 ((rd t265 0) * (wrap64 ((wrap64 (1 + (rd t265 1))) + (rd t265 2)))))).bind fun t274 => (if y268.length + t274.length < 140737488355328 then (some (y268 ++ t274)) else (none))) else (none)) else (none)) else (none)) = some r := by first | (rw [hy268]; with_reducible exact H) | (have H2_ := (Option.bind_some _ _).symm.trans H; rw [hy268]; with_reducible exact H2_) | (have H2_ := (Option.bind_some _ _).symm.trans H; with_reducible exact H2_) | with_reducible exact H | (rw [hy268]; exact H) | exact H
 have Ny268 := Aside0.mk hy268
 clear hy268
 by_cases c5 : 0 < (t265.length : Int)
 ·rw [if_pos c5] at H
  have c5b0 : decide (0 < (t265.length : Int)) = true := decide_eq_true c5
  have c5b1 : decide (0 < t265.length) = true := decide_eq_true (by omega)
  clear c5
  by_cases c6 : 1 < (t265.length : Int)
  ·rw [if_pos c6] at H
   have c6b0 : decide (1 < (t265.length : Int)) = true := decide_eq_true c6
   have c6b1 : decide (1 < t265.length) = true := decide_eq_true (by omega)
   clear c6
   by_cases c7 : 2 < (t265.length : Int)
   ·rw [if_pos c7] at H
    have c7b0 : decide (2 < (t265.length : Int)) = true := decide_eq_true c7
    have c7b1 : decide (2 < t265.length) = true := decide_eq_true (by omega)
    clear c7
    replace H := Option.bind_eq_some_iff.mp H
    obtain ⟨t274, A80, H⟩ := H
    replace H : (if y268.length + t274.length < 140737488355328 then (some (y268 ++ t274)) else (none)) = some r := H
    have A8 := Aside0.mk A80
    clear A80
    by_cases c9 : y268.length + t274.length < 140737488355328
    ·rw [if_pos c9] at H
     have LMc9 := Aside0.mk c9
     clear c9
     obtain ⟨y277, hy277⟩ : ∃ y_ : List Int, y_ = (y268 ++ t274) := ⟨_, rfl⟩
     replace H : (some y277) = some r := by first | (rw [hy277]; with_reducible exact H) | (have H2_ := (Option.bind_some _ _).symm.trans H; rw [hy277]; with_reducible exact H2_) | (have H2_ := (Option.bind_some _ _).symm.trans H; with_reducible exact H2_) | with_reducible exact H | (rw [hy277]; exact H) | exact H
     have Ny277 := Aside0.mk hy277
     clear hy277
     obtain rfl := Option.some.inj H
     go_enter Tryz.func10, Tryz.ntmps10
     try go_wp2_with (first | ((with_reducible refine gate_callee (f := 18) rfl ?_); refine goesL_ (some 10) rfl rfl Tryz.func18 (by kernel_rfl) rfl #[.int .i64 a0] rfl q29_ ?_; (with_reducible refine (pyxref22_Numbers.calls a0 t265 _ A4.out).mono ?_); rintro e w10 ⟨v266, rfl, ho0, hb⟩; refine ⟨_, rfl, ?_⟩; have n0_ := Aside0.mk (Kd.V_lower (Kd.V_mono (ok' := fun k_ => True) ho0 (fun k_ hk_ => trivial)) (below_size q30_)); have n1_ := Aside0.mk (below_step q30_ hb); clear HB; have HO267 := n0_; have HB := n1_; clear n0_ n1_; (try clear hb); (try clear hb2); (try clear hk); (try clear hi); (try clear ho0)) | ((with_reducible refine gate_dst (N := 22) rfl ?_); refine Kd.R_lit (Kd.int .u8) _ 5 ?hg (N := 22) ?hd (xs := ([(a1 / 16777216) % 256, (a1 / 65536) % 256, (a1 / 256) % 256, (a1) % 256] : List Int)) (inner := [.int .u8 ((a1 / 16777216) % 256), .int .u8 ((a1 / 65536) % 256), .int .u8 ((a1 / 256) % 256), .int .u8 ((a1) % 256)]) (ok := fun _ => True) (okp := fun _ => True) ?hr ?hp (fun _ hk => hk) trivial (Below.refl _ _) (Nat.le_refl _) (by simp) ?_; (case hd => rfl); (case hg => rfl); (case hr => first | (go_simp; done) | (go_simp; rfl)); (case hp => exact (Reps.one (show Kd.M (Kd.int .u8) _ _ _ ((a1 / 16777216) % 256) [.int .u8 ((a1 / 16777216) % 256)] from rfl) (Reps.one (show Kd.M (Kd.int .u8) _ _ _ ((a1 / 65536) % 256) [.int .u8 ((a1 / 65536) % 256)] from rfl) (Reps.one (show Kd.M (Kd.int .u8) _ _ _ ((a1 / 256) % 256) [.int .u8 ((a1 / 256) % 256)] from rfl) (Reps.one (show Kd.M (Kd.int .u8) _ _ _ ((a1) % 256) [.int .u8 ((a1) % 256)] from rfl) (Reps.none _ _)))))); intro v269 w11 ho12 hb hg_ hnew_; clear hg_ hnew_; (first | rw [← Ny268.out] at ho12 | (simp only [Int.reduceToNat] at ho12; rw [← Ny268.out] at ho12)); have n0_ := Aside0.mk (Kd.V_elder' (by (with_reducible repeat (first | apply Kd.V_alloc | apply Kd.V_drewN | apply Kd.V_drew)); exact HO267.out) (Kd.R_base ho12) hb); have n1_ := Aside0.mk (Kd.R_lower ho12 (below_size q30_)); have n2_ := Aside0.mk (below_step q30_ hb); clear HO267; clear HB; have HO267 := n0_; have HO270 := n1_; have HB := n2_; clear n0_ n1_ n2_; clear hb ho12))
     have n0_ := Aside0.mk (Kd.V_drew HO267.out)
     have n1_ := Aside0.mk (Kd.R_drew HO270.out)
     have n2_ := Aside0.mk (below_drew1 HB.out)
     clear HO267
     clear HO270
     clear HB
     have HO267 := n0_
     have HO270 := n1_
     have HB := n2_
     clear n0_ n1_ n2_
     obtain ⟨Ao14, co14, eo14⟩ := Kd.V_slice HO267.out
     (first | subst eo14 | (injection eo14 with f1_ f2_ f3_; have f4_ := f1_.symm; have f5_ := f3_.symm; clear f1_ f2_ f3_; subst f4_; subst f5_))
     have p271 : 0 ≤ (0 : Int) := (by omega)
     have q271 : 0 < (t265.length : Int) := of_decide_eq_true q63_
     obtain ⟨ad271, e271, hx271_0⟩ := Kd.at_int (Kd.V_reads' HO267.out).2.2 0 p271 q271
     cases e271
     have qi271 : (0 < t265.length) = True := eq_true (by omega)
     (try rw [show ((0 : Int)).toNat = 0 from rfl] at hx271_0)
     (try rw [Addr.add_zero'] at hx271_0)
     replace p271 := eq_true p271
     replace q271 := eq_true q271
     have p272 : 0 ≤ (1 : Int) := (by omega)
     have q272 : 1 < (t265.length : Int) := of_decide_eq_true q63_
     obtain ⟨ad272, e272, hx272_0⟩ := Kd.at_int (Kd.V_reads' HO267.out).2.2 1 p272 q272
     obtain rfl : ad271 = ad272 := (by injection e272)
     (try simp only [show (1 : Int).toNat = 1 from rfl, Nat.reduceMul, Nat.reduceEqDiff, Go.Addr.add, ↓reduceIte] at hx272_0)
     have qi272 : (1 < t265.length) = True := eq_true (by omega)
     (try rw [show ((1 : Int)).toNat = 1 from rfl] at hx272_0)
     replace p272 := eq_true p272
     replace q272 := eq_true q272
     have p273 : 0 ≤ (2 : Int) := (by omega)
     have q273 : 2 < (t265.length : Int) := of_decide_eq_true q63_
     obtain ⟨ad273, e273, hx273_0⟩ := Kd.at_int (Kd.V_reads' HO267.out).2.2 2 p273 q273
     obtain rfl : ad271 = ad273 := (by injection e273)
     (try simp only [show (2 : Int).toNat = 2 from rfl, Nat.reduceMul, Nat.reduceEqDiff, Go.Addr.add, ↓reduceIte] at hx273_0)
     have qi273 : (2 < t265.length) = True := eq_true (by omega)
     (try rw [show ((2 : Int)).toNat = 2 from rfl] at hx273_0)
     replace p273 := eq_true p273
     replace q273 := eq_true q273
     refine start_ (n := 17) (S := fun w' => w'.cell? ad271 = some (.int .i64 (rd t265 0)) ∧ w'.cell? ⟨ad271.block, ad271.off + 1, none⟩ = some (.int .i64 (rd t265 1)) ∧ w'.cell? ⟨ad271.block, ad271.off + 2, none⟩ = some (.int .i64 (rd t265 2))) (ds := [15]) #[false, false, false, false, false, false, false, false, false, false, false, false, false, false, false, false, false] (by kernel_rfl) rfl rfl ⟨hx271_0, hx272_0, hx273_0⟩ (fun hHeld => ?_); refine with_tabW pyxref22_Make.tab3 pyxref22_Make.bits3 (fun HT_ HW_ => ?_)
     generalize w11.drew = w13 at HO267 HO270 HB hx271_0 hx272_0 hx273_0 hHeld ⊢
     refine pu_ 0 (N := some 23) #[true, false, false, false, false, false, false, false, false, false, false, false, false, false, false, false, false] rfl rfl ?_
     refine pu_ 1 (N := some 24) #[true, true, false, false, false, false, false, false, false, false, false, false, false, false, false, false, false] rfl rfl ?_
     refine pu_ 2 (N := some 25) #[true, true, true, false, false, false, false, false, false, false, false, false, false, false, false, false, false] rfl rfl ?_
     refine pu_ 3 (N := some 26) #[true, true, true, true, false, false, false, false, false, false, false, false, false, false, false, false, false] rfl rfl ?_
     refine pu_ 5 (N := some 28) #[true, true, true, true, false, true, false, false, false, false, false, false, false, false, false, false, false] rfl rfl ?_
     refine pu_ 6 (N := some 29) #[true, true, true, true, false, true, true, false, false, false, false, false, false, false, false, false, false] rfl rfl ?_
     refine pu_ 9 (N := some 32) #[true, true, true, true, false, true, true, false, false, true, false, false, false, false, false, false, false] rfl rfl ?_
     refine pu_ 10 (N := some 33) #[true, true, true, true, false, true, true, false, false, true, true, false, false, false, false, false, false] rfl rfl ?_
     refine tk3_ 4 (N := some 27) #[true, true, true, true, true, true, true, false, false, true, true, false, false, false, false, false, false] rfl rfl hHeld ?_
     refine tk3_ 7 (N := some 30) #[true, true, true, true, true, true, true, true, false, true, true, false, false, false, false, false, false] rfl rfl hHeld ?_
     refine pu_ 8 (N := some 31) #[true, true, true, true, true, true, true, true, true, true, true, false, false, false, false, false, false] rfl rfl ?_
     refine tk3_ 11 (N := some 34) #[true, true, true, true, true, true, true, true, true, true, true, true, false, false, false, false, false] rfl rfl hHeld ?_
     refine pu_ 12 (N := some 35) #[true, true, true, true, true, true, true, true, true, true, true, true, true, false, false, false, false] rfl rfl ?_
     refine pu_ 13 (N := some 36) #[true, true, true, true, true, true, true, true, true, true, true, true, true, true, false, false, false] rfl rfl ?_
     refine one_ (i := 14) (N := some 37) #[true, true, true, true, true, true, true, true, true, true, true, true, true, true, true, false, false] rfl rfl (one_of HT_.out (by kernel_rfl)) (by decide) (fun K hK => ?_)
     refine goes_ Tryz.func26 (by kernel_rfl) rfl #[.int .u32 a2, .int .i64 (wrap64 ((rd t265 0) * (wrap64 ((wrap64 (1 + (rd t265 1))) + (rd t265 2)))))] (by rfl) rfl rfl q29_ ?_
     with_reducible refine (pyxref15_Spread.calls k a2 (wrap64 ((rd t265 0) * (wrap64 ((wrap64 (1 + (rd t265 1))) + (rd t265 2))))) t274 _ A8.out).mono ?_
     rintro e w15 ⟨v275, rfl, ho0, hb⟩
     have HS0_ := (hb.cell (World.block_lt_of_cell? _ _ (hHeld.1))).trans (hHeld.1)
     have HS1_ := (hb.cell (World.block_lt_of_cell? _ _ (hHeld.2.1))).trans (hHeld.2.1)
     have HS2_ := (hb.cell (World.block_lt_of_cell? _ _ (hHeld.2.2))).trans (hHeld.2.2)
     refine ⟨_, rfl, ?_⟩
     have n0_ := Aside0.mk (Kd.V_elder' (by (with_reducible repeat (first | apply Kd.V_alloc | apply Kd.V_drewN | apply Kd.V_drew)); exact HO267.out) (Kd.R_base ho0) hb)
     have n1_ := Aside0.mk (Kd.R_elder' (by (with_reducible repeat (first | apply Kd.R_alloc | apply Kd.R_drewN | apply Kd.R_drew)); exact HO270.out) (Kd.R_base ho0) hb)
     have n2_ := Aside0.mk (Kd.R_lower (Kd.R_new' ho0 (Kd.R_lt (by (with_reducible repeat (first | apply Kd.R_alloc | apply Kd.R_drewN | apply Kd.R_drew)); exact HO270.out))) (below_size q30_))
     have n3_ := Aside0.mk (below_step q30_ hb)
     clear HO267
     clear HO270
     clear HB
     have HO267 := n0_
     have HO270 := n1_
     have HO276 := n2_
     have HB := n3_
     clear n0_ n1_ n2_ n3_
     (try clear hb)
     (try clear hb2)
     (try clear hk)
     (try clear hi)
     (try clear ho0)
     obtain ⟨Ao17, co17, eo17⟩ := Kd.R_slice HO276.out
     (first | subst eo17 | (injection eo17 with f1_ f2_ f3_; have f4_ := f1_.symm; have f5_ := f3_.symm; clear f1_ f2_ f3_; subst f4_; subst f5_))
     refine hK.out _ _ ⟨HS0_, HS1_, HS2_⟩ (fun hHeld => ?_)
     clear hK K
     refine norm_ (a' := ?_) ?_ ?_
     rotate_left
     ·show Act.put _ (some 37) _ = _
      simp only [Act.put, List.setIfInBounds_toArray, List.set_cons_zero, List.set_cons_succ, i64_w, i32_w]
      rfl
     refine last_ (i := 15) (N := some 38) #[true, true, true, true, true, true, true, true, true, true, true, true, true, true, true, true, false] rfl rfl (one_of HT_.out (by kernel_rfl)) (by decide) (fun K hK => ?_)
     refine Kd.R_append_rows_step (Kd.int .u8) (w0 := w) w.heap.size (by rfl) (.tmp 23) (.tmp 37) 25 5 (.int .u8 0) 1 rfl Tryz.underlying25 info5 rfl (by decide) (by omega) v269 y268 t274 _ _ _ (fun k_ => some k_ ≠ (.slice Ao17 t274.length co17 : Value).ownBlock) (fun _ => False) rfl rfl ?aO ?aR (fun _ _ h => h) (fun _ h => h.elim) ?aF ?aB ?aS ?aL ?_
     (case aR => repeat (first | exact (Kd.R_reads' HO276.out).2.2 | (with_reducible refine Kd.C_alloc ?_ _) | (with_reducible refine Kd.C_drewN ?_ _) | (with_reducible refine Kd.C_drew ?_)))
     (case aB => exact q30_)
     (case aF => exact (fun k_ hk => Kd.fresh' (Kd.R_lt (by (with_reducible repeat (first | apply Kd.R_alloc | apply Kd.R_drewN | apply Kd.R_drew)); exact HO276.out)) k_ hk))
     (case aO => exact (by (with_reducible repeat (first | apply Kd.R_alloc | apply Kd.R_drewN | apply Kd.R_drew)); exact Kd.R_mono HO270.out (fun _ hk => hk.2)))
     (case aS => exact (below_size q30_))
     (case aL => have := LMc9.out; omega)
     intro v278 w16 ho hb hg hat
     rw [← Ny277.out] at ho
     have n0_ := Aside0.mk (Kd.V_afterv (ok := (fun k_ => some k_ ≠ (.slice Ao17 t274.length co17 : Value).ownBlock)) (by (with_reducible repeat (first | apply Kd.V_alloc | apply Kd.V_drewN | apply Kd.V_drew)); exact Kd.V_mono HO267.out (fun _ hk => ⟨hk.2, hk.1.2⟩)) hg hat)
     have n1_ := Aside0.mk (Kd.R_after (ok := (fun _ => True)) (by (with_reducible repeat (first | apply Kd.R_alloc | apply Kd.R_drewN | apply Kd.R_drew)); exact HO276.out) hg hat)
     have n2_ := Aside0.mk (hb)
     have n3_ := Aside0.mk (ho)
     clear HO267
     clear HO276
     clear HB
     clear HO270
     have HO267 := n0_
     have HO276 := n1_
     have HB := n2_
     have HO279 := n3_
     clear n0_ n1_ n2_ n3_
     clear ho hb hg hat
     refine hK.out _ _ ?_
     clear hK K
     refine norm_ (a' := ?_) ?_ ?_
     rotate_left
     ·show Act.put _ (some 38) _ = _
      simp only [Act.put, List.setIfInBounds_toArray, List.set_cons_zero, List.set_cons_succ, i64_w, i32_w]
      rfl
     refine pu_ 16 (N := some 6) #[true, true, true, true, true, true, true, true, true, true, true, true, true, true, true, true, true] rfl rfl ?_
     refine done_ (done_of HT_.out (by kernel_rfl)) ?_
     try go_wp2
     go_ret
     exact ⟨_, by first | rfl | (simp [errW_none, errW_some] <;> rfl) | (simp [*, errW_none, errW_some] <;> rfl), by (with_reducible repeat (first | apply Kd.R_alloc | apply Kd.R_drewN | apply Kd.R_drew)); exact Kd.R_mono HO279.out (fun _ hk => trivial), by repeat (first | (with_reducible first | exact HB.out | apply below_alloc | apply pw_below_drewN | apply below_drew1) | exact HB.out)⟩
    ·rw [if_neg c9] at H
     exact absurd H (by simp)
   ·rw [if_neg c7] at H
    exact absurd H (by simp)
  ·rw [if_neg c6] at H
   exact absurd H (by simp)
 ·rw [if_neg c5] at H
  exact absurd H (by simp)
def pyxref22_index.f (l0 : List Int) : Option (Int) := if 0 < (l0.length : Int) then (if 1 < (l0.length : Int) then (if 2 < (l0.length : Int) then (if 3 < (l0.length : Int) then (some (wrap64 ((wrap64 ((wrap64 ((wrap64 ((wrap64 (rd l0 0)) * 16777216)) + (wrap64 ((wrap64 (rd l0 1)) * 65536)))) + (wrap64 ((wrap64 (rd l0 2)) * 256)))) + (wrap64 (rd l0 3))))) else (none)) else (none)) else (none)) else (none)
set_option maxHeartbeats 8000000 in
set_option maxRecDepth 100000 in
theorem pyxref22_index.calls (A0 : Option Addr) (c0 : Nat) (l0 : List Int) (r : Int) (w : World) (hr0 : Kd.C (Kd.int .u8) w A0 l0.length l0) (hc0 : l0.length ≤ c0) (h : pyxref22_index.f l0 = some r) :
  Calls Tryz.prog 30 #[.slice A0 l0.length c0] w fun e w' => e = .returned (.int .i64 r) ∧ Drawn0 w w' := by
 have HR0 := Aside0.mk hr0
 have HC0 := Aside0.mk hc0
 clear hr0 hc0
 have H : (if 0 < (l0.length : Int) then (if 1 < (l0.length : Int) then (if 2 < (l0.length : Int) then (if 3 < (l0.length : Int) then (some (wrap64 ((wrap64 ((wrap64 ((wrap64 ((wrap64 (rd l0 0)) * 16777216)) + (wrap64 ((wrap64 (rd l0 1)) * 65536)))) + (wrap64 ((wrap64 (rd l0 2)) * 256)))) + (wrap64 (rd l0 3))))) else (none)) else (none)) else (none)) else (none)) = some r := h
 clear h
 by_cases c2 : 0 < (l0.length : Int)
 ·rw [if_pos c2] at H
  have c2b0 : decide (0 < (l0.length : Int)) = true := decide_eq_true c2
  have c2b1 : decide (0 < l0.length) = true := decide_eq_true (by omega)
  clear c2
  by_cases c3 : 1 < (l0.length : Int)
  ·rw [if_pos c3] at H
   have c3b0 : decide (1 < (l0.length : Int)) = true := decide_eq_true c3
   have c3b1 : decide (1 < l0.length) = true := decide_eq_true (by omega)
   clear c3
   by_cases c4 : 2 < (l0.length : Int)
   ·rw [if_pos c4] at H
    have c4b0 : decide (2 < (l0.length : Int)) = true := decide_eq_true c4
    have c4b1 : decide (2 < l0.length) = true := decide_eq_true (by omega)
    clear c4
    by_cases c5 : 3 < (l0.length : Int)
    ·rw [if_pos c5] at H
     have c5b0 : decide (3 < (l0.length : Int)) = true := decide_eq_true c5
     have c5b1 : decide (3 < l0.length) = true := decide_eq_true (by omega)
     clear c5
     obtain rfl := Option.some.inj H
     have p280 : 0 ≤ (0 : Int) := (by omega)
     have q280 : 0 < (l0.length : Int) := of_decide_eq_true q63_
     obtain ⟨ad280, e280, hx280_0⟩ := Kd.at_int HR0.out 0 p280 q280
     cases e280
     have qi280 : (0 < l0.length) = True := eq_true (by omega)
     (try rw [show ((0 : Int)).toNat = 0 from rfl] at hx280_0)
     (try rw [Addr.add_zero'] at hx280_0)
     replace p280 := eq_true p280
     replace q280 := eq_true q280
     have p281 : 0 ≤ (1 : Int) := (by omega)
     have q281 : 1 < (l0.length : Int) := of_decide_eq_true q63_
     obtain ⟨ad281, e281, hx281_0⟩ := Kd.at_int HR0.out 1 p281 q281
     obtain rfl : ad280 = ad281 := (by injection e281)
     (try simp only [show (1 : Int).toNat = 1 from rfl, Nat.reduceMul, Nat.reduceEqDiff, Go.Addr.add, ↓reduceIte] at hx281_0)
     have qi281 : (1 < l0.length) = True := eq_true (by omega)
     (try rw [show ((1 : Int)).toNat = 1 from rfl] at hx281_0)
     replace p281 := eq_true p281
     replace q281 := eq_true q281
     have p282 : 0 ≤ (2 : Int) := (by omega)
     have q282 : 2 < (l0.length : Int) := of_decide_eq_true q63_
     obtain ⟨ad282, e282, hx282_0⟩ := Kd.at_int HR0.out 2 p282 q282
     obtain rfl : ad280 = ad282 := (by injection e282)
     (try simp only [show (2 : Int).toNat = 2 from rfl, Nat.reduceMul, Nat.reduceEqDiff, Go.Addr.add, ↓reduceIte] at hx282_0)
     have qi282 : (2 < l0.length) = True := eq_true (by omega)
     (try rw [show ((2 : Int)).toNat = 2 from rfl] at hx282_0)
     replace p282 := eq_true p282
     replace q282 := eq_true q282
     have p283 : 0 ≤ (3 : Int) := (by omega)
     have q283 : 3 < (l0.length : Int) := of_decide_eq_true q63_
     obtain ⟨ad283, e283, hx283_0⟩ := Kd.at_int HR0.out 3 p283 q283
     obtain rfl : ad280 = ad283 := (by injection e283)
     (try simp only [show (3 : Int).toNat = 3 from rfl, Nat.reduceMul, Nat.reduceEqDiff, Go.Addr.add, ↓reduceIte] at hx283_0)
     have qi283 : (3 < l0.length) = True := eq_true (by omega)
     (try rw [show ((3 : Int)).toNat = 3 from rfl] at hx283_0)
     replace p283 := eq_true p283
     replace q283 := eq_true q283
     go_enter Tryz.func30, Tryz.ntmps30
     go_wp2
     repeat (go_quiet (fail); try go_wp2)
     go_ret
     exact ⟨by first | rfl | (simp; done) | (simp [*]; done), by repeat (first | exact Drawn0.refl _ | apply Drawn0.step)⟩
    ·rw [if_neg c5] at H
     exact absurd H (by simp)
   ·rw [if_neg c4] at H
    exact absurd H (by simp)
  ·rw [if_neg c3] at H
   exact absurd H (by simp)
 ·rw [if_neg c2] at H
  exact absurd H (by simp)
def pyxref22_Signature.l0 : Nat → List Int → Int → Option (Int × Int × Int)
 | 0, _, _ => none
 | k + 1, x0, x4 => if x4 ≤ 25 then ((pyxref22_Numbers.f x4).bind fun t285 => (if 0 < (t285.length : Int) then (if 1 < (t285.length : Int) then (if 2 < (t285.length : Int) then (if (x0.length : Int) = (wrap64 (4 + (wrap64 ((rd t285 0) * (wrap64 ((wrap64 (1 + (rd t285 1))) + (rd t285 2))))))) then ((pyxref22_index.f x0).bind fun t291 => (if 0 ≤ (IntKind.u64.wrap (rd t285 1)) then (if t291 ≥ (shl .i64 1 (IntKind.u64.wrap (rd t285 1))) then (some (0, 9, 0)) else (some (x4, 0, 0))) else (none))) else (pyxref22_Signature.l0 k x0 (wrap64 (x4 + 1)))) else (none)) else (none)) else (none))) else (some (0, 6, 0))
def pyxref22_Signature.f (k : Nat) (l0 : List Int) : Option (Int × Int × Int) := pyxref22_Signature.l0 k l0 20
set_option maxHeartbeats 8000000 in
set_option maxRecDepth 100000 in
theorem pyxref22_Signature.calls (k : Nat) (A0 : Option Addr) (c0 : Nat) (l0 : List Int) (r1 : Int) (r2 : Int) (r3 : Int) (w : World) (hr0 : Kd.C (Kd.int .u8) w A0 l0.length l0) (hc0 : l0.length ≤ c0) (h : pyxref22_Signature.f k l0 = some (r1, r2, r3)) :
  Calls Tryz.prog 13 #[.slice A0 l0.length c0] w fun e w' => e = .returned (.tuple #[.int .i64 r1, .agg #[.int .i64 r2, .int .i64 r3]]) ∧ Below w.heap.size w w' := by
 have hu34 := Tryz.underlying34
 have HR0 := Aside0.mk hr0
 have HC0 := Aside0.mk hc0
 clear hr0 hc0
 have HB := Aside0.mk (Below.refl w.heap.size w)
 have H : (pyxref22_Signature.l0 k l0 20) = some (r1, r2, r3) := h
 clear h
 have H' := Aside0.mk H
 clear H
 go_enter Tryz.func13, Tryz.ntmps13
 go_wp2_with (first | ((with_reducible refine gate_dst (N := 3) rfl ?_); refine box_event ?hg (N := 3) ?hd (cs := #[.int .i64 0, .int .i64 0]) (t := 34) ?hr ?_; (case hd => rfl); (case hg => rfl); (case hr => first | (go_simp; done) | (go_simp; rfl)); intro gb284 hg w2 hbox hb; have n0_ := Aside0.mk (below_step q30_ hb); have n1_ := Aside0.mk (hbox); have n2_ := Aside0.mk ((by rw [hg]; exact (below_size q30_) : w.heap.size ≤ gb284)); have n3_ := Aside0.mk ((by rw [hg]; exact (below_size q30_) : w.heap.size ≤ gb284)); clear HB; have HB := n0_; have BK284 := n1_; have GW284 := n2_; have GE284 := n3_; clear n0_ n1_ n2_ n3_; clear hb hbox hg))
 repeat (go_quiet (first | ((with_reducible refine gate_dst (N := 3) rfl ?_); refine box_event ?hg (N := 3) ?hd (cs := #[.int .i64 0, .int .i64 0]) (t := 34) ?hr ?_; (case hd => rfl); (case hg => rfl); (case hr => first | (go_simp; done) | (go_simp; rfl)); intro gb284 hg w2 hbox hb; have n0_ := Aside0.mk (below_step q30_ hb); have n1_ := Aside0.mk (hbox); have n2_ := Aside0.mk ((by rw [hg]; exact (below_size q30_) : w.heap.size ≤ gb284)); have n3_ := Aside0.mk ((by rw [hg]; exact (below_size q30_) : w.heap.size ≤ gb284)); clear HB; have HB := n0_; have BK284 := n1_; have GW284 := n2_; have GE284 := n3_; clear n0_ n1_ n2_ n3_; clear hb hbox hg)); try go_wp2_with (first | ((with_reducible refine gate_dst (N := 3) rfl ?_); refine box_event ?hg (N := 3) ?hd (cs := #[.int .i64 0, .int .i64 0]) (t := 34) ?hr ?_; (case hd => rfl); (case hg => rfl); (case hr => first | (go_simp; done) | (go_simp; rfl)); intro gb284 hg w2 hbox hb; have n0_ := Aside0.mk (below_step q30_ hb); have n1_ := Aside0.mk (hbox); have n2_ := Aside0.mk ((by rw [hg]; exact (below_size q30_) : w.heap.size ≤ gb284)); have n3_ := Aside0.mk ((by rw [hg]; exact (below_size q30_) : w.heap.size ≤ gb284)); clear HB; have HB := n0_; have BK284 := n1_; have GW284 := n2_; have GE284 := n3_; clear n0_ n1_ n2_ n3_; clear hb hbox hg)))
 go_loopg [4] k (fun kq v4 w' => ∃ (x4_1 : Int) (x285000_1 : Int) (x285001_1 : Int), v4 = .int .i64 x4_1 ∧ Aside0 (pyxref22_Signature.l0 kq l0 x4_1 = some (r1, r2, r3)) ∧ Aside0 (kq ≤ k) ∧ Aside0 (w'.heap[gb284]? = some (.cells #[.int .i64 x285000_1, .int .i64 x285001_1] 34 (0, 0))) ∧ Aside0 (Below w.heap.size w w'))
 case atStart => exact ⟨(20), (0), (0), q64_, H', ⟨Nat.le_refl _⟩, ⟨by (with_reducible repeat (first | refine blk_drewN ?_ _ | refine blk_drew ?_ | refine blk_alloc ?_ _)); exact BK284.out⟩, ⟨by repeat (first | (with_reducible first | exact HB.out | apply below_alloc | apply pw_below_drewN | apply below_drew1 | refine below_set ?_ GE284.out) | exact HB.out)⟩⟩
 case round =>
  clear H'
  try clear c1
  try clear p2
  obtain ⟨x4_1, x285000_1, x285001_1, rfl, HA, HK1, BK284, HB⟩ := hrel
  cases gk with
  | zero => exact absurd HA.out (by simp [pyxref22_Signature.l0])
  | succ k1 =>
   have H := HA.out
   clear HA
   simp only [pyxref22_Signature.l0] at H
   by_cases c3 : x4_1 ≤ 25
   ·rw [if_pos c3] at H
    have c3b0 : decide (x4_1 ≤ 25) = true := decide_eq_true c3
    clear c3
    replace H := Option.bind_eq_some_iff.mp H
    obtain ⟨t285, A40, H⟩ := H
    replace H : (if 0 < (t285.length : Int) then (if 1 < (t285.length : Int) then (if 2 < (t285.length : Int) then (if (l0.length : Int) = (wrap64 (4 + (wrap64 ((rd t285 0) * (wrap64 ((wrap64 (1 + (rd t285 1))) + (rd t285 2))))))) then ((pyxref22_index.f l0).bind fun t291 => (if 0 ≤ (IntKind.u64.wrap (rd t285 1)) then (if t291 ≥ (shl .i64 1 (IntKind.u64.wrap (rd t285 1))) then (some (0, 9, 0)) else (some (x4_1, 0, 0))) else (none))) else (pyxref22_Signature.l0 k1 l0 (wrap64 (x4_1 + 1)))) else (none)) else (none)) else (none)) = some (r1, r2, r3) := H
    have A4 := Aside0.mk A40
    clear A40
    by_cases c5 : 0 < (t285.length : Int)
    ·rw [if_pos c5] at H
     have c5b0 : decide (0 < (t285.length : Int)) = true := decide_eq_true c5
     have c5b1 : decide (0 < t285.length) = true := decide_eq_true (by omega)
     clear c5
     by_cases c6 : 1 < (t285.length : Int)
     ·rw [if_pos c6] at H
      have c6b0 : decide (1 < (t285.length : Int)) = true := decide_eq_true c6
      have c6b1 : decide (1 < t285.length) = true := decide_eq_true (by omega)
      clear c6
      by_cases c7 : 2 < (t285.length : Int)
      ·rw [if_pos c7] at H
       have c7b0 : decide (2 < (t285.length : Int)) = true := decide_eq_true c7
       have c7b1 : decide (2 < t285.length) = true := decide_eq_true (by omega)
       clear c7
       by_cases c8 : (l0.length : Int) = (wrap64 (4 + (wrap64 ((rd t285 0) * (wrap64 ((wrap64 (1 + (rd t285 1))) + (rd t285 2)))))))
       ·rw [if_pos c8] at H
        have c8b0 : ((l0.length : Int) == (wrap64 (4 + (wrap64 ((rd t285 0) * (wrap64 ((wrap64 (1 + (rd t285 1))) + (rd t285 2)))))))) = true := beq_iff_eq.mpr c8
        have c8b1 : ((l0.length : Int) != (wrap64 (4 + (wrap64 ((rd t285 0) * (wrap64 ((wrap64 (1 + (rd t285 1))) + (rd t285 2)))))))) = false := bne_eq_false_iff_eq.mpr c8
        clear c8
        replace H := Option.bind_eq_some_iff.mp H
        obtain ⟨t291, A90, H⟩ := H
        replace H : (if 0 ≤ (IntKind.u64.wrap (rd t285 1)) then (if t291 ≥ (shl .i64 1 (IntKind.u64.wrap (rd t285 1))) then (some (0, 9, 0)) else (some (x4_1, 0, 0))) else (none)) = some (r1, r2, r3) := H
        have A9 := Aside0.mk A90
        clear A90
        obtain ⟨ji10, hji10⟩ : ∃ j_ : Int, (IntKind.u64.wrap (rd t285 1)) = j_ := ⟨_, rfl⟩
        replace H : (if 0 ≤ (ji10) then (if t291 ≥ (shl .i64 1 (ji10)) then (some (0, 9, 0)) else (some (x4_1, 0, 0))) else (none)) = some (r1, r2, r3) := by first | (rw [hji10] at H; exact H) | (simp only [hji10] at H ⊢; exact H)
        (try rw [hji10] at A4)
        (try rw [hji10] at A9)
        by_cases c11 : 0 ≤ (ji10)
        ·rw [if_pos c11] at H
         have c11b0 := eq_true c11
         have c11b1 : decide (0 ≤ (ji10)) = true := decide_eq_true c11
         clear c11
         obtain ⟨ji12, hji12⟩ : ∃ j_ : Int, (shl .i64 1 (ji10)) = j_ := ⟨_, rfl⟩
         replace H : (if t291 ≥ (ji12) then (some (0, 9, 0)) else (some (x4_1, 0, 0))) = some (r1, r2, r3) := by first | (rw [hji12] at H; exact H) | (simp only [hji12] at H ⊢; exact H)
         (try rw [hji12] at A4)
         (try rw [hji12] at A9)
         have hji12_ : (IntKind.i64.wrap (1 * 2 ^ min (ji10).toNat 64)) = ji12 := hji12
         have hji12z : (ji10) ≤ 64 → (IntKind.i64.wrap (1 * 2 ^ (ji10).toNat)) = ji12 := shl_small hji12
         have hji12u : (IntKind.i64.wrap (2 ^ min (ji10).toNat 64)) = ji12 := by have h_ := hji12_; rw [Int.one_mul] at h_; exact h_
         have hji12v : (ji10) ≤ 64 → (IntKind.i64.wrap (2 ^ (ji10).toNat)) = ji12 := fun hle_ => by have h_ := hji12z hle_; rw [Int.one_mul] at h_; exact h_
         have hji12y : (wrap64 (1 * 2 ^ min (ji10).toNat 64)) = ji12 := (i64_w _).symm.trans hji12_
         have hji12x : (ji10) ≤ 64 → (wrap64 (1 * 2 ^ (ji10).toNat)) = ji12 := fun h_ => (i64_w _).symm.trans (hji12z h_)
         by_cases c13 : t291 ≥ (ji12)
         ·rw [if_pos c13] at H
          have c13b0 : decide ((ji12) ≤ t291) = true := decide_eq_true c13
          clear c13
          simp only [Option.some.injEq, Prod.mk.injEq] at H
          obtain ⟨rfl, rfl, rfl⟩ := H
          go_wp2_with (first | (go_at_call 18; (with_reducible refine (pyxref22_Numbers.calls x4_1 t285 _ A4.out).mono ?_); rintro e w14 ⟨v286, rfl, ho0, hb⟩; have n0_ := Aside0.mk (Kd.V_lower (Kd.V_mono (ok' := fun k_ => k_ ≠ gb284) ho0 (fun k_ hk_ => (Kd.freshB (g := gb284) (o := .cells #[.int .i64 x285000_1, .int .i64 x285001_1] 34 (0, 0)) q36_ k_ hk_))) (below_size q24_)); have n1_ := Aside0.mk (blk_below (g := gb284) (o := .cells #[.int .i64 x285000_1, .int .i64 x285001_1] 34 (0, 0)) q36_ hb); have n2_ := Aside0.mk (below_step q24_ hb); clear BK284; clear HB; have HO287 := n0_; have BK284 := n1_; have HB := n2_; clear n0_ n1_ n2_; (try clear hb); (try clear hb2); (try clear hk); (try clear hi); (try clear ho0); obtain ⟨Ao15, co15, eo15⟩ := Kd.V_slice HO287.out; subst eo15; have p288 : 0 ≤ (0 : Int) := (by omega); have q288 : 0 < (t285.length : Int) := of_decide_eq_true q63_; obtain ⟨ad288, e288, hx288_0⟩ := Kd.at_int (Kd.V_reads' HO287.out).2.2 0 p288 q288; cases e288; have qi288 : (0 < t285.length) = True := eq_true (by omega); (try rw [show ((0 : Int)).toNat = 0 from rfl] at hx288_0); (try rw [Addr.add_zero'] at hx288_0); replace p288 := eq_true p288; replace q288 := eq_true q288; have p289 : 0 ≤ (1 : Int) := (by omega); have q289 : 1 < (t285.length : Int) := of_decide_eq_true q63_; obtain ⟨ad289, e289, hx289_0⟩ := Kd.at_int (Kd.V_reads' HO287.out).2.2 1 p289 q289; obtain rfl : ad288 = ad289 := (by injection e289); (try simp only [show (1 : Int).toNat = 1 from rfl, Nat.reduceMul, Nat.reduceEqDiff, Go.Addr.add, ↓reduceIte] at hx289_0); have qi289 : (1 < t285.length) = True := eq_true (by omega); (try rw [show ((1 : Int)).toNat = 1 from rfl] at hx289_0); replace p289 := eq_true p289; replace q289 := eq_true q289; have p290 : 0 ≤ (2 : Int) := (by omega); have q290 : 2 < (t285.length : Int) := of_decide_eq_true q63_; obtain ⟨ad290, e290, hx290_0⟩ := Kd.at_int (Kd.V_reads' HO287.out).2.2 2 p290 q290; obtain rfl : ad288 = ad290 := (by injection e290); (try simp only [show (2 : Int).toNat = 2 from rfl, Nat.reduceMul, Nat.reduceEqDiff, Go.Addr.add, ↓reduceIte] at hx290_0); have qi290 : (2 < t285.length) = True := eq_true (by omega); (try rw [show ((2 : Int)).toNat = 2 from rfl] at hx290_0); replace p290 := eq_true p290; replace q290 := eq_true q290) | (go_at_call 30; (with_reducible refine (pyxref22_index.calls _ _ l0 t291 _ ?side1 ?side2 A9.out).mono ?_); (case side1 => repeat (first | exact (Kd.C_below HR0.out HB.out) | (with_reducible refine Kd.C_alloc ?_ _) | (with_reducible refine Kd.C_drewN ?_ _) | (with_reducible refine Kd.C_drew ?_))); (case side2 => exact HC0.out); rintro e w' ⟨rfl, ⟨nd, rfl⟩⟩; (try first | exact ⟨rfl, _, World.drewN_drewN _ _ _⟩ | exact ⟨rfl, _, Eq.trans (World.drewN_drewN _ _ _) (congrArg (World.drewN _) (Nat.add_assoc _ _ _))⟩); have p292 : 0 ≤ (1 : Int) := (by omega); have q292 : 1 < (t285.length : Int) := of_decide_eq_true q63_; obtain ⟨ad292, e292, hx292_0⟩ := Kd.at_int (Kd.V_reads' HO287.out).2.2 1 p292 q292; obtain rfl : ad288 = ad292 := (by injection e292); (try simp only [show (1 : Int).toNat = 1 from rfl, Nat.reduceMul, Nat.reduceEqDiff, Go.Addr.add, ↓reduceIte] at hx292_0); have qi292 : (1 < t285.length) = True := eq_true (by omega); (try rw [show ((1 : Int)).toNat = 1 from rfl] at hx292_0); replace p292 := eq_true p292; replace q292 := eq_true q292; obtain ⟨hcz16_0, hcz16_1⟩ := cells2_ BK284.out; obtain ⟨hfz16_0, hfz16_1⟩ := frz2_ BK284.out))
          repeat (go_quiet (first | (go_at_call 18; (with_reducible refine (pyxref22_Numbers.calls x4_1 t285 _ A4.out).mono ?_); rintro e w14 ⟨v286, rfl, ho0, hb⟩; have n0_ := Aside0.mk (Kd.V_lower (Kd.V_mono (ok' := fun k_ => k_ ≠ gb284) ho0 (fun k_ hk_ => (Kd.freshB (g := gb284) (o := .cells #[.int .i64 x285000_1, .int .i64 x285001_1] 34 (0, 0)) q36_ k_ hk_))) (below_size q24_)); have n1_ := Aside0.mk (blk_below (g := gb284) (o := .cells #[.int .i64 x285000_1, .int .i64 x285001_1] 34 (0, 0)) q36_ hb); have n2_ := Aside0.mk (below_step q24_ hb); clear BK284; clear HB; have HO287 := n0_; have BK284 := n1_; have HB := n2_; clear n0_ n1_ n2_; (try clear hb); (try clear hb2); (try clear hk); (try clear hi); (try clear ho0); obtain ⟨Ao15, co15, eo15⟩ := Kd.V_slice HO287.out; subst eo15; have p288 : 0 ≤ (0 : Int) := (by omega); have q288 : 0 < (t285.length : Int) := of_decide_eq_true q63_; obtain ⟨ad288, e288, hx288_0⟩ := Kd.at_int (Kd.V_reads' HO287.out).2.2 0 p288 q288; cases e288; have qi288 : (0 < t285.length) = True := eq_true (by omega); (try rw [show ((0 : Int)).toNat = 0 from rfl] at hx288_0); (try rw [Addr.add_zero'] at hx288_0); replace p288 := eq_true p288; replace q288 := eq_true q288; have p289 : 0 ≤ (1 : Int) := (by omega); have q289 : 1 < (t285.length : Int) := of_decide_eq_true q63_; obtain ⟨ad289, e289, hx289_0⟩ := Kd.at_int (Kd.V_reads' HO287.out).2.2 1 p289 q289; obtain rfl : ad288 = ad289 := (by injection e289); (try simp only [show (1 : Int).toNat = 1 from rfl, Nat.reduceMul, Nat.reduceEqDiff, Go.Addr.add, ↓reduceIte] at hx289_0); have qi289 : (1 < t285.length) = True := eq_true (by omega); (try rw [show ((1 : Int)).toNat = 1 from rfl] at hx289_0); replace p289 := eq_true p289; replace q289 := eq_true q289; have p290 : 0 ≤ (2 : Int) := (by omega); have q290 : 2 < (t285.length : Int) := of_decide_eq_true q63_; obtain ⟨ad290, e290, hx290_0⟩ := Kd.at_int (Kd.V_reads' HO287.out).2.2 2 p290 q290; obtain rfl : ad288 = ad290 := (by injection e290); (try simp only [show (2 : Int).toNat = 2 from rfl, Nat.reduceMul, Nat.reduceEqDiff, Go.Addr.add, ↓reduceIte] at hx290_0); have qi290 : (2 < t285.length) = True := eq_true (by omega); (try rw [show ((2 : Int)).toNat = 2 from rfl] at hx290_0); replace p290 := eq_true p290; replace q290 := eq_true q290) | (go_at_call 30; (with_reducible refine (pyxref22_index.calls _ _ l0 t291 _ ?side1 ?side2 A9.out).mono ?_); (case side1 => repeat (first | exact (Kd.C_below HR0.out HB.out) | (with_reducible refine Kd.C_alloc ?_ _) | (with_reducible refine Kd.C_drewN ?_ _) | (with_reducible refine Kd.C_drew ?_))); (case side2 => exact HC0.out); rintro e w' ⟨rfl, ⟨nd, rfl⟩⟩; (try first | exact ⟨rfl, _, World.drewN_drewN _ _ _⟩ | exact ⟨rfl, _, Eq.trans (World.drewN_drewN _ _ _) (congrArg (World.drewN _) (Nat.add_assoc _ _ _))⟩); have p292 : 0 ≤ (1 : Int) := (by omega); have q292 : 1 < (t285.length : Int) := of_decide_eq_true q63_; obtain ⟨ad292, e292, hx292_0⟩ := Kd.at_int (Kd.V_reads' HO287.out).2.2 1 p292 q292; obtain rfl : ad288 = ad292 := (by injection e292); (try simp only [show (1 : Int).toNat = 1 from rfl, Nat.reduceMul, Nat.reduceEqDiff, Go.Addr.add, ↓reduceIte] at hx292_0); have qi292 : (1 < t285.length) = True := eq_true (by omega); (try rw [show ((1 : Int)).toNat = 1 from rfl] at hx292_0); replace p292 := eq_true p292; replace q292 := eq_true q292; obtain ⟨hcz16_0, hcz16_1⟩ := cells2_ BK284.out; obtain ⟨hfz16_0, hfz16_1⟩ := frz2_ BK284.out)); try go_wp2_with (first | (go_at_call 18; (with_reducible refine (pyxref22_Numbers.calls x4_1 t285 _ A4.out).mono ?_); rintro e w14 ⟨v286, rfl, ho0, hb⟩; have n0_ := Aside0.mk (Kd.V_lower (Kd.V_mono (ok' := fun k_ => k_ ≠ gb284) ho0 (fun k_ hk_ => (Kd.freshB (g := gb284) (o := .cells #[.int .i64 x285000_1, .int .i64 x285001_1] 34 (0, 0)) q36_ k_ hk_))) (below_size q24_)); have n1_ := Aside0.mk (blk_below (g := gb284) (o := .cells #[.int .i64 x285000_1, .int .i64 x285001_1] 34 (0, 0)) q36_ hb); have n2_ := Aside0.mk (below_step q24_ hb); clear BK284; clear HB; have HO287 := n0_; have BK284 := n1_; have HB := n2_; clear n0_ n1_ n2_; (try clear hb); (try clear hb2); (try clear hk); (try clear hi); (try clear ho0); obtain ⟨Ao15, co15, eo15⟩ := Kd.V_slice HO287.out; subst eo15; have p288 : 0 ≤ (0 : Int) := (by omega); have q288 : 0 < (t285.length : Int) := of_decide_eq_true q63_; obtain ⟨ad288, e288, hx288_0⟩ := Kd.at_int (Kd.V_reads' HO287.out).2.2 0 p288 q288; cases e288; have qi288 : (0 < t285.length) = True := eq_true (by omega); (try rw [show ((0 : Int)).toNat = 0 from rfl] at hx288_0); (try rw [Addr.add_zero'] at hx288_0); replace p288 := eq_true p288; replace q288 := eq_true q288; have p289 : 0 ≤ (1 : Int) := (by omega); have q289 : 1 < (t285.length : Int) := of_decide_eq_true q63_; obtain ⟨ad289, e289, hx289_0⟩ := Kd.at_int (Kd.V_reads' HO287.out).2.2 1 p289 q289; obtain rfl : ad288 = ad289 := (by injection e289); (try simp only [show (1 : Int).toNat = 1 from rfl, Nat.reduceMul, Nat.reduceEqDiff, Go.Addr.add, ↓reduceIte] at hx289_0); have qi289 : (1 < t285.length) = True := eq_true (by omega); (try rw [show ((1 : Int)).toNat = 1 from rfl] at hx289_0); replace p289 := eq_true p289; replace q289 := eq_true q289; have p290 : 0 ≤ (2 : Int) := (by omega); have q290 : 2 < (t285.length : Int) := of_decide_eq_true q63_; obtain ⟨ad290, e290, hx290_0⟩ := Kd.at_int (Kd.V_reads' HO287.out).2.2 2 p290 q290; obtain rfl : ad288 = ad290 := (by injection e290); (try simp only [show (2 : Int).toNat = 2 from rfl, Nat.reduceMul, Nat.reduceEqDiff, Go.Addr.add, ↓reduceIte] at hx290_0); have qi290 : (2 < t285.length) = True := eq_true (by omega); (try rw [show ((2 : Int)).toNat = 2 from rfl] at hx290_0); replace p290 := eq_true p290; replace q290 := eq_true q290) | (go_at_call 30; (with_reducible refine (pyxref22_index.calls _ _ l0 t291 _ ?side1 ?side2 A9.out).mono ?_); (case side1 => repeat (first | exact (Kd.C_below HR0.out HB.out) | (with_reducible refine Kd.C_alloc ?_ _) | (with_reducible refine Kd.C_drewN ?_ _) | (with_reducible refine Kd.C_drew ?_))); (case side2 => exact HC0.out); rintro e w' ⟨rfl, ⟨nd, rfl⟩⟩; (try first | exact ⟨rfl, _, World.drewN_drewN _ _ _⟩ | exact ⟨rfl, _, Eq.trans (World.drewN_drewN _ _ _) (congrArg (World.drewN _) (Nat.add_assoc _ _ _))⟩); have p292 : 0 ≤ (1 : Int) := (by omega); have q292 : 1 < (t285.length : Int) := of_decide_eq_true q63_; obtain ⟨ad292, e292, hx292_0⟩ := Kd.at_int (Kd.V_reads' HO287.out).2.2 1 p292 q292; obtain rfl : ad288 = ad292 := (by injection e292); (try simp only [show (1 : Int).toNat = 1 from rfl, Nat.reduceMul, Nat.reduceEqDiff, Go.Addr.add, ↓reduceIte] at hx292_0); have qi292 : (1 < t285.length) = True := eq_true (by omega); (try rw [show ((1 : Int)).toNat = 1 from rfl] at hx292_0); replace p292 := eq_true p292; replace q292 := eq_true q292; obtain ⟨hcz16_0, hcz16_1⟩ := cells2_ BK284.out; obtain ⟨hfz16_0, hfz16_1⟩ := frz2_ BK284.out)))
          refine bodyPost_ret (results_tc rfl _ _ gb284 34 #[.int .i64 9, .int .i64 0] (0, 0) _ rfl q32_ Tryz.underlying34 rfl (by kernel_rfl)) rfl ?_
          exact ⟨by first | rfl | (simp [errW_none, errW_some] <;> rfl) | (simp only [← hji10, ← hji12]; first | rfl | (simp [errW_none, errW_some] <;> rfl)) | (simp [*, errW_none, errW_some] <;> rfl), by repeat (first | (with_reducible first | exact HB.out | apply below_alloc | apply pw_below_drewN | apply below_drew1 | refine below_set ?_ GE284.out) | exact HB.out)⟩
         ·rw [if_neg c13] at H
          have c13b0 : decide ((ji12) ≤ t291) = false := decide_eq_false c13
          clear c13
          simp only [Option.some.injEq, Prod.mk.injEq] at H
          obtain ⟨rfl, rfl, rfl⟩ := H
          go_wp2_with (first | (go_at_call 18; (with_reducible refine (pyxref22_Numbers.calls x4_1 t285 _ A4.out).mono ?_); rintro e w17 ⟨v286, rfl, ho0, hb⟩; have n0_ := Aside0.mk (Kd.V_lower (Kd.V_mono (ok' := fun k_ => k_ ≠ gb284) ho0 (fun k_ hk_ => (Kd.freshB (g := gb284) (o := .cells #[.int .i64 x285000_1, .int .i64 x285001_1] 34 (0, 0)) q36_ k_ hk_))) (below_size q24_)); have n1_ := Aside0.mk (blk_below (g := gb284) (o := .cells #[.int .i64 x285000_1, .int .i64 x285001_1] 34 (0, 0)) q36_ hb); have n2_ := Aside0.mk (below_step q24_ hb); clear BK284; clear HB; have HO287 := n0_; have BK284 := n1_; have HB := n2_; clear n0_ n1_ n2_; (try clear hb); (try clear hb2); (try clear hk); (try clear hi); (try clear ho0); obtain ⟨Ao18, co18, eo18⟩ := Kd.V_slice HO287.out; subst eo18; have p288 : 0 ≤ (0 : Int) := (by omega); have q288 : 0 < (t285.length : Int) := of_decide_eq_true q63_; obtain ⟨ad288, e288, hx288_0⟩ := Kd.at_int (Kd.V_reads' HO287.out).2.2 0 p288 q288; cases e288; have qi288 : (0 < t285.length) = True := eq_true (by omega); (try rw [show ((0 : Int)).toNat = 0 from rfl] at hx288_0); (try rw [Addr.add_zero'] at hx288_0); replace p288 := eq_true p288; replace q288 := eq_true q288; have p289 : 0 ≤ (1 : Int) := (by omega); have q289 : 1 < (t285.length : Int) := of_decide_eq_true q63_; obtain ⟨ad289, e289, hx289_0⟩ := Kd.at_int (Kd.V_reads' HO287.out).2.2 1 p289 q289; obtain rfl : ad288 = ad289 := (by injection e289); (try simp only [show (1 : Int).toNat = 1 from rfl, Nat.reduceMul, Nat.reduceEqDiff, Go.Addr.add, ↓reduceIte] at hx289_0); have qi289 : (1 < t285.length) = True := eq_true (by omega); (try rw [show ((1 : Int)).toNat = 1 from rfl] at hx289_0); replace p289 := eq_true p289; replace q289 := eq_true q289; have p290 : 0 ≤ (2 : Int) := (by omega); have q290 : 2 < (t285.length : Int) := of_decide_eq_true q63_; obtain ⟨ad290, e290, hx290_0⟩ := Kd.at_int (Kd.V_reads' HO287.out).2.2 2 p290 q290; obtain rfl : ad288 = ad290 := (by injection e290); (try simp only [show (2 : Int).toNat = 2 from rfl, Nat.reduceMul, Nat.reduceEqDiff, Go.Addr.add, ↓reduceIte] at hx290_0); have qi290 : (2 < t285.length) = True := eq_true (by omega); (try rw [show ((2 : Int)).toNat = 2 from rfl] at hx290_0); replace p290 := eq_true p290; replace q290 := eq_true q290) | (go_at_call 30; (with_reducible refine (pyxref22_index.calls _ _ l0 t291 _ ?side1 ?side2 A9.out).mono ?_); (case side1 => repeat (first | exact (Kd.C_below HR0.out HB.out) | (with_reducible refine Kd.C_alloc ?_ _) | (with_reducible refine Kd.C_drewN ?_ _) | (with_reducible refine Kd.C_drew ?_))); (case side2 => exact HC0.out); rintro e w' ⟨rfl, ⟨nd, rfl⟩⟩; (try first | exact ⟨rfl, _, World.drewN_drewN _ _ _⟩ | exact ⟨rfl, _, Eq.trans (World.drewN_drewN _ _ _) (congrArg (World.drewN _) (Nat.add_assoc _ _ _))⟩); have p292 : 0 ≤ (1 : Int) := (by omega); have q292 : 1 < (t285.length : Int) := of_decide_eq_true q63_; obtain ⟨ad292, e292, hx292_0⟩ := Kd.at_int (Kd.V_reads' HO287.out).2.2 1 p292 q292; obtain rfl : ad288 = ad292 := (by injection e292); (try simp only [show (1 : Int).toNat = 1 from rfl, Nat.reduceMul, Nat.reduceEqDiff, Go.Addr.add, ↓reduceIte] at hx292_0); have qi292 : (1 < t285.length) = True := eq_true (by omega); (try rw [show ((1 : Int)).toNat = 1 from rfl] at hx292_0); replace p292 := eq_true p292; replace q292 := eq_true q292; obtain ⟨hcz19_0, hcz19_1⟩ := cells2_ BK284.out; obtain ⟨hfz19_0, hfz19_1⟩ := frz2_ BK284.out))
          repeat (go_quiet (first | (go_at_call 18; (with_reducible refine (pyxref22_Numbers.calls x4_1 t285 _ A4.out).mono ?_); rintro e w17 ⟨v286, rfl, ho0, hb⟩; have n0_ := Aside0.mk (Kd.V_lower (Kd.V_mono (ok' := fun k_ => k_ ≠ gb284) ho0 (fun k_ hk_ => (Kd.freshB (g := gb284) (o := .cells #[.int .i64 x285000_1, .int .i64 x285001_1] 34 (0, 0)) q36_ k_ hk_))) (below_size q24_)); have n1_ := Aside0.mk (blk_below (g := gb284) (o := .cells #[.int .i64 x285000_1, .int .i64 x285001_1] 34 (0, 0)) q36_ hb); have n2_ := Aside0.mk (below_step q24_ hb); clear BK284; clear HB; have HO287 := n0_; have BK284 := n1_; have HB := n2_; clear n0_ n1_ n2_; (try clear hb); (try clear hb2); (try clear hk); (try clear hi); (try clear ho0); obtain ⟨Ao18, co18, eo18⟩ := Kd.V_slice HO287.out; subst eo18; have p288 : 0 ≤ (0 : Int) := (by omega); have q288 : 0 < (t285.length : Int) := of_decide_eq_true q63_; obtain ⟨ad288, e288, hx288_0⟩ := Kd.at_int (Kd.V_reads' HO287.out).2.2 0 p288 q288; cases e288; have qi288 : (0 < t285.length) = True := eq_true (by omega); (try rw [show ((0 : Int)).toNat = 0 from rfl] at hx288_0); (try rw [Addr.add_zero'] at hx288_0); replace p288 := eq_true p288; replace q288 := eq_true q288; have p289 : 0 ≤ (1 : Int) := (by omega); have q289 : 1 < (t285.length : Int) := of_decide_eq_true q63_; obtain ⟨ad289, e289, hx289_0⟩ := Kd.at_int (Kd.V_reads' HO287.out).2.2 1 p289 q289; obtain rfl : ad288 = ad289 := (by injection e289); (try simp only [show (1 : Int).toNat = 1 from rfl, Nat.reduceMul, Nat.reduceEqDiff, Go.Addr.add, ↓reduceIte] at hx289_0); have qi289 : (1 < t285.length) = True := eq_true (by omega); (try rw [show ((1 : Int)).toNat = 1 from rfl] at hx289_0); replace p289 := eq_true p289; replace q289 := eq_true q289; have p290 : 0 ≤ (2 : Int) := (by omega); have q290 : 2 < (t285.length : Int) := of_decide_eq_true q63_; obtain ⟨ad290, e290, hx290_0⟩ := Kd.at_int (Kd.V_reads' HO287.out).2.2 2 p290 q290; obtain rfl : ad288 = ad290 := (by injection e290); (try simp only [show (2 : Int).toNat = 2 from rfl, Nat.reduceMul, Nat.reduceEqDiff, Go.Addr.add, ↓reduceIte] at hx290_0); have qi290 : (2 < t285.length) = True := eq_true (by omega); (try rw [show ((2 : Int)).toNat = 2 from rfl] at hx290_0); replace p290 := eq_true p290; replace q290 := eq_true q290) | (go_at_call 30; (with_reducible refine (pyxref22_index.calls _ _ l0 t291 _ ?side1 ?side2 A9.out).mono ?_); (case side1 => repeat (first | exact (Kd.C_below HR0.out HB.out) | (with_reducible refine Kd.C_alloc ?_ _) | (with_reducible refine Kd.C_drewN ?_ _) | (with_reducible refine Kd.C_drew ?_))); (case side2 => exact HC0.out); rintro e w' ⟨rfl, ⟨nd, rfl⟩⟩; (try first | exact ⟨rfl, _, World.drewN_drewN _ _ _⟩ | exact ⟨rfl, _, Eq.trans (World.drewN_drewN _ _ _) (congrArg (World.drewN _) (Nat.add_assoc _ _ _))⟩); have p292 : 0 ≤ (1 : Int) := (by omega); have q292 : 1 < (t285.length : Int) := of_decide_eq_true q63_; obtain ⟨ad292, e292, hx292_0⟩ := Kd.at_int (Kd.V_reads' HO287.out).2.2 1 p292 q292; obtain rfl : ad288 = ad292 := (by injection e292); (try simp only [show (1 : Int).toNat = 1 from rfl, Nat.reduceMul, Nat.reduceEqDiff, Go.Addr.add, ↓reduceIte] at hx292_0); have qi292 : (1 < t285.length) = True := eq_true (by omega); (try rw [show ((1 : Int)).toNat = 1 from rfl] at hx292_0); replace p292 := eq_true p292; replace q292 := eq_true q292; obtain ⟨hcz19_0, hcz19_1⟩ := cells2_ BK284.out; obtain ⟨hfz19_0, hfz19_1⟩ := frz2_ BK284.out)); try go_wp2_with (first | (go_at_call 18; (with_reducible refine (pyxref22_Numbers.calls x4_1 t285 _ A4.out).mono ?_); rintro e w17 ⟨v286, rfl, ho0, hb⟩; have n0_ := Aside0.mk (Kd.V_lower (Kd.V_mono (ok' := fun k_ => k_ ≠ gb284) ho0 (fun k_ hk_ => (Kd.freshB (g := gb284) (o := .cells #[.int .i64 x285000_1, .int .i64 x285001_1] 34 (0, 0)) q36_ k_ hk_))) (below_size q24_)); have n1_ := Aside0.mk (blk_below (g := gb284) (o := .cells #[.int .i64 x285000_1, .int .i64 x285001_1] 34 (0, 0)) q36_ hb); have n2_ := Aside0.mk (below_step q24_ hb); clear BK284; clear HB; have HO287 := n0_; have BK284 := n1_; have HB := n2_; clear n0_ n1_ n2_; (try clear hb); (try clear hb2); (try clear hk); (try clear hi); (try clear ho0); obtain ⟨Ao18, co18, eo18⟩ := Kd.V_slice HO287.out; subst eo18; have p288 : 0 ≤ (0 : Int) := (by omega); have q288 : 0 < (t285.length : Int) := of_decide_eq_true q63_; obtain ⟨ad288, e288, hx288_0⟩ := Kd.at_int (Kd.V_reads' HO287.out).2.2 0 p288 q288; cases e288; have qi288 : (0 < t285.length) = True := eq_true (by omega); (try rw [show ((0 : Int)).toNat = 0 from rfl] at hx288_0); (try rw [Addr.add_zero'] at hx288_0); replace p288 := eq_true p288; replace q288 := eq_true q288; have p289 : 0 ≤ (1 : Int) := (by omega); have q289 : 1 < (t285.length : Int) := of_decide_eq_true q63_; obtain ⟨ad289, e289, hx289_0⟩ := Kd.at_int (Kd.V_reads' HO287.out).2.2 1 p289 q289; obtain rfl : ad288 = ad289 := (by injection e289); (try simp only [show (1 : Int).toNat = 1 from rfl, Nat.reduceMul, Nat.reduceEqDiff, Go.Addr.add, ↓reduceIte] at hx289_0); have qi289 : (1 < t285.length) = True := eq_true (by omega); (try rw [show ((1 : Int)).toNat = 1 from rfl] at hx289_0); replace p289 := eq_true p289; replace q289 := eq_true q289; have p290 : 0 ≤ (2 : Int) := (by omega); have q290 : 2 < (t285.length : Int) := of_decide_eq_true q63_; obtain ⟨ad290, e290, hx290_0⟩ := Kd.at_int (Kd.V_reads' HO287.out).2.2 2 p290 q290; obtain rfl : ad288 = ad290 := (by injection e290); (try simp only [show (2 : Int).toNat = 2 from rfl, Nat.reduceMul, Nat.reduceEqDiff, Go.Addr.add, ↓reduceIte] at hx290_0); have qi290 : (2 < t285.length) = True := eq_true (by omega); (try rw [show ((2 : Int)).toNat = 2 from rfl] at hx290_0); replace p290 := eq_true p290; replace q290 := eq_true q290) | (go_at_call 30; (with_reducible refine (pyxref22_index.calls _ _ l0 t291 _ ?side1 ?side2 A9.out).mono ?_); (case side1 => repeat (first | exact (Kd.C_below HR0.out HB.out) | (with_reducible refine Kd.C_alloc ?_ _) | (with_reducible refine Kd.C_drewN ?_ _) | (with_reducible refine Kd.C_drew ?_))); (case side2 => exact HC0.out); rintro e w' ⟨rfl, ⟨nd, rfl⟩⟩; (try first | exact ⟨rfl, _, World.drewN_drewN _ _ _⟩ | exact ⟨rfl, _, Eq.trans (World.drewN_drewN _ _ _) (congrArg (World.drewN _) (Nat.add_assoc _ _ _))⟩); have p292 : 0 ≤ (1 : Int) := (by omega); have q292 : 1 < (t285.length : Int) := of_decide_eq_true q63_; obtain ⟨ad292, e292, hx292_0⟩ := Kd.at_int (Kd.V_reads' HO287.out).2.2 1 p292 q292; obtain rfl : ad288 = ad292 := (by injection e292); (try simp only [show (1 : Int).toNat = 1 from rfl, Nat.reduceMul, Nat.reduceEqDiff, Go.Addr.add, ↓reduceIte] at hx292_0); have qi292 : (1 < t285.length) = True := eq_true (by omega); (try rw [show ((1 : Int)).toNat = 1 from rfl] at hx292_0); replace p292 := eq_true p292; replace q292 := eq_true q292; obtain ⟨hcz19_0, hcz19_1⟩ := cells2_ BK284.out; obtain ⟨hfz19_0, hfz19_1⟩ := frz2_ BK284.out)))
          refine bodyPost_ret (results_tc rfl _ _ gb284 34 #[.int .i64 0, .int .i64 0] (0, 0) _ rfl q32_ Tryz.underlying34 rfl (by kernel_rfl)) rfl ?_
          exact ⟨by first | rfl | (simp [errW_none, errW_some] <;> rfl) | (simp only [← hji10, ← hji12]; first | rfl | (simp [errW_none, errW_some] <;> rfl)) | (simp [*, errW_none, errW_some] <;> rfl), by repeat (first | (with_reducible first | exact HB.out | apply below_alloc | apply pw_below_drewN | apply below_drew1 | refine below_set ?_ GE284.out) | exact HB.out)⟩
        ·rw [if_neg c11] at H
         exact absurd H (by simp)
       ·rw [if_neg c8] at H
        have c8b0 : ((l0.length : Int) == (wrap64 (4 + (wrap64 ((rd t285 0) * (wrap64 ((wrap64 (1 + (rd t285 1))) + (rd t285 2)))))))) = false := beq_eq_false_iff_ne.mpr c8
        have c8b1 : ((l0.length : Int) != (wrap64 (4 + (wrap64 ((rd t285 0) * (wrap64 ((wrap64 (1 + (rd t285 1))) + (rd t285 2)))))))) = true := bne_iff_ne.mpr c8
        have H' := Aside0.mk H
        clear H
        go_wp2_with (first | (go_at_call 18; (with_reducible refine (pyxref22_Numbers.calls x4_1 t285 _ A4.out).mono ?_); rintro e w20 ⟨v286, rfl, ho0, hb⟩; have n0_ := Aside0.mk (Kd.V_lower (Kd.V_mono (ok' := fun k_ => k_ ≠ gb284) ho0 (fun k_ hk_ => (Kd.freshB (g := gb284) (o := .cells #[.int .i64 x285000_1, .int .i64 x285001_1] 34 (0, 0)) q36_ k_ hk_))) (below_size q24_)); have n1_ := Aside0.mk (blk_below (g := gb284) (o := .cells #[.int .i64 x285000_1, .int .i64 x285001_1] 34 (0, 0)) q36_ hb); have n2_ := Aside0.mk (below_step q24_ hb); clear BK284; clear HB; have HO287 := n0_; have BK284 := n1_; have HB := n2_; clear n0_ n1_ n2_; (try clear hb); (try clear hb2); (try clear hk); (try clear hi); (try clear ho0); obtain ⟨Ao21, co21, eo21⟩ := Kd.V_slice HO287.out; subst eo21; have p288 : 0 ≤ (0 : Int) := (by omega); have q288 : 0 < (t285.length : Int) := of_decide_eq_true q63_; obtain ⟨ad288, e288, hx288_0⟩ := Kd.at_int (Kd.V_reads' HO287.out).2.2 0 p288 q288; cases e288; have qi288 : (0 < t285.length) = True := eq_true (by omega); (try rw [show ((0 : Int)).toNat = 0 from rfl] at hx288_0); (try rw [Addr.add_zero'] at hx288_0); replace p288 := eq_true p288; replace q288 := eq_true q288; have p289 : 0 ≤ (1 : Int) := (by omega); have q289 : 1 < (t285.length : Int) := of_decide_eq_true q63_; obtain ⟨ad289, e289, hx289_0⟩ := Kd.at_int (Kd.V_reads' HO287.out).2.2 1 p289 q289; obtain rfl : ad288 = ad289 := (by injection e289); (try simp only [show (1 : Int).toNat = 1 from rfl, Nat.reduceMul, Nat.reduceEqDiff, Go.Addr.add, ↓reduceIte] at hx289_0); have qi289 : (1 < t285.length) = True := eq_true (by omega); (try rw [show ((1 : Int)).toNat = 1 from rfl] at hx289_0); replace p289 := eq_true p289; replace q289 := eq_true q289; have p290 : 0 ≤ (2 : Int) := (by omega); have q290 : 2 < (t285.length : Int) := of_decide_eq_true q63_; obtain ⟨ad290, e290, hx290_0⟩ := Kd.at_int (Kd.V_reads' HO287.out).2.2 2 p290 q290; obtain rfl : ad288 = ad290 := (by injection e290); (try simp only [show (2 : Int).toNat = 2 from rfl, Nat.reduceMul, Nat.reduceEqDiff, Go.Addr.add, ↓reduceIte] at hx290_0); have qi290 : (2 < t285.length) = True := eq_true (by omega); (try rw [show ((2 : Int)).toNat = 2 from rfl] at hx290_0); replace p290 := eq_true p290; replace q290 := eq_true q290))
        repeat (go_quiet (first | (go_at_call 18; (with_reducible refine (pyxref22_Numbers.calls x4_1 t285 _ A4.out).mono ?_); rintro e w20 ⟨v286, rfl, ho0, hb⟩; have n0_ := Aside0.mk (Kd.V_lower (Kd.V_mono (ok' := fun k_ => k_ ≠ gb284) ho0 (fun k_ hk_ => (Kd.freshB (g := gb284) (o := .cells #[.int .i64 x285000_1, .int .i64 x285001_1] 34 (0, 0)) q36_ k_ hk_))) (below_size q24_)); have n1_ := Aside0.mk (blk_below (g := gb284) (o := .cells #[.int .i64 x285000_1, .int .i64 x285001_1] 34 (0, 0)) q36_ hb); have n2_ := Aside0.mk (below_step q24_ hb); clear BK284; clear HB; have HO287 := n0_; have BK284 := n1_; have HB := n2_; clear n0_ n1_ n2_; (try clear hb); (try clear hb2); (try clear hk); (try clear hi); (try clear ho0); obtain ⟨Ao21, co21, eo21⟩ := Kd.V_slice HO287.out; subst eo21; have p288 : 0 ≤ (0 : Int) := (by omega); have q288 : 0 < (t285.length : Int) := of_decide_eq_true q63_; obtain ⟨ad288, e288, hx288_0⟩ := Kd.at_int (Kd.V_reads' HO287.out).2.2 0 p288 q288; cases e288; have qi288 : (0 < t285.length) = True := eq_true (by omega); (try rw [show ((0 : Int)).toNat = 0 from rfl] at hx288_0); (try rw [Addr.add_zero'] at hx288_0); replace p288 := eq_true p288; replace q288 := eq_true q288; have p289 : 0 ≤ (1 : Int) := (by omega); have q289 : 1 < (t285.length : Int) := of_decide_eq_true q63_; obtain ⟨ad289, e289, hx289_0⟩ := Kd.at_int (Kd.V_reads' HO287.out).2.2 1 p289 q289; obtain rfl : ad288 = ad289 := (by injection e289); (try simp only [show (1 : Int).toNat = 1 from rfl, Nat.reduceMul, Nat.reduceEqDiff, Go.Addr.add, ↓reduceIte] at hx289_0); have qi289 : (1 < t285.length) = True := eq_true (by omega); (try rw [show ((1 : Int)).toNat = 1 from rfl] at hx289_0); replace p289 := eq_true p289; replace q289 := eq_true q289; have p290 : 0 ≤ (2 : Int) := (by omega); have q290 : 2 < (t285.length : Int) := of_decide_eq_true q63_; obtain ⟨ad290, e290, hx290_0⟩ := Kd.at_int (Kd.V_reads' HO287.out).2.2 2 p290 q290; obtain rfl : ad288 = ad290 := (by injection e290); (try simp only [show (2 : Int).toNat = 2 from rfl, Nat.reduceMul, Nat.reduceEqDiff, Go.Addr.add, ↓reduceIte] at hx290_0); have qi290 : (2 < t285.length) = True := eq_true (by omega); (try rw [show ((2 : Int)).toNat = 2 from rfl] at hx290_0); replace p290 := eq_true p290; replace q290 := eq_true q290)); try go_wp2_with (first | (go_at_call 18; (with_reducible refine (pyxref22_Numbers.calls x4_1 t285 _ A4.out).mono ?_); rintro e w20 ⟨v286, rfl, ho0, hb⟩; have n0_ := Aside0.mk (Kd.V_lower (Kd.V_mono (ok' := fun k_ => k_ ≠ gb284) ho0 (fun k_ hk_ => (Kd.freshB (g := gb284) (o := .cells #[.int .i64 x285000_1, .int .i64 x285001_1] 34 (0, 0)) q36_ k_ hk_))) (below_size q24_)); have n1_ := Aside0.mk (blk_below (g := gb284) (o := .cells #[.int .i64 x285000_1, .int .i64 x285001_1] 34 (0, 0)) q36_ hb); have n2_ := Aside0.mk (below_step q24_ hb); clear BK284; clear HB; have HO287 := n0_; have BK284 := n1_; have HB := n2_; clear n0_ n1_ n2_; (try clear hb); (try clear hb2); (try clear hk); (try clear hi); (try clear ho0); obtain ⟨Ao21, co21, eo21⟩ := Kd.V_slice HO287.out; subst eo21; have p288 : 0 ≤ (0 : Int) := (by omega); have q288 : 0 < (t285.length : Int) := of_decide_eq_true q63_; obtain ⟨ad288, e288, hx288_0⟩ := Kd.at_int (Kd.V_reads' HO287.out).2.2 0 p288 q288; cases e288; have qi288 : (0 < t285.length) = True := eq_true (by omega); (try rw [show ((0 : Int)).toNat = 0 from rfl] at hx288_0); (try rw [Addr.add_zero'] at hx288_0); replace p288 := eq_true p288; replace q288 := eq_true q288; have p289 : 0 ≤ (1 : Int) := (by omega); have q289 : 1 < (t285.length : Int) := of_decide_eq_true q63_; obtain ⟨ad289, e289, hx289_0⟩ := Kd.at_int (Kd.V_reads' HO287.out).2.2 1 p289 q289; obtain rfl : ad288 = ad289 := (by injection e289); (try simp only [show (1 : Int).toNat = 1 from rfl, Nat.reduceMul, Nat.reduceEqDiff, Go.Addr.add, ↓reduceIte] at hx289_0); have qi289 : (1 < t285.length) = True := eq_true (by omega); (try rw [show ((1 : Int)).toNat = 1 from rfl] at hx289_0); replace p289 := eq_true p289; replace q289 := eq_true q289; have p290 : 0 ≤ (2 : Int) := (by omega); have q290 : 2 < (t285.length : Int) := of_decide_eq_true q63_; obtain ⟨ad290, e290, hx290_0⟩ := Kd.at_int (Kd.V_reads' HO287.out).2.2 2 p290 q290; obtain rfl : ad288 = ad290 := (by injection e290); (try simp only [show (2 : Int).toNat = 2 from rfl, Nat.reduceMul, Nat.reduceEqDiff, Go.Addr.add, ↓reduceIte] at hx290_0); have qi290 : (2 < t285.length) = True := eq_true (by omega); (try rw [show ((2 : Int)).toNat = 2 from rfl] at hx290_0); replace p290 := eq_true p290; replace q290 := eq_true q290)))
        go_roundg k1
        case measure => have := HK1.out; omega
        case rel => exact ⟨(wrap64 (x4_1 + 1)), (x285000_1), (x285001_1), q64_, H', ⟨by have := HK1.out; omega⟩, ⟨by (with_reducible repeat (first | refine blk_drewN ?_ _ | refine blk_drew ?_ | refine blk_alloc ?_ _)); exact BK284.out⟩, ⟨by repeat (first | (with_reducible first | exact HB.out | apply below_alloc | apply pw_below_drewN | apply below_drew1 | refine below_set ?_ GE284.out) | exact HB.out)⟩⟩
      ·rw [if_neg c7] at H
       exact absurd H (by simp)
     ·rw [if_neg c6] at H
      exact absurd H (by simp)
    ·rw [if_neg c5] at H
     exact absurd H (by simp)
   ·rw [if_neg c3] at H
    have c3b0 : decide (x4_1 ≤ 25) = false := decide_eq_false c3
    clear c3
    simp only [Option.some.injEq, Prod.mk.injEq] at H
    obtain ⟨rfl, rfl, rfl⟩ := H
    obtain ⟨hcz22_0, hcz22_1⟩ := cells2_ BK284.out
    obtain ⟨hfz22_0, hfz22_1⟩ := frz2_ BK284.out
    go_wp2
    repeat (go_quiet (fail); try go_wp2)
    refine bodyPost_ret (results_tc rfl _ _ gb284 34 #[.int .i64 6, .int .i64 0] (0, 0) _ rfl q32_ Tryz.underlying34 rfl (by kernel_rfl)) rfl ?_
    exact ⟨by first | rfl | (simp [errW_none, errW_some] <;> rfl) | (simp [*, errW_none, errW_some] <;> rfl), by repeat (first | (with_reducible first | exact HB.out | apply below_alloc | apply pw_below_drewN | apply below_drew1 | refine below_set ?_ GE284.out) | exact HB.out)⟩
end Go.Proofs.YtgmnknhfeoleaaaGreatDoor.PXmss
