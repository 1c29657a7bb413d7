import Derived.Test.YtohmnlmeamkmjaaDoorZParApart0
namespace Go.Proofs.YtohmnlmeamkmjaaDoor.PParams
open Go.RowKit Go.Proofs.YtohmnlmeamkmjaaDoorW.PrintWords Go.Proofs.YtohmnlmeamkmjaaDoorW.PrintLast Go.Proofs.YtohmnlmeamkmjaaDoorW.PrintMore
attribute [local go_sem] max2_int min2_int max_two min_two max_three min_three max_four min_four
set_option linter.unusedVariables false
set_option linter.unusedSimpArgs false
set_option maxHeartbeats 8000000 in
set_option maxRecDepth 100000 in
theorem pyxlaw13_ParamsApart.calls2 (k : Nat) (a0 : Int) (a1 : Int) (r : Bool) (w : World) (h : pyxlaw13_ParamsApart.f k a0 a1 = some r) (hG : GOK w) (hr_ : r = true) (hw : ∀ x, params_Get.f k (wrap64 (1 + (Int.tmod (wrap64 (a0)) 25))) = some x → x.2.2.2.2.2.2.2.2.1 = 0 ∧ x.2.2.2.2.2.2.2.2.2.1 ≠ 0) :
    Calls Tryd.prog 12 #[.int .u8 a0, .int .u8 a1] w fun e w' => e = .returned (.bool r) ∧ Below w.heap.size w w' := by
  have HG := Aside0.mk hG
  clear hG
  have HT := Aside0.mk hr_
  clear hr_
  have hu37 := Tryd.underlying37
  have HB := Aside0.mk (Below.refl w.heap.size w)
  have H : ((pyxlaw13_awake.f k).bind fun t406 => (if t406 = true then ((params_Get.f k (wrap64 (1 + (Int.tmod (wrap64 (a0)) 25)))).bind fun bt407 => ((params_Get.f k (wrap64 (1 + (Int.tmod (wrap64 (a1)) 25)))).bind fun bt421 => (if bt407.2.2.2.2.2.2.2.2.2.2 = true then (pyxlaw13_ParamsApart.j0 k (!bt421.2.2.2.2.2.2.2.2.2.2) bt407.1 bt407.2.1 bt407.2.2.1 bt407.2.2.2.1 bt407.2.2.2.2.1 bt407.2.2.2.2.2.1 bt407.2.2.2.2.2.2.1 bt407.2.2.2.2.2.2.2.1 bt407.2.2.2.2.2.2.2.2.1 bt407.2.2.2.2.2.2.2.2.2.1 bt421.1 bt421.2.1 bt421.2.2.1 bt421.2.2.2.1 bt421.2.2.2.2.1 bt421.2.2.2.2.2.1 bt421.2.2.2.2.2.2.1 bt421.2.2.2.2.2.2.2.1 bt421.2.2.2.2.2.2.2.2.1 bt421.2.2.2.2.2.2.2.2.2.1) else (pyxlaw13_ParamsApart.j0 k true bt407.1 bt407.2.1 bt407.2.2.1 bt407.2.2.2.1 bt407.2.2.2.2.1 bt407.2.2.2.2.2.1 bt407.2.2.2.2.2.2.1 bt407.2.2.2.2.2.2.2.1 bt407.2.2.2.2.2.2.2.2.1 bt407.2.2.2.2.2.2.2.2.2.1 bt421.1 bt421.2.1 bt421.2.2.1 bt421.2.2.2.1 bt421.2.2.2.2.1 bt421.2.2.2.2.2.1 bt421.2.2.2.2.2.2.1 bt421.2.2.2.2.2.2.2.1 bt421.2.2.2.2.2.2.2.2.1 bt421.2.2.2.2.2.2.2.2.2.1)))) else (some false))) = some r := h
  clear h
  replace H := Option.bind_eq_some_iff.mp H
  obtain ⟨t406, A30, H⟩ := H
  replace H : (if t406 = true then ((params_Get.f k (wrap64 (1 + (Int.tmod (wrap64 (a0)) 25)))).bind fun bt407 => ((params_Get.f k (wrap64 (1 + (Int.tmod (wrap64 (a1)) 25)))).bind fun bt421 => (if bt407.2.2.2.2.2.2.2.2.2.2 = true then (pyxlaw13_ParamsApart.j0 k (!bt421.2.2.2.2.2.2.2.2.2.2) bt407.1 bt407.2.1 bt407.2.2.1 bt407.2.2.2.1 bt407.2.2.2.2.1 bt407.2.2.2.2.2.1 bt407.2.2.2.2.2.2.1 bt407.2.2.2.2.2.2.2.1 bt407.2.2.2.2.2.2.2.2.1 bt407.2.2.2.2.2.2.2.2.2.1 bt421.1 bt421.2.1 bt421.2.2.1 bt421.2.2.2.1 bt421.2.2.2.2.1 bt421.2.2.2.2.2.1 bt421.2.2.2.2.2.2.1 bt421.2.2.2.2.2.2.2.1 bt421.2.2.2.2.2.2.2.2.1 bt421.2.2.2.2.2.2.2.2.2.1) else (pyxlaw13_ParamsApart.j0 k true bt407.1 bt407.2.1 bt407.2.2.1 bt407.2.2.2.1 bt407.2.2.2.2.1 bt407.2.2.2.2.2.1 bt407.2.2.2.2.2.2.1 bt407.2.2.2.2.2.2.2.1 bt407.2.2.2.2.2.2.2.2.1 bt407.2.2.2.2.2.2.2.2.2.1 bt421.1 bt421.2.1 bt421.2.2.1 bt421.2.2.2.1 bt421.2.2.2.2.1 bt421.2.2.2.2.2.1 bt421.2.2.2.2.2.2.1 bt421.2.2.2.2.2.2.2.1 bt421.2.2.2.2.2.2.2.2.1 bt421.2.2.2.2.2.2.2.2.2.1)))) else (some false)) = some r := H
  have A3 := Aside0.mk A30
  clear A30
  by_cases c4 : t406 = true
  · subst c4
    have H1 : ((params_Get.f k (wrap64 (1 + (Int.tmod (wrap64 (a0)) 25)))).bind fun bt407 => ((params_Get.f k (wrap64 (1 + (Int.tmod (wrap64 (a1)) 25)))).bind fun bt421 => (if bt407.2.2.2.2.2.2.2.2.2.2 = true then (pyxlaw13_ParamsApart.j0 k (!bt421.2.2.2.2.2.2.2.2.2.2) bt407.1 bt407.2.1 bt407.2.2.1 bt407.2.2.2.1 bt407.2.2.2.2.1 bt407.2.2.2.2.2.1 bt407.2.2.2.2.2.2.1 bt407.2.2.2.2.2.2.2.1 bt407.2.2.2.2.2.2.2.2.1 bt407.2.2.2.2.2.2.2.2.2.1 bt421.1 bt421.2.1 bt421.2.2.1 bt421.2.2.2.1 bt421.2.2.2.2.1 bt421.2.2.2.2.2.1 bt421.2.2.2.2.2.2.1 bt421.2.2.2.2.2.2.2.1 bt421.2.2.2.2.2.2.2.2.1 bt421.2.2.2.2.2.2.2.2.2.1) else (pyxlaw13_ParamsApart.j0 k true bt407.1 bt407.2.1 bt407.2.2.1 bt407.2.2.2.1 bt407.2.2.2.2.1 bt407.2.2.2.2.2.1 bt407.2.2.2.2.2.2.1 bt407.2.2.2.2.2.2.2.1 bt407.2.2.2.2.2.2.2.2.1 bt407.2.2.2.2.2.2.2.2.2.1 bt421.1 bt421.2.1 bt421.2.2.1 bt421.2.2.2.1 bt421.2.2.2.2.1 bt421.2.2.2.2.2.1 bt421.2.2.2.2.2.2.1 bt421.2.2.2.2.2.2.2.1 bt421.2.2.2.2.2.2.2.2.1 bt421.2.2.2.2.2.2.2.2.2.1)))) = some r := by rw [if_pos rfl] at H; exact H
    clear H
    have H := H1
    clear H1
    replace H := Option.bind_eq_some_iff.mp H
    obtain ⟨⟨t407, t408, t409, t410, t411, t412, t413, t414, t417, t418, t419⟩, A50, H⟩ := H
    replace H : ((params_Get.f k (wrap64 (1 + (Int.tmod (wrap64 (a1)) 25)))).bind fun bt421 => (if t419 = true then (pyxlaw13_ParamsApart.j0 k (!bt421.2.2.2.2.2.2.2.2.2.2) t407 t408 t409 t410 t411 t412 t413 t414 t417 t418 bt421.1 bt421.2.1 bt421.2.2.1 bt421.2.2.2.1 bt421.2.2.2.2.1 bt421.2.2.2.2.2.1 bt421.2.2.2.2.2.2.1 bt421.2.2.2.2.2.2.2.1 bt421.2.2.2.2.2.2.2.2.1 bt421.2.2.2.2.2.2.2.2.2.1) else (pyxlaw13_ParamsApart.j0 k true t407 t408 t409 t410 t411 t412 t413 t414 t417 t418 bt421.1 bt421.2.1 bt421.2.2.1 bt421.2.2.2.1 bt421.2.2.2.2.1 bt421.2.2.2.2.2.1 bt421.2.2.2.2.2.2.1 bt421.2.2.2.2.2.2.2.1 bt421.2.2.2.2.2.2.2.2.1 bt421.2.2.2.2.2.2.2.2.2.1))) = some r := H
    have A5 := Aside0.mk A50
    have HW : Aside0 (t417 = 0 ∧ t418 ≠ 0) := ⟨hw _ A50⟩
    clear hw
    clear A50
    replace H := Option.bind_eq_some_iff.mp H
    obtain ⟨⟨t421, t422, t423, t424, t425, t426, t427, t428, t431, t432, t433⟩, A60, H⟩ := H
    replace H : (if t419 = true then (pyxlaw13_ParamsApart.j0 k (!t433) t407 t408 t409 t410 t411 t412 t413 t414 t417 t418 t421 t422 t423 t424 t425 t426 t427 t428 t431 t432) else (pyxlaw13_ParamsApart.j0 k true t407 t408 t409 t410 t411 t412 t413 t414 t417 t418 t421 t422 t423 t424 t425 t426 t427 t428 t431 t432)) = some r := H
    have A6 := Aside0.mk A60
    clear A60
    have HC7 := Aside0.mk H
    clear H
    go_enter Tryd.func12, Tryd.ntmps12
    go_upto_region 5 with (first | ((with_reducible refine gate_callee (f := 27) rfl ?_); refine goesL_ (some 12) rfl rfl Tryd.func27 (by kernel_rfl) rfl #[] rfl (by (try simp only [List.map_toArray, List.map_cons, List.map_nil]); first | done | rfl | (simp only [List.length_drop, List.length_take]; rfl)) ?_; (with_reducible refine (pyxlaw13_awake.calls k  true _ A3.out (by first | exact GOK.below HG.out (by repeat (first | (with_reducible first | exact HB.out | apply below_alloc | apply pw_below_drewN | apply below_drew1) | exact HB.out)) | (repeat (first | exact HG.out | apply GOK.drewN | apply GOK.drew)))).mono ?_); rintro e w8 ⟨rfl, hb⟩; refine ⟨_, rfl, ?_⟩; have n0_ := Aside0.mk (below_step (by repeat (first | (with_reducible first | exact HB.out | apply below_alloc | apply pw_below_drewN | apply below_drew1) | exact HB.out)) hb); clear HB; have HB := n0_; clear n0_; (try clear hb); (try clear hb2); (try clear hk); (try clear hi)) | ((with_reducible refine gate_callee (f := 28) rfl ?_); refine goesL_ (some 19) rfl rfl Tryd.func28 (by kernel_rfl) rfl #[.int .i64 (wrap64 (1 + (Int.tmod (wrap64 (a0)) 25)))] rfl (by (try simp only [List.map_toArray, List.map_cons, List.map_nil]); first | done | rfl | (simp only [List.length_drop, List.length_take]; rfl)) ?_; (with_reducible refine (params_Get.calls k (wrap64 (1 + (Int.tmod (wrap64 (a0)) 25))) t407 t408 t409 t410 t411 t412 t413 t414 t417 t418 t419 _ A5.out (by first | exact GOK.below HG.out (by repeat (first | (with_reducible first | exact HB.out | apply below_alloc | apply pw_below_drewN | apply below_drew1) | exact HB.out)) | (repeat (first | exact HG.out | apply GOK.drewN | apply GOK.drew)))).mono ?_); rintro e w9 ⟨v415, rfl, ho0, hb⟩; refine ⟨_, rfl, ?_⟩; have n0_ := Aside0.mk (Kd.R_lower ho0 (below_size (by repeat (first | (with_reducible first | exact HB.out | apply below_alloc | apply pw_below_drewN | apply below_drew1) | exact HB.out)))); have n1_ := Aside0.mk (below_step (by repeat (first | (with_reducible first | exact HB.out | apply below_alloc | apply pw_below_drewN | apply below_drew1) | exact HB.out)) hb); clear HB; have HO416 := n0_; have HB := n1_; clear n0_ n1_; (try clear hb); (try clear hb2); (try clear hk); (try clear hi); (try clear ho0)) | ((with_reducible refine gate_dst (N := 5) rfl ?_); refine box_event ?hg (N := 5) ?hd (cs := #[.int .i64 0, .int .i64 0, .string (⟨#[]⟩ : ByteArray), .int .i64 0, .int .i64 0, .int .i64 0, .int .i64 0, .slice none 0 0, .int .i64 0, .int .u32 0]) (t := 37) ?hr ?_; (case hd => rfl); (case hg => rfl); (case hr => first | (go_simp; done) | (go_simp; rfl)); intro gb420 hg w10 hbox hb; have n0_ := Aside0.mk (Kd.R_below (by (with_reducible repeat (first | apply Kd.R_alloc | apply Kd.R_drewN | apply Kd.R_drew)); exact HO416.out) hb); have n1_ := Aside0.mk (below_step (by repeat (first | (with_reducible first | exact HB.out | apply below_alloc | apply pw_below_drewN | apply below_drew1) | exact HB.out)) hb); have n2_ := Aside0.mk (hbox); have n3_ := Aside0.mk ((by rw [hg]; exact (below_size (by repeat (first | (with_reducible first | exact HB.out | apply below_alloc | apply pw_below_drewN | apply below_drew1) | exact HB.out))) : w.heap.size ≤ gb420)); have n4_ := Aside0.mk ((by rw [hg]; exact (below_size (by repeat (first | (with_reducible first | exact HB.out | apply below_alloc | apply pw_below_drewN | apply below_drew1) | exact HB.out))) : w.heap.size ≤ gb420)); clear HO416; clear HB; have HO416 := n0_; have HB := n1_; have BK420 := n2_; have GW420 := n3_; have GE420 := n4_; clear n0_ n1_ n2_ n3_ n4_; clear hb hbox hg; have hcz11_0 : w10.cell? ⟨gb420, 0, none⟩ = some (.int .i64 0) := (blk_cell BK420.out 0).trans rfl; have hcz11_1 : w10.cell? ⟨gb420, 1, none⟩ = some (.int .i64 0) := (blk_cell BK420.out 1).trans rfl; have hcz11_2 : w10.cell? ⟨gb420, 2, none⟩ = some (.string (⟨#[]⟩ : ByteArray)) := (blk_cell BK420.out 2).trans rfl; have hcz11_3 : w10.cell? ⟨gb420, 3, none⟩ = some (.int .i64 0) := (blk_cell BK420.out 3).trans rfl; have hcz11_4 : w10.cell? ⟨gb420, 4, none⟩ = some (.int .i64 0) := (blk_cell BK420.out 4).trans rfl; have hcz11_5 : w10.cell? ⟨gb420, 5, none⟩ = some (.int .i64 0) := (blk_cell BK420.out 5).trans rfl; have hcz11_6 : w10.cell? ⟨gb420, 6, none⟩ = some (.int .i64 0) := (blk_cell BK420.out 6).trans rfl; have hcz11_7 : w10.cell? ⟨gb420, 7, none⟩ = some (.slice none 0 0) := (blk_cell BK420.out 7).trans rfl; have hcz11_8 : w10.cell? ⟨gb420, 8, none⟩ = some (.int .i64 0) := (blk_cell BK420.out 8).trans rfl; have hcz11_9 : w10.cell? ⟨gb420, 9, none⟩ = some (.int .u32 0) := (blk_cell BK420.out 9).trans rfl; have hfz11_0 := blk_frozen BK420.out 0; have hfz11_1 := blk_frozen BK420.out 1; have hfz11_2 := blk_frozen BK420.out 2; have hfz11_3 := blk_frozen BK420.out 3; have hfz11_4 := blk_frozen BK420.out 4; have hfz11_5 := blk_frozen BK420.out 5; have hfz11_6 := blk_frozen BK420.out 6; have hfz11_7 := blk_frozen BK420.out 7; have hfz11_8 := blk_frozen BK420.out 8; have hfz11_9 := blk_frozen BK420.out 9; obtain ⟨Ao12, co12, eo12⟩ := Kd.R_slice HO416.out; subst eo12) | ((with_reducible refine gate_callee (f := 28) rfl ?_); refine goesL_ (some 27) rfl rfl Tryd.func28 (by kernel_rfl) rfl #[.int .i64 (wrap64 (1 + (Int.tmod (wrap64 (a1)) 25)))] rfl (by (try simp only [List.map_toArray, List.map_cons, List.map_nil]); first | done | rfl | (simp only [List.length_drop, List.length_take]; rfl)) ?_; (with_reducible refine (params_Get.calls k (wrap64 (1 + (Int.tmod (wrap64 (a1)) 25))) t421 t422 t423 t424 t425 t426 t427 t428 t431 t432 t433 _ A6.out (by first | exact GOK.below HG.out (by repeat (first | (with_reducible first | exact HB.out | apply below_alloc | apply pw_below_drewN | apply below_drew1 | refine below_set ?_ GE420.out) | exact HB.out)) | (repeat (first | exact HG.out | apply GOK.drewN | apply GOK.drew)))).mono ?_); rintro e w13 ⟨v429, rfl, ho0, hb⟩; refine ⟨_, rfl, ?_⟩; have n0_ := Aside0.mk (Kd.R_elder' (by (with_reducible repeat (first | apply Kd.R_alloc | apply Kd.R_drewN | apply Kd.R_drew)); exact (Kd.R_mono (Kd.R_far (p := ⟨gb420, 9, none⟩) (Kd.R_far (p := ⟨gb420, 8, none⟩) (Kd.R_far (p := ⟨gb420, 7, none⟩) (Kd.R_far (p := ⟨gb420, 6, none⟩) (Kd.R_far (p := ⟨gb420, 5, none⟩) (Kd.R_far (p := ⟨gb420, 4, none⟩) (Kd.R_far (p := ⟨gb420, 3, none⟩) (Kd.R_far (p := ⟨gb420, 2, none⟩) (Kd.R_far (p := ⟨gb420, 1, none⟩) (Kd.R_far (p := ⟨gb420, 0, none⟩) (Kd.R_types HO416.out BK420.out (by decide)) (fun _ hk => hk.2) (.int .i64 t407)) (fun _ hk => hk.2) (.int .i64 t408)) (fun _ hk => hk.2) (.string t409)) (fun _ hk => hk.2) (.int .i64 t410)) (fun _ hk => hk.2) (.int .i64 t411)) (fun _ hk => hk.2) (.int .i64 t412)) (fun _ hk => hk.2) (.int .i64 t413)) (fun _ hk => hk.2) (.slice Ao12 t414.length co12)) (fun _ hk => hk.2) (.int .i64 t417)) (fun _ hk => hk.2) (.int .u32 t418)) (fun _ h_ => h_.1))) (Kd.R_base ho0) hb); have n1_ := Aside0.mk (Kd.R_lower (Kd.R_new' ho0 (Kd.R_lt (by (with_reducible repeat (first | apply Kd.R_alloc | apply Kd.R_drewN | apply Kd.R_drew)); exact (Kd.R_mono (Kd.R_far (p := ⟨gb420, 9, none⟩) (Kd.R_far (p := ⟨gb420, 8, none⟩) (Kd.R_far (p := ⟨gb420, 7, none⟩) (Kd.R_far (p := ⟨gb420, 6, none⟩) (Kd.R_far (p := ⟨gb420, 5, none⟩) (Kd.R_far (p := ⟨gb420, 4, none⟩) (Kd.R_far (p := ⟨gb420, 3, none⟩) (Kd.R_far (p := ⟨gb420, 2, none⟩) (Kd.R_far (p := ⟨gb420, 1, none⟩) (Kd.R_far (p := ⟨gb420, 0, none⟩) (Kd.R_types HO416.out BK420.out (by decide)) (fun _ hk => hk.2) (.int .i64 t407)) (fun _ hk => hk.2) (.int .i64 t408)) (fun _ hk => hk.2) (.string t409)) (fun _ hk => hk.2) (.int .i64 t410)) (fun _ hk => hk.2) (.int .i64 t411)) (fun _ hk => hk.2) (.int .i64 t412)) (fun _ hk => hk.2) (.int .i64 t413)) (fun _ hk => hk.2) (.slice Ao12 t414.length co12)) (fun _ hk => hk.2) (.int .i64 t417)) (fun _ hk => hk.2) (.int .u32 t418)) (fun _ h_ => h_.1))))) (below_size (by repeat (first | (with_reducible first | exact HB.out | apply below_alloc | apply pw_below_drewN | apply below_drew1 | refine below_set ?_ GE420.out) | exact HB.out)))); have n2_ := Aside0.mk (blk_below (g := gb420) (o := .cells #[.int .i64 t407, .int .i64 t408, .string t409, .int .i64 t410, .int .i64 t411, .int .i64 t412, .int .i64 t413, .slice Ao12 t414.length co12, .int .i64 t417, .int .u32 t418] 37 (0, 0)) (by (with_reducible repeat (first | refine blk_drewN ?_ _ | refine blk_drew ?_ | refine blk_alloc ?_ _)); refine blk_put (cs := #[.int .i64 t407, .int .i64 t408, .string t409, .int .i64 t410, .int .i64 t411, .int .i64 t412, .int .i64 t413, .slice Ao12 t414.length co12, .int .i64 t417, .int .u32 0]) ?_ 9 _ rfl; (with_reducible repeat (first | refine blk_drewN ?_ _ | refine blk_drew ?_ | refine blk_alloc ?_ _)); refine blk_put (cs := #[.int .i64 t407, .int .i64 t408, .string t409, .int .i64 t410, .int .i64 t411, .int .i64 t412, .int .i64 t413, .slice Ao12 t414.length co12, .int .i64 0, .int .u32 0]) ?_ 8 _ rfl; (with_reducible repeat (first | refine blk_drewN ?_ _ | refine blk_drew ?_ | refine blk_alloc ?_ _)); refine blk_put (cs := #[.int .i64 t407, .int .i64 t408, .string t409, .int .i64 t410, .int .i64 t411, .int .i64 t412, .int .i64 t413, .slice none 0 0, .int .i64 0, .int .u32 0]) ?_ 7 _ rfl; (with_reducible repeat (first | refine blk_drewN ?_ _ | refine blk_drew ?_ | refine blk_alloc ?_ _)); refine blk_put (cs := #[.int .i64 t407, .int .i64 t408, .string t409, .int .i64 t410, .int .i64 t411, .int .i64 t412, .int .i64 0, .slice none 0 0, .int .i64 0, .int .u32 0]) ?_ 6 _ rfl; (with_reducible repeat (first | refine blk_drewN ?_ _ | refine blk_drew ?_ | refine blk_alloc ?_ _)); refine blk_put (cs := #[.int .i64 t407, .int .i64 t408, .string t409, .int .i64 t410, .int .i64 t411, .int .i64 0, .int .i64 0, .slice none 0 0, .int .i64 0, .int .u32 0]) ?_ 5 _ rfl; (with_reducible repeat (first | refine blk_drewN ?_ _ | refine blk_drew ?_ | refine blk_alloc ?_ _)); refine blk_put (cs := #[.int .i64 t407, .int .i64 t408, .string t409, .int .i64 t410, .int .i64 0, .int .i64 0, .int .i64 0, .slice none 0 0, .int .i64 0, .int .u32 0]) ?_ 4 _ rfl; (with_reducible repeat (first | refine blk_drewN ?_ _ | refine blk_drew ?_ | refine blk_alloc ?_ _)); refine blk_put (cs := #[.int .i64 t407, .int .i64 t408, .string t409, .int .i64 0, .int .i64 0, .int .i64 0, .int .i64 0, .slice none 0 0, .int .i64 0, .int .u32 0]) ?_ 3 _ rfl; (with_reducible repeat (first | refine blk_drewN ?_ _ | refine blk_drew ?_ | refine blk_alloc ?_ _)); refine blk_put (cs := #[.int .i64 t407, .int .i64 t408, .string (⟨#[]⟩ : ByteArray), .int .i64 0, .int .i64 0, .int .i64 0, .int .i64 0, .slice none 0 0, .int .i64 0, .int .u32 0]) ?_ 2 _ rfl; (with_reducible repeat (first | refine blk_drewN ?_ _ | refine blk_drew ?_ | refine blk_alloc ?_ _)); refine blk_put (cs := #[.int .i64 t407, .int .i64 0, .string (⟨#[]⟩ : ByteArray), .int .i64 0, .int .i64 0, .int .i64 0, .int .i64 0, .slice none 0 0, .int .i64 0, .int .u32 0]) ?_ 1 _ rfl; (with_reducible repeat (first | refine blk_drewN ?_ _ | refine blk_drew ?_ | refine blk_alloc ?_ _)); refine blk_put (cs := #[.int .i64 0, .int .i64 0, .string (⟨#[]⟩ : ByteArray), .int .i64 0, .int .i64 0, .int .i64 0, .int .i64 0, .slice none 0 0, .int .i64 0, .int .u32 0]) ?_ 0 _ rfl; (with_reducible repeat (first | refine blk_drewN ?_ _ | refine blk_drew ?_ | refine blk_alloc ?_ _)); exact BK420.out) hb); have n3_ := Aside0.mk (below_step (by repeat (first | (with_reducible first | exact HB.out | apply below_alloc | apply pw_below_drewN | apply below_drew1 | refine below_set ?_ GE420.out) | exact HB.out)) hb); clear HO416; clear BK420; clear HB; have HO416 := n0_; have HO430 := n1_; have BK420 := n2_; have HB := n3_; clear n0_ n1_ n2_ n3_; (try clear hb); (try clear hb2); (try clear hk); (try clear hi); (try clear ho0)) | ((with_reducible refine gate_dst (N := 7) rfl ?_); refine box_event ?hg (N := 7) ?hd (cs := #[.int .i64 0, .int .i64 0, .string (⟨#[]⟩ : ByteArray), .int .i64 0, .int .i64 0, .int .i64 0, .int .i64 0, .slice none 0 0, .int .i64 0, .int .u32 0]) (t := 37) ?hr ?_; (case hd => rfl); (case hg => rfl); (case hr => first | (go_simp; done) | (go_simp; rfl)); intro gb434 hg w14 hbox hb; have n0_ := Aside0.mk (Kd.R_below (by (with_reducible repeat (first | apply Kd.R_alloc | apply Kd.R_drewN | apply Kd.R_drew)); exact HO416.out) hb); have n1_ := Aside0.mk (Kd.R_below (by (with_reducible repeat (first | apply Kd.R_alloc | apply Kd.R_drewN | apply Kd.R_drew)); exact HO430.out) hb); have n2_ := Aside0.mk (blk_below (g := gb420) (o := .cells #[.int .i64 t407, .int .i64 t408, .string t409, .int .i64 t410, .int .i64 t411, .int .i64 t412, .int .i64 t413, .slice Ao12 t414.length co12, .int .i64 t417, .int .u32 t418] 37 (0, 0)) (by (with_reducible repeat (first | refine blk_drewN ?_ _ | refine blk_drew ?_ | refine blk_alloc ?_ _)); exact BK420.out) hb); have n3_ := Aside0.mk (below_step (by repeat (first | (with_reducible first | exact HB.out | apply below_alloc | apply pw_below_drewN | apply below_drew1 | refine below_set ?_ GE420.out) | exact HB.out)) hb); have n4_ := Aside0.mk (hbox); have n5_ := Aside0.mk ((by rw [hg]; exact (below_size (by repeat (first | (with_reducible first | exact HB.out | apply below_alloc | apply pw_below_drewN | apply below_drew1 | refine below_set ?_ GE420.out) | exact HB.out))) : w.heap.size ≤ gb434)); have n6_ := Aside0.mk ((by rw [hg]; exact (below_size (by repeat (first | (with_reducible first | exact HB.out | apply below_alloc | apply pw_below_drewN | apply below_drew1 | refine below_set ?_ GE420.out) | exact HB.out))) : w.heap.size ≤ gb434)); have n7_ := Aside0.mk ((by rw [hg]; exact Nat.ne_of_lt (blk_lt (g := gb420) (o := .cells #[.int .i64 t407, .int .i64 t408, .string t409, .int .i64 t410, .int .i64 t411, .int .i64 t412, .int .i64 t413, .slice Ao12 t414.length co12, .int .i64 t417, .int .u32 t418] 37 (0, 0)) (by (with_reducible repeat (first | refine blk_drewN ?_ _ | refine blk_drew ?_ | refine blk_alloc ?_ _)); exact BK420.out)) : gb420 ≠ gb434)); have n8_ := Aside0.mk ((by rw [hg]; exact Nat.ne_of_gt (blk_lt (g := gb420) (o := .cells #[.int .i64 t407, .int .i64 t408, .string t409, .int .i64 t410, .int .i64 t411, .int .i64 t412, .int .i64 t413, .slice Ao12 t414.length co12, .int .i64 t417, .int .u32 t418] 37 (0, 0)) (by (with_reducible repeat (first | refine blk_drewN ?_ _ | refine blk_drew ?_ | refine blk_alloc ?_ _)); exact BK420.out)) : gb434 ≠ gb420)); clear HO416; clear HO430; clear BK420; clear HB; have HO416 := n0_; have HO430 := n1_; have BK420 := n2_; have HB := n3_; have BK434 := n4_; have GW434 := n5_; have GE434 := n6_; have NB420_434 := n7_; have NB434_420 := n8_; clear n0_ n1_ n2_ n3_ n4_ n5_ n6_ n7_ n8_; clear hb hbox hg; have hnb15 := NB434_420.out; have hnc15 := NB420_434.out; have hcz16_0 : w14.cell? ⟨gb434, 0, none⟩ = some (.int .i64 0) := (blk_cell BK434.out 0).trans rfl; have hcz16_1 : w14.cell? ⟨gb434, 1, none⟩ = some (.int .i64 0) := (blk_cell BK434.out 1).trans rfl; have hcz16_2 : w14.cell? ⟨gb434, 2, none⟩ = some (.string (⟨#[]⟩ : ByteArray)) := (blk_cell BK434.out 2).trans rfl; have hcz16_3 : w14.cell? ⟨gb434, 3, none⟩ = some (.int .i64 0) := (blk_cell BK434.out 3).trans rfl; have hcz16_4 : w14.cell? ⟨gb434, 4, none⟩ = some (.int .i64 0) := (blk_cell BK434.out 4).trans rfl; have hcz16_5 : w14.cell? ⟨gb434, 5, none⟩ = some (.int .i64 0) := (blk_cell BK434.out 5).trans rfl; have hcz16_6 : w14.cell? ⟨gb434, 6, none⟩ = some (.int .i64 0) := (blk_cell BK434.out 6).trans rfl; have hcz16_7 : w14.cell? ⟨gb434, 7, none⟩ = some (.slice none 0 0) := (blk_cell BK434.out 7).trans rfl; have hcz16_8 : w14.cell? ⟨gb434, 8, none⟩ = some (.int .i64 0) := (blk_cell BK434.out 8).trans rfl; have hcz16_9 : w14.cell? ⟨gb434, 9, none⟩ = some (.int .u32 0) := (blk_cell BK434.out 9).trans rfl; have hfz16_0 := blk_frozen BK434.out 0; have hfz16_1 := blk_frozen BK434.out 1; have hfz16_2 := blk_frozen BK434.out 2; have hfz16_3 := blk_frozen BK434.out 3; have hfz16_4 := blk_frozen BK434.out 4; have hfz16_5 := blk_frozen BK434.out 5; have hfz16_6 := blk_frozen BK434.out 6; have hfz16_7 := blk_frozen BK434.out 7; have hfz16_8 := blk_frozen BK434.out 8; have hfz16_9 := blk_frozen BK434.out 9; obtain ⟨Ao17, co17, eo17⟩ := Kd.R_slice HO430.out; subst eo17))
    (try simp only [Act.put, List.setIfInBounds_toArray, List.set_cons_zero, List.set_cons_succ])
    go_cut [35] (fun v35 wc => ∃ (kq : Nat) (x35_6 : Bool), v35 = .bool x35_6 ∧ Aside0 (pyxlaw13_ParamsApart.j0 kq x35_6 t407 t408 t409 t410 t411 t412 t413 t414 t417 t418 t421 t422 t423 t424 t425 t426 t427 t428 t431 t432 = some r) ∧ Aside0 (kq ≤ k) ∧ Aside0 (Kd.R (Kd.int .u32) 33 wc w.heap.size (fun k_ => some k_ ≠ ((.slice Ao17 t428.length co17) : Value).ownBlock) (.slice Ao12 t414.length co12) t414) ∧ Aside0 (Kd.R (Kd.int .u32) 33 wc w.heap.size (fun k_ => some k_ ≠ ((.slice Ao12 t414.length co12) : Value).ownBlock) (.slice Ao17 t428.length co17) t428) ∧ Aside0 (wc.heap[gb420]? = some (.cells #[.int .i64 t407, .int .i64 t408, .string t409, .int .i64 t410, .int .i64 t411, .int .i64 t412, .int .i64 t413, (.slice Ao12 t414.length co12), .int .i64 t417, .int .u32 t418] 37 (0, 0))) ∧ Aside0 (wc.heap[gb434]? = some (.cells #[.int .i64 t421, .int .i64 t422, .string t423, .int .i64 t424, .int .i64 t425, .int .i64 t426, .int .i64 t427, (.slice Ao17 t428.length co17), .int .i64 t431, .int .u32 t432] 37 (0, 0))) ∧ Aside0 (Below w.heap.size w wc))
    case first =>
      have H := HC7.out
      clear HC7
      by_cases c18 : t419 = true
      · subst c18
        have H1 : (pyxlaw13_ParamsApart.j0 k (!t433) t407 t408 t409 t410 t411 t412 t413 t414 t417 t418 t421 t422 t423 t424 t425 t426 t427 t428 t431 t432) = some r := by rw [if_pos rfl] at H; exact H
        clear H
        have H := H1
        clear H1
        have H' := Aside0.mk H
        clear H
        go_wp2
        go_meet
        case rel => exact ⟨_, (!t433), (by first | rfl | (simp; done) | (simp [*]; done)), H', ⟨by first | omega | exact Nat.le_refl _⟩, ⟨by (with_reducible repeat (first | apply Kd.R_alloc | apply Kd.R_drewN | apply Kd.R_drew)); exact Kd.R_mono (Kd.R_far (p := ⟨gb434, 9, none⟩) (Kd.R_far (p := ⟨gb434, 8, none⟩) (Kd.R_far (p := ⟨gb434, 7, none⟩) (Kd.R_far (p := ⟨gb434, 6, none⟩) (Kd.R_far (p := ⟨gb434, 5, none⟩) (Kd.R_far (p := ⟨gb434, 4, none⟩) (Kd.R_far (p := ⟨gb434, 3, none⟩) (Kd.R_far (p := ⟨gb434, 2, none⟩) (Kd.R_far (p := ⟨gb434, 1, none⟩) (Kd.R_far (p := ⟨gb434, 0, none⟩) (Kd.R_types HO416.out BK434.out (by decide)) (fun _ hk => hk.2) (.int .i64 t421)) (fun _ hk => hk.2) (.int .i64 t422)) (fun _ hk => hk.2) (.string t423)) (fun _ hk => hk.2) (.int .i64 t424)) (fun _ hk => hk.2) (.int .i64 t425)) (fun _ hk => hk.2) (.int .i64 t426)) (fun _ hk => hk.2) (.int .i64 t427)) (fun _ hk => hk.2) (.slice Ao17 t428.length co17)) (fun _ hk => hk.2) (.int .i64 t431)) (fun _ hk => hk.2) (.int .u32 t432)) (fun _ hk => hk.1.2)⟩, ⟨by (with_reducible repeat (first | apply Kd.R_alloc | apply Kd.R_drewN | apply Kd.R_drew)); exact Kd.R_mono (Kd.R_far (p := ⟨gb434, 9, none⟩) (Kd.R_far (p := ⟨gb434, 8, none⟩) (Kd.R_far (p := ⟨gb434, 7, none⟩) (Kd.R_far (p := ⟨gb434, 6, none⟩) (Kd.R_far (p := ⟨gb434, 5, none⟩) (Kd.R_far (p := ⟨gb434, 4, none⟩) (Kd.R_far (p := ⟨gb434, 3, none⟩) (Kd.R_far (p := ⟨gb434, 2, none⟩) (Kd.R_far (p := ⟨gb434, 1, none⟩) (Kd.R_far (p := ⟨gb434, 0, none⟩) (Kd.R_types HO430.out BK434.out (by decide)) (fun _ hk => hk.2) (.int .i64 t421)) (fun _ hk => hk.2) (.int .i64 t422)) (fun _ hk => hk.2) (.string t423)) (fun _ hk => hk.2) (.int .i64 t424)) (fun _ hk => hk.2) (.int .i64 t425)) (fun _ hk => hk.2) (.int .i64 t426)) (fun _ hk => hk.2) (.int .i64 t427)) (fun _ hk => hk.2) (.slice Ao17 t428.length co17)) (fun _ hk => hk.2) (.int .i64 t431)) (fun _ hk => hk.2) (.int .u32 t432)) (fun _ hk => hk.1.2)⟩, ⟨by (with_reducible repeat (first | refine blk_drewN ?_ _ | refine blk_drew ?_ | refine blk_alloc ?_ _)); refine blk_far ?_ NB420_434.out _; (with_reducible repeat (first | refine blk_drewN ?_ _ | refine blk_drew ?_ | refine blk_alloc ?_ _)); refine blk_far ?_ NB420_434.out _; (with_reducible repeat (first | refine blk_drewN ?_ _ | refine blk_drew ?_ | refine blk_alloc ?_ _)); refine blk_far ?_ NB420_434.out _; (with_reducible repeat (first | refine blk_drewN ?_ _ | refine blk_drew ?_ | refine blk_alloc ?_ _)); refine blk_far ?_ NB420_434.out _; (with_reducible repeat (first | refine blk_drewN ?_ _ | refine blk_drew ?_ | refine blk_alloc ?_ _)); refine blk_far ?_ NB420_434.out _; (with_reducible repeat (first | refine blk_drewN ?_ _ | refine blk_drew ?_ | refine blk_alloc ?_ _)); refine blk_far ?_ NB420_434.out _; (with_reducible repeat (first | refine blk_drewN ?_ _ | refine blk_drew ?_ | refine blk_alloc ?_ _)); refine blk_far ?_ NB420_434.out _; (with_reducible repeat (first | refine blk_drewN ?_ _ | refine blk_drew ?_ | refine blk_alloc ?_ _)); refine blk_far ?_ NB420_434.out _; (with_reducible repeat (first | refine blk_drewN ?_ _ | refine blk_drew ?_ | refine blk_alloc ?_ _)); refine blk_far ?_ NB420_434.out _; (with_reducible repeat (first | refine blk_drewN ?_ _ | refine blk_drew ?_ | refine blk_alloc ?_ _)); refine blk_far ?_ NB420_434.out _; (with_reducible repeat (first | refine blk_drewN ?_ _ | refine blk_drew ?_ | refine blk_alloc ?_ _)); exact BK420.out⟩, ⟨by (with_reducible repeat (first | refine blk_drewN ?_ _ | refine blk_drew ?_ | refine blk_alloc ?_ _)); refine blk_put (cs := #[.int .i64 t421, .int .i64 t422, .string t423, .int .i64 t424, .int .i64 t425, .int .i64 t426, .int .i64 t427, .slice Ao17 t428.length co17, .int .i64 t431, .int .u32 0]) ?_ 9 _ rfl; (with_reducible repeat (first | refine blk_drewN ?_ _ | refine blk_drew ?_ | refine blk_alloc ?_ _)); refine blk_put (cs := #[.int .i64 t421, .int .i64 t422, .string t423, .int .i64 t424, .int .i64 t425, .int .i64 t426, .int .i64 t427, .slice Ao17 t428.length co17, .int .i64 0, .int .u32 0]) ?_ 8 _ rfl; (with_reducible repeat (first | refine blk_drewN ?_ _ | refine blk_drew ?_ | refine blk_alloc ?_ _)); refine blk_put (cs := #[.int .i64 t421, .int .i64 t422, .string t423, .int .i64 t424, .int .i64 t425, .int .i64 t426, .int .i64 t427, .slice none 0 0, .int .i64 0, .int .u32 0]) ?_ 7 _ rfl; (with_reducible repeat (first | refine blk_drewN ?_ _ | refine blk_drew ?_ | refine blk_alloc ?_ _)); refine blk_put (cs := #[.int .i64 t421, .int .i64 t422, .string t423, .int .i64 t424, .int .i64 t425, .int .i64 t426, .int .i64 0, .slice none 0 0, .int .i64 0, .int .u32 0]) ?_ 6 _ rfl; (with_reducible repeat (first | refine blk_drewN ?_ _ | refine blk_drew ?_ | refine blk_alloc ?_ _)); refine blk_put (cs := #[.int .i64 t421, .int .i64 t422, .string t423, .int .i64 t424, .int .i64 t425, .int .i64 0, .int .i64 0, .slice none 0 0, .int .i64 0, .int .u32 0]) ?_ 5 _ rfl; (with_reducible repeat (first | refine blk_drewN ?_ _ | refine blk_drew ?_ | refine blk_alloc ?_ _)); refine blk_put (cs := #[.int .i64 t421, .int .i64 t422, .string t423, .int .i64 t424, .int .i64 0, .int .i64 0, .int .i64 0, .slice none 0 0, .int .i64 0, .int .u32 0]) ?_ 4 _ rfl; (with_reducible repeat (first | refine blk_drewN ?_ _ | refine blk_drew ?_ | refine blk_alloc ?_ _)); refine blk_put (cs := #[.int .i64 t421, .int .i64 t422, .string t423, .int .i64 0, .int .i64 0, .int .i64 0, .int .i64 0, .slice none 0 0, .int .i64 0, .int .u32 0]) ?_ 3 _ rfl; (with_reducible repeat (first | refine blk_drewN ?_ _ | refine blk_drew ?_ | refine blk_alloc ?_ _)); refine blk_put (cs := #[.int .i64 t421, .int .i64 t422, .string (⟨#[]⟩ : ByteArray), .int .i64 0, .int .i64 0, .int .i64 0, .int .i64 0, .slice none 0 0, .int .i64 0, .int .u32 0]) ?_ 2 _ rfl; (with_reducible repeat (first | refine blk_drewN ?_ _ | refine blk_drew ?_ | refine blk_alloc ?_ _)); refine blk_put (cs := #[.int .i64 t421, .int .i64 0, .string (⟨#[]⟩ : ByteArray), .int .i64 0, .int .i64 0, .int .i64 0, .int .i64 0, .slice none 0 0, .int .i64 0, .int .u32 0]) ?_ 1 _ rfl; (with_reducible repeat (first | refine blk_drewN ?_ _ | refine blk_drew ?_ | refine blk_alloc ?_ _)); refine blk_put (cs := #[.int .i64 0, .int .i64 0, .string (⟨#[]⟩ : ByteArray), .int .i64 0, .int .i64 0, .int .i64 0, .int .i64 0, .slice none 0 0, .int .i64 0, .int .u32 0]) ?_ 0 _ rfl; (with_reducible repeat (first | refine blk_drewN ?_ _ | refine blk_drew ?_ | refine blk_alloc ?_ _)); exact BK434.out⟩, ⟨by repeat (first | (with_reducible first | exact HB.out | apply below_alloc | apply pw_below_drewN | apply below_drew1 | refine below_set ?_ GE420.out | refine below_set ?_ GE434.out) | exact HB.out)⟩⟩
      · replace c18 := Bool.eq_false_iff.mpr c18
        subst c18
        have H1 : (pyxlaw13_ParamsApart.j0 k true t407 t408 t409 t410 t411 t412 t413 t414 t417 t418 t421 t422 t423 t424 t425 t426 t427 t428 t431 t432) = some r := by rw [if_neg (show ¬ (false = true) by decide)] at H; exact H
        clear H
        have H := H1
        clear H1
        have H' := Aside0.mk H
        clear H
        go_wp2
        go_meet
        case rel => exact ⟨_, (true), (by first | rfl | (simp; done) | (simp [*]; done)), H', ⟨by first | omega | exact Nat.le_refl _⟩, ⟨by (with_reducible repeat (first | apply Kd.R_alloc | apply Kd.R_drewN | apply Kd.R_drew)); exact Kd.R_mono (Kd.R_far (p := ⟨gb434, 9, none⟩) (Kd.R_far (p := ⟨gb434, 8, none⟩) (Kd.R_far (p := ⟨gb434, 7, none⟩) (Kd.R_far (p := ⟨gb434, 6, none⟩) (Kd.R_far (p := ⟨gb434, 5, none⟩) (Kd.R_far (p := ⟨gb434, 4, none⟩) (Kd.R_far (p := ⟨gb434, 3, none⟩) (Kd.R_far (p := ⟨gb434, 2, none⟩) (Kd.R_far (p := ⟨gb434, 1, none⟩) (Kd.R_far (p := ⟨gb434, 0, none⟩) (Kd.R_types HO416.out BK434.out (by decide)) (fun _ hk => hk.2) (.int .i64 t421)) (fun _ hk => hk.2) (.int .i64 t422)) (fun _ hk => hk.2) (.string t423)) (fun _ hk => hk.2) (.int .i64 t424)) (fun _ hk => hk.2) (.int .i64 t425)) (fun _ hk => hk.2) (.int .i64 t426)) (fun _ hk => hk.2) (.int .i64 t427)) (fun _ hk => hk.2) (.slice Ao17 t428.length co17)) (fun _ hk => hk.2) (.int .i64 t431)) (fun _ hk => hk.2) (.int .u32 t432)) (fun _ hk => hk.1.2)⟩, ⟨by (with_reducible repeat (first | apply Kd.R_alloc | apply Kd.R_drewN | apply Kd.R_drew)); exact Kd.R_mono (Kd.R_far (p := ⟨gb434, 9, none⟩) (Kd.R_far (p := ⟨gb434, 8, none⟩) (Kd.R_far (p := ⟨gb434, 7, none⟩) (Kd.R_far (p := ⟨gb434, 6, none⟩) (Kd.R_far (p := ⟨gb434, 5, none⟩) (Kd.R_far (p := ⟨gb434, 4, none⟩) (Kd.R_far (p := ⟨gb434, 3, none⟩) (Kd.R_far (p := ⟨gb434, 2, none⟩) (Kd.R_far (p := ⟨gb434, 1, none⟩) (Kd.R_far (p := ⟨gb434, 0, none⟩) (Kd.R_types HO430.out BK434.out (by decide)) (fun _ hk => hk.2) (.int .i64 t421)) (fun _ hk => hk.2) (.int .i64 t422)) (fun _ hk => hk.2) (.string t423)) (fun _ hk => hk.2) (.int .i64 t424)) (fun _ hk => hk.2) (.int .i64 t425)) (fun _ hk => hk.2) (.int .i64 t426)) (fun _ hk => hk.2) (.int .i64 t427)) (fun _ hk => hk.2) (.slice Ao17 t428.length co17)) (fun _ hk => hk.2) (.int .i64 t431)) (fun _ hk => hk.2) (.int .u32 t432)) (fun _ hk => hk.1.2)⟩, ⟨by (with_reducible repeat (first | refine blk_drewN ?_ _ | refine blk_drew ?_ | refine blk_alloc ?_ _)); refine blk_far ?_ NB420_434.out _; (with_reducible repeat (first | refine blk_drewN ?_ _ | refine blk_drew ?_ | refine blk_alloc ?_ _)); refine blk_far ?_ NB420_434.out _; (with_reducible repeat (first | refine blk_drewN ?_ _ | refine blk_drew ?_ | refine blk_alloc ?_ _)); refine blk_far ?_ NB420_434.out _; (with_reducible repeat (first | refine blk_drewN ?_ _ | refine blk_drew ?_ | refine blk_alloc ?_ _)); refine blk_far ?_ NB420_434.out _; (with_reducible repeat (first | refine blk_drewN ?_ _ | refine blk_drew ?_ | refine blk_alloc ?_ _)); refine blk_far ?_ NB420_434.out _; (with_reducible repeat (first | refine blk_drewN ?_ _ | refine blk_drew ?_ | refine blk_alloc ?_ _)); refine blk_far ?_ NB420_434.out _; (with_reducible repeat (first | refine blk_drewN ?_ _ | refine blk_drew ?_ | refine blk_alloc ?_ _)); refine blk_far ?_ NB420_434.out _; (with_reducible repeat (first | refine blk_drewN ?_ _ | refine blk_drew ?_ | refine blk_alloc ?_ _)); refine blk_far ?_ NB420_434.out _; (with_reducible repeat (first | refine blk_drewN ?_ _ | refine blk_drew ?_ | refine blk_alloc ?_ _)); refine blk_far ?_ NB420_434.out _; (with_reducible repeat (first | refine blk_drewN ?_ _ | refine blk_drew ?_ | refine blk_alloc ?_ _)); refine blk_far ?_ NB420_434.out _; (with_reducible repeat (first | refine blk_drewN ?_ _ | refine blk_drew ?_ | refine blk_alloc ?_ _)); exact BK420.out⟩, ⟨by (with_reducible repeat (first | refine blk_drewN ?_ _ | refine blk_drew ?_ | refine blk_alloc ?_ _)); refine blk_put (cs := #[.int .i64 t421, .int .i64 t422, .string t423, .int .i64 t424, .int .i64 t425, .int .i64 t426, .int .i64 t427, .slice Ao17 t428.length co17, .int .i64 t431, .int .u32 0]) ?_ 9 _ rfl; (with_reducible repeat (first | refine blk_drewN ?_ _ | refine blk_drew ?_ | refine blk_alloc ?_ _)); refine blk_put (cs := #[.int .i64 t421, .int .i64 t422, .string t423, .int .i64 t424, .int .i64 t425, .int .i64 t426, .int .i64 t427, .slice Ao17 t428.length co17, .int .i64 0, .int .u32 0]) ?_ 8 _ rfl; (with_reducible repeat (first | refine blk_drewN ?_ _ | refine blk_drew ?_ | refine blk_alloc ?_ _)); refine blk_put (cs := #[.int .i64 t421, .int .i64 t422, .string t423, .int .i64 t424, .int .i64 t425, .int .i64 t426, .int .i64 t427, .slice none 0 0, .int .i64 0, .int .u32 0]) ?_ 7 _ rfl; (with_reducible repeat (first | refine blk_drewN ?_ _ | refine blk_drew ?_ | refine blk_alloc ?_ _)); refine blk_put (cs := #[.int .i64 t421, .int .i64 t422, .string t423, .int .i64 t424, .int .i64 t425, .int .i64 t426, .int .i64 0, .slice none 0 0, .int .i64 0, .int .u32 0]) ?_ 6 _ rfl; (with_reducible repeat (first | refine blk_drewN ?_ _ | refine blk_drew ?_ | refine blk_alloc ?_ _)); refine blk_put (cs := #[.int .i64 t421, .int .i64 t422, .string t423, .int .i64 t424, .int .i64 t425, .int .i64 0, .int .i64 0, .slice none 0 0, .int .i64 0, .int .u32 0]) ?_ 5 _ rfl; (with_reducible repeat (first | refine blk_drewN ?_ _ | refine blk_drew ?_ | refine blk_alloc ?_ _)); refine blk_put (cs := #[.int .i64 t421, .int .i64 t422, .string t423, .int .i64 t424, .int .i64 0, .int .i64 0, .int .i64 0, .slice none 0 0, .int .i64 0, .int .u32 0]) ?_ 4 _ rfl; (with_reducible repeat (first | refine blk_drewN ?_ _ | refine blk_drew ?_ | refine blk_alloc ?_ _)); refine blk_put (cs := #[.int .i64 t421, .int .i64 t422, .string t423, .int .i64 0, .int .i64 0, .int .i64 0, .int .i64 0, .slice none 0 0, .int .i64 0, .int .u32 0]) ?_ 3 _ rfl; (with_reducible repeat (first | refine blk_drewN ?_ _ | refine blk_drew ?_ | refine blk_alloc ?_ _)); refine blk_put (cs := #[.int .i64 t421, .int .i64 t422, .string (⟨#[]⟩ : ByteArray), .int .i64 0, .int .i64 0, .int .i64 0, .int .i64 0, .slice none 0 0, .int .i64 0, .int .u32 0]) ?_ 2 _ rfl; (with_reducible repeat (first | refine blk_drewN ?_ _ | refine blk_drew ?_ | refine blk_alloc ?_ _)); refine blk_put (cs := #[.int .i64 t421, .int .i64 0, .string (⟨#[]⟩ : ByteArray), .int .i64 0, .int .i64 0, .int .i64 0, .int .i64 0, .slice none 0 0, .int .i64 0, .int .u32 0]) ?_ 1 _ rfl; (with_reducible repeat (first | refine blk_drewN ?_ _ | refine blk_drew ?_ | refine blk_alloc ?_ _)); refine blk_put (cs := #[.int .i64 0, .int .i64 0, .string (⟨#[]⟩ : ByteArray), .int .i64 0, .int .i64 0, .int .i64 0, .int .i64 0, .slice none 0 0, .int .i64 0, .int .u32 0]) ?_ 0 _ rfl; (with_reducible repeat (first | refine blk_drewN ?_ _ | refine blk_drew ?_ | refine blk_alloc ?_ _)); exact BK434.out⟩, ⟨by repeat (first | (with_reducible first | exact HB.out | apply below_alloc | apply pw_below_drewN | apply below_drew1 | refine below_set ?_ GE420.out | refine below_set ?_ GE434.out) | exact HB.out)⟩⟩
    case rest =>
      clear HC7
      try clear c1
      try clear c2
      try clear p2
      try clear c4
      try clear p6
      try clear c12
      try clear c15
      try clear c18
      try clear hcz11_0
      try clear hcz11_1
      try clear hcz11_2
      try clear hcz11_3
      try clear hcz11_4
      try clear hcz11_5
      try clear hcz11_6
      try clear hcz11_7
      try clear hcz11_8
      try clear hcz11_9
      try clear hcz16_0
      try clear hcz16_1
      try clear hcz16_2
      try clear hcz16_3
      try clear hcz16_4
      try clear hcz16_5
      try clear hcz16_6
      try clear hcz16_7
      try clear hcz16_8
      try clear hcz16_9
      try clear hfz11_0
      try clear hfz11_1
      try clear hfz11_2
      try clear hfz11_3
      try clear hfz11_4
      try clear hfz11_5
      try clear hfz11_6
      try clear hfz11_7
      try clear hfz11_8
      try clear hfz11_9
      try clear hfz16_0
      try clear hfz16_1
      try clear hfz16_2
      try clear hfz16_3
      try clear hfz16_4
      try clear hfz16_5
      try clear hfz16_6
      try clear hfz16_7
      try clear hfz16_8
      try clear hfz16_9
      obtain ⟨kq, x35_6, rfl, HA, HJ6, HO_421007, HO_435007, BK420, BK434, HB⟩ := hcut
      cases kq with
      | zero => exact absurd HA.out (by simp [pyxlaw13_ParamsApart.j0])
      | succ kj6 =>
        have H := HA.out
        clear HA
        simp only [pyxlaw13_ParamsApart.j0] at H
        by_cases c19 : x35_6 = true
        · subst c19
          have H1 : (some false) = some r := by rw [if_pos rfl] at H; exact H
          clear H
          have H := H1
          clear H1
          exact absurd ((Option.some.inj H).trans HT.out) (by decide)
        · replace c19 := Bool.eq_false_iff.mpr c19
          subst c19
          have H1 : ((params_ByName.f t409).bind fun bt435 => (if bt435.2.2.2.2.2.2.2.2.2.2 = true then (if bt435.1 = t407 then (if ((t409.toList == t423.toList) == (t407 == t421)) = true then (if t417 = 0 then (if t418 = 0 then ((params_ByOID.f t414).bind fun t449 => ((slices_Contains_int_int.f kj6 t449 t407).bind fun t452 => (some t452))) else (if ((t418 == t432) == (t407 == t421)) = true then ((params_ByOID.f t414).bind fun t453 => ((slices_Contains_int_int.f kj6 t453 t407).bind fun t456 => (some t456))) else (some false))) else (if ((t417 == t431) == (t407 == t421)) = true then (if t418 = 0 then ((params_ByOID.f t414).bind fun t457 => ((slices_Contains_int_int.f kj6 t457 t407).bind fun t460 => (some t460))) else (if ((t418 == t432) == (t407 == t421)) = true then ((params_ByOID.f t414).bind fun t461 => ((slices_Contains_int_int.f kj6 t461 t407).bind fun t464 => (some t464))) else (some false))) else (some false))) else (some false)) else (some false)) else (some false))) = some r := by rw [if_neg (show ¬ (false = true) by decide)] at H; exact H
          clear H
          have H := H1
          clear H1
          replace H := Option.bind_eq_some_iff.mp H
          obtain ⟨⟨t435, t436, t437, t438, t439, t440, t441, t442, t445, t446, t447⟩, A200, H⟩ := H
          replace H : (if t447 = true then (if t435 = t407 then (if ((t409.toList == t423.toList) == (t407 == t421)) = true then (if t417 = 0 then (if t418 = 0 then ((params_ByOID.f t414).bind fun t449 => ((slices_Contains_int_int.f kj6 t449 t407).bind fun t452 => (some t452))) else (if ((t418 == t432) == (t407 == t421)) = true then ((params_ByOID.f t414).bind fun t453 => ((slices_Contains_int_int.f kj6 t453 t407).bind fun t456 => (some t456))) else (some false))) else (if ((t417 == t431) == (t407 == t421)) = true then (if t418 = 0 then ((params_ByOID.f t414).bind fun t457 => ((slices_Contains_int_int.f kj6 t457 t407).bind fun t460 => (some t460))) else (if ((t418 == t432) == (t407 == t421)) = true then ((params_ByOID.f t414).bind fun t461 => ((slices_Contains_int_int.f kj6 t461 t407).bind fun t464 => (some t464))) else (some false))) else (some false))) else (some false)) else (some false)) else (some false)) = some r := H
          have A20 := Aside0.mk A200
          clear A200
          by_cases c21 : t447 = true
          · subst c21
            have H1 : (if t435 = t407 then (if ((t409.toList == t423.toList) == (t407 == t421)) = true then (if t417 = 0 then (if t418 = 0 then ((params_ByOID.f t414).bind fun t449 => ((slices_Contains_int_int.f kj6 t449 t407).bind fun t452 => (some t452))) else (if ((t418 == t432) == (t407 == t421)) = true then ((params_ByOID.f t414).bind fun t453 => ((slices_Contains_int_int.f kj6 t453 t407).bind fun t456 => (some t456))) else (some false))) else (if ((t417 == t431) == (t407 == t421)) = true then (if t418 = 0 then ((params_ByOID.f t414).bind fun t457 => ((slices_Contains_int_int.f kj6 t457 t407).bind fun t460 => (some t460))) else (if ((t418 == t432) == (t407 == t421)) = true then ((params_ByOID.f t414).bind fun t461 => ((slices_Contains_int_int.f kj6 t461 t407).bind fun t464 => (some t464))) else (some false))) else (some false))) else (some false)) else (some false)) = some r := by rw [if_pos rfl] at H; exact H
            clear H
            have H := H1
            clear H1
            by_cases c22 : t435 = t407
            · rw [if_pos c22] at H
              have c22b0 : (t435 == t407) = true := beq_iff_eq.mpr c22
              have c22b1 : (t435 != t407) = false := bne_eq_false_iff_eq.mpr c22
              clear c22
              by_cases c23 : ((t409.toList == t423.toList) == (t407 == t421)) = true
              · rw [if_pos c23] at H
                have c23b0 : ((t409.toList == t423.toList) == (t407 == t421)) = true := c23
                (try (have c23b1 : decide ((t409.toList == t423.toList) = (t407 == t421)) = true := by simpa using c23))
                (try (have c23b2 : ((t409.toList == t423.toList) == (t407 == t421)) = true := by simpa using c23))
                clear c23
                by_cases c24 : t417 = 0
                · rw [if_pos c24] at H
                  have c24b0 : (t417 == 0) = true := beq_iff_eq.mpr c24
                  have c24b1 : (t417 != 0) = false := bne_eq_false_iff_eq.mpr c24
                  clear c24
                  by_cases c25 : t418 = 0
                  · exact absurd c25 HW.out.2
                  · rw [if_neg c25] at H
                    have c25b0 : (t418 == 0) = false := beq_eq_false_iff_ne.mpr c25
                    have c25b1 : (t418 != 0) = true := bne_iff_ne.mpr c25
                    by_cases c42 : ((t418 == t432) == (t407 == t421)) = true
                    · rw [if_pos c42] at H
                      have c42b0 : ((t418 == t432) == (t407 == t421)) = true := c42
                      (try (have c42b1 : decide ((t418 == t432) = (t407 == t421)) = true := by simpa using c42))
                      (try (have c42b2 : ((t418 == t432) == (t407 == t421)) = true := by simpa using c42))
                      clear c42
                      replace H := Option.bind_eq_some_iff.mp H
                      obtain ⟨t453, A430, H⟩ := H
                      replace H : ((slices_Contains_int_int.f kj6 t453 t407).bind fun t456 => (some t456)) = some r := H
                      have A43 := Aside0.mk A430
                      clear A430
                      replace H := Option.bind_eq_some_iff.mp H
                      obtain ⟨t456, A440, H⟩ := H
                      replace H : (some t456) = some r := H
                      have A44 := Aside0.mk A440
                      clear A440
                      obtain rfl := Option.some.inj H
                      have hnb45 := NB420_434.out
                      have hnc45 := NB434_420.out
                      have hcz46_0 : wc.cell? ⟨gb420, 0, none⟩ = some (.int .i64 t407) := (blk_cell BK420.out 0).trans rfl
                      have hcz46_1 : wc.cell? ⟨gb420, 1, none⟩ = some (.int .i64 t408) := (blk_cell BK420.out 1).trans rfl
                      have hcz46_2 : wc.cell? ⟨gb420, 2, none⟩ = some (.string t409) := (blk_cell BK420.out 2).trans rfl
                      have hcz46_3 : wc.cell? ⟨gb420, 3, none⟩ = some (.int .i64 t410) := (blk_cell BK420.out 3).trans rfl
                      have hcz46_4 : wc.cell? ⟨gb420, 4, none⟩ = some (.int .i64 t411) := (blk_cell BK420.out 4).trans rfl
                      have hcz46_5 : wc.cell? ⟨gb420, 5, none⟩ = some (.int .i64 t412) := (blk_cell BK420.out 5).trans rfl
                      have hcz46_6 : wc.cell? ⟨gb420, 6, none⟩ = some (.int .i64 t413) := (blk_cell BK420.out 6).trans rfl
                      have hcz46_7 : wc.cell? ⟨gb420, 7, none⟩ = some (.slice Ao12 t414.length co12) := (blk_cell BK420.out 7).trans rfl
                      have hcz46_8 : wc.cell? ⟨gb420, 8, none⟩ = some (.int .i64 t417) := (blk_cell BK420.out 8).trans rfl
                      have hcz46_9 : wc.cell? ⟨gb420, 9, none⟩ = some (.int .u32 t418) := (blk_cell BK420.out 9).trans rfl
                      have hfz46_0 := blk_frozen BK420.out 0
                      have hfz46_1 := blk_frozen BK420.out 1
                      have hfz46_2 := blk_frozen BK420.out 2
                      have hfz46_3 := blk_frozen BK420.out 3
                      have hfz46_4 := blk_frozen BK420.out 4
                      have hfz46_5 := blk_frozen BK420.out 5
                      have hfz46_6 := blk_frozen BK420.out 6
                      have hfz46_7 := blk_frozen BK420.out 7
                      have hfz46_8 := blk_frozen BK420.out 8
                      have hfz46_9 := blk_frozen BK420.out 9
                      try go_wp2_with (first | ((with_reducible refine gate_callee (f := 35) rfl ?_); refine goesL_ (some 39) rfl rfl Tryd.func35 (by kernel_rfl) rfl #[.string t409] rfl (by (try simp only [List.map_toArray, List.map_cons, List.map_nil]); first | done | rfl | (simp only [List.length_drop, List.length_take]; rfl)) ?_; (with_reducible refine (params_ByName.calls t409 t435 t436 t437 t438 t439 t440 t441 t442 t445 t446 true _ A20.out (by first | exact GOK.below HG.out (by repeat (first | (with_reducible first | exact HB.out | apply below_alloc | apply pw_below_drewN | apply below_drew1 | refine below_set ?_ GE420.out | refine below_set ?_ GE434.out) | exact HB.out)) | (repeat (first | exact HG.out | apply GOK.drewN | apply GOK.drew)))).mono ?_); rintro e w47 ⟨v443, rfl, ho0, hb⟩; refine ⟨_, rfl, ?_⟩; have n0_ := Aside0.mk (Kd.R_elder' (by (with_reducible repeat (first | apply Kd.R_alloc | apply Kd.R_drewN | apply Kd.R_drew)); exact HO_421007.out) (Kd.R_base ho0) hb); have n1_ := Aside0.mk (Kd.R_elder' (by (with_reducible repeat (first | apply Kd.R_alloc | apply Kd.R_drewN | apply Kd.R_drew)); exact HO_435007.out) (Kd.R_base ho0) hb); have n2_ := Aside0.mk (Kd.R_lower (Kd.R_new' (Kd.R_new' ho0 (Kd.R_lt (by (with_reducible repeat (first | apply Kd.R_alloc | apply Kd.R_drewN | apply Kd.R_drew)); exact HO_421007.out))) (Kd.R_lt (by (with_reducible repeat (first | apply Kd.R_alloc | apply Kd.R_drewN | apply Kd.R_drew)); exact HO_435007.out))) (below_size (by repeat (first | (with_reducible first | exact HB.out | apply below_alloc | apply pw_below_drewN | apply below_drew1 | refine below_set ?_ GE420.out | refine below_set ?_ GE434.out) | exact HB.out)))); have n3_ := Aside0.mk (blk_below (g := gb420) (o := .cells #[.int .i64 t407, .int .i64 t408, .string t409, .int .i64 t410, .int .i64 t411, .int .i64 t412, .int .i64 t413, .slice Ao12 t414.length co12, .int .i64 t417, .int .u32 t418] 37 (0, 0)) (by (with_reducible repeat (first | refine blk_drewN ?_ _ | refine blk_drew ?_ | refine blk_alloc ?_ _)); exact BK420.out) hb); have n4_ := Aside0.mk (blk_below (g := gb434) (o := .cells #[.int .i64 t421, .int .i64 t422, .string t423, .int .i64 t424, .int .i64 t425, .int .i64 t426, .int .i64 t427, .slice Ao17 t428.length co17, .int .i64 t431, .int .u32 t432] 37 (0, 0)) (by (with_reducible repeat (first | refine blk_drewN ?_ _ | refine blk_drew ?_ | refine blk_alloc ?_ _)); exact BK434.out) hb); have n5_ := Aside0.mk (below_step (by repeat (first | (with_reducible first | exact HB.out | apply below_alloc | apply pw_below_drewN | apply below_drew1 | refine below_set ?_ GE420.out | refine below_set ?_ GE434.out) | exact HB.out)) hb); clear HO_421007; clear HO_435007; clear BK420; clear BK434; clear HB; have HO_421007 := n0_; have HO_435007 := n1_; have HO444 := n2_; have BK420 := n3_; have BK434 := n4_; have HB := n5_; clear n0_ n1_ n2_ n3_ n4_ n5_; (try clear hb); (try clear hb2); (try clear hk); (try clear hi); (try clear ho0)) | ((with_reducible refine gate_dst (N := 9) rfl ?_); refine box_event ?hg (N := 9) ?hd (cs := #[.int .i64 0, .int .i64 0, .string (⟨#[]⟩ : ByteArray), .int .i64 0, .int .i64 0, .int .i64 0, .int .i64 0, .slice none 0 0, .int .i64 0, .int .u32 0]) (t := 37) ?hr ?_; (case hd => rfl); (case hg => rfl); (case hr => first | (go_simp; done) | (go_simp; rfl)); intro gb448 hg w48 hbox hb; have n0_ := Aside0.mk (Kd.R_below (by (with_reducible repeat (first | apply Kd.R_alloc | apply Kd.R_drewN | apply Kd.R_drew)); exact HO_421007.out) hb); have n1_ := Aside0.mk (Kd.R_below (by (with_reducible repeat (first | apply Kd.R_alloc | apply Kd.R_drewN | apply Kd.R_drew)); exact HO_435007.out) hb); have n2_ := Aside0.mk (Kd.R_below (by (with_reducible repeat (first | apply Kd.R_alloc | apply Kd.R_drewN | apply Kd.R_drew)); exact HO444.out) hb); have n3_ := Aside0.mk (blk_below (g := gb420) (o := .cells #[.int .i64 t407, .int .i64 t408, .string t409, .int .i64 t410, .int .i64 t411, .int .i64 t412, .int .i64 t413, .slice Ao12 t414.length co12, .int .i64 t417, .int .u32 t418] 37 (0, 0)) (by (with_reducible repeat (first | refine blk_drewN ?_ _ | refine blk_drew ?_ | refine blk_alloc ?_ _)); exact BK420.out) hb); have n4_ := Aside0.mk (blk_below (g := gb434) (o := .cells #[.int .i64 t421, .int .i64 t422, .string t423, .int .i64 t424, .int .i64 t425, .int .i64 t426, .int .i64 t427, .slice Ao17 t428.length co17, .int .i64 t431, .int .u32 t432] 37 (0, 0)) (by (with_reducible repeat (first | refine blk_drewN ?_ _ | refine blk_drew ?_ | refine blk_alloc ?_ _)); exact BK434.out) hb); have n5_ := Aside0.mk (below_step (by repeat (first | (with_reducible first | exact HB.out | apply below_alloc | apply pw_below_drewN | apply below_drew1 | refine below_set ?_ GE420.out | refine below_set ?_ GE434.out) | exact HB.out)) hb); have n6_ := Aside0.mk (hbox); have n7_ := Aside0.mk ((by rw [hg]; exact (below_size (by repeat (first | (with_reducible first | exact HB.out | apply below_alloc | apply pw_below_drewN | apply below_drew1 | refine below_set ?_ GE420.out | refine below_set ?_ GE434.out) | exact HB.out))) : w.heap.size ≤ gb448)); have n8_ := Aside0.mk ((by rw [hg]; exact (below_size (by repeat (first | (with_reducible first | exact HB.out | apply below_alloc | apply pw_below_drewN | apply below_drew1 | refine below_set ?_ GE420.out | refine below_set ?_ GE434.out) | exact HB.out))) : w.heap.size ≤ gb448)); have n9_ := Aside0.mk ((by rw [hg]; exact Nat.ne_of_lt (blk_lt (g := gb420) (o := .cells #[.int .i64 t407, .int .i64 t408, .string t409, .int .i64 t410, .int .i64 t411, .int .i64 t412, .int .i64 t413, .slice Ao12 t414.length co12, .int .i64 t417, .int .u32 t418] 37 (0, 0)) (by (with_reducible repeat (first | refine blk_drewN ?_ _ | refine blk_drew ?_ | refine blk_alloc ?_ _)); exact BK420.out)) : gb420 ≠ gb448)); have n10_ := Aside0.mk ((by rw [hg]; exact Nat.ne_of_gt (blk_lt (g := gb420) (o := .cells #[.int .i64 t407, .int .i64 t408, .string t409, .int .i64 t410, .int .i64 t411, .int .i64 t412, .int .i64 t413, .slice Ao12 t414.length co12, .int .i64 t417, .int .u32 t418] 37 (0, 0)) (by (with_reducible repeat (first | refine blk_drewN ?_ _ | refine blk_drew ?_ | refine blk_alloc ?_ _)); exact BK420.out)) : gb448 ≠ gb420)); have n11_ := Aside0.mk ((by rw [hg]; exact Nat.ne_of_lt (blk_lt (g := gb434) (o := .cells #[.int .i64 t421, .int .i64 t422, .string t423, .int .i64 t424, .int .i64 t425, .int .i64 t426, .int .i64 t427, .slice Ao17 t428.length co17, .int .i64 t431, .int .u32 t432] 37 (0, 0)) (by (with_reducible repeat (first | refine blk_drewN ?_ _ | refine blk_drew ?_ | refine blk_alloc ?_ _)); exact BK434.out)) : gb434 ≠ gb448)); have n12_ := Aside0.mk ((by rw [hg]; exact Nat.ne_of_gt (blk_lt (g := gb434) (o := .cells #[.int .i64 t421, .int .i64 t422, .string t423, .int .i64 t424, .int .i64 t425, .int .i64 t426, .int .i64 t427, .slice Ao17 t428.length co17, .int .i64 t431, .int .u32 t432] 37 (0, 0)) (by (with_reducible repeat (first | refine blk_drewN ?_ _ | refine blk_drew ?_ | refine blk_alloc ?_ _)); exact BK434.out)) : gb448 ≠ gb434)); clear HO_421007; clear HO_435007; clear HO444; clear BK420; clear BK434; clear HB; have HO_421007 := n0_; have HO_435007 := n1_; have HO444 := n2_; have BK420 := n3_; have BK434 := n4_; have HB := n5_; have BK448 := n6_; have GW448 := n7_; have GE448 := n8_; have NB420_448 := n9_; have NB448_420 := n10_; have NB434_448 := n11_; have NB448_434 := n12_; clear n0_ n1_ n2_ n3_ n4_ n5_ n6_ n7_ n8_ n9_ n10_ n11_ n12_; clear hb hbox hg; have hnb49 := NB448_420.out; have hnc49 := NB420_448.out; have hnb50 := NB448_434.out; have hnc50 := NB434_448.out; have hcz51_0 : w48.cell? ⟨gb448, 0, none⟩ = some (.int .i64 0) := (blk_cell BK448.out 0).trans rfl; have hcz51_1 : w48.cell? ⟨gb448, 1, none⟩ = some (.int .i64 0) := (blk_cell BK448.out 1).trans rfl; have hcz51_2 : w48.cell? ⟨gb448, 2, none⟩ = some (.string (⟨#[]⟩ : ByteArray)) := (blk_cell BK448.out 2).trans rfl; have hcz51_3 : w48.cell? ⟨gb448, 3, none⟩ = some (.int .i64 0) := (blk_cell BK448.out 3).trans rfl; have hcz51_4 : w48.cell? ⟨gb448, 4, none⟩ = some (.int .i64 0) := (blk_cell BK448.out 4).trans rfl; have hcz51_5 : w48.cell? ⟨gb448, 5, none⟩ = some (.int .i64 0) := (blk_cell BK448.out 5).trans rfl; have hcz51_6 : w48.cell? ⟨gb448, 6, none⟩ = some (.int .i64 0) := (blk_cell BK448.out 6).trans rfl; have hcz51_7 : w48.cell? ⟨gb448, 7, none⟩ = some (.slice none 0 0) := (blk_cell BK448.out 7).trans rfl; have hcz51_8 : w48.cell? ⟨gb448, 8, none⟩ = some (.int .i64 0) := (blk_cell BK448.out 8).trans rfl; have hcz51_9 : w48.cell? ⟨gb448, 9, none⟩ = some (.int .u32 0) := (blk_cell BK448.out 9).trans rfl; have hfz51_0 := blk_frozen BK448.out 0; have hfz51_1 := blk_frozen BK448.out 1; have hfz51_2 := blk_frozen BK448.out 2; have hfz51_3 := blk_frozen BK448.out 3; have hfz51_4 := blk_frozen BK448.out 4; have hfz51_5 := blk_frozen BK448.out 5; have hfz51_6 := blk_frozen BK448.out 6; have hfz51_7 := blk_frozen BK448.out 7; have hfz51_8 := blk_frozen BK448.out 8; have hfz51_9 := blk_frozen BK448.out 9; obtain ⟨Ao52, co52, eo52⟩ := Kd.R_slice HO444.out; subst eo52; have hcz53_0 : w48.cell? ⟨gb420, 0, none⟩ = some (.int .i64 t407) := (blk_cell BK420.out 0).trans rfl; have hcz53_1 : w48.cell? ⟨gb420, 1, none⟩ = some (.int .i64 t408) := (blk_cell BK420.out 1).trans rfl; have hcz53_2 : w48.cell? ⟨gb420, 2, none⟩ = some (.string t409) := (blk_cell BK420.out 2).trans rfl; have hcz53_3 : w48.cell? ⟨gb420, 3, none⟩ = some (.int .i64 t410) := (blk_cell BK420.out 3).trans rfl; have hcz53_4 : w48.cell? ⟨gb420, 4, none⟩ = some (.int .i64 t411) := (blk_cell BK420.out 4).trans rfl; have hcz53_5 : w48.cell? ⟨gb420, 5, none⟩ = some (.int .i64 t412) := (blk_cell BK420.out 5).trans rfl; have hcz53_6 : w48.cell? ⟨gb420, 6, none⟩ = some (.int .i64 t413) := (blk_cell BK420.out 6).trans rfl; have hcz53_7 : w48.cell? ⟨gb420, 7, none⟩ = some (.slice Ao12 t414.length co12) := (blk_cell BK420.out 7).trans rfl; have hcz53_8 : w48.cell? ⟨gb420, 8, none⟩ = some (.int .i64 t417) := (blk_cell BK420.out 8).trans rfl; have hcz53_9 : w48.cell? ⟨gb420, 9, none⟩ = some (.int .u32 t418) := (blk_cell BK420.out 9).trans rfl; have hfz53_0 := blk_frozen BK420.out 0; have hfz53_1 := blk_frozen BK420.out 1; have hfz53_2 := blk_frozen BK420.out 2; have hfz53_3 := blk_frozen BK420.out 3; have hfz53_4 := blk_frozen BK420.out 4; have hfz53_5 := blk_frozen BK420.out 5; have hfz53_6 := blk_frozen BK420.out 6; have hfz53_7 := blk_frozen BK420.out 7; have hfz53_8 := blk_frozen BK420.out 8; have hfz53_9 := blk_frozen BK420.out 9; have hcz54_0 : w48.cell? ⟨gb434, 0, none⟩ = some (.int .i64 t421) := (blk_cell BK434.out 0).trans rfl; have hcz54_1 : w48.cell? ⟨gb434, 1, none⟩ = some (.int .i64 t422) := (blk_cell BK434.out 1).trans rfl; have hcz54_2 : w48.cell? ⟨gb434, 2, none⟩ = some (.string t423) := (blk_cell BK434.out 2).trans rfl; have hcz54_3 : w48.cell? ⟨gb434, 3, none⟩ = some (.int .i64 t424) := (blk_cell BK434.out 3).trans rfl; have hcz54_4 : w48.cell? ⟨gb434, 4, none⟩ = some (.int .i64 t425) := (blk_cell BK434.out 4).trans rfl; have hcz54_5 : w48.cell? ⟨gb434, 5, none⟩ = some (.int .i64 t426) := (blk_cell BK434.out 5).trans rfl; have hcz54_6 : w48.cell? ⟨gb434, 6, none⟩ = some (.int .i64 t427) := (blk_cell BK434.out 6).trans rfl; have hcz54_7 : w48.cell? ⟨gb434, 7, none⟩ = some (.slice Ao17 t428.length co17) := (blk_cell BK434.out 7).trans rfl; have hcz54_8 : w48.cell? ⟨gb434, 8, none⟩ = some (.int .i64 t431) := (blk_cell BK434.out 8).trans rfl; have hcz54_9 : w48.cell? ⟨gb434, 9, none⟩ = some (.int .u32 t432) := (blk_cell BK434.out 9).trans rfl; have hfz54_0 := blk_frozen BK434.out 0; have hfz54_1 := blk_frozen BK434.out 1; have hfz54_2 := blk_frozen BK434.out 2; have hfz54_3 := blk_frozen BK434.out 3; have hfz54_4 := blk_frozen BK434.out 4; have hfz54_5 := blk_frozen BK434.out 5; have hfz54_6 := blk_frozen BK434.out 6; have hfz54_7 := blk_frozen BK434.out 7; have hfz54_8 := blk_frozen BK434.out 8; have hfz54_9 := blk_frozen BK434.out 9))
                      have n0_ : Aside0 (Kd.R (Kd.int .u32) 33 ((((((((((w48.setCell ⟨gb448, 0, none⟩ (.int .i64 t435)).setCell ⟨gb448, 1, none⟩ (.int .i64 t436)).setCell ⟨gb448, 2, none⟩ (.string t437)).setCell ⟨gb448, 3, none⟩ (.int .i64 t438)).setCell ⟨gb448, 4, none⟩ (.int .i64 t439)).setCell ⟨gb448, 5, none⟩ (.int .i64 t440)).setCell ⟨gb448, 6, none⟩ (.int .i64 t441)).setCell ⟨gb448, 7, none⟩ (.slice Ao52 t442.length co52)).setCell ⟨gb448, 8, none⟩ (.int .i64 t445)).setCell ⟨gb448, 9, none⟩ (.int .u32 t446)) w.heap.size (fun k_ => some k_ ≠ (.slice Ao17 t428.length co17 : Value).ownBlock ∧ some k_ ≠ (.slice Ao52 t442.length co52 : Value).ownBlock) (.slice Ao12 t414.length co12) t414) := ⟨by (with_reducible repeat (first | apply Kd.R_alloc | apply Kd.R_drewN | apply Kd.R_drew)); exact Kd.R_mono (Kd.R_far (p := ⟨gb448, 9, none⟩) (Kd.R_far (p := ⟨gb448, 8, none⟩) (Kd.R_far (p := ⟨gb448, 7, none⟩) (Kd.R_far (p := ⟨gb448, 6, none⟩) (Kd.R_far (p := ⟨gb448, 5, none⟩) (Kd.R_far (p := ⟨gb448, 4, none⟩) (Kd.R_far (p := ⟨gb448, 3, none⟩) (Kd.R_far (p := ⟨gb448, 2, none⟩) (Kd.R_far (p := ⟨gb448, 1, none⟩) (Kd.R_far (p := ⟨gb448, 0, none⟩) (Kd.R_types HO_421007.out BK448.out (by decide)) (fun _ hk => hk.2) (.int .i64 t435)) (fun _ hk => hk.2) (.int .i64 t436)) (fun _ hk => hk.2) (.string t437)) (fun _ hk => hk.2) (.int .i64 t438)) (fun _ hk => hk.2) (.int .i64 t439)) (fun _ hk => hk.2) (.int .i64 t440)) (fun _ hk => hk.2) (.int .i64 t441)) (fun _ hk => hk.2) (.slice Ao52 t442.length co52)) (fun _ hk => hk.2) (.int .i64 t445)) (fun _ hk => hk.2) (.int .u32 t446)) (fun _ hk => ⟨hk.1.1, hk.1.2⟩)⟩
                      have n1_ : Aside0 (Kd.R (Kd.int .u32) 33 ((((((((((w48.setCell ⟨gb448, 0, none⟩ (.int .i64 t435)).setCell ⟨gb448, 1, none⟩ (.int .i64 t436)).setCell ⟨gb448, 2, none⟩ (.string t437)).setCell ⟨gb448, 3, none⟩ (.int .i64 t438)).setCell ⟨gb448, 4, none⟩ (.int .i64 t439)).setCell ⟨gb448, 5, none⟩ (.int .i64 t440)).setCell ⟨gb448, 6, none⟩ (.int .i64 t441)).setCell ⟨gb448, 7, none⟩ (.slice Ao52 t442.length co52)).setCell ⟨gb448, 8, none⟩ (.int .i64 t445)).setCell ⟨gb448, 9, none⟩ (.int .u32 t446)) w.heap.size (fun k_ => some k_ ≠ (.slice Ao12 t414.length co12 : Value).ownBlock ∧ some k_ ≠ (.slice Ao52 t442.length co52 : Value).ownBlock) (.slice Ao17 t428.length co17) t428) := ⟨by (with_reducible repeat (first | apply Kd.R_alloc | apply Kd.R_drewN | apply Kd.R_drew)); exact Kd.R_mono (Kd.R_far (p := ⟨gb448, 9, none⟩) (Kd.R_far (p := ⟨gb448, 8, none⟩) (Kd.R_far (p := ⟨gb448, 7, none⟩) (Kd.R_far (p := ⟨gb448, 6, none⟩) (Kd.R_far (p := ⟨gb448, 5, none⟩) (Kd.R_far (p := ⟨gb448, 4, none⟩) (Kd.R_far (p := ⟨gb448, 3, none⟩) (Kd.R_far (p := ⟨gb448, 2, none⟩) (Kd.R_far (p := ⟨gb448, 1, none⟩) (Kd.R_far (p := ⟨gb448, 0, none⟩) (Kd.R_types HO_435007.out BK448.out (by decide)) (fun _ hk => hk.2) (.int .i64 t435)) (fun _ hk => hk.2) (.int .i64 t436)) (fun _ hk => hk.2) (.string t437)) (fun _ hk => hk.2) (.int .i64 t438)) (fun _ hk => hk.2) (.int .i64 t439)) (fun _ hk => hk.2) (.int .i64 t440)) (fun _ hk => hk.2) (.int .i64 t441)) (fun _ hk => hk.2) (.slice Ao52 t442.length co52)) (fun _ hk => hk.2) (.int .i64 t445)) (fun _ hk => hk.2) (.int .u32 t446)) (fun _ hk => ⟨hk.1.1, hk.1.2⟩)⟩
                      have n2_ : Aside0 (Kd.R (Kd.int .u32) 33 ((((((((((w48.setCell ⟨gb448, 0, none⟩ (.int .i64 t435)).setCell ⟨gb448, 1, none⟩ (.int .i64 t436)).setCell ⟨gb448, 2, none⟩ (.string t437)).setCell ⟨gb448, 3, none⟩ (.int .i64 t438)).setCell ⟨gb448, 4, none⟩ (.int .i64 t439)).setCell ⟨gb448, 5, none⟩ (.int .i64 t440)).setCell ⟨gb448, 6, none⟩ (.int .i64 t441)).setCell ⟨gb448, 7, none⟩ (.slice Ao52 t442.length co52)).setCell ⟨gb448, 8, none⟩ (.int .i64 t445)).setCell ⟨gb448, 9, none⟩ (.int .u32 t446)) w.heap.size (fun k_ => some k_ ≠ (.slice Ao12 t414.length co12 : Value).ownBlock ∧ some k_ ≠ (.slice Ao17 t428.length co17 : Value).ownBlock) (.slice Ao52 t442.length co52) t442) := ⟨by (with_reducible repeat (first | apply Kd.R_alloc | apply Kd.R_drewN | apply Kd.R_drew)); exact Kd.R_mono (Kd.R_far (p := ⟨gb448, 9, none⟩) (Kd.R_far (p := ⟨gb448, 8, none⟩) (Kd.R_far (p := ⟨gb448, 7, none⟩) (Kd.R_far (p := ⟨gb448, 6, none⟩) (Kd.R_far (p := ⟨gb448, 5, none⟩) (Kd.R_far (p := ⟨gb448, 4, none⟩) (Kd.R_far (p := ⟨gb448, 3, none⟩) (Kd.R_far (p := ⟨gb448, 2, none⟩) (Kd.R_far (p := ⟨gb448, 1, none⟩) (Kd.R_far (p := ⟨gb448, 0, none⟩) (Kd.R_types HO444.out BK448.out (by decide)) (fun _ hk => hk.2) (.int .i64 t435)) (fun _ hk => hk.2) (.int .i64 t436)) (fun _ hk => hk.2) (.string t437)) (fun _ hk => hk.2) (.int .i64 t438)) (fun _ hk => hk.2) (.int .i64 t439)) (fun _ hk => hk.2) (.int .i64 t440)) (fun _ hk => hk.2) (.int .i64 t441)) (fun _ hk => hk.2) (.slice Ao52 t442.length co52)) (fun _ hk => hk.2) (.int .i64 t445)) (fun _ hk => hk.2) (.int .u32 t446)) (fun _ hk => ⟨hk.1.1.2, hk.1.2⟩)⟩
                      have n3_ : Aside0 (((((((((((w48.setCell ⟨gb448, 0, none⟩ (.int .i64 t435)).setCell ⟨gb448, 1, none⟩ (.int .i64 t436)).setCell ⟨gb448, 2, none⟩ (.string t437)).setCell ⟨gb448, 3, none⟩ (.int .i64 t438)).setCell ⟨gb448, 4, none⟩ (.int .i64 t439)).setCell ⟨gb448, 5, none⟩ (.int .i64 t440)).setCell ⟨gb448, 6, none⟩ (.int .i64 t441)).setCell ⟨gb448, 7, none⟩ (.slice Ao52 t442.length co52)).setCell ⟨gb448, 8, none⟩ (.int .i64 t445)).setCell ⟨gb448, 9, none⟩ (.int .u32 t446)).heap[gb420]? = some (.cells #[.int .i64 t407, .int .i64 t408, .string t409, .int .i64 t410, .int .i64 t411, .int .i64 t412, .int .i64 t413, .slice Ao12 t414.length co12, .int .i64 t417, .int .u32 t418] 37 (0, 0))) := ⟨by (with_reducible repeat (first | refine blk_drewN ?_ _ | refine blk_drew ?_ | refine blk_alloc ?_ _)); refine blk_far ?_ NB420_448.out _; (with_reducible repeat (first | refine blk_drewN ?_ _ | refine blk_drew ?_ | refine blk_alloc ?_ _)); refine blk_far ?_ NB420_448.out _; (with_reducible repeat (first | refine blk_drewN ?_ _ | refine blk_drew ?_ | refine blk_alloc ?_ _)); refine blk_far ?_ NB420_448.out _; (with_reducible repeat (first | refine blk_drewN ?_ _ | refine blk_drew ?_ | refine blk_alloc ?_ _)); refine blk_far ?_ NB420_448.out _; (with_reducible repeat (first | refine blk_drewN ?_ _ | refine blk_drew ?_ | refine blk_alloc ?_ _)); refine blk_far ?_ NB420_448.out _; (with_reducible repeat (first | refine blk_drewN ?_ _ | refine blk_drew ?_ | refine blk_alloc ?_ _)); refine blk_far ?_ NB420_448.out _; (with_reducible repeat (first | refine blk_drewN ?_ _ | refine blk_drew ?_ | refine blk_alloc ?_ _)); refine blk_far ?_ NB420_448.out _; (with_reducible repeat (first | refine blk_drewN ?_ _ | refine blk_drew ?_ | refine blk_alloc ?_ _)); refine blk_far ?_ NB420_448.out _; (with_reducible repeat (first | refine blk_drewN ?_ _ | refine blk_drew ?_ | refine blk_alloc ?_ _)); refine blk_far ?_ NB420_448.out _; (with_reducible repeat (first | refine blk_drewN ?_ _ | refine blk_drew ?_ | refine blk_alloc ?_ _)); refine blk_far ?_ NB420_448.out _; (with_reducible repeat (first | refine blk_drewN ?_ _ | refine blk_drew ?_ | refine blk_alloc ?_ _)); exact BK420.out⟩
                      have n4_ : Aside0 (((((((((((w48.setCell ⟨gb448, 0, none⟩ (.int .i64 t435)).setCell ⟨gb448, 1, none⟩ (.int .i64 t436)).setCell ⟨gb448, 2, none⟩ (.string t437)).setCell ⟨gb448, 3, none⟩ (.int .i64 t438)).setCell ⟨gb448, 4, none⟩ (.int .i64 t439)).setCell ⟨gb448, 5, none⟩ (.int .i64 t440)).setCell ⟨gb448, 6, none⟩ (.int .i64 t441)).setCell ⟨gb448, 7, none⟩ (.slice Ao52 t442.length co52)).setCell ⟨gb448, 8, none⟩ (.int .i64 t445)).setCell ⟨gb448, 9, none⟩ (.int .u32 t446)).heap[gb434]? = some (.cells #[.int .i64 t421, .int .i64 t422, .string t423, .int .i64 t424, .int .i64 t425, .int .i64 t426, .int .i64 t427, .slice Ao17 t428.length co17, .int .i64 t431, .int .u32 t432] 37 (0, 0))) := ⟨by (with_reducible repeat (first | refine blk_drewN ?_ _ | refine blk_drew ?_ | refine blk_alloc ?_ _)); refine blk_far ?_ NB434_448.out _; (with_reducible repeat (first | refine blk_drewN ?_ _ | refine blk_drew ?_ | refine blk_alloc ?_ _)); refine blk_far ?_ NB434_448.out _; (with_reducible repeat (first | refine blk_drewN ?_ _ | refine blk_drew ?_ | refine blk_alloc ?_ _)); refine blk_far ?_ NB434_448.out _; (with_reducible repeat (first | refine blk_drewN ?_ _ | refine blk_drew ?_ | refine blk_alloc ?_ _)); refine blk_far ?_ NB434_448.out _; (with_reducible repeat (first | refine blk_drewN ?_ _ | refine blk_drew ?_ | refine blk_alloc ?_ _)); refine blk_far ?_ NB434_448.out _; (with_reducible repeat (first | refine blk_drewN ?_ _ | refine blk_drew ?_ | refine blk_alloc ?_ _)); refine blk_far ?_ NB434_448.out _; (with_reducible repeat (first | refine blk_drewN ?_ _ | refine blk_drew ?_ | refine blk_alloc ?_ _)); refine blk_far ?_ NB434_448.out _; (with_reducible repeat (first | refine blk_drewN ?_ _ | refine blk_drew ?_ | refine blk_alloc ?_ _)); refine blk_far ?_ NB434_448.out _; (with_reducible repeat (first | refine blk_drewN ?_ _ | refine blk_drew ?_ | refine blk_alloc ?_ _)); refine blk_far ?_ NB434_448.out _; (with_reducible repeat (first | refine blk_drewN ?_ _ | refine blk_drew ?_ | refine blk_alloc ?_ _)); refine blk_far ?_ NB434_448.out _; (with_reducible repeat (first | refine blk_drewN ?_ _ | refine blk_drew ?_ | refine blk_alloc ?_ _)); exact BK434.out⟩
                      have n5_ : Aside0 (((((((((((w48.setCell ⟨gb448, 0, none⟩ (.int .i64 t435)).setCell ⟨gb448, 1, none⟩ (.int .i64 t436)).setCell ⟨gb448, 2, none⟩ (.string t437)).setCell ⟨gb448, 3, none⟩ (.int .i64 t438)).setCell ⟨gb448, 4, none⟩ (.int .i64 t439)).setCell ⟨gb448, 5, none⟩ (.int .i64 t440)).setCell ⟨gb448, 6, none⟩ (.int .i64 t441)).setCell ⟨gb448, 7, none⟩ (.slice Ao52 t442.length co52)).setCell ⟨gb448, 8, none⟩ (.int .i64 t445)).setCell ⟨gb448, 9, none⟩ (.int .u32 t446)).heap[gb448]? = some (.cells #[.int .i64 t435, .int .i64 t436, .string t437, .int .i64 t438, .int .i64 t439, .int .i64 t440, .int .i64 t441, .slice Ao52 t442.length co52, .int .i64 t445, .int .u32 t446] 37 (0, 0))) := ⟨by (with_reducible repeat (first | refine blk_drewN ?_ _ | refine blk_drew ?_ | refine blk_alloc ?_ _)); refine blk_put (cs := #[.int .i64 t435, .int .i64 t436, .string t437, .int .i64 t438, .int .i64 t439, .int .i64 t440, .int .i64 t441, .slice Ao52 t442.length co52, .int .i64 t445, .int .u32 0]) ?_ 9 _ rfl; (with_reducible repeat (first | refine blk_drewN ?_ _ | refine blk_drew ?_ | refine blk_alloc ?_ _)); refine blk_put (cs := #[.int .i64 t435, .int .i64 t436, .string t437, .int .i64 t438, .int .i64 t439, .int .i64 t440, .int .i64 t441, .slice Ao52 t442.length co52, .int .i64 0, .int .u32 0]) ?_ 8 _ rfl; (with_reducible repeat (first | refine blk_drewN ?_ _ | refine blk_drew ?_ | refine blk_alloc ?_ _)); refine blk_put (cs := #[.int .i64 t435, .int .i64 t436, .string t437, .int .i64 t438, .int .i64 t439, .int .i64 t440, .int .i64 t441, .slice none 0 0, .int .i64 0, .int .u32 0]) ?_ 7 _ rfl; (with_reducible repeat (first | refine blk_drewN ?_ _ | refine blk_drew ?_ | refine blk_alloc ?_ _)); refine blk_put (cs := #[.int .i64 t435, .int .i64 t436, .string t437, .int .i64 t438, .int .i64 t439, .int .i64 t440, .int .i64 0, .slice none 0 0, .int .i64 0, .int .u32 0]) ?_ 6 _ rfl; (with_reducible repeat (first | refine blk_drewN ?_ _ | refine blk_drew ?_ | refine blk_alloc ?_ _)); refine blk_put (cs := #[.int .i64 t435, .int .i64 t436, .string t437, .int .i64 t438, .int .i64 t439, .int .i64 0, .int .i64 0, .slice none 0 0, .int .i64 0, .int .u32 0]) ?_ 5 _ rfl; (with_reducible repeat (first | refine blk_drewN ?_ _ | refine blk_drew ?_ | refine blk_alloc ?_ _)); refine blk_put (cs := #[.int .i64 t435, .int .i64 t436, .string t437, .int .i64 t438, .int .i64 0, .int .i64 0, .int .i64 0, .slice none 0 0, .int .i64 0, .int .u32 0]) ?_ 4 _ rfl; (with_reducible repeat (first | refine blk_drewN ?_ _ | refine blk_drew ?_ | refine blk_alloc ?_ _)); refine blk_put (cs := #[.int .i64 t435, .int .i64 t436, .string t437, .int .i64 0, .int .i64 0, .int .i64 0, .int .i64 0, .slice none 0 0, .int .i64 0, .int .u32 0]) ?_ 3 _ rfl; (with_reducible repeat (first | refine blk_drewN ?_ _ | refine blk_drew ?_ | refine blk_alloc ?_ _)); refine blk_put (cs := #[.int .i64 t435, .int .i64 t436, .string (⟨#[]⟩ : ByteArray), .int .i64 0, .int .i64 0, .int .i64 0, .int .i64 0, .slice none 0 0, .int .i64 0, .int .u32 0]) ?_ 2 _ rfl; (with_reducible repeat (first | refine blk_drewN ?_ _ | refine blk_drew ?_ | refine blk_alloc ?_ _)); refine blk_put (cs := #[.int .i64 t435, .int .i64 0, .string (⟨#[]⟩ : ByteArray), .int .i64 0, .int .i64 0, .int .i64 0, .int .i64 0, .slice none 0 0, .int .i64 0, .int .u32 0]) ?_ 1 _ rfl; (with_reducible repeat (first | refine blk_drewN ?_ _ | refine blk_drew ?_ | refine blk_alloc ?_ _)); refine blk_put (cs := #[.int .i64 0, .int .i64 0, .string (⟨#[]⟩ : ByteArray), .int .i64 0, .int .i64 0, .int .i64 0, .int .i64 0, .slice none 0 0, .int .i64 0, .int .u32 0]) ?_ 0 _ rfl; (with_reducible repeat (first | refine blk_drewN ?_ _ | refine blk_drew ?_ | refine blk_alloc ?_ _)); exact BK448.out⟩
                      have n6_ : Aside0 (Below w.heap.size w ((((((((((w48.setCell ⟨gb448, 0, none⟩ (.int .i64 t435)).setCell ⟨gb448, 1, none⟩ (.int .i64 t436)).setCell ⟨gb448, 2, none⟩ (.string t437)).setCell ⟨gb448, 3, none⟩ (.int .i64 t438)).setCell ⟨gb448, 4, none⟩ (.int .i64 t439)).setCell ⟨gb448, 5, none⟩ (.int .i64 t440)).setCell ⟨gb448, 6, none⟩ (.int .i64 t441)).setCell ⟨gb448, 7, none⟩ (.slice Ao52 t442.length co52)).setCell ⟨gb448, 8, none⟩ (.int .i64 t445)).setCell ⟨gb448, 9, none⟩ (.int .u32 t446))) := ⟨by repeat (first | (with_reducible first | exact HB.out | apply below_alloc | apply pw_below_drewN | apply below_drew1 | refine below_set ?_ GE420.out | refine below_set ?_ GE434.out | refine below_set ?_ GE448.out) | exact HB.out)⟩
                      (try clear HO_421007)
                      (try clear HO_435007)
                      (try clear HO444)
                      (try clear BK420)
                      (try clear BK434)
                      (try clear BK448)
                      (try clear HB)
                      generalize ((((((((((w48.setCell ⟨gb448, 0, none⟩ (.int .i64 t435)).setCell ⟨gb448, 1, none⟩ (.int .i64 t436)).setCell ⟨gb448, 2, none⟩ (.string t437)).setCell ⟨gb448, 3, none⟩ (.int .i64 t438)).setCell ⟨gb448, 4, none⟩ (.int .i64 t439)).setCell ⟨gb448, 5, none⟩ (.int .i64 t440)).setCell ⟨gb448, 6, none⟩ (.int .i64 t441)).setCell ⟨gb448, 7, none⟩ (.slice Ao52 t442.length co52)).setCell ⟨gb448, 8, none⟩ (.int .i64 t445)).setCell ⟨gb448, 9, none⟩ (.int .u32 t446)) = w55 at n0_ n1_ n2_ n3_ n4_ n5_ n6_ ⊢
                      have HO_421007 := n0_
                      have HO_435007 := n1_
                      have HO444 := n2_
                      have BK420 := n3_
                      have BK434 := n4_
                      have BK448 := n5_
                      have HB := n6_
                      clear n0_ n1_ n2_ n3_ n4_ n5_ n6_
                      have n0_ := Aside0.mk (Kd.R_drew HO_421007.out)
                      have n1_ := Aside0.mk (Kd.R_drew HO_435007.out)
                      have n2_ := Aside0.mk (Kd.R_drew HO444.out)
                      have n3_ := Aside0.mk (blk_drew BK420.out)
                      have n4_ := Aside0.mk (blk_drew BK434.out)
                      have n5_ := Aside0.mk (blk_drew BK448.out)
                      have n6_ := Aside0.mk (below_drew1 HB.out)
                      clear HO_421007
                      clear HO_435007
                      clear HO444
                      clear BK420
                      clear BK434
                      clear BK448
                      clear HB
                      have HO_421007 := n0_
                      have HO_435007 := n1_
                      have HO444 := n2_
                      have BK420 := n3_
                      have BK434 := n4_
                      have BK448 := n5_
                      have HB := n6_
                      clear n0_ n1_ n2_ n3_ n4_ n5_ n6_
                      refine start_ (n := 54) (S := fun w' => w'.cell? ⟨gb448, 0, none⟩ = some (.int .i64 t435) ∧ w'.cell? ⟨gb448, 1, none⟩ = some (.int .i64 t436) ∧ w'.cell? ⟨gb448, 2, none⟩ = some (.string t437) ∧ w'.cell? ⟨gb448, 3, none⟩ = some (.int .i64 t438) ∧ w'.cell? ⟨gb448, 4, none⟩ = some (.int .i64 t439) ∧ w'.cell? ⟨gb448, 5, none⟩ = some (.int .i64 t440) ∧ w'.cell? ⟨gb448, 6, none⟩ = some (.int .i64 t441) ∧ w'.cell? ⟨gb448, 7, none⟩ = some (.slice Ao52 t442.length co52) ∧ w'.cell? ⟨gb448, 8, none⟩ = some (.int .i64 t445) ∧ w'.cell? ⟨gb448, 9, none⟩ = some (.int .u32 t446) ∧ w'.cell? ⟨gb420, 0, none⟩ = some (.int .i64 t407) ∧ w'.cell? ⟨gb420, 1, none⟩ = some (.int .i64 t408) ∧ w'.cell? ⟨gb420, 2, none⟩ = some (.string t409) ∧ w'.cell? ⟨gb420, 3, none⟩ = some (.int .i64 t410) ∧ w'.cell? ⟨gb420, 4, none⟩ = some (.int .i64 t411) ∧ w'.cell? ⟨gb420, 5, none⟩ = some (.int .i64 t412) ∧ w'.cell? ⟨gb420, 6, none⟩ = some (.int .i64 t413) ∧ w'.cell? ⟨gb420, 7, none⟩ = some (.slice Ao12 t414.length co12) ∧ w'.cell? ⟨gb420, 8, none⟩ = some (.int .i64 t417) ∧ w'.cell? ⟨gb420, 9, none⟩ = some (.int .u32 t418) ∧ w'.cell? ⟨gb434, 0, none⟩ = some (.int .i64 t421) ∧ w'.cell? ⟨gb434, 1, none⟩ = some (.int .i64 t422) ∧ w'.cell? ⟨gb434, 2, none⟩ = some (.string t423) ∧ w'.cell? ⟨gb434, 3, none⟩ = some (.int .i64 t424) ∧ w'.cell? ⟨gb434, 4, none⟩ = some (.int .i64 t425) ∧ w'.cell? ⟨gb434, 5, none⟩ = some (.int .i64 t426) ∧ w'.cell? ⟨gb434, 6, none⟩ = some (.int .i64 t427) ∧ w'.cell? ⟨gb434, 7, none⟩ = some (.slice Ao17 t428.length co17) ∧ w'.cell? ⟨gb434, 8, none⟩ = some (.int .i64 t431) ∧ w'.cell? ⟨gb434, 9, none⟩ = some (.int .u32 t432)) (ds := []) #[false, false, false, false, false, false, false, false, false, false, false, false, false, false, false, false, false, false, false, false, false, false, false, false, false, false, false, false, false, false, false, false, false, false, false, false, false, false, false, false, false, false, false, false, false, false, false, false, false, false, false, false, false, false] (by kernel_rfl) rfl rfl ⟨(blk_cell BK448.out 0).trans rfl, (blk_cell BK448.out 1).trans rfl, (blk_cell BK448.out 2).trans rfl, (blk_cell BK448.out 3).trans rfl, (blk_cell BK448.out 4).trans rfl, (blk_cell BK448.out 5).trans rfl, (blk_cell BK448.out 6).trans rfl, (blk_cell BK448.out 7).trans rfl, (blk_cell BK448.out 8).trans rfl, (blk_cell BK448.out 9).trans rfl, (blk_cell BK420.out 0).trans rfl, (blk_cell BK420.out 1).trans rfl, (blk_cell BK420.out 2).trans rfl, (blk_cell BK420.out 3).trans rfl, (blk_cell BK420.out 4).trans rfl, (blk_cell BK420.out 5).trans rfl, (blk_cell BK420.out 6).trans rfl, (blk_cell BK420.out 7).trans rfl, (blk_cell BK420.out 8).trans rfl, (blk_cell BK420.out 9).trans rfl, (blk_cell BK434.out 0).trans rfl, (blk_cell BK434.out 1).trans rfl, (blk_cell BK434.out 2).trans rfl, (blk_cell BK434.out 3).trans rfl, (blk_cell BK434.out 4).trans rfl, (blk_cell BK434.out 5).trans rfl, (blk_cell BK434.out 6).trans rfl, (blk_cell BK434.out 7).trans rfl, (blk_cell BK434.out 8).trans rfl, (blk_cell BK434.out 9).trans rfl⟩ (fun hHeld => ?_); refine with_tabW pyxlaw13_ParamsApart.tab9 pyxlaw13_ParamsApart.bits9 (fun HT_ HW_ => ?_)
                      generalize w55.drew = w56 at HO_421007 HO_435007 HO444 BK420 BK434 BK448 HB hHeld ⊢
                      refine pure_ (i := 0) (N := some 47) (v := ?_) (a' := ?_) #[true, false, false, false, false, false, false, false, false, false, false, false, false, false, false, false, false, false, false, false, false, false, false, false, false, false, false, false, false, false, false, false, false, false, false, false, false, false, false, false, false, false, false, false, false, false, false, false, false, false, false, false, false, false] rfl rfl (any_of HT_.out (by kernel_rfl)) (fun _ _ _ h => h) (Or.inl ⟨by rfl, ?_⟩) ?_ ?_
                      rotate_left
                      · intro w'
                        go_simp
                        with_reducible rfl
                      rotate_left
                      · simp only [Act.put, List.setIfInBounds_toArray, List.set_cons_zero, List.set_cons_succ, i64_w, i32_w]
                        rfl
                      refine pure_ (i := 1) (N := some 48) (v := ?_) (a' := ?_) #[true, true, false, false, false, false, false, false, false, false, false, false, false, false, false, false, false, false, false, false, false, false, false, false, false, false, false, false, false, false, false, false, false, false, false, false, false, false, false, false, false, false, false, false, false, false, false, false, false, false, false, false, false, false] rfl rfl (any_of HT_.out (by kernel_rfl)) (fun _ _ _ h => h) (Or.inl ⟨by rfl, ?_⟩) ?_ ?_
                      rotate_left
                      · intro w'
                        go_simp
                        with_reducible rfl
                      rotate_left
                      · simp only [Act.put, List.setIfInBounds_toArray, List.set_cons_zero, List.set_cons_succ, i64_w, i32_w]
                        rfl
                      refine pure_ (i := 2) (N := some 49) (v := ?_) (a' := ?_) #[true, true, true, false, false, false, false, false, false, false, false, false, false, false, false, false, false, false, false, false, false, false, false, false, false, false, false, false, false, false, false, false, false, false, false, false, false, false, false, false, false, false, false, false, false, false, false, false, false, false, false, false, false, false] rfl rfl (any_of HT_.out (by kernel_rfl)) (fun _ _ _ h => h) (Or.inl ⟨by rfl, ?_⟩) ?_ ?_
                      rotate_left
                      · intro w'
                        go_simp
                        with_reducible rfl
                      rotate_left
                      · simp only [Act.put, List.setIfInBounds_toArray, List.set_cons_zero, List.set_cons_succ, i64_w, i32_w]
                        rfl
                      refine pure_ (i := 4) (N := some 51) (v := ?_) (a' := ?_) #[true, true, true, false, true, false, false, false, false, false, false, false, false, false, false, false, false, false, false, false, false, false, false, false, false, false, false, false, false, false, false, false, false, false, false, false, false, false, false, false, false, false, false, false, false, false, false, false, false, false, false, false, false, false] rfl rfl (any_of HT_.out (by kernel_rfl)) (fun _ _ _ h => h) (Or.inl ⟨by rfl, ?_⟩) ?_ ?_
                      rotate_left
                      · intro w'
                        go_simp
                        with_reducible rfl
                      rotate_left
                      · simp only [Act.put, List.setIfInBounds_toArray, List.set_cons_zero, List.set_cons_succ, i64_w, i32_w]
                        rfl
                      refine take_ (i := 3) (N := some 50) (v := ?_) (a' := ?_) #[true, true, true, true, true, false, false, false, false, false, false, false, false, false, false, false, false, false, false, false, false, false, false, false, false, false, false, false, false, false, false, false, false, false, false, false, false, false, false, false, false, false, false, false, false, false, false, false, false, false, false, false, false, false] rfl rfl (take_ofW HT_.out HW_.out (by kernel_rfl)) (fun _ _ _ h => h) (Or.inl ⟨by rfl, ?_⟩) hHeld ?_ ?_
                      rotate_left
                      · rintro w' ⟨s0, s1, s2, s3, s4, s5, s6, s7, s8, s9, s10, s11, s12, s13, s14, s15, s16, s17, s18, s19, s20, s21, s22, s23, s24, s25, s26, s27, s28, s29⟩
                        go_simp
                        with_reducible rfl
                      rotate_left
                      · simp only [Act.put, List.setIfInBounds_toArray, List.set_cons_zero, List.set_cons_succ, i64_w, i32_w]
                        rfl
                      refine take_ (i := 5) (N := some 52) (v := ?_) (a' := ?_) #[true, true, true, true, true, true, false, false, false, false, false, false, false, false, false, false, false, false, false, false, false, false, false, false, false, false, false, false, false, false, false, false, false, false, false, false, false, false, false, false, false, false, false, false, false, false, false, false, false, false, false, false, false, false] rfl rfl (take_ofW HT_.out HW_.out (by kernel_rfl)) (fun _ _ _ h => h) (Or.inl ⟨by rfl, ?_⟩) hHeld ?_ ?_
                      rotate_left
                      · rintro w' ⟨s0, s1, s2, s3, s4, s5, s6, s7, s8, s9, s10, s11, s12, s13, s14, s15, s16, s17, s18, s19, s20, s21, s22, s23, s24, s25, s26, s27, s28, s29⟩
                        go_simp
                        with_reducible rfl
                      rotate_left
                      · simp only [Act.put, List.setIfInBounds_toArray, List.set_cons_zero, List.set_cons_succ, i64_w, i32_w]
                        rfl
                      refine pure_ (i := 6) (N := some 53) (v := ?_) (a' := ?_) #[true, true, true, true, true, true, true, false, false, false, false, false, false, false, false, false, false, false, false, false, false, false, false, false, false, false, false, false, false, false, false, false, false, false, false, false, false, false, false, false, false, false, false, false, false, false, false, false, false, false, false, false, false, false] rfl rfl (any_of HT_.out (by kernel_rfl)) (fun _ _ _ h => h) (Or.inl ⟨by rfl, ?_⟩) ?_ ?_
                      rotate_left
                      · intro w'
                        go_simp
                        with_reducible rfl
                      rotate_left
                      · simp only [Act.put, List.setIfInBounds_toArray, List.set_cons_zero, List.set_cons_succ, i64_w, i32_w]
                        rfl
                      refine pure_ (i := 7) (N := some 54) (v := ?_) (a' := ?_) #[true, true, true, true, true, true, true, true, false, false, false, false, false, false, false, false, false, false, false, false, false, false, false, false, false, false, false, false, false, false, false, false, false, false, false, false, false, false, false, false, false, false, false, false, false, false, false, false, false, false, false, false, false, false] rfl rfl (any_of HT_.out (by kernel_rfl)) (fun _ _ _ h => h) (Or.inl ⟨by rfl, ?_⟩) ?_ ?_
                      rotate_left
                      · intro w'
                        go_simp
                        with_reducible rfl
                      rotate_left
                      · simp only [Act.put, List.setIfInBounds_toArray, List.set_cons_zero, List.set_cons_succ, i64_w, i32_w]
                        rfl
                      refine pure_ (i := 8) (N := some 55) (v := ?_) (a' := ?_) #[true, true, true, true, true, true, true, true, true, false, false, false, false, false, false, false, false, false, false, false, false, false, false, false, false, false, false, false, false, false, false, false, false, false, false, false, false, false, false, false, false, false, false, false, false, false, false, false, false, false, false, false, false, false] rfl rfl (any_of HT_.out (by kernel_rfl)) (fun _ _ _ h => h) (Or.inl ⟨by rfl, ?_⟩) ?_ ?_
                      rotate_left
                      · intro w'
                        go_simp
                        with_reducible rfl
                      rotate_left
                      · simp only [Act.put, List.setIfInBounds_toArray, List.set_cons_zero, List.set_cons_succ, i64_w, i32_w]
                        rfl
                      refine pure_ (i := 9) (N := some 56) (v := ?_) (a' := ?_) #[true, true, true, true, true, true, true, true, true, true, false, false, false, false, false, false, false, false, false, false, false, false, false, false, false, false, false, false, false, false, false, false, false, false, false, false, false, false, false, false, false, false, false, false, false, false, false, false, false, false, false, false, false, false] rfl rfl (any_of HT_.out (by kernel_rfl)) (fun _ _ _ h => h) (Or.inl ⟨by rfl, ?_⟩) ?_ ?_
                      rotate_left
                      · intro w'
                        go_simp
                        with_reducible rfl
                      rotate_left
                      · simp only [Act.put, List.setIfInBounds_toArray, List.set_cons_zero, List.set_cons_succ, i64_w, i32_w]
                        rfl
                      refine pure_ (i := 11) (N := some 58) (v := ?_) (a' := ?_) #[true, true, true, true, true, true, true, true, true, true, false, true, false, false, false, false, false, false, false, false, false, false, false, false, false, false, false, false, false, false, false, false, false, false, false, false, false, false, false, false, false, false, false, false, false, false, false, false, false, false, false, false, false, false] rfl rfl (any_of HT_.out (by kernel_rfl)) (fun _ _ _ h => h) (Or.inl ⟨by rfl, ?_⟩) ?_ ?_
                      rotate_left
                      · intro w'
                        go_simp
                        with_reducible rfl
                      rotate_left
                      · simp only [Act.put, List.setIfInBounds_toArray, List.set_cons_zero, List.set_cons_succ, i64_w, i32_w]
                        rfl
                      refine pure_ (i := 14) (N := some 61) (v := ?_) (a' := ?_) #[true, true, true, true, true, true, true, true, true, true, false, true, false, false, true, false, false, false, false, false, false, false, false, false, false, false, false, false, false, false, false, false, false, false, false, false, false, false, false, false, false, false, false, false, false, false, false, false, false, false, false, false, false, false] rfl rfl (any_of HT_.out (by kernel_rfl)) (fun _ _ _ h => h) (Or.inl ⟨by rfl, ?_⟩) ?_ ?_
                      rotate_left
                      · intro w'
                        go_simp
                        with_reducible rfl
                      rotate_left
                      · simp only [Act.put, List.setIfInBounds_toArray, List.set_cons_zero, List.set_cons_succ, i64_w, i32_w]
                        rfl
                      refine take_ (i := 10) (N := some 57) (v := ?_) (a' := ?_) #[true, true, true, true, true, true, true, true, true, true, true, true, false, false, true, false, false, false, false, false, false, false, false, false, false, false, false, false, false, false, false, false, false, false, false, false, false, false, false, false, false, false, false, false, false, false, false, false, false, false, false, false, false, false] rfl rfl (take_ofW HT_.out HW_.out (by kernel_rfl)) (fun _ _ _ h => h) (Or.inl ⟨by rfl, ?_⟩) hHeld ?_ ?_
                      rotate_left
                      · rintro w' ⟨s0, s1, s2, s3, s4, s5, s6, s7, s8, s9, s10, s11, s12, s13, s14, s15, s16, s17, s18, s19, s20, s21, s22, s23, s24, s25, s26, s27, s28, s29⟩
                        go_simp
                        with_reducible rfl
                      rotate_left
                      · simp only [Act.put, List.setIfInBounds_toArray, List.set_cons_zero, List.set_cons_succ, i64_w, i32_w]
                        rfl
                      refine take_ (i := 12) (N := some 59) (v := ?_) (a' := ?_) #[true, true, true, true, true, true, true, true, true, true, true, true, true, false, true, false, false, false, false, false, false, false, false, false, false, false, false, false, false, false, false, false, false, false, false, false, false, false, false, false, false, false, false, false, false, false, false, false, false, false, false, false, false, false] rfl rfl (take_ofW HT_.out HW_.out (by kernel_rfl)) (fun _ _ _ h => h) (Or.inl ⟨by rfl, ?_⟩) hHeld ?_ ?_
                      rotate_left
                      · rintro w' ⟨s0, s1, s2, s3, s4, s5, s6, s7, s8, s9, s10, s11, s12, s13, s14, s15, s16, s17, s18, s19, s20, s21, s22, s23, s24, s25, s26, s27, s28, s29⟩
                        go_simp
                        with_reducible rfl
                      rotate_left
                      · simp only [Act.put, List.setIfInBounds_toArray, List.set_cons_zero, List.set_cons_succ, i64_w, i32_w]
                        rfl
                      refine pure_ (i := 13) (N := some 60) (v := ?_) (a' := ?_) #[true, true, true, true, true, true, true, true, true, true, true, true, true, true, true, false, false, false, false, false, false, false, false, false, false, false, false, false, false, false, false, false, false, false, false, false, false, false, false, false, false, false, false, false, false, false, false, false, false, false, false, false, false, false] rfl rfl (any_of HT_.out (by kernel_rfl)) (fun _ _ _ h => h) (Or.inl ⟨by rfl, ?_⟩) ?_ ?_
                      rotate_left
                      · intro w'
                        go_simp
                        with_reducible rfl
                      rotate_left
                      · simp only [Act.put, List.setIfInBounds_toArray, List.set_cons_zero, List.set_cons_succ, i64_w, i32_w]
                        rfl
                      refine pure_ (i := 15) (N := some 62) (v := ?_) (a' := ?_) #[true, true, true, true, true, true, true, true, true, true, true, true, true, true, true, true, false, false, false, false, false, false, false, false, false, false, false, false, false, false, false, false, false, false, false, false, false, false, false, false, false, false, false, false, false, false, false, false, false, false, false, false, false, false] rfl rfl (any_of HT_.out (by kernel_rfl)) (fun _ _ _ h => h) (Or.inl ⟨by rfl, ?_⟩) ?_ ?_
                      rotate_left
                      · intro w'
                        go_simp
                        with_reducible rfl
                      rotate_left
                      · simp only [Act.put, List.setIfInBounds_toArray, List.set_cons_zero, List.set_cons_succ, i64_w, i32_w]
                        rfl
                      refine pure_ (i := 16) (N := some 63) (v := ?_) (a' := ?_) #[true, true, true, true, true, true, true, true, true, true, true, true, true, true, true, true, true, false, false, false, false, false, false, false, false, false, false, false, false, false, false, false, false, false, false, false, false, false, false, false, false, false, false, false, false, false, false, false, false, false, false, false, false, false] rfl rfl (any_of HT_.out (by kernel_rfl)) (fun _ _ _ h => h) (Or.inl ⟨by rfl, ?_⟩) ?_ ?_
                      rotate_left
                      · intro w'
                        go_simp
                        with_reducible rfl
                      rotate_left
                      · simp only [Act.put, List.setIfInBounds_toArray, List.set_cons_zero, List.set_cons_succ, i64_w, i32_w]
                        rfl
                      refine pure_ (i := 17) (N := some 64) (v := ?_) (a' := ?_) #[true, true, true, true, true, true, true, true, true, true, true, true, true, true, true, true, true, true, false, false, false, false, false, false, false, false, false, false, false, false, false, false, false, false, false, false, false, false, false, false, false, false, false, false, false, false, false, false, false, false, false, false, false, false] rfl rfl (any_of HT_.out (by kernel_rfl)) (fun _ _ _ h => h) (Or.inl ⟨by rfl, ?_⟩) ?_ ?_
                      rotate_left
                      · intro w'
                        go_simp
                        with_reducible rfl
                      rotate_left
                      · simp only [Act.put, List.setIfInBounds_toArray, List.set_cons_zero, List.set_cons_succ, i64_w, i32_w]
                        rfl
                      refine pure_ (i := 18) (N := some 65) (v := ?_) (a' := ?_) #[true, true, true, true, true, true, true, true, true, true, true, true, true, true, true, true, true, true, true, false, false, false, false, false, false, false, false, false, false, false, false, false, false, false, false, false, false, false, false, false, false, false, false, false, false, false, false, false, false, false, false, false, false, false] rfl rfl (any_of HT_.out (by kernel_rfl)) (fun _ _ _ h => h) (Or.inl ⟨by rfl, ?_⟩) ?_ ?_
                      rotate_left
                      · intro w'
                        go_simp
                        with_reducible rfl
                      rotate_left
                      · simp only [Act.put, List.setIfInBounds_toArray, List.set_cons_zero, List.set_cons_succ, i64_w, i32_w]
                        rfl
                      refine take_ (i := 19) (N := some 66) (v := ?_) (a' := ?_) #[true, true, true, true, true, true, true, true, true, true, true, true, true, true, true, true, true, true, true, true, false, false, false, false, false, false, false, false, false, false, false, false, false, false, false, false, false, false, false, false, false, false, false, false, false, false, false, false, false, false, false, false, false, false] rfl rfl (take_ofW HT_.out HW_.out (by kernel_rfl)) (fun _ _ _ h => h) (Or.inl ⟨by rfl, ?_⟩) hHeld ?_ ?_
                      rotate_left
                      · rintro w' ⟨s0, s1, s2, s3, s4, s5, s6, s7, s8, s9, s10, s11, s12, s13, s14, s15, s16, s17, s18, s19, s20, s21, s22, s23, s24, s25, s26, s27, s28, s29⟩
                        go_simp
                        with_reducible rfl
                      rotate_left
                      · simp only [Act.put, List.setIfInBounds_toArray, List.set_cons_zero, List.set_cons_succ, i64_w, i32_w]
                        rfl
                      refine pure_ (i := 20) (N := some 67) (v := ?_) (a' := ?_) #[true, true, true, true, true, true, true, true, true, true, true, true, true, true, true, true, true, true, true, true, true, false, false, false, false, false, false, false, false, false, false, false, false, false, false, false, false, false, false, false, false, false, false, false, false, false, false, false, false, false, false, false, false, false] rfl rfl (any_of HT_.out (by kernel_rfl)) (fun _ _ _ h => h) (Or.inl ⟨by rfl, ?_⟩) ?_ ?_
                      rotate_left
                      · intro w'
                        go_simp
                        with_reducible rfl
                      rotate_left
                      · simp only [Act.put, List.setIfInBounds_toArray, List.set_cons_zero, List.set_cons_succ, i64_w, i32_w]
                        rfl
                      refine pure_ (i := 21) (N := some 68) (v := ?_) (a' := ?_) #[true, true, true, true, true, true, true, true, true, true, true, true, true, true, true, true, true, true, true, true, true, true, false, false, false, false, false, false, false, false, false, false, false, false, false, false, false, false, false, false, false, false, false, false, false, false, false, false, false, false, false, false, false, false] rfl rfl (any_of HT_.out (by kernel_rfl)) (fun _ _ _ h => h) (Or.inl ⟨by rfl, ?_⟩) ?_ ?_
                      rotate_left
                      · intro w'
                        go_simp
                        with_reducible rfl
                      rotate_left
                      · simp only [Act.put, List.setIfInBounds_toArray, List.set_cons_zero, List.set_cons_succ, i64_w, i32_w]
                        rfl
                      refine pure_ (i := 22) (N := some 69) (v := undef) (a' := ?_) #[true, true, true, true, true, true, true, true, true, true, true, true, true, true, true, true, true, true, true, true, true, true, true, false, false, false, false, false, false, false, false, false, false, false, false, false, false, false, false, false, false, false, false, false, false, false, false, false, false, false, false, false, false, false] rfl rfl (any_of HT_.out (by kernel_rfl)) (fun _ _ _ h => h) (Or.inr ⟨by rfl, rfl⟩) ?_ ?_
                      rotate_left
                      · simp only [Act.put, List.setIfInBounds_toArray, List.set_cons_zero, List.set_cons_succ, i64_w, i32_w]
                        rfl
                      refine pure_ (i := 23) (N := some 70) (v := undef) (a' := ?_) #[true, true, true, true, true, true, true, true, true, true, true, true, true, true, true, true, true, true, true, true, true, true, true, true, false, false, false, false, false, false, false, false, false, false, false, false, false, false, false, false, false, false, false, false, false, false, false, false, false, false, false, false, false, false] rfl rfl (any_of HT_.out (by kernel_rfl)) (fun _ _ _ h => h) (Or.inr ⟨by rfl, rfl⟩) ?_ ?_
                      rotate_left
                      · simp only [Act.put, List.setIfInBounds_toArray, List.set_cons_zero, List.set_cons_succ, i64_w, i32_w]
                        rfl
                      refine pure_ (i := 24) (N := some 71) (v := undef) (a' := ?_) #[true, true, true, true, true, true, true, true, true, true, true, true, true, true, true, true, true, true, true, true, true, true, true, true, true, false, false, false, false, false, false, false, false, false, false, false, false, false, false, false, false, false, false, false, false, false, false, false, false, false, false, false, false, false] rfl rfl (any_of HT_.out (by kernel_rfl)) (fun _ _ _ h => h) (Or.inr ⟨by rfl, rfl⟩) ?_ ?_
                      rotate_left
                      · simp only [Act.put, List.setIfInBounds_toArray, List.set_cons_zero, List.set_cons_succ, i64_w, i32_w]
                        rfl
                      refine pure_ (i := 25) (N := some 72) (v := undef) (a' := ?_) #[true, true, true, true, true, true, true, true, true, true, true, true, true, true, true, true, true, true, true, true, true, true, true, true, true, true, false, false, false, false, false, false, false, false, false, false, false, false, false, false, false, false, false, false, false, false, false, false, false, false, false, false, false, false] rfl rfl (any_of HT_.out (by kernel_rfl)) (fun _ _ _ h => h) (Or.inr ⟨by rfl, rfl⟩) ?_ ?_
                      rotate_left
                      · simp only [Act.put, List.setIfInBounds_toArray, List.set_cons_zero, List.set_cons_succ, i64_w, i32_w]
                        rfl
                      refine pure_ (i := 26) (N := some 73) (v := undef) (a' := ?_) #[true, true, true, true, true, true, true, true, true, true, true, true, true, true, true, true, true, true, true, true, true, true, true, true, true, true, true, false, false, false, false, false, false, false, false, false, false, false, false, false, false, false, false, false, false, false, false, false, false, false, false, false, false, false] rfl rfl (any_of HT_.out (by kernel_rfl)) (fun _ _ _ h => h) (Or.inr ⟨by rfl, rfl⟩) ?_ ?_
                      rotate_left
                      · simp only [Act.put, List.setIfInBounds_toArray, List.set_cons_zero, List.set_cons_succ, i64_w, i32_w]
                        rfl
                      refine pure_ (i := 27) (N := some 74) (v := undef) (a' := ?_) #[true, true, true, true, true, true, true, true, true, true, true, true, true, true, true, true, true, true, true, true, true, true, true, true, true, true, true, true, false, false, false, false, false, false, false, false, false, false, false, false, false, false, false, false, false, false, false, false, false, false, false, false, false, false] rfl rfl (any_of HT_.out (by kernel_rfl)) (fun _ _ _ h => h) (Or.inr ⟨by rfl, rfl⟩) ?_ ?_
                      rotate_left
                      · simp only [Act.put, List.setIfInBounds_toArray, List.set_cons_zero, List.set_cons_succ, i64_w, i32_w]
                        rfl
                      refine pure_ (i := 28) (N := some 75) (v := undef) (a' := ?_) #[true, true, true, true, true, true, true, true, true, true, true, true, true, true, true, true, true, true, true, true, true, true, true, true, true, true, true, true, true, false, false, false, false, false, false, false, false, false, false, false, false, false, false, false, false, false, false, false, false, false, false, false, false, false] rfl rfl (any_of HT_.out (by kernel_rfl)) (fun _ _ _ h => h) (Or.inr ⟨by rfl, rfl⟩) ?_ ?_
                      rotate_left
                      · simp only [Act.put, List.setIfInBounds_toArray, List.set_cons_zero, List.set_cons_succ, i64_w, i32_w]
                        rfl
                      refine pure_ (i := 29) (N := some 76) (v := ?_) (a' := ?_) #[true, true, true, true, true, true, true, true, true, true, true, true, true, true, true, true, true, true, true, true, true, true, true, true, true, true, true, true, true, true, false, false, false, false, false, false, false, false, false, false, false, false, false, false, false, false, false, false, false, false, false, false, false, false] rfl rfl (any_of HT_.out (by kernel_rfl)) (fun _ _ _ h => h) (Or.inl ⟨by rfl, ?_⟩) ?_ ?_
                      rotate_left
                      · intro w'
                        go_simp
                        with_reducible rfl
                      rotate_left
                      · simp only [Act.put, List.setIfInBounds_toArray, List.set_cons_zero, List.set_cons_succ, i64_w, i32_w]
                        rfl
                      refine pure_ (i := 30) (N := some 77) (v := ?_) (a' := ?_) #[true, true, true, true, true, true, true, true, true, true, true, true, true, true, true, true, true, true, true, true, true, true, true, true, true, true, true, true, true, true, true, false, false, false, false, false, false, false, false, false, false, false, false, false, false, false, false, false, false, false, false, false, false, false] rfl rfl (any_of HT_.out (by kernel_rfl)) (fun _ _ _ h => h) (Or.inl ⟨by rfl, ?_⟩) ?_ ?_
                      rotate_left
                      · intro w'
                        go_simp
                        with_reducible rfl
                      rotate_left
                      · simp only [Act.put, List.setIfInBounds_toArray, List.set_cons_zero, List.set_cons_succ, i64_w, i32_w]
                        rfl
                      refine pure_ (i := 31) (N := some 78) (v := ?_) (a' := ?_) #[true, true, true, true, true, true, true, true, true, true, true, true, true, true, true, true, true, true, true, true, true, true, true, true, true, true, true, true, true, true, true, true, false, false, false, false, false, false, false, false, false, false, false, false, false, false, false, false, false, false, false, false, false, false] rfl rfl (any_of HT_.out (by kernel_rfl)) (fun _ _ _ h => h) (Or.inl ⟨by rfl, ?_⟩) ?_ ?_
                      rotate_left
                      · intro w'
                        go_simp
                        with_reducible rfl
                      rotate_left
                      · simp only [Act.put, List.setIfInBounds_toArray, List.set_cons_zero, List.set_cons_succ, i64_w, i32_w]
                        rfl
                      refine pure_ (i := 32) (N := some 79) (v := ?_) (a' := ?_) #[true, true, true, true, true, true, true, true, true, true, true, true, true, true, true, true, true, true, true, true, true, true, true, true, true, true, true, true, true, true, true, true, true, false, false, false, false, false, false, false, false, false, false, false, false, false, false, false, false, false, false, false, false, false] rfl rfl (any_of HT_.out (by kernel_rfl)) (fun _ _ _ h => h) (Or.inl ⟨by rfl, ?_⟩) ?_ ?_
                      rotate_left
                      · intro w'
                        go_simp
                        with_reducible rfl
                      rotate_left
                      · simp only [Act.put, List.setIfInBounds_toArray, List.set_cons_zero, List.set_cons_succ, i64_w, i32_w]
                        rfl
                      refine take_ (i := 33) (N := some 80) (v := ?_) (a' := ?_) #[true, true, true, true, true, true, true, true, true, true, true, true, true, true, true, true, true, true, true, true, true, true, true, true, true, true, true, true, true, true, true, true, true, true, false, false, false, false, false, false, false, false, false, false, false, false, false, false, false, false, false, false, false, false] rfl rfl (take_ofW HT_.out HW_.out (by kernel_rfl)) (fun _ _ _ h => h) (Or.inl ⟨by rfl, ?_⟩) hHeld ?_ ?_
                      rotate_left
                      · rintro w' ⟨s0, s1, s2, s3, s4, s5, s6, s7, s8, s9, s10, s11, s12, s13, s14, s15, s16, s17, s18, s19, s20, s21, s22, s23, s24, s25, s26, s27, s28, s29⟩
                        go_simp
                        with_reducible rfl
                      rotate_left
                      · simp only [Act.put, List.setIfInBounds_toArray, List.set_cons_zero, List.set_cons_succ, i64_w, i32_w]
                        rfl
                      refine pure_ (i := 34) (N := some 81) (v := ?_) (a' := ?_) #[true, true, true, true, true, true, true, true, true, true, true, true, true, true, true, true, true, true, true, true, true, true, true, true, true, true, true, true, true, true, true, true, true, true, true, false, false, false, false, false, false, false, false, false, false, false, false, false, false, false, false, false, false, false] rfl rfl (any_of HT_.out (by kernel_rfl)) (fun _ _ _ h => h) (Or.inl ⟨by rfl, ?_⟩) ?_ ?_
                      rotate_left
                      · intro w'
                        go_simp
                        with_reducible rfl
                      rotate_left
                      · simp only [Act.put, List.setIfInBounds_toArray, List.set_cons_zero, List.set_cons_succ, i64_w, i32_w]
                        rfl
                      refine pure_ (i := 35) (N := some 82) (v := ?_) (a' := ?_) #[true, true, true, true, true, true, true, true, true, true, true, true, true, true, true, true, true, true, true, true, true, true, true, true, true, true, true, true, true, true, true, true, true, true, true, true, false, false, false, false, false, false, false, false, false, false, false, false, false, false, false, false, false, false] rfl rfl (any_of HT_.out (by kernel_rfl)) (fun _ _ _ h => h) (Or.inl ⟨by rfl, ?_⟩) ?_ ?_
                      rotate_left
                      · intro w'
                        go_simp
                        with_reducible rfl
                      rotate_left
                      · simp only [Act.put, List.setIfInBounds_toArray, List.set_cons_zero, List.set_cons_succ, i64_w, i32_w]
                        rfl
                      refine pure_ (i := 36) (N := some 83) (v := ?_) (a' := ?_) #[true, true, true, true, true, true, true, true, true, true, true, true, true, true, true, true, true, true, true, true, true, true, true, true, true, true, true, true, true, true, true, true, true, true, true, true, true, false, false, false, false, false, false, false, false, false, false, false, false, false, false, false, false, false] rfl rfl (any_of HT_.out (by kernel_rfl)) (fun _ _ _ h => h) (Or.inl ⟨by rfl, ?_⟩) ?_ ?_
                      rotate_left
                      · intro w'
                        go_simp
                        with_reducible rfl
                      rotate_left
                      · simp only [Act.put, List.setIfInBounds_toArray, List.set_cons_zero, List.set_cons_succ, i64_w, i32_w]
                        rfl
                      refine pure_ (i := 38) (N := some 85) (v := ?_) (a' := ?_) #[true, true, true, true, true, true, true, true, true, true, true, true, true, true, true, true, true, true, true, true, true, true, true, true, true, true, true, true, true, true, true, true, true, true, true, true, true, false, true, false, false, false, false, false, false, false, false, false, false, false, false, false, false, false] rfl rfl (any_of HT_.out (by kernel_rfl)) (fun _ _ _ h => h) (Or.inl ⟨by rfl, ?_⟩) ?_ ?_
                      rotate_left
                      · intro w'
                        go_simp
                        with_reducible rfl
                      rotate_left
                      · simp only [Act.put, List.setIfInBounds_toArray, List.set_cons_zero, List.set_cons_succ, i64_w, i32_w]
                        rfl
                      refine pure_ (i := 41) (N := some 88) (v := ?_) (a' := ?_) #[true, true, true, true, true, true, true, true, true, true, true, true, true, true, true, true, true, true, true, true, true, true, true, true, true, true, true, true, true, true, true, true, true, true, true, true, true, false, true, false, false, true, false, false, false, false, false, false, false, false, false, false, false, false] rfl rfl (any_of HT_.out (by kernel_rfl)) (fun _ _ _ h => h) (Or.inl ⟨by rfl, ?_⟩) ?_ ?_
                      rotate_left
                      · intro w'
                        go_simp
                        with_reducible rfl
                      rotate_left
                      · simp only [Act.put, List.setIfInBounds_toArray, List.set_cons_zero, List.set_cons_succ, i64_w, i32_w]
                        rfl
                      refine take_ (i := 37) (N := some 84) (v := ?_) (a' := ?_) #[true, true, true, true, true, true, true, true, true, true, true, true, true, true, true, true, true, true, true, true, true, true, true, true, true, true, true, true, true, true, true, true, true, true, true, true, true, true, true, false, false, true, false, false, false, false, false, false, false, false, false, false, false, false] rfl rfl (take_ofW HT_.out HW_.out (by kernel_rfl)) (fun _ _ _ h => h) (Or.inl ⟨by rfl, ?_⟩) hHeld ?_ ?_
                      rotate_left
                      · rintro w' ⟨s0, s1, s2, s3, s4, s5, s6, s7, s8, s9, s10, s11, s12, s13, s14, s15, s16, s17, s18, s19, s20, s21, s22, s23, s24, s25, s26, s27, s28, s29⟩
                        go_simp
                        with_reducible rfl
                      rotate_left
                      · simp only [Act.put, List.setIfInBounds_toArray, List.set_cons_zero, List.set_cons_succ, i64_w, i32_w]
                        rfl
                      refine take_ (i := 39) (N := some 86) (v := ?_) (a' := ?_) #[true, true, true, true, true, true, true, true, true, true, true, true, true, true, true, true, true, true, true, true, true, true, true, true, true, true, true, true, true, true, true, true, true, true, true, true, true, true, true, true, false, true, false, false, false, false, false, false, false, false, false, false, false, false] rfl rfl (take_ofW HT_.out HW_.out (by kernel_rfl)) (fun _ _ _ h => h) (Or.inl ⟨by rfl, ?_⟩) hHeld ?_ ?_
                      rotate_left
                      · rintro w' ⟨s0, s1, s2, s3, s4, s5, s6, s7, s8, s9, s10, s11, s12, s13, s14, s15, s16, s17, s18, s19, s20, s21, s22, s23, s24, s25, s26, s27, s28, s29⟩
                        go_simp
                        with_reducible rfl
                      rotate_left
                      · simp only [Act.put, List.setIfInBounds_toArray, List.set_cons_zero, List.set_cons_succ, i64_w, i32_w]
                        rfl
                      refine pure_ (i := 40) (N := some 87) (v := ?_) (a' := ?_) #[true, true, true, true, true, true, true, true, true, true, true, true, true, true, true, true, true, true, true, true, true, true, true, true, true, true, true, true, true, true, true, true, true, true, true, true, true, true, true, true, true, true, false, false, false, false, false, false, false, false, false, false, false, false] rfl rfl (any_of HT_.out (by kernel_rfl)) (fun _ _ _ h => h) (Or.inl ⟨by rfl, ?_⟩) ?_ ?_
                      rotate_left
                      · intro w'
                        go_simp
                        with_reducible rfl
                      rotate_left
                      · simp only [Act.put, List.setIfInBounds_toArray, List.set_cons_zero, List.set_cons_succ, i64_w, i32_w]
                        rfl
                      refine pure_ (i := 42) (N := some 89) (v := ?_) (a' := ?_) #[true, true, true, true, true, true, true, true, true, true, true, true, true, true, true, true, true, true, true, true, true, true, true, true, true, true, true, true, true, true, true, true, true, true, true, true, true, true, true, true, true, true, true, false, false, false, false, false, false, false, false, false, false, false] rfl rfl (any_of HT_.out (by kernel_rfl)) (fun _ _ _ h => h) (Or.inl ⟨by rfl, ?_⟩) ?_ ?_
                      rotate_left
                      · intro w'
                        go_simp
                        with_reducible rfl
                      rotate_left
                      · simp only [Act.put, List.setIfInBounds_toArray, List.set_cons_zero, List.set_cons_succ, i64_w, i32_w]
                        rfl
                      refine pure_ (i := 43) (N := some 90) (v := ?_) (a' := ?_) #[true, true, true, true, true, true, true, true, true, true, true, true, true, true, true, true, true, true, true, true, true, true, true, true, true, true, true, true, true, true, true, true, true, true, true, true, true, true, true, true, true, true, true, true, false, false, false, false, false, false, false, false, false, false] rfl rfl (any_of HT_.out (by kernel_rfl)) (fun _ _ _ h => h) (Or.inl ⟨by rfl, ?_⟩) ?_ ?_
                      rotate_left
                      · intro w'
                        go_simp
                        with_reducible rfl
                      rotate_left
                      · simp only [Act.put, List.setIfInBounds_toArray, List.set_cons_zero, List.set_cons_succ, i64_w, i32_w]
                        rfl
                      refine pure_ (i := 44) (N := some 91) (v := ?_) (a' := ?_) #[true, true, true, true, true, true, true, true, true, true, true, true, true, true, true, true, true, true, true, true, true, true, true, true, true, true, true, true, true, true, true, true, true, true, true, true, true, true, true, true, true, true, true, true, true, false, false, false, false, false, false, false, false, false] rfl rfl (any_of HT_.out (by kernel_rfl)) (fun _ _ _ h => h) (Or.inl ⟨by rfl, ?_⟩) ?_ ?_
                      rotate_left
                      · intro w'
                        go_simp
                        with_reducible rfl
                      rotate_left
                      · simp only [Act.put, List.setIfInBounds_toArray, List.set_cons_zero, List.set_cons_succ, i64_w, i32_w]
                        rfl
                      refine pure_ (i := 45) (N := some 92) (v := ?_) (a' := ?_) #[true, true, true, true, true, true, true, true, true, true, true, true, true, true, true, true, true, true, true, true, true, true, true, true, true, true, true, true, true, true, true, true, true, true, true, true, true, true, true, true, true, true, true, true, true, true, false, false, false, false, false, false, false, false] rfl rfl (any_of HT_.out (by kernel_rfl)) (fun _ _ _ h => h) (Or.inl ⟨by rfl, ?_⟩) ?_ ?_
                      rotate_left
                      · intro w'
                        go_simp
                        with_reducible rfl
                      rotate_left
                      · simp only [Act.put, List.setIfInBounds_toArray, List.set_cons_zero, List.set_cons_succ, i64_w, i32_w]
                        rfl
                      refine pure_ (i := 46) (N := some 93) (v := ?_) (a' := ?_) #[true, true, true, true, true, true, true, true, true, true, true, true, true, true, true, true, true, true, true, true, true, true, true, true, true, true, true, true, true, true, true, true, true, true, true, true, true, true, true, true, true, true, true, true, true, true, true, false, false, false, false, false, false, false] rfl rfl (any_of HT_.out (by kernel_rfl)) (fun _ _ _ h => h) (Or.inl ⟨by rfl, ?_⟩) ?_ ?_
                      rotate_left
                      · intro w'
                        go_simp
                        with_reducible rfl
                      rotate_left
                      · simp only [Act.put, List.setIfInBounds_toArray, List.set_cons_zero, List.set_cons_succ, i64_w, i32_w]
                        rfl
                      refine pure_ (i := 49) (N := some 96) (v := ?_) (a' := ?_) #[true, true, true, true, true, true, true, true, true, true, true, true, true, true, true, true, true, true, true, true, true, true, true, true, true, true, true, true, true, true, true, true, true, true, true, true, true, true, true, true, true, true, true, true, true, true, true, false, false, true, false, false, false, false] rfl rfl (any_of HT_.out (by kernel_rfl)) (fun _ _ _ h => h) (Or.inl ⟨by rfl, ?_⟩) ?_ ?_
                      rotate_left
                      · intro w'
                        go_simp
                        with_reducible rfl
                      rotate_left
                      · simp only [Act.put, List.setIfInBounds_toArray, List.set_cons_zero, List.set_cons_succ, i64_w, i32_w]
                        rfl
                      refine take_ (i := 47) (N := some 94) (v := ?_) (a' := ?_) #[true, true, true, true, true, true, true, true, true, true, true, true, true, true, true, true, true, true, true, true, true, true, true, true, true, true, true, true, true, true, true, true, true, true, true, true, true, true, true, true, true, true, true, true, true, true, true, true, false, true, false, false, false, false] rfl rfl (take_ofW HT_.out HW_.out (by kernel_rfl)) (fun _ _ _ h => h) (Or.inl ⟨by rfl, ?_⟩) hHeld ?_ ?_
                      rotate_left
                      · rintro w' ⟨s0, s1, s2, s3, s4, s5, s6, s7, s8, s9, s10, s11, s12, s13, s14, s15, s16, s17, s18, s19, s20, s21, s22, s23, s24, s25, s26, s27, s28, s29⟩
                        go_simp
                        with_reducible rfl
                      rotate_left
                      · simp only [Act.put, List.setIfInBounds_toArray, List.set_cons_zero, List.set_cons_succ, i64_w, i32_w]
                        rfl
                      refine take_ (i := 50) (N := some 97) (v := ?_) (a' := ?_) #[true, true, true, true, true, true, true, true, true, true, true, true, true, true, true, true, true, true, true, true, true, true, true, true, true, true, true, true, true, true, true, true, true, true, true, true, true, true, true, true, true, true, true, true, true, true, true, true, false, true, true, false, false, false] rfl rfl (take_ofW HT_.out HW_.out (by kernel_rfl)) (fun _ _ _ h => h) (Or.inl ⟨by rfl, ?_⟩) hHeld ?_ ?_
                      rotate_left
                      · rintro w' ⟨s0, s1, s2, s3, s4, s5, s6, s7, s8, s9, s10, s11, s12, s13, s14, s15, s16, s17, s18, s19, s20, s21, s22, s23, s24, s25, s26, s27, s28, s29⟩
                        go_simp
                        with_reducible rfl
                      rotate_left
                      · simp only [Act.put, List.setIfInBounds_toArray, List.set_cons_zero, List.set_cons_succ, i64_w, i32_w]
                        rfl
                      refine one_ (i := 48) (N := some 95) #[true, true, true, true, true, true, true, true, true, true, true, true, true, true, true, true, true, true, true, true, true, true, true, true, true, true, true, true, true, true, true, true, true, true, true, true, true, true, true, true, true, true, true, true, true, true, true, true, true, true, true, false, false, false] rfl rfl (one_of HT_.out (by kernel_rfl)) (by decide) (fun K hK => ?_)
                      refine goes_ Tryd.func33 (by kernel_rfl) rfl #[.slice Ao12 t414.length co12] (by rfl) rfl rfl (by (try simp only [List.map_toArray, List.map_cons, List.map_nil]); first | done | rfl | (simp only [List.length_drop, List.length_take]; rfl)) ?_
                      with_reducible refine (params_ByOID.calls _ _ t414 t453 _ ?side1 ?side2 A43.out (by first | exact GOK.below HG.out (by repeat (first | (with_reducible first | exact HB.out | apply below_alloc | apply pw_below_drewN | apply below_drew1 | refine below_set ?_ GE420.out | refine below_set ?_ GE434.out | refine below_set ?_ GE448.out) | exact HB.out)) | (repeat (first | exact HG.out | apply GOK.drewN | apply GOK.drew)))).mono ?_
                      (case side1 => repeat (first | exact (Kd.R_reads' HO_421007.out).2.2 | (with_reducible refine Kd.C_alloc ?_ _) | (with_reducible refine Kd.C_drewN ?_ _) | (with_reducible refine Kd.C_drew ?_)))
                      (case side2 => exact (Kd.R_reads' HO_421007.out).2.1)
                      rintro e w57 ⟨v454, rfl, ho0, hb⟩
                      refine ⟨_, rfl, ?_⟩
                      have n0_ := Aside0.mk (Kd.R_below (by (with_reducible repeat (first | apply Kd.R_alloc | apply Kd.R_drewN | apply Kd.R_drew)); exact HO_421007.out) hb)
                      have n1_ := Aside0.mk (Kd.R_below (by (with_reducible repeat (first | apply Kd.R_alloc | apply Kd.R_drewN | apply Kd.R_drew)); exact HO_435007.out) hb)
                      have n2_ := Aside0.mk (Kd.R_below (by (with_reducible repeat (first | apply Kd.R_alloc | apply Kd.R_drewN | apply Kd.R_drew)); exact HO444.out) hb)
                      have n3_ := Aside0.mk (Kd.R_lower ho0 (below_size (by repeat (first | (with_reducible first | exact HB.out | apply below_alloc | apply pw_below_drewN | apply below_drew1 | refine below_set ?_ GE420.out | refine below_set ?_ GE434.out | refine below_set ?_ GE448.out) | exact HB.out))))
                      have n4_ := Aside0.mk (blk_below (g := gb420) (o := .cells #[.int .i64 t407, .int .i64 t408, .string t409, .int .i64 t410, .int .i64 t411, .int .i64 t412, .int .i64 t413, .slice Ao12 t414.length co12, .int .i64 t417, .int .u32 t418] 37 (0, 0)) (by (with_reducible repeat (first | refine blk_drewN ?_ _ | refine blk_drew ?_ | refine blk_alloc ?_ _)); exact BK420.out) hb)
                      have n5_ := Aside0.mk (blk_below (g := gb434) (o := .cells #[.int .i64 t421, .int .i64 t422, .string t423, .int .i64 t424, .int .i64 t425, .int .i64 t426, .int .i64 t427, .slice Ao17 t428.length co17, .int .i64 t431, .int .u32 t432] 37 (0, 0)) (by (with_reducible repeat (first | refine blk_drewN ?_ _ | refine blk_drew ?_ | refine blk_alloc ?_ _)); exact BK434.out) hb)
                      have n6_ := Aside0.mk (blk_below (g := gb448) (o := .cells #[.int .i64 t435, .int .i64 t436, .string t437, .int .i64 t438, .int .i64 t439, .int .i64 t440, .int .i64 t441, .slice Ao52 t442.length co52, .int .i64 t445, .int .u32 t446] 37 (0, 0)) (by (with_reducible repeat (first | refine blk_drewN ?_ _ | refine blk_drew ?_ | refine blk_alloc ?_ _)); exact BK448.out) hb)
                      have n7_ := Aside0.mk (below_step (by repeat (first | (with_reducible first | exact HB.out | apply below_alloc | apply pw_below_drewN | apply below_drew1 | refine below_set ?_ GE420.out | refine below_set ?_ GE434.out | refine below_set ?_ GE448.out) | exact HB.out)) hb)
                      clear HO_421007
                      clear HO_435007
                      clear HO444
                      clear BK420
                      clear BK434
                      clear BK448
                      clear HB
                      have HO_421007 := n0_
                      have HO_435007 := n1_
                      have HO444 := n2_
                      have HO455 := n3_
                      have BK420 := n4_
                      have BK434 := n5_
                      have BK448 := n6_
                      have HB := n7_
                      clear n0_ n1_ n2_ n3_ n4_ n5_ n6_ n7_
                      (try clear hb)
                      (try clear hb2)
                      (try clear hk)
                      (try clear hi)
                      (try clear ho0)
                      obtain ⟨Ao58, co58, eo58⟩ := Kd.R_slice HO455.out
                      (first | subst eo58 | (injection eo58 with f1_ f2_ f3_; have f4_ := f1_.symm; have f5_ := f3_.symm; clear f1_ f2_ f3_; subst f4_; subst f5_))
                      refine hK.out _ _ ⟨(blk_cell BK448.out 0).trans rfl, (blk_cell BK448.out 1).trans rfl, (blk_cell BK448.out 2).trans rfl, (blk_cell BK448.out 3).trans rfl, (blk_cell BK448.out 4).trans rfl, (blk_cell BK448.out 5).trans rfl, (blk_cell BK448.out 6).trans rfl, (blk_cell BK448.out 7).trans rfl, (blk_cell BK448.out 8).trans rfl, (blk_cell BK448.out 9).trans rfl, (blk_cell BK420.out 0).trans rfl, (blk_cell BK420.out 1).trans rfl, (blk_cell BK420.out 2).trans rfl, (blk_cell BK420.out 3).trans rfl, (blk_cell BK420.out 4).trans rfl, (blk_cell BK420.out 5).trans rfl, (blk_cell BK420.out 6).trans rfl, (blk_cell BK420.out 7).trans rfl, (blk_cell BK420.out 8).trans rfl, (blk_cell BK420.out 9).trans rfl, (blk_cell BK434.out 0).trans rfl, (blk_cell BK434.out 1).trans rfl, (blk_cell BK434.out 2).trans rfl, (blk_cell BK434.out 3).trans rfl, (blk_cell BK434.out 4).trans rfl, (blk_cell BK434.out 5).trans rfl, (blk_cell BK434.out 6).trans rfl, (blk_cell BK434.out 7).trans rfl, (blk_cell BK434.out 8).trans rfl, (blk_cell BK434.out 9).trans rfl⟩ (fun hHeld => ?_)
                      clear hK K
                      refine norm_ (a' := ?_) ?_ ?_
                      rotate_left
                      · show Act.put _ (some 95) _ = _
                        simp only [Act.put, List.setIfInBounds_toArray, List.set_cons_zero, List.set_cons_succ, i64_w, i32_w]
                        rfl
                      refine one_ (i := 51) (N := some 98) #[true, true, true, true, true, true, true, true, true, true, true, true, true, true, true, true, true, true, true, true, true, true, true, true, true, true, true, true, true, true, true, true, true, true, true, true, true, true, true, true, true, true, true, true, true, true, true, true, true, true, true, true, false, false] rfl rfl (one_of HT_.out (by kernel_rfl)) (by decide) (fun K hK => ?_)
                      refine goes_ Tryd.func38 (by kernel_rfl) rfl #[.slice Ao58 t453.length co58, .int .i64 t407] (by rfl) rfl rfl (by (try simp only [List.map_toArray, List.map_cons, List.map_nil]); first | done | rfl | (simp only [List.length_drop, List.length_take]; rfl)) ?_
                      with_reducible refine (slices_Contains_int_int.calls kj6 _ _ t453 t407 t456 _ ?side1 ?side2 A44.out).mono ?_
                      (case side1 => repeat (first | exact (Kd.R_reads' HO455.out).2.2 | (with_reducible refine Kd.C_alloc ?_ _) | (with_reducible refine Kd.C_drewN ?_ _) | (with_reducible refine Kd.C_drew ?_)))
                      (case side2 => exact (Kd.R_reads' HO455.out).2.1)
                      rintro e w' ⟨rfl, ⟨nd, rfl⟩⟩
                      refine ⟨_, rfl, ?_⟩
                      refine hK.out _ _ ⟨(blk_cell BK448.out 0).trans rfl, (blk_cell BK448.out 1).trans rfl, (blk_cell BK448.out 2).trans rfl, (blk_cell BK448.out 3).trans rfl, (blk_cell BK448.out 4).trans rfl, (blk_cell BK448.out 5).trans rfl, (blk_cell BK448.out 6).trans rfl, (blk_cell BK448.out 7).trans rfl, (blk_cell BK448.out 8).trans rfl, (blk_cell BK448.out 9).trans rfl, (blk_cell BK420.out 0).trans rfl, (blk_cell BK420.out 1).trans rfl, (blk_cell BK420.out 2).trans rfl, (blk_cell BK420.out 3).trans rfl, (blk_cell BK420.out 4).trans rfl, (blk_cell BK420.out 5).trans rfl, (blk_cell BK420.out 6).trans rfl, (blk_cell BK420.out 7).trans rfl, (blk_cell BK420.out 8).trans rfl, (blk_cell BK420.out 9).trans rfl, (blk_cell BK434.out 0).trans rfl, (blk_cell BK434.out 1).trans rfl, (blk_cell BK434.out 2).trans rfl, (blk_cell BK434.out 3).trans rfl, (blk_cell BK434.out 4).trans rfl, (blk_cell BK434.out 5).trans rfl, (blk_cell BK434.out 6).trans rfl, (blk_cell BK434.out 7).trans rfl, (blk_cell BK434.out 8).trans rfl, (blk_cell BK434.out 9).trans rfl⟩ (fun hHeld => ?_)
                      clear hK K
                      refine norm_ (a' := ?_) ?_ ?_
                      rotate_left
                      · show Act.put _ (some 98) _ = _
                        simp only [Act.put, List.setIfInBounds_toArray, List.set_cons_zero, List.set_cons_succ, i64_w, i32_w]
                        rfl
                      refine pure_ (i := 52) (N := some 99) (v := ?_) (a' := ?_) #[true, true, true, true, true, true, true, true, true, true, true, true, true, true, true, true, true, true, true, true, true, true, true, true, true, true, true, true, true, true, true, true, true, true, true, true, true, true, true, true, true, true, true, true, true, true, true, true, true, true, true, true, true, false] rfl rfl (any_of HT_.out (by kernel_rfl)) (fun _ _ _ h => h) (Or.inl ⟨by rfl, ?_⟩) ?_ ?_
                      rotate_left
                      · intro w'
                        go_simp
                        with_reducible rfl
                      rotate_left
                      · simp only [Act.put, List.setIfInBounds_toArray, List.set_cons_zero, List.set_cons_succ, i64_w, i32_w]
                        rfl
                      refine pure_ (i := 53) (N := some 4) (v := ?_) (a' := ?_) #[true, true, true, true, true, true, true, true, true, true, true, true, true, true, true, true, true, true, true, true, true, true, true, true, true, true, true, true, true, true, true, true, true, true, true, true, true, true, true, true, true, true, true, true, true, true, true, true, true, true, true, true, true, true] rfl rfl (any_of HT_.out (by kernel_rfl)) (fun _ _ _ h => h) (Or.inl ⟨by rfl, ?_⟩) ?_ ?_
                      rotate_left
                      · intro w'
                        go_simp
                        with_reducible rfl
                      rotate_left
                      · simp only [Act.put, List.setIfInBounds_toArray, List.set_cons_zero, List.set_cons_succ, i64_w, i32_w]
                        rfl
                      refine done_ (done_of HT_.out (by kernel_rfl)) ?_
                      try go_wp2
                      go_ret
                      exact ⟨by first | rfl | (simp [errW_none, errW_some] <;> rfl) | (simp [*, errW_none, errW_some] <;> rfl), by repeat (first | (with_reducible first | exact HB.out | apply below_alloc | apply pw_below_drewN | apply below_drew1 | refine below_set ?_ GE420.out | refine below_set ?_ GE434.out | refine below_set ?_ GE448.out) | exact HB.out)⟩
                    · rw [if_neg c42] at H
                      have c42b0 : ((t418 == t432) == (t407 == t421)) = false := by simpa using c42
                      (try (have c42b1 : decide ((t418 == t432) = (t407 == t421)) = false := by simpa using c42))
                      (try (have c42b2 : ((t418 == t432) == (t407 == t421)) = false := by simpa using c42))
                      (try (have c42b3 : ¬ ((t418 == t432) = (t407 == t421)) := by simpa using c42))
                      clear c42
                      exact absurd ((Option.some.inj H).trans HT.out) (by decide)
                · exact absurd HW.out.1 c24
              · rw [if_neg c23] at H
                have c23b0 : ((t409.toList == t423.toList) == (t407 == t421)) = false := by simpa using c23
                (try (have c23b1 : decide ((t409.toList == t423.toList) = (t407 == t421)) = false := by simpa using c23))
                (try (have c23b2 : ((t409.toList == t423.toList) == (t407 == t421)) = false := by simpa using c23))
                (try (have c23b3 : ¬ ((t409.toList == t423.toList) = (t407 == t421)) := by simpa using c23))
                clear c23
                exact absurd ((Option.some.inj H).trans HT.out) (by decide)
            · rw [if_neg c22] at H
              have c22b0 : (t435 == t407) = false := beq_eq_false_iff_ne.mpr c22
              have c22b1 : (t435 != t407) = true := bne_iff_ne.mpr c22
              exact absurd ((Option.some.inj H).trans HT.out) (by decide)
          · replace c21 := Bool.eq_false_iff.mpr c21
            subst c21
            have H1 : (some false) = some r := by rw [if_neg (show ¬ (false = true) by decide)] at H; exact H
            clear H
            have H := H1
            clear H1
            exact absurd ((Option.some.inj H).trans HT.out) (by decide)
  · replace c4 := Bool.eq_false_iff.mpr c4
    subst c4
    have H1 : (some false) = some r := by rw [if_neg (show ¬ (false = true) by decide)] at H; exact H
    clear H
    have H := H1
    clear H1
    exact absurd ((Option.some.inj H).trans HT.out) (by decide)
end Go.Proofs.YtohmnlmeamkmjaaDoor.PParams
