import Derived.Test.YtohmnlmeamkmjaaDoorZPParamsx0
import Derived.Test.YtohmnlmeamkmjaaDoorZPParamsx12
import Derived.Test.YtohmnlmeamkmjaaDoorZPParamsx13
import Derived.Test.YtohmnlmeamkmjaaDoorZPParamsx15
import Derived.Test.YtohmnlmeamkmjaaDoorZPParamsx16
namespace Go.Proofs.YtohmnlmeamkmjaaDoor.PParams
open Go.RowKit Go.Proofs.YtohmnlmeamkmjaaDoorW.PrintWords Go.Proofs.YtohmnlmeamkmjaaDoorW.PrintLast Go.Proofs.YtohmnlmeamkmjaaDoorW.PrintMore
attribute [local go_sem] max2_int min2_int max_two min_two max_three min_three max_four min_four
set_option linter.unusedVariables false
set_option linter.unusedSimpArgs false
def pyxlaw13_awake.f (k : Nat)  : Option (Bool) := (params_Get.f k 5).bind fun bt174 => ((params_Get.f k 26).bind fun bt188 => ((params_ByName.f (⟨#[77, 76, 45, 68, 83, 65, 45, 54, 53]⟩ : ByteArray)).bind fun bt202 => (if bt174.2.2.1.toList = ([77, 76, 45, 68, 83, 65, 45, 54, 53] : List UInt8) then (if bt174.2.2.2.1 = 1952 then (if bt174.2.2.2.2.1 = 4032 then (if bt174.2.2.2.2.2.1 = 32 then (if bt174.2.2.2.2.2.2.1 = 3309 then (if bt174.2.2.2.2.2.2.2.2.2.2 = true then (if bt188.2.2.2.2.2.2.2.2.2.2 = true then (some false) else (if bt202.1 = 5 then (if bt202.2.2.2.2.2.2.2.2.2.2 = true then ((params_BySize.f 2 3309).bind fun t216 => ((slices_Equal_int_int.f k t216 (([5] : List Int))).bind fun t222 => (if t222 = true then ((params_ByOID.f ([] : List Int)).bind fun t223 => (some ((t223.length : Int) == 0))) else (some false)))) else (some false)) else (some false))) else (some false)) else (some false)) else (some false)) else (some false)) else (some false)) else (some false))))
theorem pyxlaw13_awake.mono : ∀ k, LeO (pyxlaw13_awake.f k ) (pyxlaw13_awake.f (k + 1) ) := by
  intro  k
  unfold pyxlaw13_awake.f
  repeat' first
      | (with_reducible exact params_Get.mono _ _)
      | (with_reducible exact slices_Equal_int_int.mono _ _ _)
      | (with_reducible exact LeO.refl _)
      | (with_reducible exact LeO.none _)
      | (with_reducible refine LeO.ite ?_ ?_)
      | (with_reducible refine LeO.bind ?_ (fun _ => ?_))
      | exact params_Get.mono _ _
      | exact slices_Equal_int_int.mono _ _ _
      | exact LeO.none _
      | refine LeO.ite ?_ ?_
      | refine LeO.bind ?_ (fun _ => ?_)
theorem pyxlaw13_awake.eval : pyxlaw13_awake.f 64 = some true := by kernel_rfl
theorem pyxlaw13_awake.only {k : Nat} {r : Bool} (h : pyxlaw13_awake.f k = some r) : r = true := by
  obtain ⟨k', h1, h2⟩ := together pyxlaw13_awake.mono pyxlaw13_awake.mono ⟨k, h⟩ ⟨64, pyxlaw13_awake.eval⟩
  exact Option.some.inj (h1.symm.trans h2)
set_option maxHeartbeats 8000000 in
set_option maxRecDepth 100000 in
theorem pyxlaw13_awake.calls (k : Nat)  (r : Bool) (w : World) (h : pyxlaw13_awake.f k  = some r) (hG : GOK w) :
    Calls Tryd.prog 27 #[] w fun e w' => e = .returned (.bool r) ∧ Below w.heap.size w w' := by
  have HG := Aside0.mk hG
  clear hG
  have HT := Aside0.mk (pyxlaw13_awake.only h)
  have hu37 := Tryd.underlying37
  have HB := Aside0.mk (Below.refl w.heap.size w)
  have H : ((params_Get.f k 5).bind fun bt174 => ((params_Get.f k 26).bind fun bt188 => ((params_ByName.f (⟨#[77, 76, 45, 68, 83, 65, 45, 54, 53]⟩ : ByteArray)).bind fun bt202 => (if bt174.2.2.1.toList = ([77, 76, 45, 68, 83, 65, 45, 54, 53] : List UInt8) then (if bt174.2.2.2.1 = 1952 then (if bt174.2.2.2.2.1 = 4032 then (if bt174.2.2.2.2.2.1 = 32 then (if bt174.2.2.2.2.2.2.1 = 3309 then (if bt174.2.2.2.2.2.2.2.2.2.2 = true then (if bt188.2.2.2.2.2.2.2.2.2.2 = true then (some false) else (if bt202.1 = 5 then (if bt202.2.2.2.2.2.2.2.2.2.2 = true then ((params_BySize.f 2 3309).bind fun t216 => ((slices_Equal_int_int.f k t216 (([5] : List Int))).bind fun t222 => (if t222 = true then ((params_ByOID.f ([] : List Int)).bind fun t223 => (some ((t223.length : Int) == 0))) else (some false)))) else (some false)) else (some false))) else (some false)) else (some false)) else (some false)) else (some false)) else (some false)) else (some false))))) = some r := h
  clear h
  replace H := Option.bind_eq_some_iff.mp H
  obtain ⟨⟨t174, t175, t176, t177, t178, t179, t180, t181, t184, t185, t186⟩, A10, H⟩ := H
  replace H : ((params_Get.f k 26).bind fun bt188 => ((params_ByName.f (⟨#[77, 76, 45, 68, 83, 65, 45, 54, 53]⟩ : ByteArray)).bind fun bt202 => (if t176.toList = ([77, 76, 45, 68, 83, 65, 45, 54, 53] : List UInt8) then (if t177 = 1952 then (if t178 = 4032 then (if t179 = 32 then (if t180 = 3309 then (if t186 = true then (if bt188.2.2.2.2.2.2.2.2.2.2 = true then (some false) else (if bt202.1 = 5 then (if bt202.2.2.2.2.2.2.2.2.2.2 = true then ((params_BySize.f 2 3309).bind fun t216 => ((slices_Equal_int_int.f k t216 (([5] : List Int))).bind fun t222 => (if t222 = true then ((params_ByOID.f ([] : List Int)).bind fun t223 => (some ((t223.length : Int) == 0))) else (some false)))) else (some false)) else (some false))) else (some false)) else (some false)) else (some false)) else (some false)) else (some false)) else (some false)))) = some r := H
  have A1 := Aside0.mk A10
  clear A10
  replace H := Option.bind_eq_some_iff.mp H
  obtain ⟨⟨t188, t189, t190, t191, t192, t193, t194, t195, t198, t199, t200⟩, A20, H⟩ := H
  replace H : ((params_ByName.f (⟨#[77, 76, 45, 68, 83, 65, 45, 54, 53]⟩ : ByteArray)).bind fun bt202 => (if t176.toList = ([77, 76, 45, 68, 83, 65, 45, 54, 53] : List UInt8) then (if t177 = 1952 then (if t178 = 4032 then (if t179 = 32 then (if t180 = 3309 then (if t186 = true then (if t200 = true then (some false) else (if bt202.1 = 5 then (if bt202.2.2.2.2.2.2.2.2.2.2 = true then ((params_BySize.f 2 3309).bind fun t216 => ((slices_Equal_int_int.f k t216 (([5] : List Int))).bind fun t222 => (if t222 = true then ((params_ByOID.f ([] : List Int)).bind fun t223 => (some ((t223.length : Int) == 0))) else (some false)))) else (some false)) else (some false))) else (some false)) else (some false)) else (some false)) else (some false)) else (some false)) else (some false))) = some r := H
  have A2 := Aside0.mk A20
  clear A20
  replace H := Option.bind_eq_some_iff.mp H
  obtain ⟨⟨t202, t203, t204, t205, t206, t207, t208, t209, t212, t213, t214⟩, A30, H⟩ := H
  replace H : (if t176.toList = ([77, 76, 45, 68, 83, 65, 45, 54, 53] : List UInt8) then (if t177 = 1952 then (if t178 = 4032 then (if t179 = 32 then (if t180 = 3309 then (if t186 = true then (if t200 = true then (some false) else (if t202 = 5 then (if t214 = true then ((params_BySize.f 2 3309).bind fun t216 => ((slices_Equal_int_int.f k t216 (([5] : List Int))).bind fun t222 => (if t222 = true then ((params_ByOID.f ([] : List Int)).bind fun t223 => (some ((t223.length : Int) == 0))) else (some false)))) else (some false)) else (some false))) else (some false)) else (some false)) else (some false)) else (some false)) else (some false)) else (some false)) = some r := H
  have A3 := Aside0.mk A30
  clear A30
  by_cases c4 : t176.toList = ([77, 76, 45, 68, 83, 65, 45, 54, 53] : List UInt8)
  · rw [if_pos c4] at H
    have c4b0 : (t176.toList == ([77, 76, 45, 68, 83, 65, 45, 54, 53] : List UInt8)) = true := beq_iff_eq.mpr c4
    have c4b1 : (t176.toList != ([77, 76, 45, 68, 83, 65, 45, 54, 53] : List UInt8)) = false := bne_eq_false_iff_eq.mpr c4
    clear c4
    by_cases c5 : t177 = 1952
    · rw [if_pos c5] at H
      have c5b0 : (t177 == 1952) = true := beq_iff_eq.mpr c5
      have c5b1 : (t177 != 1952) = false := bne_eq_false_iff_eq.mpr c5
      clear c5
      by_cases c6 : t178 = 4032
      · rw [if_pos c6] at H
        have c6b0 : (t178 == 4032) = true := beq_iff_eq.mpr c6
        have c6b1 : (t178 != 4032) = false := bne_eq_false_iff_eq.mpr c6
        clear c6
        by_cases c7 : t179 = 32
        · rw [if_pos c7] at H
          have c7b0 : (t179 == 32) = true := beq_iff_eq.mpr c7
          have c7b1 : (t179 != 32) = false := bne_eq_false_iff_eq.mpr c7
          clear c7
          by_cases c8 : t180 = 3309
          · rw [if_pos c8] at H
            have c8b0 : (t180 == 3309) = true := beq_iff_eq.mpr c8
            have c8b1 : (t180 != 3309) = false := bne_eq_false_iff_eq.mpr c8
            clear c8
            by_cases c9 : t186 = true
            · subst c9
              have H1 : (if t200 = true then (some false) else (if t202 = 5 then (if t214 = true then ((params_BySize.f 2 3309).bind fun t216 => ((slices_Equal_int_int.f k t216 (([5] : List Int))).bind fun t222 => (if t222 = true then ((params_ByOID.f ([] : List Int)).bind fun t223 => (some ((t223.length : Int) == 0))) else (some false)))) else (some false)) else (some false))) = some r := by rw [if_pos rfl] at H; exact H
              clear H
              have H := H1
              clear H1
              by_cases c10 : t200 = true
              · subst c10
                have H1 : (some false) = some r := by rw [if_pos rfl] at H; exact H
                clear H
                have H := H1
                clear H1
                exact absurd ((Option.some.inj H).trans HT.out) (by decide)
              · replace c10 := Bool.eq_false_iff.mpr c10
                subst c10
                have H1 : (if t202 = 5 then (if t214 = true then ((params_BySize.f 2 3309).bind fun t216 => ((slices_Equal_int_int.f k t216 (([5] : List Int))).bind fun t222 => (if t222 = true then ((params_ByOID.f ([] : List Int)).bind fun t223 => (some ((t223.length : Int) == 0))) else (some false)))) else (some false)) else (some false)) = some r := by rw [if_neg (show ¬ (false = true) by decide)] at H; exact H
                clear H
                have H := H1
                clear H1
                by_cases c11 : t202 = 5
                · rw [if_pos c11] at H
                  have c11b0 : (t202 == 5) = true := beq_iff_eq.mpr c11
                  have c11b1 : (t202 != 5) = false := bne_eq_false_iff_eq.mpr c11
                  clear c11
                  by_cases c12 : t214 = true
                  · subst c12
                    have H1 : ((params_BySize.f 2 3309).bind fun t216 => ((slices_Equal_int_int.f k t216 (([5] : List Int))).bind fun t222 => (if t222 = true then ((params_ByOID.f ([] : List Int)).bind fun t223 => (some ((t223.length : Int) == 0))) else (some false)))) = some r := by rw [if_pos rfl] at H; exact H
                    clear H
                    have H := H1
                    clear H1
                    replace H := Option.bind_eq_some_iff.mp H
                    obtain ⟨t216, A130, H⟩ := H
                    replace H : ((slices_Equal_int_int.f k t216 (([5] : List Int))).bind fun t222 => (if t222 = true then ((params_ByOID.f ([] : List Int)).bind fun t223 => (some ((t223.length : Int) == 0))) else (some false))) = some r := H
                    have A13 := Aside0.mk A130
                    clear A130
                    obtain ⟨y219, hy219⟩ : ∃ y_ : List Int, y_ = (([5] : List Int)) := ⟨_, rfl⟩
                    replace H : ((slices_Equal_int_int.f k t216 y219).bind fun t222 => (if t222 = true then ((params_ByOID.f ([] : List Int)).bind fun t223 => (some ((t223.length : Int) == 0))) else (some false))) = some r := by first | (rw [hy219]; with_reducible exact H) | (have H2_ := (Option.bind_some _ _).symm.trans H; rw [hy219]; with_reducible exact H2_) | (have H2_ := (Option.bind_some _ _).symm.trans H; with_reducible exact H2_) | with_reducible exact H | (rw [hy219]; exact H) | exact H
                    have Ny219 := Aside0.mk hy219
                    clear hy219
                    replace H := Option.bind_eq_some_iff.mp H
                    obtain ⟨t222, A140, H⟩ := H
                    replace H : (if t222 = true then ((params_ByOID.f ([] : List Int)).bind fun t223 => (some ((t223.length : Int) == 0))) else (some false)) = some r := H
                    have A14 := Aside0.mk A140
                    clear A140
                    by_cases c15 : t222 = true
                    · subst c15
                      have H1 : ((params_ByOID.f ([] : List Int)).bind fun t223 => (some ((t223.length : Int) == 0))) = some r := by rw [if_pos rfl] at H; exact H
                      clear H
                      have H := H1
                      clear H1
                      replace H := Option.bind_eq_some_iff.mp H
                      obtain ⟨t223, A160, H⟩ := H
                      replace H : (some ((t223.length : Int) == 0)) = some r := H
                      have A16 := Aside0.mk A160
                      clear A160
                      obtain rfl := Option.some.inj H
                      go_enter Tryd.func27, Tryd.ntmps27
                      go_wp2_with (first | ((with_reducible refine gate_callee (f := 28) rfl ?_); refine goesL_ (some 8) rfl rfl Tryd.func28 (by kernel_rfl) rfl #[.int .i64 5] rfl (by (try simp only [List.map_toArray, List.map_cons, List.map_nil]); first | done | rfl | (simp only [List.length_drop, List.length_take]; rfl)) ?_; (with_reducible refine (params_Get.calls k 5 t174 t175 t176 t177 t178 t179 t180 t181 t184 t185 true _ A1.out (by first | exact GOK.below HG.out (by repeat (first | (with_reducible first | exact HB.out | apply below_alloc | apply pw_below_drewN | apply below_drew1) | exact HB.out)) | (repeat (first | exact HG.out | apply GOK.drewN | apply GOK.drew)))).mono ?_); rintro e w17 ⟨v182, rfl, ho0, hb⟩; refine ⟨_, rfl, ?_⟩; have n0_ := Aside0.mk (Kd.R_lower ho0 (below_size (by repeat (first | (with_reducible first | exact HB.out | apply below_alloc | apply pw_below_drewN | apply below_drew1) | exact HB.out)))); have n1_ := Aside0.mk (below_step (by repeat (first | (with_reducible first | exact HB.out | apply below_alloc | apply pw_below_drewN | apply below_drew1) | exact HB.out)) hb); clear HB; have HO183 := n0_; have HB := n1_; clear n0_ n1_; (try clear hb); (try clear hb2); (try clear hk); (try clear hi); (try clear ho0)) | ((with_reducible refine gate_dst (N := 1) rfl ?_); (try (refine gate_guard (by rfl) ?_; dsimp only)); refine box_event ?hg (N := 1) ?hd (cs := #[.int .i64 0, .int .i64 0, .string (⟨#[]⟩ : ByteArray), .int .i64 0, .int .i64 0, .int .i64 0, .int .i64 0, .slice none 0 0, .int .i64 0, .int .u32 0]) (t := 37) ?hr ?_; (case hd => rfl); (case hg => rfl); (case hr => first | (go_simp; done) | (go_simp; rfl)); intro gb187 hg w18 hbox hb; have n0_ := Aside0.mk (Kd.R_below (by (with_reducible repeat (first | apply Kd.R_alloc | apply Kd.R_drewN | apply Kd.R_drew)); exact HO183.out) hb); have n1_ := Aside0.mk (below_step (by repeat (first | (with_reducible first | exact HB.out | apply below_alloc | apply pw_below_drewN | apply below_drew1) | exact HB.out)) hb); have n2_ := Aside0.mk (hbox); have n3_ := Aside0.mk ((by rw [hg]; exact (below_size (by repeat (first | (with_reducible first | exact HB.out | apply below_alloc | apply pw_below_drewN | apply below_drew1) | exact HB.out))) : w.heap.size ≤ gb187)); have n4_ := Aside0.mk ((by rw [hg]; exact (below_size (by repeat (first | (with_reducible first | exact HB.out | apply below_alloc | apply pw_below_drewN | apply below_drew1) | exact HB.out))) : w.heap.size ≤ gb187)); clear HO183; clear HB; have HO183 := n0_; have HB := n1_; have BK187 := n2_; have GW187 := n3_; have GE187 := n4_; clear n0_ n1_ n2_ n3_ n4_; clear hb hbox hg; have hcz19_0 : w18.cell? ⟨gb187, 0, none⟩ = some (.int .i64 0) := (blk_cell BK187.out 0).trans rfl; have hcz19_1 : w18.cell? ⟨gb187, 1, none⟩ = some (.int .i64 0) := (blk_cell BK187.out 1).trans rfl; have hcz19_2 : w18.cell? ⟨gb187, 2, none⟩ = some (.string (⟨#[]⟩ : ByteArray)) := (blk_cell BK187.out 2).trans rfl; have hcz19_3 : w18.cell? ⟨gb187, 3, none⟩ = some (.int .i64 0) := (blk_cell BK187.out 3).trans rfl; have hcz19_4 : w18.cell? ⟨gb187, 4, none⟩ = some (.int .i64 0) := (blk_cell BK187.out 4).trans rfl; have hcz19_5 : w18.cell? ⟨gb187, 5, none⟩ = some (.int .i64 0) := (blk_cell BK187.out 5).trans rfl; have hcz19_6 : w18.cell? ⟨gb187, 6, none⟩ = some (.int .i64 0) := (blk_cell BK187.out 6).trans rfl; have hcz19_7 : w18.cell? ⟨gb187, 7, none⟩ = some (.slice none 0 0) := (blk_cell BK187.out 7).trans rfl; have hcz19_8 : w18.cell? ⟨gb187, 8, none⟩ = some (.int .i64 0) := (blk_cell BK187.out 8).trans rfl; have hcz19_9 : w18.cell? ⟨gb187, 9, none⟩ = some (.int .u32 0) := (blk_cell BK187.out 9).trans rfl; have hfz19_0 := blk_frozen BK187.out 0; have hfz19_1 := blk_frozen BK187.out 1; have hfz19_2 := blk_frozen BK187.out 2; have hfz19_3 := blk_frozen BK187.out 3; have hfz19_4 := blk_frozen BK187.out 4; have hfz19_5 := blk_frozen BK187.out 5; have hfz19_6 := blk_frozen BK187.out 6; have hfz19_7 := blk_frozen BK187.out 7; have hfz19_8 := blk_frozen BK187.out 8; have hfz19_9 := blk_frozen BK187.out 9; obtain ⟨Ao20, co20, eo20⟩ := Kd.R_slice HO183.out; subst eo20) | ((with_reducible refine gate_callee (f := 28) rfl ?_); refine goesL_ (some 12) rfl rfl Tryd.func28 (by kernel_rfl) rfl #[.int .i64 26] rfl (by (try simp only [List.map_toArray, List.map_cons, List.map_nil]); first | done | rfl | (simp only [List.length_drop, List.length_take]; rfl)) ?_; (with_reducible refine (params_Get.calls k 26 t188 t189 t190 t191 t192 t193 t194 t195 t198 t199 false _ A2.out (by first | exact GOK.below HG.out (by repeat (first | (with_reducible first | exact HB.out | apply below_alloc | apply pw_below_drewN | apply below_drew1 | refine below_set ?_ GE187.out) | exact HB.out)) | (repeat (first | exact HG.out | apply GOK.drewN | apply GOK.drew)))).mono ?_); rintro e w21 ⟨v196, rfl, ho0, hb⟩; refine ⟨_, rfl, ?_⟩; have n0_ := Aside0.mk (Kd.R_elder' (by (with_reducible repeat (first | apply Kd.R_alloc | apply Kd.R_drewN | apply Kd.R_drew)); exact (Kd.R_mono (Kd.R_far (p := ⟨gb187, 9, none⟩) (Kd.R_far (p := ⟨gb187, 8, none⟩) (Kd.R_far (p := ⟨gb187, 7, none⟩) (Kd.R_far (p := ⟨gb187, 6, none⟩) (Kd.R_far (p := ⟨gb187, 5, none⟩) (Kd.R_far (p := ⟨gb187, 4, none⟩) (Kd.R_far (p := ⟨gb187, 3, none⟩) (Kd.R_far (p := ⟨gb187, 2, none⟩) (Kd.R_far (p := ⟨gb187, 1, none⟩) (Kd.R_far (p := ⟨gb187, 0, none⟩) (Kd.R_types HO183.out BK187.out (by decide)) (fun _ hk => hk.2) (.int .i64 t174)) (fun _ hk => hk.2) (.int .i64 t175)) (fun _ hk => hk.2) (.string t176)) (fun _ hk => hk.2) (.int .i64 t177)) (fun _ hk => hk.2) (.int .i64 t178)) (fun _ hk => hk.2) (.int .i64 t179)) (fun _ hk => hk.2) (.int .i64 t180)) (fun _ hk => hk.2) (.slice Ao20 t181.length co20)) (fun _ hk => hk.2) (.int .i64 t184)) (fun _ hk => hk.2) (.int .u32 t185)) (fun _ h_ => h_.1))) (Kd.R_base ho0) hb); have n1_ := Aside0.mk (Kd.R_lower (Kd.R_new' ho0 (Kd.R_lt (by (with_reducible repeat (first | apply Kd.R_alloc | apply Kd.R_drewN | apply Kd.R_drew)); exact (Kd.R_mono (Kd.R_far (p := ⟨gb187, 9, none⟩) (Kd.R_far (p := ⟨gb187, 8, none⟩) (Kd.R_far (p := ⟨gb187, 7, none⟩) (Kd.R_far (p := ⟨gb187, 6, none⟩) (Kd.R_far (p := ⟨gb187, 5, none⟩) (Kd.R_far (p := ⟨gb187, 4, none⟩) (Kd.R_far (p := ⟨gb187, 3, none⟩) (Kd.R_far (p := ⟨gb187, 2, none⟩) (Kd.R_far (p := ⟨gb187, 1, none⟩) (Kd.R_far (p := ⟨gb187, 0, none⟩) (Kd.R_types HO183.out BK187.out (by decide)) (fun _ hk => hk.2) (.int .i64 t174)) (fun _ hk => hk.2) (.int .i64 t175)) (fun _ hk => hk.2) (.string t176)) (fun _ hk => hk.2) (.int .i64 t177)) (fun _ hk => hk.2) (.int .i64 t178)) (fun _ hk => hk.2) (.int .i64 t179)) (fun _ hk => hk.2) (.int .i64 t180)) (fun _ hk => hk.2) (.slice Ao20 t181.length co20)) (fun _ hk => hk.2) (.int .i64 t184)) (fun _ hk => hk.2) (.int .u32 t185)) (fun _ h_ => h_.1))))) (below_size (by repeat (first | (with_reducible first | exact HB.out | apply below_alloc | apply pw_below_drewN | apply below_drew1 | refine below_set ?_ GE187.out) | exact HB.out)))); have n2_ := Aside0.mk (blk_below (g := gb187) (o := .cells #[.int .i64 t174, .int .i64 t175, .string t176, .int .i64 t177, .int .i64 t178, .int .i64 t179, .int .i64 t180, .slice Ao20 t181.length co20, .int .i64 t184, .int .u32 t185] 37 (0, 0)) (by (with_reducible repeat (first | refine blk_drewN ?_ _ | refine blk_drew ?_ | refine blk_alloc ?_ _)); refine blk_put (cs := #[.int .i64 t174, .int .i64 t175, .string t176, .int .i64 t177, .int .i64 t178, .int .i64 t179, .int .i64 t180, .slice Ao20 t181.length co20, .int .i64 t184, .int .u32 0]) ?_ 9 _ rfl; (with_reducible repeat (first | refine blk_drewN ?_ _ | refine blk_drew ?_ | refine blk_alloc ?_ _)); refine blk_put (cs := #[.int .i64 t174, .int .i64 t175, .string t176, .int .i64 t177, .int .i64 t178, .int .i64 t179, .int .i64 t180, .slice Ao20 t181.length co20, .int .i64 0, .int .u32 0]) ?_ 8 _ rfl; (with_reducible repeat (first | refine blk_drewN ?_ _ | refine blk_drew ?_ | refine blk_alloc ?_ _)); refine blk_put (cs := #[.int .i64 t174, .int .i64 t175, .string t176, .int .i64 t177, .int .i64 t178, .int .i64 t179, .int .i64 t180, .slice none 0 0, .int .i64 0, .int .u32 0]) ?_ 7 _ rfl; (with_reducible repeat (first | refine blk_drewN ?_ _ | refine blk_drew ?_ | refine blk_alloc ?_ _)); refine blk_put (cs := #[.int .i64 t174, .int .i64 t175, .string t176, .int .i64 t177, .int .i64 t178, .int .i64 t179, .int .i64 0, .slice none 0 0, .int .i64 0, .int .u32 0]) ?_ 6 _ rfl; (with_reducible repeat (first | refine blk_drewN ?_ _ | refine blk_drew ?_ | refine blk_alloc ?_ _)); refine blk_put (cs := #[.int .i64 t174, .int .i64 t175, .string t176, .int .i64 t177, .int .i64 t178, .int .i64 0, .int .i64 0, .slice none 0 0, .int .i64 0, .int .u32 0]) ?_ 5 _ rfl; (with_reducible repeat (first | refine blk_drewN ?_ _ | refine blk_drew ?_ | refine blk_alloc ?_ _)); refine blk_put (cs := #[.int .i64 t174, .int .i64 t175, .string t176, .int .i64 t177, .int .i64 0, .int .i64 0, .int .i64 0, .slice none 0 0, .int .i64 0, .int .u32 0]) ?_ 4 _ rfl; (with_reducible repeat (first | refine blk_drewN ?_ _ | refine blk_drew ?_ | refine blk_alloc ?_ _)); refine blk_put (cs := #[.int .i64 t174, .int .i64 t175, .string t176, .int .i64 0, .int .i64 0, .int .i64 0, .int .i64 0, .slice none 0 0, .int .i64 0, .int .u32 0]) ?_ 3 _ rfl; (with_reducible repeat (first | refine blk_drewN ?_ _ | refine blk_drew ?_ | refine blk_alloc ?_ _)); refine blk_put (cs := #[.int .i64 t174, .int .i64 t175, .string (⟨#[]⟩ : ByteArray), .int .i64 0, .int .i64 0, .int .i64 0, .int .i64 0, .slice none 0 0, .int .i64 0, .int .u32 0]) ?_ 2 _ rfl; (with_reducible repeat (first | refine blk_drewN ?_ _ | refine blk_drew ?_ | refine blk_alloc ?_ _)); refine blk_put (cs := #[.int .i64 t174, .int .i64 0, .string (⟨#[]⟩ : ByteArray), .int .i64 0, .int .i64 0, .int .i64 0, .int .i64 0, .slice none 0 0, .int .i64 0, .int .u32 0]) ?_ 1 _ rfl; (with_reducible repeat (first | refine blk_drewN ?_ _ | refine blk_drew ?_ | refine blk_alloc ?_ _)); refine blk_put (cs := #[.int .i64 0, .int .i64 0, .string (⟨#[]⟩ : ByteArray), .int .i64 0, .int .i64 0, .int .i64 0, .int .i64 0, .slice none 0 0, .int .i64 0, .int .u32 0]) ?_ 0 _ rfl; (with_reducible repeat (first | refine blk_drewN ?_ _ | refine blk_drew ?_ | refine blk_alloc ?_ _)); exact BK187.out) hb); have n3_ := Aside0.mk (below_step (by repeat (first | (with_reducible first | exact HB.out | apply below_alloc | apply pw_below_drewN | apply below_drew1 | refine below_set ?_ GE187.out) | exact HB.out)) hb); clear HO183; clear BK187; clear HB; have HO183 := n0_; have HO197 := n1_; have BK187 := n2_; have HB := n3_; clear n0_ n1_ n2_ n3_; (try clear hb); (try clear hb2); (try clear hk); (try clear hi); (try clear ho0)) | ((with_reducible refine gate_dst (N := 3) rfl ?_); (try (refine gate_guard (by rfl) ?_; dsimp only)); refine box_event ?hg (N := 3) ?hd (cs := #[.int .i64 0, .int .i64 0, .string (⟨#[]⟩ : ByteArray), .int .i64 0, .int .i64 0, .int .i64 0, .int .i64 0, .slice none 0 0, .int .i64 0, .int .u32 0]) (t := 37) ?hr ?_; (case hd => rfl); (case hg => rfl); (case hr => first | (go_simp; done) | (go_simp; rfl)); intro gb201 hg w22 hbox hb; have n0_ := Aside0.mk (Kd.R_below (by (with_reducible repeat (first | apply Kd.R_alloc | apply Kd.R_drewN | apply Kd.R_drew)); exact HO183.out) hb); have n1_ := Aside0.mk (Kd.R_below (by (with_reducible repeat (first | apply Kd.R_alloc | apply Kd.R_drewN | apply Kd.R_drew)); exact HO197.out) hb); have n2_ := Aside0.mk (blk_below (g := gb187) (o := .cells #[.int .i64 t174, .int .i64 t175, .string t176, .int .i64 t177, .int .i64 t178, .int .i64 t179, .int .i64 t180, .slice Ao20 t181.length co20, .int .i64 t184, .int .u32 t185] 37 (0, 0)) (by (with_reducible repeat (first | refine blk_drewN ?_ _ | refine blk_drew ?_ | refine blk_alloc ?_ _)); exact BK187.out) hb); have n3_ := Aside0.mk (below_step (by repeat (first | (with_reducible first | exact HB.out | apply below_alloc | apply pw_below_drewN | apply below_drew1 | refine below_set ?_ GE187.out) | exact HB.out)) hb); have n4_ := Aside0.mk (hbox); have n5_ := Aside0.mk ((by rw [hg]; exact (below_size (by repeat (first | (with_reducible first | exact HB.out | apply below_alloc | apply pw_below_drewN | apply below_drew1 | refine below_set ?_ GE187.out) | exact HB.out))) : w.heap.size ≤ gb201)); have n6_ := Aside0.mk ((by rw [hg]; exact (below_size (by repeat (first | (with_reducible first | exact HB.out | apply below_alloc | apply pw_below_drewN | apply below_drew1 | refine below_set ?_ GE187.out) | exact HB.out))) : w.heap.size ≤ gb201)); have n7_ := Aside0.mk ((by rw [hg]; exact Nat.ne_of_lt (blk_lt (g := gb187) (o := .cells #[.int .i64 t174, .int .i64 t175, .string t176, .int .i64 t177, .int .i64 t178, .int .i64 t179, .int .i64 t180, .slice Ao20 t181.length co20, .int .i64 t184, .int .u32 t185] 37 (0, 0)) (by (with_reducible repeat (first | refine blk_drewN ?_ _ | refine blk_drew ?_ | refine blk_alloc ?_ _)); exact BK187.out)) : gb187 ≠ gb201)); have n8_ := Aside0.mk ((by rw [hg]; exact Nat.ne_of_gt (blk_lt (g := gb187) (o := .cells #[.int .i64 t174, .int .i64 t175, .string t176, .int .i64 t177, .int .i64 t178, .int .i64 t179, .int .i64 t180, .slice Ao20 t181.length co20, .int .i64 t184, .int .u32 t185] 37 (0, 0)) (by (with_reducible repeat (first | refine blk_drewN ?_ _ | refine blk_drew ?_ | refine blk_alloc ?_ _)); exact BK187.out)) : gb201 ≠ gb187)); clear HO183; clear HO197; clear BK187; clear HB; have HO183 := n0_; have HO197 := n1_; have BK187 := n2_; have HB := n3_; have BK201 := n4_; have GW201 := n5_; have GE201 := n6_; have NB187_201 := n7_; have NB201_187 := n8_; clear n0_ n1_ n2_ n3_ n4_ n5_ n6_ n7_ n8_; clear hb hbox hg; have hnb23 := NB201_187.out; have hnc23 := NB187_201.out; have hcz24_0 : w22.cell? ⟨gb201, 0, none⟩ = some (.int .i64 0) := (blk_cell BK201.out 0).trans rfl; have hcz24_1 : w22.cell? ⟨gb201, 1, none⟩ = some (.int .i64 0) := (blk_cell BK201.out 1).trans rfl; have hcz24_2 : w22.cell? ⟨gb201, 2, none⟩ = some (.string (⟨#[]⟩ : ByteArray)) := (blk_cell BK201.out 2).trans rfl; have hcz24_3 : w22.cell? ⟨gb201, 3, none⟩ = some (.int .i64 0) := (blk_cell BK201.out 3).trans rfl; have hcz24_4 : w22.cell? ⟨gb201, 4, none⟩ = some (.int .i64 0) := (blk_cell BK201.out 4).trans rfl; have hcz24_5 : w22.cell? ⟨gb201, 5, none⟩ = some (.int .i64 0) := (blk_cell BK201.out 5).trans rfl; have hcz24_6 : w22.cell? ⟨gb201, 6, none⟩ = some (.int .i64 0) := (blk_cell BK201.out 6).trans rfl; have hcz24_7 : w22.cell? ⟨gb201, 7, none⟩ = some (.slice none 0 0) := (blk_cell BK201.out 7).trans rfl; have hcz24_8 : w22.cell? ⟨gb201, 8, none⟩ = some (.int .i64 0) := (blk_cell BK201.out 8).trans rfl; have hcz24_9 : w22.cell? ⟨gb201, 9, none⟩ = some (.int .u32 0) := (blk_cell BK201.out 9).trans rfl; have hfz24_0 := blk_frozen BK201.out 0; have hfz24_1 := blk_frozen BK201.out 1; have hfz24_2 := blk_frozen BK201.out 2; have hfz24_3 := blk_frozen BK201.out 3; have hfz24_4 := blk_frozen BK201.out 4; have hfz24_5 := blk_frozen BK201.out 5; have hfz24_6 := blk_frozen BK201.out 6; have hfz24_7 := blk_frozen BK201.out 7; have hfz24_8 := blk_frozen BK201.out 8; have hfz24_9 := blk_frozen BK201.out 9; obtain ⟨Ao25, co25, eo25⟩ := Kd.R_slice HO197.out; subst eo25) | ((with_reducible refine gate_callee (f := 35) rfl ?_); refine goesL_ (some 16) rfl rfl Tryd.func35 (by kernel_rfl) rfl #[.string (⟨#[77, 76, 45, 68, 83, 65, 45, 54, 53]⟩ : ByteArray)] rfl (by (try simp only [List.map_toArray, List.map_cons, List.map_nil]); first | done | rfl | (simp only [List.length_drop, List.length_take]; rfl)) ?_; (with_reducible refine (params_ByName.calls (⟨#[77, 76, 45, 68, 83, 65, 45, 54, 53]⟩ : ByteArray) t202 t203 t204 t205 t206 t207 t208 t209 t212 t213 true _ A3.out (by first | exact GOK.below HG.out (by repeat (first | (with_reducible first | exact HB.out | apply below_alloc | apply pw_below_drewN | apply below_drew1 | refine below_set ?_ GE187.out | refine below_set ?_ GE201.out) | exact HB.out)) | (repeat (first | exact HG.out | apply GOK.drewN | apply GOK.drew)))).mono ?_); rintro e w26 ⟨v210, rfl, ho0, hb⟩; refine ⟨_, rfl, ?_⟩; have n0_ := Aside0.mk (Kd.R_elder' (by (with_reducible repeat (first | apply Kd.R_alloc | apply Kd.R_drewN | apply Kd.R_drew)); exact (Kd.R_mono (Kd.R_far (p := ⟨gb201, 9, none⟩) (Kd.R_far (p := ⟨gb201, 8, none⟩) (Kd.R_far (p := ⟨gb201, 7, none⟩) (Kd.R_far (p := ⟨gb201, 6, none⟩) (Kd.R_far (p := ⟨gb201, 5, none⟩) (Kd.R_far (p := ⟨gb201, 4, none⟩) (Kd.R_far (p := ⟨gb201, 3, none⟩) (Kd.R_far (p := ⟨gb201, 2, none⟩) (Kd.R_far (p := ⟨gb201, 1, none⟩) (Kd.R_far (p := ⟨gb201, 0, none⟩) (Kd.R_types HO183.out BK201.out (by decide)) (fun _ hk => hk.2) (.int .i64 t188)) (fun _ hk => hk.2) (.int .i64 t189)) (fun _ hk => hk.2) (.string t190)) (fun _ hk => hk.2) (.int .i64 t191)) (fun _ hk => hk.2) (.int .i64 t192)) (fun _ hk => hk.2) (.int .i64 t193)) (fun _ hk => hk.2) (.int .i64 t194)) (fun _ hk => hk.2) (.slice Ao25 t195.length co25)) (fun _ hk => hk.2) (.int .i64 t198)) (fun _ hk => hk.2) (.int .u32 t199)) (fun _ h_ => h_.1))) (Kd.R_base ho0) hb); have n1_ := Aside0.mk (Kd.R_elder' (by (with_reducible repeat (first | apply Kd.R_alloc | apply Kd.R_drewN | apply Kd.R_drew)); exact (Kd.R_mono (Kd.R_far (p := ⟨gb201, 9, none⟩) (Kd.R_far (p := ⟨gb201, 8, none⟩) (Kd.R_far (p := ⟨gb201, 7, none⟩) (Kd.R_far (p := ⟨gb201, 6, none⟩) (Kd.R_far (p := ⟨gb201, 5, none⟩) (Kd.R_far (p := ⟨gb201, 4, none⟩) (Kd.R_far (p := ⟨gb201, 3, none⟩) (Kd.R_far (p := ⟨gb201, 2, none⟩) (Kd.R_far (p := ⟨gb201, 1, none⟩) (Kd.R_far (p := ⟨gb201, 0, none⟩) (Kd.R_types HO197.out BK201.out (by decide)) (fun _ hk => hk.2) (.int .i64 t188)) (fun _ hk => hk.2) (.int .i64 t189)) (fun _ hk => hk.2) (.string t190)) (fun _ hk => hk.2) (.int .i64 t191)) (fun _ hk => hk.2) (.int .i64 t192)) (fun _ hk => hk.2) (.int .i64 t193)) (fun _ hk => hk.2) (.int .i64 t194)) (fun _ hk => hk.2) (.slice Ao25 t195.length co25)) (fun _ hk => hk.2) (.int .i64 t198)) (fun _ hk => hk.2) (.int .u32 t199)) (fun _ h_ => h_.1))) (Kd.R_base ho0) hb); have n2_ := Aside0.mk (Kd.R_lower (Kd.R_new' (Kd.R_new' ho0 (Kd.R_lt (by (with_reducible repeat (first | apply Kd.R_alloc | apply Kd.R_drewN | apply Kd.R_drew)); exact (Kd.R_mono (Kd.R_far (p := ⟨gb201, 9, none⟩) (Kd.R_far (p := ⟨gb201, 8, none⟩) (Kd.R_far (p := ⟨gb201, 7, none⟩) (Kd.R_far (p := ⟨gb201, 6, none⟩) (Kd.R_far (p := ⟨gb201, 5, none⟩) (Kd.R_far (p := ⟨gb201, 4, none⟩) (Kd.R_far (p := ⟨gb201, 3, none⟩) (Kd.R_far (p := ⟨gb201, 2, none⟩) (Kd.R_far (p := ⟨gb201, 1, none⟩) (Kd.R_far (p := ⟨gb201, 0, none⟩) (Kd.R_types HO183.out BK201.out (by decide)) (fun _ hk => hk.2) (.int .i64 t188)) (fun _ hk => hk.2) (.int .i64 t189)) (fun _ hk => hk.2) (.string t190)) (fun _ hk => hk.2) (.int .i64 t191)) (fun _ hk => hk.2) (.int .i64 t192)) (fun _ hk => hk.2) (.int .i64 t193)) (fun _ hk => hk.2) (.int .i64 t194)) (fun _ hk => hk.2) (.slice Ao25 t195.length co25)) (fun _ hk => hk.2) (.int .i64 t198)) (fun _ hk => hk.2) (.int .u32 t199)) (fun _ h_ => h_.1))))) (Kd.R_lt (by (with_reducible repeat (first | apply Kd.R_alloc | apply Kd.R_drewN | apply Kd.R_drew)); exact (Kd.R_mono (Kd.R_far (p := ⟨gb201, 9, none⟩) (Kd.R_far (p := ⟨gb201, 8, none⟩) (Kd.R_far (p := ⟨gb201, 7, none⟩) (Kd.R_far (p := ⟨gb201, 6, none⟩) (Kd.R_far (p := ⟨gb201, 5, none⟩) (Kd.R_far (p := ⟨gb201, 4, none⟩) (Kd.R_far (p := ⟨gb201, 3, none⟩) (Kd.R_far (p := ⟨gb201, 2, none⟩) (Kd.R_far (p := ⟨gb201, 1, none⟩) (Kd.R_far (p := ⟨gb201, 0, none⟩) (Kd.R_types HO197.out BK201.out (by decide)) (fun _ hk => hk.2) (.int .i64 t188)) (fun _ hk => hk.2) (.int .i64 t189)) (fun _ hk => hk.2) (.string t190)) (fun _ hk => hk.2) (.int .i64 t191)) (fun _ hk => hk.2) (.int .i64 t192)) (fun _ hk => hk.2) (.int .i64 t193)) (fun _ hk => hk.2) (.int .i64 t194)) (fun _ hk => hk.2) (.slice Ao25 t195.length co25)) (fun _ hk => hk.2) (.int .i64 t198)) (fun _ hk => hk.2) (.int .u32 t199)) (fun _ h_ => h_.1))))) (below_size (by repeat (first | (with_reducible first | exact HB.out | apply below_alloc | apply pw_below_drewN | apply below_drew1 | refine below_set ?_ GE187.out | refine below_set ?_ GE201.out) | exact HB.out)))); have n3_ := Aside0.mk (blk_below (g := gb187) (o := .cells #[.int .i64 t174, .int .i64 t175, .string t176, .int .i64 t177, .int .i64 t178, .int .i64 t179, .int .i64 t180, .slice Ao20 t181.length co20, .int .i64 t184, .int .u32 t185] 37 (0, 0)) (by (with_reducible repeat (first | refine blk_drewN ?_ _ | refine blk_drew ?_ | refine blk_alloc ?_ _)); refine blk_far ?_ NB187_201.out _; (with_reducible repeat (first | refine blk_drewN ?_ _ | refine blk_drew ?_ | refine blk_alloc ?_ _)); refine blk_far ?_ NB187_201.out _; (with_reducible repeat (first | refine blk_drewN ?_ _ | refine blk_drew ?_ | refine blk_alloc ?_ _)); refine blk_far ?_ NB187_201.out _; (with_reducible repeat (first | refine blk_drewN ?_ _ | refine blk_drew ?_ | refine blk_alloc ?_ _)); refine blk_far ?_ NB187_201.out _; (with_reducible repeat (first | refine blk_drewN ?_ _ | refine blk_drew ?_ | refine blk_alloc ?_ _)); refine blk_far ?_ NB187_201.out _; (with_reducible repeat (first | refine blk_drewN ?_ _ | refine blk_drew ?_ | refine blk_alloc ?_ _)); refine blk_far ?_ NB187_201.out _; (with_reducible repeat (first | refine blk_drewN ?_ _ | refine blk_drew ?_ | refine blk_alloc ?_ _)); refine blk_far ?_ NB187_201.out _; (with_reducible repeat (first | refine blk_drewN ?_ _ | refine blk_drew ?_ | refine blk_alloc ?_ _)); refine blk_far ?_ NB187_201.out _; (with_reducible repeat (first | refine blk_drewN ?_ _ | refine blk_drew ?_ | refine blk_alloc ?_ _)); refine blk_far ?_ NB187_201.out _; (with_reducible repeat (first | refine blk_drewN ?_ _ | refine blk_drew ?_ | refine blk_alloc ?_ _)); refine blk_far ?_ NB187_201.out _; (with_reducible repeat (first | refine blk_drewN ?_ _ | refine blk_drew ?_ | refine blk_alloc ?_ _)); exact BK187.out) hb); have n4_ := Aside0.mk (blk_below (g := gb201) (o := .cells #[.int .i64 t188, .int .i64 t189, .string t190, .int .i64 t191, .int .i64 t192, .int .i64 t193, .int .i64 t194, .slice Ao25 t195.length co25, .int .i64 t198, .int .u32 t199] 37 (0, 0)) (by (with_reducible repeat (first | refine blk_drewN ?_ _ | refine blk_drew ?_ | refine blk_alloc ?_ _)); refine blk_put (cs := #[.int .i64 t188, .int .i64 t189, .string t190, .int .i64 t191, .int .i64 t192, .int .i64 t193, .int .i64 t194, .slice Ao25 t195.length co25, .int .i64 t198, .int .u32 0]) ?_ 9 _ rfl; (with_reducible repeat (first | refine blk_drewN ?_ _ | refine blk_drew ?_ | refine blk_alloc ?_ _)); refine blk_put (cs := #[.int .i64 t188, .int .i64 t189, .string t190, .int .i64 t191, .int .i64 t192, .int .i64 t193, .int .i64 t194, .slice Ao25 t195.length co25, .int .i64 0, .int .u32 0]) ?_ 8 _ rfl; (with_reducible repeat (first | refine blk_drewN ?_ _ | refine blk_drew ?_ | refine blk_alloc ?_ _)); refine blk_put (cs := #[.int .i64 t188, .int .i64 t189, .string t190, .int .i64 t191, .int .i64 t192, .int .i64 t193, .int .i64 t194, .slice none 0 0, .int .i64 0, .int .u32 0]) ?_ 7 _ rfl; (with_reducible repeat (first | refine blk_drewN ?_ _ | refine blk_drew ?_ | refine blk_alloc ?_ _)); refine blk_put (cs := #[.int .i64 t188, .int .i64 t189, .string t190, .int .i64 t191, .int .i64 t192, .int .i64 t193, .int .i64 0, .slice none 0 0, .int .i64 0, .int .u32 0]) ?_ 6 _ rfl; (with_reducible repeat (first | refine blk_drewN ?_ _ | refine blk_drew ?_ | refine blk_alloc ?_ _)); refine blk_put (cs := #[.int .i64 t188, .int .i64 t189, .string t190, .int .i64 t191, .int .i64 t192, .int .i64 0, .int .i64 0, .slice none 0 0, .int .i64 0, .int .u32 0]) ?_ 5 _ rfl; (with_reducible repeat (first | refine blk_drewN ?_ _ | refine blk_drew ?_ | refine blk_alloc ?_ _)); refine blk_put (cs := #[.int .i64 t188, .int .i64 t189, .string t190, .int .i64 t191, .int .i64 0, .int .i64 0, .int .i64 0, .slice none 0 0, .int .i64 0, .int .u32 0]) ?_ 4 _ rfl; (with_reducible repeat (first | refine blk_drewN ?_ _ | refine blk_drew ?_ | refine blk_alloc ?_ _)); refine blk_put (cs := #[.int .i64 t188, .int .i64 t189, .string t190, .int .i64 0, .int .i64 0, .int .i64 0, .int .i64 0, .slice none 0 0, .int .i64 0, .int .u32 0]) ?_ 3 _ rfl; (with_reducible repeat (first | refine blk_drewN ?_ _ | refine blk_drew ?_ | refine blk_alloc ?_ _)); refine blk_put (cs := #[.int .i64 t188, .int .i64 t189, .string (⟨#[]⟩ : ByteArray), .int .i64 0, .int .i64 0, .int .i64 0, .int .i64 0, .slice none 0 0, .int .i64 0, .int .u32 0]) ?_ 2 _ rfl; (with_reducible repeat (first | refine blk_drewN ?_ _ | refine blk_drew ?_ | refine blk_alloc ?_ _)); refine blk_put (cs := #[.int .i64 t188, .int .i64 0, .string (⟨#[]⟩ : ByteArray), .int .i64 0, .int .i64 0, .int .i64 0, .int .i64 0, .slice none 0 0, .int .i64 0, .int .u32 0]) ?_ 1 _ rfl; (with_reducible repeat (first | refine blk_drewN ?_ _ | refine blk_drew ?_ | refine blk_alloc ?_ _)); refine blk_put (cs := #[.int .i64 0, .int .i64 0, .string (⟨#[]⟩ : ByteArray), .int .i64 0, .int .i64 0, .int .i64 0, .int .i64 0, .slice none 0 0, .int .i64 0, .int .u32 0]) ?_ 0 _ rfl; (with_reducible repeat (first | refine blk_drewN ?_ _ | refine blk_drew ?_ | refine blk_alloc ?_ _)); exact BK201.out) hb); have n5_ := Aside0.mk (below_step (by repeat (first | (with_reducible first | exact HB.out | apply below_alloc | apply pw_below_drewN | apply below_drew1 | refine below_set ?_ GE187.out | refine below_set ?_ GE201.out) | exact HB.out)) hb); clear HO183; clear HO197; clear BK187; clear BK201; clear HB; have HO183 := n0_; have HO197 := n1_; have HO211 := n2_; have BK187 := n3_; have BK201 := n4_; have HB := n5_; clear n0_ n1_ n2_ n3_ n4_ n5_; (try clear hb); (try clear hb2); (try clear hk); (try clear hi); (try clear ho0)) | ((with_reducible refine gate_dst (N := 5) rfl ?_); (try (refine gate_guard (by rfl) ?_; dsimp only)); refine box_event ?hg (N := 5) ?hd (cs := #[.int .i64 0, .int .i64 0, .string (⟨#[]⟩ : ByteArray), .int .i64 0, .int .i64 0, .int .i64 0, .int .i64 0, .slice none 0 0, .int .i64 0, .int .u32 0]) (t := 37) ?hr ?_; (case hd => rfl); (case hg => rfl); (case hr => first | (go_simp; done) | (go_simp; rfl)); intro gb215 hg w27 hbox hb; have n0_ := Aside0.mk (Kd.R_below (by (with_reducible repeat (first | apply Kd.R_alloc | apply Kd.R_drewN | apply Kd.R_drew)); exact HO183.out) hb); have n1_ := Aside0.mk (Kd.R_below (by (with_reducible repeat (first | apply Kd.R_alloc | apply Kd.R_drewN | apply Kd.R_drew)); exact HO197.out) hb); have n2_ := Aside0.mk (Kd.R_below (by (with_reducible repeat (first | apply Kd.R_alloc | apply Kd.R_drewN | apply Kd.R_drew)); exact HO211.out) hb); have n3_ := Aside0.mk (blk_below (g := gb187) (o := .cells #[.int .i64 t174, .int .i64 t175, .string t176, .int .i64 t177, .int .i64 t178, .int .i64 t179, .int .i64 t180, .slice Ao20 t181.length co20, .int .i64 t184, .int .u32 t185] 37 (0, 0)) (by (with_reducible repeat (first | refine blk_drewN ?_ _ | refine blk_drew ?_ | refine blk_alloc ?_ _)); exact BK187.out) hb); have n4_ := Aside0.mk (blk_below (g := gb201) (o := .cells #[.int .i64 t188, .int .i64 t189, .string t190, .int .i64 t191, .int .i64 t192, .int .i64 t193, .int .i64 t194, .slice Ao25 t195.length co25, .int .i64 t198, .int .u32 t199] 37 (0, 0)) (by (with_reducible repeat (first | refine blk_drewN ?_ _ | refine blk_drew ?_ | refine blk_alloc ?_ _)); exact BK201.out) hb); have n5_ := Aside0.mk (below_step (by repeat (first | (with_reducible first | exact HB.out | apply below_alloc | apply pw_below_drewN | apply below_drew1 | refine below_set ?_ GE187.out | refine below_set ?_ GE201.out) | exact HB.out)) hb); have n6_ := Aside0.mk (hbox); have n7_ := Aside0.mk ((by rw [hg]; exact (below_size (by repeat (first | (with_reducible first | exact HB.out | apply below_alloc | apply pw_below_drewN | apply below_drew1 | refine below_set ?_ GE187.out | refine below_set ?_ GE201.out) | exact HB.out))) : w.heap.size ≤ gb215)); have n8_ := Aside0.mk ((by rw [hg]; exact (below_size (by repeat (first | (with_reducible first | exact HB.out | apply below_alloc | apply pw_below_drewN | apply below_drew1 | refine below_set ?_ GE187.out | refine below_set ?_ GE201.out) | exact HB.out))) : w.heap.size ≤ gb215)); have n9_ := Aside0.mk ((by rw [hg]; exact Nat.ne_of_lt (blk_lt (g := gb187) (o := .cells #[.int .i64 t174, .int .i64 t175, .string t176, .int .i64 t177, .int .i64 t178, .int .i64 t179, .int .i64 t180, .slice Ao20 t181.length co20, .int .i64 t184, .int .u32 t185] 37 (0, 0)) (by (with_reducible repeat (first | refine blk_drewN ?_ _ | refine blk_drew ?_ | refine blk_alloc ?_ _)); exact BK187.out)) : gb187 ≠ gb215)); have n10_ := Aside0.mk ((by rw [hg]; exact Nat.ne_of_gt (blk_lt (g := gb187) (o := .cells #[.int .i64 t174, .int .i64 t175, .string t176, .int .i64 t177, .int .i64 t178, .int .i64 t179, .int .i64 t180, .slice Ao20 t181.length co20, .int .i64 t184, .int .u32 t185] 37 (0, 0)) (by (with_reducible repeat (first | refine blk_drewN ?_ _ | refine blk_drew ?_ | refine blk_alloc ?_ _)); exact BK187.out)) : gb215 ≠ gb187)); have n11_ := Aside0.mk ((by rw [hg]; exact Nat.ne_of_lt (blk_lt (g := gb201) (o := .cells #[.int .i64 t188, .int .i64 t189, .string t190, .int .i64 t191, .int .i64 t192, .int .i64 t193, .int .i64 t194, .slice Ao25 t195.length co25, .int .i64 t198, .int .u32 t199] 37 (0, 0)) (by (with_reducible repeat (first | refine blk_drewN ?_ _ | refine blk_drew ?_ | refine blk_alloc ?_ _)); exact BK201.out)) : gb201 ≠ gb215)); have n12_ := Aside0.mk ((by rw [hg]; exact Nat.ne_of_gt (blk_lt (g := gb201) (o := .cells #[.int .i64 t188, .int .i64 t189, .string t190, .int .i64 t191, .int .i64 t192, .int .i64 t193, .int .i64 t194, .slice Ao25 t195.length co25, .int .i64 t198, .int .u32 t199] 37 (0, 0)) (by (with_reducible repeat (first | refine blk_drewN ?_ _ | refine blk_drew ?_ | refine blk_alloc ?_ _)); exact BK201.out)) : gb215 ≠ gb201)); clear HO183; clear HO197; clear HO211; clear BK187; clear BK201; clear HB; have HO183 := n0_; have HO197 := n1_; have HO211 := n2_; have BK187 := n3_; have BK201 := n4_; have HB := n5_; have BK215 := n6_; have GW215 := n7_; have GE215 := n8_; have NB187_215 := n9_; have NB215_187 := n10_; have NB201_215 := n11_; have NB215_201 := n12_; clear n0_ n1_ n2_ n3_ n4_ n5_ n6_ n7_ n8_ n9_ n10_ n11_ n12_; clear hb hbox hg; have hnb28 := NB215_187.out; have hnc28 := NB187_215.out; have hnb29 := NB215_201.out; have hnc29 := NB201_215.out; have hcz30_0 : w27.cell? ⟨gb215, 0, none⟩ = some (.int .i64 0) := (blk_cell BK215.out 0).trans rfl; have hcz30_1 : w27.cell? ⟨gb215, 1, none⟩ = some (.int .i64 0) := (blk_cell BK215.out 1).trans rfl; have hcz30_2 : w27.cell? ⟨gb215, 2, none⟩ = some (.string (⟨#[]⟩ : ByteArray)) := (blk_cell BK215.out 2).trans rfl; have hcz30_3 : w27.cell? ⟨gb215, 3, none⟩ = some (.int .i64 0) := (blk_cell BK215.out 3).trans rfl; have hcz30_4 : w27.cell? ⟨gb215, 4, none⟩ = some (.int .i64 0) := (blk_cell BK215.out 4).trans rfl; have hcz30_5 : w27.cell? ⟨gb215, 5, none⟩ = some (.int .i64 0) := (blk_cell BK215.out 5).trans rfl; have hcz30_6 : w27.cell? ⟨gb215, 6, none⟩ = some (.int .i64 0) := (blk_cell BK215.out 6).trans rfl; have hcz30_7 : w27.cell? ⟨gb215, 7, none⟩ = some (.slice none 0 0) := (blk_cell BK215.out 7).trans rfl; have hcz30_8 : w27.cell? ⟨gb215, 8, none⟩ = some (.int .i64 0) := (blk_cell BK215.out 8).trans rfl; have hcz30_9 : w27.cell? ⟨gb215, 9, none⟩ = some (.int .u32 0) := (blk_cell BK215.out 9).trans rfl; have hfz30_0 := blk_frozen BK215.out 0; have hfz30_1 := blk_frozen BK215.out 1; have hfz30_2 := blk_frozen BK215.out 2; have hfz30_3 := blk_frozen BK215.out 3; have hfz30_4 := blk_frozen BK215.out 4; have hfz30_5 := blk_frozen BK215.out 5; have hfz30_6 := blk_frozen BK215.out 6; have hfz30_7 := blk_frozen BK215.out 7; have hfz30_8 := blk_frozen BK215.out 8; have hfz30_9 := blk_frozen BK215.out 9; obtain ⟨Ao31, co31, eo31⟩ := Kd.R_slice HO211.out; subst eo31; have hcz32_0 : w27.cell? ⟨gb187, 0, none⟩ = some (.int .i64 t174) := (blk_cell BK187.out 0).trans rfl; have hcz32_1 : w27.cell? ⟨gb187, 1, none⟩ = some (.int .i64 t175) := (blk_cell BK187.out 1).trans rfl; have hcz32_2 : w27.cell? ⟨gb187, 2, none⟩ = some (.string t176) := (blk_cell BK187.out 2).trans rfl; have hcz32_3 : w27.cell? ⟨gb187, 3, none⟩ = some (.int .i64 t177) := (blk_cell BK187.out 3).trans rfl; have hcz32_4 : w27.cell? ⟨gb187, 4, none⟩ = some (.int .i64 t178) := (blk_cell BK187.out 4).trans rfl; have hcz32_5 : w27.cell? ⟨gb187, 5, none⟩ = some (.int .i64 t179) := (blk_cell BK187.out 5).trans rfl; have hcz32_6 : w27.cell? ⟨gb187, 6, none⟩ = some (.int .i64 t180) := (blk_cell BK187.out 6).trans rfl; have hcz32_7 : w27.cell? ⟨gb187, 7, none⟩ = some (.slice Ao20 t181.length co20) := (blk_cell BK187.out 7).trans rfl; have hcz32_8 : w27.cell? ⟨gb187, 8, none⟩ = some (.int .i64 t184) := (blk_cell BK187.out 8).trans rfl; have hcz32_9 : w27.cell? ⟨gb187, 9, none⟩ = some (.int .u32 t185) := (blk_cell BK187.out 9).trans rfl; have hfz32_0 := blk_frozen BK187.out 0; have hfz32_1 := blk_frozen BK187.out 1; have hfz32_2 := blk_frozen BK187.out 2; have hfz32_3 := blk_frozen BK187.out 3; have hfz32_4 := blk_frozen BK187.out 4; have hfz32_5 := blk_frozen BK187.out 5; have hfz32_6 := blk_frozen BK187.out 6; have hfz32_7 := blk_frozen BK187.out 7; have hfz32_8 := blk_frozen BK187.out 8; have hfz32_9 := blk_frozen BK187.out 9) | (go_at_call 34; (with_reducible refine (params_BySize.calls 2 3309 t216 _ A13.out (by first | exact GOK.below HG.out (by repeat (first | (with_reducible first | exact HB.out | apply below_alloc | apply pw_below_drewN | apply below_drew1 | refine below_set ?_ GE187.out | refine below_set ?_ GE201.out | refine below_set ?_ GE215.out) | exact HB.out)) | (repeat (first | exact HG.out | apply GOK.drewN | apply GOK.drew)))).mono ?_); rintro e w33 ⟨v217, rfl, ho0, hb⟩; have n0_ := Aside0.mk (Kd.R_below (by (with_reducible repeat (first | apply Kd.R_alloc | apply Kd.R_drewN | apply Kd.R_drew)); exact (Kd.R_mono (Kd.R_far (p := ⟨gb215, 9, none⟩) (Kd.R_far (p := ⟨gb215, 8, none⟩) (Kd.R_far (p := ⟨gb215, 7, none⟩) (Kd.R_far (p := ⟨gb215, 6, none⟩) (Kd.R_far (p := ⟨gb215, 5, none⟩) (Kd.R_far (p := ⟨gb215, 4, none⟩) (Kd.R_far (p := ⟨gb215, 3, none⟩) (Kd.R_far (p := ⟨gb215, 2, none⟩) (Kd.R_far (p := ⟨gb215, 1, none⟩) (Kd.R_far (p := ⟨gb215, 0, none⟩) (Kd.R_types HO183.out BK215.out (by decide)) (fun _ hk => hk.2) (.int .i64 t202)) (fun _ hk => hk.2) (.int .i64 t203)) (fun _ hk => hk.2) (.string t204)) (fun _ hk => hk.2) (.int .i64 t205)) (fun _ hk => hk.2) (.int .i64 t206)) (fun _ hk => hk.2) (.int .i64 t207)) (fun _ hk => hk.2) (.int .i64 t208)) (fun _ hk => hk.2) (.slice Ao31 t209.length co31)) (fun _ hk => hk.2) (.int .i64 t212)) (fun _ hk => hk.2) (.int .u32 t213)) (fun _ h_ => h_.1))) hb); have n1_ := Aside0.mk (Kd.R_below (by (with_reducible repeat (first | apply Kd.R_alloc | apply Kd.R_drewN | apply Kd.R_drew)); exact (Kd.R_mono (Kd.R_far (p := ⟨gb215, 9, none⟩) (Kd.R_far (p := ⟨gb215, 8, none⟩) (Kd.R_far (p := ⟨gb215, 7, none⟩) (Kd.R_far (p := ⟨gb215, 6, none⟩) (Kd.R_far (p := ⟨gb215, 5, none⟩) (Kd.R_far (p := ⟨gb215, 4, none⟩) (Kd.R_far (p := ⟨gb215, 3, none⟩) (Kd.R_far (p := ⟨gb215, 2, none⟩) (Kd.R_far (p := ⟨gb215, 1, none⟩) (Kd.R_far (p := ⟨gb215, 0, none⟩) (Kd.R_types HO197.out BK215.out (by decide)) (fun _ hk => hk.2) (.int .i64 t202)) (fun _ hk => hk.2) (.int .i64 t203)) (fun _ hk => hk.2) (.string t204)) (fun _ hk => hk.2) (.int .i64 t205)) (fun _ hk => hk.2) (.int .i64 t206)) (fun _ hk => hk.2) (.int .i64 t207)) (fun _ hk => hk.2) (.int .i64 t208)) (fun _ hk => hk.2) (.slice Ao31 t209.length co31)) (fun _ hk => hk.2) (.int .i64 t212)) (fun _ hk => hk.2) (.int .u32 t213)) (fun _ h_ => h_.1))) hb); have n2_ := Aside0.mk (Kd.R_below (by (with_reducible repeat (first | apply Kd.R_alloc | apply Kd.R_drewN | apply Kd.R_drew)); exact (Kd.R_mono (Kd.R_far (p := ⟨gb215, 9, none⟩) (Kd.R_far (p := ⟨gb215, 8, none⟩) (Kd.R_far (p := ⟨gb215, 7, none⟩) (Kd.R_far (p := ⟨gb215, 6, none⟩) (Kd.R_far (p := ⟨gb215, 5, none⟩) (Kd.R_far (p := ⟨gb215, 4, none⟩) (Kd.R_far (p := ⟨gb215, 3, none⟩) (Kd.R_far (p := ⟨gb215, 2, none⟩) (Kd.R_far (p := ⟨gb215, 1, none⟩) (Kd.R_far (p := ⟨gb215, 0, none⟩) (Kd.R_types HO211.out BK215.out (by decide)) (fun _ hk => hk.2) (.int .i64 t202)) (fun _ hk => hk.2) (.int .i64 t203)) (fun _ hk => hk.2) (.string t204)) (fun _ hk => hk.2) (.int .i64 t205)) (fun _ hk => hk.2) (.int .i64 t206)) (fun _ hk => hk.2) (.int .i64 t207)) (fun _ hk => hk.2) (.int .i64 t208)) (fun _ hk => hk.2) (.slice Ao31 t209.length co31)) (fun _ hk => hk.2) (.int .i64 t212)) (fun _ hk => hk.2) (.int .u32 t213)) (fun _ h_ => h_.1))) hb); have n3_ := Aside0.mk (Kd.R_lower ho0 (below_size (by repeat (first | (with_reducible first | exact HB.out | apply below_alloc | apply pw_below_drewN | apply below_drew1 | refine below_set ?_ GE187.out | refine below_set ?_ GE201.out | refine below_set ?_ GE215.out) | exact HB.out)))); have n4_ := Aside0.mk (blk_below (g := gb187) (o := .cells #[.int .i64 t174, .int .i64 t175, .string t176, .int .i64 t177, .int .i64 t178, .int .i64 t179, .int .i64 t180, .slice Ao20 t181.length co20, .int .i64 t184, .int .u32 t185] 37 (0, 0)) (by (with_reducible repeat (first | refine blk_drewN ?_ _ | refine blk_drew ?_ | refine blk_alloc ?_ _)); refine blk_far ?_ NB187_215.out _; (with_reducible repeat (first | refine blk_drewN ?_ _ | refine blk_drew ?_ | refine blk_alloc ?_ _)); refine blk_far ?_ NB187_215.out _; (with_reducible repeat (first | refine blk_drewN ?_ _ | refine blk_drew ?_ | refine blk_alloc ?_ _)); refine blk_far ?_ NB187_215.out _; (with_reducible repeat (first | refine blk_drewN ?_ _ | refine blk_drew ?_ | refine blk_alloc ?_ _)); refine blk_far ?_ NB187_215.out _; (with_reducible repeat (first | refine blk_drewN ?_ _ | refine blk_drew ?_ | refine blk_alloc ?_ _)); refine blk_far ?_ NB187_215.out _; (with_reducible repeat (first | refine blk_drewN ?_ _ | refine blk_drew ?_ | refine blk_alloc ?_ _)); refine blk_far ?_ NB187_215.out _; (with_reducible repeat (first | refine blk_drewN ?_ _ | refine blk_drew ?_ | refine blk_alloc ?_ _)); refine blk_far ?_ NB187_215.out _; (with_reducible repeat (first | refine blk_drewN ?_ _ | refine blk_drew ?_ | refine blk_alloc ?_ _)); refine blk_far ?_ NB187_215.out _; (with_reducible repeat (first | refine blk_drewN ?_ _ | refine blk_drew ?_ | refine blk_alloc ?_ _)); refine blk_far ?_ NB187_215.out _; (with_reducible repeat (first | refine blk_drewN ?_ _ | refine blk_drew ?_ | refine blk_alloc ?_ _)); refine blk_far ?_ NB187_215.out _; (with_reducible repeat (first | refine blk_drewN ?_ _ | refine blk_drew ?_ | refine blk_alloc ?_ _)); exact BK187.out) hb); have n5_ := Aside0.mk (blk_below (g := gb201) (o := .cells #[.int .i64 t188, .int .i64 t189, .string t190, .int .i64 t191, .int .i64 t192, .int .i64 t193, .int .i64 t194, .slice Ao25 t195.length co25, .int .i64 t198, .int .u32 t199] 37 (0, 0)) (by (with_reducible repeat (first | refine blk_drewN ?_ _ | refine blk_drew ?_ | refine blk_alloc ?_ _)); refine blk_far ?_ NB201_215.out _; (with_reducible repeat (first | refine blk_drewN ?_ _ | refine blk_drew ?_ | refine blk_alloc ?_ _)); refine blk_far ?_ NB201_215.out _; (with_reducible repeat (first | refine blk_drewN ?_ _ | refine blk_drew ?_ | refine blk_alloc ?_ _)); refine blk_far ?_ NB201_215.out _; (with_reducible repeat (first | refine blk_drewN ?_ _ | refine blk_drew ?_ | refine blk_alloc ?_ _)); refine blk_far ?_ NB201_215.out _; (with_reducible repeat (first | refine blk_drewN ?_ _ | refine blk_drew ?_ | refine blk_alloc ?_ _)); refine blk_far ?_ NB201_215.out _; (with_reducible repeat (first | refine blk_drewN ?_ _ | refine blk_drew ?_ | refine blk_alloc ?_ _)); refine blk_far ?_ NB201_215.out _; (with_reducible repeat (first | refine blk_drewN ?_ _ | refine blk_drew ?_ | refine blk_alloc ?_ _)); refine blk_far ?_ NB201_215.out _; (with_reducible repeat (first | refine blk_drewN ?_ _ | refine blk_drew ?_ | refine blk_alloc ?_ _)); refine blk_far ?_ NB201_215.out _; (with_reducible repeat (first | refine blk_drewN ?_ _ | refine blk_drew ?_ | refine blk_alloc ?_ _)); refine blk_far ?_ NB201_215.out _; (with_reducible repeat (first | refine blk_drewN ?_ _ | refine blk_drew ?_ | refine blk_alloc ?_ _)); refine blk_far ?_ NB201_215.out _; (with_reducible repeat (first | refine blk_drewN ?_ _ | refine blk_drew ?_ | refine blk_alloc ?_ _)); exact BK201.out) hb); have n6_ := Aside0.mk (blk_below (g := gb215) (o := .cells #[.int .i64 t202, .int .i64 t203, .string t204, .int .i64 t205, .int .i64 t206, .int .i64 t207, .int .i64 t208, .slice Ao31 t209.length co31, .int .i64 t212, .int .u32 t213] 37 (0, 0)) (by (with_reducible repeat (first | refine blk_drewN ?_ _ | refine blk_drew ?_ | refine blk_alloc ?_ _)); refine blk_put (cs := #[.int .i64 t202, .int .i64 t203, .string t204, .int .i64 t205, .int .i64 t206, .int .i64 t207, .int .i64 t208, .slice Ao31 t209.length co31, .int .i64 t212, .int .u32 0]) ?_ 9 _ rfl; (with_reducible repeat (first | refine blk_drewN ?_ _ | refine blk_drew ?_ | refine blk_alloc ?_ _)); refine blk_put (cs := #[.int .i64 t202, .int .i64 t203, .string t204, .int .i64 t205, .int .i64 t206, .int .i64 t207, .int .i64 t208, .slice Ao31 t209.length co31, .int .i64 0, .int .u32 0]) ?_ 8 _ rfl; (with_reducible repeat (first | refine blk_drewN ?_ _ | refine blk_drew ?_ | refine blk_alloc ?_ _)); refine blk_put (cs := #[.int .i64 t202, .int .i64 t203, .string t204, .int .i64 t205, .int .i64 t206, .int .i64 t207, .int .i64 t208, .slice none 0 0, .int .i64 0, .int .u32 0]) ?_ 7 _ rfl; (with_reducible repeat (first | refine blk_drewN ?_ _ | refine blk_drew ?_ | refine blk_alloc ?_ _)); refine blk_put (cs := #[.int .i64 t202, .int .i64 t203, .string t204, .int .i64 t205, .int .i64 t206, .int .i64 t207, .int .i64 0, .slice none 0 0, .int .i64 0, .int .u32 0]) ?_ 6 _ rfl; (with_reducible repeat (first | refine blk_drewN ?_ _ | refine blk_drew ?_ | refine blk_alloc ?_ _)); refine blk_put (cs := #[.int .i64 t202, .int .i64 t203, .string t204, .int .i64 t205, .int .i64 t206, .int .i64 0, .int .i64 0, .slice none 0 0, .int .i64 0, .int .u32 0]) ?_ 5 _ rfl; (with_reducible repeat (first | refine blk_drewN ?_ _ | refine blk_drew ?_ | refine blk_alloc ?_ _)); refine blk_put (cs := #[.int .i64 t202, .int .i64 t203, .string t204, .int .i64 t205, .int .i64 0, .int .i64 0, .int .i64 0, .slice none 0 0, .int .i64 0, .int .u32 0]) ?_ 4 _ rfl; (with_reducible repeat (first | refine blk_drewN ?_ _ | refine blk_drew ?_ | refine blk_alloc ?_ _)); refine blk_put (cs := #[.int .i64 t202, .int .i64 t203, .string t204, .int .i64 0, .int .i64 0, .int .i64 0, .int .i64 0, .slice none 0 0, .int .i64 0, .int .u32 0]) ?_ 3 _ rfl; (with_reducible repeat (first | refine blk_drewN ?_ _ | refine blk_drew ?_ | refine blk_alloc ?_ _)); refine blk_put (cs := #[.int .i64 t202, .int .i64 t203, .string (⟨#[]⟩ : ByteArray), .int .i64 0, .int .i64 0, .int .i64 0, .int .i64 0, .slice none 0 0, .int .i64 0, .int .u32 0]) ?_ 2 _ rfl; (with_reducible repeat (first | refine blk_drewN ?_ _ | refine blk_drew ?_ | refine blk_alloc ?_ _)); refine blk_put (cs := #[.int .i64 t202, .int .i64 0, .string (⟨#[]⟩ : ByteArray), .int .i64 0, .int .i64 0, .int .i64 0, .int .i64 0, .slice none 0 0, .int .i64 0, .int .u32 0]) ?_ 1 _ rfl; (with_reducible repeat (first | refine blk_drewN ?_ _ | refine blk_drew ?_ | refine blk_alloc ?_ _)); refine blk_put (cs := #[.int .i64 0, .int .i64 0, .string (⟨#[]⟩ : ByteArray), .int .i64 0, .int .i64 0, .int .i64 0, .int .i64 0, .slice none 0 0, .int .i64 0, .int .u32 0]) ?_ 0 _ rfl; (with_reducible repeat (first | refine blk_drewN ?_ _ | refine blk_drew ?_ | refine blk_alloc ?_ _)); exact BK215.out) hb); have n7_ := Aside0.mk (below_step (by repeat (first | (with_reducible first | exact HB.out | apply below_alloc | apply pw_below_drewN | apply below_drew1 | refine below_set ?_ GE187.out | refine below_set ?_ GE201.out | refine below_set ?_ GE215.out) | exact HB.out)) hb); clear HO183; clear HO197; clear HO211; clear BK187; clear BK201; clear BK215; clear HB; have HO183 := n0_; have HO197 := n1_; have HO211 := n2_; have HO218 := n3_; have BK187 := n4_; have BK201 := n5_; have BK215 := n6_; have HB := n7_; clear n0_ n1_ n2_ n3_ n4_ n5_ n6_ n7_; (try clear hb); (try clear hb2); (try clear hk); (try clear hi); (try clear ho0)) | ((with_reducible refine gate_dst (N := 59) rfl ?_); (try (refine gate_guard (by rfl) ?_; dsimp only)); refine Kd.R_lit (Kd.int .i64) _ 3 ?hg (N := 59) ?hd (xs := ([5] : List Int)) (inner := [.int .i64 5]) (ok := fun _ => True) (okp := fun _ => True) ?hr ?hp (fun _ hk => hk) trivial (Below.refl _ _) (Nat.le_refl _) (by simp) ?_; (case hd => rfl); (case hg => rfl); (case hr => first | (go_simp; done) | (go_simp; rfl)); (case hp => exact (Reps.one (show Kd.M (Kd.int .i64) _ _ _ 5 [.int .i64 5] from rfl) (Reps.none _ _))); intro v220 w34 ho35 hb hg_ hnew_; clear hg_ hnew_; (first | rw [← Ny219.out] at ho35 | (simp only [Int.reduceToNat] at ho35; rw [← Ny219.out] at ho35)); have n0_ := Aside0.mk (Kd.R_below (by (with_reducible repeat (first | apply Kd.R_alloc | apply Kd.R_drewN | apply Kd.R_drew)); exact HO183.out) hb); have n1_ := Aside0.mk (Kd.R_below (by (with_reducible repeat (first | apply Kd.R_alloc | apply Kd.R_drewN | apply Kd.R_drew)); exact HO197.out) hb); have n2_ := Aside0.mk (Kd.R_below (by (with_reducible repeat (first | apply Kd.R_alloc | apply Kd.R_drewN | apply Kd.R_drew)); exact HO211.out) hb); have n3_ := Aside0.mk (Kd.R_elder' (by (with_reducible repeat (first | apply Kd.R_alloc | apply Kd.R_drewN | apply Kd.R_drew)); exact HO218.out) (Kd.R_base ho35) hb); have n4_ := Aside0.mk (Kd.R_lower (Kd.R_new' ho35 (Kd.R_lt (by (with_reducible repeat (first | apply Kd.R_alloc | apply Kd.R_drewN | apply Kd.R_drew)); exact HO218.out))) (below_size (by repeat (first | (with_reducible first | exact HB.out | apply below_alloc | apply pw_below_drewN | apply below_drew1 | refine below_set ?_ GE187.out | refine below_set ?_ GE201.out | refine below_set ?_ GE215.out) | exact HB.out)))); have n5_ := Aside0.mk (blk_below (g := gb187) (o := .cells #[.int .i64 t174, .int .i64 t175, .string t176, .int .i64 t177, .int .i64 t178, .int .i64 t179, .int .i64 t180, .slice Ao20 t181.length co20, .int .i64 t184, .int .u32 t185] 37 (0, 0)) (by (with_reducible repeat (first | refine blk_drewN ?_ _ | refine blk_drew ?_ | refine blk_alloc ?_ _)); exact BK187.out) hb); have n6_ := Aside0.mk (blk_below (g := gb201) (o := .cells #[.int .i64 t188, .int .i64 t189, .string t190, .int .i64 t191, .int .i64 t192, .int .i64 t193, .int .i64 t194, .slice Ao25 t195.length co25, .int .i64 t198, .int .u32 t199] 37 (0, 0)) (by (with_reducible repeat (first | refine blk_drewN ?_ _ | refine blk_drew ?_ | refine blk_alloc ?_ _)); exact BK201.out) hb); have n7_ := Aside0.mk (blk_below (g := gb215) (o := .cells #[.int .i64 t202, .int .i64 t203, .string t204, .int .i64 t205, .int .i64 t206, .int .i64 t207, .int .i64 t208, .slice Ao31 t209.length co31, .int .i64 t212, .int .u32 t213] 37 (0, 0)) (by (with_reducible repeat (first | refine blk_drewN ?_ _ | refine blk_drew ?_ | refine blk_alloc ?_ _)); exact BK215.out) hb); have n8_ := Aside0.mk (below_step (by repeat (first | (with_reducible first | exact HB.out | apply below_alloc | apply pw_below_drewN | apply below_drew1 | refine below_set ?_ GE187.out | refine below_set ?_ GE201.out | refine below_set ?_ GE215.out) | exact HB.out)) hb); clear HO183; clear HO197; clear HO211; clear HO218; clear BK187; clear BK201; clear BK215; clear HB; have HO183 := n0_; have HO197 := n1_; have HO211 := n2_; have HO218 := n3_; have HO221 := n4_; have BK187 := n5_; have BK201 := n6_; have BK215 := n7_; have HB := n8_; clear n0_ n1_ n2_ n3_ n4_ n5_ n6_ n7_ n8_; clear hb ho35; obtain ⟨Ao36, co36, eo36⟩ := Kd.R_slice HO218.out; subst eo36; obtain ⟨Ao37, co37, eo37⟩ := Kd.R_slice HO221.out; subst eo37) | (go_at_call 32; (with_reducible refine (slices_Equal_int_int.calls k _ _ t216 _ _ y219 true _ ?side1 ?side2 ?side3 ?side4 A14.out).mono ?_); (case side1 => repeat (first | exact (Kd.R_reads' HO218.out).2.2 | (with_reducible refine Kd.C_alloc ?_ _) | (with_reducible refine Kd.C_drewN ?_ _) | (with_reducible refine Kd.C_drew ?_))); (case side2 => exact (Kd.R_reads' HO218.out).2.1); (case side3 => repeat (first | exact (Kd.R_reads' HO221.out).2.2 | (with_reducible refine Kd.C_alloc ?_ _) | (with_reducible refine Kd.C_drewN ?_ _) | (with_reducible refine Kd.C_drew ?_))); (case side4 => exact (Kd.R_reads' HO221.out).2.1); rintro e w' ⟨rfl, ⟨nd, rfl⟩⟩) | (go_at_call 33; (refine (params_ByOID.calls _ _ ([] : List Int) t223 _ ?side1 ?side2 A16.out (by first | exact GOK.below HG.out (by repeat (first | (with_reducible first | exact HB.out | apply below_alloc | apply pw_below_drewN | apply below_drew1 | refine below_set ?_ GE187.out | refine below_set ?_ GE201.out | refine below_set ?_ GE215.out) | exact HB.out)) | (repeat (first | exact HG.out | apply GOK.drewN | apply GOK.drew)))).mono ?_); (case side1 => exact Kd.C_nil _ _); (case side2 => exact Nat.le_refl _); rintro e w38 ⟨v224, rfl, ho0, hb⟩; have n0_ := Aside0.mk (Kd.R_below (by (with_reducible repeat (first | apply Kd.R_alloc | apply Kd.R_drewN | apply Kd.R_drew)); exact HO183.out) hb); have n1_ := Aside0.mk (Kd.R_below (by (with_reducible repeat (first | apply Kd.R_alloc | apply Kd.R_drewN | apply Kd.R_drew)); exact HO197.out) hb); have n2_ := Aside0.mk (Kd.R_below (by (with_reducible repeat (first | apply Kd.R_alloc | apply Kd.R_drewN | apply Kd.R_drew)); exact HO211.out) hb); have n3_ := Aside0.mk (Kd.R_elder' (by (with_reducible repeat (first | apply Kd.R_alloc | apply Kd.R_drewN | apply Kd.R_drew)); exact HO218.out) (Kd.R_base ho0) hb); have n4_ := Aside0.mk (Kd.R_elder' (by (with_reducible repeat (first | apply Kd.R_alloc | apply Kd.R_drewN | apply Kd.R_drew)); exact HO221.out) (Kd.R_base ho0) hb); have n5_ := Aside0.mk (Kd.R_lower (Kd.R_new' (Kd.R_new' ho0 (Kd.R_lt (by (with_reducible repeat (first | apply Kd.R_alloc | apply Kd.R_drewN | apply Kd.R_drew)); exact HO218.out))) (Kd.R_lt (by (with_reducible repeat (first | apply Kd.R_alloc | apply Kd.R_drewN | apply Kd.R_drew)); exact HO221.out))) (below_size (by repeat (first | (with_reducible first | exact HB.out | apply below_alloc | apply pw_below_drewN | apply below_drew1 | refine below_set ?_ GE187.out | refine below_set ?_ GE201.out | refine below_set ?_ GE215.out) | exact HB.out)))); have n6_ := Aside0.mk (blk_below (g := gb187) (o := .cells #[.int .i64 t174, .int .i64 t175, .string t176, .int .i64 t177, .int .i64 t178, .int .i64 t179, .int .i64 t180, .slice Ao20 t181.length co20, .int .i64 t184, .int .u32 t185] 37 (0, 0)) (by (with_reducible repeat (first | refine blk_drewN ?_ _ | refine blk_drew ?_ | refine blk_alloc ?_ _)); exact BK187.out) hb); have n7_ := Aside0.mk (blk_below (g := gb201) (o := .cells #[.int .i64 t188, .int .i64 t189, .string t190, .int .i64 t191, .int .i64 t192, .int .i64 t193, .int .i64 t194, .slice Ao25 t195.length co25, .int .i64 t198, .int .u32 t199] 37 (0, 0)) (by (with_reducible repeat (first | refine blk_drewN ?_ _ | refine blk_drew ?_ | refine blk_alloc ?_ _)); exact BK201.out) hb); have n8_ := Aside0.mk (blk_below (g := gb215) (o := .cells #[.int .i64 t202, .int .i64 t203, .string t204, .int .i64 t205, .int .i64 t206, .int .i64 t207, .int .i64 t208, .slice Ao31 t209.length co31, .int .i64 t212, .int .u32 t213] 37 (0, 0)) (by (with_reducible repeat (first | refine blk_drewN ?_ _ | refine blk_drew ?_ | refine blk_alloc ?_ _)); exact BK215.out) hb); have n9_ := Aside0.mk (below_step (by repeat (first | (with_reducible first | exact HB.out | apply below_alloc | apply pw_below_drewN | apply below_drew1 | refine below_set ?_ GE187.out | refine below_set ?_ GE201.out | refine below_set ?_ GE215.out) | exact HB.out)) hb); clear HO183; clear HO197; clear HO211; clear HO218; clear HO221; clear BK187; clear BK201; clear BK215; clear HB; have HO183 := n0_; have HO197 := n1_; have HO211 := n2_; have HO218 := n3_; have HO221 := n4_; have HO225 := n5_; have BK187 := n6_; have BK201 := n7_; have BK215 := n8_; have HB := n9_; clear n0_ n1_ n2_ n3_ n4_ n5_ n6_ n7_ n8_ n9_; (try clear hb); (try clear hb2); (try clear hk); (try clear hi); (try clear ho0); obtain ⟨Ao39, co39, eo39⟩ := Kd.R_slice HO225.out; subst eo39))
                      go_ret
                      exact ⟨by first | rfl | (simp [errW_none, errW_some] <;> rfl) | (simp [*, errW_none, errW_some] <;> rfl), by repeat (first | (with_reducible first | exact HB.out | apply below_alloc | apply pw_below_drewN | apply below_drew1 | refine below_set ?_ GE187.out | refine below_set ?_ GE201.out | refine below_set ?_ GE215.out) | exact HB.out)⟩
                    · replace c15 := Bool.eq_false_iff.mpr c15
                      subst c15
                      have H1 : (some false) = some r := by rw [if_neg (show ¬ (false = true) by decide)] at H; exact H
                      clear H
                      have H := H1
                      clear H1
                      exact absurd ((Option.some.inj H).trans HT.out) (by decide)
                  · replace c12 := Bool.eq_false_iff.mpr c12
                    subst c12
                    have H1 : (some false) = some r := by rw [if_neg (show ¬ (false = true) by decide)] at H; exact H
                    clear H
                    have H := H1
                    clear H1
                    exact absurd ((Option.some.inj H).trans HT.out) (by decide)
                · rw [if_neg c11] at H
                  have c11b0 : (t202 == 5) = false := beq_eq_false_iff_ne.mpr c11
                  have c11b1 : (t202 != 5) = true := bne_iff_ne.mpr c11
                  exact absurd ((Option.some.inj H).trans HT.out) (by decide)
            · replace c9 := Bool.eq_false_iff.mpr c9
              subst c9
              have H1 : (some false) = some r := by rw [if_neg (show ¬ (false = true) by decide)] at H; exact H
              clear H
              have H := H1
              clear H1
              exact absurd ((Option.some.inj H).trans HT.out) (by decide)
          · rw [if_neg c8] at H
            have c8b0 : (t180 == 3309) = false := beq_eq_false_iff_ne.mpr c8
            have c8b1 : (t180 != 3309) = true := bne_iff_ne.mpr c8
            exact absurd ((Option.some.inj H).trans HT.out) (by decide)
        · rw [if_neg c7] at H
          have c7b0 : (t179 == 32) = false := beq_eq_false_iff_ne.mpr c7
          have c7b1 : (t179 != 32) = true := bne_iff_ne.mpr c7
          exact absurd ((Option.some.inj H).trans HT.out) (by decide)
      · rw [if_neg c6] at H
        have c6b0 : (t178 == 4032) = false := beq_eq_false_iff_ne.mpr c6
        have c6b1 : (t178 != 4032) = true := bne_iff_ne.mpr c6
        exact absurd ((Option.some.inj H).trans HT.out) (by decide)
    · rw [if_neg c5] at H
      have c5b0 : (t177 == 1952) = false := beq_eq_false_iff_ne.mpr c5
      have c5b1 : (t177 != 1952) = true := bne_iff_ne.mpr c5
      exact absurd ((Option.some.inj H).trans HT.out) (by decide)
  · rw [if_neg c4] at H
    have c4b0 : (t176.toList == ([77, 76, 45, 68, 83, 65, 45, 54, 53] : List UInt8)) = false := beq_eq_false_iff_ne.mpr c4
    have c4b1 : (t176.toList != ([77, 76, 45, 68, 83, 65, 45, 54, 53] : List UInt8)) = true := bne_iff_ne.mpr c4
    exact absurd ((Option.some.inj H).trans HT.out) (by decide)
mutual
def pyxref09_Valid.j0 : Nat → List Int → Bool → Option (Bool)
  | 0, _, _ => none
  | k + 1, x0, x29 => if x29 = true then (some false) else (pyxref09_Valid.l0 k x0 0)
def pyxref09_Valid.l0 : Nat → List Int → Int → Option (Bool)
  | 0, _, _ => none
  | k + 1, x0, x3 => if x3 < (x0.length : Int) then (if 0 ≤ x3 then (if (rd x0 x3) ≥ 4294967216 then (some false) else (pyxref09_Valid.l0 k x0 (wrap64 (x3 + 1)))) else (none)) else (some true)
end
def pyxref09_Valid.f (k : Nat) (l0 : List Int) : Option (Bool) := if (l0.length : Int) < 2 then (pyxref09_Valid.j0 k l0 true) else (if (l0.length : Int) > 20 then (pyxref09_Valid.j0 k l0 true) else (if 0 < (l0.length : Int) then (if (rd l0 0) > 2 then (pyxref09_Valid.j0 k l0 true) else (if (rd l0 0) < 2 then (if 1 < (l0.length : Int) then (pyxref09_Valid.j0 k l0 (decide ((rd l0 1) > 39))) else (none)) else (pyxref09_Valid.j0 k l0 false))) else (none)))
theorem pyxref09_Valid.mono_l : ∀ k, (∀ y0 y1, LeO (pyxref09_Valid.j0 k y0 y1) (pyxref09_Valid.j0 (k + 1) y0 y1)) ∧ (∀ y0 y1, LeO (pyxref09_Valid.l0 k y0 y1) (pyxref09_Valid.l0 (k + 1) y0 y1))
  | 0 => ⟨fun _ _ r h => by simp [pyxref09_Valid.j0] at h, fun _ _ r h => by simp [pyxref09_Valid.l0] at h⟩
  | k + 1 => by
    obtain ⟨ih0, ih1⟩ := pyxref09_Valid.mono_l k
    refine ⟨?_, ?_⟩
    · intro y0 y1
      unfold pyxref09_Valid.j0
      repeat' first
      | (with_reducible exact ih0 _ _)
      | (with_reducible exact ih1 _ _)
      | (with_reducible exact LeO.refl _)
      | (with_reducible exact LeO.none _)
      | (with_reducible refine LeO.ite ?_ ?_)
      | (with_reducible refine LeO.bind ?_ (fun _ => ?_))
      | exact ih0 _ _
      | exact ih1 _ _
      | exact LeO.none _
      | refine LeO.ite ?_ ?_
      | refine LeO.bind ?_ (fun _ => ?_)
    · intro y0 y1
      unfold pyxref09_Valid.l0
      repeat' first
      | (with_reducible exact ih0 _ _)
      | (with_reducible exact ih1 _ _)
      | (with_reducible exact LeO.refl _)
      | (with_reducible exact LeO.none _)
      | (with_reducible refine LeO.ite ?_ ?_)
      | (with_reducible refine LeO.bind ?_ (fun _ => ?_))
      | exact ih0 _ _
      | exact ih1 _ _
      | exact LeO.none _
      | refine LeO.ite ?_ ?_
      | refine LeO.bind ?_ (fun _ => ?_)
theorem pyxref09_Valid.mono : ∀ a0 k, LeO (pyxref09_Valid.f k a0) (pyxref09_Valid.f (k + 1) a0) := by
  intro a0 k
  obtain ⟨ih0, ih1⟩ := pyxref09_Valid.mono_l k
  unfold pyxref09_Valid.f
  repeat' first
      | (with_reducible exact ih0 _ _)
      | (with_reducible exact ih1 _ _)
      | (with_reducible exact LeO.refl _)
      | (with_reducible exact LeO.none _)
      | (with_reducible refine LeO.ite ?_ ?_)
      | (with_reducible refine LeO.bind ?_ (fun _ => ?_))
      | exact ih0 _ _
      | exact ih1 _ _
      | exact LeO.none _
      | refine LeO.ite ?_ ?_
      | refine LeO.bind ?_ (fun _ => ?_)
set_option maxHeartbeats 8000000 in
set_option maxRecDepth 100000 in
theorem pyxref09_Valid.calls (k : Nat) (A0 : Option Addr) (c0 : Nat) (l0 : List Int) (r : Bool) (w : World) (hr0 : Kd.C (Kd.int .u32) w A0 l0.length l0) (hc0 : l0.length ≤ c0) (h : pyxref09_Valid.f k l0 = some r) :
    Calls Tryd.prog 17 #[.slice A0 l0.length c0] w fun e w' => e = .returned (.bool r) ∧ Drawn0 w w' := by
  have HR0 := Aside0.mk hr0
  have HC0 := Aside0.mk hc0
  clear hr0 hc0
  have H : (if (l0.length : Int) < 2 then (pyxref09_Valid.j0 k l0 true) else (if (l0.length : Int) > 20 then (pyxref09_Valid.j0 k l0 true) else (if 0 < (l0.length : Int) then (if (rd l0 0) > 2 then (pyxref09_Valid.j0 k l0 true) else (if (rd l0 0) < 2 then (if 1 < (l0.length : Int) then (pyxref09_Valid.j0 k l0 (decide ((rd l0 1) > 39))) else (none)) else (pyxref09_Valid.j0 k l0 false))) else (none)))) = some r := h
  clear h
  have HC2 := Aside0.mk H
  clear H
  go_enter Tryd.func17, Tryd.ntmps17
  go_upto_region 1 with (fail)
  go_cut [29] (fun v29 wc => ∃ (kq : Nat) (x29_1 : Bool), v29 = .bool x29_1 ∧ Aside0 (pyxref09_Valid.j0 kq l0 x29_1 = some r) ∧ Aside0 (kq ≤ k) ∧ Drawn0 w wc)
  case first =>
    have H := HC2.out
    clear HC2
    by_cases c3 : (l0.length : Int) < 2
    · rw [if_pos c3] at H
      have c3b0 : decide ((l0.length : Int) < 2) = true := decide_eq_true c3
      have c3b1 : decide (l0.length < 2) = true := decide_eq_true (by omega)
      clear c3
      (first | rw [c3b0] | (simp only [i64_w, i32_w]; rw [c3b0]) | skip)
      have H' := Aside0.mk H
      clear H
      go_wp2
      go_meet
      case rel => exact ⟨_, (true), (by first | rfl | (simp; done) | (simp [*]; done)), H', ⟨by first | omega | exact Nat.le_refl _⟩, by repeat (first | exact Drawn0.refl _ | apply Drawn0.step)⟩
    · rw [if_neg c3] at H
      have c3b0 : decide ((l0.length : Int) < 2) = false := decide_eq_false c3
      have c3b1 : decide (l0.length < 2) = false := decide_eq_false (by omega)
      clear c3
      (first | rw [c3b0] | (simp only [i64_w, i32_w]; rw [c3b0]) | skip)
      by_cases c4 : (l0.length : Int) > 20
      · rw [if_pos c4] at H
        have c4b0 : decide (20 < (l0.length : Int)) = true := decide_eq_true c4
        have c4b1 : decide (20 < l0.length) = true := decide_eq_true (by omega)
        clear c4
        have H' := Aside0.mk H
        clear H
        go_wp2
        go_meet
        case rel => exact ⟨_, (true), (by first | rfl | (simp; done) | (simp [*]; done)), H', ⟨by first | omega | exact Nat.le_refl _⟩, by repeat (first | exact Drawn0.refl _ | apply Drawn0.step)⟩
      · rw [if_neg c4] at H
        have c4b0 : decide (20 < (l0.length : Int)) = false := decide_eq_false c4
        have c4b1 : decide (20 < l0.length) = false := decide_eq_false (by omega)
        clear c4
        by_cases c5 : 0 < (l0.length : Int)
        · rw [if_pos c5] at H
          have c5b0 : decide (0 < (l0.length : Int)) = true := decide_eq_true c5
          have c5b1 : decide (0 < l0.length) = true := decide_eq_true (by omega)
          clear c5
          by_cases c6 : (rd l0 0) > 2
          · rw [if_pos c6] at H
            have c6b0 : decide (2 < (rd l0 0)) = true := decide_eq_true c6
            clear c6
            have H' := Aside0.mk H
            clear H
            have p226 : 0 ≤ (0 : Int) := (by omega)
            have q226 : 0 < (l0.length : Int) := of_decide_eq_true (by first | (with_reducible assumption) | assumption)
            obtain ⟨ad226, e226, hx226_0⟩ := Kd.at_int HR0.out 0 p226 q226
            cases e226
            have qi226 : (0 < l0.length) = True := eq_true (by omega)
            (try rw [show ((0 : Int)).toNat = 0 from rfl] at hx226_0)
            (try rw [Addr.add_zero'] at hx226_0)
            replace p226 := eq_true p226
            replace q226 := eq_true q226
            go_wp2
            go_meet
            case rel => exact ⟨_, (true), (by first | rfl | (simp; done) | (simp [*]; done)), H', ⟨by first | omega | exact Nat.le_refl _⟩, by repeat (first | exact Drawn0.refl _ | apply Drawn0.step)⟩
          · rw [if_neg c6] at H
            have c6b0 : decide (2 < (rd l0 0)) = false := decide_eq_false c6
            clear c6
            by_cases c7 : (rd l0 0) < 2
            · rw [if_pos c7] at H
              have c7b0 : decide ((rd l0 0) < 2) = true := decide_eq_true c7
              clear c7
              by_cases c8 : 1 < (l0.length : Int)
              · rw [if_pos c8] at H
                have c8b0 : decide (1 < (l0.length : Int)) = true := decide_eq_true c8
                have c8b1 : decide (1 < l0.length) = true := decide_eq_true (by omega)
                clear c8
                have H' := Aside0.mk H
                clear H
                have p226 : 0 ≤ (0 : Int) := (by omega)
                have q226 : 0 < (l0.length : Int) := of_decide_eq_true (by first | (with_reducible assumption) | assumption)
                obtain ⟨ad226, e226, hx226_0⟩ := Kd.at_int HR0.out 0 p226 q226
                cases e226
                have qi226 : (0 < l0.length) = True := eq_true (by omega)
                (try rw [show ((0 : Int)).toNat = 0 from rfl] at hx226_0)
                (try rw [Addr.add_zero'] at hx226_0)
                replace p226 := eq_true p226
                replace q226 := eq_true q226
                have p227 : 0 ≤ (0 : Int) := (by omega)
                have q227 : 0 < (l0.length : Int) := of_decide_eq_true (by first | (with_reducible assumption) | assumption)
                obtain ⟨ad227, e227, hx227_0⟩ := Kd.at_int HR0.out 0 p227 q227
                obtain rfl : ad226 = ad227 := (by injection e227)
                have qi227 : (0 < l0.length) = True := eq_true (by omega)
                (try rw [show ((0 : Int)).toNat = 0 from rfl] at hx227_0)
                (try rw [Addr.add_zero'] at hx227_0)
                replace p227 := eq_true p227
                replace q227 := eq_true q227
                have p228 : 0 ≤ (1 : Int) := (by omega)
                have q228 : 1 < (l0.length : Int) := of_decide_eq_true (by first | (with_reducible assumption) | assumption)
                obtain ⟨ad228, e228, hx228_0⟩ := Kd.at_int HR0.out 1 p228 q228
                obtain rfl : ad226 = ad228 := (by injection e228)
                (try simp only [show (1 : Int).toNat = 1 from rfl, Nat.reduceMul, Nat.reduceEqDiff, Go.Addr.add, ↓reduceIte] at hx228_0)
                have qi228 : (1 < l0.length) = True := eq_true (by omega)
                (try rw [show ((1 : Int)).toNat = 1 from rfl] at hx228_0)
                replace p228 := eq_true p228
                replace q228 := eq_true q228
                go_wp2
                go_meet
                case rel => exact ⟨_, (decide ((rd l0 1) > 39)), (by first | rfl | (simp; done) | (simp [*]; done)), H', ⟨by first | omega | exact Nat.le_refl _⟩, by repeat (first | exact Drawn0.refl _ | apply Drawn0.step)⟩
              · rw [if_neg c8] at H
                exact absurd H (by simp)
            · rw [if_neg c7] at H
              have c7b0 : decide ((rd l0 0) < 2) = false := decide_eq_false c7
              clear c7
              have H' := Aside0.mk H
              clear H
              have p226 : 0 ≤ (0 : Int) := (by omega)
              have q226 : 0 < (l0.length : Int) := of_decide_eq_true (by first | (with_reducible assumption) | assumption)
              obtain ⟨ad226, e226, hx226_0⟩ := Kd.at_int HR0.out 0 p226 q226
              cases e226
              have qi226 : (0 < l0.length) = True := eq_true (by omega)
              (try rw [show ((0 : Int)).toNat = 0 from rfl] at hx226_0)
              (try rw [Addr.add_zero'] at hx226_0)
              replace p226 := eq_true p226
              replace q226 := eq_true q226
              have p227 : 0 ≤ (0 : Int) := (by omega)
              have q227 : 0 < (l0.length : Int) := of_decide_eq_true (by first | (with_reducible assumption) | assumption)
              obtain ⟨ad227, e227, hx227_0⟩ := Kd.at_int HR0.out 0 p227 q227
              obtain rfl : ad226 = ad227 := (by injection e227)
              have qi227 : (0 < l0.length) = True := eq_true (by omega)
              (try rw [show ((0 : Int)).toNat = 0 from rfl] at hx227_0)
              (try rw [Addr.add_zero'] at hx227_0)
              replace p227 := eq_true p227
              replace q227 := eq_true q227
              go_wp2
              go_meet
              case rel => exact ⟨_, (false), (by first | rfl | (simp; done) | (simp [*]; done)), H', ⟨by first | omega | exact Nat.le_refl _⟩, by repeat (first | exact Drawn0.refl _ | apply Drawn0.step)⟩
        · rw [if_neg c5] at H
          exact absurd H (by simp)
  case rest =>
    clear HC2
    try clear c1
    try clear p2
    try clear q2
    try clear hx2
    try clear qi2
    try clear c3
    try clear c3b0
    try clear c3b1
    try clear c4
    try clear c4b0
    try clear c4b1
    try clear c5
    try clear c5b0
    try clear c5b1
    try clear c6
    try clear c6b0
    try clear c7
    try clear c7b0
    try clear c8
    try clear c8b0
    try clear c8b1
    try clear hx226_0
    try clear hx227_0
    try clear hx228_0
    try clear p226
    try clear p227
    try clear p228
    try clear q226
    try clear q227
    try clear q228
    obtain ⟨kq, x29_1, rfl, HA, HJ1, ⟨mc1, rfl⟩⟩ := hcut
    cases kq with
    | zero => exact absurd HA.out (by simp [pyxref09_Valid.j0])
    | succ kj1 =>
      have H := HA.out
      clear HA
      simp only [pyxref09_Valid.j0] at H
      by_cases c9 : x29_1 = true
      · subst c9
        have H1 : (some false) = some r := by rw [if_pos rfl] at H; exact H
        clear H
        have H := H1
        clear H1
        obtain rfl := Option.some.inj H
        go_wp2
        go_ret
        exact ⟨by first | rfl | (simp; done) | (simp [*]; done), by repeat (first | exact Drawn0.refl _ | apply Drawn0.step)⟩
      · replace c9 := Bool.eq_false_iff.mpr c9
        subst c9
        have H1 : (pyxref09_Valid.l0 kj1 l0 0) = some r := by rw [if_neg (show ¬ (false = true) by decide)] at H; exact H
        clear H
        have H := H1
        clear H1
        have H' := Aside0.mk H
        clear H
        go_wp2
        go_loopg [3] kj1 (fun kq v3 w' => ∃ (x3_2 : Int), v3 = .int .i64 x3_2 ∧ Aside0 (pyxref09_Valid.l0 kq l0 x3_2 = some r) ∧ Aside0 (kq ≤ kj1) ∧ Drawn0 w w')
        case atStart => exact ⟨(0), (by first | rfl | (simp; done) | (simp [*]; done)), H', ⟨Nat.le_refl _⟩, by repeat (first | exact Drawn0.refl _ | apply Drawn0.step)⟩
        case round =>
          clear H'
          try clear c1
          try clear p2
          try clear q2
          try clear hx2
          try clear qi2
          try clear c3
          try clear c3b0
          try clear c3b1
          try clear c4
          try clear c4b0
          try clear c4b1
          try clear c5
          try clear c5b0
          try clear c5b1
          try clear c6
          try clear c6b0
          try clear c7
          try clear c7b0
          try clear c8
          try clear c8b0
          try clear c8b1
          try clear c9
          try clear hx226_0
          try clear hx227_0
          try clear hx228_0
          try clear p2
          try clear p226
          try clear p227
          try clear p228
          try clear q2
          try clear q226
          try clear q227
          try clear q228
          obtain ⟨x3_2, rfl, HA, HK2, ⟨m2, rfl⟩⟩ := hrel
          cases gk with
          | zero => exact absurd HA.out (by simp [pyxref09_Valid.l0])
          | succ k2 =>
            have H := HA.out
            clear HA
            simp only [pyxref09_Valid.l0] at H
            by_cases c10 : x3_2 < (l0.length : Int)
            · rw [if_pos c10] at H
              have c10b0 : decide (x3_2 < (l0.length : Int)) = true := decide_eq_true c10
              clear c10
              by_cases c11 : 0 ≤ x3_2
              · rw [if_pos c11] at H
                have c11b0 : decide (0 ≤ x3_2) = true := decide_eq_true c11
                clear c11
                by_cases c12 : (rd l0 x3_2) ≥ 4294967216
                · rw [if_pos c12] at H
                  have c12b0 : decide (4294967216 ≤ (rd l0 x3_2)) = true := decide_eq_true c12
                  clear c12
                  obtain rfl := Option.some.inj H
                  have p229 : 0 ≤ (x3_2 : Int) := of_decide_eq_true (by first | (with_reducible assumption) | assumption)
                  have q229 : x3_2 < (l0.length : Int) := of_decide_eq_true (by first | (with_reducible assumption) | assumption)
                  obtain ⟨ad229, e229, hx229_0⟩ := Kd.at_int HR0.out x3_2 p229 q229
                  cases e229
                  replace p229 := eq_true p229
                  replace q229 := eq_true q229
                  go_wp2
                  go_ret
                  exact ⟨by first | rfl | (simp; done) | (simp [*]; done), by repeat (first | exact Drawn0.refl _ | apply Drawn0.step)⟩
                · rw [if_neg c12] at H
                  have c12b0 : decide (4294967216 ≤ (rd l0 x3_2)) = false := decide_eq_false c12
                  clear c12
                  have H' := Aside0.mk H
                  clear H
                  have p229 : 0 ≤ (x3_2 : Int) := of_decide_eq_true (by first | (with_reducible assumption) | assumption)
                  have q229 : x3_2 < (l0.length : Int) := of_decide_eq_true (by first | (with_reducible assumption) | assumption)
                  obtain ⟨ad229, e229, hx229_0⟩ := Kd.at_int HR0.out x3_2 p229 q229
                  cases e229
                  replace p229 := eq_true p229
                  replace q229 := eq_true q229
                  go_wp2
                  go_roundg k2
                  case measure => have := HJ1.out; have := HK2.out; omega
                  case rel => exact ⟨(wrap64 (x3_2 + 1)), (by first | rfl | (simp; done) | (simp [*]; done)), H', ⟨by have := HJ1.out; have := HK2.out; omega⟩, by repeat (first | exact Drawn0.refl _ | apply Drawn0.step)⟩
              · rw [if_neg c11] at H
                exact absurd H (by simp)
            · rw [if_neg c10] at H
              have c10b0 : decide (x3_2 < (l0.length : Int)) = false := decide_eq_false c10
              clear c10
              obtain rfl := Option.some.inj H
              go_wp2
              go_ret
              exact ⟨by first | rfl | (simp; done) | (simp [*]; done), by repeat (first | exact Drawn0.refl _ | apply Drawn0.step)⟩
end Go.Proofs.YtohmnlmeamkmjaaDoor.PParams
