import Derived.Test.YtohmnlmeamkmjaaDoorZPParamsx0
import Derived.Test.YtohmnlmeamkmjaaDoorZPParamsx12
import Derived.Test.YtohmnlmeamkmjaaDoorZPParamsx17
import Derived.Test.YtohmnlmeamkmjaaDoorZPParamsx19
import Derived.Test.YtohmnlmeamkmjaaDoorZPParamsx21
namespace Go.Proofs.YtohmnlmeamkmjaaDoor.PParams
open Go.RowKit Go.Proofs.YtohmnlmeamkmjaaDoorW.PrintWords Go.Proofs.YtohmnlmeamkmjaaDoorW.PrintLast Go.Proofs.YtohmnlmeamkmjaaDoorW.PrintMore
attribute [local go_sem] max2_int min2_int max_two min_two max_three min_three max_four min_four
set_option linter.unusedVariables false
set_option linter.unusedSimpArgs false
mutual
def pyxlaw13_ParamsMatchesReference.j0 : Nat → Int → Bool → Int → Int → ByteArray → Int → Int → Int → Int → List Int → Int → Int → Option (Bool)
  | 0, _, _, _, _, _, _, _, _, _, _, _, _ => none
  | k + 1, x0, x29, x258000, x258001, x258002, x258003, x258004, x258005, x258006, x258007, x258008, x258009 => if x29 = true then (some false) else (pyxlaw13_ParamsMatchesReference.l0 k x0 0 x258000 x258001 x258002 x258003 x258004 x258005 x258006 x258007 x258008 x258009)
def pyxlaw13_ParamsMatchesReference.l0 : Nat → Int → Int → Int → Int → ByteArray → Int → Int → Int → Int → List Int → Int → Int → Option (Bool)
  | 0, _, _, _, _, _, _, _, _, _, _, _, _ => none
  | k + 1, x0, x5, x258000, x258001, x258002, x258003, x258004, x258005, x258006, x258007, x258008, x258009 => if x5 < (x258007.length : Int) then (if 0 ≤ x5 then (pyxlaw13_ParamsMatchesReference.l0 k x0 (wrap64 (x5 + 1)) x258000 x258001 x258002 x258003 x258004 x258005 x258006 (x258007.set (x5 : Int).toNat (((rd x258007 x5) + 1) % 4294967296)) x258008 x258009) else (none)) else ((params_Get.f k x0).bind fun bt271 => ((pyxref13_Get.f x0).bind fun bt285 => ((pyxlaw13_same.f k bt271.1 bt271.2.1 bt271.2.2.1 bt271.2.2.2.1 bt271.2.2.2.2.1 bt271.2.2.2.2.2.1 bt271.2.2.2.2.2.2.1 bt271.2.2.2.2.2.2.2.1 bt271.2.2.2.2.2.2.2.2.1 bt271.2.2.2.2.2.2.2.2.2.1 bt285.1 bt285.2.1 bt285.2.2.1 bt285.2.2.2.1 bt285.2.2.2.2.1 bt285.2.2.2.2.2.1 bt285.2.2.2.2.2.2.1 bt285.2.2.2.2.2.2.2.1 bt285.2.2.2.2.2.2.2.2.1 bt285.2.2.2.2.2.2.2.2.2).bind fun t295 => (some t295))))
end
def pyxlaw13_ParamsMatchesReference.f (k : Nat) (a0 : Int) : Option (Bool) := (pyxlaw13_awake.f k).bind fun t243 => (if t243 = true then ((params_Get.f k a0).bind fun bt244 => ((pyxref13_Get.f a0).bind fun bt258 => ((pyxlaw13_same.f k bt244.1 bt244.2.1 bt244.2.2.1 bt244.2.2.2.1 bt244.2.2.2.2.1 bt244.2.2.2.2.2.1 bt244.2.2.2.2.2.2.1 bt244.2.2.2.2.2.2.2.1 bt244.2.2.2.2.2.2.2.2.1 bt244.2.2.2.2.2.2.2.2.2.1 bt258.1 bt258.2.1 bt258.2.2.1 bt258.2.2.2.1 bt258.2.2.2.2.1 bt258.2.2.2.2.2.1 bt258.2.2.2.2.2.2.1 bt258.2.2.2.2.2.2.2.1 bt258.2.2.2.2.2.2.2.2.1 bt258.2.2.2.2.2.2.2.2.2).bind fun t268 => (if t268 = true then (if a0 ≥ 1 then (pyxlaw13_ParamsMatchesReference.j0 k a0 (bt244.2.2.2.2.2.2.2.2.2.2 != (decide (a0 ≤ 25))) bt244.1 bt244.2.1 bt244.2.2.1 bt244.2.2.2.1 bt244.2.2.2.2.1 bt244.2.2.2.2.2.1 bt244.2.2.2.2.2.2.1 bt244.2.2.2.2.2.2.2.1 bt244.2.2.2.2.2.2.2.2.1 bt244.2.2.2.2.2.2.2.2.2.1) else (pyxlaw13_ParamsMatchesReference.j0 k a0 (bt244.2.2.2.2.2.2.2.2.2.2 != false) bt244.1 bt244.2.1 bt244.2.2.1 bt244.2.2.2.1 bt244.2.2.2.2.1 bt244.2.2.2.2.2.1 bt244.2.2.2.2.2.2.1 bt244.2.2.2.2.2.2.2.1 bt244.2.2.2.2.2.2.2.2.1 bt244.2.2.2.2.2.2.2.2.2.1)) else (pyxlaw13_ParamsMatchesReference.j0 k a0 true bt244.1 bt244.2.1 bt244.2.2.1 bt244.2.2.2.1 bt244.2.2.2.2.1 bt244.2.2.2.2.2.1 bt244.2.2.2.2.2.2.1 bt244.2.2.2.2.2.2.2.1 bt244.2.2.2.2.2.2.2.2.1 bt244.2.2.2.2.2.2.2.2.2.1))))) else (some false))
def pyxlaw13_ParamsMatchesReference.T4 : Bool × List (List Nat × List Nat) := (true, [([], []), ([], []), ([1], [1]), ([0, 2, 2], [0, 2]), ([3], [3]), ([4, 3], [4]), ([5], [5]), ([5], [5]), ([7, 5], [5, 7]), ([8, 5, 5], [5, 8]), ([9], [9]), ([10, 9], [9, 10]), ([9, 11, 5], [5, 9, 11]), ([6, 12, 5], [5, 6, 12]), ([5, 13], [5, 13])])
def pyxlaw13_ParamsMatchesReference.B4 : List Nat := [0, 0, 2, 7, 15, 31, 63, 63, 191, 447, 959, 1983, 4031, 8191, 16383]
theorem pyxlaw13_ParamsMatchesReference.tab4 : rtab .any (opsOf Tryd.f8 4) = pyxlaw13_ParamsMatchesReference.T4 := by kernel_rfl
theorem pyxlaw13_ParamsMatchesReference.bits4 : waitsOk pyxlaw13_ParamsMatchesReference.T4.2 pyxlaw13_ParamsMatchesReference.B4 = true := by kernel_rfl
set_option maxHeartbeats 8000000 in
set_option maxRecDepth 100000 in
theorem pyxlaw13_ParamsMatchesReference.calls (k : Nat) (a0 : Int) (r : Bool) (w : World) (h : pyxlaw13_ParamsMatchesReference.f k a0 = some r) (hG : GOK w) (hr_ : r = true) :
    Calls Tryd.prog 8 #[.int .i64 a0] w fun e w' => e = .returned (.bool r) ∧ Below w.heap.size w w' := by
  have HG := Aside0.mk hG
  clear hG
  have HT := Aside0.mk hr_
  clear hr_
  have hu37 := Tryd.underlying37
  have HB := Aside0.mk (Below.refl w.heap.size w)
  have H : ((pyxlaw13_awake.f k).bind fun t243 => (if t243 = true then ((params_Get.f k a0).bind fun bt244 => ((pyxref13_Get.f a0).bind fun bt258 => ((pyxlaw13_same.f k bt244.1 bt244.2.1 bt244.2.2.1 bt244.2.2.2.1 bt244.2.2.2.2.1 bt244.2.2.2.2.2.1 bt244.2.2.2.2.2.2.1 bt244.2.2.2.2.2.2.2.1 bt244.2.2.2.2.2.2.2.2.1 bt244.2.2.2.2.2.2.2.2.2.1 bt258.1 bt258.2.1 bt258.2.2.1 bt258.2.2.2.1 bt258.2.2.2.2.1 bt258.2.2.2.2.2.1 bt258.2.2.2.2.2.2.1 bt258.2.2.2.2.2.2.2.1 bt258.2.2.2.2.2.2.2.2.1 bt258.2.2.2.2.2.2.2.2.2).bind fun t268 => (if t268 = true then (if a0 ≥ 1 then (pyxlaw13_ParamsMatchesReference.j0 k a0 (bt244.2.2.2.2.2.2.2.2.2.2 != (decide (a0 ≤ 25))) bt244.1 bt244.2.1 bt244.2.2.1 bt244.2.2.2.1 bt244.2.2.2.2.1 bt244.2.2.2.2.2.1 bt244.2.2.2.2.2.2.1 bt244.2.2.2.2.2.2.2.1 bt244.2.2.2.2.2.2.2.2.1 bt244.2.2.2.2.2.2.2.2.2.1) else (pyxlaw13_ParamsMatchesReference.j0 k a0 (bt244.2.2.2.2.2.2.2.2.2.2 != false) bt244.1 bt244.2.1 bt244.2.2.1 bt244.2.2.2.1 bt244.2.2.2.2.1 bt244.2.2.2.2.2.1 bt244.2.2.2.2.2.2.1 bt244.2.2.2.2.2.2.2.1 bt244.2.2.2.2.2.2.2.2.1 bt244.2.2.2.2.2.2.2.2.2.1)) else (pyxlaw13_ParamsMatchesReference.j0 k a0 true bt244.1 bt244.2.1 bt244.2.2.1 bt244.2.2.2.1 bt244.2.2.2.2.1 bt244.2.2.2.2.2.1 bt244.2.2.2.2.2.2.1 bt244.2.2.2.2.2.2.2.1 bt244.2.2.2.2.2.2.2.2.1 bt244.2.2.2.2.2.2.2.2.2.1))))) else (some false))) = some r := h
  clear h
  replace H := Option.bind_eq_some_iff.mp H
  obtain ⟨t243, A20, H⟩ := H
  replace H : (if t243 = true then ((params_Get.f k a0).bind fun bt244 => ((pyxref13_Get.f a0).bind fun bt258 => ((pyxlaw13_same.f k bt244.1 bt244.2.1 bt244.2.2.1 bt244.2.2.2.1 bt244.2.2.2.2.1 bt244.2.2.2.2.2.1 bt244.2.2.2.2.2.2.1 bt244.2.2.2.2.2.2.2.1 bt244.2.2.2.2.2.2.2.2.1 bt244.2.2.2.2.2.2.2.2.2.1 bt258.1 bt258.2.1 bt258.2.2.1 bt258.2.2.2.1 bt258.2.2.2.2.1 bt258.2.2.2.2.2.1 bt258.2.2.2.2.2.2.1 bt258.2.2.2.2.2.2.2.1 bt258.2.2.2.2.2.2.2.2.1 bt258.2.2.2.2.2.2.2.2.2).bind fun t268 => (if t268 = true then (if a0 ≥ 1 then (pyxlaw13_ParamsMatchesReference.j0 k a0 (bt244.2.2.2.2.2.2.2.2.2.2 != (decide (a0 ≤ 25))) bt244.1 bt244.2.1 bt244.2.2.1 bt244.2.2.2.1 bt244.2.2.2.2.1 bt244.2.2.2.2.2.1 bt244.2.2.2.2.2.2.1 bt244.2.2.2.2.2.2.2.1 bt244.2.2.2.2.2.2.2.2.1 bt244.2.2.2.2.2.2.2.2.2.1) else (pyxlaw13_ParamsMatchesReference.j0 k a0 (bt244.2.2.2.2.2.2.2.2.2.2 != false) bt244.1 bt244.2.1 bt244.2.2.1 bt244.2.2.2.1 bt244.2.2.2.2.1 bt244.2.2.2.2.2.1 bt244.2.2.2.2.2.2.1 bt244.2.2.2.2.2.2.2.1 bt244.2.2.2.2.2.2.2.2.1 bt244.2.2.2.2.2.2.2.2.2.1)) else (pyxlaw13_ParamsMatchesReference.j0 k a0 true bt244.1 bt244.2.1 bt244.2.2.1 bt244.2.2.2.1 bt244.2.2.2.2.1 bt244.2.2.2.2.2.1 bt244.2.2.2.2.2.2.1 bt244.2.2.2.2.2.2.2.1 bt244.2.2.2.2.2.2.2.2.1 bt244.2.2.2.2.2.2.2.2.2.1))))) else (some false)) = some r := H
  have A2 := Aside0.mk A20
  clear A20
  by_cases c3 : t243 = true
  · subst c3
    have H1 : ((params_Get.f k a0).bind fun bt244 => ((pyxref13_Get.f a0).bind fun bt258 => ((pyxlaw13_same.f k bt244.1 bt244.2.1 bt244.2.2.1 bt244.2.2.2.1 bt244.2.2.2.2.1 bt244.2.2.2.2.2.1 bt244.2.2.2.2.2.2.1 bt244.2.2.2.2.2.2.2.1 bt244.2.2.2.2.2.2.2.2.1 bt244.2.2.2.2.2.2.2.2.2.1 bt258.1 bt258.2.1 bt258.2.2.1 bt258.2.2.2.1 bt258.2.2.2.2.1 bt258.2.2.2.2.2.1 bt258.2.2.2.2.2.2.1 bt258.2.2.2.2.2.2.2.1 bt258.2.2.2.2.2.2.2.2.1 bt258.2.2.2.2.2.2.2.2.2).bind fun t268 => (if t268 = true then (if a0 ≥ 1 then (pyxlaw13_ParamsMatchesReference.j0 k a0 (bt244.2.2.2.2.2.2.2.2.2.2 != (decide (a0 ≤ 25))) bt244.1 bt244.2.1 bt244.2.2.1 bt244.2.2.2.1 bt244.2.2.2.2.1 bt244.2.2.2.2.2.1 bt244.2.2.2.2.2.2.1 bt244.2.2.2.2.2.2.2.1 bt244.2.2.2.2.2.2.2.2.1 bt244.2.2.2.2.2.2.2.2.2.1) else (pyxlaw13_ParamsMatchesReference.j0 k a0 (bt244.2.2.2.2.2.2.2.2.2.2 != false) bt244.1 bt244.2.1 bt244.2.2.1 bt244.2.2.2.1 bt244.2.2.2.2.1 bt244.2.2.2.2.2.1 bt244.2.2.2.2.2.2.1 bt244.2.2.2.2.2.2.2.1 bt244.2.2.2.2.2.2.2.2.1 bt244.2.2.2.2.2.2.2.2.2.1)) else (pyxlaw13_ParamsMatchesReference.j0 k a0 true bt244.1 bt244.2.1 bt244.2.2.1 bt244.2.2.2.1 bt244.2.2.2.2.1 bt244.2.2.2.2.2.1 bt244.2.2.2.2.2.2.1 bt244.2.2.2.2.2.2.2.1 bt244.2.2.2.2.2.2.2.2.1 bt244.2.2.2.2.2.2.2.2.2.1))))) = some r := by rw [if_pos rfl] at H; exact H
    clear H
    have H := H1
    clear H1
    replace H := Option.bind_eq_some_iff.mp H
    obtain ⟨⟨t244, t245, t246, t247, t248, t249, t250, t251, t254, t255, t256⟩, A40, H⟩ := H
    replace H : ((pyxref13_Get.f a0).bind fun bt258 => ((pyxlaw13_same.f k t244 t245 t246 t247 t248 t249 t250 t251 t254 t255 bt258.1 bt258.2.1 bt258.2.2.1 bt258.2.2.2.1 bt258.2.2.2.2.1 bt258.2.2.2.2.2.1 bt258.2.2.2.2.2.2.1 bt258.2.2.2.2.2.2.2.1 bt258.2.2.2.2.2.2.2.2.1 bt258.2.2.2.2.2.2.2.2.2).bind fun t268 => (if t268 = true then (if a0 ≥ 1 then (pyxlaw13_ParamsMatchesReference.j0 k a0 (t256 != (decide (a0 ≤ 25))) t244 t245 t246 t247 t248 t249 t250 t251 t254 t255) else (pyxlaw13_ParamsMatchesReference.j0 k a0 (t256 != false) t244 t245 t246 t247 t248 t249 t250 t251 t254 t255)) else (pyxlaw13_ParamsMatchesReference.j0 k a0 true t244 t245 t246 t247 t248 t249 t250 t251 t254 t255)))) = some r := H
    have A4 := Aside0.mk A40
    clear A40
    have HC5 := Aside0.mk H
    clear H
    go_enter Tryd.func8, Tryd.ntmps8
    go_upto_region 4 with (first | ((with_reducible refine gate_callee (f := 27) rfl ?_); refine goesL_ (some 8) rfl rfl Tryd.func27 (by kernel_rfl) rfl #[] rfl (by (try simp only [List.map_toArray, List.map_cons, List.map_nil]); first | done | rfl | (simp only [List.length_drop, List.length_take]; rfl)) ?_; (with_reducible refine (pyxlaw13_awake.calls k  true _ A2.out (by first | exact GOK.below HG.out (by repeat (first | (with_reducible first | exact HB.out | apply below_alloc | apply pw_below_drewN | apply below_drew1) | exact HB.out)) | (repeat (first | exact HG.out | apply GOK.drewN | apply GOK.drew)))).mono ?_); rintro e w6 ⟨rfl, hb⟩; refine ⟨_, rfl, ?_⟩; have n0_ := Aside0.mk (below_step (by repeat (first | (with_reducible first | exact HB.out | apply below_alloc | apply pw_below_drewN | apply below_drew1) | exact HB.out)) hb); clear HB; have HB := n0_; clear n0_; (try clear hb); (try clear hb2); (try clear hk); (try clear hi)) | ((with_reducible refine gate_callee (f := 28) rfl ?_); refine goesL_ (some 12) rfl rfl Tryd.func28 (by kernel_rfl) rfl #[.int .i64 a0] rfl (by (try simp only [List.map_toArray, List.map_cons, List.map_nil]); first | done | rfl | (simp only [List.length_drop, List.length_take]; rfl)) ?_; (with_reducible refine (params_Get.calls k a0 t244 t245 t246 t247 t248 t249 t250 t251 t254 t255 t256 _ A4.out (by first | exact GOK.below HG.out (by repeat (first | (with_reducible first | exact HB.out | apply below_alloc | apply pw_below_drewN | apply below_drew1) | exact HB.out)) | (repeat (first | exact HG.out | apply GOK.drewN | apply GOK.drew)))).mono ?_); rintro e w7 ⟨v252, rfl, ho0, hb⟩; refine ⟨_, rfl, ?_⟩; have n0_ := Aside0.mk (Kd.R_lower ho0 (below_size (by repeat (first | (with_reducible first | exact HB.out | apply below_alloc | apply pw_below_drewN | apply below_drew1) | exact HB.out)))); have n1_ := Aside0.mk (below_step (by repeat (first | (with_reducible first | exact HB.out | apply below_alloc | apply pw_below_drewN | apply below_drew1) | exact HB.out)) hb); clear HB; have HO253 := n0_; have HB := n1_; clear n0_ n1_; (try clear hb); (try clear hb2); (try clear hk); (try clear hi); (try clear ho0)) | ((with_reducible refine gate_dst (N := 3) rfl ?_); refine box_event ?hg (N := 3) ?hd (cs := #[.int .i64 0, .int .i64 0, .string (⟨#[]⟩ : ByteArray), .int .i64 0, .int .i64 0, .int .i64 0, .int .i64 0, .slice none 0 0, .int .i64 0, .int .u32 0]) (t := 37) ?hr ?_; (case hd => rfl); (case hg => rfl); (case hr => first | (go_simp; done) | (go_simp; rfl)); intro gb257 hg w8 hbox hb; have n0_ := Aside0.mk (Kd.R_below (by (with_reducible repeat (first | apply Kd.R_alloc | apply Kd.R_drewN | apply Kd.R_drew)); exact HO253.out) hb); have n1_ := Aside0.mk (below_step (by repeat (first | (with_reducible first | exact HB.out | apply below_alloc | apply pw_below_drewN | apply below_drew1) | exact HB.out)) hb); have n2_ := Aside0.mk (hbox); have n3_ := Aside0.mk ((by rw [hg]; exact (below_size (by repeat (first | (with_reducible first | exact HB.out | apply below_alloc | apply pw_below_drewN | apply below_drew1) | exact HB.out))) : w.heap.size ≤ gb257)); have n4_ := Aside0.mk ((by rw [hg]; exact (below_size (by repeat (first | (with_reducible first | exact HB.out | apply below_alloc | apply pw_below_drewN | apply below_drew1) | exact HB.out))) : w.heap.size ≤ gb257)); clear HO253; clear HB; have HO253 := n0_; have HB := n1_; have BK257 := n2_; have GW257 := n3_; have GE257 := n4_; clear n0_ n1_ n2_ n3_ n4_; clear hb hbox hg; have hcz9_0 : w8.cell? ⟨gb257, 0, none⟩ = some (.int .i64 0) := (blk_cell BK257.out 0).trans rfl; have hcz9_1 : w8.cell? ⟨gb257, 1, none⟩ = some (.int .i64 0) := (blk_cell BK257.out 1).trans rfl; have hcz9_2 : w8.cell? ⟨gb257, 2, none⟩ = some (.string (⟨#[]⟩ : ByteArray)) := (blk_cell BK257.out 2).trans rfl; have hcz9_3 : w8.cell? ⟨gb257, 3, none⟩ = some (.int .i64 0) := (blk_cell BK257.out 3).trans rfl; have hcz9_4 : w8.cell? ⟨gb257, 4, none⟩ = some (.int .i64 0) := (blk_cell BK257.out 4).trans rfl; have hcz9_5 : w8.cell? ⟨gb257, 5, none⟩ = some (.int .i64 0) := (blk_cell BK257.out 5).trans rfl; have hcz9_6 : w8.cell? ⟨gb257, 6, none⟩ = some (.int .i64 0) := (blk_cell BK257.out 6).trans rfl; have hcz9_7 : w8.cell? ⟨gb257, 7, none⟩ = some (.slice none 0 0) := (blk_cell BK257.out 7).trans rfl; have hcz9_8 : w8.cell? ⟨gb257, 8, none⟩ = some (.int .i64 0) := (blk_cell BK257.out 8).trans rfl; have hcz9_9 : w8.cell? ⟨gb257, 9, none⟩ = some (.int .u32 0) := (blk_cell BK257.out 9).trans rfl; have hfz9_0 := blk_frozen BK257.out 0; have hfz9_1 := blk_frozen BK257.out 1; have hfz9_2 := blk_frozen BK257.out 2; have hfz9_3 := blk_frozen BK257.out 3; have hfz9_4 := blk_frozen BK257.out 4; have hfz9_5 := blk_frozen BK257.out 5; have hfz9_6 := blk_frozen BK257.out 6; have hfz9_7 := blk_frozen BK257.out 7; have hfz9_8 := blk_frozen BK257.out 8; have hfz9_9 := blk_frozen BK257.out 9; obtain ⟨Ao10, co10, eo10⟩ := Kd.R_slice HO253.out; subst eo10))
    (try simp only [Act.put, List.setIfInBounds_toArray, List.set_cons_zero, List.set_cons_succ])
    go_cut [29] (fun v29 wc => ∃ (kq : Nat) (x29_4 : Bool), v29 = .bool x29_4 ∧ Aside0 (pyxlaw13_ParamsMatchesReference.j0 kq a0 x29_4 t244 t245 t246 t247 t248 t249 t250 t251 t254 t255 = some r) ∧ Aside0 (kq ≤ k) ∧ Aside0 (Kd.R (Kd.int .u32) 33 wc w.heap.size (fun _ => True) (.slice Ao10 t251.length co10) t251) ∧ Aside0 (wc.heap[gb257]? = some (.cells #[.int .i64 t244, .int .i64 t245, .string t246, .int .i64 t247, .int .i64 t248, .int .i64 t249, .int .i64 t250, (.slice Ao10 t251.length co10), .int .i64 t254, .int .u32 t255] 37 (0, 0))) ∧ Aside0 (Below w.heap.size w wc))
    case first =>
      have H := HC5.out
      clear HC5
      replace H := Option.bind_eq_some_iff.mp H
      obtain ⟨⟨t258, t259, t260, t261, t262, t263, t264, t265, t266, t267⟩, A110, H⟩ := H
      replace H : ((pyxlaw13_same.f k t244 t245 t246 t247 t248 t249 t250 t251 t254 t255 t258 t259 t260 t261 t262 t263 t264 t265 t266 t267).bind fun t268 => (if t268 = true then (if a0 ≥ 1 then (pyxlaw13_ParamsMatchesReference.j0 k a0 (t256 != (decide (a0 ≤ 25))) t244 t245 t246 t247 t248 t249 t250 t251 t254 t255) else (pyxlaw13_ParamsMatchesReference.j0 k a0 (t256 != false) t244 t245 t246 t247 t248 t249 t250 t251 t254 t255)) else (pyxlaw13_ParamsMatchesReference.j0 k a0 true t244 t245 t246 t247 t248 t249 t250 t251 t254 t255))) = some r := H
      have A11 := Aside0.mk A110
      clear A110
      replace H := Option.bind_eq_some_iff.mp H
      obtain ⟨t268, A120, H⟩ := H
      replace H : (if t268 = true then (if a0 ≥ 1 then (pyxlaw13_ParamsMatchesReference.j0 k a0 (t256 != (decide (a0 ≤ 25))) t244 t245 t246 t247 t248 t249 t250 t251 t254 t255) else (pyxlaw13_ParamsMatchesReference.j0 k a0 (t256 != false) t244 t245 t246 t247 t248 t249 t250 t251 t254 t255)) else (pyxlaw13_ParamsMatchesReference.j0 k a0 true t244 t245 t246 t247 t248 t249 t250 t251 t254 t255)) = some r := H
      have A12 := Aside0.mk A120
      clear A120
      by_cases c13 : t268 = true
      · subst c13
        have H1 : (if a0 ≥ 1 then (pyxlaw13_ParamsMatchesReference.j0 k a0 (t256 != (decide (a0 ≤ 25))) t244 t245 t246 t247 t248 t249 t250 t251 t254 t255) else (pyxlaw13_ParamsMatchesReference.j0 k a0 (t256 != false) t244 t245 t246 t247 t248 t249 t250 t251 t254 t255)) = some r := by rw [if_pos rfl] at H; exact H
        clear H
        have H := H1
        clear H1
        by_cases c14 : a0 ≥ 1
        · rw [if_pos c14] at H
          have c14b0 : decide (1 ≤ a0) = true := decide_eq_true c14
          clear c14
          (first | rw [c14b0] | (simp only [i64_w, i32_w]; rw [c14b0]) | skip)
          have H' := Aside0.mk H
          clear H
          try go_wp2
          have n0_ : Aside0 (Kd.R (Kd.int .u32) 33 ((((((((((w8.setCell ⟨gb257, 0, none⟩ (.int .i64 t244)).setCell ⟨gb257, 1, none⟩ (.int .i64 t245)).setCell ⟨gb257, 2, none⟩ (.string t246)).setCell ⟨gb257, 3, none⟩ (.int .i64 t247)).setCell ⟨gb257, 4, none⟩ (.int .i64 t248)).setCell ⟨gb257, 5, none⟩ (.int .i64 t249)).setCell ⟨gb257, 6, none⟩ (.int .i64 t250)).setCell ⟨gb257, 7, none⟩ (.slice Ao10 t251.length co10)).setCell ⟨gb257, 8, none⟩ (.int .i64 t254)).setCell ⟨gb257, 9, none⟩ (.int .u32 t255)) w.heap.size (fun _ => True) (.slice Ao10 t251.length co10) t251) := ⟨by (with_reducible repeat (first | apply Kd.R_alloc | apply Kd.R_drewN | apply Kd.R_drew)); exact Kd.R_mono (Kd.R_far (p := ⟨gb257, 9, none⟩) (Kd.R_far (p := ⟨gb257, 8, none⟩) (Kd.R_far (p := ⟨gb257, 7, none⟩) (Kd.R_far (p := ⟨gb257, 6, none⟩) (Kd.R_far (p := ⟨gb257, 5, none⟩) (Kd.R_far (p := ⟨gb257, 4, none⟩) (Kd.R_far (p := ⟨gb257, 3, none⟩) (Kd.R_far (p := ⟨gb257, 2, none⟩) (Kd.R_far (p := ⟨gb257, 1, none⟩) (Kd.R_far (p := ⟨gb257, 0, none⟩) (Kd.R_types HO253.out BK257.out (by decide)) (fun _ hk => hk.2) (.int .i64 t244)) (fun _ hk => hk.2) (.int .i64 t245)) (fun _ hk => hk.2) (.string t246)) (fun _ hk => hk.2) (.int .i64 t247)) (fun _ hk => hk.2) (.int .i64 t248)) (fun _ hk => hk.2) (.int .i64 t249)) (fun _ hk => hk.2) (.int .i64 t250)) (fun _ hk => hk.2) (.slice Ao10 t251.length co10)) (fun _ hk => hk.2) (.int .i64 t254)) (fun _ hk => hk.2) (.int .u32 t255)) (fun _ hk => trivial)⟩
          have n1_ : Aside0 (((((((((((w8.setCell ⟨gb257, 0, none⟩ (.int .i64 t244)).setCell ⟨gb257, 1, none⟩ (.int .i64 t245)).setCell ⟨gb257, 2, none⟩ (.string t246)).setCell ⟨gb257, 3, none⟩ (.int .i64 t247)).setCell ⟨gb257, 4, none⟩ (.int .i64 t248)).setCell ⟨gb257, 5, none⟩ (.int .i64 t249)).setCell ⟨gb257, 6, none⟩ (.int .i64 t250)).setCell ⟨gb257, 7, none⟩ (.slice Ao10 t251.length co10)).setCell ⟨gb257, 8, none⟩ (.int .i64 t254)).setCell ⟨gb257, 9, none⟩ (.int .u32 t255)).heap[gb257]? = some (.cells #[.int .i64 t244, .int .i64 t245, .string t246, .int .i64 t247, .int .i64 t248, .int .i64 t249, .int .i64 t250, .slice Ao10 t251.length co10, .int .i64 t254, .int .u32 t255] 37 (0, 0))) := ⟨by (with_reducible repeat (first | refine blk_drewN ?_ _ | refine blk_drew ?_ | refine blk_alloc ?_ _)); refine blk_put (cs := #[.int .i64 t244, .int .i64 t245, .string t246, .int .i64 t247, .int .i64 t248, .int .i64 t249, .int .i64 t250, .slice Ao10 t251.length co10, .int .i64 t254, .int .u32 0]) ?_ 9 _ rfl; (with_reducible repeat (first | refine blk_drewN ?_ _ | refine blk_drew ?_ | refine blk_alloc ?_ _)); refine blk_put (cs := #[.int .i64 t244, .int .i64 t245, .string t246, .int .i64 t247, .int .i64 t248, .int .i64 t249, .int .i64 t250, .slice Ao10 t251.length co10, .int .i64 0, .int .u32 0]) ?_ 8 _ rfl; (with_reducible repeat (first | refine blk_drewN ?_ _ | refine blk_drew ?_ | refine blk_alloc ?_ _)); refine blk_put (cs := #[.int .i64 t244, .int .i64 t245, .string t246, .int .i64 t247, .int .i64 t248, .int .i64 t249, .int .i64 t250, .slice none 0 0, .int .i64 0, .int .u32 0]) ?_ 7 _ rfl; (with_reducible repeat (first | refine blk_drewN ?_ _ | refine blk_drew ?_ | refine blk_alloc ?_ _)); refine blk_put (cs := #[.int .i64 t244, .int .i64 t245, .string t246, .int .i64 t247, .int .i64 t248, .int .i64 t249, .int .i64 0, .slice none 0 0, .int .i64 0, .int .u32 0]) ?_ 6 _ rfl; (with_reducible repeat (first | refine blk_drewN ?_ _ | refine blk_drew ?_ | refine blk_alloc ?_ _)); refine blk_put (cs := #[.int .i64 t244, .int .i64 t245, .string t246, .int .i64 t247, .int .i64 t248, .int .i64 0, .int .i64 0, .slice none 0 0, .int .i64 0, .int .u32 0]) ?_ 5 _ rfl; (with_reducible repeat (first | refine blk_drewN ?_ _ | refine blk_drew ?_ | refine blk_alloc ?_ _)); refine blk_put (cs := #[.int .i64 t244, .int .i64 t245, .string t246, .int .i64 t247, .int .i64 0, .int .i64 0, .int .i64 0, .slice none 0 0, .int .i64 0, .int .u32 0]) ?_ 4 _ rfl; (with_reducible repeat (first | refine blk_drewN ?_ _ | refine blk_drew ?_ | refine blk_alloc ?_ _)); refine blk_put (cs := #[.int .i64 t244, .int .i64 t245, .string t246, .int .i64 0, .int .i64 0, .int .i64 0, .int .i64 0, .slice none 0 0, .int .i64 0, .int .u32 0]) ?_ 3 _ rfl; (with_reducible repeat (first | refine blk_drewN ?_ _ | refine blk_drew ?_ | refine blk_alloc ?_ _)); refine blk_put (cs := #[.int .i64 t244, .int .i64 t245, .string (⟨#[]⟩ : ByteArray), .int .i64 0, .int .i64 0, .int .i64 0, .int .i64 0, .slice none 0 0, .int .i64 0, .int .u32 0]) ?_ 2 _ rfl; (with_reducible repeat (first | refine blk_drewN ?_ _ | refine blk_drew ?_ | refine blk_alloc ?_ _)); refine blk_put (cs := #[.int .i64 t244, .int .i64 0, .string (⟨#[]⟩ : ByteArray), .int .i64 0, .int .i64 0, .int .i64 0, .int .i64 0, .slice none 0 0, .int .i64 0, .int .u32 0]) ?_ 1 _ rfl; (with_reducible repeat (first | refine blk_drewN ?_ _ | refine blk_drew ?_ | refine blk_alloc ?_ _)); refine blk_put (cs := #[.int .i64 0, .int .i64 0, .string (⟨#[]⟩ : ByteArray), .int .i64 0, .int .i64 0, .int .i64 0, .int .i64 0, .slice none 0 0, .int .i64 0, .int .u32 0]) ?_ 0 _ rfl; (with_reducible repeat (first | refine blk_drewN ?_ _ | refine blk_drew ?_ | refine blk_alloc ?_ _)); exact BK257.out⟩
          have n2_ : Aside0 (Below w.heap.size w ((((((((((w8.setCell ⟨gb257, 0, none⟩ (.int .i64 t244)).setCell ⟨gb257, 1, none⟩ (.int .i64 t245)).setCell ⟨gb257, 2, none⟩ (.string t246)).setCell ⟨gb257, 3, none⟩ (.int .i64 t247)).setCell ⟨gb257, 4, none⟩ (.int .i64 t248)).setCell ⟨gb257, 5, none⟩ (.int .i64 t249)).setCell ⟨gb257, 6, none⟩ (.int .i64 t250)).setCell ⟨gb257, 7, none⟩ (.slice Ao10 t251.length co10)).setCell ⟨gb257, 8, none⟩ (.int .i64 t254)).setCell ⟨gb257, 9, none⟩ (.int .u32 t255))) := ⟨by repeat (first | (with_reducible first | exact HB.out | apply below_alloc | apply pw_below_drewN | apply below_drew1 | refine below_set ?_ GE257.out) | exact HB.out)⟩
          (try clear HO253)
          (try clear BK257)
          (try clear HB)
          generalize ((((((((((w8.setCell ⟨gb257, 0, none⟩ (.int .i64 t244)).setCell ⟨gb257, 1, none⟩ (.int .i64 t245)).setCell ⟨gb257, 2, none⟩ (.string t246)).setCell ⟨gb257, 3, none⟩ (.int .i64 t247)).setCell ⟨gb257, 4, none⟩ (.int .i64 t248)).setCell ⟨gb257, 5, none⟩ (.int .i64 t249)).setCell ⟨gb257, 6, none⟩ (.int .i64 t250)).setCell ⟨gb257, 7, none⟩ (.slice Ao10 t251.length co10)).setCell ⟨gb257, 8, none⟩ (.int .i64 t254)).setCell ⟨gb257, 9, none⟩ (.int .u32 t255)) = w15 at n0_ n1_ n2_ ⊢
          have HO253 := n0_
          have BK257 := n1_
          have HB := n2_
          clear n0_ n1_ n2_
          have n0_ := Aside0.mk (Kd.R_drew HO253.out)
          have n1_ := Aside0.mk (blk_drew BK257.out)
          have n2_ := Aside0.mk (below_drew1 HB.out)
          clear HO253
          clear BK257
          clear HB
          have HO253 := n0_
          have BK257 := n1_
          have HB := n2_
          clear n0_ n1_ n2_
          refine start_ (n := 15) (S := fun w' => w'.cell? ⟨gb257, 0, none⟩ = some (.int .i64 t244) ∧ w'.cell? ⟨gb257, 1, none⟩ = some (.int .i64 t245) ∧ w'.cell? ⟨gb257, 2, none⟩ = some (.string t246) ∧ w'.cell? ⟨gb257, 3, none⟩ = some (.int .i64 t247) ∧ w'.cell? ⟨gb257, 4, none⟩ = some (.int .i64 t248) ∧ w'.cell? ⟨gb257, 5, none⟩ = some (.int .i64 t249) ∧ w'.cell? ⟨gb257, 6, none⟩ = some (.int .i64 t250) ∧ w'.cell? ⟨gb257, 7, none⟩ = some (.slice Ao10 t251.length co10) ∧ w'.cell? ⟨gb257, 8, none⟩ = some (.int .i64 t254) ∧ w'.cell? ⟨gb257, 9, none⟩ = some (.int .u32 t255)) (ds := []) #[false, false, false, false, false, false, false, false, false, false, false, false, false, false, false] (by kernel_rfl) rfl rfl ⟨(blk_cell BK257.out 0).trans rfl, (blk_cell BK257.out 1).trans rfl, (blk_cell BK257.out 2).trans rfl, (blk_cell BK257.out 3).trans rfl, (blk_cell BK257.out 4).trans rfl, (blk_cell BK257.out 5).trans rfl, (blk_cell BK257.out 6).trans rfl, (blk_cell BK257.out 7).trans rfl, (blk_cell BK257.out 8).trans rfl, (blk_cell BK257.out 9).trans rfl⟩ (fun hHeld => ?_); refine with_tabW pyxlaw13_ParamsMatchesReference.tab4 pyxlaw13_ParamsMatchesReference.bits4 (fun HT_ HW_ => ?_)
          generalize w15.drew = w16 at HO253 BK257 HB hHeld ⊢
          refine pure_ (i := 1) (N := some 16) (v := ?_) (a' := ?_) #[false, true, false, false, false, false, false, false, false, false, false, false, false, false, false] rfl rfl (any_of HT_.out (by kernel_rfl)) (fun _ _ _ h => h) (Or.inl ⟨by rfl, ?_⟩) ?_ ?_
          rotate_left
          · intro w'
            go_simp
            with_reducible rfl
          rotate_left
          · simp only [Act.put, List.setIfInBounds_toArray, List.set_cons_zero, List.set_cons_succ, i64_w, i32_w]
            rfl
          refine take_ (i := 0) (N := some 15) (v := ?_) (a' := ?_) #[true, true, false, false, false, false, false, false, false, false, false, false, false, false, false] rfl rfl (take_ofW HT_.out HW_.out (by kernel_rfl)) (fun _ _ _ h => h) (Or.inl ⟨by rfl, ?_⟩) hHeld ?_ ?_
          rotate_left
          · rintro w' ⟨s0, s1, s2, s3, s4, s5, s6, s7, s8, s9⟩
            go_simp
            with_reducible rfl
          rotate_left
          · simp only [Act.put, List.setIfInBounds_toArray, List.set_cons_zero, List.set_cons_succ, i64_w, i32_w]
            rfl
          refine one_ (i := 2) (N := some 17) #[true, true, true, false, false, false, false, false, false, false, false, false, false, false, false] rfl rfl (one_of HT_.out (by kernel_rfl)) (by decide) (fun K hK => ?_)
          refine goes_ Tryd.func30 (by kernel_rfl) rfl #[.int .i64 a0] (by rfl) rfl rfl (by (try simp only [List.map_toArray, List.map_cons, List.map_nil]); first | done | rfl | (simp only [List.length_drop, List.length_take]; rfl)) ?_
          with_reducible refine (pyxref13_Get.calls a0 t258 t259 t260 t261 t262 t263 t264 t265 t266 t267 _ A11.out).mono ?_
          rintro e w17 ⟨rfl, hb⟩
          refine ⟨_, rfl, ?_⟩
          have n0_ := Aside0.mk (Kd.R_below (by (with_reducible repeat (first | apply Kd.R_alloc | apply Kd.R_drewN | apply Kd.R_drew)); exact HO253.out) hb)
          have n1_ := Aside0.mk (blk_below (g := gb257) (o := .cells #[.int .i64 t244, .int .i64 t245, .string t246, .int .i64 t247, .int .i64 t248, .int .i64 t249, .int .i64 t250, .slice Ao10 t251.length co10, .int .i64 t254, .int .u32 t255] 37 (0, 0)) (by (with_reducible repeat (first | refine blk_drewN ?_ _ | refine blk_drew ?_ | refine blk_alloc ?_ _)); exact BK257.out) hb)
          have n2_ := Aside0.mk (below_step (by repeat (first | (with_reducible first | exact HB.out | apply below_alloc | apply pw_below_drewN | apply below_drew1 | refine below_set ?_ GE257.out) | exact HB.out | exact Below.refl _ _)) hb)
          clear HO253
          clear BK257
          clear HB
          have HO253 := n0_
          have BK257 := n1_
          have HB := n2_
          clear n0_ n1_ n2_
          (try clear hb)
          (try clear hb2)
          (try clear hk)
          (try clear hi)
          refine hK.out _ _ ⟨(blk_cell BK257.out 0).trans rfl, (blk_cell BK257.out 1).trans rfl, (blk_cell BK257.out 2).trans rfl, (blk_cell BK257.out 3).trans rfl, (blk_cell BK257.out 4).trans rfl, (blk_cell BK257.out 5).trans rfl, (blk_cell BK257.out 6).trans rfl, (blk_cell BK257.out 7).trans rfl, (blk_cell BK257.out 8).trans rfl, (blk_cell BK257.out 9).trans rfl⟩ (fun hHeld => ?_)
          clear hK K
          refine norm_ (a' := ?_) ?_ ?_
          rotate_left
          · show Act.put _ (some 17) _ = _
            simp only [Act.put, List.setIfInBounds_toArray, List.set_cons_zero, List.set_cons_succ, i64_w, i32_w]
            rfl
          refine one_ (i := 3) (N := some 18) #[true, true, true, true, false, false, false, false, false, false, false, false, false, false, false] rfl rfl (one_of HT_.out (by kernel_rfl)) (by decide) (fun K hK => ?_)
          refine goes_ Tryd.func29 (by kernel_rfl) rfl #[.agg #[.int .i64 t244, .int .i64 t245, .string t246, .int .i64 t247, .int .i64 t248, .int .i64 t249, .int .i64 t250, .slice Ao10 t251.length co10, .int .i64 t254, .int .u32 t255], .agg #[.int .i64 t258, .int .i64 t259, .string t260, .int .i64 t261, .int .i64 t262, .int .i64 t263, .int .i64 t264, .string t265, .int .i64 t266, .int .u32 t267]] (by rfl) rfl rfl (by (try simp only [List.map_toArray, List.map_cons, List.map_nil]); first | done | rfl | (simp only [List.length_drop, List.length_take]; rfl)) ?_
          with_reducible refine (pyxlaw13_same.calls k t244 t245 t246 t247 t248 t249 t250 _ _ t251 t254 t255 t258 t259 t260 t261 t262 t263 t264 t265 t266 t267 true _ ?side1 ?side2 A12.out).mono ?_
          (case side1 => repeat (first | exact (Kd.R_reads' HO253.out).2.2 | (with_reducible refine Kd.C_alloc ?_ _) | (with_reducible refine Kd.C_drewN ?_ _) | (with_reducible refine Kd.C_drew ?_)))
          (case side2 => exact (Kd.R_reads' HO253.out).2.1)
          rintro e w18 ⟨rfl, hb⟩
          refine ⟨_, rfl, ?_⟩
          have n0_ := Aside0.mk (Kd.R_below (by (with_reducible repeat (first | apply Kd.R_alloc | apply Kd.R_drewN | apply Kd.R_drew)); exact HO253.out) hb)
          have n1_ := Aside0.mk (blk_below (g := gb257) (o := .cells #[.int .i64 t244, .int .i64 t245, .string t246, .int .i64 t247, .int .i64 t248, .int .i64 t249, .int .i64 t250, .slice Ao10 t251.length co10, .int .i64 t254, .int .u32 t255] 37 (0, 0)) (by (with_reducible repeat (first | refine blk_drewN ?_ _ | refine blk_drew ?_ | refine blk_alloc ?_ _)); exact BK257.out) hb)
          have n2_ := Aside0.mk (below_step (by repeat (first | (with_reducible first | exact HB.out | apply below_alloc | apply pw_below_drewN | apply below_drew1 | refine below_set ?_ GE257.out) | exact HB.out)) hb)
          clear HO253
          clear BK257
          clear HB
          have HO253 := n0_
          have BK257 := n1_
          have HB := n2_
          clear n0_ n1_ n2_
          (try clear hb)
          (try clear hb2)
          (try clear hk)
          (try clear hi)
          refine hK.out _ _ ⟨(blk_cell BK257.out 0).trans rfl, (blk_cell BK257.out 1).trans rfl, (blk_cell BK257.out 2).trans rfl, (blk_cell BK257.out 3).trans rfl, (blk_cell BK257.out 4).trans rfl, (blk_cell BK257.out 5).trans rfl, (blk_cell BK257.out 6).trans rfl, (blk_cell BK257.out 7).trans rfl, (blk_cell BK257.out 8).trans rfl, (blk_cell BK257.out 9).trans rfl⟩ (fun hHeld => ?_)
          clear hK K
          refine norm_ (a' := ?_) ?_ ?_
          rotate_left
          · show Act.put _ (some 18) _ = _
            simp only [Act.put, List.setIfInBounds_toArray, List.set_cons_zero, List.set_cons_succ, i64_w, i32_w]
            rfl
          refine pure_ (i := 4) (N := some 19) (v := ?_) (a' := ?_) #[true, true, true, true, true, false, false, false, false, false, false, false, false, false, false] rfl rfl (any_of HT_.out (by kernel_rfl)) (fun _ _ _ h => h) (Or.inl ⟨by rfl, ?_⟩) ?_ ?_
          rotate_left
          · intro w'
            go_simp
            with_reducible rfl
          rotate_left
          · simp only [Act.put, List.setIfInBounds_toArray, List.set_cons_zero, List.set_cons_succ, i64_w, i32_w]
            rfl
          refine pure_ (i := 5) (N := some 20) (v := ?_) (a' := ?_) #[true, true, true, true, true, true, false, false, false, false, false, false, false, false, false] rfl rfl (any_of HT_.out (by kernel_rfl)) (fun _ _ _ h => h) (Or.inl ⟨by rfl, ?_⟩) ?_ ?_
          rotate_left
          · intro w'
            go_simp
            with_reducible rfl
          rotate_left
          · simp only [Act.put, List.setIfInBounds_toArray, List.set_cons_zero, List.set_cons_succ, i64_w, i32_w]
            rfl
          refine pure_ (i := 6) (N := some 21) (v := ?_) (a' := ?_) #[true, true, true, true, true, true, true, false, false, false, false, false, false, false, false] rfl rfl (any_of HT_.out (by kernel_rfl)) (fun _ _ _ h => h) (Or.inl ⟨by rfl, ?_⟩) ?_ ?_
          rotate_left
          · intro w'
            go_simp
            with_reducible rfl
          rotate_left
          · simp only [Act.put, List.setIfInBounds_toArray, List.set_cons_zero, List.set_cons_succ, i64_w, i32_w]
            rfl
          refine pure_ (i := 7) (N := some 22) (v := ?_) (a' := ?_) #[true, true, true, true, true, true, true, true, false, false, false, false, false, false, false] rfl rfl (any_of HT_.out (by kernel_rfl)) (fun _ _ _ h => h) (Or.inl ⟨by rfl, ?_⟩) ?_ ?_
          rotate_left
          · intro w'
            go_simp
            with_reducible rfl
          rotate_left
          · simp only [Act.put, List.setIfInBounds_toArray, List.set_cons_zero, List.set_cons_succ, i64_w, i32_w]
            rfl
          refine pure_ (i := 8) (N := some 23) (v := ?_) (a' := ?_) #[true, true, true, true, true, true, true, true, true, false, false, false, false, false, false] rfl rfl (any_of HT_.out (by kernel_rfl)) (fun _ _ _ h => h) (Or.inl ⟨by rfl, ?_⟩) ?_ ?_
          rotate_left
          · intro w'
            go_simp
            with_reducible rfl
          rotate_left
          · simp only [Act.put, List.setIfInBounds_toArray, List.set_cons_zero, List.set_cons_succ, i64_w, i32_w]
            rfl
          refine pure_ (i := 9) (N := some 24) (v := ?_) (a' := ?_) #[true, true, true, true, true, true, true, true, true, true, false, false, false, false, false] rfl rfl (any_of HT_.out (by kernel_rfl)) (fun _ _ _ h => h) (Or.inl ⟨by rfl, ?_⟩) ?_ ?_
          rotate_left
          · intro w'
            go_simp
            with_reducible rfl
          rotate_left
          · simp only [Act.put, List.setIfInBounds_toArray, List.set_cons_zero, List.set_cons_succ, i64_w, i32_w]
            rfl
          refine pure_ (i := 10) (N := some 25) (v := ?_) (a' := ?_) #[true, true, true, true, true, true, true, true, true, true, true, false, false, false, false] rfl rfl (any_of HT_.out (by kernel_rfl)) (fun _ _ _ h => h) (Or.inl ⟨by rfl, ?_⟩) ?_ ?_
          rotate_left
          · intro w'
            go_simp
            with_reducible rfl
          rotate_left
          · simp only [Act.put, List.setIfInBounds_toArray, List.set_cons_zero, List.set_cons_succ, i64_w, i32_w]
            rfl
          refine pure_ (i := 11) (N := some 26) (v := ?_) (a' := ?_) #[true, true, true, true, true, true, true, true, true, true, true, true, false, false, false] rfl rfl (any_of HT_.out (by kernel_rfl)) (fun _ _ _ h => h) (Or.inl ⟨by rfl, ?_⟩) ?_ ?_
          rotate_left
          · intro w'
            go_simp
            with_reducible rfl
          rotate_left
          · simp only [Act.put, List.setIfInBounds_toArray, List.set_cons_zero, List.set_cons_succ, i64_w, i32_w]
            rfl
          refine pure_ (i := 12) (N := some 27) (v := ?_) (a' := ?_) #[true, true, true, true, true, true, true, true, true, true, true, true, true, false, false] rfl rfl (any_of HT_.out (by kernel_rfl)) (fun _ _ _ h => h) (Or.inl ⟨by rfl, ?_⟩) ?_ ?_
          rotate_left
          · intro w'
            go_simp
            with_reducible rfl
          rotate_left
          · simp only [Act.put, List.setIfInBounds_toArray, List.set_cons_zero, List.set_cons_succ, i64_w, i32_w]
            rfl
          refine pure_ (i := 13) (N := some 28) (v := ?_) (a' := ?_) #[true, true, true, true, true, true, true, true, true, true, true, true, true, true, false] rfl rfl (any_of HT_.out (by kernel_rfl)) (fun _ _ _ h => h) (Or.inl ⟨by rfl, ?_⟩) ?_ ?_
          rotate_left
          · intro w'
            go_simp
            with_reducible rfl
          rotate_left
          · simp only [Act.put, List.setIfInBounds_toArray, List.set_cons_zero, List.set_cons_succ, i64_w, i32_w]
            rfl
          refine pure_ (i := 14) (N := some 29) (v := ?_) (a' := ?_) #[true, true, true, true, true, true, true, true, true, true, true, true, true, true, true] rfl rfl (any_of HT_.out (by kernel_rfl)) (fun _ _ _ h => h) (Or.inl ⟨by rfl, ?_⟩) ?_ ?_
          rotate_left
          · intro w'
            go_simp
            with_reducible rfl
          rotate_left
          · simp only [Act.put, List.setIfInBounds_toArray, List.set_cons_zero, List.set_cons_succ, i64_w, i32_w]
            rfl
          refine done_ (done_of HT_.out (by kernel_rfl)) ?_
          try go_wp2
          go_meet
          case rel => exact ⟨_, ((t256 != (decide (a0 ≤ 25)))), (by first | rfl | (simp; done) | (simp [*]; done)), H', ⟨by first | omega | exact Nat.le_refl _⟩, ⟨by (with_reducible repeat (first | apply Kd.R_alloc | apply Kd.R_drewN | apply Kd.R_drew)); exact HO253.out⟩, ⟨by (with_reducible repeat (first | refine blk_drewN ?_ _ | refine blk_drew ?_ | refine blk_alloc ?_ _)); exact BK257.out⟩, ⟨by repeat (first | (with_reducible first | exact HB.out | apply below_alloc | apply pw_below_drewN | apply below_drew1 | refine below_set ?_ GE257.out) | exact HB.out)⟩⟩
        · rw [if_neg c14] at H
          have c14b0 : decide (1 ≤ a0) = false := decide_eq_false c14
          clear c14
          (first | rw [c14b0] | (simp only [i64_w, i32_w]; rw [c14b0]) | skip)
          have H' := Aside0.mk H
          clear H
          try go_wp2
          have n0_ : Aside0 (Kd.R (Kd.int .u32) 33 ((((((((((w8.setCell ⟨gb257, 0, none⟩ (.int .i64 t244)).setCell ⟨gb257, 1, none⟩ (.int .i64 t245)).setCell ⟨gb257, 2, none⟩ (.string t246)).setCell ⟨gb257, 3, none⟩ (.int .i64 t247)).setCell ⟨gb257, 4, none⟩ (.int .i64 t248)).setCell ⟨gb257, 5, none⟩ (.int .i64 t249)).setCell ⟨gb257, 6, none⟩ (.int .i64 t250)).setCell ⟨gb257, 7, none⟩ (.slice Ao10 t251.length co10)).setCell ⟨gb257, 8, none⟩ (.int .i64 t254)).setCell ⟨gb257, 9, none⟩ (.int .u32 t255)) w.heap.size (fun _ => True) (.slice Ao10 t251.length co10) t251) := ⟨by (with_reducible repeat (first | apply Kd.R_alloc | apply Kd.R_drewN | apply Kd.R_drew)); exact Kd.R_mono (Kd.R_far (p := ⟨gb257, 9, none⟩) (Kd.R_far (p := ⟨gb257, 8, none⟩) (Kd.R_far (p := ⟨gb257, 7, none⟩) (Kd.R_far (p := ⟨gb257, 6, none⟩) (Kd.R_far (p := ⟨gb257, 5, none⟩) (Kd.R_far (p := ⟨gb257, 4, none⟩) (Kd.R_far (p := ⟨gb257, 3, none⟩) (Kd.R_far (p := ⟨gb257, 2, none⟩) (Kd.R_far (p := ⟨gb257, 1, none⟩) (Kd.R_far (p := ⟨gb257, 0, none⟩) (Kd.R_types HO253.out BK257.out (by decide)) (fun _ hk => hk.2) (.int .i64 t244)) (fun _ hk => hk.2) (.int .i64 t245)) (fun _ hk => hk.2) (.string t246)) (fun _ hk => hk.2) (.int .i64 t247)) (fun _ hk => hk.2) (.int .i64 t248)) (fun _ hk => hk.2) (.int .i64 t249)) (fun _ hk => hk.2) (.int .i64 t250)) (fun _ hk => hk.2) (.slice Ao10 t251.length co10)) (fun _ hk => hk.2) (.int .i64 t254)) (fun _ hk => hk.2) (.int .u32 t255)) (fun _ hk => trivial)⟩
          have n1_ : Aside0 (((((((((((w8.setCell ⟨gb257, 0, none⟩ (.int .i64 t244)).setCell ⟨gb257, 1, none⟩ (.int .i64 t245)).setCell ⟨gb257, 2, none⟩ (.string t246)).setCell ⟨gb257, 3, none⟩ (.int .i64 t247)).setCell ⟨gb257, 4, none⟩ (.int .i64 t248)).setCell ⟨gb257, 5, none⟩ (.int .i64 t249)).setCell ⟨gb257, 6, none⟩ (.int .i64 t250)).setCell ⟨gb257, 7, none⟩ (.slice Ao10 t251.length co10)).setCell ⟨gb257, 8, none⟩ (.int .i64 t254)).setCell ⟨gb257, 9, none⟩ (.int .u32 t255)).heap[gb257]? = some (.cells #[.int .i64 t244, .int .i64 t245, .string t246, .int .i64 t247, .int .i64 t248, .int .i64 t249, .int .i64 t250, .slice Ao10 t251.length co10, .int .i64 t254, .int .u32 t255] 37 (0, 0))) := ⟨by (with_reducible repeat (first | refine blk_drewN ?_ _ | refine blk_drew ?_ | refine blk_alloc ?_ _)); refine blk_put (cs := #[.int .i64 t244, .int .i64 t245, .string t246, .int .i64 t247, .int .i64 t248, .int .i64 t249, .int .i64 t250, .slice Ao10 t251.length co10, .int .i64 t254, .int .u32 0]) ?_ 9 _ rfl; (with_reducible repeat (first | refine blk_drewN ?_ _ | refine blk_drew ?_ | refine blk_alloc ?_ _)); refine blk_put (cs := #[.int .i64 t244, .int .i64 t245, .string t246, .int .i64 t247, .int .i64 t248, .int .i64 t249, .int .i64 t250, .slice Ao10 t251.length co10, .int .i64 0, .int .u32 0]) ?_ 8 _ rfl; (with_reducible repeat (first | refine blk_drewN ?_ _ | refine blk_drew ?_ | refine blk_alloc ?_ _)); refine blk_put (cs := #[.int .i64 t244, .int .i64 t245, .string t246, .int .i64 t247, .int .i64 t248, .int .i64 t249, .int .i64 t250, .slice none 0 0, .int .i64 0, .int .u32 0]) ?_ 7 _ rfl; (with_reducible repeat (first | refine blk_drewN ?_ _ | refine blk_drew ?_ | refine blk_alloc ?_ _)); refine blk_put (cs := #[.int .i64 t244, .int .i64 t245, .string t246, .int .i64 t247, .int .i64 t248, .int .i64 t249, .int .i64 0, .slice none 0 0, .int .i64 0, .int .u32 0]) ?_ 6 _ rfl; (with_reducible repeat (first | refine blk_drewN ?_ _ | refine blk_drew ?_ | refine blk_alloc ?_ _)); refine blk_put (cs := #[.int .i64 t244, .int .i64 t245, .string t246, .int .i64 t247, .int .i64 t248, .int .i64 0, .int .i64 0, .slice none 0 0, .int .i64 0, .int .u32 0]) ?_ 5 _ rfl; (with_reducible repeat (first | refine blk_drewN ?_ _ | refine blk_drew ?_ | refine blk_alloc ?_ _)); refine blk_put (cs := #[.int .i64 t244, .int .i64 t245, .string t246, .int .i64 t247, .int .i64 0, .int .i64 0, .int .i64 0, .slice none 0 0, .int .i64 0, .int .u32 0]) ?_ 4 _ rfl; (with_reducible repeat (first | refine blk_drewN ?_ _ | refine blk_drew ?_ | refine blk_alloc ?_ _)); refine blk_put (cs := #[.int .i64 t244, .int .i64 t245, .string t246, .int .i64 0, .int .i64 0, .int .i64 0, .int .i64 0, .slice none 0 0, .int .i64 0, .int .u32 0]) ?_ 3 _ rfl; (with_reducible repeat (first | refine blk_drewN ?_ _ | refine blk_drew ?_ | refine blk_alloc ?_ _)); refine blk_put (cs := #[.int .i64 t244, .int .i64 t245, .string (⟨#[]⟩ : ByteArray), .int .i64 0, .int .i64 0, .int .i64 0, .int .i64 0, .slice none 0 0, .int .i64 0, .int .u32 0]) ?_ 2 _ rfl; (with_reducible repeat (first | refine blk_drewN ?_ _ | refine blk_drew ?_ | refine blk_alloc ?_ _)); refine blk_put (cs := #[.int .i64 t244, .int .i64 0, .string (⟨#[]⟩ : ByteArray), .int .i64 0, .int .i64 0, .int .i64 0, .int .i64 0, .slice none 0 0, .int .i64 0, .int .u32 0]) ?_ 1 _ rfl; (with_reducible repeat (first | refine blk_drewN ?_ _ | refine blk_drew ?_ | refine blk_alloc ?_ _)); refine blk_put (cs := #[.int .i64 0, .int .i64 0, .string (⟨#[]⟩ : ByteArray), .int .i64 0, .int .i64 0, .int .i64 0, .int .i64 0, .slice none 0 0, .int .i64 0, .int .u32 0]) ?_ 0 _ rfl; (with_reducible repeat (first | refine blk_drewN ?_ _ | refine blk_drew ?_ | refine blk_alloc ?_ _)); exact BK257.out⟩
          have n2_ : Aside0 (Below w.heap.size w ((((((((((w8.setCell ⟨gb257, 0, none⟩ (.int .i64 t244)).setCell ⟨gb257, 1, none⟩ (.int .i64 t245)).setCell ⟨gb257, 2, none⟩ (.string t246)).setCell ⟨gb257, 3, none⟩ (.int .i64 t247)).setCell ⟨gb257, 4, none⟩ (.int .i64 t248)).setCell ⟨gb257, 5, none⟩ (.int .i64 t249)).setCell ⟨gb257, 6, none⟩ (.int .i64 t250)).setCell ⟨gb257, 7, none⟩ (.slice Ao10 t251.length co10)).setCell ⟨gb257, 8, none⟩ (.int .i64 t254)).setCell ⟨gb257, 9, none⟩ (.int .u32 t255))) := ⟨by repeat (first | (with_reducible first | exact HB.out | apply below_alloc | apply pw_below_drewN | apply below_drew1 | refine below_set ?_ GE257.out) | exact HB.out)⟩
          (try clear HO253)
          (try clear BK257)
          (try clear HB)
          generalize ((((((((((w8.setCell ⟨gb257, 0, none⟩ (.int .i64 t244)).setCell ⟨gb257, 1, none⟩ (.int .i64 t245)).setCell ⟨gb257, 2, none⟩ (.string t246)).setCell ⟨gb257, 3, none⟩ (.int .i64 t247)).setCell ⟨gb257, 4, none⟩ (.int .i64 t248)).setCell ⟨gb257, 5, none⟩ (.int .i64 t249)).setCell ⟨gb257, 6, none⟩ (.int .i64 t250)).setCell ⟨gb257, 7, none⟩ (.slice Ao10 t251.length co10)).setCell ⟨gb257, 8, none⟩ (.int .i64 t254)).setCell ⟨gb257, 9, none⟩ (.int .u32 t255)) = w19 at n0_ n1_ n2_ ⊢
          have HO253 := n0_
          have BK257 := n1_
          have HB := n2_
          clear n0_ n1_ n2_
          have n0_ := Aside0.mk (Kd.R_drew HO253.out)
          have n1_ := Aside0.mk (blk_drew BK257.out)
          have n2_ := Aside0.mk (below_drew1 HB.out)
          clear HO253
          clear BK257
          clear HB
          have HO253 := n0_
          have BK257 := n1_
          have HB := n2_
          clear n0_ n1_ n2_
          refine start_ (n := 15) (S := fun w' => w'.cell? ⟨gb257, 0, none⟩ = some (.int .i64 t244) ∧ w'.cell? ⟨gb257, 1, none⟩ = some (.int .i64 t245) ∧ w'.cell? ⟨gb257, 2, none⟩ = some (.string t246) ∧ w'.cell? ⟨gb257, 3, none⟩ = some (.int .i64 t247) ∧ w'.cell? ⟨gb257, 4, none⟩ = some (.int .i64 t248) ∧ w'.cell? ⟨gb257, 5, none⟩ = some (.int .i64 t249) ∧ w'.cell? ⟨gb257, 6, none⟩ = some (.int .i64 t250) ∧ w'.cell? ⟨gb257, 7, none⟩ = some (.slice Ao10 t251.length co10) ∧ w'.cell? ⟨gb257, 8, none⟩ = some (.int .i64 t254) ∧ w'.cell? ⟨gb257, 9, none⟩ = some (.int .u32 t255)) (ds := []) #[false, false, false, false, false, false, false, false, false, false, false, false, false, false, false] (by kernel_rfl) rfl rfl ⟨(blk_cell BK257.out 0).trans rfl, (blk_cell BK257.out 1).trans rfl, (blk_cell BK257.out 2).trans rfl, (blk_cell BK257.out 3).trans rfl, (blk_cell BK257.out 4).trans rfl, (blk_cell BK257.out 5).trans rfl, (blk_cell BK257.out 6).trans rfl, (blk_cell BK257.out 7).trans rfl, (blk_cell BK257.out 8).trans rfl, (blk_cell BK257.out 9).trans rfl⟩ (fun hHeld => ?_); refine with_tabW pyxlaw13_ParamsMatchesReference.tab4 pyxlaw13_ParamsMatchesReference.bits4 (fun HT_ HW_ => ?_)
          generalize w19.drew = w20 at HO253 BK257 HB hHeld ⊢
          refine pure_ (i := 1) (N := some 16) (v := ?_) (a' := ?_) #[false, true, false, false, false, false, false, false, false, false, false, false, false, false, false] rfl rfl (any_of HT_.out (by kernel_rfl)) (fun _ _ _ h => h) (Or.inl ⟨by rfl, ?_⟩) ?_ ?_
          rotate_left
          · intro w'
            go_simp
            with_reducible rfl
          rotate_left
          · simp only [Act.put, List.setIfInBounds_toArray, List.set_cons_zero, List.set_cons_succ, i64_w, i32_w]
            rfl
          refine take_ (i := 0) (N := some 15) (v := ?_) (a' := ?_) #[true, true, false, false, false, false, false, false, false, false, false, false, false, false, false] rfl rfl (take_ofW HT_.out HW_.out (by kernel_rfl)) (fun _ _ _ h => h) (Or.inl ⟨by rfl, ?_⟩) hHeld ?_ ?_
          rotate_left
          · rintro w' ⟨s0, s1, s2, s3, s4, s5, s6, s7, s8, s9⟩
            go_simp
            with_reducible rfl
          rotate_left
          · simp only [Act.put, List.setIfInBounds_toArray, List.set_cons_zero, List.set_cons_succ, i64_w, i32_w]
            rfl
          refine one_ (i := 2) (N := some 17) #[true, true, true, false, false, false, false, false, false, false, false, false, false, false, false] rfl rfl (one_of HT_.out (by kernel_rfl)) (by decide) (fun K hK => ?_)
          refine goes_ Tryd.func30 (by kernel_rfl) rfl #[.int .i64 a0] (by rfl) rfl rfl (by (try simp only [List.map_toArray, List.map_cons, List.map_nil]); first | done | rfl | (simp only [List.length_drop, List.length_take]; rfl)) ?_
          with_reducible refine (pyxref13_Get.calls a0 t258 t259 t260 t261 t262 t263 t264 t265 t266 t267 _ A11.out).mono ?_
          rintro e w21 ⟨rfl, hb⟩
          refine ⟨_, rfl, ?_⟩
          have n0_ := Aside0.mk (Kd.R_below (by (with_reducible repeat (first | apply Kd.R_alloc | apply Kd.R_drewN | apply Kd.R_drew)); exact HO253.out) hb)
          have n1_ := Aside0.mk (blk_below (g := gb257) (o := .cells #[.int .i64 t244, .int .i64 t245, .string t246, .int .i64 t247, .int .i64 t248, .int .i64 t249, .int .i64 t250, .slice Ao10 t251.length co10, .int .i64 t254, .int .u32 t255] 37 (0, 0)) (by (with_reducible repeat (first | refine blk_drewN ?_ _ | refine blk_drew ?_ | refine blk_alloc ?_ _)); exact BK257.out) hb)
          have n2_ := Aside0.mk (below_step (by repeat (first | (with_reducible first | exact HB.out | apply below_alloc | apply pw_below_drewN | apply below_drew1 | refine below_set ?_ GE257.out) | exact HB.out | exact Below.refl _ _)) hb)
          clear HO253
          clear BK257
          clear HB
          have HO253 := n0_
          have BK257 := n1_
          have HB := n2_
          clear n0_ n1_ n2_
          (try clear hb)
          (try clear hb2)
          (try clear hk)
          (try clear hi)
          refine hK.out _ _ ⟨(blk_cell BK257.out 0).trans rfl, (blk_cell BK257.out 1).trans rfl, (blk_cell BK257.out 2).trans rfl, (blk_cell BK257.out 3).trans rfl, (blk_cell BK257.out 4).trans rfl, (blk_cell BK257.out 5).trans rfl, (blk_cell BK257.out 6).trans rfl, (blk_cell BK257.out 7).trans rfl, (blk_cell BK257.out 8).trans rfl, (blk_cell BK257.out 9).trans rfl⟩ (fun hHeld => ?_)
          clear hK K
          refine norm_ (a' := ?_) ?_ ?_
          rotate_left
          · show Act.put _ (some 17) _ = _
            simp only [Act.put, List.setIfInBounds_toArray, List.set_cons_zero, List.set_cons_succ, i64_w, i32_w]
            rfl
          refine one_ (i := 3) (N := some 18) #[true, true, true, true, false, false, false, false, false, false, false, false, false, false, false] rfl rfl (one_of HT_.out (by kernel_rfl)) (by decide) (fun K hK => ?_)
          refine goes_ Tryd.func29 (by kernel_rfl) rfl #[.agg #[.int .i64 t244, .int .i64 t245, .string t246, .int .i64 t247, .int .i64 t248, .int .i64 t249, .int .i64 t250, .slice Ao10 t251.length co10, .int .i64 t254, .int .u32 t255], .agg #[.int .i64 t258, .int .i64 t259, .string t260, .int .i64 t261, .int .i64 t262, .int .i64 t263, .int .i64 t264, .string t265, .int .i64 t266, .int .u32 t267]] (by rfl) rfl rfl (by (try simp only [List.map_toArray, List.map_cons, List.map_nil]); first | done | rfl | (simp only [List.length_drop, List.length_take]; rfl)) ?_
          with_reducible refine (pyxlaw13_same.calls k t244 t245 t246 t247 t248 t249 t250 _ _ t251 t254 t255 t258 t259 t260 t261 t262 t263 t264 t265 t266 t267 true _ ?side1 ?side2 A12.out).mono ?_
          (case side1 => repeat (first | exact (Kd.R_reads' HO253.out).2.2 | (with_reducible refine Kd.C_alloc ?_ _) | (with_reducible refine Kd.C_drewN ?_ _) | (with_reducible refine Kd.C_drew ?_)))
          (case side2 => exact (Kd.R_reads' HO253.out).2.1)
          rintro e w22 ⟨rfl, hb⟩
          refine ⟨_, rfl, ?_⟩
          have n0_ := Aside0.mk (Kd.R_below (by (with_reducible repeat (first | apply Kd.R_alloc | apply Kd.R_drewN | apply Kd.R_drew)); exact HO253.out) hb)
          have n1_ := Aside0.mk (blk_below (g := gb257) (o := .cells #[.int .i64 t244, .int .i64 t245, .string t246, .int .i64 t247, .int .i64 t248, .int .i64 t249, .int .i64 t250, .slice Ao10 t251.length co10, .int .i64 t254, .int .u32 t255] 37 (0, 0)) (by (with_reducible repeat (first | refine blk_drewN ?_ _ | refine blk_drew ?_ | refine blk_alloc ?_ _)); exact BK257.out) hb)
          have n2_ := Aside0.mk (below_step (by repeat (first | (with_reducible first | exact HB.out | apply below_alloc | apply pw_below_drewN | apply below_drew1 | refine below_set ?_ GE257.out) | exact HB.out)) hb)
          clear HO253
          clear BK257
          clear HB
          have HO253 := n0_
          have BK257 := n1_
          have HB := n2_
          clear n0_ n1_ n2_
          (try clear hb)
          (try clear hb2)
          (try clear hk)
          (try clear hi)
          refine hK.out _ _ ⟨(blk_cell BK257.out 0).trans rfl, (blk_cell BK257.out 1).trans rfl, (blk_cell BK257.out 2).trans rfl, (blk_cell BK257.out 3).trans rfl, (blk_cell BK257.out 4).trans rfl, (blk_cell BK257.out 5).trans rfl, (blk_cell BK257.out 6).trans rfl, (blk_cell BK257.out 7).trans rfl, (blk_cell BK257.out 8).trans rfl, (blk_cell BK257.out 9).trans rfl⟩ (fun hHeld => ?_)
          clear hK K
          refine norm_ (a' := ?_) ?_ ?_
          rotate_left
          · show Act.put _ (some 18) _ = _
            simp only [Act.put, List.setIfInBounds_toArray, List.set_cons_zero, List.set_cons_succ, i64_w, i32_w]
            rfl
          refine pure_ (i := 4) (N := some 19) (v := ?_) (a' := ?_) #[true, true, true, true, true, false, false, false, false, false, false, false, false, false, false] rfl rfl (any_of HT_.out (by kernel_rfl)) (fun _ _ _ h => h) (Or.inl ⟨by rfl, ?_⟩) ?_ ?_
          rotate_left
          · intro w'
            go_simp
            with_reducible rfl
          rotate_left
          · simp only [Act.put, List.setIfInBounds_toArray, List.set_cons_zero, List.set_cons_succ, i64_w, i32_w]
            rfl
          refine pure_ (i := 5) (N := some 20) (v := ?_) (a' := ?_) #[true, true, true, true, true, true, false, false, false, false, false, false, false, false, false] rfl rfl (any_of HT_.out (by kernel_rfl)) (fun _ _ _ h => h) (Or.inl ⟨by rfl, ?_⟩) ?_ ?_
          rotate_left
          · intro w'
            go_simp
            with_reducible rfl
          rotate_left
          · simp only [Act.put, List.setIfInBounds_toArray, List.set_cons_zero, List.set_cons_succ, i64_w, i32_w]
            rfl
          refine pure_ (i := 6) (N := some 21) (v := ?_) (a' := ?_) #[true, true, true, true, true, true, true, false, false, false, false, false, false, false, false] rfl rfl (any_of HT_.out (by kernel_rfl)) (fun _ _ _ h => h) (Or.inl ⟨by rfl, ?_⟩) ?_ ?_
          rotate_left
          · intro w'
            go_simp
            with_reducible rfl
          rotate_left
          · simp only [Act.put, List.setIfInBounds_toArray, List.set_cons_zero, List.set_cons_succ, i64_w, i32_w]
            rfl
          refine pure_ (i := 7) (N := some 22) (v := ?_) (a' := ?_) #[true, true, true, true, true, true, true, true, false, false, false, false, false, false, false] rfl rfl (any_of HT_.out (by kernel_rfl)) (fun _ _ _ h => h) (Or.inl ⟨by rfl, ?_⟩) ?_ ?_
          rotate_left
          · intro w'
            go_simp
            with_reducible rfl
          rotate_left
          · simp only [Act.put, List.setIfInBounds_toArray, List.set_cons_zero, List.set_cons_succ, i64_w, i32_w]
            rfl
          refine pure_ (i := 8) (N := some 23) (v := ?_) (a' := ?_) #[true, true, true, true, true, true, true, true, true, false, false, false, false, false, false] rfl rfl (any_of HT_.out (by kernel_rfl)) (fun _ _ _ h => h) (Or.inl ⟨by rfl, ?_⟩) ?_ ?_
          rotate_left
          · intro w'
            go_simp
            with_reducible rfl
          rotate_left
          · simp only [Act.put, List.setIfInBounds_toArray, List.set_cons_zero, List.set_cons_succ, i64_w, i32_w]
            rfl
          refine pure_ (i := 9) (N := some 24) (v := ?_) (a' := ?_) #[true, true, true, true, true, true, true, true, true, true, false, false, false, false, false] rfl rfl (any_of HT_.out (by kernel_rfl)) (fun _ _ _ h => h) (Or.inl ⟨by rfl, ?_⟩) ?_ ?_
          rotate_left
          · intro w'
            go_simp
            with_reducible rfl
          rotate_left
          · simp only [Act.put, List.setIfInBounds_toArray, List.set_cons_zero, List.set_cons_succ, i64_w, i32_w]
            rfl
          refine pure_ (i := 10) (N := some 25) (v := undef) (a' := ?_) #[true, true, true, true, true, true, true, true, true, true, true, false, false, false, false] rfl rfl (any_of HT_.out (by kernel_rfl)) (fun _ _ _ h => h) (Or.inr ⟨by rfl, rfl⟩) ?_ ?_
          rotate_left
          · simp only [Act.put, List.setIfInBounds_toArray, List.set_cons_zero, List.set_cons_succ, i64_w, i32_w]
            rfl
          refine pure_ (i := 11) (N := some 26) (v := undef) (a' := ?_) #[true, true, true, true, true, true, true, true, true, true, true, true, false, false, false] rfl rfl (any_of HT_.out (by kernel_rfl)) (fun _ _ _ h => h) (Or.inr ⟨by rfl, rfl⟩) ?_ ?_
          rotate_left
          · simp only [Act.put, List.setIfInBounds_toArray, List.set_cons_zero, List.set_cons_succ, i64_w, i32_w]
            rfl
          refine pure_ (i := 12) (N := some 27) (v := ?_) (a' := ?_) #[true, true, true, true, true, true, true, true, true, true, true, true, true, false, false] rfl rfl (any_of HT_.out (by kernel_rfl)) (fun _ _ _ h => h) (Or.inl ⟨by rfl, ?_⟩) ?_ ?_
          rotate_left
          · intro w'
            go_simp
            with_reducible rfl
          rotate_left
          · simp only [Act.put, List.setIfInBounds_toArray, List.set_cons_zero, List.set_cons_succ, i64_w, i32_w]
            rfl
          refine pure_ (i := 13) (N := some 28) (v := ?_) (a' := ?_) #[true, true, true, true, true, true, true, true, true, true, true, true, true, true, false] rfl rfl (any_of HT_.out (by kernel_rfl)) (fun _ _ _ h => h) (Or.inl ⟨by rfl, ?_⟩) ?_ ?_
          rotate_left
          · intro w'
            go_simp
            with_reducible rfl
          rotate_left
          · simp only [Act.put, List.setIfInBounds_toArray, List.set_cons_zero, List.set_cons_succ, i64_w, i32_w]
            rfl
          refine pure_ (i := 14) (N := some 29) (v := ?_) (a' := ?_) #[true, true, true, true, true, true, true, true, true, true, true, true, true, true, true] rfl rfl (any_of HT_.out (by kernel_rfl)) (fun _ _ _ h => h) (Or.inl ⟨by rfl, ?_⟩) ?_ ?_
          rotate_left
          · intro w'
            go_simp
            with_reducible rfl
          rotate_left
          · simp only [Act.put, List.setIfInBounds_toArray, List.set_cons_zero, List.set_cons_succ, i64_w, i32_w]
            rfl
          refine done_ (done_of HT_.out (by kernel_rfl)) ?_
          try go_wp2
          go_meet
          case rel => exact ⟨_, ((t256 != false)), (by first | rfl | (simp; done) | (simp [*]; done)), H', ⟨by first | omega | exact Nat.le_refl _⟩, ⟨by (with_reducible repeat (first | apply Kd.R_alloc | apply Kd.R_drewN | apply Kd.R_drew)); exact HO253.out⟩, ⟨by (with_reducible repeat (first | refine blk_drewN ?_ _ | refine blk_drew ?_ | refine blk_alloc ?_ _)); exact BK257.out⟩, ⟨by repeat (first | (with_reducible first | exact HB.out | apply below_alloc | apply pw_below_drewN | apply below_drew1 | refine below_set ?_ GE257.out) | exact HB.out)⟩⟩
      · replace c13 := Bool.eq_false_iff.mpr c13
        subst c13
        have H1 : (pyxlaw13_ParamsMatchesReference.j0 k a0 true t244 t245 t246 t247 t248 t249 t250 t251 t254 t255) = some r := by rw [if_neg (show ¬ (false = true) by decide)] at H; exact H
        clear H
        have H := H1
        clear H1
        have H' := Aside0.mk H
        clear H
        try go_wp2
        have n0_ : Aside0 (Kd.R (Kd.int .u32) 33 ((((((((((w8.setCell ⟨gb257, 0, none⟩ (.int .i64 t244)).setCell ⟨gb257, 1, none⟩ (.int .i64 t245)).setCell ⟨gb257, 2, none⟩ (.string t246)).setCell ⟨gb257, 3, none⟩ (.int .i64 t247)).setCell ⟨gb257, 4, none⟩ (.int .i64 t248)).setCell ⟨gb257, 5, none⟩ (.int .i64 t249)).setCell ⟨gb257, 6, none⟩ (.int .i64 t250)).setCell ⟨gb257, 7, none⟩ (.slice Ao10 t251.length co10)).setCell ⟨gb257, 8, none⟩ (.int .i64 t254)).setCell ⟨gb257, 9, none⟩ (.int .u32 t255)) w.heap.size (fun _ => True) (.slice Ao10 t251.length co10) t251) := ⟨by (with_reducible repeat (first | apply Kd.R_alloc | apply Kd.R_drewN | apply Kd.R_drew)); exact Kd.R_mono (Kd.R_far (p := ⟨gb257, 9, none⟩) (Kd.R_far (p := ⟨gb257, 8, none⟩) (Kd.R_far (p := ⟨gb257, 7, none⟩) (Kd.R_far (p := ⟨gb257, 6, none⟩) (Kd.R_far (p := ⟨gb257, 5, none⟩) (Kd.R_far (p := ⟨gb257, 4, none⟩) (Kd.R_far (p := ⟨gb257, 3, none⟩) (Kd.R_far (p := ⟨gb257, 2, none⟩) (Kd.R_far (p := ⟨gb257, 1, none⟩) (Kd.R_far (p := ⟨gb257, 0, none⟩) (Kd.R_types HO253.out BK257.out (by decide)) (fun _ hk => hk.2) (.int .i64 t244)) (fun _ hk => hk.2) (.int .i64 t245)) (fun _ hk => hk.2) (.string t246)) (fun _ hk => hk.2) (.int .i64 t247)) (fun _ hk => hk.2) (.int .i64 t248)) (fun _ hk => hk.2) (.int .i64 t249)) (fun _ hk => hk.2) (.int .i64 t250)) (fun _ hk => hk.2) (.slice Ao10 t251.length co10)) (fun _ hk => hk.2) (.int .i64 t254)) (fun _ hk => hk.2) (.int .u32 t255)) (fun _ hk => trivial)⟩
        have n1_ : Aside0 (((((((((((w8.setCell ⟨gb257, 0, none⟩ (.int .i64 t244)).setCell ⟨gb257, 1, none⟩ (.int .i64 t245)).setCell ⟨gb257, 2, none⟩ (.string t246)).setCell ⟨gb257, 3, none⟩ (.int .i64 t247)).setCell ⟨gb257, 4, none⟩ (.int .i64 t248)).setCell ⟨gb257, 5, none⟩ (.int .i64 t249)).setCell ⟨gb257, 6, none⟩ (.int .i64 t250)).setCell ⟨gb257, 7, none⟩ (.slice Ao10 t251.length co10)).setCell ⟨gb257, 8, none⟩ (.int .i64 t254)).setCell ⟨gb257, 9, none⟩ (.int .u32 t255)).heap[gb257]? = some (.cells #[.int .i64 t244, .int .i64 t245, .string t246, .int .i64 t247, .int .i64 t248, .int .i64 t249, .int .i64 t250, .slice Ao10 t251.length co10, .int .i64 t254, .int .u32 t255] 37 (0, 0))) := ⟨by (with_reducible repeat (first | refine blk_drewN ?_ _ | refine blk_drew ?_ | refine blk_alloc ?_ _)); refine blk_put (cs := #[.int .i64 t244, .int .i64 t245, .string t246, .int .i64 t247, .int .i64 t248, .int .i64 t249, .int .i64 t250, .slice Ao10 t251.length co10, .int .i64 t254, .int .u32 0]) ?_ 9 _ rfl; (with_reducible repeat (first | refine blk_drewN ?_ _ | refine blk_drew ?_ | refine blk_alloc ?_ _)); refine blk_put (cs := #[.int .i64 t244, .int .i64 t245, .string t246, .int .i64 t247, .int .i64 t248, .int .i64 t249, .int .i64 t250, .slice Ao10 t251.length co10, .int .i64 0, .int .u32 0]) ?_ 8 _ rfl; (with_reducible repeat (first | refine blk_drewN ?_ _ | refine blk_drew ?_ | refine blk_alloc ?_ _)); refine blk_put (cs := #[.int .i64 t244, .int .i64 t245, .string t246, .int .i64 t247, .int .i64 t248, .int .i64 t249, .int .i64 t250, .slice none 0 0, .int .i64 0, .int .u32 0]) ?_ 7 _ rfl; (with_reducible repeat (first | refine blk_drewN ?_ _ | refine blk_drew ?_ | refine blk_alloc ?_ _)); refine blk_put (cs := #[.int .i64 t244, .int .i64 t245, .string t246, .int .i64 t247, .int .i64 t248, .int .i64 t249, .int .i64 0, .slice none 0 0, .int .i64 0, .int .u32 0]) ?_ 6 _ rfl; (with_reducible repeat (first | refine blk_drewN ?_ _ | refine blk_drew ?_ | refine blk_alloc ?_ _)); refine blk_put (cs := #[.int .i64 t244, .int .i64 t245, .string t246, .int .i64 t247, .int .i64 t248, .int .i64 0, .int .i64 0, .slice none 0 0, .int .i64 0, .int .u32 0]) ?_ 5 _ rfl; (with_reducible repeat (first | refine blk_drewN ?_ _ | refine blk_drew ?_ | refine blk_alloc ?_ _)); refine blk_put (cs := #[.int .i64 t244, .int .i64 t245, .string t246, .int .i64 t247, .int .i64 0, .int .i64 0, .int .i64 0, .slice none 0 0, .int .i64 0, .int .u32 0]) ?_ 4 _ rfl; (with_reducible repeat (first | refine blk_drewN ?_ _ | refine blk_drew ?_ | refine blk_alloc ?_ _)); refine blk_put (cs := #[.int .i64 t244, .int .i64 t245, .string t246, .int .i64 0, .int .i64 0, .int .i64 0, .int .i64 0, .slice none 0 0, .int .i64 0, .int .u32 0]) ?_ 3 _ rfl; (with_reducible repeat (first | refine blk_drewN ?_ _ | refine blk_drew ?_ | refine blk_alloc ?_ _)); refine blk_put (cs := #[.int .i64 t244, .int .i64 t245, .string (⟨#[]⟩ : ByteArray), .int .i64 0, .int .i64 0, .int .i64 0, .int .i64 0, .slice none 0 0, .int .i64 0, .int .u32 0]) ?_ 2 _ rfl; (with_reducible repeat (first | refine blk_drewN ?_ _ | refine blk_drew ?_ | refine blk_alloc ?_ _)); refine blk_put (cs := #[.int .i64 t244, .int .i64 0, .string (⟨#[]⟩ : ByteArray), .int .i64 0, .int .i64 0, .int .i64 0, .int .i64 0, .slice none 0 0, .int .i64 0, .int .u32 0]) ?_ 1 _ rfl; (with_reducible repeat (first | refine blk_drewN ?_ _ | refine blk_drew ?_ | refine blk_alloc ?_ _)); refine blk_put (cs := #[.int .i64 0, .int .i64 0, .string (⟨#[]⟩ : ByteArray), .int .i64 0, .int .i64 0, .int .i64 0, .int .i64 0, .slice none 0 0, .int .i64 0, .int .u32 0]) ?_ 0 _ rfl; (with_reducible repeat (first | refine blk_drewN ?_ _ | refine blk_drew ?_ | refine blk_alloc ?_ _)); exact BK257.out⟩
        have n2_ : Aside0 (Below w.heap.size w ((((((((((w8.setCell ⟨gb257, 0, none⟩ (.int .i64 t244)).setCell ⟨gb257, 1, none⟩ (.int .i64 t245)).setCell ⟨gb257, 2, none⟩ (.string t246)).setCell ⟨gb257, 3, none⟩ (.int .i64 t247)).setCell ⟨gb257, 4, none⟩ (.int .i64 t248)).setCell ⟨gb257, 5, none⟩ (.int .i64 t249)).setCell ⟨gb257, 6, none⟩ (.int .i64 t250)).setCell ⟨gb257, 7, none⟩ (.slice Ao10 t251.length co10)).setCell ⟨gb257, 8, none⟩ (.int .i64 t254)).setCell ⟨gb257, 9, none⟩ (.int .u32 t255))) := ⟨by repeat (first | (with_reducible first | exact HB.out | apply below_alloc | apply pw_below_drewN | apply below_drew1 | refine below_set ?_ GE257.out) | exact HB.out)⟩
        (try clear HO253)
        (try clear BK257)
        (try clear HB)
        generalize ((((((((((w8.setCell ⟨gb257, 0, none⟩ (.int .i64 t244)).setCell ⟨gb257, 1, none⟩ (.int .i64 t245)).setCell ⟨gb257, 2, none⟩ (.string t246)).setCell ⟨gb257, 3, none⟩ (.int .i64 t247)).setCell ⟨gb257, 4, none⟩ (.int .i64 t248)).setCell ⟨gb257, 5, none⟩ (.int .i64 t249)).setCell ⟨gb257, 6, none⟩ (.int .i64 t250)).setCell ⟨gb257, 7, none⟩ (.slice Ao10 t251.length co10)).setCell ⟨gb257, 8, none⟩ (.int .i64 t254)).setCell ⟨gb257, 9, none⟩ (.int .u32 t255)) = w23 at n0_ n1_ n2_ ⊢
        have HO253 := n0_
        have BK257 := n1_
        have HB := n2_
        clear n0_ n1_ n2_
        have n0_ := Aside0.mk (Kd.R_drew HO253.out)
        have n1_ := Aside0.mk (blk_drew BK257.out)
        have n2_ := Aside0.mk (below_drew1 HB.out)
        clear HO253
        clear BK257
        clear HB
        have HO253 := n0_
        have BK257 := n1_
        have HB := n2_
        clear n0_ n1_ n2_
        refine start_ (n := 15) (S := fun w' => w'.cell? ⟨gb257, 0, none⟩ = some (.int .i64 t244) ∧ w'.cell? ⟨gb257, 1, none⟩ = some (.int .i64 t245) ∧ w'.cell? ⟨gb257, 2, none⟩ = some (.string t246) ∧ w'.cell? ⟨gb257, 3, none⟩ = some (.int .i64 t247) ∧ w'.cell? ⟨gb257, 4, none⟩ = some (.int .i64 t248) ∧ w'.cell? ⟨gb257, 5, none⟩ = some (.int .i64 t249) ∧ w'.cell? ⟨gb257, 6, none⟩ = some (.int .i64 t250) ∧ w'.cell? ⟨gb257, 7, none⟩ = some (.slice Ao10 t251.length co10) ∧ w'.cell? ⟨gb257, 8, none⟩ = some (.int .i64 t254) ∧ w'.cell? ⟨gb257, 9, none⟩ = some (.int .u32 t255)) (ds := []) #[false, false, false, false, false, false, false, false, false, false, false, false, false, false, false] (by kernel_rfl) rfl rfl ⟨(blk_cell BK257.out 0).trans rfl, (blk_cell BK257.out 1).trans rfl, (blk_cell BK257.out 2).trans rfl, (blk_cell BK257.out 3).trans rfl, (blk_cell BK257.out 4).trans rfl, (blk_cell BK257.out 5).trans rfl, (blk_cell BK257.out 6).trans rfl, (blk_cell BK257.out 7).trans rfl, (blk_cell BK257.out 8).trans rfl, (blk_cell BK257.out 9).trans rfl⟩ (fun hHeld => ?_); refine with_tabW pyxlaw13_ParamsMatchesReference.tab4 pyxlaw13_ParamsMatchesReference.bits4 (fun HT_ HW_ => ?_)
        generalize w23.drew = w24 at HO253 BK257 HB hHeld ⊢
        refine pure_ (i := 1) (N := some 16) (v := ?_) (a' := ?_) #[false, true, false, false, false, false, false, false, false, false, false, false, false, false, false] rfl rfl (any_of HT_.out (by kernel_rfl)) (fun _ _ _ h => h) (Or.inl ⟨by rfl, ?_⟩) ?_ ?_
        rotate_left
        · intro w'
          go_simp
          with_reducible rfl
        rotate_left
        · simp only [Act.put, List.setIfInBounds_toArray, List.set_cons_zero, List.set_cons_succ, i64_w, i32_w]
          rfl
        refine take_ (i := 0) (N := some 15) (v := ?_) (a' := ?_) #[true, true, false, false, false, false, false, false, false, false, false, false, false, false, false] rfl rfl (take_ofW HT_.out HW_.out (by kernel_rfl)) (fun _ _ _ h => h) (Or.inl ⟨by rfl, ?_⟩) hHeld ?_ ?_
        rotate_left
        · rintro w' ⟨s0, s1, s2, s3, s4, s5, s6, s7, s8, s9⟩
          go_simp
          with_reducible rfl
        rotate_left
        · simp only [Act.put, List.setIfInBounds_toArray, List.set_cons_zero, List.set_cons_succ, i64_w, i32_w]
          rfl
        refine one_ (i := 2) (N := some 17) #[true, true, true, false, false, false, false, false, false, false, false, false, false, false, false] rfl rfl (one_of HT_.out (by kernel_rfl)) (by decide) (fun K hK => ?_)
        refine goes_ Tryd.func30 (by kernel_rfl) rfl #[.int .i64 a0] (by rfl) rfl rfl (by (try simp only [List.map_toArray, List.map_cons, List.map_nil]); first | done | rfl | (simp only [List.length_drop, List.length_take]; rfl)) ?_
        with_reducible refine (pyxref13_Get.calls a0 t258 t259 t260 t261 t262 t263 t264 t265 t266 t267 _ A11.out).mono ?_
        rintro e w25 ⟨rfl, hb⟩
        refine ⟨_, rfl, ?_⟩
        have n0_ := Aside0.mk (Kd.R_below (by (with_reducible repeat (first | apply Kd.R_alloc | apply Kd.R_drewN | apply Kd.R_drew)); exact HO253.out) hb)
        have n1_ := Aside0.mk (blk_below (g := gb257) (o := .cells #[.int .i64 t244, .int .i64 t245, .string t246, .int .i64 t247, .int .i64 t248, .int .i64 t249, .int .i64 t250, .slice Ao10 t251.length co10, .int .i64 t254, .int .u32 t255] 37 (0, 0)) (by (with_reducible repeat (first | refine blk_drewN ?_ _ | refine blk_drew ?_ | refine blk_alloc ?_ _)); exact BK257.out) hb)
        have n2_ := Aside0.mk (below_step (by repeat (first | (with_reducible first | exact HB.out | apply below_alloc | apply pw_below_drewN | apply below_drew1 | refine below_set ?_ GE257.out) | exact HB.out | exact Below.refl _ _)) hb)
        clear HO253
        clear BK257
        clear HB
        have HO253 := n0_
        have BK257 := n1_
        have HB := n2_
        clear n0_ n1_ n2_
        (try clear hb)
        (try clear hb2)
        (try clear hk)
        (try clear hi)
        refine hK.out _ _ ⟨(blk_cell BK257.out 0).trans rfl, (blk_cell BK257.out 1).trans rfl, (blk_cell BK257.out 2).trans rfl, (blk_cell BK257.out 3).trans rfl, (blk_cell BK257.out 4).trans rfl, (blk_cell BK257.out 5).trans rfl, (blk_cell BK257.out 6).trans rfl, (blk_cell BK257.out 7).trans rfl, (blk_cell BK257.out 8).trans rfl, (blk_cell BK257.out 9).trans rfl⟩ (fun hHeld => ?_)
        clear hK K
        refine norm_ (a' := ?_) ?_ ?_
        rotate_left
        · show Act.put _ (some 17) _ = _
          simp only [Act.put, List.setIfInBounds_toArray, List.set_cons_zero, List.set_cons_succ, i64_w, i32_w]
          rfl
        refine one_ (i := 3) (N := some 18) #[true, true, true, true, false, false, false, false, false, false, false, false, false, false, false] rfl rfl (one_of HT_.out (by kernel_rfl)) (by decide) (fun K hK => ?_)
        refine goes_ Tryd.func29 (by kernel_rfl) rfl #[.agg #[.int .i64 t244, .int .i64 t245, .string t246, .int .i64 t247, .int .i64 t248, .int .i64 t249, .int .i64 t250, .slice Ao10 t251.length co10, .int .i64 t254, .int .u32 t255], .agg #[.int .i64 t258, .int .i64 t259, .string t260, .int .i64 t261, .int .i64 t262, .int .i64 t263, .int .i64 t264, .string t265, .int .i64 t266, .int .u32 t267]] (by rfl) rfl rfl (by (try simp only [List.map_toArray, List.map_cons, List.map_nil]); first | done | rfl | (simp only [List.length_drop, List.length_take]; rfl)) ?_
        with_reducible refine (pyxlaw13_same.calls k t244 t245 t246 t247 t248 t249 t250 _ _ t251 t254 t255 t258 t259 t260 t261 t262 t263 t264 t265 t266 t267 false _ ?side1 ?side2 A12.out).mono ?_
        (case side1 => repeat (first | exact (Kd.R_reads' HO253.out).2.2 | (with_reducible refine Kd.C_alloc ?_ _) | (with_reducible refine Kd.C_drewN ?_ _) | (with_reducible refine Kd.C_drew ?_)))
        (case side2 => exact (Kd.R_reads' HO253.out).2.1)
        rintro e w26 ⟨rfl, hb⟩
        refine ⟨_, rfl, ?_⟩
        have n0_ := Aside0.mk (Kd.R_below (by (with_reducible repeat (first | apply Kd.R_alloc | apply Kd.R_drewN | apply Kd.R_drew)); exact HO253.out) hb)
        have n1_ := Aside0.mk (blk_below (g := gb257) (o := .cells #[.int .i64 t244, .int .i64 t245, .string t246, .int .i64 t247, .int .i64 t248, .int .i64 t249, .int .i64 t250, .slice Ao10 t251.length co10, .int .i64 t254, .int .u32 t255] 37 (0, 0)) (by (with_reducible repeat (first | refine blk_drewN ?_ _ | refine blk_drew ?_ | refine blk_alloc ?_ _)); exact BK257.out) hb)
        have n2_ := Aside0.mk (below_step (by repeat (first | (with_reducible first | exact HB.out | apply below_alloc | apply pw_below_drewN | apply below_drew1 | refine below_set ?_ GE257.out) | exact HB.out)) hb)
        clear HO253
        clear BK257
        clear HB
        have HO253 := n0_
        have BK257 := n1_
        have HB := n2_
        clear n0_ n1_ n2_
        (try clear hb)
        (try clear hb2)
        (try clear hk)
        (try clear hi)
        refine hK.out _ _ ⟨(blk_cell BK257.out 0).trans rfl, (blk_cell BK257.out 1).trans rfl, (blk_cell BK257.out 2).trans rfl, (blk_cell BK257.out 3).trans rfl, (blk_cell BK257.out 4).trans rfl, (blk_cell BK257.out 5).trans rfl, (blk_cell BK257.out 6).trans rfl, (blk_cell BK257.out 7).trans rfl, (blk_cell BK257.out 8).trans rfl, (blk_cell BK257.out 9).trans rfl⟩ (fun hHeld => ?_)
        clear hK K
        refine norm_ (a' := ?_) ?_ ?_
        rotate_left
        · show Act.put _ (some 18) _ = _
          simp only [Act.put, List.setIfInBounds_toArray, List.set_cons_zero, List.set_cons_succ, i64_w, i32_w]
          rfl
        refine pure_ (i := 4) (N := some 19) (v := ?_) (a' := ?_) #[true, true, true, true, true, false, false, false, false, false, false, false, false, false, false] rfl rfl (any_of HT_.out (by kernel_rfl)) (fun _ _ _ h => h) (Or.inl ⟨by rfl, ?_⟩) ?_ ?_
        rotate_left
        · intro w'
          go_simp
          with_reducible rfl
        rotate_left
        · simp only [Act.put, List.setIfInBounds_toArray, List.set_cons_zero, List.set_cons_succ, i64_w, i32_w]
          rfl
        refine pure_ (i := 5) (N := some 20) (v := ?_) (a' := ?_) #[true, true, true, true, true, true, false, false, false, false, false, false, false, false, false] rfl rfl (any_of HT_.out (by kernel_rfl)) (fun _ _ _ h => h) (Or.inl ⟨by rfl, ?_⟩) ?_ ?_
        rotate_left
        · intro w'
          go_simp
          with_reducible rfl
        rotate_left
        · simp only [Act.put, List.setIfInBounds_toArray, List.set_cons_zero, List.set_cons_succ, i64_w, i32_w]
          rfl
        refine pure_ (i := 6) (N := some 21) (v := undef) (a' := ?_) #[true, true, true, true, true, true, true, false, false, false, false, false, false, false, false] rfl rfl (any_of HT_.out (by kernel_rfl)) (fun _ _ _ h => h) (Or.inr ⟨by rfl, rfl⟩) ?_ ?_
        rotate_left
        · simp only [Act.put, List.setIfInBounds_toArray, List.set_cons_zero, List.set_cons_succ, i64_w, i32_w]
          rfl
        refine pure_ (i := 7) (N := some 22) (v := undef) (a' := ?_) #[true, true, true, true, true, true, true, true, false, false, false, false, false, false, false] rfl rfl (any_of HT_.out (by kernel_rfl)) (fun _ _ _ h => h) (Or.inr ⟨by rfl, rfl⟩) ?_ ?_
        rotate_left
        · simp only [Act.put, List.setIfInBounds_toArray, List.set_cons_zero, List.set_cons_succ, i64_w, i32_w]
          rfl
        refine pure_ (i := 8) (N := some 23) (v := undef) (a' := ?_) #[true, true, true, true, true, true, true, true, true, false, false, false, false, false, false] rfl rfl (any_of HT_.out (by kernel_rfl)) (fun _ _ _ h => h) (Or.inr ⟨by rfl, rfl⟩) ?_ ?_
        rotate_left
        · simp only [Act.put, List.setIfInBounds_toArray, List.set_cons_zero, List.set_cons_succ, i64_w, i32_w]
          rfl
        refine pure_ (i := 9) (N := some 24) (v := undef) (a' := ?_) #[true, true, true, true, true, true, true, true, true, true, false, false, false, false, false] rfl rfl (any_of HT_.out (by kernel_rfl)) (fun _ _ _ h => h) (Or.inr ⟨by rfl, rfl⟩) ?_ ?_
        rotate_left
        · simp only [Act.put, List.setIfInBounds_toArray, List.set_cons_zero, List.set_cons_succ, i64_w, i32_w]
          rfl
        refine pure_ (i := 10) (N := some 25) (v := undef) (a' := ?_) #[true, true, true, true, true, true, true, true, true, true, true, false, false, false, false] rfl rfl (any_of HT_.out (by kernel_rfl)) (fun _ _ _ h => h) (Or.inr ⟨by rfl, rfl⟩) ?_ ?_
        rotate_left
        · simp only [Act.put, List.setIfInBounds_toArray, List.set_cons_zero, List.set_cons_succ, i64_w, i32_w]
          rfl
        refine pure_ (i := 11) (N := some 26) (v := undef) (a' := ?_) #[true, true, true, true, true, true, true, true, true, true, true, true, false, false, false] rfl rfl (any_of HT_.out (by kernel_rfl)) (fun _ _ _ h => h) (Or.inr ⟨by rfl, rfl⟩) ?_ ?_
        rotate_left
        · simp only [Act.put, List.setIfInBounds_toArray, List.set_cons_zero, List.set_cons_succ, i64_w, i32_w]
          rfl
        refine pure_ (i := 12) (N := some 27) (v := undef) (a' := ?_) #[true, true, true, true, true, true, true, true, true, true, true, true, true, false, false] rfl rfl (any_of HT_.out (by kernel_rfl)) (fun _ _ _ h => h) (Or.inr ⟨by rfl, rfl⟩) ?_ ?_
        rotate_left
        · simp only [Act.put, List.setIfInBounds_toArray, List.set_cons_zero, List.set_cons_succ, i64_w, i32_w]
          rfl
        refine pure_ (i := 13) (N := some 28) (v := undef) (a' := ?_) #[true, true, true, true, true, true, true, true, true, true, true, true, true, true, false] rfl rfl (any_of HT_.out (by kernel_rfl)) (fun _ _ _ h => h) (Or.inr ⟨by rfl, rfl⟩) ?_ ?_
        rotate_left
        · simp only [Act.put, List.setIfInBounds_toArray, List.set_cons_zero, List.set_cons_succ, i64_w, i32_w]
          rfl
        refine pure_ (i := 14) (N := some 29) (v := ?_) (a' := ?_) #[true, true, true, true, true, true, true, true, true, true, true, true, true, true, true] rfl rfl (any_of HT_.out (by kernel_rfl)) (fun _ _ _ h => h) (Or.inl ⟨by rfl, ?_⟩) ?_ ?_
        rotate_left
        · intro w'
          go_simp
          with_reducible rfl
        rotate_left
        · simp only [Act.put, List.setIfInBounds_toArray, List.set_cons_zero, List.set_cons_succ, i64_w, i32_w]
          rfl
        refine done_ (done_of HT_.out (by kernel_rfl)) ?_
        try go_wp2
        go_meet
        case rel => exact ⟨_, (true), (by first | rfl | (simp; done) | (simp [*]; done)), H', ⟨by first | omega | exact Nat.le_refl _⟩, ⟨by (with_reducible repeat (first | apply Kd.R_alloc | apply Kd.R_drewN | apply Kd.R_drew)); exact HO253.out⟩, ⟨by (with_reducible repeat (first | refine blk_drewN ?_ _ | refine blk_drew ?_ | refine blk_alloc ?_ _)); exact BK257.out⟩, ⟨by repeat (first | (with_reducible first | exact HB.out | apply below_alloc | apply pw_below_drewN | apply below_drew1 | refine below_set ?_ GE257.out) | exact HB.out)⟩⟩
    case rest =>
      clear HC5
      try clear c1
      try clear c2
      try clear p2
      try clear c3
      try clear c8
      try clear c13
      try clear c14
      try clear c14b0
      try clear hcz9_0
      try clear hcz9_1
      try clear hcz9_2
      try clear hcz9_3
      try clear hcz9_4
      try clear hcz9_5
      try clear hcz9_6
      try clear hcz9_7
      try clear hcz9_8
      try clear hcz9_9
      try clear hfz9_0
      try clear hfz9_1
      try clear hfz9_2
      try clear hfz9_3
      try clear hfz9_4
      try clear hfz9_5
      try clear hfz9_6
      try clear hfz9_7
      try clear hfz9_8
      try clear hfz9_9
      obtain ⟨kq, x29_4, rfl, HA, HJ4, HO_258007, BK257, HB⟩ := hcut
      cases kq with
      | zero => exact absurd HA.out (by simp [pyxlaw13_ParamsMatchesReference.j0])
      | succ kj4 =>
        have H := HA.out
        clear HA
        simp only [pyxlaw13_ParamsMatchesReference.j0] at H
        by_cases c27 : x29_4 = true
        · subst c27
          have H1 : (some false) = some r := by rw [if_pos rfl] at H; exact H
          clear H
          have H := H1
          clear H1
          exact absurd ((Option.some.inj H).trans HT.out) (by decide)
        · replace c27 := Bool.eq_false_iff.mpr c27
          subst c27
          have H1 : (pyxlaw13_ParamsMatchesReference.l0 kj4 a0 0 t244 t245 t246 t247 t248 t249 t250 t251 t254 t255) = some r := by rw [if_neg (show ¬ (false = true) by decide)] at H; exact H
          clear H
          have H := H1
          clear H1
          have H' := Aside0.mk H
          clear H
          go_wp2
          go_loopg [5] kj4 (fun kq v5 w' => ∃ (x5_2 : Int) (x258007_2 : List Int) (u258007 : Value), v5 = .int .i64 x5_2 ∧ Aside0 (pyxlaw13_ParamsMatchesReference.l0 kq a0 x5_2 t244 t245 t246 t247 t248 t249 t250 x258007_2 t254 t255 = some r) ∧ Aside0 (kq ≤ kj4) ∧ Aside0 (Kd.R (Kd.int .u32) 33 w' w.heap.size (fun _ => True) u258007 x258007_2) ∧ Aside0 (w'.heap[gb257]? = some (.cells #[.int .i64 t244, .int .i64 t245, .string t246, .int .i64 t247, .int .i64 t248, .int .i64 t249, .int .i64 t250, u258007, .int .i64 t254, .int .u32 t255] 37 (0, 0))) ∧ Aside0 (Below w.heap.size w w'))
          case atStart => exact ⟨(0), (t251), (.slice Ao10 t251.length co10), (by first | rfl | (simp; done) | (simp [*]; done)), H', ⟨Nat.le_refl _⟩, ⟨by (with_reducible repeat (first | apply Kd.R_alloc | apply Kd.R_drewN | apply Kd.R_drew)); exact HO_258007.out⟩, ⟨by (with_reducible repeat (first | refine blk_drewN ?_ _ | refine blk_drew ?_ | refine blk_alloc ?_ _)); exact BK257.out⟩, ⟨by repeat (first | (with_reducible first | exact HB.out | apply below_alloc | apply pw_below_drewN | apply below_drew1 | refine below_set ?_ GE257.out) | exact HB.out)⟩⟩
          case round =>
            clear H'
            try clear c1
            try clear c2
            try clear p2
            try clear c3
            try clear c8
            try clear c13
            try clear c14
            try clear c14b0
            try clear c27
            try clear hcz9_0
            try clear hcz9_1
            try clear hcz9_2
            try clear hcz9_3
            try clear hcz9_4
            try clear hcz9_5
            try clear hcz9_6
            try clear hcz9_7
            try clear hcz9_8
            try clear hcz9_9
            try clear hfz9_0
            try clear hfz9_1
            try clear hfz9_2
            try clear hfz9_3
            try clear hfz9_4
            try clear hfz9_5
            try clear hfz9_6
            try clear hfz9_7
            try clear hfz9_8
            try clear hfz9_9
            try clear p2
            obtain ⟨x5_2, x258007_2, u258007, rfl, HA, HK2, HO_258007, BK257, HB⟩ := hrel
            cases gk with
            | zero => exact absurd HA.out (by simp [pyxlaw13_ParamsMatchesReference.l0])
            | succ k2 =>
              have H := HA.out
              clear HA
              simp only [pyxlaw13_ParamsMatchesReference.l0] at H
              by_cases c28 : x5_2 < (x258007_2.length : Int)
              · rw [if_pos c28] at H
                have c28b0 : decide (x5_2 < (x258007_2.length : Int)) = true := decide_eq_true c28
                clear c28
                by_cases c29 : 0 ≤ x5_2
                · rw [if_pos c29] at H
                  have c29b0 : decide (0 ≤ x5_2) = true := decide_eq_true c29
                  clear c29
                  obtain ⟨y270, hy270⟩ : ∃ y_ : List Int, y_ = (x258007_2.set (x5_2 : Int).toNat (((rd x258007_2 x5_2) + 1) % 4294967296)) := ⟨_, rfl⟩
                  replace H : (pyxlaw13_ParamsMatchesReference.l0 k2 a0 (wrap64 (x5_2 + 1)) t244 t245 t246 t247 t248 t249 t250 y270 t254 t255) = some r := by first | (rw [hy270]; with_reducible exact H) | (have H2_ := (Option.bind_some _ _).symm.trans H; rw [hy270]; with_reducible exact H2_) | (have H2_ := (Option.bind_some _ _).symm.trans H; with_reducible exact H2_) | with_reducible exact H | (rw [hy270]; exact H) | exact H
                  have Ny270 := Aside0.mk hy270
                  clear hy270
                  have H' := Aside0.mk H
                  clear H
                  have hcz31_0 : wr.cell? ⟨gb257, 0, none⟩ = some (.int .i64 t244) := (blk_cell BK257.out 0).trans rfl
                  have hcz31_1 : wr.cell? ⟨gb257, 1, none⟩ = some (.int .i64 t245) := (blk_cell BK257.out 1).trans rfl
                  have hcz31_2 : wr.cell? ⟨gb257, 2, none⟩ = some (.string t246) := (blk_cell BK257.out 2).trans rfl
                  have hcz31_3 : wr.cell? ⟨gb257, 3, none⟩ = some (.int .i64 t247) := (blk_cell BK257.out 3).trans rfl
                  have hcz31_4 : wr.cell? ⟨gb257, 4, none⟩ = some (.int .i64 t248) := (blk_cell BK257.out 4).trans rfl
                  have hcz31_5 : wr.cell? ⟨gb257, 5, none⟩ = some (.int .i64 t249) := (blk_cell BK257.out 5).trans rfl
                  have hcz31_6 : wr.cell? ⟨gb257, 6, none⟩ = some (.int .i64 t250) := (blk_cell BK257.out 6).trans rfl
                  have hcz31_7 : wr.cell? ⟨gb257, 7, none⟩ = some (u258007) := (blk_cell BK257.out 7).trans rfl
                  have hcz31_8 : wr.cell? ⟨gb257, 8, none⟩ = some (.int .i64 t254) := (blk_cell BK257.out 8).trans rfl
                  have hcz31_9 : wr.cell? ⟨gb257, 9, none⟩ = some (.int .u32 t255) := (blk_cell BK257.out 9).trans rfl
                  have hfz31_0 := blk_frozen BK257.out 0
                  have hfz31_1 := blk_frozen BK257.out 1
                  have hfz31_2 := blk_frozen BK257.out 2
                  have hfz31_3 := blk_frozen BK257.out 3
                  have hfz31_4 := blk_frozen BK257.out 4
                  have hfz31_5 := blk_frozen BK257.out 5
                  have hfz31_6 := blk_frozen BK257.out 6
                  have hfz31_7 := blk_frozen BK257.out 7
                  have hfz31_8 := blk_frozen BK257.out 8
                  have hfz31_9 := blk_frozen BK257.out 9
                  obtain ⟨Ao32, co32, eo32⟩ := Kd.R_slice HO_258007.out
                  subst eo32
                  have p269 : 0 ≤ (x5_2 : Int) := of_decide_eq_true (by first | (with_reducible assumption) | assumption)
                  have q269 : x5_2 < (x258007_2.length : Int) := of_decide_eq_true (by first | (with_reducible assumption) | assumption)
                  obtain ⟨ad269, e269, hx269_0⟩ := Kd.at_int (Kd.R_reads' HO_258007.out).2.2 x5_2 p269 q269
                  cases e269
                  replace p269 := eq_true p269
                  replace q269 := eq_true q269
                  have p30 : 0 ≤ (x5_2 : Int) := of_decide_eq_true (by first | (with_reducible assumption) | assumption)
                  have q30 : (x5_2 : Int) < ((x258007_2.length : Int) : Int) := of_decide_eq_true (by first | (with_reducible assumption) | assumption)
                  obtain ⟨go30, co30, eo30, gb30, gl30, cl30, HG30⟩ := Kd.R_form HO_258007.out (by omega)
                  (first | cases eo30 | (injection eo30 with ea_ en_ ec_; (first | subst ea_ | (injection ea_ with ea_; subst ea_)); subst ec_; clear en_))
                  have GB30 := Aside0.mk gb30
                  have GG30 := Aside0.mk HG30
                  clear gb30 gl30 HG30
                  (first | simp only [add_plain] at hx269_0 | skip)
                  obtain ⟨hx30_0, hf30_0⟩ := Kd.R_celln 0 HO_258007.out (x5_2 : Int) p30 q30
                  replace p30 := eq_true p30
                  replace q30 := eq_true q30
                  have HP33 := Kd.R_putg HO_258007.out (x5_2 : Int) (((rd x258007_2 x5_2) + 1) % 4294967296)
                  go_wp2_with (first | ((with_reducible refine gate_store (t := 33) (p := 43) rfl ?_); refine store_event (t := 33) (p := 43) (v := ?vo_w34) (w1 := (wr.setCell ⟨go30, (x5_2 : Int).toNat, none⟩ (.int .u32 (((rd x258007_2 x5_2) + 1) % 4294967296)))) ?hg ?ho ?hn ?hr ?_; (case ho => rfl); (case hg => rfl); (case hn => rfl); (case hr => first | (go_simp; done) | (go_simp; rfl)); intro w34 hw; have hg : wr.grownBy w34 (some go30) := (by rw [hw]; exact HP33.2); have hp_ : Kd.R (Kd.int .u32) 33 w34 w.heap.size (fun _ => True) (.slice (some ⟨go30, 0, none⟩) x258007_2.length co32) y270 := (by rw [hw, Ny270.out]; exact HP33.1); clear HP33; have n0_ := Aside0.mk (hp_); have n1_ := Aside0.mk (blk_grown (g := gb257) (o := .cells #[.int .i64 t244, .int .i64 t245, .string t246, .int .i64 t247, .int .i64 t248, .int .i64 t249, .int .i64 t250, .slice (some ⟨go30, 0, none⟩) x258007_2.length co32, .int .i64 t254, .int .u32 t255] 37 (0, 0)) (by (with_reducible repeat (first | refine blk_drewN ?_ _ | refine blk_drew ?_ | refine blk_alloc ?_ _)); exact BK257.out) hg (Kd.R_ne HO_258007.out BK257.out (by decide))); have n2_ := Aside0.mk ((by rw [hw]; exact below_set (HB.out) GB30.out : Below w.heap.size w w34)); clear HO_258007; clear BK257; clear HB; have HO_258007 := n0_; have BK257 := n1_; have HB := n2_; clear n0_ n1_ n2_; clear hg hw hp_))
                  go_roundg k2
                  case measure => have := HJ4.out; have := HK2.out; omega
                  case rel => exact ⟨(wrap64 (x5_2 + 1)), (y270), (.slice (some ⟨go30, 0, none⟩) x258007_2.length co32), (by first | rfl | (simp; done) | (simp [*]; done)), H', ⟨by have := HJ4.out; have := HK2.out; omega⟩, ⟨by (with_reducible repeat (first | apply Kd.R_alloc | apply Kd.R_drewN | apply Kd.R_drew)); exact HO_258007.out⟩, ⟨by (with_reducible repeat (first | refine blk_drewN ?_ _ | refine blk_drew ?_ | refine blk_alloc ?_ _)); exact BK257.out⟩, ⟨by repeat (first | (with_reducible first | exact HB.out | apply below_alloc | apply pw_below_drewN | apply below_drew1 | refine below_set ?_ GE257.out) | exact HB.out)⟩⟩
                · rw [if_neg c29] at H
                  exact absurd H (by simp)
              · rw [if_neg c28] at H
                have c28b0 : decide (x5_2 < (x258007_2.length : Int)) = false := decide_eq_false c28
                clear c28
                replace H := Option.bind_eq_some_iff.mp H
                obtain ⟨⟨t271, t272, t273, t274, t275, t276, t277, t278, t281, t282, t283⟩, A350, H⟩ := H
                replace H : ((pyxref13_Get.f a0).bind fun bt285 => ((pyxlaw13_same.f k2 t271 t272 t273 t274 t275 t276 t277 t278 t281 t282 bt285.1 bt285.2.1 bt285.2.2.1 bt285.2.2.2.1 bt285.2.2.2.2.1 bt285.2.2.2.2.2.1 bt285.2.2.2.2.2.2.1 bt285.2.2.2.2.2.2.2.1 bt285.2.2.2.2.2.2.2.2.1 bt285.2.2.2.2.2.2.2.2.2).bind fun t295 => (some t295))) = some r := H
                have A35 := Aside0.mk A350
                clear A350
                replace H := Option.bind_eq_some_iff.mp H
                obtain ⟨⟨t285, t286, t287, t288, t289, t290, t291, t292, t293, t294⟩, A360, H⟩ := H
                replace H : ((pyxlaw13_same.f k2 t271 t272 t273 t274 t275 t276 t277 t278 t281 t282 t285 t286 t287 t288 t289 t290 t291 t292 t293 t294).bind fun t295 => (some t295)) = some r := H
                have A36 := Aside0.mk A360
                clear A360
                replace H := Option.bind_eq_some_iff.mp H
                obtain ⟨t295, A370, H⟩ := H
                replace H : (some t295) = some r := H
                have A37 := Aside0.mk A370
                clear A370
                obtain rfl := Option.some.inj H
                have hcz38_0 : wr.cell? ⟨gb257, 0, none⟩ = some (.int .i64 t244) := (blk_cell BK257.out 0).trans rfl
                have hcz38_1 : wr.cell? ⟨gb257, 1, none⟩ = some (.int .i64 t245) := (blk_cell BK257.out 1).trans rfl
                have hcz38_2 : wr.cell? ⟨gb257, 2, none⟩ = some (.string t246) := (blk_cell BK257.out 2).trans rfl
                have hcz38_3 : wr.cell? ⟨gb257, 3, none⟩ = some (.int .i64 t247) := (blk_cell BK257.out 3).trans rfl
                have hcz38_4 : wr.cell? ⟨gb257, 4, none⟩ = some (.int .i64 t248) := (blk_cell BK257.out 4).trans rfl
                have hcz38_5 : wr.cell? ⟨gb257, 5, none⟩ = some (.int .i64 t249) := (blk_cell BK257.out 5).trans rfl
                have hcz38_6 : wr.cell? ⟨gb257, 6, none⟩ = some (.int .i64 t250) := (blk_cell BK257.out 6).trans rfl
                have hcz38_7 : wr.cell? ⟨gb257, 7, none⟩ = some (u258007) := (blk_cell BK257.out 7).trans rfl
                have hcz38_8 : wr.cell? ⟨gb257, 8, none⟩ = some (.int .i64 t254) := (blk_cell BK257.out 8).trans rfl
                have hcz38_9 : wr.cell? ⟨gb257, 9, none⟩ = some (.int .u32 t255) := (blk_cell BK257.out 9).trans rfl
                have hfz38_0 := blk_frozen BK257.out 0
                have hfz38_1 := blk_frozen BK257.out 1
                have hfz38_2 := blk_frozen BK257.out 2
                have hfz38_3 := blk_frozen BK257.out 3
                have hfz38_4 := blk_frozen BK257.out 4
                have hfz38_5 := blk_frozen BK257.out 5
                have hfz38_6 := blk_frozen BK257.out 6
                have hfz38_7 := blk_frozen BK257.out 7
                have hfz38_8 := blk_frozen BK257.out 8
                have hfz38_9 := blk_frozen BK257.out 9
                obtain ⟨Ao39, co39, eo39⟩ := Kd.R_slice HO_258007.out
                subst eo39
                try go_wp2_with (first | ((with_reducible refine gate_callee (f := 28) rfl ?_); refine goesL_ (some 46) rfl rfl Tryd.func28 (by kernel_rfl) rfl #[.int .i64 a0] rfl (by (try simp only [List.map_toArray, List.map_cons, List.map_nil]); first | done | rfl | (simp only [List.length_drop, List.length_take]; rfl)) ?_; (with_reducible refine (params_Get.calls k2 a0 t271 t272 t273 t274 t275 t276 t277 t278 t281 t282 t283 _ A35.out (by first | exact GOK.below HG.out (by repeat (first | (with_reducible first | exact HB.out | apply below_alloc | apply pw_below_drewN | apply below_drew1 | refine below_set ?_ GE257.out) | exact HB.out)) | (repeat (first | exact HG.out | apply GOK.drewN | apply GOK.drew)))).mono ?_); rintro e w40 ⟨v279, rfl, ho0, hb⟩; refine ⟨_, rfl, ?_⟩; have n0_ := Aside0.mk (Kd.R_elder' (by (with_reducible repeat (first | apply Kd.R_alloc | apply Kd.R_drewN | apply Kd.R_drew)); exact HO_258007.out) (Kd.R_base ho0) hb); have n1_ := Aside0.mk (Kd.R_lower (Kd.R_new' ho0 (Kd.R_lt (by (with_reducible repeat (first | apply Kd.R_alloc | apply Kd.R_drewN | apply Kd.R_drew)); exact HO_258007.out))) (below_size (by repeat (first | (with_reducible first | exact HB.out | apply below_alloc | apply pw_below_drewN | apply below_drew1 | refine below_set ?_ GE257.out) | exact HB.out)))); have n2_ := Aside0.mk (blk_below (g := gb257) (o := .cells #[.int .i64 t244, .int .i64 t245, .string t246, .int .i64 t247, .int .i64 t248, .int .i64 t249, .int .i64 t250, .slice Ao39 x258007_2.length co39, .int .i64 t254, .int .u32 t255] 37 (0, 0)) (by (with_reducible repeat (first | refine blk_drewN ?_ _ | refine blk_drew ?_ | refine blk_alloc ?_ _)); exact BK257.out) hb); have n3_ := Aside0.mk (below_step (by repeat (first | (with_reducible first | exact HB.out | apply below_alloc | apply pw_below_drewN | apply below_drew1 | refine below_set ?_ GE257.out) | exact HB.out)) hb); clear HO_258007; clear BK257; clear HB; have HO_258007 := n0_; have HO280 := n1_; have BK257 := n2_; have HB := n3_; clear n0_ n1_ n2_ n3_; (try clear hb); (try clear hb2); (try clear hk); (try clear hi); (try clear ho0)) | ((with_reducible refine gate_dst (N := 6) rfl ?_); refine box_event ?hg (N := 6) ?hd (cs := #[.int .i64 0, .int .i64 0, .string (⟨#[]⟩ : ByteArray), .int .i64 0, .int .i64 0, .int .i64 0, .int .i64 0, .slice none 0 0, .int .i64 0, .int .u32 0]) (t := 37) ?hr ?_; (case hd => rfl); (case hg => rfl); (case hr => first | (go_simp; done) | (go_simp; rfl)); intro gb284 hg w41 hbox hb; have n0_ := Aside0.mk (Kd.R_below (by (with_reducible repeat (first | apply Kd.R_alloc | apply Kd.R_drewN | apply Kd.R_drew)); exact HO_258007.out) hb); have n1_ := Aside0.mk (Kd.R_below (by (with_reducible repeat (first | apply Kd.R_alloc | apply Kd.R_drewN | apply Kd.R_drew)); exact HO280.out) hb); have n2_ := Aside0.mk (blk_below (g := gb257) (o := .cells #[.int .i64 t244, .int .i64 t245, .string t246, .int .i64 t247, .int .i64 t248, .int .i64 t249, .int .i64 t250, .slice Ao39 x258007_2.length co39, .int .i64 t254, .int .u32 t255] 37 (0, 0)) (by (with_reducible repeat (first | refine blk_drewN ?_ _ | refine blk_drew ?_ | refine blk_alloc ?_ _)); exact BK257.out) hb); have n3_ := Aside0.mk (below_step (by repeat (first | (with_reducible first | exact HB.out | apply below_alloc | apply pw_below_drewN | apply below_drew1 | refine below_set ?_ GE257.out) | exact HB.out)) hb); have n4_ := Aside0.mk (hbox); have n5_ := Aside0.mk ((by rw [hg]; exact (below_size (by repeat (first | (with_reducible first | exact HB.out | apply below_alloc | apply pw_below_drewN | apply below_drew1 | refine below_set ?_ GE257.out) | exact HB.out))) : w.heap.size ≤ gb284)); have n6_ := Aside0.mk ((by rw [hg]; exact (below_size (by repeat (first | (with_reducible first | exact HB.out | apply below_alloc | apply pw_below_drewN | apply below_drew1 | refine below_set ?_ GE257.out) | exact HB.out))) : w.heap.size ≤ gb284)); have n7_ := Aside0.mk ((by rw [hg]; exact Nat.ne_of_lt (blk_lt (g := gb257) (o := .cells #[.int .i64 t244, .int .i64 t245, .string t246, .int .i64 t247, .int .i64 t248, .int .i64 t249, .int .i64 t250, .slice Ao39 x258007_2.length co39, .int .i64 t254, .int .u32 t255] 37 (0, 0)) (by (with_reducible repeat (first | refine blk_drewN ?_ _ | refine blk_drew ?_ | refine blk_alloc ?_ _)); exact BK257.out)) : gb257 ≠ gb284)); have n8_ := Aside0.mk ((by rw [hg]; exact Nat.ne_of_gt (blk_lt (g := gb257) (o := .cells #[.int .i64 t244, .int .i64 t245, .string t246, .int .i64 t247, .int .i64 t248, .int .i64 t249, .int .i64 t250, .slice Ao39 x258007_2.length co39, .int .i64 t254, .int .u32 t255] 37 (0, 0)) (by (with_reducible repeat (first | refine blk_drewN ?_ _ | refine blk_drew ?_ | refine blk_alloc ?_ _)); exact BK257.out)) : gb284 ≠ gb257)); clear HO_258007; clear HO280; clear BK257; clear HB; have HO_258007 := n0_; have HO280 := n1_; have BK257 := n2_; have HB := n3_; have BK284 := n4_; have GW284 := n5_; have GE284 := n6_; have NB257_284 := n7_; have NB284_257 := n8_; clear n0_ n1_ n2_ n3_ n4_ n5_ n6_ n7_ n8_; clear hb hbox hg; have hnb42 := NB284_257.out; have hnc42 := NB257_284.out; have hcz43_0 : w41.cell? ⟨gb284, 0, none⟩ = some (.int .i64 0) := (blk_cell BK284.out 0).trans rfl; have hcz43_1 : w41.cell? ⟨gb284, 1, none⟩ = some (.int .i64 0) := (blk_cell BK284.out 1).trans rfl; have hcz43_2 : w41.cell? ⟨gb284, 2, none⟩ = some (.string (⟨#[]⟩ : ByteArray)) := (blk_cell BK284.out 2).trans rfl; have hcz43_3 : w41.cell? ⟨gb284, 3, none⟩ = some (.int .i64 0) := (blk_cell BK284.out 3).trans rfl; have hcz43_4 : w41.cell? ⟨gb284, 4, none⟩ = some (.int .i64 0) := (blk_cell BK284.out 4).trans rfl; have hcz43_5 : w41.cell? ⟨gb284, 5, none⟩ = some (.int .i64 0) := (blk_cell BK284.out 5).trans rfl; have hcz43_6 : w41.cell? ⟨gb284, 6, none⟩ = some (.int .i64 0) := (blk_cell BK284.out 6).trans rfl; have hcz43_7 : w41.cell? ⟨gb284, 7, none⟩ = some (.slice none 0 0) := (blk_cell BK284.out 7).trans rfl; have hcz43_8 : w41.cell? ⟨gb284, 8, none⟩ = some (.int .i64 0) := (blk_cell BK284.out 8).trans rfl; have hcz43_9 : w41.cell? ⟨gb284, 9, none⟩ = some (.int .u32 0) := (blk_cell BK284.out 9).trans rfl; have hfz43_0 := blk_frozen BK284.out 0; have hfz43_1 := blk_frozen BK284.out 1; have hfz43_2 := blk_frozen BK284.out 2; have hfz43_3 := blk_frozen BK284.out 3; have hfz43_4 := blk_frozen BK284.out 4; have hfz43_5 := blk_frozen BK284.out 5; have hfz43_6 := blk_frozen BK284.out 6; have hfz43_7 := blk_frozen BK284.out 7; have hfz43_8 := blk_frozen BK284.out 8; have hfz43_9 := blk_frozen BK284.out 9; obtain ⟨Ao44, co44, eo44⟩ := Kd.R_slice HO280.out; subst eo44))
                have n0_ : Aside0 (Kd.R (Kd.int .u32) 33 ((((((((((w41.setCell ⟨gb284, 0, none⟩ (.int .i64 t271)).setCell ⟨gb284, 1, none⟩ (.int .i64 t272)).setCell ⟨gb284, 2, none⟩ (.string t273)).setCell ⟨gb284, 3, none⟩ (.int .i64 t274)).setCell ⟨gb284, 4, none⟩ (.int .i64 t275)).setCell ⟨gb284, 5, none⟩ (.int .i64 t276)).setCell ⟨gb284, 6, none⟩ (.int .i64 t277)).setCell ⟨gb284, 7, none⟩ (.slice Ao44 t278.length co44)).setCell ⟨gb284, 8, none⟩ (.int .i64 t281)).setCell ⟨gb284, 9, none⟩ (.int .u32 t282)) w.heap.size (fun k_ => some k_ ≠ (.slice Ao44 t278.length co44 : Value).ownBlock) (.slice Ao39 x258007_2.length co39) x258007_2) := ⟨by (with_reducible repeat (first | apply Kd.R_alloc | apply Kd.R_drewN | apply Kd.R_drew)); exact Kd.R_mono (Kd.R_far (p := ⟨gb284, 9, none⟩) (Kd.R_far (p := ⟨gb284, 8, none⟩) (Kd.R_far (p := ⟨gb284, 7, none⟩) (Kd.R_far (p := ⟨gb284, 6, none⟩) (Kd.R_far (p := ⟨gb284, 5, none⟩) (Kd.R_far (p := ⟨gb284, 4, none⟩) (Kd.R_far (p := ⟨gb284, 3, none⟩) (Kd.R_far (p := ⟨gb284, 2, none⟩) (Kd.R_far (p := ⟨gb284, 1, none⟩) (Kd.R_far (p := ⟨gb284, 0, none⟩) (Kd.R_types HO_258007.out BK284.out (by decide)) (fun _ hk => hk.2) (.int .i64 t271)) (fun _ hk => hk.2) (.int .i64 t272)) (fun _ hk => hk.2) (.string t273)) (fun _ hk => hk.2) (.int .i64 t274)) (fun _ hk => hk.2) (.int .i64 t275)) (fun _ hk => hk.2) (.int .i64 t276)) (fun _ hk => hk.2) (.int .i64 t277)) (fun _ hk => hk.2) (.slice Ao44 t278.length co44)) (fun _ hk => hk.2) (.int .i64 t281)) (fun _ hk => hk.2) (.int .u32 t282)) (fun _ hk => hk.1.2)⟩
                have n1_ : Aside0 (Kd.R (Kd.int .u32) 33 ((((((((((w41.setCell ⟨gb284, 0, none⟩ (.int .i64 t271)).setCell ⟨gb284, 1, none⟩ (.int .i64 t272)).setCell ⟨gb284, 2, none⟩ (.string t273)).setCell ⟨gb284, 3, none⟩ (.int .i64 t274)).setCell ⟨gb284, 4, none⟩ (.int .i64 t275)).setCell ⟨gb284, 5, none⟩ (.int .i64 t276)).setCell ⟨gb284, 6, none⟩ (.int .i64 t277)).setCell ⟨gb284, 7, none⟩ (.slice Ao44 t278.length co44)).setCell ⟨gb284, 8, none⟩ (.int .i64 t281)).setCell ⟨gb284, 9, none⟩ (.int .u32 t282)) w.heap.size (fun k_ => some k_ ≠ (.slice Ao39 x258007_2.length co39 : Value).ownBlock) (.slice Ao44 t278.length co44) t278) := ⟨by (with_reducible repeat (first | apply Kd.R_alloc | apply Kd.R_drewN | apply Kd.R_drew)); exact Kd.R_mono (Kd.R_far (p := ⟨gb284, 9, none⟩) (Kd.R_far (p := ⟨gb284, 8, none⟩) (Kd.R_far (p := ⟨gb284, 7, none⟩) (Kd.R_far (p := ⟨gb284, 6, none⟩) (Kd.R_far (p := ⟨gb284, 5, none⟩) (Kd.R_far (p := ⟨gb284, 4, none⟩) (Kd.R_far (p := ⟨gb284, 3, none⟩) (Kd.R_far (p := ⟨gb284, 2, none⟩) (Kd.R_far (p := ⟨gb284, 1, none⟩) (Kd.R_far (p := ⟨gb284, 0, none⟩) (Kd.R_types HO280.out BK284.out (by decide)) (fun _ hk => hk.2) (.int .i64 t271)) (fun _ hk => hk.2) (.int .i64 t272)) (fun _ hk => hk.2) (.string t273)) (fun _ hk => hk.2) (.int .i64 t274)) (fun _ hk => hk.2) (.int .i64 t275)) (fun _ hk => hk.2) (.int .i64 t276)) (fun _ hk => hk.2) (.int .i64 t277)) (fun _ hk => hk.2) (.slice Ao44 t278.length co44)) (fun _ hk => hk.2) (.int .i64 t281)) (fun _ hk => hk.2) (.int .u32 t282)) (fun _ hk => hk.1.2)⟩
                have n2_ : Aside0 (((((((((((w41.setCell ⟨gb284, 0, none⟩ (.int .i64 t271)).setCell ⟨gb284, 1, none⟩ (.int .i64 t272)).setCell ⟨gb284, 2, none⟩ (.string t273)).setCell ⟨gb284, 3, none⟩ (.int .i64 t274)).setCell ⟨gb284, 4, none⟩ (.int .i64 t275)).setCell ⟨gb284, 5, none⟩ (.int .i64 t276)).setCell ⟨gb284, 6, none⟩ (.int .i64 t277)).setCell ⟨gb284, 7, none⟩ (.slice Ao44 t278.length co44)).setCell ⟨gb284, 8, none⟩ (.int .i64 t281)).setCell ⟨gb284, 9, none⟩ (.int .u32 t282)).heap[gb257]? = some (.cells #[.int .i64 t244, .int .i64 t245, .string t246, .int .i64 t247, .int .i64 t248, .int .i64 t249, .int .i64 t250, .slice Ao39 x258007_2.length co39, .int .i64 t254, .int .u32 t255] 37 (0, 0))) := ⟨by (with_reducible repeat (first | refine blk_drewN ?_ _ | refine blk_drew ?_ | refine blk_alloc ?_ _)); refine blk_far ?_ NB257_284.out _; (with_reducible repeat (first | refine blk_drewN ?_ _ | refine blk_drew ?_ | refine blk_alloc ?_ _)); refine blk_far ?_ NB257_284.out _; (with_reducible repeat (first | refine blk_drewN ?_ _ | refine blk_drew ?_ | refine blk_alloc ?_ _)); refine blk_far ?_ NB257_284.out _; (with_reducible repeat (first | refine blk_drewN ?_ _ | refine blk_drew ?_ | refine blk_alloc ?_ _)); refine blk_far ?_ NB257_284.out _; (with_reducible repeat (first | refine blk_drewN ?_ _ | refine blk_drew ?_ | refine blk_alloc ?_ _)); refine blk_far ?_ NB257_284.out _; (with_reducible repeat (first | refine blk_drewN ?_ _ | refine blk_drew ?_ | refine blk_alloc ?_ _)); refine blk_far ?_ NB257_284.out _; (with_reducible repeat (first | refine blk_drewN ?_ _ | refine blk_drew ?_ | refine blk_alloc ?_ _)); refine blk_far ?_ NB257_284.out _; (with_reducible repeat (first | refine blk_drewN ?_ _ | refine blk_drew ?_ | refine blk_alloc ?_ _)); refine blk_far ?_ NB257_284.out _; (with_reducible repeat (first | refine blk_drewN ?_ _ | refine blk_drew ?_ | refine blk_alloc ?_ _)); refine blk_far ?_ NB257_284.out _; (with_reducible repeat (first | refine blk_drewN ?_ _ | refine blk_drew ?_ | refine blk_alloc ?_ _)); refine blk_far ?_ NB257_284.out _; (with_reducible repeat (first | refine blk_drewN ?_ _ | refine blk_drew ?_ | refine blk_alloc ?_ _)); exact BK257.out⟩
                have n3_ : Aside0 (((((((((((w41.setCell ⟨gb284, 0, none⟩ (.int .i64 t271)).setCell ⟨gb284, 1, none⟩ (.int .i64 t272)).setCell ⟨gb284, 2, none⟩ (.string t273)).setCell ⟨gb284, 3, none⟩ (.int .i64 t274)).setCell ⟨gb284, 4, none⟩ (.int .i64 t275)).setCell ⟨gb284, 5, none⟩ (.int .i64 t276)).setCell ⟨gb284, 6, none⟩ (.int .i64 t277)).setCell ⟨gb284, 7, none⟩ (.slice Ao44 t278.length co44)).setCell ⟨gb284, 8, none⟩ (.int .i64 t281)).setCell ⟨gb284, 9, none⟩ (.int .u32 t282)).heap[gb284]? = some (.cells #[.int .i64 t271, .int .i64 t272, .string t273, .int .i64 t274, .int .i64 t275, .int .i64 t276, .int .i64 t277, .slice Ao44 t278.length co44, .int .i64 t281, .int .u32 t282] 37 (0, 0))) := ⟨by (with_reducible repeat (first | refine blk_drewN ?_ _ | refine blk_drew ?_ | refine blk_alloc ?_ _)); refine blk_put (cs := #[.int .i64 t271, .int .i64 t272, .string t273, .int .i64 t274, .int .i64 t275, .int .i64 t276, .int .i64 t277, .slice Ao44 t278.length co44, .int .i64 t281, .int .u32 0]) ?_ 9 _ rfl; (with_reducible repeat (first | refine blk_drewN ?_ _ | refine blk_drew ?_ | refine blk_alloc ?_ _)); refine blk_put (cs := #[.int .i64 t271, .int .i64 t272, .string t273, .int .i64 t274, .int .i64 t275, .int .i64 t276, .int .i64 t277, .slice Ao44 t278.length co44, .int .i64 0, .int .u32 0]) ?_ 8 _ rfl; (with_reducible repeat (first | refine blk_drewN ?_ _ | refine blk_drew ?_ | refine blk_alloc ?_ _)); refine blk_put (cs := #[.int .i64 t271, .int .i64 t272, .string t273, .int .i64 t274, .int .i64 t275, .int .i64 t276, .int .i64 t277, .slice none 0 0, .int .i64 0, .int .u32 0]) ?_ 7 _ rfl; (with_reducible repeat (first | refine blk_drewN ?_ _ | refine blk_drew ?_ | refine blk_alloc ?_ _)); refine blk_put (cs := #[.int .i64 t271, .int .i64 t272, .string t273, .int .i64 t274, .int .i64 t275, .int .i64 t276, .int .i64 0, .slice none 0 0, .int .i64 0, .int .u32 0]) ?_ 6 _ rfl; (with_reducible repeat (first | refine blk_drewN ?_ _ | refine blk_drew ?_ | refine blk_alloc ?_ _)); refine blk_put (cs := #[.int .i64 t271, .int .i64 t272, .string t273, .int .i64 t274, .int .i64 t275, .int .i64 0, .int .i64 0, .slice none 0 0, .int .i64 0, .int .u32 0]) ?_ 5 _ rfl; (with_reducible repeat (first | refine blk_drewN ?_ _ | refine blk_drew ?_ | refine blk_alloc ?_ _)); refine blk_put (cs := #[.int .i64 t271, .int .i64 t272, .string t273, .int .i64 t274, .int .i64 0, .int .i64 0, .int .i64 0, .slice none 0 0, .int .i64 0, .int .u32 0]) ?_ 4 _ rfl; (with_reducible repeat (first | refine blk_drewN ?_ _ | refine blk_drew ?_ | refine blk_alloc ?_ _)); refine blk_put (cs := #[.int .i64 t271, .int .i64 t272, .string t273, .int .i64 0, .int .i64 0, .int .i64 0, .int .i64 0, .slice none 0 0, .int .i64 0, .int .u32 0]) ?_ 3 _ rfl; (with_reducible repeat (first | refine blk_drewN ?_ _ | refine blk_drew ?_ | refine blk_alloc ?_ _)); refine blk_put (cs := #[.int .i64 t271, .int .i64 t272, .string (⟨#[]⟩ : ByteArray), .int .i64 0, .int .i64 0, .int .i64 0, .int .i64 0, .slice none 0 0, .int .i64 0, .int .u32 0]) ?_ 2 _ rfl; (with_reducible repeat (first | refine blk_drewN ?_ _ | refine blk_drew ?_ | refine blk_alloc ?_ _)); refine blk_put (cs := #[.int .i64 t271, .int .i64 0, .string (⟨#[]⟩ : ByteArray), .int .i64 0, .int .i64 0, .int .i64 0, .int .i64 0, .slice none 0 0, .int .i64 0, .int .u32 0]) ?_ 1 _ rfl; (with_reducible repeat (first | refine blk_drewN ?_ _ | refine blk_drew ?_ | refine blk_alloc ?_ _)); refine blk_put (cs := #[.int .i64 0, .int .i64 0, .string (⟨#[]⟩ : ByteArray), .int .i64 0, .int .i64 0, .int .i64 0, .int .i64 0, .slice none 0 0, .int .i64 0, .int .u32 0]) ?_ 0 _ rfl; (with_reducible repeat (first | refine blk_drewN ?_ _ | refine blk_drew ?_ | refine blk_alloc ?_ _)); exact BK284.out⟩
                have n4_ : Aside0 (Below w.heap.size w ((((((((((w41.setCell ⟨gb284, 0, none⟩ (.int .i64 t271)).setCell ⟨gb284, 1, none⟩ (.int .i64 t272)).setCell ⟨gb284, 2, none⟩ (.string t273)).setCell ⟨gb284, 3, none⟩ (.int .i64 t274)).setCell ⟨gb284, 4, none⟩ (.int .i64 t275)).setCell ⟨gb284, 5, none⟩ (.int .i64 t276)).setCell ⟨gb284, 6, none⟩ (.int .i64 t277)).setCell ⟨gb284, 7, none⟩ (.slice Ao44 t278.length co44)).setCell ⟨gb284, 8, none⟩ (.int .i64 t281)).setCell ⟨gb284, 9, none⟩ (.int .u32 t282))) := ⟨by repeat (first | (with_reducible first | exact HB.out | apply below_alloc | apply pw_below_drewN | apply below_drew1 | refine below_set ?_ GE257.out | refine below_set ?_ GE284.out) | exact HB.out)⟩
                (try clear HO_258007)
                (try clear HO280)
                (try clear BK257)
                (try clear BK284)
                (try clear HB)
                generalize ((((((((((w41.setCell ⟨gb284, 0, none⟩ (.int .i64 t271)).setCell ⟨gb284, 1, none⟩ (.int .i64 t272)).setCell ⟨gb284, 2, none⟩ (.string t273)).setCell ⟨gb284, 3, none⟩ (.int .i64 t274)).setCell ⟨gb284, 4, none⟩ (.int .i64 t275)).setCell ⟨gb284, 5, none⟩ (.int .i64 t276)).setCell ⟨gb284, 6, none⟩ (.int .i64 t277)).setCell ⟨gb284, 7, none⟩ (.slice Ao44 t278.length co44)).setCell ⟨gb284, 8, none⟩ (.int .i64 t281)).setCell ⟨gb284, 9, none⟩ (.int .u32 t282)) = w45 at n0_ n1_ n2_ n3_ n4_ ⊢
                have HO_258007 := n0_
                have HO280 := n1_
                have BK257 := n2_
                have BK284 := n3_
                have HB := n4_
                clear n0_ n1_ n2_ n3_ n4_
                have n0_ := Aside0.mk (Kd.R_drew HO_258007.out)
                have n1_ := Aside0.mk (Kd.R_drew HO280.out)
                have n2_ := Aside0.mk (blk_drew BK257.out)
                have n3_ := Aside0.mk (blk_drew BK284.out)
                have n4_ := Aside0.mk (below_drew1 HB.out)
                clear HO_258007
                clear HO280
                clear BK257
                clear BK284
                clear HB
                have HO_258007 := n0_
                have HO280 := n1_
                have BK257 := n2_
                have BK284 := n3_
                have HB := n4_
                clear n0_ n1_ n2_ n3_ n4_
                refine start_ (n := 5) (S := fun w' => w'.cell? ⟨gb284, 0, none⟩ = some (.int .i64 t271) ∧ w'.cell? ⟨gb284, 1, none⟩ = some (.int .i64 t272) ∧ w'.cell? ⟨gb284, 2, none⟩ = some (.string t273) ∧ w'.cell? ⟨gb284, 3, none⟩ = some (.int .i64 t274) ∧ w'.cell? ⟨gb284, 4, none⟩ = some (.int .i64 t275) ∧ w'.cell? ⟨gb284, 5, none⟩ = some (.int .i64 t276) ∧ w'.cell? ⟨gb284, 6, none⟩ = some (.int .i64 t277) ∧ w'.cell? ⟨gb284, 7, none⟩ = some (.slice Ao44 t278.length co44) ∧ w'.cell? ⟨gb284, 8, none⟩ = some (.int .i64 t281) ∧ w'.cell? ⟨gb284, 9, none⟩ = some (.int .u32 t282)) (ds := []) #[false, false, false, false, false] (by kernel_rfl) rfl rfl ⟨(blk_cell BK284.out 0).trans rfl, (blk_cell BK284.out 1).trans rfl, (blk_cell BK284.out 2).trans rfl, (blk_cell BK284.out 3).trans rfl, (blk_cell BK284.out 4).trans rfl, (blk_cell BK284.out 5).trans rfl, (blk_cell BK284.out 6).trans rfl, (blk_cell BK284.out 7).trans rfl, (blk_cell BK284.out 8).trans rfl, (blk_cell BK284.out 9).trans rfl⟩ (fun hHeld => ?_)
                generalize w45.drew = w46 at HO_258007 HO280 BK257 BK284 HB hHeld ⊢
                refine pure_ (i := 1) (N := some 50) (v := ?_) (a' := ?_) #[false, true, false, false, false] rfl rfl (by kernel_rfl) (fun _ _ _ h => h) (Or.inl ⟨by rfl, ?_⟩) ?_ ?_
                rotate_left
                · intro w'
                  go_simp
                  with_reducible rfl
                rotate_left
                · simp only [Act.put, List.setIfInBounds_toArray, List.set_cons_zero, List.set_cons_succ, i64_w, i32_w]
                  rfl
                refine take_ (i := 0) (N := some 49) (v := ?_) (a' := ?_) #[true, true, false, false, false] rfl rfl (by kernel_rfl) (fun _ _ _ h => h) (Or.inl ⟨by rfl, ?_⟩) hHeld ?_ ?_
                rotate_left
                · rintro w' ⟨s0, s1, s2, s3, s4, s5, s6, s7, s8, s9⟩
                  go_simp
                  with_reducible rfl
                rotate_left
                · simp only [Act.put, List.setIfInBounds_toArray, List.set_cons_zero, List.set_cons_succ, i64_w, i32_w]
                  rfl
                refine one_ (i := 2) (N := some 51) #[true, true, true, false, false] rfl rfl (by kernel_rfl) (by decide) (fun K hK => ?_)
                refine goes_ Tryd.func30 (by kernel_rfl) rfl #[.int .i64 a0] (by rfl) rfl rfl (by (try simp only [List.map_toArray, List.map_cons, List.map_nil]); first | done | rfl | (simp only [List.length_drop, List.length_take]; rfl)) ?_
                with_reducible refine (pyxref13_Get.calls a0 t285 t286 t287 t288 t289 t290 t291 t292 t293 t294 _ A36.out).mono ?_
                rintro e w47 ⟨rfl, hb⟩
                refine ⟨_, rfl, ?_⟩
                have n0_ := Aside0.mk (Kd.R_below (by (with_reducible repeat (first | apply Kd.R_alloc | apply Kd.R_drewN | apply Kd.R_drew)); exact HO_258007.out) hb)
                have n1_ := Aside0.mk (Kd.R_below (by (with_reducible repeat (first | apply Kd.R_alloc | apply Kd.R_drewN | apply Kd.R_drew)); exact HO280.out) hb)
                have n2_ := Aside0.mk (blk_below (g := gb257) (o := .cells #[.int .i64 t244, .int .i64 t245, .string t246, .int .i64 t247, .int .i64 t248, .int .i64 t249, .int .i64 t250, .slice Ao39 x258007_2.length co39, .int .i64 t254, .int .u32 t255] 37 (0, 0)) (by (with_reducible repeat (first | refine blk_drewN ?_ _ | refine blk_drew ?_ | refine blk_alloc ?_ _)); exact BK257.out) hb)
                have n3_ := Aside0.mk (blk_below (g := gb284) (o := .cells #[.int .i64 t271, .int .i64 t272, .string t273, .int .i64 t274, .int .i64 t275, .int .i64 t276, .int .i64 t277, .slice Ao44 t278.length co44, .int .i64 t281, .int .u32 t282] 37 (0, 0)) (by (with_reducible repeat (first | refine blk_drewN ?_ _ | refine blk_drew ?_ | refine blk_alloc ?_ _)); exact BK284.out) hb)
                have n4_ := Aside0.mk (below_step (by repeat (first | (with_reducible first | exact HB.out | apply below_alloc | apply pw_below_drewN | apply below_drew1 | refine below_set ?_ GE257.out | refine below_set ?_ GE284.out) | exact HB.out)) hb)
                clear HO_258007
                clear HO280
                clear BK257
                clear BK284
                clear HB
                have HO_258007 := n0_
                have HO280 := n1_
                have BK257 := n2_
                have BK284 := n3_
                have HB := n4_
                clear n0_ n1_ n2_ n3_ n4_
                (try clear hb)
                (try clear hb2)
                (try clear hk)
                (try clear hi)
                refine hK.out _ _ ⟨(blk_cell BK284.out 0).trans rfl, (blk_cell BK284.out 1).trans rfl, (blk_cell BK284.out 2).trans rfl, (blk_cell BK284.out 3).trans rfl, (blk_cell BK284.out 4).trans rfl, (blk_cell BK284.out 5).trans rfl, (blk_cell BK284.out 6).trans rfl, (blk_cell BK284.out 7).trans rfl, (blk_cell BK284.out 8).trans rfl, (blk_cell BK284.out 9).trans rfl⟩ (fun hHeld => ?_)
                clear hK K
                refine norm_ (a' := ?_) ?_ ?_
                rotate_left
                · show Act.put _ (some 51) _ = _
                  simp only [Act.put, List.setIfInBounds_toArray, List.set_cons_zero, List.set_cons_succ, i64_w, i32_w]
                  rfl
                refine one_ (i := 3) (N := some 52) #[true, true, true, true, false] rfl rfl (by kernel_rfl) (by decide) (fun K hK => ?_)
                refine goes_ Tryd.func29 (by kernel_rfl) rfl #[.agg #[.int .i64 t271, .int .i64 t272, .string t273, .int .i64 t274, .int .i64 t275, .int .i64 t276, .int .i64 t277, .slice Ao44 t278.length co44, .int .i64 t281, .int .u32 t282], .agg #[.int .i64 t285, .int .i64 t286, .string t287, .int .i64 t288, .int .i64 t289, .int .i64 t290, .int .i64 t291, .string t292, .int .i64 t293, .int .u32 t294]] (by rfl) rfl rfl (by (try simp only [List.map_toArray, List.map_cons, List.map_nil]); first | done | rfl | (simp only [List.length_drop, List.length_take]; rfl)) ?_
                with_reducible refine (pyxlaw13_same.calls k2 t271 t272 t273 t274 t275 t276 t277 _ _ t278 t281 t282 t285 t286 t287 t288 t289 t290 t291 t292 t293 t294 t295 _ ?side1 ?side2 A37.out).mono ?_
                (case side1 => repeat (first | exact (Kd.R_reads' HO280.out).2.2 | (with_reducible refine Kd.C_alloc ?_ _) | (with_reducible refine Kd.C_drewN ?_ _) | (with_reducible refine Kd.C_drew ?_)))
                (case side2 => exact (Kd.R_reads' HO280.out).2.1)
                rintro e w48 ⟨rfl, hb⟩
                refine ⟨_, rfl, ?_⟩
                have n0_ := Aside0.mk (Kd.R_below (by (with_reducible repeat (first | apply Kd.R_alloc | apply Kd.R_drewN | apply Kd.R_drew)); exact HO_258007.out) hb)
                have n1_ := Aside0.mk (Kd.R_below (by (with_reducible repeat (first | apply Kd.R_alloc | apply Kd.R_drewN | apply Kd.R_drew)); exact HO280.out) hb)
                have n2_ := Aside0.mk (blk_below (g := gb257) (o := .cells #[.int .i64 t244, .int .i64 t245, .string t246, .int .i64 t247, .int .i64 t248, .int .i64 t249, .int .i64 t250, .slice Ao39 x258007_2.length co39, .int .i64 t254, .int .u32 t255] 37 (0, 0)) (by (with_reducible repeat (first | refine blk_drewN ?_ _ | refine blk_drew ?_ | refine blk_alloc ?_ _)); exact BK257.out) hb)
                have n3_ := Aside0.mk (blk_below (g := gb284) (o := .cells #[.int .i64 t271, .int .i64 t272, .string t273, .int .i64 t274, .int .i64 t275, .int .i64 t276, .int .i64 t277, .slice Ao44 t278.length co44, .int .i64 t281, .int .u32 t282] 37 (0, 0)) (by (with_reducible repeat (first | refine blk_drewN ?_ _ | refine blk_drew ?_ | refine blk_alloc ?_ _)); exact BK284.out) hb)
                have n4_ := Aside0.mk (below_step (by repeat (first | (with_reducible first | exact HB.out | apply below_alloc | apply pw_below_drewN | apply below_drew1 | refine below_set ?_ GE257.out | refine below_set ?_ GE284.out) | exact HB.out)) hb)
                clear HO_258007
                clear HO280
                clear BK257
                clear BK284
                clear HB
                have HO_258007 := n0_
                have HO280 := n1_
                have BK257 := n2_
                have BK284 := n3_
                have HB := n4_
                clear n0_ n1_ n2_ n3_ n4_
                (try clear hb)
                (try clear hb2)
                (try clear hk)
                (try clear hi)
                refine hK.out _ _ ⟨(blk_cell BK284.out 0).trans rfl, (blk_cell BK284.out 1).trans rfl, (blk_cell BK284.out 2).trans rfl, (blk_cell BK284.out 3).trans rfl, (blk_cell BK284.out 4).trans rfl, (blk_cell BK284.out 5).trans rfl, (blk_cell BK284.out 6).trans rfl, (blk_cell BK284.out 7).trans rfl, (blk_cell BK284.out 8).trans rfl, (blk_cell BK284.out 9).trans rfl⟩ (fun hHeld => ?_)
                clear hK K
                refine norm_ (a' := ?_) ?_ ?_
                rotate_left
                · show Act.put _ (some 52) _ = _
                  simp only [Act.put, List.setIfInBounds_toArray, List.set_cons_zero, List.set_cons_succ, i64_w, i32_w]
                  rfl
                refine pure_ (i := 4) (N := some 2) (v := ?_) (a' := ?_) #[true, true, true, true, true] rfl rfl (by kernel_rfl) (fun _ _ _ h => h) (Or.inl ⟨by rfl, ?_⟩) ?_ ?_
                rotate_left
                · intro w'
                  go_simp
                  with_reducible rfl
                rotate_left
                · simp only [Act.put, List.setIfInBounds_toArray, List.set_cons_zero, List.set_cons_succ, i64_w, i32_w]
                  rfl
                refine done_ (by kernel_rfl) ?_
                try go_wp2
                go_ret
                exact ⟨by first | rfl | (simp [errW_none, errW_some] <;> rfl) | (simp [*, errW_none, errW_some] <;> rfl), by repeat (first | (with_reducible first | exact HB.out | apply below_alloc | apply pw_below_drewN | apply below_drew1 | refine below_set ?_ GE257.out | refine below_set ?_ GE284.out) | exact HB.out)⟩
  · replace c3 := Bool.eq_false_iff.mpr c3
    subst c3
    have H1 : (some false) = some r := by rw [if_neg (show ¬ (false = true) by decide)] at H; exact H
    clear H
    have H := H1
    clear H1
    exact absurd ((Option.some.inj H).trans HT.out) (by decide)
def pyxlaw13_ParamsMatchesReference.Pure : Prop := ∀ (a0 : Int), (Lit.int .i64 a0).wf = true → ∃ k, pyxlaw13_ParamsMatchesReference.f k a0 = some true
theorem pyxlaw13_ParamsMatchesReference.walk (P : pyxlaw13_ParamsMatchesReference.Pure) (a0 : Int) (w : World) (w0 : (Lit.int .i64 a0).wf = true) (hG : GOK w) :
    Calls Tryd.prog 8 #[.int .i64 a0] w fun e w' => e = .returned (.bool true) ∧ Below w.heap.size w w' := by
  obtain ⟨k, h⟩ := P a0 w0
  refine (pyxlaw13_ParamsMatchesReference.calls k a0 true w h hG rfl).mono ?_
  rintro e w' ⟨rfl, hd⟩
  exact ⟨rfl, hd⟩
end Go.Proofs.YtohmnlmeamkmjaaDoor.PParams
