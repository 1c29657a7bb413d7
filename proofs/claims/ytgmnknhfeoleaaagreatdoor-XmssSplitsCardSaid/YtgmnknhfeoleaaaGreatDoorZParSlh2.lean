import Derived.Test.YtgmnknhfeoleaaaGreatDoorZQ
import Derived.Test.YtgmnknhfeoleaaaGreatDoorZSq
import Derived.Test.YtgmnknhfeoleaaaGreatDoorZPXmssx4
namespace Go.Proofs.YtgmnknhfeoleaaaGreatDoor.PXmss
open Go.RowKit Go.Proofs.YtgmnknhfeoleaaaGreatDoorW.PrintWords Go.Proofs.YtgmnknhfeoleaaaGreatDoorW.PrintLast Go.Proofs.YtgmnknhfeoleaaaGreatDoorW.PrintMore
set_option linter.unusedVariables false
set_option linter.unusedSimpArgs false
set_option maxHeartbeats 16000000 in
set_option maxRecDepth 100000 in
theorem slh_10 (w : World) (hG : GOK w) : Calls Tryz.prog 36 #[.int .i64 10] w fun e w' => ∃ v7_ : Value, e = .returned (.agg #[.int .i64 0, .int .i64 3, .string ((⟨#[83, 76, 72, 45, 68, 83, 65, 45, 83, 72, 65, 50, 45]⟩ : ByteArray) ++ (⟨#[49, 57, 50]⟩ : ByteArray) ++ (⟨#[102]⟩ : ByteArray)), .int .i64 48, .int .i64 96, .int .i64 0, .int .i64 35664, v7_, .int .i64 (-54), .int .u32 0]) ∧ Kd.R (Kd.int .u32) 22 w' w.heap.size (fun _ => True) v7_ [2, 16, 840, 1, 101, 3, 4, 3, 23] ∧ Below w.heap.size w w' := by
 have HG := Aside0.mk hG
 clear hG
 have hu37 := Tryz.underlying45
 have hu92 := Tryz.underlying119
 have HB := Aside0.mk (Below.refl w.heap.size w)
 have hix : ∀ W, (Instr.index 119 (.agg #[.int .i64 16, .int .i64 16, .int .i64 24, .int .i64 24, .int .i64 32, .int .i64 32]) (.int .i64 3)).run Tryz.prog W = .ok (.int .i64 24) W := fun W => by simp [Instr.index, run_underlying Tryz.underlying119, asIntOf, go_sem]
 have hsf : ∀ W, (Instr.slice 9 (.string ⟨#[115, 102]⟩) (some (.int .i64 1)) (some (.int .i64 2)) none).run Tryz.prog W = .ok (.string (⟨#[102]⟩ : ByteArray)) W := fun W => by rw [run_slice_string W 9 _ .i64 .i64 1 2 Tryz.underlying9 (by omega) (by omega) (by decide)]; congr 2
 go_enter Tryz.func36, Tryz.ntmps36
 go_wp2_with (((with_reducible refine gate_dst (N := 2) rfl ?_); refine box_event ?hg (N := 2) ?hd (cs := #[.int .i64 0, .int .i64 0, .string (⟨#[]⟩ : ByteArray), .int .i64 0, .int .i64 0, .int .i64 0, .int .i64 0, .slice none 0 0, .int .i64 0, .int .u32 0]) (t := 45) ?hr ?_; (case hd => rfl); (case hg => rfl); (case hr => first | (go_simp; done) | (go_simp; rfl)); intro gb hg w5 hbox hb; have n0_ := Aside0.mk (below_step q30_ hb); have n1_ := Aside0.mk (hbox); have n2_ := Aside0.mk ((by rw [hg]; exact (below_size q30_) : w.heap.size ≤ gb)); clear HB; have HB := n0_; have BK := n1_; have GE := n2_; clear n0_ n1_ n2_; clear hb hbox hg))
 have BK2 : (w5.alloc (Obj.cells #[.int .i64 7856, .int .i64 17088, .int .i64 16224, .int .i64 35664, .int .i64 29792, .int .i64 49856] 119)).heap[gb]? = some (.cells #[.int .i64 0, .int .i64 0, .string (⟨#[]⟩ : ByteArray), .int .i64 0, .int .i64 0, .int .i64 0, .int .i64 0, .slice none 0 0, .int .i64 0, .int .u32 0] 45 (0, 0)) := blk_alloc BK.out _
 have BA2 : (w5.alloc (Obj.cells #[.int .i64 7856, .int .i64 17088, .int .i64 16224, .int .i64 35664, .int .i64 29792, .int .i64 49856] 119)).heap[w5.heap.size]? = some (.cells #[.int .i64 7856, .int .i64 17088, .int .i64 16224, .int .i64 35664, .int .i64 29792, .int .i64 49856] 119 (0, 0)) := blk_new w5 (Obj.cells #[.int .i64 7856, .int .i64 17088, .int .i64 16224, .int .i64 35664, .int .i64 29792, .int .i64 49856] 119)
 have HB2 : Below w.heap.size w (w5.alloc (Obj.cells #[.int .i64 7856, .int .i64 17088, .int .i64 16224, .int .i64 35664, .int .i64 29792, .int .i64 49856] 119)) := below_alloc HB.out _
 generalize (w5.alloc (Obj.cells #[.int .i64 7856, .int .i64 17088, .int .i64 16224, .int .i64 35664, .int .i64 29792, .int .i64 49856] 119)) = W1 at BK2 BA2 HB2 ⊢
 generalize w5.heap.size = ga at BA2 ⊢
 clear BK HB hix
 have BK := Aside0.mk BK2
 have BA := Aside0.mk BA2
 have HB := Aside0.mk HB2
 clear BK2 BA2 HB2
 have hx : W1.cell? ⟨ga, 3, none⟩ = some (.int .i64 35664) := (blk_cell BA.out 3).trans rfl
 have hwm54 : IntKind.i64.wrap (-54) = -54 := by decide
 have hw0 : IntKind.i64.wrap (0) = 0 := by decide
 have hw1 : IntKind.i64.wrap (1) = 1 := by decide
 have hw2 : IntKind.i64.wrap (2) = 2 := by decide
 have hw23 : IntKind.i64.wrap (23) = 23 := by decide
 have hw48 : IntKind.i64.wrap (48) = 48 := by decide
 have hw96 : IntKind.i64.wrap (96) = 96 := by decide
 have hw192 : IntKind.i64.wrap (192) = 192 := by decide
 go_region_with (first | (go_at_call 59; (with_reducible refine (strconv_Itoa.calls 192 (⟨#[49, 57, 50]⟩ : ByteArray) _ (by kernel_rfl) (GOK.below HG.out q28_)).mono ?_); rintro e w6 ⟨rfl, hb⟩; have n0_ := Aside0.mk (blk_below (g := gb) (o := .cells #[.int .i64 0, .int .i64 0, .string (⟨#[]⟩ : ByteArray), .int .i64 0, .int .i64 0, .int .i64 0, .int .i64 0, .slice none 0 0, .int .i64 0, .int .u32 0] 45 (0, 0)) q42_ hb); have n1_ := Aside0.mk (below_step q28_ hb); have n3_ := Aside0.mk (blk_below (g := ga) (o := .cells #[.int .i64 7856, .int .i64 17088, .int .i64 16224, .int .i64 35664, .int .i64 29792, .int .i64 49856] 119 (0, 0)) q43_ hb); clear BK; clear HB; clear BA; have BK := n0_; have HB := n1_; have BA := n3_; clear n0_ n1_ n3_; clear hb; have hx2 : w6.cell? ⟨ga, 3, none⟩ = some (.int .i64 35664) := (blk_cell BA.out 3).trans rfl) | (go_at_call 39; (with_reducible refine (params_nist.calls 3 23 [2, 16, 840, 1, 101, 3, 4, 3, 23] _ (by kernel_rfl)).mono ?_); rintro e w6 ⟨v_, rfl, ho0, hb⟩; have n0_ := Aside0.mk (blk_below (g := gb) (o := .cells #[.int .i64 0, .int .i64 0, .string (⟨#[]⟩ : ByteArray), .int .i64 0, .int .i64 0, .int .i64 0, .int .i64 0, .slice none 0 0, .int .i64 0, .int .u32 0] 45 (0, 0)) q42_ hb); have n1_ := Aside0.mk (below_step q28_ hb); have n3_ := Aside0.mk (blk_below (g := ga) (o := .cells #[.int .i64 7856, .int .i64 17088, .int .i64 16224, .int .i64 35664, .int .i64 29792, .int .i64 49856] 119 (0, 0)) q43_ hb); have n2_ := Aside0.mk (Kd.R_lower ho0 (below_size q28_)); clear BK; clear HB; clear BA; have BK := n0_; have HB := n1_; have BA := n3_; clear n0_ n1_ n3_; clear hb; have hx2 : w6.cell? ⟨ga, 3, none⟩ = some (.int .i64 35664) := (blk_cell BA.out 3).trans rfl; have HO := n2_; clear n2_ ho0; obtain ⟨Ao8, co8, eo8⟩ := Kd.R_slice HO.out; subst eo8; obtain ⟨hcz_0, hcz_1, hcz_2, hcz_3, hcz_4, hcz_5, hcz_6, hcz_7, hcz_8, hcz_9⟩ := cells10_ BK.out; obtain ⟨hfz_0, hfz_1, hfz_2, hfz_3, hfz_4, hfz_5, hfz_6, hfz_7, hfz_8, hfz_9⟩ := frz10_ BK.out))
 all_goals
  go_wp2
  refine bodyPost_ret (results_cell_row rfl _ _ gb 45 #[.int .i64 0, .int .i64 3, .string ((⟨#[83, 76, 72, 45, 68, 83, 65, 45, 83, 72, 65, 50, 45]⟩ : ByteArray) ++ (⟨#[49, 57, 50]⟩ : ByteArray) ++ (⟨#[102]⟩ : ByteArray)), .int .i64 48, .int .i64 96, .int .i64 0, .int .i64 35664, .slice Ao8 9 co8, .int .i64 (-54), .int .u32 0] (0, 0) _ rfl q31_ Tryz.underlying45 rfl (by kernel_rfl)) rfl ?_
  exact ⟨_, rfl, by (with_reducible repeat (first | apply Kd.R_alloc | apply Kd.R_drewN | apply Kd.R_drew)); exact farR_0123456789_ (Kd.R_types HO.out BK.out (by decide)), q28_⟩
set_option maxHeartbeats 16000000 in
set_option maxRecDepth 100000 in
theorem slh_11 (w : World) (hG : GOK w) : Calls Tryz.prog 36 #[.int .i64 11] w fun e w' => ∃ v7_ : Value, e = .returned (.agg #[.int .i64 0, .int .i64 3, .string ((⟨#[83, 76, 72, 45, 68, 83, 65, 45, 83, 72, 65, 50, 45]⟩ : ByteArray) ++ (⟨#[50, 53, 54]⟩ : ByteArray) ++ (⟨#[115]⟩ : ByteArray)), .int .i64 64, .int .i64 128, .int .i64 0, .int .i64 29792, v7_, .int .i64 (-55), .int .u32 0]) ∧ Kd.R (Kd.int .u32) 22 w' w.heap.size (fun _ => True) v7_ [2, 16, 840, 1, 101, 3, 4, 3, 24] ∧ Below w.heap.size w w' := by
 have HG := Aside0.mk hG
 clear hG
 have hu37 := Tryz.underlying45
 have hu92 := Tryz.underlying119
 have HB := Aside0.mk (Below.refl w.heap.size w)
 have hix : ∀ W, (Instr.index 119 (.agg #[.int .i64 16, .int .i64 16, .int .i64 24, .int .i64 24, .int .i64 32, .int .i64 32]) (.int .i64 4)).run Tryz.prog W = .ok (.int .i64 32) W := fun W => by simp [Instr.index, run_underlying Tryz.underlying119, asIntOf, go_sem]
 have hsf : ∀ W, (Instr.slice 9 (.string ⟨#[115, 102]⟩) (some (.int .i64 0)) (some (.int .i64 1)) none).run Tryz.prog W = .ok (.string (⟨#[115]⟩ : ByteArray)) W := fun W => by rw [run_slice_string W 9 _ .i64 .i64 0 1 Tryz.underlying9 (by omega) (by omega) (by decide)]; congr 2
 go_enter Tryz.func36, Tryz.ntmps36
 go_wp2_with (((with_reducible refine gate_dst (N := 2) rfl ?_); refine box_event ?hg (N := 2) ?hd (cs := #[.int .i64 0, .int .i64 0, .string (⟨#[]⟩ : ByteArray), .int .i64 0, .int .i64 0, .int .i64 0, .int .i64 0, .slice none 0 0, .int .i64 0, .int .u32 0]) (t := 45) ?hr ?_; (case hd => rfl); (case hg => rfl); (case hr => first | (go_simp; done) | (go_simp; rfl)); intro gb hg w5 hbox hb; have n0_ := Aside0.mk (below_step q30_ hb); have n1_ := Aside0.mk (hbox); have n2_ := Aside0.mk ((by rw [hg]; exact (below_size q30_) : w.heap.size ≤ gb)); clear HB; have HB := n0_; have BK := n1_; have GE := n2_; clear n0_ n1_ n2_; clear hb hbox hg))
 have BK2 : (w5.alloc (Obj.cells #[.int .i64 7856, .int .i64 17088, .int .i64 16224, .int .i64 35664, .int .i64 29792, .int .i64 49856] 119)).heap[gb]? = some (.cells #[.int .i64 0, .int .i64 0, .string (⟨#[]⟩ : ByteArray), .int .i64 0, .int .i64 0, .int .i64 0, .int .i64 0, .slice none 0 0, .int .i64 0, .int .u32 0] 45 (0, 0)) := blk_alloc BK.out _
 have BA2 : (w5.alloc (Obj.cells #[.int .i64 7856, .int .i64 17088, .int .i64 16224, .int .i64 35664, .int .i64 29792, .int .i64 49856] 119)).heap[w5.heap.size]? = some (.cells #[.int .i64 7856, .int .i64 17088, .int .i64 16224, .int .i64 35664, .int .i64 29792, .int .i64 49856] 119 (0, 0)) := blk_new w5 (Obj.cells #[.int .i64 7856, .int .i64 17088, .int .i64 16224, .int .i64 35664, .int .i64 29792, .int .i64 49856] 119)
 have HB2 : Below w.heap.size w (w5.alloc (Obj.cells #[.int .i64 7856, .int .i64 17088, .int .i64 16224, .int .i64 35664, .int .i64 29792, .int .i64 49856] 119)) := below_alloc HB.out _
 generalize (w5.alloc (Obj.cells #[.int .i64 7856, .int .i64 17088, .int .i64 16224, .int .i64 35664, .int .i64 29792, .int .i64 49856] 119)) = W1 at BK2 BA2 HB2 ⊢
 generalize w5.heap.size = ga at BA2 ⊢
 clear BK HB hix
 have BK := Aside0.mk BK2
 have BA := Aside0.mk BA2
 have HB := Aside0.mk HB2
 clear BK2 BA2 HB2
 have hx : W1.cell? ⟨ga, 4, none⟩ = some (.int .i64 29792) := (blk_cell BA.out 4).trans rfl
 have hwm55 : IntKind.i64.wrap (-55) = -55 := by decide
 have hw0 : IntKind.i64.wrap (0) = 0 := by decide
 have hw1 : IntKind.i64.wrap (1) = 1 := by decide
 have hw24 : IntKind.i64.wrap (24) = 24 := by decide
 have hw64 : IntKind.i64.wrap (64) = 64 := by decide
 have hw128 : IntKind.i64.wrap (128) = 128 := by decide
 have hw256 : IntKind.i64.wrap (256) = 256 := by decide
 go_region_with (first | (go_at_call 59; (with_reducible refine (strconv_Itoa.calls 256 (⟨#[50, 53, 54]⟩ : ByteArray) _ (by kernel_rfl) (GOK.below HG.out q28_)).mono ?_); rintro e w6 ⟨rfl, hb⟩; have n0_ := Aside0.mk (blk_below (g := gb) (o := .cells #[.int .i64 0, .int .i64 0, .string (⟨#[]⟩ : ByteArray), .int .i64 0, .int .i64 0, .int .i64 0, .int .i64 0, .slice none 0 0, .int .i64 0, .int .u32 0] 45 (0, 0)) q42_ hb); have n1_ := Aside0.mk (below_step q28_ hb); have n3_ := Aside0.mk (blk_below (g := ga) (o := .cells #[.int .i64 7856, .int .i64 17088, .int .i64 16224, .int .i64 35664, .int .i64 29792, .int .i64 49856] 119 (0, 0)) q43_ hb); clear BK; clear HB; clear BA; have BK := n0_; have HB := n1_; have BA := n3_; clear n0_ n1_ n3_; clear hb; have hx2 : w6.cell? ⟨ga, 4, none⟩ = some (.int .i64 29792) := (blk_cell BA.out 4).trans rfl) | (go_at_call 39; (with_reducible refine (params_nist.calls 3 24 [2, 16, 840, 1, 101, 3, 4, 3, 24] _ (by kernel_rfl)).mono ?_); rintro e w6 ⟨v_, rfl, ho0, hb⟩; have n0_ := Aside0.mk (blk_below (g := gb) (o := .cells #[.int .i64 0, .int .i64 0, .string (⟨#[]⟩ : ByteArray), .int .i64 0, .int .i64 0, .int .i64 0, .int .i64 0, .slice none 0 0, .int .i64 0, .int .u32 0] 45 (0, 0)) q42_ hb); have n1_ := Aside0.mk (below_step q28_ hb); have n3_ := Aside0.mk (blk_below (g := ga) (o := .cells #[.int .i64 7856, .int .i64 17088, .int .i64 16224, .int .i64 35664, .int .i64 29792, .int .i64 49856] 119 (0, 0)) q43_ hb); have n2_ := Aside0.mk (Kd.R_lower ho0 (below_size q28_)); clear BK; clear HB; clear BA; have BK := n0_; have HB := n1_; have BA := n3_; clear n0_ n1_ n3_; clear hb; have hx2 : w6.cell? ⟨ga, 4, none⟩ = some (.int .i64 29792) := (blk_cell BA.out 4).trans rfl; have HO := n2_; clear n2_ ho0; obtain ⟨Ao8, co8, eo8⟩ := Kd.R_slice HO.out; subst eo8; obtain ⟨hcz_0, hcz_1, hcz_2, hcz_3, hcz_4, hcz_5, hcz_6, hcz_7, hcz_8, hcz_9⟩ := cells10_ BK.out; obtain ⟨hfz_0, hfz_1, hfz_2, hfz_3, hfz_4, hfz_5, hfz_6, hfz_7, hfz_8, hfz_9⟩ := frz10_ BK.out))
 all_goals
  go_wp2
  refine bodyPost_ret (results_cell_row rfl _ _ gb 45 #[.int .i64 0, .int .i64 3, .string ((⟨#[83, 76, 72, 45, 68, 83, 65, 45, 83, 72, 65, 50, 45]⟩ : ByteArray) ++ (⟨#[50, 53, 54]⟩ : ByteArray) ++ (⟨#[115]⟩ : ByteArray)), .int .i64 64, .int .i64 128, .int .i64 0, .int .i64 29792, .slice Ao8 9 co8, .int .i64 (-55), .int .u32 0] (0, 0) _ rfl q31_ Tryz.underlying45 rfl (by kernel_rfl)) rfl ?_
  exact ⟨_, rfl, by (with_reducible repeat (first | apply Kd.R_alloc | apply Kd.R_drewN | apply Kd.R_drew)); exact farR_0123456789_ (Kd.R_types HO.out BK.out (by decide)), q28_⟩
set_option maxHeartbeats 16000000 in
set_option maxRecDepth 100000 in
theorem slh_12 (w : World) (hG : GOK w) : Calls Tryz.prog 36 #[.int .i64 12] w fun e w' => ∃ v7_ : Value, e = .returned (.agg #[.int .i64 0, .int .i64 3, .string ((⟨#[83, 76, 72, 45, 68, 83, 65, 45, 83, 72, 65, 50, 45]⟩ : ByteArray) ++ (⟨#[50, 53, 54]⟩ : ByteArray) ++ (⟨#[102]⟩ : ByteArray)), .int .i64 64, .int .i64 128, .int .i64 0, .int .i64 49856, v7_, .int .i64 (-56), .int .u32 0]) ∧ Kd.R (Kd.int .u32) 22 w' w.heap.size (fun _ => True) v7_ [2, 16, 840, 1, 101, 3, 4, 3, 25] ∧ Below w.heap.size w w' := by
 have HG := Aside0.mk hG
 clear hG
 have hu37 := Tryz.underlying45
 have hu92 := Tryz.underlying119
 have HB := Aside0.mk (Below.refl w.heap.size w)
 have hix : ∀ W, (Instr.index 119 (.agg #[.int .i64 16, .int .i64 16, .int .i64 24, .int .i64 24, .int .i64 32, .int .i64 32]) (.int .i64 5)).run Tryz.prog W = .ok (.int .i64 32) W := fun W => by simp [Instr.index, run_underlying Tryz.underlying119, asIntOf, go_sem]
 have hsf : ∀ W, (Instr.slice 9 (.string ⟨#[115, 102]⟩) (some (.int .i64 1)) (some (.int .i64 2)) none).run Tryz.prog W = .ok (.string (⟨#[102]⟩ : ByteArray)) W := fun W => by rw [run_slice_string W 9 _ .i64 .i64 1 2 Tryz.underlying9 (by omega) (by omega) (by decide)]; congr 2
 go_enter Tryz.func36, Tryz.ntmps36
 go_wp2_with (((with_reducible refine gate_dst (N := 2) rfl ?_); refine box_event ?hg (N := 2) ?hd (cs := #[.int .i64 0, .int .i64 0, .string (⟨#[]⟩ : ByteArray), .int .i64 0, .int .i64 0, .int .i64 0, .int .i64 0, .slice none 0 0, .int .i64 0, .int .u32 0]) (t := 45) ?hr ?_; (case hd => rfl); (case hg => rfl); (case hr => first | (go_simp; done) | (go_simp; rfl)); intro gb hg w5 hbox hb; have n0_ := Aside0.mk (below_step q30_ hb); have n1_ := Aside0.mk (hbox); have n2_ := Aside0.mk ((by rw [hg]; exact (below_size q30_) : w.heap.size ≤ gb)); clear HB; have HB := n0_; have BK := n1_; have GE := n2_; clear n0_ n1_ n2_; clear hb hbox hg))
 have BK2 : (w5.alloc (Obj.cells #[.int .i64 7856, .int .i64 17088, .int .i64 16224, .int .i64 35664, .int .i64 29792, .int .i64 49856] 119)).heap[gb]? = some (.cells #[.int .i64 0, .int .i64 0, .string (⟨#[]⟩ : ByteArray), .int .i64 0, .int .i64 0, .int .i64 0, .int .i64 0, .slice none 0 0, .int .i64 0, .int .u32 0] 45 (0, 0)) := blk_alloc BK.out _
 have BA2 : (w5.alloc (Obj.cells #[.int .i64 7856, .int .i64 17088, .int .i64 16224, .int .i64 35664, .int .i64 29792, .int .i64 49856] 119)).heap[w5.heap.size]? = some (.cells #[.int .i64 7856, .int .i64 17088, .int .i64 16224, .int .i64 35664, .int .i64 29792, .int .i64 49856] 119 (0, 0)) := blk_new w5 (Obj.cells #[.int .i64 7856, .int .i64 17088, .int .i64 16224, .int .i64 35664, .int .i64 29792, .int .i64 49856] 119)
 have HB2 : Below w.heap.size w (w5.alloc (Obj.cells #[.int .i64 7856, .int .i64 17088, .int .i64 16224, .int .i64 35664, .int .i64 29792, .int .i64 49856] 119)) := below_alloc HB.out _
 generalize (w5.alloc (Obj.cells #[.int .i64 7856, .int .i64 17088, .int .i64 16224, .int .i64 35664, .int .i64 29792, .int .i64 49856] 119)) = W1 at BK2 BA2 HB2 ⊢
 generalize w5.heap.size = ga at BA2 ⊢
 clear BK HB hix
 have BK := Aside0.mk BK2
 have BA := Aside0.mk BA2
 have HB := Aside0.mk HB2
 clear BK2 BA2 HB2
 have hx : W1.cell? ⟨ga, 5, none⟩ = some (.int .i64 49856) := (blk_cell BA.out 5).trans rfl
 have hwm56 : IntKind.i64.wrap (-56) = -56 := by decide
 have hw0 : IntKind.i64.wrap (0) = 0 := by decide
 have hw1 : IntKind.i64.wrap (1) = 1 := by decide
 have hw2 : IntKind.i64.wrap (2) = 2 := by decide
 have hw25 : IntKind.i64.wrap (25) = 25 := by decide
 have hw64 : IntKind.i64.wrap (64) = 64 := by decide
 have hw128 : IntKind.i64.wrap (128) = 128 := by decide
 have hw256 : IntKind.i64.wrap (256) = 256 := by decide
 go_region_with (first | (go_at_call 59; (with_reducible refine (strconv_Itoa.calls 256 (⟨#[50, 53, 54]⟩ : ByteArray) _ (by kernel_rfl) (GOK.below HG.out q28_)).mono ?_); rintro e w6 ⟨rfl, hb⟩; have n0_ := Aside0.mk (blk_below (g := gb) (o := .cells #[.int .i64 0, .int .i64 0, .string (⟨#[]⟩ : ByteArray), .int .i64 0, .int .i64 0, .int .i64 0, .int .i64 0, .slice none 0 0, .int .i64 0, .int .u32 0] 45 (0, 0)) q42_ hb); have n1_ := Aside0.mk (below_step q28_ hb); have n3_ := Aside0.mk (blk_below (g := ga) (o := .cells #[.int .i64 7856, .int .i64 17088, .int .i64 16224, .int .i64 35664, .int .i64 29792, .int .i64 49856] 119 (0, 0)) q43_ hb); clear BK; clear HB; clear BA; have BK := n0_; have HB := n1_; have BA := n3_; clear n0_ n1_ n3_; clear hb; have hx2 : w6.cell? ⟨ga, 5, none⟩ = some (.int .i64 49856) := (blk_cell BA.out 5).trans rfl) | (go_at_call 39; (with_reducible refine (params_nist.calls 3 25 [2, 16, 840, 1, 101, 3, 4, 3, 25] _ (by kernel_rfl)).mono ?_); rintro e w6 ⟨v_, rfl, ho0, hb⟩; have n0_ := Aside0.mk (blk_below (g := gb) (o := .cells #[.int .i64 0, .int .i64 0, .string (⟨#[]⟩ : ByteArray), .int .i64 0, .int .i64 0, .int .i64 0, .int .i64 0, .slice none 0 0, .int .i64 0, .int .u32 0] 45 (0, 0)) q42_ hb); have n1_ := Aside0.mk (below_step q28_ hb); have n3_ := Aside0.mk (blk_below (g := ga) (o := .cells #[.int .i64 7856, .int .i64 17088, .int .i64 16224, .int .i64 35664, .int .i64 29792, .int .i64 49856] 119 (0, 0)) q43_ hb); have n2_ := Aside0.mk (Kd.R_lower ho0 (below_size q28_)); clear BK; clear HB; clear BA; have BK := n0_; have HB := n1_; have BA := n3_; clear n0_ n1_ n3_; clear hb; have hx2 : w6.cell? ⟨ga, 5, none⟩ = some (.int .i64 49856) := (blk_cell BA.out 5).trans rfl; have HO := n2_; clear n2_ ho0; obtain ⟨Ao8, co8, eo8⟩ := Kd.R_slice HO.out; subst eo8; obtain ⟨hcz_0, hcz_1, hcz_2, hcz_3, hcz_4, hcz_5, hcz_6, hcz_7, hcz_8, hcz_9⟩ := cells10_ BK.out; obtain ⟨hfz_0, hfz_1, hfz_2, hfz_3, hfz_4, hfz_5, hfz_6, hfz_7, hfz_8, hfz_9⟩ := frz10_ BK.out))
 all_goals
  go_wp2
  refine bodyPost_ret (results_cell_row rfl _ _ gb 45 #[.int .i64 0, .int .i64 3, .string ((⟨#[83, 76, 72, 45, 68, 83, 65, 45, 83, 72, 65, 50, 45]⟩ : ByteArray) ++ (⟨#[50, 53, 54]⟩ : ByteArray) ++ (⟨#[102]⟩ : ByteArray)), .int .i64 64, .int .i64 128, .int .i64 0, .int .i64 49856, .slice Ao8 9 co8, .int .i64 (-56), .int .u32 0] (0, 0) _ rfl q31_ Tryz.underlying45 rfl (by kernel_rfl)) rfl ?_
  exact ⟨_, rfl, by (with_reducible repeat (first | apply Kd.R_alloc | apply Kd.R_drewN | apply Kd.R_drew)); exact farR_0123456789_ (Kd.R_types HO.out BK.out (by decide)), q28_⟩
 end Go.Proofs.YtgmnknhfeoleaaaGreatDoor.PXmss
