import Derived.Test.YtgmnknhfeoleaaaGreatDoorZQ
import Derived.Test.YtgmnknhfeoleaaaGreatDoorZSq
import Derived.Test.YtgmnknhfeoleaaaGreatDoorZPXmssx0
import Derived.Test.YtgmnknhfeoleaaaGreatDoorZPXmssx3
namespace Go.Proofs.YtgmnknhfeoleaaaGreatDoor.PXmss
open Go.RowKit Go.Proofs.YtgmnknhfeoleaaaGreatDoorW.PrintWords Go.Proofs.YtgmnknhfeoleaaaGreatDoorW.PrintLast Go.Proofs.YtgmnknhfeoleaaaGreatDoorW.PrintMore
attribute [local go_sem] max2_int min2_int max_two min_two max_three min_three max_four min_four
set_option linter.unusedVariables false
set_option linter.unusedSimpArgs false
def params_kem.f (a0 : Int) : Option (Int × Int × ByteArray × Int × Int × Int × Int × List Int × Int × Int) := (strconv_Itoa.f (wrap64 (256 * (wrap64 (a0 + 1))))).bind fun t105 => (if 7 + t105.size ≤ 9223372036854775807 then ((params_nist.f 4 a0).bind fun t106 => (some (0, 1, (⟨#[77, 76, 45, 75, 69, 77, 45]⟩ : ByteArray) ++ t105, wrap64 ((wrap64 (384 * (wrap64 (a0 + 1)))) + 32), wrap64 ((wrap64 (768 * (wrap64 (a0 + 1)))) + 96), 64, 0, t106, wrap64 ((-110) - a0), 0))) else (none))
set_option maxHeartbeats 8000000 in
set_option maxRecDepth 100000 in
theorem params_kem.calls (a0 : Int) (r1 : Int) (r2 : Int) (r3 : ByteArray) (r4 : Int) (r5 : Int) (r6 : Int) (r7 : Int) (r8 : List Int) (r9 : Int) (r10 : Int) (w : World) (h : params_kem.f a0 = some (r1, r2, r3, r4, r5, r6, r7, r8, r9, r10)) (hG : GOK w) :
  Calls Tryz.prog 35 #[.int .i64 a0] w fun e w' => ∃ v7_ : Value, e = .returned (.agg #[.int .i64 r1, .int .i64 r2, .string r3, .int .i64 r4, .int .i64 r5, .int .i64 r6, .int .i64 r7, v7_, .int .i64 r9, .int .u32 r10]) ∧ Kd.R (Kd.int .u32) 22 w' w.heap.size (fun _ => True) v7_ r8 ∧ Below w.heap.size w w' := by
 have HG := Aside0.mk hG
 clear hG
 have hu45 := Tryz.underlying45
 have HB := Aside0.mk (Below.refl w.heap.size w)
 have H : ((strconv_Itoa.f (wrap64 (256 * (wrap64 (a0 + 1))))).bind fun t105 => (if 7 + t105.size ≤ 9223372036854775807 then ((params_nist.f 4 a0).bind fun t106 => (some (0, 1, (⟨#[77, 76, 45, 75, 69, 77, 45]⟩ : ByteArray) ++ t105, wrap64 ((wrap64 (384 * (wrap64 (a0 + 1)))) + 32), wrap64 ((wrap64 (768 * (wrap64 (a0 + 1)))) + 96), 64, 0, t106, wrap64 ((-110) - a0), 0))) else (none))) = some (r1, r2, r3, r4, r5, r6, r7, r8, r9, r10) := h
 clear h
 replace H := Option.bind_eq_some_iff.mp H
 obtain ⟨t105, A20, H⟩ := H
 replace H : (if 7 + t105.size ≤ 9223372036854775807 then ((params_nist.f 4 a0).bind fun t106 => (some (0, 1, (⟨#[77, 76, 45, 75, 69, 77, 45]⟩ : ByteArray) ++ t105, wrap64 ((wrap64 (384 * (wrap64 (a0 + 1)))) + 32), wrap64 ((wrap64 (768 * (wrap64 (a0 + 1)))) + 96), 64, 0, t106, wrap64 ((-110) - a0), 0))) else (none)) = some (r1, r2, r3, r4, r5, r6, r7, r8, r9, r10) := H
 have A2 := Aside0.mk A20
 clear A20
 by_cases c3 : 7 + t105.size ≤ 9223372036854775807
 ·rw [if_pos c3] at H
  have c3b0 := eq_true c3
  have c3b1 : decide (7 + t105.size ≤ 9223372036854775807) = true := decide_eq_true c3
  try have c3b2 : (9223372036854775807 < 7 + t105.size) = False := eq_false (Nat.not_lt.2 c3)
  replace H := Option.bind_eq_some_iff.mp H
  obtain ⟨t106, A40, H⟩ := H
  replace H : (some (0, 1, (⟨#[77, 76, 45, 75, 69, 77, 45]⟩ : ByteArray) ++ t105, wrap64 ((wrap64 (384 * (wrap64 (a0 + 1)))) + 32), wrap64 ((wrap64 (768 * (wrap64 (a0 + 1)))) + 96), 64, 0, t106, wrap64 ((-110) - a0), 0)) = some (r1, r2, r3, r4, r5, r6, r7, r8, r9, r10) := H
  have A4 := Aside0.mk A40
  clear A40
  simp only [Option.some.injEq, Prod.mk.injEq] at H
  obtain ⟨rfl, rfl, rfl, rfl, rfl, rfl, rfl, rfl, rfl, rfl⟩ := H
  go_enter Tryz.func35, Tryz.ntmps35
  go_wp2_with (first | ((with_reducible refine gate_dst (N := 2) rfl ?_); refine box_event ?hg (N := 2) ?hd (cs := #[.int .i64 0, .int .i64 0, .string (⟨#[]⟩ : ByteArray), .int .i64 0, .int .i64 0, .int .i64 0, .int .i64 0, .slice none 0 0, .int .i64 0, .int .u32 0]) (t := 45) ?hr ?_; (case hd => rfl); (case hg => rfl); (case hr => first | (go_simp; done) | (go_simp; rfl)); intro gb104 hg w5 hbox hb; have n0_ := Aside0.mk (below_step q30_ hb); have n1_ := Aside0.mk (hbox); have n2_ := Aside0.mk ((by rw [hg]; exact (below_size q30_) : w.heap.size ≤ gb104)); have n3_ := Aside0.mk ((by rw [hg]; exact (below_size q30_) : w.heap.size ≤ gb104)); clear HB; have HB := n0_; have BK104 := n1_; have GW104 := n2_; have GE104 := n3_; clear n0_ n1_ n2_ n3_; clear hb hbox hg) | ((with_reducible refine gate_callee (f := 59) rfl ?_); refine goesL_ (some 8) rfl rfl Tryz.func59 (by kernel_rfl) rfl #[.int .i64 (wrap64 (256 * (wrap64 (a0 + 1))))] rfl q29_ ?_; (with_reducible refine (strconv_Itoa.calls (wrap64 (256 * (wrap64 (a0 + 1)))) t105 _ A2.out (by first | exact GOK.below HG.out q27_ | (repeat (first | exact HG.out | apply GOK.drewN | apply GOK.drew)))).mono ?_); rintro e w6 ⟨rfl, hb⟩; refine ⟨_, rfl, ?_⟩; have n0_ := Aside0.mk (blk_below (g := gb104) (o := .cells #[.int .i64 0, .int .i64 0, .string (⟨#[]⟩ : ByteArray), .int .i64 0, .int .i64 0, .int .i64 0, .int .i64 0, .slice none 0 0, .int .i64 0, .int .u32 0] 45 (0, 0)) (by (with_reducible repeat (first | refine blk_drewN ?_ _ | refine blk_drew ?_ | refine blk_alloc ?_ _)); exact BK104.out) hb); have n1_ := Aside0.mk (below_step q27_ hb); clear BK104; clear HB; have BK104 := n0_; have HB := n1_; clear n0_ n1_; (try clear hb); (try clear hb2); (try clear hk); (try clear hi)) | ((with_reducible refine gate_callee (f := 39) rfl ?_); refine goesL_ (some 17) rfl rfl Tryz.func39 (by kernel_rfl) rfl #[.int .i64 4, .int .i64 a0] rfl q29_ ?_; (with_reducible refine (params_nist.calls 4 a0 t106 _ A4.out).mono ?_); rintro e w7 ⟨v107, rfl, ho0, hb⟩; refine ⟨_, rfl, ?_⟩; have n0_ := Aside0.mk (Kd.R_lower ho0 (below_size q27_)); have n1_ := Aside0.mk (blk_below (g := gb104) (o := .cells #[.int .i64 0, .int .i64 0, .string (⟨#[]⟩ : ByteArray), .int .i64 0, .int .i64 0, .int .i64 0, .int .i64 0, .slice none 0 0, .int .i64 0, .int .u32 0] 45 (0, 0)) (by (with_reducible repeat (first | refine blk_drewN ?_ _ | refine blk_drew ?_ | refine blk_alloc ?_ _)); exact BK104.out) hb); have n2_ := Aside0.mk (below_step q27_ hb); clear BK104; clear HB; have HO108 := n0_; have BK104 := n1_; have HB := n2_; clear n0_ n1_ n2_; (try clear hb); (try clear hb2); (try clear hk); (try clear hi); (try clear ho0); obtain ⟨Ao8, co8, eo8⟩ := Kd.R_slice HO108.out; subst eo8; obtain ⟨hcz9_0, hcz9_1, hcz9_2, hcz9_3, hcz9_4, hcz9_5, hcz9_6, hcz9_7, hcz9_8, hcz9_9⟩ := cells10_ BK104.out; obtain ⟨hfz9_0, hfz9_1, hfz9_2, hfz9_3, hfz9_4, hfz9_5, hfz9_6, hfz9_7, hfz9_8, hfz9_9⟩ := frz10_ BK104.out))
  refine bodyPost_ret (results_cell_row rfl _ _ gb104 45 #[.int .i64 0, .int .i64 1, .string ((⟨#[77, 76, 45, 75, 69, 77, 45]⟩ : ByteArray) ++ t105), .int .i64 (wrap64 ((wrap64 (384 * (wrap64 (a0 + 1)))) + 32)), .int .i64 (wrap64 ((wrap64 (768 * (wrap64 (a0 + 1)))) + 96)), .int .i64 64, .int .i64 0, .slice Ao8 t106.length co8, .int .i64 (wrap64 ((-110) - a0)), .int .u32 0] (0, 0) _ rfl (by (with_reducible repeat (first | refine blk_drewN ?_ _ | refine blk_drew ?_ | refine blk_alloc ?_ _)); exact set10_0123456789_ BK104.out) Tryz.underlying45 rfl (by kernel_rfl)) rfl ?_
  exact ⟨_, by first | rfl | (simp [errW_none, errW_some] <;> rfl) | (simp [*, errW_none, errW_some] <;> rfl), by (with_reducible repeat (first | apply Kd.R_alloc | apply Kd.R_drewN | apply Kd.R_drew)); exact farR_0123456789_ (Kd.R_types HO108.out BK104.out (by decide)), by repeat (first | (with_reducible first | exact HB.out | apply below_alloc | apply pw_below_drewN | apply below_drew1 | refine below_set ?_ GE104.out) | exact HB.out)⟩
 ·rw [if_neg c3] at H
  exact absurd H (by simp)
end Go.Proofs.YtgmnknhfeoleaaaGreatDoor.PXmss
