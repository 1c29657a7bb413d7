import Derived.Test.YtgmnknhfeoleaaaGreatDoorZQ
import Derived.Test.YtgmnknhfeoleaaaGreatDoorZSq
import Derived.Test.YtgmnknhfeoleaaaGreatDoorZPXmssx0
import Derived.Test.YtgmnknhfeoleaaaGreatDoorZPXmssx3
import Derived.Test.YtgmnknhfeoleaaaGreatDoorZPXmssx4
import Derived.Test.YtgmnknhfeoleaaaGreatDoorZPXmssx5
import Derived.Test.YtgmnknhfeoleaaaGreatDoorZPXmssx11
import Derived.Test.YtgmnknhfeoleaaaGreatDoorZPXmssx12
namespace Go.Proofs.YtgmnknhfeoleaaaGreatDoor.PXmss
open Go.RowKit Go.Proofs.YtgmnknhfeoleaaaGreatDoorW.PrintWords Go.Proofs.YtgmnknhfeoleaaaGreatDoorW.PrintLast Go.Proofs.YtgmnknhfeoleaaaGreatDoorW.PrintMore
attribute [local go_sem] max2_int min2_int max_two min_two max_three min_three max_four min_four
set_option linter.unusedVariables false
set_option linter.unusedSimpArgs false
mutual
def params_Get.j1 : Nat → Int → Int → Int → ByteArray → Int → Int → Int → Int → List Int → Int → Int → Option (Int × Int × ByteArray × Int × Int × Int × Int × List Int × Int × Int × Bool)
 | 0, _, _, _, _, _, _, _, _, _, _, _ => none
 | k + 1, x0, x122000, x122001, x122002, x122003, x122004, x122005, x122006, x122007, x122008, x122009 => if x0 = 4 then ((params_nist.f 3 (wrap64 (x0 + 13))).bind fun t161 => (some (x0, 2, x122002, x122003, x122004, 32, x122006, t161, wrap64 ((-44) - x0), x122009, true))) else (if x0 = 5 then ((params_nist.f 3 (wrap64 (x0 + 13))).bind fun t164 => (some (x0, 2, x122002, x122003, x122004, 32, x122006, t164, wrap64 ((-44) - x0), x122009, true))) else (if x0 = 6 then ((params_nist.f 3 (wrap64 (x0 + 13))).bind fun t167 => (some (x0, 2, x122002, x122003, x122004, 32, x122006, t167, wrap64 ((-44) - x0), x122009, true))) else (some (x0, x122001, x122002, x122003, x122004, x122005, x122006, x122007, x122008, x122009, true))))
def params_Get.j0 : Nat → Int → Bool → Int → Int → ByteArray → Int → Int → Int → Int → Int → Int → Option (Int × Int × ByteArray × Int × Int × Int × Int × List Int × Int × Int × Bool)
 | 0, _, _, _, _, _, _, _, _, _, _, _ => none
 | k + 1, x0, x7, x122000, x122001, x122002, x122003, x122004, x122005, x122006, x122008, x122009 => if x7 = true then (some (x122000, x122001, x122002, x122003, x122004, x122005, x122006, ([] : List Int), x122008, x122009, false)) else (if x0 ≤ 3 then ((params_kem.f x0).bind fun bt122 => (params_Get.j1 k x0 bt122.1 bt122.2.1 bt122.2.2.1 bt122.2.2.2.1 bt122.2.2.2.2.1 bt122.2.2.2.2.2.1 bt122.2.2.2.2.2.2.1 bt122.2.2.2.2.2.2.2.1 bt122.2.2.2.2.2.2.2.2.1 bt122.2.2.2.2.2.2.2.2.2)) else (if x0 = 4 then (params_Get.j1 k x0 0 0 (⟨#[77, 76, 45, 68, 83, 65, 45, 52, 52]⟩ : ByteArray) 1312 2560 0 2420 ([] : List Int) 0 0) else (if x0 = 5 then (params_Get.j1 k x0 0 0 (⟨#[77, 76, 45, 68, 83, 65, 45, 54, 53]⟩ : ByteArray) 1952 4032 0 3309 ([] : List Int) 0 0) else (if x0 = 6 then (params_Get.j1 k x0 0 0 (⟨#[77, 76, 45, 68, 83, 65, 45, 56, 55]⟩ : ByteArray) 2592 4896 0 4627 ([] : List Int) 0 0) else (if x0 < 19 then ((params_slh.f x0).bind fun bt134 => (params_Get.j1 k x0 bt134.1 bt134.2.1 bt134.2.2.1 bt134.2.2.2.1 bt134.2.2.2.2.1 bt134.2.2.2.2.2.1 bt134.2.2.2.2.2.2.1 bt134.2.2.2.2.2.2.2.1 bt134.2.2.2.2.2.2.2.2.1 bt134.2.2.2.2.2.2.2.2.2)) else (if x0 = 19 then ((params_of.f k (⟨#[49, 46, 50, 46, 56, 52, 48, 46, 49, 49, 51, 53, 52, 57, 46, 49, 46, 57, 46, 49, 54, 46, 51, 46, 49, 55]⟩ : ByteArray)).bind fun t146 => (params_Get.j1 k x0 0 4 (⟨#[72, 83, 83, 47, 76, 77, 83]⟩ : ByteArray) 0 0 0 0 t146 0 0)) else ((params_xmss.f x0).bind fun bt149 => (params_Get.j1 k x0 bt149.1 bt149.2.1 bt149.2.2.1 bt149.2.2.2.1 bt149.2.2.2.2.1 bt149.2.2.2.2.2.1 bt149.2.2.2.2.2.2.1 bt149.2.2.2.2.2.2.2.1 bt149.2.2.2.2.2.2.2.2.1 bt149.2.2.2.2.2.2.2.2.2))))))))
end
def params_Get.f (k : Nat) (a0 : Int) : Option (Int × Int × ByteArray × Int × Int × Int × Int × List Int × Int × Int × Bool) := if a0 < 1 then (params_Get.j0 k a0 true 0 0 (⟨#[]⟩ : ByteArray) 0 0 0 0 0 0) else (params_Get.j0 k a0 (decide (a0 > 25)) 0 0 (⟨#[]⟩ : ByteArray) 0 0 0 0 0 0)
set_option maxHeartbeats 8000000 in
set_option maxRecDepth 100000 in
theorem params_Get.calls (k : Nat) (a0 : Int) (r1 : Int) (r2 : Int) (r3 : ByteArray) (r4 : Int) (r5 : Int) (r6 : Int) (r7 : Int) (r8 : List Int) (r9 : Int) (r10 : Int) (r11 : Bool) (w : World) (h : params_Get.f k a0 = some (r1, r2, r3, r4, r5, r6, r7, r8, r9, r10, r11)) (hG : GOK w) :
  Calls Tryz.prog 19 #[.int .i64 a0] w fun e w' => ∃ v7_ : Value, e = .returned (.tuple #[.agg #[.int .i64 r1, .int .i64 r2, .string r3, .int .i64 r4, .int .i64 r5, .int .i64 r6, .int .i64 r7, v7_, .int .i64 r9, .int .u32 r10], .bool r11]) ∧ Kd.R (Kd.int .u32) 22 w' w.heap.size (fun _ => True) v7_ r8 ∧ Below w.heap.size w w' := by
 have HG := Aside0.mk hG
 clear hG
 have hu45 := Tryz.underlying45
 have HB := Aside0.mk (Below.refl w.heap.size w)
 have H : (if a0 < 1 then (params_Get.j0 k a0 true 0 0 (⟨#[]⟩ : ByteArray) 0 0 0 0 0 0) else (params_Get.j0 k a0 (decide (a0 > 25)) 0 0 (⟨#[]⟩ : ByteArray) 0 0 0 0 0 0)) = some (r1, r2, r3, r4, r5, r6, r7, r8, r9, r10, r11) := h
 clear h
 have HC2 := Aside0.mk H
 clear H
 go_enter Tryz.func19, Tryz.ntmps19
 go_upto_block 0 with (first | ((with_reducible refine gate_dst (N := 2) rfl ?_); refine box_event ?hg (N := 2) ?hd (cs := #[.int .i64 0, .int .i64 0, .string (⟨#[]⟩ : ByteArray), .int .i64 0, .int .i64 0, .int .i64 0, .int .i64 0, .slice none 0 0, .int .i64 0, .int .u32 0]) (t := 45) ?hr ?_; (case hd => rfl); (case hg => rfl); (case hr => first | (go_simp; done) | (go_simp; rfl)); intro gb120 hg w3 hbox hb; have n0_ := Aside0.mk (below_step q30_ hb); have n1_ := Aside0.mk (hbox); have n2_ := Aside0.mk ((by rw [hg]; exact (below_size q30_) : w.heap.size ≤ gb120)); have n3_ := Aside0.mk ((by rw [hg]; exact (below_size q30_) : w.heap.size ≤ gb120)); clear HB; have HB := n0_; have BK120 := n1_; have GW120 := n2_; have GE120 := n3_; clear n0_ n1_ n2_ n3_; clear hb hbox hg) | ((with_reducible refine gate_dst (N := 4) rfl ?_); refine box_event ?hg (N := 4) ?hd (cs := #[.int .i64 0, .int .i64 0, .string (⟨#[]⟩ : ByteArray), .int .i64 0, .int .i64 0, .int .i64 0, .int .i64 0, .slice none 0 0, .int .i64 0, .int .u32 0]) (t := 45) ?hr ?_; (case hd => rfl); (case hg => rfl); (case hr => first | (go_simp; done) | (go_simp; rfl)); intro gb121 hg w4 hbox hb; have n0_ := Aside0.mk (blk_below (g := gb120) (o := .cells #[.int .i64 0, .int .i64 0, .string (⟨#[]⟩ : ByteArray), .int .i64 0, .int .i64 0, .int .i64 0, .int .i64 0, .slice none 0 0, .int .i64 0, .int .u32 0] 45 (0, 0)) q33_ hb); have n1_ := Aside0.mk (below_step q22_ hb); have n2_ := Aside0.mk (hbox); have n3_ := Aside0.mk ((by rw [hg]; exact (below_size q22_) : w.heap.size ≤ gb121)); have n4_ := Aside0.mk ((by rw [hg]; exact (below_size q22_) : w.heap.size ≤ gb121)); have n5_ := Aside0.mk ((by rw [hg]; exact Nat.ne_of_lt (blk_lt (g := gb120) (o := .cells #[.int .i64 0, .int .i64 0, .string (⟨#[]⟩ : ByteArray), .int .i64 0, .int .i64 0, .int .i64 0, .int .i64 0, .slice none 0 0, .int .i64 0, .int .u32 0] 45 (0, 0)) q33_) : gb120 ≠ gb121)); have n6_ := Aside0.mk ((by rw [hg]; exact Nat.ne_of_gt (blk_lt (g := gb120) (o := .cells #[.int .i64 0, .int .i64 0, .string (⟨#[]⟩ : ByteArray), .int .i64 0, .int .i64 0, .int .i64 0, .int .i64 0, .slice none 0 0, .int .i64 0, .int .u32 0] 45 (0, 0)) q33_) : gb121 ≠ gb120)); clear BK120; clear HB; have BK120 := n0_; have HB := n1_; have BK121 := n2_; have GW121 := n3_; have GE121 := n4_; have NB120_121 := n5_; have NB121_120 := n6_; clear n0_ n1_ n2_ n3_ n4_ n5_ n6_; clear hb hbox hg))
 (try simp only [Act.put, List.setIfInBounds_toArray, List.set_cons_zero, List.set_cons_succ])
 go_cut [] (fun wc => ∃ (kq : Nat) (x121000_1 : Int) (x121001_1 : Int) (x121002_1 : ByteArray) (x121003_1 : Int) (x121004_1 : Int) (x121005_1 : Int) (x121006_1 : Int) (x121008_1 : Int) (x121009_1 : Int) (x122000_1 : Int) (x122001_1 : Int) (x122002_1 : ByteArray) (x122003_1 : Int) (x122004_1 : Int) (x122005_1 : Int) (x122006_1 : Int) (x122007_1 : List Int) (x122008_1 : Int) (x122009_1 : Int) (u122007 : Value), Aside0 (params_Get.j1 kq a0 x122000_1 x122001_1 x122002_1 x122003_1 x122004_1 x122005_1 x122006_1 x122007_1 x122008_1 x122009_1 = some (r1, r2, r3, r4, r5, r6, r7, r8, r9, r10, r11)) ∧ Aside0 (kq ≤ k) ∧ Aside0 (Kd.R (Kd.int .u32) 22 wc w.heap.size (fun _ => True) u122007 x122007_1) ∧ Aside0 (wc.heap[gb120]? = some (.cells #[.int .i64 x121000_1, .int .i64 x121001_1, .string x121002_1, .int .i64 x121003_1, .int .i64 x121004_1, .int .i64 x121005_1, .int .i64 x121006_1, (.slice none 0 0), .int .i64 x121008_1, .int .u32 x121009_1] 45 (0, 0))) ∧ Aside0 (wc.heap[gb121]? = some (.cells #[.int .i64 x122000_1, .int .i64 x122001_1, .string x122002_1, .int .i64 x122003_1, .int .i64 x122004_1, .int .i64 x122005_1, .int .i64 x122006_1, u122007, .int .i64 x122008_1, .int .u32 x122009_1] 45 (0, 0))) ∧ Aside0 (Below w.heap.size w wc))
 case first =>
  have H := HC2.out
  clear HC2
  have HC5 := Aside0.mk H
  clear H
  go_upto_region 3 with (fail)
  go_cut [7] (fun v7 wc => ∃ (kq : Nat) (x7_4 : Bool), v7 = .bool x7_4 ∧ Aside0 (params_Get.j0 kq a0 x7_4 0 0 (⟨#[]⟩ : ByteArray) 0 0 0 0 0 0 = some (r1, r2, r3, r4, r5, r6, r7, r8, r9, r10, r11)) ∧ Aside0 (kq ≤ k) ∧ Aside0 (wc.heap[gb120]? = some (.cells #[.int .i64 0, .int .i64 0, .string (⟨#[]⟩ : ByteArray), .int .i64 0, .int .i64 0, .int .i64 0, .int .i64 0, (.slice none 0 0), .int .i64 0, .int .u32 0] 45 (0, 0))) ∧ Aside0 (wc.heap[gb121]? = some (.cells #[.int .i64 0, .int .i64 0, .string (⟨#[]⟩ : ByteArray), .int .i64 0, .int .i64 0, .int .i64 0, .int .i64 0, (.slice none 0 0), .int .i64 0, .int .u32 0] 45 (0, 0))) ∧ Aside0 (Below w.heap.size w wc))
  case first =>
   have H := HC5.out
   clear HC5
   by_cases c6 : a0 < 1
   ·rw [if_pos c6] at H
    have c6b0 : decide (a0 < 1) = true := decide_eq_true c6
    clear c6
    (first | rw [c6b0] | (simp only [i64_w, i32_w]; rw [c6b0]) | skip)
    have H' := Aside0.mk H
    clear H
    go_wp2
    go_meet
    case rel => exact ⟨_, (true), q64_, H', ⟨by first | omega | exact Nat.le_refl _⟩, ⟨by (with_reducible repeat (first | refine blk_drewN ?_ _ | refine blk_drew ?_ | refine blk_alloc ?_ _)); exact BK120.out⟩, ⟨by (with_reducible repeat (first | refine blk_drewN ?_ _ | refine blk_drew ?_ | refine blk_alloc ?_ _)); exact BK121.out⟩, ⟨by repeat (first | (with_reducible first | exact HB.out | apply below_alloc | apply pw_below_drewN | apply below_drew1 | refine below_set ?_ GE120.out | refine below_set ?_ GE121.out) | exact HB.out)⟩⟩
   ·rw [if_neg c6] at H
    have c6b0 : decide (a0 < 1) = false := decide_eq_false c6
    clear c6
    (first | rw [c6b0] | (simp only [i64_w, i32_w]; rw [c6b0]) | skip)
    have H' := Aside0.mk H
    clear H
    go_wp2
    go_meet
    case rel => exact ⟨_, (decide (a0 > 25)), q64_, H', ⟨by first | omega | exact Nat.le_refl _⟩, ⟨by (with_reducible repeat (first | refine blk_drewN ?_ _ | refine blk_drew ?_ | refine blk_alloc ?_ _)); exact BK120.out⟩, ⟨by (with_reducible repeat (first | refine blk_drewN ?_ _ | refine blk_drew ?_ | refine blk_alloc ?_ _)); exact BK121.out⟩, ⟨by repeat (first | (with_reducible first | exact HB.out | apply below_alloc | apply pw_below_drewN | apply below_drew1 | refine below_set ?_ GE120.out | refine below_set ?_ GE121.out) | exact HB.out)⟩⟩
  case rest =>
   clear HC5
   try clear c1
   try clear p2
   try clear c6
   try clear c6b0
   obtain ⟨kq, x7_4, rfl, HA, HJ4, BK120, BK121, HB⟩ := hcut
   cases kq with
   | zero => exact absurd HA.out (by simp [params_Get.j0])
   | succ kj4 =>
    have H := HA.out
    clear HA
    simp only [params_Get.j0] at H
    by_cases c7 : x7_4 = true
    ·subst c7
     have H1 : (some (0, 0, (⟨#[]⟩ : ByteArray), 0, 0, 0, 0, ([] : List Int), 0, 0, false)) = some (r1, r2, r3, r4, r5, r6, r7, r8, r9, r10, r11) := by rw [if_pos rfl] at H; exact H
     clear H
     have H := H1
     clear H1
     simp only [Option.some.injEq, Prod.mk.injEq] at H
     obtain ⟨rfl, rfl, rfl, rfl, rfl, rfl, rfl, rfl, rfl, rfl, rfl⟩ := H
     have hnb8 := NB121_120.out
     have hnc8 := NB120_121.out
     obtain ⟨hcz9_0, hcz9_1, hcz9_2, hcz9_3, hcz9_4, hcz9_5, hcz9_6, hcz9_7, hcz9_8, hcz9_9⟩ := cells10_ BK121.out
     obtain ⟨hfz9_0, hfz9_1, hfz9_2, hfz9_3, hfz9_4, hfz9_5, hfz9_6, hfz9_7, hfz9_8, hfz9_9⟩ := frz10_ BK121.out
     obtain ⟨hcz10_0, hcz10_1, hcz10_2, hcz10_3, hcz10_4, hcz10_5, hcz10_6, hcz10_7, hcz10_8, hcz10_9⟩ := cells10_ BK120.out
     obtain ⟨hfz10_0, hfz10_1, hfz10_2, hfz10_3, hfz10_4, hfz10_5, hfz10_6, hfz10_7, hfz10_8, hfz10_9⟩ := frz10_ BK120.out
     go_wp2
     refine bodyPost_ret (results_ct rfl _ _ gb120 45 #[.int .i64 0, .int .i64 0, .string (⟨#[]⟩ : ByteArray), .int .i64 0, .int .i64 0, .int .i64 0, .int .i64 0, .slice none 0 0, .int .i64 0, .int .u32 0] (0, 0) _ rfl (by (with_reducible repeat (first | refine blk_drewN ?_ _ | refine blk_drew ?_ | refine blk_alloc ?_ _)); exact set10_0123456789_ BK120.out) Tryz.underlying45 rfl (by kernel_rfl)) rfl ?_
     exact ⟨_, by first | rfl | (simp [errW_none, errW_some] <;> rfl) | (simp [*, errW_none, errW_some] <;> rfl), by first | exact Kd.R_nil _ _ _ _ _ | exact Kd.N_nil _ _ _ _ _ | exact Kd.V_nil _ _ _ _ _ | exact Kd.Q_nil _ _ _ _ _ | exact Kd.S_nil _ _ _ _ _, by repeat (first | (with_reducible first | exact HB.out | apply below_alloc | apply pw_below_drewN | apply below_drew1 | refine below_set ?_ GE120.out | refine below_set ?_ GE121.out) | exact HB.out)⟩
    ·replace c7 := Bool.eq_false_iff.mpr c7
     subst c7
     have H1 : (if a0 ≤ 3 then ((params_kem.f a0).bind fun bt122 => (params_Get.j1 kj4 a0 bt122.1 bt122.2.1 bt122.2.2.1 bt122.2.2.2.1 bt122.2.2.2.2.1 bt122.2.2.2.2.2.1 bt122.2.2.2.2.2.2.1 bt122.2.2.2.2.2.2.2.1 bt122.2.2.2.2.2.2.2.2.1 bt122.2.2.2.2.2.2.2.2.2)) else (if a0 = 4 then (params_Get.j1 kj4 a0 0 0 (⟨#[77, 76, 45, 68, 83, 65, 45, 52, 52]⟩ : ByteArray) 1312 2560 0 2420 ([] : List Int) 0 0) else (if a0 = 5 then (params_Get.j1 kj4 a0 0 0 (⟨#[77, 76, 45, 68, 83, 65, 45, 54, 53]⟩ : ByteArray) 1952 4032 0 3309 ([] : List Int) 0 0) else (if a0 = 6 then (params_Get.j1 kj4 a0 0 0 (⟨#[77, 76, 45, 68, 83, 65, 45, 56, 55]⟩ : ByteArray) 2592 4896 0 4627 ([] : List Int) 0 0) else (if a0 < 19 then ((params_slh.f a0).bind fun bt134 => (params_Get.j1 kj4 a0 bt134.1 bt134.2.1 bt134.2.2.1 bt134.2.2.2.1 bt134.2.2.2.2.1 bt134.2.2.2.2.2.1 bt134.2.2.2.2.2.2.1 bt134.2.2.2.2.2.2.2.1 bt134.2.2.2.2.2.2.2.2.1 bt134.2.2.2.2.2.2.2.2.2)) else (if a0 = 19 then ((params_of.f kj4 (⟨#[49, 46, 50, 46, 56, 52, 48, 46, 49, 49, 51, 53, 52, 57, 46, 49, 46, 57, 46, 49, 54, 46, 51, 46, 49, 55]⟩ : ByteArray)).bind fun t146 => (params_Get.j1 kj4 a0 0 4 (⟨#[72, 83, 83, 47, 76, 77, 83]⟩ : ByteArray) 0 0 0 0 t146 0 0)) else ((params_xmss.f a0).bind fun bt149 => (params_Get.j1 kj4 a0 bt149.1 bt149.2.1 bt149.2.2.1 bt149.2.2.2.1 bt149.2.2.2.2.1 bt149.2.2.2.2.2.1 bt149.2.2.2.2.2.2.1 bt149.2.2.2.2.2.2.2.1 bt149.2.2.2.2.2.2.2.2.1 bt149.2.2.2.2.2.2.2.2.2)))))))) = some (r1, r2, r3, r4, r5, r6, r7, r8, r9, r10, r11) := by rw [if_neg (show ¬ (false = true) by decide)] at H; exact H
     clear H
     have H := H1
     clear H1
     by_cases c11 : a0 ≤ 3
     ·rw [if_pos c11] at H
      have c11b0 : decide (a0 ≤ 3) = true := decide_eq_true c11
      clear c11
      replace H := Option.bind_eq_some_iff.mp H
      obtain ⟨⟨t122, t123, t124, t125, t126, t127, t128, t129, t132, t133⟩, A120, H⟩ := H
      replace H : (params_Get.j1 kj4 a0 t122 t123 t124 t125 t126 t127 t128 t129 t132 t133) = some (r1, r2, r3, r4, r5, r6, r7, r8, r9, r10, r11) := H
      have A12 := Aside0.mk A120
      clear A120
      have H' := Aside0.mk H
      clear H
      go_wp2_with (first | ((with_reducible refine gate_callee (f := 35) rfl ?_); refine goesL_ (some 19) rfl rfl Tryz.func35 (by kernel_rfl) rfl #[.int .i64 a0] rfl q29_ ?_; (with_reducible refine (params_kem.calls a0 t122 t123 t124 t125 t126 t127 t128 t129 t132 t133 _ A12.out q7_).mono ?_); rintro e w13 ⟨v130, rfl, ho0, hb⟩; refine ⟨_, rfl, ?_⟩; have n0_ := Aside0.mk (Kd.R_lower ho0 (below_size q12_)); have n1_ := Aside0.mk (blk_below (g := gb120) (o := .cells #[.int .i64 0, .int .i64 0, .string (⟨#[]⟩ : ByteArray), .int .i64 0, .int .i64 0, .int .i64 0, .int .i64 0, .slice none 0 0, .int .i64 0, .int .u32 0] 45 (0, 0)) q33_ hb); have n2_ := Aside0.mk (blk_below (g := gb121) (o := .cells #[.int .i64 0, .int .i64 0, .string (⟨#[]⟩ : ByteArray), .int .i64 0, .int .i64 0, .int .i64 0, .int .i64 0, .slice none 0 0, .int .i64 0, .int .u32 0] 45 (0, 0)) q34_ hb); have n3_ := Aside0.mk (below_step q12_ hb); clear BK120; clear BK121; clear HB; have HO131 := n0_; have BK120 := n1_; have BK121 := n2_; have HB := n3_; clear n0_ n1_ n2_ n3_; (try clear hb); (try clear hb2); (try clear hk); (try clear hi); (try clear ho0); have hnb14 := NB121_120.out; have hnc14 := NB120_121.out; obtain ⟨hcz15_0, hcz15_1, hcz15_2, hcz15_3, hcz15_4, hcz15_5, hcz15_6, hcz15_7, hcz15_8, hcz15_9⟩ := cells10_ BK121.out; obtain ⟨hfz15_0, hfz15_1, hfz15_2, hfz15_3, hfz15_4, hfz15_5, hfz15_6, hfz15_7, hfz15_8, hfz15_9⟩ := frz10_ BK121.out; obtain ⟨Ao16, co16, eo16⟩ := Kd.R_slice HO131.out; subst eo16))
      go_meet
      case rel => exact ⟨_, (0), (0), ((⟨#[]⟩ : ByteArray)), (0), (0), (0), (0), (0), (0), (t122), (t123), (t124), (t125), (t126), (t127), (t128), (t129), (t132), (t133), (.slice Ao16 t129.length co16), H', ⟨by have := HJ4.out; first | omega | exact Nat.le_refl _⟩, ⟨by (with_reducible repeat (first | apply Kd.R_alloc | apply Kd.R_drewN | apply Kd.R_drew)); exact farR_0123456789_ (Kd.R_types HO131.out BK121.out (by decide))⟩, ⟨by (with_reducible repeat (first | refine blk_drewN ?_ _ | refine blk_drew ?_ | refine blk_alloc ?_ _)); refine blk_far ?_ NB120_121.out _; (with_reducible repeat (first | refine blk_drewN ?_ _ | refine blk_drew ?_ | refine blk_alloc ?_ _)); refine blk_far ?_ NB120_121.out _; (with_reducible repeat (first | refine blk_drewN ?_ _ | refine blk_drew ?_ | refine blk_alloc ?_ _)); refine blk_far ?_ NB120_121.out _; (with_reducible repeat (first | refine blk_drewN ?_ _ | refine blk_drew ?_ | refine blk_alloc ?_ _)); refine blk_far ?_ NB120_121.out _; (with_reducible repeat (first | refine blk_drewN ?_ _ | refine blk_drew ?_ | refine blk_alloc ?_ _)); refine blk_far ?_ NB120_121.out _; (with_reducible repeat (first | refine blk_drewN ?_ _ | refine blk_drew ?_ | refine blk_alloc ?_ _)); refine blk_far ?_ NB120_121.out _; (with_reducible repeat (first | refine blk_drewN ?_ _ | refine blk_drew ?_ | refine blk_alloc ?_ _)); refine blk_far ?_ NB120_121.out _; (with_reducible repeat (first | refine blk_drewN ?_ _ | refine blk_drew ?_ | refine blk_alloc ?_ _)); refine blk_far ?_ NB120_121.out _; (with_reducible repeat (first | refine blk_drewN ?_ _ | refine blk_drew ?_ | refine blk_alloc ?_ _)); refine blk_far ?_ NB120_121.out _; (with_reducible repeat (first | refine blk_drewN ?_ _ | refine blk_drew ?_ | refine blk_alloc ?_ _)); refine blk_far ?_ NB120_121.out _; (with_reducible repeat (first | refine blk_drewN ?_ _ | refine blk_drew ?_ | refine blk_alloc ?_ _)); exact BK120.out⟩, ⟨by (with_reducible repeat (first | refine blk_drewN ?_ _ | refine blk_drew ?_ | refine blk_alloc ?_ _)); exact set10_0123456789_ BK121.out⟩, ⟨by repeat (first | (with_reducible first | exact HB.out | apply below_alloc | apply pw_below_drewN | apply below_drew1 | refine below_set ?_ GE120.out | refine below_set ?_ GE121.out) | exact HB.out)⟩⟩
     ·rw [if_neg c11] at H
      have c11b0 : decide (a0 ≤ 3) = false := decide_eq_false c11
      clear c11
      by_cases c17 : a0 = 4
      ·rw [if_pos c17] at H
       have c17b0 : (a0 == 4) = true := beq_iff_eq.mpr c17
       have c17b1 : (a0 != 4) = false := bne_eq_false_iff_eq.mpr c17
       clear c17
       have H' := Aside0.mk H
       clear H
       have hnb18 := NB121_120.out
       have hnc18 := NB120_121.out
       obtain ⟨hcz19_0, hcz19_1, hcz19_2, hcz19_3, hcz19_4, hcz19_5, hcz19_6, hcz19_7, hcz19_8, hcz19_9⟩ := cells10_ BK121.out
       obtain ⟨hfz19_0, hfz19_1, hfz19_2, hfz19_3, hfz19_4, hfz19_5, hfz19_6, hfz19_7, hfz19_8, hfz19_9⟩ := frz10_ BK121.out
       go_wp2
       go_meet
       case rel => exact ⟨_, (0), (0), ((⟨#[]⟩ : ByteArray)), (0), (0), (0), (0), (0), (0), (0), (0), ((⟨#[77, 76, 45, 68, 83, 65, 45, 52, 52]⟩ : ByteArray)), (1312), (2560), (0), (2420), (([] : List Int)), (0), (0), (.slice none 0 0), H', ⟨by have := HJ4.out; first | omega | exact Nat.le_refl _⟩, ⟨by first | exact Kd.R_nil _ _ _ _ _ | exact Kd.N_nil _ _ _ _ _ | exact Kd.V_nil _ _ _ _ _ | exact Kd.Q_nil _ _ _ _ _ | exact Kd.S_nil _ _ _ _ _⟩, ⟨by (with_reducible repeat (first | refine blk_drewN ?_ _ | refine blk_drew ?_ | refine blk_alloc ?_ _)); refine blk_far ?_ NB120_121.out _; (with_reducible repeat (first | refine blk_drewN ?_ _ | refine blk_drew ?_ | refine blk_alloc ?_ _)); refine blk_far ?_ NB120_121.out _; (with_reducible repeat (first | refine blk_drewN ?_ _ | refine blk_drew ?_ | refine blk_alloc ?_ _)); refine blk_far ?_ NB120_121.out _; (with_reducible repeat (first | refine blk_drewN ?_ _ | refine blk_drew ?_ | refine blk_alloc ?_ _)); refine blk_far ?_ NB120_121.out _; (with_reducible repeat (first | refine blk_drewN ?_ _ | refine blk_drew ?_ | refine blk_alloc ?_ _)); refine blk_far ?_ NB120_121.out _; (with_reducible repeat (first | refine blk_drewN ?_ _ | refine blk_drew ?_ | refine blk_alloc ?_ _)); refine blk_far ?_ NB120_121.out _; (with_reducible repeat (first | refine blk_drewN ?_ _ | refine blk_drew ?_ | refine blk_alloc ?_ _)); refine blk_far ?_ NB120_121.out _; (with_reducible repeat (first | refine blk_drewN ?_ _ | refine blk_drew ?_ | refine blk_alloc ?_ _)); refine blk_far ?_ NB120_121.out _; (with_reducible repeat (first | refine blk_drewN ?_ _ | refine blk_drew ?_ | refine blk_alloc ?_ _)); refine blk_far ?_ NB120_121.out _; (with_reducible repeat (first | refine blk_drewN ?_ _ | refine blk_drew ?_ | refine blk_alloc ?_ _)); refine blk_far ?_ NB120_121.out _; (with_reducible repeat (first | refine blk_drewN ?_ _ | refine blk_drew ?_ | refine blk_alloc ?_ _)); exact BK120.out⟩, ⟨by (with_reducible repeat (first | refine blk_drewN ?_ _ | refine blk_drew ?_ | refine blk_alloc ?_ _)); exact set10_0123456789_ BK121.out⟩, ⟨by repeat (first | (with_reducible first | exact HB.out | apply below_alloc | apply pw_below_drewN | apply below_drew1 | refine below_set ?_ GE120.out | refine below_set ?_ GE121.out) | exact HB.out)⟩⟩
      ·rw [if_neg c17] at H
       have c17b0 : (a0 == 4) = false := beq_eq_false_iff_ne.mpr c17
       have c17b1 : (a0 != 4) = true := bne_iff_ne.mpr c17
       by_cases c20 : a0 = 5
       ·rw [if_pos c20] at H
        have c20b0 : (a0 == 5) = true := beq_iff_eq.mpr c20
        have c20b1 : (a0 != 5) = false := bne_eq_false_iff_eq.mpr c20
        clear c20
        have H' := Aside0.mk H
        clear H
        have hnb21 := NB121_120.out
        have hnc21 := NB120_121.out
        obtain ⟨hcz22_0, hcz22_1, hcz22_2, hcz22_3, hcz22_4, hcz22_5, hcz22_6, hcz22_7, hcz22_8, hcz22_9⟩ := cells10_ BK121.out
        obtain ⟨hfz22_0, hfz22_1, hfz22_2, hfz22_3, hfz22_4, hfz22_5, hfz22_6, hfz22_7, hfz22_8, hfz22_9⟩ := frz10_ BK121.out
        go_wp2
        go_meet
        case rel => exact ⟨_, (0), (0), ((⟨#[]⟩ : ByteArray)), (0), (0), (0), (0), (0), (0), (0), (0), ((⟨#[77, 76, 45, 68, 83, 65, 45, 54, 53]⟩ : ByteArray)), (1952), (4032), (0), (3309), (([] : List Int)), (0), (0), (.slice none 0 0), H', ⟨by have := HJ4.out; first | omega | exact Nat.le_refl _⟩, ⟨by first | exact Kd.R_nil _ _ _ _ _ | exact Kd.N_nil _ _ _ _ _ | exact Kd.V_nil _ _ _ _ _ | exact Kd.Q_nil _ _ _ _ _ | exact Kd.S_nil _ _ _ _ _⟩, ⟨by (with_reducible repeat (first | refine blk_drewN ?_ _ | refine blk_drew ?_ | refine blk_alloc ?_ _)); refine blk_far ?_ NB120_121.out _; (with_reducible repeat (first | refine blk_drewN ?_ _ | refine blk_drew ?_ | refine blk_alloc ?_ _)); refine blk_far ?_ NB120_121.out _; (with_reducible repeat (first | refine blk_drewN ?_ _ | refine blk_drew ?_ | refine blk_alloc ?_ _)); refine blk_far ?_ NB120_121.out _; (with_reducible repeat (first | refine blk_drewN ?_ _ | refine blk_drew ?_ | refine blk_alloc ?_ _)); refine blk_far ?_ NB120_121.out _; (with_reducible repeat (first | refine blk_drewN ?_ _ | refine blk_drew ?_ | refine blk_alloc ?_ _)); refine blk_far ?_ NB120_121.out _; (with_reducible repeat (first | refine blk_drewN ?_ _ | refine blk_drew ?_ | refine blk_alloc ?_ _)); refine blk_far ?_ NB120_121.out _; (with_reducible repeat (first | refine blk_drewN ?_ _ | refine blk_drew ?_ | refine blk_alloc ?_ _)); refine blk_far ?_ NB120_121.out _; (with_reducible repeat (first | refine blk_drewN ?_ _ | refine blk_drew ?_ | refine blk_alloc ?_ _)); refine blk_far ?_ NB120_121.out _; (with_reducible repeat (first | refine blk_drewN ?_ _ | refine blk_drew ?_ | refine blk_alloc ?_ _)); refine blk_far ?_ NB120_121.out _; (with_reducible repeat (first | refine blk_drewN ?_ _ | refine blk_drew ?_ | refine blk_alloc ?_ _)); refine blk_far ?_ NB120_121.out _; (with_reducible repeat (first | refine blk_drewN ?_ _ | refine blk_drew ?_ | refine blk_alloc ?_ _)); exact BK120.out⟩, ⟨by (with_reducible repeat (first | refine blk_drewN ?_ _ | refine blk_drew ?_ | refine blk_alloc ?_ _)); exact set10_0123456789_ BK121.out⟩, ⟨by repeat (first | (with_reducible first | exact HB.out | apply below_alloc | apply pw_below_drewN | apply below_drew1 | refine below_set ?_ GE120.out | refine below_set ?_ GE121.out) | exact HB.out)⟩⟩
       ·rw [if_neg c20] at H
        have c20b0 : (a0 == 5) = false := beq_eq_false_iff_ne.mpr c20
        have c20b1 : (a0 != 5) = true := bne_iff_ne.mpr c20
        by_cases c23 : a0 = 6
        ·rw [if_pos c23] at H
         have c23b0 : (a0 == 6) = true := beq_iff_eq.mpr c23
         have c23b1 : (a0 != 6) = false := bne_eq_false_iff_eq.mpr c23
         clear c23
         have H' := Aside0.mk H
         clear H
         have hnb24 := NB121_120.out
         have hnc24 := NB120_121.out
         obtain ⟨hcz25_0, hcz25_1, hcz25_2, hcz25_3, hcz25_4, hcz25_5, hcz25_6, hcz25_7, hcz25_8, hcz25_9⟩ := cells10_ BK121.out
         obtain ⟨hfz25_0, hfz25_1, hfz25_2, hfz25_3, hfz25_4, hfz25_5, hfz25_6, hfz25_7, hfz25_8, hfz25_9⟩ := frz10_ BK121.out
         go_wp2
         go_meet
         case rel => exact ⟨_, (0), (0), ((⟨#[]⟩ : ByteArray)), (0), (0), (0), (0), (0), (0), (0), (0), ((⟨#[77, 76, 45, 68, 83, 65, 45, 56, 55]⟩ : ByteArray)), (2592), (4896), (0), (4627), (([] : List Int)), (0), (0), (.slice none 0 0), H', ⟨by have := HJ4.out; first | omega | exact Nat.le_refl _⟩, ⟨by first | exact Kd.R_nil _ _ _ _ _ | exact Kd.N_nil _ _ _ _ _ | exact Kd.V_nil _ _ _ _ _ | exact Kd.Q_nil _ _ _ _ _ | exact Kd.S_nil _ _ _ _ _⟩, ⟨by (with_reducible repeat (first | refine blk_drewN ?_ _ | refine blk_drew ?_ | refine blk_alloc ?_ _)); refine blk_far ?_ NB120_121.out _; (with_reducible repeat (first | refine blk_drewN ?_ _ | refine blk_drew ?_ | refine blk_alloc ?_ _)); refine blk_far ?_ NB120_121.out _; (with_reducible repeat (first | refine blk_drewN ?_ _ | refine blk_drew ?_ | refine blk_alloc ?_ _)); refine blk_far ?_ NB120_121.out _; (with_reducible repeat (first | refine blk_drewN ?_ _ | refine blk_drew ?_ | refine blk_alloc ?_ _)); refine blk_far ?_ NB120_121.out _; (with_reducible repeat (first | refine blk_drewN ?_ _ | refine blk_drew ?_ | refine blk_alloc ?_ _)); refine blk_far ?_ NB120_121.out _; (with_reducible repeat (first | refine blk_drewN ?_ _ | refine blk_drew ?_ | refine blk_alloc ?_ _)); refine blk_far ?_ NB120_121.out _; (with_reducible repeat (first | refine blk_drewN ?_ _ | refine blk_drew ?_ | refine blk_alloc ?_ _)); refine blk_far ?_ NB120_121.out _; (with_reducible repeat (first | refine blk_drewN ?_ _ | refine blk_drew ?_ | refine blk_alloc ?_ _)); refine blk_far ?_ NB120_121.out _; (with_reducible repeat (first | refine blk_drewN ?_ _ | refine blk_drew ?_ | refine blk_alloc ?_ _)); refine blk_far ?_ NB120_121.out _; (with_reducible repeat (first | refine blk_drewN ?_ _ | refine blk_drew ?_ | refine blk_alloc ?_ _)); refine blk_far ?_ NB120_121.out _; (with_reducible repeat (first | refine blk_drewN ?_ _ | refine blk_drew ?_ | refine blk_alloc ?_ _)); exact BK120.out⟩, ⟨by (with_reducible repeat (first | refine blk_drewN ?_ _ | refine blk_drew ?_ | refine blk_alloc ?_ _)); exact set10_0123456789_ BK121.out⟩, ⟨by repeat (first | (with_reducible first | exact HB.out | apply below_alloc | apply pw_below_drewN | apply below_drew1 | refine below_set ?_ GE120.out | refine below_set ?_ GE121.out) | exact HB.out)⟩⟩
        ·rw [if_neg c23] at H
         have c23b0 : (a0 == 6) = false := beq_eq_false_iff_ne.mpr c23
         have c23b1 : (a0 != 6) = true := bne_iff_ne.mpr c23
         by_cases c26 : a0 < 19
         ·rw [if_pos c26] at H
          have c26b0 : decide (a0 < 19) = true := decide_eq_true c26
          clear c26
          replace H := Option.bind_eq_some_iff.mp H
          obtain ⟨⟨t134, t135, t136, t137, t138, t139, t140, t141, t144, t145⟩, A270, H⟩ := H
          replace H : (params_Get.j1 kj4 a0 t134 t135 t136 t137 t138 t139 t140 t141 t144 t145) = some (r1, r2, r3, r4, r5, r6, r7, r8, r9, r10, r11) := H
          have A27 := Aside0.mk A270
          clear A270
          have H' := Aside0.mk H
          clear H
          go_wp2_with (first | ((with_reducible refine gate_callee (f := 36) rfl ?_); refine goesL_ (some 36) rfl rfl Tryz.func36 (by kernel_rfl) rfl #[.int .i64 a0] rfl q29_ ?_; (with_reducible refine (params_slh.calls a0 t134 t135 t136 t137 t138 t139 t140 t141 t144 t145 _ A27.out q7_).mono ?_); rintro e w28 ⟨v142, rfl, ho0, hb⟩; refine ⟨_, rfl, ?_⟩; have n0_ := Aside0.mk (Kd.R_lower ho0 (below_size q12_)); have n1_ := Aside0.mk (blk_below (g := gb120) (o := .cells #[.int .i64 0, .int .i64 0, .string (⟨#[]⟩ : ByteArray), .int .i64 0, .int .i64 0, .int .i64 0, .int .i64 0, .slice none 0 0, .int .i64 0, .int .u32 0] 45 (0, 0)) q33_ hb); have n2_ := Aside0.mk (blk_below (g := gb121) (o := .cells #[.int .i64 0, .int .i64 0, .string (⟨#[]⟩ : ByteArray), .int .i64 0, .int .i64 0, .int .i64 0, .int .i64 0, .slice none 0 0, .int .i64 0, .int .u32 0] 45 (0, 0)) q34_ hb); have n3_ := Aside0.mk (below_step q12_ hb); clear BK120; clear BK121; clear HB; have HO143 := n0_; have BK120 := n1_; have BK121 := n2_; have HB := n3_; clear n0_ n1_ n2_ n3_; (try clear hb); (try clear hb2); (try clear hk); (try clear hi); (try clear ho0); have hnb29 := NB121_120.out; have hnc29 := NB120_121.out; obtain ⟨hcz30_0, hcz30_1, hcz30_2, hcz30_3, hcz30_4, hcz30_5, hcz30_6, hcz30_7, hcz30_8, hcz30_9⟩ := cells10_ BK121.out; obtain ⟨hfz30_0, hfz30_1, hfz30_2, hfz30_3, hfz30_4, hfz30_5, hfz30_6, hfz30_7, hfz30_8, hfz30_9⟩ := frz10_ BK121.out; obtain ⟨Ao31, co31, eo31⟩ := Kd.R_slice HO143.out; subst eo31))
          go_meet
          case rel => exact ⟨_, (0), (0), ((⟨#[]⟩ : ByteArray)), (0), (0), (0), (0), (0), (0), (t134), (t135), (t136), (t137), (t138), (t139), (t140), (t141), (t144), (t145), (.slice Ao31 t141.length co31), H', ⟨by have := HJ4.out; first | omega | exact Nat.le_refl _⟩, ⟨by (with_reducible repeat (first | apply Kd.R_alloc | apply Kd.R_drewN | apply Kd.R_drew)); exact farR_0123456789_ (Kd.R_types HO143.out BK121.out (by decide))⟩, ⟨by (with_reducible repeat (first | refine blk_drewN ?_ _ | refine blk_drew ?_ | refine blk_alloc ?_ _)); refine blk_far ?_ NB120_121.out _; (with_reducible repeat (first | refine blk_drewN ?_ _ | refine blk_drew ?_ | refine blk_alloc ?_ _)); refine blk_far ?_ NB120_121.out _; (with_reducible repeat (first | refine blk_drewN ?_ _ | refine blk_drew ?_ | refine blk_alloc ?_ _)); refine blk_far ?_ NB120_121.out _; (with_reducible repeat (first | refine blk_drewN ?_ _ | refine blk_drew ?_ | refine blk_alloc ?_ _)); refine blk_far ?_ NB120_121.out _; (with_reducible repeat (first | refine blk_drewN ?_ _ | refine blk_drew ?_ | refine blk_alloc ?_ _)); refine blk_far ?_ NB120_121.out _; (with_reducible repeat (first | refine blk_drewN ?_ _ | refine blk_drew ?_ | refine blk_alloc ?_ _)); refine blk_far ?_ NB120_121.out _; (with_reducible repeat (first | refine blk_drewN ?_ _ | refine blk_drew ?_ | refine blk_alloc ?_ _)); refine blk_far ?_ NB120_121.out _; (with_reducible repeat (first | refine blk_drewN ?_ _ | refine blk_drew ?_ | refine blk_alloc ?_ _)); refine blk_far ?_ NB120_121.out _; (with_reducible repeat (first | refine blk_drewN ?_ _ | refine blk_drew ?_ | refine blk_alloc ?_ _)); refine blk_far ?_ NB120_121.out _; (with_reducible repeat (first | refine blk_drewN ?_ _ | refine blk_drew ?_ | refine blk_alloc ?_ _)); refine blk_far ?_ NB120_121.out _; (with_reducible repeat (first | refine blk_drewN ?_ _ | refine blk_drew ?_ | refine blk_alloc ?_ _)); exact BK120.out⟩, ⟨by (with_reducible repeat (first | refine blk_drewN ?_ _ | refine blk_drew ?_ | refine blk_alloc ?_ _)); exact set10_0123456789_ BK121.out⟩, ⟨by repeat (first | (with_reducible first | exact HB.out | apply below_alloc | apply pw_below_drewN | apply below_drew1 | refine below_set ?_ GE120.out | refine below_set ?_ GE121.out) | exact HB.out)⟩⟩
         ·rw [if_neg c26] at H
          have c26b0 : decide (a0 < 19) = false := decide_eq_false c26
          clear c26
          by_cases c32 : a0 = 19
          ·rw [if_pos c32] at H
           have c32b0 : (a0 == 19) = true := beq_iff_eq.mpr c32
           have c32b1 : (a0 != 19) = false := bne_eq_false_iff_eq.mpr c32
           clear c32
           replace H := Option.bind_eq_some_iff.mp H
           obtain ⟨t146, A330, H⟩ := H
           replace H : (params_Get.j1 kj4 a0 0 4 (⟨#[72, 83, 83, 47, 76, 77, 83]⟩ : ByteArray) 0 0 0 0 t146 0 0) = some (r1, r2, r3, r4, r5, r6, r7, r8, r9, r10, r11) := H
           have A33 := Aside0.mk A330
           clear A330
           have H' := Aside0.mk H
           clear H
           go_wp2_with (first | ((with_reducible refine gate_callee (f := 37) rfl ?_); refine goesL_ (some 40) rfl rfl Tryz.func37 (by kernel_rfl) rfl #[.string (⟨#[49, 46, 50, 46, 56, 52, 48, 46, 49, 49, 51, 53, 52, 57, 46, 49, 46, 57, 46, 49, 54, 46, 51, 46, 49, 55]⟩ : ByteArray)] rfl q29_ ?_; (with_reducible refine (params_of.calls kj4 (⟨#[49, 46, 50, 46, 56, 52, 48, 46, 49, 49, 51, 53, 52, 57, 46, 49, 46, 57, 46, 49, 54, 46, 51, 46, 49, 55]⟩ : ByteArray) t146 _ A33.out q7_).mono ?_); rintro e w34 ⟨v147, rfl, ho0, hb⟩; refine ⟨_, rfl, ?_⟩; have n0_ := Aside0.mk (Kd.R_lower ho0 (below_size q12_)); have n1_ := Aside0.mk (blk_below (g := gb120) (o := .cells #[.int .i64 0, .int .i64 0, .string (⟨#[]⟩ : ByteArray), .int .i64 0, .int .i64 0, .int .i64 0, .int .i64 0, .slice none 0 0, .int .i64 0, .int .u32 0] 45 (0, 0)) q33_ hb); have n2_ := Aside0.mk (blk_below (g := gb121) (o := .cells #[.int .i64 0, .int .i64 0, .string (⟨#[]⟩ : ByteArray), .int .i64 0, .int .i64 0, .int .i64 0, .int .i64 0, .slice none 0 0, .int .i64 0, .int .u32 0] 45 (0, 0)) q34_ hb); have n3_ := Aside0.mk (below_step q12_ hb); clear BK120; clear BK121; clear HB; have HO148 := n0_; have BK120 := n1_; have BK121 := n2_; have HB := n3_; clear n0_ n1_ n2_ n3_; (try clear hb); (try clear hb2); (try clear hk); (try clear hi); (try clear ho0); obtain ⟨Ao35, co35, eo35⟩ := Kd.R_slice HO148.out; subst eo35; have hnb36 := NB121_120.out; have hnc36 := NB120_121.out; obtain ⟨hcz37_0, hcz37_1, hcz37_2, hcz37_3, hcz37_4, hcz37_5, hcz37_6, hcz37_7, hcz37_8, hcz37_9⟩ := cells10_ BK121.out; obtain ⟨hfz37_0, hfz37_1, hfz37_2, hfz37_3, hfz37_4, hfz37_5, hfz37_6, hfz37_7, hfz37_8, hfz37_9⟩ := frz10_ BK121.out))
           go_meet
           case rel => exact ⟨_, (0), (0), ((⟨#[]⟩ : ByteArray)), (0), (0), (0), (0), (0), (0), (0), (4), ((⟨#[72, 83, 83, 47, 76, 77, 83]⟩ : ByteArray)), (0), (0), (0), (0), (t146), (0), (0), (.slice Ao35 t146.length co35), H', ⟨by have := HJ4.out; first | omega | exact Nat.le_refl _⟩, ⟨by (with_reducible repeat (first | apply Kd.R_alloc | apply Kd.R_drewN | apply Kd.R_drew)); exact farR_0123456789_ (Kd.R_types HO148.out BK121.out (by decide))⟩, ⟨by (with_reducible repeat (first | refine blk_drewN ?_ _ | refine blk_drew ?_ | refine blk_alloc ?_ _)); refine blk_far ?_ NB120_121.out _; (with_reducible repeat (first | refine blk_drewN ?_ _ | refine blk_drew ?_ | refine blk_alloc ?_ _)); refine blk_far ?_ NB120_121.out _; (with_reducible repeat (first | refine blk_drewN ?_ _ | refine blk_drew ?_ | refine blk_alloc ?_ _)); refine blk_far ?_ NB120_121.out _; (with_reducible repeat (first | refine blk_drewN ?_ _ | refine blk_drew ?_ | refine blk_alloc ?_ _)); refine blk_far ?_ NB120_121.out _; (with_reducible repeat (first | refine blk_drewN ?_ _ | refine blk_drew ?_ | refine blk_alloc ?_ _)); refine blk_far ?_ NB120_121.out _; (with_reducible repeat (first | refine blk_drewN ?_ _ | refine blk_drew ?_ | refine blk_alloc ?_ _)); refine blk_far ?_ NB120_121.out _; (with_reducible repeat (first | refine blk_drewN ?_ _ | refine blk_drew ?_ | refine blk_alloc ?_ _)); refine blk_far ?_ NB120_121.out _; (with_reducible repeat (first | refine blk_drewN ?_ _ | refine blk_drew ?_ | refine blk_alloc ?_ _)); refine blk_far ?_ NB120_121.out _; (with_reducible repeat (first | refine blk_drewN ?_ _ | refine blk_drew ?_ | refine blk_alloc ?_ _)); refine blk_far ?_ NB120_121.out _; (with_reducible repeat (first | refine blk_drewN ?_ _ | refine blk_drew ?_ | refine blk_alloc ?_ _)); refine blk_far ?_ NB120_121.out _; (with_reducible repeat (first | refine blk_drewN ?_ _ | refine blk_drew ?_ | refine blk_alloc ?_ _)); exact BK120.out⟩, ⟨by (with_reducible repeat (first | refine blk_drewN ?_ _ | refine blk_drew ?_ | refine blk_alloc ?_ _)); exact set10_0123456789_ BK121.out⟩, ⟨by repeat (first | (with_reducible first | exact HB.out | apply below_alloc | apply pw_below_drewN | apply below_drew1 | refine below_set ?_ GE120.out | refine below_set ?_ GE121.out) | exact HB.out)⟩⟩
          ·rw [if_neg c32] at H
           have c32b0 : (a0 == 19) = false := beq_eq_false_iff_ne.mpr c32
           have c32b1 : (a0 != 19) = true := bne_iff_ne.mpr c32
           replace H := Option.bind_eq_some_iff.mp H
           obtain ⟨⟨t149, t150, t151, t152, t153, t154, t155, t156, t159, t160⟩, A380, H⟩ := H
           replace H : (params_Get.j1 kj4 a0 t149 t150 t151 t152 t153 t154 t155 t156 t159 t160) = some (r1, r2, r3, r4, r5, r6, r7, r8, r9, r10, r11) := H
           have A38 := Aside0.mk A380
           clear A380
           have H' := Aside0.mk H
           clear H
           go_wp2_with (first | ((with_reducible refine gate_callee (f := 38) rfl ?_); refine goesL_ (some 6) rfl rfl Tryz.func38 (by kernel_rfl) rfl #[.int .i64 a0] rfl q29_ ?_; (with_reducible refine (params_xmss.calls a0 t149 t150 t151 t152 t153 t154 t155 t156 t159 t160 _ A38.out q7_).mono ?_); rintro e w39 ⟨v157, rfl, ho0, hb⟩; refine ⟨_, rfl, ?_⟩; have n0_ := Aside0.mk (Kd.R_lower ho0 (below_size q12_)); have n1_ := Aside0.mk (blk_below (g := gb120) (o := .cells #[.int .i64 0, .int .i64 0, .string (⟨#[]⟩ : ByteArray), .int .i64 0, .int .i64 0, .int .i64 0, .int .i64 0, .slice none 0 0, .int .i64 0, .int .u32 0] 45 (0, 0)) q33_ hb); have n2_ := Aside0.mk (blk_below (g := gb121) (o := .cells #[.int .i64 0, .int .i64 0, .string (⟨#[]⟩ : ByteArray), .int .i64 0, .int .i64 0, .int .i64 0, .int .i64 0, .slice none 0 0, .int .i64 0, .int .u32 0] 45 (0, 0)) q34_ hb); have n3_ := Aside0.mk (below_step q12_ hb); clear BK120; clear BK121; clear HB; have HO158 := n0_; have BK120 := n1_; have BK121 := n2_; have HB := n3_; clear n0_ n1_ n2_ n3_; (try clear hb); (try clear hb2); (try clear hk); (try clear hi); (try clear ho0); have hnb40 := NB121_120.out; have hnc40 := NB120_121.out; obtain ⟨hcz41_0, hcz41_1, hcz41_2, hcz41_3, hcz41_4, hcz41_5, hcz41_6, hcz41_7, hcz41_8, hcz41_9⟩ := cells10_ BK121.out; obtain ⟨hfz41_0, hfz41_1, hfz41_2, hfz41_3, hfz41_4, hfz41_5, hfz41_6, hfz41_7, hfz41_8, hfz41_9⟩ := frz10_ BK121.out; obtain ⟨Ao42, co42, eo42⟩ := Kd.R_slice HO158.out; subst eo42))
           go_meet
           case rel => exact ⟨_, (0), (0), ((⟨#[]⟩ : ByteArray)), (0), (0), (0), (0), (0), (0), (t149), (t150), (t151), (t152), (t153), (t154), (t155), (t156), (t159), (t160), (.slice Ao42 t156.length co42), H', ⟨by have := HJ4.out; first | omega | exact Nat.le_refl _⟩, ⟨by (with_reducible repeat (first | apply Kd.R_alloc | apply Kd.R_drewN | apply Kd.R_drew)); exact farR_0123456789_ (Kd.R_types HO158.out BK121.out (by decide))⟩, ⟨by (with_reducible repeat (first | refine blk_drewN ?_ _ | refine blk_drew ?_ | refine blk_alloc ?_ _)); refine blk_far ?_ NB120_121.out _; (with_reducible repeat (first | refine blk_drewN ?_ _ | refine blk_drew ?_ | refine blk_alloc ?_ _)); refine blk_far ?_ NB120_121.out _; (with_reducible repeat (first | refine blk_drewN ?_ _ | refine blk_drew ?_ | refine blk_alloc ?_ _)); refine blk_far ?_ NB120_121.out _; (with_reducible repeat (first | refine blk_drewN ?_ _ | refine blk_drew ?_ | refine blk_alloc ?_ _)); refine blk_far ?_ NB120_121.out _; (with_reducible repeat (first | refine blk_drewN ?_ _ | refine blk_drew ?_ | refine blk_alloc ?_ _)); refine blk_far ?_ NB120_121.out _; (with_reducible repeat (first | refine blk_drewN ?_ _ | refine blk_drew ?_ | refine blk_alloc ?_ _)); refine blk_far ?_ NB120_121.out _; (with_reducible repeat (first | refine blk_drewN ?_ _ | refine blk_drew ?_ | refine blk_alloc ?_ _)); refine blk_far ?_ NB120_121.out _; (with_reducible repeat (first | refine blk_drewN ?_ _ | refine blk_drew ?_ | refine blk_alloc ?_ _)); refine blk_far ?_ NB120_121.out _; (with_reducible repeat (first | refine blk_drewN ?_ _ | refine blk_drew ?_ | refine blk_alloc ?_ _)); refine blk_far ?_ NB120_121.out _; (with_reducible repeat (first | refine blk_drewN ?_ _ | refine blk_drew ?_ | refine blk_alloc ?_ _)); refine blk_far ?_ NB120_121.out _; (with_reducible repeat (first | refine blk_drewN ?_ _ | refine blk_drew ?_ | refine blk_alloc ?_ _)); exact BK120.out⟩, ⟨by (with_reducible repeat (first | refine blk_drewN ?_ _ | refine blk_drew ?_ | refine blk_alloc ?_ _)); exact set10_0123456789_ BK121.out⟩, ⟨by repeat (first | (with_reducible first | exact HB.out | apply below_alloc | apply pw_below_drewN | apply below_drew1 | refine below_set ?_ GE120.out | refine below_set ?_ GE121.out) | exact HB.out)⟩⟩
 case rest =>
  clear HC2
  try clear c1
  try clear c2
  try clear p2
  try clear c3
  try clear c4
  try clear c6
  try clear c6b0
  try clear c7
  try clear c8
  try clear c11
  try clear c11b0
  try clear c14
  try clear c17
  try clear c17b0
  try clear c17b1
  try clear c18
  try clear c19
  try clear c20
  try clear c20b0
  try clear c20b1
  try clear c21
  try clear c23
  try clear c23b0
  try clear c23b1
  try clear c24
  try clear c26
  try clear c26b0
  try clear c29
  try clear c32
  try clear c32b0
  try clear c32b1
  try clear c35
  try clear c36
  try clear c37
  try clear c38
  try clear c40
  try clear hcz10_0
  try clear hcz10_1
  try clear hcz10_2
  try clear hcz10_3
  try clear hcz10_4
  try clear hcz10_5
  try clear hcz10_6
  try clear hcz10_7
  try clear hcz10_8
  try clear hcz10_9
  try clear hcz15_0
  try clear hcz15_1
  try clear hcz15_2
  try clear hcz15_3
  try clear hcz15_4
  try clear hcz15_5
  try clear hcz15_6
  try clear hcz15_7
  try clear hcz15_8
  try clear hcz15_9
  try clear hcz19_0
  try clear hcz19_1
  try clear hcz19_2
  try clear hcz19_3
  try clear hcz19_4
  try clear hcz19_5
  try clear hcz19_6
  try clear hcz19_7
  try clear hcz19_8
  try clear hcz19_9
  try clear hcz22_0
  try clear hcz22_1
  try clear hcz22_2
  try clear hcz22_3
  try clear hcz22_4
  try clear hcz22_5
  try clear hcz22_6
  try clear hcz22_7
  try clear hcz22_8
  try clear hcz22_9
  try clear hcz25_0
  try clear hcz25_1
  try clear hcz25_2
  try clear hcz25_3
  try clear hcz25_4
  try clear hcz25_5
  try clear hcz25_6
  try clear hcz25_7
  try clear hcz25_8
  try clear hcz25_9
  try clear hcz30_0
  try clear hcz30_1
  try clear hcz30_2
  try clear hcz30_3
  try clear hcz30_4
  try clear hcz30_5
  try clear hcz30_6
  try clear hcz30_7
  try clear hcz30_8
  try clear hcz30_9
  try clear hcz37_0
  try clear hcz37_1
  try clear hcz37_2
  try clear hcz37_3
  try clear hcz37_4
  try clear hcz37_5
  try clear hcz37_6
  try clear hcz37_7
  try clear hcz37_8
  try clear hcz37_9
  try clear hcz41_0
  try clear hcz41_1
  try clear hcz41_2
  try clear hcz41_3
  try clear hcz41_4
  try clear hcz41_5
  try clear hcz41_6
  try clear hcz41_7
  try clear hcz41_8
  try clear hcz41_9
  try clear hcz9_0
  try clear hcz9_1
  try clear hcz9_2
  try clear hcz9_3
  try clear hcz9_4
  try clear hcz9_5
  try clear hcz9_6
  try clear hcz9_7
  try clear hcz9_8
  try clear hcz9_9
  try clear hfz10_0
  try clear hfz10_1
  try clear hfz10_2
  try clear hfz10_3
  try clear hfz10_4
  try clear hfz10_5
  try clear hfz10_6
  try clear hfz10_7
  try clear hfz10_8
  try clear hfz10_9
  try clear hfz15_0
  try clear hfz15_1
  try clear hfz15_2
  try clear hfz15_3
  try clear hfz15_4
  try clear hfz15_5
  try clear hfz15_6
  try clear hfz15_7
  try clear hfz15_8
  try clear hfz15_9
  try clear hfz19_0
  try clear hfz19_1
  try clear hfz19_2
  try clear hfz19_3
  try clear hfz19_4
  try clear hfz19_5
  try clear hfz19_6
  try clear hfz19_7
  try clear hfz19_8
  try clear hfz19_9
  try clear hfz22_0
  try clear hfz22_1
  try clear hfz22_2
  try clear hfz22_3
  try clear hfz22_4
  try clear hfz22_5
  try clear hfz22_6
  try clear hfz22_7
  try clear hfz22_8
  try clear hfz22_9
  try clear hfz25_0
  try clear hfz25_1
  try clear hfz25_2
  try clear hfz25_3
  try clear hfz25_4
  try clear hfz25_5
  try clear hfz25_6
  try clear hfz25_7
  try clear hfz25_8
  try clear hfz25_9
  try clear hfz30_0
  try clear hfz30_1
  try clear hfz30_2
  try clear hfz30_3
  try clear hfz30_4
  try clear hfz30_5
  try clear hfz30_6
  try clear hfz30_7
  try clear hfz30_8
  try clear hfz30_9
  try clear hfz37_0
  try clear hfz37_1
  try clear hfz37_2
  try clear hfz37_3
  try clear hfz37_4
  try clear hfz37_5
  try clear hfz37_6
  try clear hfz37_7
  try clear hfz37_8
  try clear hfz37_9
  try clear hfz41_0
  try clear hfz41_1
  try clear hfz41_2
  try clear hfz41_3
  try clear hfz41_4
  try clear hfz41_5
  try clear hfz41_6
  try clear hfz41_7
  try clear hfz41_8
  try clear hfz41_9
  try clear hfz9_0
  try clear hfz9_1
  try clear hfz9_2
  try clear hfz9_3
  try clear hfz9_4
  try clear hfz9_5
  try clear hfz9_6
  try clear hfz9_7
  try clear hfz9_8
  try clear hfz9_9
  try clear p2
  obtain ⟨kq, x121000_1, x121001_1, x121002_1, x121003_1, x121004_1, x121005_1, x121006_1, x121008_1, x121009_1, x122000_1, x122001_1, x122002_1, x122003_1, x122004_1, x122005_1, x122006_1, x122007_1, x122008_1, x122009_1, u122007, HA, HJ1, HO_122007, BK120, BK121, HB⟩ := hcut
  cases kq with
  | zero => exact absurd HA.out (by simp [params_Get.j1])
  | succ kj1 =>
   have H := HA.out
   clear HA
   simp only [params_Get.j1] at H
   by_cases c43 : a0 = 4
   ·rw [if_pos c43] at H
    have c43b0 : (a0 == 4) = true := beq_iff_eq.mpr c43
    have c43b1 : (a0 != 4) = false := bne_eq_false_iff_eq.mpr c43
    clear c43
    replace H := Option.bind_eq_some_iff.mp H
    obtain ⟨t161, A440, H⟩ := H
    replace H : (some (a0, 2, x122002_1, x122003_1, x122004_1, 32, x122006_1, t161, wrap64 ((-44) - a0), x122009_1, true)) = some (r1, r2, r3, r4, r5, r6, r7, r8, r9, r10, r11) := H
    have A44 := Aside0.mk A440
    clear A440
    simp only [Option.some.injEq, Prod.mk.injEq] at H
    obtain ⟨rfl, rfl, rfl, rfl, rfl, rfl, rfl, rfl, rfl, rfl, rfl⟩ := H
    go_wp2_with (first | ((with_reducible refine gate_callee (f := 39) rfl ?_); refine goesL_ (some 51) rfl rfl Tryz.func39 (by kernel_rfl) rfl #[.int .i64 3, .int .i64 (wrap64 (a0 + 13))] rfl q29_ ?_; (with_reducible refine (params_nist.calls 3 (wrap64 (a0 + 13)) t161 _ A44.out).mono ?_); rintro e w45 ⟨v162, rfl, ho0, hb⟩; refine ⟨_, rfl, ?_⟩; have n0_ := Aside0.mk (Kd.R_elder' q44_ (Kd.R_base ho0) hb); have n1_ := Aside0.mk (Kd.R_lower (Kd.R_new' ho0 (Kd.R_lt q44_)) (below_size q12_)); have n2_ := Aside0.mk (blk_below (g := gb120) (o := .cells #[.int .i64 x121000_1, .int .i64 x121001_1, .string x121002_1, .int .i64 x121003_1, .int .i64 x121004_1, .int .i64 x121005_1, .int .i64 x121006_1, .slice none 0 0, .int .i64 x121008_1, .int .u32 x121009_1] 45 (0, 0)) q33_ hb); have n3_ := Aside0.mk (blk_below (g := gb121) (o := .cells #[.int .i64 x122000_1, .int .i64 x122001_1, .string x122002_1, .int .i64 x122003_1, .int .i64 x122004_1, .int .i64 x122005_1, .int .i64 x122006_1, u122007, .int .i64 x122008_1, .int .u32 x122009_1] 45 (0, 0)) q34_ hb); have n4_ := Aside0.mk (below_step q12_ hb); clear HO_122007; clear BK120; clear BK121; clear HB; have HO_122007 := n0_; have HO163 := n1_; have BK120 := n2_; have BK121 := n3_; have HB := n4_; clear n0_ n1_ n2_ n3_ n4_; (try clear hb); (try clear hb2); (try clear hk); (try clear hi); (try clear ho0); have hnb46 := NB121_120.out; have hnc46 := NB120_121.out; obtain ⟨hcz47_0, hcz47_1, hcz47_2, hcz47_3, hcz47_4, hcz47_5, hcz47_6, hcz47_7, hcz47_8, hcz47_9⟩ := cells10_ BK121.out; obtain ⟨hfz47_0, hfz47_1, hfz47_2, hfz47_3, hfz47_4, hfz47_5, hfz47_6, hfz47_7, hfz47_8, hfz47_9⟩ := frz10_ BK121.out; obtain ⟨Ao48, co48, eo48⟩ := Kd.R_slice HO163.out; subst eo48; obtain ⟨hcz49_0, hcz49_1, hcz49_2, hcz49_3, hcz49_4, hcz49_5, hcz49_6, hcz49_7, hcz49_8, hcz49_9⟩ := cells10_ BK120.out; obtain ⟨hfz49_0, hfz49_1, hfz49_2, hfz49_3, hfz49_4, hfz49_5, hfz49_6, hfz49_7, hfz49_8, hfz49_9⟩ := frz10_ BK120.out))
    refine bodyPost_ret (results_ct rfl _ _ gb120 45 #[.int .i64 a0, .int .i64 2, .string x122002_1, .int .i64 x122003_1, .int .i64 x122004_1, .int .i64 32, .int .i64 x122006_1, .slice Ao48 t161.length co48, .int .i64 (wrap64 ((-44) - a0)), .int .u32 x122009_1] (0, 0) _ rfl (by (with_reducible repeat (first | refine blk_drewN ?_ _ | refine blk_drew ?_ | refine blk_alloc ?_ _)); refine blk_put (cs := #[.int .i64 a0, .int .i64 2, .string x122002_1, .int .i64 x122003_1, .int .i64 x122004_1, .int .i64 32, .int .i64 x122006_1, .slice Ao48 t161.length co48, .int .i64 (wrap64 ((-44) - a0)), .int .u32 x121009_1]) ?_ 9 _ rfl; (with_reducible repeat (first | refine blk_drewN ?_ _ | refine blk_drew ?_ | refine blk_alloc ?_ _)); refine blk_put (cs := #[.int .i64 a0, .int .i64 2, .string x122002_1, .int .i64 x122003_1, .int .i64 x122004_1, .int .i64 32, .int .i64 x122006_1, .slice Ao48 t161.length co48, .int .i64 x121008_1, .int .u32 x121009_1]) ?_ 8 _ rfl; (with_reducible repeat (first | refine blk_drewN ?_ _ | refine blk_drew ?_ | refine blk_alloc ?_ _)); refine blk_put (cs := #[.int .i64 a0, .int .i64 2, .string x122002_1, .int .i64 x122003_1, .int .i64 x122004_1, .int .i64 32, .int .i64 x122006_1, .slice none 0 0, .int .i64 x121008_1, .int .u32 x121009_1]) ?_ 7 _ rfl; (with_reducible repeat (first | refine blk_drewN ?_ _ | refine blk_drew ?_ | refine blk_alloc ?_ _)); refine blk_put (cs := #[.int .i64 a0, .int .i64 2, .string x122002_1, .int .i64 x122003_1, .int .i64 x122004_1, .int .i64 32, .int .i64 x121006_1, .slice none 0 0, .int .i64 x121008_1, .int .u32 x121009_1]) ?_ 6 _ rfl; (with_reducible repeat (first | refine blk_drewN ?_ _ | refine blk_drew ?_ | refine blk_alloc ?_ _)); refine blk_put (cs := #[.int .i64 a0, .int .i64 2, .string x122002_1, .int .i64 x122003_1, .int .i64 x122004_1, .int .i64 x121005_1, .int .i64 x121006_1, .slice none 0 0, .int .i64 x121008_1, .int .u32 x121009_1]) ?_ 5 _ rfl; (with_reducible repeat (first | refine blk_drewN ?_ _ | refine blk_drew ?_ | refine blk_alloc ?_ _)); refine blk_put (cs := #[.int .i64 a0, .int .i64 2, .string x122002_1, .int .i64 x122003_1, .int .i64 x121004_1, .int .i64 x121005_1, .int .i64 x121006_1, .slice none 0 0, .int .i64 x121008_1, .int .u32 x121009_1]) ?_ 4 _ rfl; (with_reducible repeat (first | refine blk_drewN ?_ _ | refine blk_drew ?_ | refine blk_alloc ?_ _)); refine blk_put (cs := #[.int .i64 a0, .int .i64 2, .string x122002_1, .int .i64 x121003_1, .int .i64 x121004_1, .int .i64 x121005_1, .int .i64 x121006_1, .slice none 0 0, .int .i64 x121008_1, .int .u32 x121009_1]) ?_ 3 _ rfl; (with_reducible repeat (first | refine blk_drewN ?_ _ | refine blk_drew ?_ | refine blk_alloc ?_ _)); refine blk_put (cs := #[.int .i64 a0, .int .i64 2, .string x121002_1, .int .i64 x121003_1, .int .i64 x121004_1, .int .i64 x121005_1, .int .i64 x121006_1, .slice none 0 0, .int .i64 x121008_1, .int .u32 x121009_1]) ?_ 2 _ rfl; (with_reducible repeat (first | refine blk_drewN ?_ _ | refine blk_drew ?_ | refine blk_alloc ?_ _)); refine blk_put (cs := #[.int .i64 a0, .int .i64 x121001_1, .string x121002_1, .int .i64 x121003_1, .int .i64 x121004_1, .int .i64 x121005_1, .int .i64 x121006_1, .slice none 0 0, .int .i64 x121008_1, .int .u32 x121009_1]) ?_ 1 _ rfl; (with_reducible repeat (first | refine blk_drewN ?_ _ | refine blk_drew ?_ | refine blk_alloc ?_ _)); refine blk_put (cs := #[.int .i64 x121000_1, .int .i64 x121001_1, .string x121002_1, .int .i64 x121003_1, .int .i64 x121004_1, .int .i64 x121005_1, .int .i64 x121006_1, .slice none 0 0, .int .i64 x121008_1, .int .u32 x121009_1]) ?_ 0 _ rfl; (with_reducible repeat (first | refine blk_drewN ?_ _ | refine blk_drew ?_ | refine blk_alloc ?_ _)); refine blk_far ?_ NB120_121.out _; (with_reducible repeat (first | refine blk_drewN ?_ _ | refine blk_drew ?_ | refine blk_alloc ?_ _)); refine blk_far ?_ NB120_121.out _; (with_reducible repeat (first | refine blk_drewN ?_ _ | refine blk_drew ?_ | refine blk_alloc ?_ _)); refine blk_far ?_ NB120_121.out _; (with_reducible repeat (first | refine blk_drewN ?_ _ | refine blk_drew ?_ | refine blk_alloc ?_ _)); refine blk_far ?_ NB120_121.out _; (with_reducible repeat (first | refine blk_drewN ?_ _ | refine blk_drew ?_ | refine blk_alloc ?_ _)); refine blk_far ?_ NB120_121.out _; (with_reducible repeat (first | refine blk_drewN ?_ _ | refine blk_drew ?_ | refine blk_alloc ?_ _)); exact BK120.out) Tryz.underlying45 rfl (by kernel_rfl)) rfl ?_
    exact ⟨_, by first | rfl | (simp [errW_none, errW_some] <;> rfl) | (simp [*, errW_none, errW_some] <;> rfl), by (with_reducible repeat (first | apply Kd.R_alloc | apply Kd.R_drewN | apply Kd.R_drew)); exact Kd.R_mono (Kd.R_far (p := ⟨gb120, 9, none⟩) (Kd.R_far (p := ⟨gb120, 8, none⟩) (Kd.R_far (p := ⟨gb120, 7, none⟩) (Kd.R_far (p := ⟨gb120, 6, none⟩) (Kd.R_far (p := ⟨gb120, 5, none⟩) (Kd.R_far (p := ⟨gb120, 4, none⟩) (Kd.R_far (p := ⟨gb120, 3, none⟩) (Kd.R_far (p := ⟨gb120, 2, none⟩) (Kd.R_far (p := ⟨gb120, 1, none⟩) (Kd.R_far (p := ⟨gb120, 0, none⟩) (Kd.R_far (p := ⟨gb121, 0, none⟩) (Kd.R_far (p := ⟨gb121, 8, none⟩) (Kd.R_far (p := ⟨gb121, 7, none⟩) (Kd.R_far (p := ⟨gb121, 5, none⟩) (Kd.R_far (p := ⟨gb121, 1, none⟩) (Kd.R_types (Kd.R_types HO163.out BK121.out (by decide)) BK120.out (by decide)) (fun _ hk => hk.1.2) (.int .i64 2)) (fun _ hk => hk.1.2) (.int .i64 32)) (fun _ hk => hk.1.2) (.slice Ao48 t161.length co48)) (fun _ hk => hk.1.2) (.int .i64 (wrap64 ((-44) - a0)))) (fun _ hk => hk.1.2) (.int .i64 a0)) (fun _ hk => hk.2) (.int .i64 a0)) (fun _ hk => hk.2) (.int .i64 2)) (fun _ hk => hk.2) (.string x122002_1)) (fun _ hk => hk.2) (.int .i64 x122003_1)) (fun _ hk => hk.2) (.int .i64 x122004_1)) (fun _ hk => hk.2) (.int .i64 32)) (fun _ hk => hk.2) (.int .i64 x122006_1)) (fun _ hk => hk.2) (.slice Ao48 t161.length co48)) (fun _ hk => hk.2) (.int .i64 (wrap64 ((-44) - a0)))) (fun _ hk => hk.2) (.int .u32 x122009_1)) (fun _ hk => trivial), by repeat (first | (with_reducible first | exact HB.out | apply below_alloc | apply pw_below_drewN | apply below_drew1 | refine below_set ?_ GE120.out | refine below_set ?_ GE121.out) | exact HB.out)⟩
   ·rw [if_neg c43] at H
    have c43b0 : (a0 == 4) = false := beq_eq_false_iff_ne.mpr c43
    have c43b1 : (a0 != 4) = true := bne_iff_ne.mpr c43
    by_cases c50 : a0 = 5
    ·rw [if_pos c50] at H
     have c50b0 : (a0 == 5) = true := beq_iff_eq.mpr c50
     have c50b1 : (a0 != 5) = false := bne_eq_false_iff_eq.mpr c50
     clear c50
     replace H := Option.bind_eq_some_iff.mp H
     obtain ⟨t164, A510, H⟩ := H
     replace H : (some (a0, 2, x122002_1, x122003_1, x122004_1, 32, x122006_1, t164, wrap64 ((-44) - a0), x122009_1, true)) = some (r1, r2, r3, r4, r5, r6, r7, r8, r9, r10, r11) := H
     have A51 := Aside0.mk A510
     clear A510
     simp only [Option.some.injEq, Prod.mk.injEq] at H
     obtain ⟨rfl, rfl, rfl, rfl, rfl, rfl, rfl, rfl, rfl, rfl, rfl⟩ := H
     go_wp2_with (first | ((with_reducible refine gate_callee (f := 39) rfl ?_); refine goesL_ (some 51) rfl rfl Tryz.func39 (by kernel_rfl) rfl #[.int .i64 3, .int .i64 (wrap64 (a0 + 13))] rfl q29_ ?_; (with_reducible refine (params_nist.calls 3 (wrap64 (a0 + 13)) t164 _ A51.out).mono ?_); rintro e w52 ⟨v165, rfl, ho0, hb⟩; refine ⟨_, rfl, ?_⟩; have n0_ := Aside0.mk (Kd.R_elder' q44_ (Kd.R_base ho0) hb); have n1_ := Aside0.mk (Kd.R_lower (Kd.R_new' ho0 (Kd.R_lt q44_)) (below_size q12_)); have n2_ := Aside0.mk (blk_below (g := gb120) (o := .cells #[.int .i64 x121000_1, .int .i64 x121001_1, .string x121002_1, .int .i64 x121003_1, .int .i64 x121004_1, .int .i64 x121005_1, .int .i64 x121006_1, .slice none 0 0, .int .i64 x121008_1, .int .u32 x121009_1] 45 (0, 0)) q33_ hb); have n3_ := Aside0.mk (blk_below (g := gb121) (o := .cells #[.int .i64 x122000_1, .int .i64 x122001_1, .string x122002_1, .int .i64 x122003_1, .int .i64 x122004_1, .int .i64 x122005_1, .int .i64 x122006_1, u122007, .int .i64 x122008_1, .int .u32 x122009_1] 45 (0, 0)) q34_ hb); have n4_ := Aside0.mk (below_step q12_ hb); clear HO_122007; clear BK120; clear BK121; clear HB; have HO_122007 := n0_; have HO166 := n1_; have BK120 := n2_; have BK121 := n3_; have HB := n4_; clear n0_ n1_ n2_ n3_ n4_; (try clear hb); (try clear hb2); (try clear hk); (try clear hi); (try clear ho0); have hnb53 := NB121_120.out; have hnc53 := NB120_121.out; obtain ⟨hcz54_0, hcz54_1, hcz54_2, hcz54_3, hcz54_4, hcz54_5, hcz54_6, hcz54_7, hcz54_8, hcz54_9⟩ := cells10_ BK121.out; obtain ⟨hfz54_0, hfz54_1, hfz54_2, hfz54_3, hfz54_4, hfz54_5, hfz54_6, hfz54_7, hfz54_8, hfz54_9⟩ := frz10_ BK121.out; obtain ⟨Ao55, co55, eo55⟩ := Kd.R_slice HO166.out; subst eo55; obtain ⟨hcz56_0, hcz56_1, hcz56_2, hcz56_3, hcz56_4, hcz56_5, hcz56_6, hcz56_7, hcz56_8, hcz56_9⟩ := cells10_ BK120.out; obtain ⟨hfz56_0, hfz56_1, hfz56_2, hfz56_3, hfz56_4, hfz56_5, hfz56_6, hfz56_7, hfz56_8, hfz56_9⟩ := frz10_ BK120.out))
     refine bodyPost_ret (results_ct rfl _ _ gb120 45 #[.int .i64 a0, .int .i64 2, .string x122002_1, .int .i64 x122003_1, .int .i64 x122004_1, .int .i64 32, .int .i64 x122006_1, .slice Ao55 t164.length co55, .int .i64 (wrap64 ((-44) - a0)), .int .u32 x122009_1] (0, 0) _ rfl (by (with_reducible repeat (first | refine blk_drewN ?_ _ | refine blk_drew ?_ | refine blk_alloc ?_ _)); refine blk_put (cs := #[.int .i64 a0, .int .i64 2, .string x122002_1, .int .i64 x122003_1, .int .i64 x122004_1, .int .i64 32, .int .i64 x122006_1, .slice Ao55 t164.length co55, .int .i64 (wrap64 ((-44) - a0)), .int .u32 x121009_1]) ?_ 9 _ rfl; (with_reducible repeat (first | refine blk_drewN ?_ _ | refine blk_drew ?_ | refine blk_alloc ?_ _)); refine blk_put (cs := #[.int .i64 a0, .int .i64 2, .string x122002_1, .int .i64 x122003_1, .int .i64 x122004_1, .int .i64 32, .int .i64 x122006_1, .slice Ao55 t164.length co55, .int .i64 x121008_1, .int .u32 x121009_1]) ?_ 8 _ rfl; (with_reducible repeat (first | refine blk_drewN ?_ _ | refine blk_drew ?_ | refine blk_alloc ?_ _)); refine blk_put (cs := #[.int .i64 a0, .int .i64 2, .string x122002_1, .int .i64 x122003_1, .int .i64 x122004_1, .int .i64 32, .int .i64 x122006_1, .slice none 0 0, .int .i64 x121008_1, .int .u32 x121009_1]) ?_ 7 _ rfl; (with_reducible repeat (first | refine blk_drewN ?_ _ | refine blk_drew ?_ | refine blk_alloc ?_ _)); refine blk_put (cs := #[.int .i64 a0, .int .i64 2, .string x122002_1, .int .i64 x122003_1, .int .i64 x122004_1, .int .i64 32, .int .i64 x121006_1, .slice none 0 0, .int .i64 x121008_1, .int .u32 x121009_1]) ?_ 6 _ rfl; (with_reducible repeat (first | refine blk_drewN ?_ _ | refine blk_drew ?_ | refine blk_alloc ?_ _)); refine blk_put (cs := #[.int .i64 a0, .int .i64 2, .string x122002_1, .int .i64 x122003_1, .int .i64 x122004_1, .int .i64 x121005_1, .int .i64 x121006_1, .slice none 0 0, .int .i64 x121008_1, .int .u32 x121009_1]) ?_ 5 _ rfl; (with_reducible repeat (first | refine blk_drewN ?_ _ | refine blk_drew ?_ | refine blk_alloc ?_ _)); refine blk_put (cs := #[.int .i64 a0, .int .i64 2, .string x122002_1, .int .i64 x122003_1, .int .i64 x121004_1, .int .i64 x121005_1, .int .i64 x121006_1, .slice none 0 0, .int .i64 x121008_1, .int .u32 x121009_1]) ?_ 4 _ rfl; (with_reducible repeat (first | refine blk_drewN ?_ _ | refine blk_drew ?_ | refine blk_alloc ?_ _)); refine blk_put (cs := #[.int .i64 a0, .int .i64 2, .string x122002_1, .int .i64 x121003_1, .int .i64 x121004_1, .int .i64 x121005_1, .int .i64 x121006_1, .slice none 0 0, .int .i64 x121008_1, .int .u32 x121009_1]) ?_ 3 _ rfl; (with_reducible repeat (first | refine blk_drewN ?_ _ | refine blk_drew ?_ | refine blk_alloc ?_ _)); refine blk_put (cs := #[.int .i64 a0, .int .i64 2, .string x121002_1, .int .i64 x121003_1, .int .i64 x121004_1, .int .i64 x121005_1, .int .i64 x121006_1, .slice none 0 0, .int .i64 x121008_1, .int .u32 x121009_1]) ?_ 2 _ rfl; (with_reducible repeat (first | refine blk_drewN ?_ _ | refine blk_drew ?_ | refine blk_alloc ?_ _)); refine blk_put (cs := #[.int .i64 a0, .int .i64 x121001_1, .string x121002_1, .int .i64 x121003_1, .int .i64 x121004_1, .int .i64 x121005_1, .int .i64 x121006_1, .slice none 0 0, .int .i64 x121008_1, .int .u32 x121009_1]) ?_ 1 _ rfl; (with_reducible repeat (first | refine blk_drewN ?_ _ | refine blk_drew ?_ | refine blk_alloc ?_ _)); refine blk_put (cs := #[.int .i64 x121000_1, .int .i64 x121001_1, .string x121002_1, .int .i64 x121003_1, .int .i64 x121004_1, .int .i64 x121005_1, .int .i64 x121006_1, .slice none 0 0, .int .i64 x121008_1, .int .u32 x121009_1]) ?_ 0 _ rfl; (with_reducible repeat (first | refine blk_drewN ?_ _ | refine blk_drew ?_ | refine blk_alloc ?_ _)); refine blk_far ?_ NB120_121.out _; (with_reducible repeat (first | refine blk_drewN ?_ _ | refine blk_drew ?_ | refine blk_alloc ?_ _)); refine blk_far ?_ NB120_121.out _; (with_reducible repeat (first | refine blk_drewN ?_ _ | refine blk_drew ?_ | refine blk_alloc ?_ _)); refine blk_far ?_ NB120_121.out _; (with_reducible repeat (first | refine blk_drewN ?_ _ | refine blk_drew ?_ | refine blk_alloc ?_ _)); refine blk_far ?_ NB120_121.out _; (with_reducible repeat (first | refine blk_drewN ?_ _ | refine blk_drew ?_ | refine blk_alloc ?_ _)); refine blk_far ?_ NB120_121.out _; (with_reducible repeat (first | refine blk_drewN ?_ _ | refine blk_drew ?_ | refine blk_alloc ?_ _)); exact BK120.out) Tryz.underlying45 rfl (by kernel_rfl)) rfl ?_
     exact ⟨_, by first | rfl | (simp [errW_none, errW_some] <;> rfl) | (simp [*, errW_none, errW_some] <;> rfl), by (with_reducible repeat (first | apply Kd.R_alloc | apply Kd.R_drewN | apply Kd.R_drew)); exact Kd.R_mono (Kd.R_far (p := ⟨gb120, 9, none⟩) (Kd.R_far (p := ⟨gb120, 8, none⟩) (Kd.R_far (p := ⟨gb120, 7, none⟩) (Kd.R_far (p := ⟨gb120, 6, none⟩) (Kd.R_far (p := ⟨gb120, 5, none⟩) (Kd.R_far (p := ⟨gb120, 4, none⟩) (Kd.R_far (p := ⟨gb120, 3, none⟩) (Kd.R_far (p := ⟨gb120, 2, none⟩) (Kd.R_far (p := ⟨gb120, 1, none⟩) (Kd.R_far (p := ⟨gb120, 0, none⟩) (Kd.R_far (p := ⟨gb121, 0, none⟩) (Kd.R_far (p := ⟨gb121, 8, none⟩) (Kd.R_far (p := ⟨gb121, 7, none⟩) (Kd.R_far (p := ⟨gb121, 5, none⟩) (Kd.R_far (p := ⟨gb121, 1, none⟩) (Kd.R_types (Kd.R_types HO166.out BK121.out (by decide)) BK120.out (by decide)) (fun _ hk => hk.1.2) (.int .i64 2)) (fun _ hk => hk.1.2) (.int .i64 32)) (fun _ hk => hk.1.2) (.slice Ao55 t164.length co55)) (fun _ hk => hk.1.2) (.int .i64 (wrap64 ((-44) - a0)))) (fun _ hk => hk.1.2) (.int .i64 a0)) (fun _ hk => hk.2) (.int .i64 a0)) (fun _ hk => hk.2) (.int .i64 2)) (fun _ hk => hk.2) (.string x122002_1)) (fun _ hk => hk.2) (.int .i64 x122003_1)) (fun _ hk => hk.2) (.int .i64 x122004_1)) (fun _ hk => hk.2) (.int .i64 32)) (fun _ hk => hk.2) (.int .i64 x122006_1)) (fun _ hk => hk.2) (.slice Ao55 t164.length co55)) (fun _ hk => hk.2) (.int .i64 (wrap64 ((-44) - a0)))) (fun _ hk => hk.2) (.int .u32 x122009_1)) (fun _ hk => trivial), by repeat (first | (with_reducible first | exact HB.out | apply below_alloc | apply pw_below_drewN | apply below_drew1 | refine below_set ?_ GE120.out | refine below_set ?_ GE121.out) | exact HB.out)⟩
    ·rw [if_neg c50] at H
     have c50b0 : (a0 == 5) = false := beq_eq_false_iff_ne.mpr c50
     have c50b1 : (a0 != 5) = true := bne_iff_ne.mpr c50
     by_cases c57 : a0 = 6
     ·rw [if_pos c57] at H
      have c57b0 : (a0 == 6) = true := beq_iff_eq.mpr c57
      have c57b1 : (a0 != 6) = false := bne_eq_false_iff_eq.mpr c57
      clear c57
      replace H := Option.bind_eq_some_iff.mp H
      obtain ⟨t167, A580, H⟩ := H
      replace H : (some (a0, 2, x122002_1, x122003_1, x122004_1, 32, x122006_1, t167, wrap64 ((-44) - a0), x122009_1, true)) = some (r1, r2, r3, r4, r5, r6, r7, r8, r9, r10, r11) := H
      have A58 := Aside0.mk A580
      clear A580
      simp only [Option.some.injEq, Prod.mk.injEq] at H
      obtain ⟨rfl, rfl, rfl, rfl, rfl, rfl, rfl, rfl, rfl, rfl, rfl⟩ := H
      go_wp2_with (first | ((with_reducible refine gate_callee (f := 39) rfl ?_); refine goesL_ (some 51) rfl rfl Tryz.func39 (by kernel_rfl) rfl #[.int .i64 3, .int .i64 (wrap64 (a0 + 13))] rfl q29_ ?_; (with_reducible refine (params_nist.calls 3 (wrap64 (a0 + 13)) t167 _ A58.out).mono ?_); rintro e w59 ⟨v168, rfl, ho0, hb⟩; refine ⟨_, rfl, ?_⟩; have n0_ := Aside0.mk (Kd.R_elder' q44_ (Kd.R_base ho0) hb); have n1_ := Aside0.mk (Kd.R_lower (Kd.R_new' ho0 (Kd.R_lt q44_)) (below_size q12_)); have n2_ := Aside0.mk (blk_below (g := gb120) (o := .cells #[.int .i64 x121000_1, .int .i64 x121001_1, .string x121002_1, .int .i64 x121003_1, .int .i64 x121004_1, .int .i64 x121005_1, .int .i64 x121006_1, .slice none 0 0, .int .i64 x121008_1, .int .u32 x121009_1] 45 (0, 0)) q33_ hb); have n3_ := Aside0.mk (blk_below (g := gb121) (o := .cells #[.int .i64 x122000_1, .int .i64 x122001_1, .string x122002_1, .int .i64 x122003_1, .int .i64 x122004_1, .int .i64 x122005_1, .int .i64 x122006_1, u122007, .int .i64 x122008_1, .int .u32 x122009_1] 45 (0, 0)) q34_ hb); have n4_ := Aside0.mk (below_step q12_ hb); clear HO_122007; clear BK120; clear BK121; clear HB; have HO_122007 := n0_; have HO169 := n1_; have BK120 := n2_; have BK121 := n3_; have HB := n4_; clear n0_ n1_ n2_ n3_ n4_; (try clear hb); (try clear hb2); (try clear hk); (try clear hi); (try clear ho0); have hnb60 := NB121_120.out; have hnc60 := NB120_121.out; obtain ⟨hcz61_0, hcz61_1, hcz61_2, hcz61_3, hcz61_4, hcz61_5, hcz61_6, hcz61_7, hcz61_8, hcz61_9⟩ := cells10_ BK121.out; obtain ⟨hfz61_0, hfz61_1, hfz61_2, hfz61_3, hfz61_4, hfz61_5, hfz61_6, hfz61_7, hfz61_8, hfz61_9⟩ := frz10_ BK121.out; obtain ⟨Ao62, co62, eo62⟩ := Kd.R_slice HO169.out; subst eo62; obtain ⟨hcz63_0, hcz63_1, hcz63_2, hcz63_3, hcz63_4, hcz63_5, hcz63_6, hcz63_7, hcz63_8, hcz63_9⟩ := cells10_ BK120.out; obtain ⟨hfz63_0, hfz63_1, hfz63_2, hfz63_3, hfz63_4, hfz63_5, hfz63_6, hfz63_7, hfz63_8, hfz63_9⟩ := frz10_ BK120.out))
      refine bodyPost_ret (results_ct rfl _ _ gb120 45 #[.int .i64 a0, .int .i64 2, .string x122002_1, .int .i64 x122003_1, .int .i64 x122004_1, .int .i64 32, .int .i64 x122006_1, .slice Ao62 t167.length co62, .int .i64 (wrap64 ((-44) - a0)), .int .u32 x122009_1] (0, 0) _ rfl (by (with_reducible repeat (first | refine blk_drewN ?_ _ | refine blk_drew ?_ | refine blk_alloc ?_ _)); refine blk_put (cs := #[.int .i64 a0, .int .i64 2, .string x122002_1, .int .i64 x122003_1, .int .i64 x122004_1, .int .i64 32, .int .i64 x122006_1, .slice Ao62 t167.length co62, .int .i64 (wrap64 ((-44) - a0)), .int .u32 x121009_1]) ?_ 9 _ rfl; (with_reducible repeat (first | refine blk_drewN ?_ _ | refine blk_drew ?_ | refine blk_alloc ?_ _)); refine blk_put (cs := #[.int .i64 a0, .int .i64 2, .string x122002_1, .int .i64 x122003_1, .int .i64 x122004_1, .int .i64 32, .int .i64 x122006_1, .slice Ao62 t167.length co62, .int .i64 x121008_1, .int .u32 x121009_1]) ?_ 8 _ rfl; (with_reducible repeat (first | refine blk_drewN ?_ _ | refine blk_drew ?_ | refine blk_alloc ?_ _)); refine blk_put (cs := #[.int .i64 a0, .int .i64 2, .string x122002_1, .int .i64 x122003_1, .int .i64 x122004_1, .int .i64 32, .int .i64 x122006_1, .slice none 0 0, .int .i64 x121008_1, .int .u32 x121009_1]) ?_ 7 _ rfl; (with_reducible repeat (first | refine blk_drewN ?_ _ | refine blk_drew ?_ | refine blk_alloc ?_ _)); refine blk_put (cs := #[.int .i64 a0, .int .i64 2, .string x122002_1, .int .i64 x122003_1, .int .i64 x122004_1, .int .i64 32, .int .i64 x121006_1, .slice none 0 0, .int .i64 x121008_1, .int .u32 x121009_1]) ?_ 6 _ rfl; (with_reducible repeat (first | refine blk_drewN ?_ _ | refine blk_drew ?_ | refine blk_alloc ?_ _)); refine blk_put (cs := #[.int .i64 a0, .int .i64 2, .string x122002_1, .int .i64 x122003_1, .int .i64 x122004_1, .int .i64 x121005_1, .int .i64 x121006_1, .slice none 0 0, .int .i64 x121008_1, .int .u32 x121009_1]) ?_ 5 _ rfl; (with_reducible repeat (first | refine blk_drewN ?_ _ | refine blk_drew ?_ | refine blk_alloc ?_ _)); refine blk_put (cs := #[.int .i64 a0, .int .i64 2, .string x122002_1, .int .i64 x122003_1, .int .i64 x121004_1, .int .i64 x121005_1, .int .i64 x121006_1, .slice none 0 0, .int .i64 x121008_1, .int .u32 x121009_1]) ?_ 4 _ rfl; (with_reducible repeat (first | refine blk_drewN ?_ _ | refine blk_drew ?_ | refine blk_alloc ?_ _)); refine blk_put (cs := #[.int .i64 a0, .int .i64 2, .string x122002_1, .int .i64 x121003_1, .int .i64 x121004_1, .int .i64 x121005_1, .int .i64 x121006_1, .slice none 0 0, .int .i64 x121008_1, .int .u32 x121009_1]) ?_ 3 _ rfl; (with_reducible repeat (first | refine blk_drewN ?_ _ | refine blk_drew ?_ | refine blk_alloc ?_ _)); refine blk_put (cs := #[.int .i64 a0, .int .i64 2, .string x121002_1, .int .i64 x121003_1, .int .i64 x121004_1, .int .i64 x121005_1, .int .i64 x121006_1, .slice none 0 0, .int .i64 x121008_1, .int .u32 x121009_1]) ?_ 2 _ rfl; (with_reducible repeat (first | refine blk_drewN ?_ _ | refine blk_drew ?_ | refine blk_alloc ?_ _)); refine blk_put (cs := #[.int .i64 a0, .int .i64 x121001_1, .string x121002_1, .int .i64 x121003_1, .int .i64 x121004_1, .int .i64 x121005_1, .int .i64 x121006_1, .slice none 0 0, .int .i64 x121008_1, .int .u32 x121009_1]) ?_ 1 _ rfl; (with_reducible repeat (first | refine blk_drewN ?_ _ | refine blk_drew ?_ | refine blk_alloc ?_ _)); refine blk_put (cs := #[.int .i64 x121000_1, .int .i64 x121001_1, .string x121002_1, .int .i64 x121003_1, .int .i64 x121004_1, .int .i64 x121005_1, .int .i64 x121006_1, .slice none 0 0, .int .i64 x121008_1, .int .u32 x121009_1]) ?_ 0 _ rfl; (with_reducible repeat (first | refine blk_drewN ?_ _ | refine blk_drew ?_ | refine blk_alloc ?_ _)); refine blk_far ?_ NB120_121.out _; (with_reducible repeat (first | refine blk_drewN ?_ _ | refine blk_drew ?_ | refine blk_alloc ?_ _)); refine blk_far ?_ NB120_121.out _; (with_reducible repeat (first | refine blk_drewN ?_ _ | refine blk_drew ?_ | refine blk_alloc ?_ _)); refine blk_far ?_ NB120_121.out _; (with_reducible repeat (first | refine blk_drewN ?_ _ | refine blk_drew ?_ | refine blk_alloc ?_ _)); refine blk_far ?_ NB120_121.out _; (with_reducible repeat (first | refine blk_drewN ?_ _ | refine blk_drew ?_ | refine blk_alloc ?_ _)); refine blk_far ?_ NB120_121.out _; (with_reducible repeat (first | refine blk_drewN ?_ _ | refine blk_drew ?_ | refine blk_alloc ?_ _)); exact BK120.out) Tryz.underlying45 rfl (by kernel_rfl)) rfl ?_
      exact ⟨_, by first | rfl | (simp [errW_none, errW_some] <;> rfl) | (simp [*, errW_none, errW_some] <;> rfl), by (with_reducible repeat (first | apply Kd.R_alloc | apply Kd.R_drewN | apply Kd.R_drew)); exact Kd.R_mono (Kd.R_far (p := ⟨gb120, 9, none⟩) (Kd.R_far (p := ⟨gb120, 8, none⟩) (Kd.R_far (p := ⟨gb120, 7, none⟩) (Kd.R_far (p := ⟨gb120, 6, none⟩) (Kd.R_far (p := ⟨gb120, 5, none⟩) (Kd.R_far (p := ⟨gb120, 4, none⟩) (Kd.R_far (p := ⟨gb120, 3, none⟩) (Kd.R_far (p := ⟨gb120, 2, none⟩) (Kd.R_far (p := ⟨gb120, 1, none⟩) (Kd.R_far (p := ⟨gb120, 0, none⟩) (Kd.R_far (p := ⟨gb121, 0, none⟩) (Kd.R_far (p := ⟨gb121, 8, none⟩) (Kd.R_far (p := ⟨gb121, 7, none⟩) (Kd.R_far (p := ⟨gb121, 5, none⟩) (Kd.R_far (p := ⟨gb121, 1, none⟩) (Kd.R_types (Kd.R_types HO169.out BK121.out (by decide)) BK120.out (by decide)) (fun _ hk => hk.1.2) (.int .i64 2)) (fun _ hk => hk.1.2) (.int .i64 32)) (fun _ hk => hk.1.2) (.slice Ao62 t167.length co62)) (fun _ hk => hk.1.2) (.int .i64 (wrap64 ((-44) - a0)))) (fun _ hk => hk.1.2) (.int .i64 a0)) (fun _ hk => hk.2) (.int .i64 a0)) (fun _ hk => hk.2) (.int .i64 2)) (fun _ hk => hk.2) (.string x122002_1)) (fun _ hk => hk.2) (.int .i64 x122003_1)) (fun _ hk => hk.2) (.int .i64 x122004_1)) (fun _ hk => hk.2) (.int .i64 32)) (fun _ hk => hk.2) (.int .i64 x122006_1)) (fun _ hk => hk.2) (.slice Ao62 t167.length co62)) (fun _ hk => hk.2) (.int .i64 (wrap64 ((-44) - a0)))) (fun _ hk => hk.2) (.int .u32 x122009_1)) (fun _ hk => trivial), by repeat (first | (with_reducible first | exact HB.out | apply below_alloc | apply pw_below_drewN | apply below_drew1 | refine below_set ?_ GE120.out | refine below_set ?_ GE121.out) | exact HB.out)⟩
     ·rw [if_neg c57] at H
      have c57b0 : (a0 == 6) = false := beq_eq_false_iff_ne.mpr c57
      have c57b1 : (a0 != 6) = true := bne_iff_ne.mpr c57
      simp only [Option.some.injEq, Prod.mk.injEq] at H
      obtain ⟨rfl, rfl, rfl, rfl, rfl, rfl, rfl, rfl, rfl, rfl, rfl⟩ := H
      have hnb64 := NB121_120.out
      have hnc64 := NB120_121.out
      obtain ⟨hcz65_0, hcz65_1, hcz65_2, hcz65_3, hcz65_4, hcz65_5, hcz65_6, hcz65_7, hcz65_8, hcz65_9⟩ := cells10_ BK121.out
      obtain ⟨hfz65_0, hfz65_1, hfz65_2, hfz65_3, hfz65_4, hfz65_5, hfz65_6, hfz65_7, hfz65_8, hfz65_9⟩ := frz10_ BK121.out
      obtain ⟨hcz66_0, hcz66_1, hcz66_2, hcz66_3, hcz66_4, hcz66_5, hcz66_6, hcz66_7, hcz66_8, hcz66_9⟩ := cells10_ BK120.out
      obtain ⟨hfz66_0, hfz66_1, hfz66_2, hfz66_3, hfz66_4, hfz66_5, hfz66_6, hfz66_7, hfz66_8, hfz66_9⟩ := frz10_ BK120.out
      obtain ⟨Ao67, co67, eo67⟩ := Kd.R_slice HO_122007.out
      subst eo67
      go_wp2
      refine bodyPost_ret (results_ct rfl _ _ gb120 45 #[.int .i64 a0, .int .i64 x122001_1, .string x122002_1, .int .i64 x122003_1, .int .i64 x122004_1, .int .i64 x122005_1, .int .i64 x122006_1, .slice Ao67 x122007_1.length co67, .int .i64 x122008_1, .int .u32 x122009_1] (0, 0) _ rfl (by (with_reducible repeat (first | refine blk_drewN ?_ _ | refine blk_drew ?_ | refine blk_alloc ?_ _)); refine blk_put (cs := #[.int .i64 a0, .int .i64 x122001_1, .string x122002_1, .int .i64 x122003_1, .int .i64 x122004_1, .int .i64 x122005_1, .int .i64 x122006_1, .slice Ao67 x122007_1.length co67, .int .i64 x122008_1, .int .u32 x121009_1]) ?_ 9 _ rfl; (with_reducible repeat (first | refine blk_drewN ?_ _ | refine blk_drew ?_ | refine blk_alloc ?_ _)); refine blk_put (cs := #[.int .i64 a0, .int .i64 x122001_1, .string x122002_1, .int .i64 x122003_1, .int .i64 x122004_1, .int .i64 x122005_1, .int .i64 x122006_1, .slice Ao67 x122007_1.length co67, .int .i64 x121008_1, .int .u32 x121009_1]) ?_ 8 _ rfl; (with_reducible repeat (first | refine blk_drewN ?_ _ | refine blk_drew ?_ | refine blk_alloc ?_ _)); refine blk_put (cs := #[.int .i64 a0, .int .i64 x122001_1, .string x122002_1, .int .i64 x122003_1, .int .i64 x122004_1, .int .i64 x122005_1, .int .i64 x122006_1, .slice none 0 0, .int .i64 x121008_1, .int .u32 x121009_1]) ?_ 7 _ rfl; (with_reducible repeat (first | refine blk_drewN ?_ _ | refine blk_drew ?_ | refine blk_alloc ?_ _)); refine blk_put (cs := #[.int .i64 a0, .int .i64 x122001_1, .string x122002_1, .int .i64 x122003_1, .int .i64 x122004_1, .int .i64 x122005_1, .int .i64 x121006_1, .slice none 0 0, .int .i64 x121008_1, .int .u32 x121009_1]) ?_ 6 _ rfl; (with_reducible repeat (first | refine blk_drewN ?_ _ | refine blk_drew ?_ | refine blk_alloc ?_ _)); refine blk_put (cs := #[.int .i64 a0, .int .i64 x122001_1, .string x122002_1, .int .i64 x122003_1, .int .i64 x122004_1, .int .i64 x121005_1, .int .i64 x121006_1, .slice none 0 0, .int .i64 x121008_1, .int .u32 x121009_1]) ?_ 5 _ rfl; (with_reducible repeat (first | refine blk_drewN ?_ _ | refine blk_drew ?_ | refine blk_alloc ?_ _)); refine blk_put (cs := #[.int .i64 a0, .int .i64 x122001_1, .string x122002_1, .int .i64 x122003_1, .int .i64 x121004_1, .int .i64 x121005_1, .int .i64 x121006_1, .slice none 0 0, .int .i64 x121008_1, .int .u32 x121009_1]) ?_ 4 _ rfl; (with_reducible repeat (first | refine blk_drewN ?_ _ | refine blk_drew ?_ | refine blk_alloc ?_ _)); refine blk_put (cs := #[.int .i64 a0, .int .i64 x122001_1, .string x122002_1, .int .i64 x121003_1, .int .i64 x121004_1, .int .i64 x121005_1, .int .i64 x121006_1, .slice none 0 0, .int .i64 x121008_1, .int .u32 x121009_1]) ?_ 3 _ rfl; (with_reducible repeat (first | refine blk_drewN ?_ _ | refine blk_drew ?_ | refine blk_alloc ?_ _)); refine blk_put (cs := #[.int .i64 a0, .int .i64 x122001_1, .string x121002_1, .int .i64 x121003_1, .int .i64 x121004_1, .int .i64 x121005_1, .int .i64 x121006_1, .slice none 0 0, .int .i64 x121008_1, .int .u32 x121009_1]) ?_ 2 _ rfl; (with_reducible repeat (first | refine blk_drewN ?_ _ | refine blk_drew ?_ | refine blk_alloc ?_ _)); refine blk_put (cs := #[.int .i64 a0, .int .i64 x121001_1, .string x121002_1, .int .i64 x121003_1, .int .i64 x121004_1, .int .i64 x121005_1, .int .i64 x121006_1, .slice none 0 0, .int .i64 x121008_1, .int .u32 x121009_1]) ?_ 1 _ rfl; (with_reducible repeat (first | refine blk_drewN ?_ _ | refine blk_drew ?_ | refine blk_alloc ?_ _)); refine blk_put (cs := #[.int .i64 x121000_1, .int .i64 x121001_1, .string x121002_1, .int .i64 x121003_1, .int .i64 x121004_1, .int .i64 x121005_1, .int .i64 x121006_1, .slice none 0 0, .int .i64 x121008_1, .int .u32 x121009_1]) ?_ 0 _ rfl; (with_reducible repeat (first | refine blk_drewN ?_ _ | refine blk_drew ?_ | refine blk_alloc ?_ _)); refine blk_far ?_ NB120_121.out _; (with_reducible repeat (first | refine blk_drewN ?_ _ | refine blk_drew ?_ | refine blk_alloc ?_ _)); exact BK120.out) Tryz.underlying45 rfl (by kernel_rfl)) rfl ?_
      exact ⟨_, by first | rfl | (simp [errW_none, errW_some] <;> rfl) | (simp [*, errW_none, errW_some] <;> rfl), by (with_reducible repeat (first | apply Kd.R_alloc | apply Kd.R_drewN | apply Kd.R_drew)); exact Kd.R_mono (Kd.R_far (p := ⟨gb120, 9, none⟩) (Kd.R_far (p := ⟨gb120, 8, none⟩) (Kd.R_far (p := ⟨gb120, 7, none⟩) (Kd.R_far (p := ⟨gb120, 6, none⟩) (Kd.R_far (p := ⟨gb120, 5, none⟩) (Kd.R_far (p := ⟨gb120, 4, none⟩) (Kd.R_far (p := ⟨gb120, 3, none⟩) (Kd.R_far (p := ⟨gb120, 2, none⟩) (Kd.R_far (p := ⟨gb120, 1, none⟩) (Kd.R_far (p := ⟨gb120, 0, none⟩) (Kd.R_far (p := ⟨gb121, 0, none⟩) (Kd.R_types (Kd.R_types HO_122007.out BK121.out (by decide)) BK120.out (by decide)) (fun _ hk => hk.1.2) (.int .i64 a0)) (fun _ hk => hk.2) (.int .i64 a0)) (fun _ hk => hk.2) (.int .i64 x122001_1)) (fun _ hk => hk.2) (.string x122002_1)) (fun _ hk => hk.2) (.int .i64 x122003_1)) (fun _ hk => hk.2) (.int .i64 x122004_1)) (fun _ hk => hk.2) (.int .i64 x122005_1)) (fun _ hk => hk.2) (.int .i64 x122006_1)) (fun _ hk => hk.2) (.slice Ao67 x122007_1.length co67)) (fun _ hk => hk.2) (.int .i64 x122008_1)) (fun _ hk => hk.2) (.int .u32 x122009_1)) (fun _ hk => trivial), by repeat (first | (with_reducible first | exact HB.out | apply below_alloc | apply pw_below_drewN | apply below_drew1 | refine below_set ?_ GE120.out | refine below_set ?_ GE121.out) | exact HB.out)⟩
end Go.Proofs.YtgmnknhfeoleaaaGreatDoor.PXmss
