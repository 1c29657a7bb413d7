import Derived.Test.YtohmnlmeamkmjaaDoorZPParamsx0
import Derived.Test.YtohmnlmeamkmjaaDoorZPParamsx1
import Derived.Test.YtohmnlmeamkmjaaDoorZPParamsx3
import Derived.Test.YtohmnlmeamkmjaaDoorZPParamsx4
import Derived.Test.YtohmnlmeamkmjaaDoorZPParamsx10
import Derived.Test.YtohmnlmeamkmjaaDoorZPParamsx11
namespace Go.Proofs.YtohmnlmeamkmjaaDoor.PParams
open Go.RowKit Go.Proofs.YtohmnlmeamkmjaaDoorW.PrintWords Go.Proofs.YtohmnlmeamkmjaaDoorW.PrintLast Go.Proofs.YtohmnlmeamkmjaaDoorW.PrintMore
attribute [local go_sem] max2_int min2_int max_two min_two max_three min_three max_four min_four
set_option linter.unusedVariables false
set_option linter.unusedSimpArgs false
mutual
def params_Get.j1 : Nat → Int → Int → Int → ByteArray → Int → Int → Int → Int → List Int → Int → Int → Option (Int × Int × ByteArray × Int × Int × Int × Int × List Int × Int × Int × Bool)
  | 0, _, _, _, _, _, _, _, _, _, _, _ => none
  | k + 1, x0, x122000, x122001, x122002, x122003, x122004, x122005, x122006, x122007, x122008, x122009 => if x0 = 4 then ((params_nist.f 3 (wrap64 (x0 + 13))).bind fun t161 => (some (x0, 2, x122002, x122003, x122004, 32, x122006, t161, wrap64 ((-44) - x0), x122009, true))) else (if x0 = 5 then ((params_nist.f 3 (wrap64 (x0 + 13))).bind fun t164 => (some (x0, 2, x122002, x122003, x122004, 32, x122006, t164, wrap64 ((-44) - x0), x122009, true))) else (if x0 = 6 then ((params_nist.f 3 (wrap64 (x0 + 13))).bind fun t167 => (some (x0, 2, x122002, x122003, x122004, 32, x122006, t167, wrap64 ((-44) - x0), x122009, true))) else (some (x0, x122001, x122002, x122003, x122004, x122005, x122006, x122007, x122008, x122009, true))))
def params_Get.j0 : Nat → Int → Bool → Int → Int → ByteArray → Int → Int → Int → Int → Int → Int → Option (Int × Int × ByteArray × Int × Int × Int × Int × List Int × Int × Int × Bool)
  | 0, _, _, _, _, _, _, _, _, _, _, _ => none
  | k + 1, x0, x7, x122000, x122001, x122002, x122003, x122004, x122005, x122006, x122008, x122009 => if x7 = true then (some (x122000, x122001, x122002, x122003, x122004, x122005, x122006, ([] : List Int), x122008, x122009, false)) else (if x0 ≤ 3 then ((params_kem.f x0).bind fun bt122 => (params_Get.j1 k x0 bt122.1 bt122.2.1 bt122.2.2.1 bt122.2.2.2.1 bt122.2.2.2.2.1 bt122.2.2.2.2.2.1 bt122.2.2.2.2.2.2.1 bt122.2.2.2.2.2.2.2.1 bt122.2.2.2.2.2.2.2.2.1 bt122.2.2.2.2.2.2.2.2.2)) else (if x0 = 4 then (params_Get.j1 k x0 0 0 (⟨#[77, 76, 45, 68, 83, 65, 45, 52, 52]⟩ : ByteArray) 1312 2560 0 2420 ([] : List Int) 0 0) else (if x0 = 5 then (params_Get.j1 k x0 0 0 (⟨#[77, 76, 45, 68, 83, 65, 45, 54, 53]⟩ : ByteArray) 1952 4032 0 3309 ([] : List Int) 0 0) else (if x0 = 6 then (params_Get.j1 k x0 0 0 (⟨#[77, 76, 45, 68, 83, 65, 45, 56, 55]⟩ : ByteArray) 2592 4896 0 4627 ([] : List Int) 0 0) else (if x0 < 19 then ((params_slh.f x0).bind fun bt134 => (params_Get.j1 k x0 bt134.1 bt134.2.1 bt134.2.2.1 bt134.2.2.2.1 bt134.2.2.2.2.1 bt134.2.2.2.2.2.1 bt134.2.2.2.2.2.2.1 bt134.2.2.2.2.2.2.2.1 bt134.2.2.2.2.2.2.2.2.1 bt134.2.2.2.2.2.2.2.2.2)) else (if x0 = 19 then ((params_of.f k (⟨#[49, 46, 50, 46, 56, 52, 48, 46, 49, 49, 51, 53, 52, 57, 46, 49, 46, 57, 46, 49, 54, 46, 51, 46, 49, 55]⟩ : ByteArray)).bind fun t146 => (params_Get.j1 k x0 0 4 (⟨#[72, 83, 83, 47, 76, 77, 83]⟩ : ByteArray) 0 0 0 0 t146 0 0)) else ((params_xmss.f x0).bind fun bt149 => (params_Get.j1 k x0 bt149.1 bt149.2.1 bt149.2.2.1 bt149.2.2.2.1 bt149.2.2.2.2.1 bt149.2.2.2.2.2.1 bt149.2.2.2.2.2.2.1 bt149.2.2.2.2.2.2.2.1 bt149.2.2.2.2.2.2.2.2.1 bt149.2.2.2.2.2.2.2.2.2))))))))
end
def params_Get.f (k : Nat) (a0 : Int) : Option (Int × Int × ByteArray × Int × Int × Int × Int × List Int × Int × Int × Bool) := if a0 < 1 then (params_Get.j0 k a0 true 0 0 (⟨#[]⟩ : ByteArray) 0 0 0 0 0 0) else (params_Get.j0 k a0 (decide (a0 > 25)) 0 0 (⟨#[]⟩ : ByteArray) 0 0 0 0 0 0)
theorem params_Get.mono_l : ∀ k, (∀ y0 y1 y2 y3 y4 y5 y6 y7 y8 y9 y10, LeO (params_Get.j1 k y0 y1 y2 y3 y4 y5 y6 y7 y8 y9 y10) (params_Get.j1 (k + 1) y0 y1 y2 y3 y4 y5 y6 y7 y8 y9 y10)) ∧ (∀ y0 y1 y2 y3 y4 y5 y6 y7 y8 y9 y10, LeO (params_Get.j0 k y0 y1 y2 y3 y4 y5 y6 y7 y8 y9 y10) (params_Get.j0 (k + 1) y0 y1 y2 y3 y4 y5 y6 y7 y8 y9 y10))
  | 0 => ⟨fun _ _ _ _ _ _ _ _ _ _ _ r h => by simp [params_Get.j1] at h, fun _ _ _ _ _ _ _ _ _ _ _ r h => by simp [params_Get.j0] at h⟩
  | k + 1 => by
    obtain ⟨ih0, ih1⟩ := params_Get.mono_l k
    refine ⟨?_, ?_⟩
    · intro y0 y1 y2 y3 y4 y5 y6 y7 y8 y9 y10
      unfold params_Get.j1
      repeat' first
      | (with_reducible exact ih0 _ _ _ _ _ _ _ _ _ _ _)
      | (with_reducible exact ih1 _ _ _ _ _ _ _ _ _ _ _)
      | (with_reducible exact params_of.mono _ _)
      | (with_reducible exact LeO.refl _)
      | (with_reducible exact LeO.none _)
      | (with_reducible refine LeO.ite ?_ ?_)
      | (with_reducible refine LeO.bind ?_ (fun _ => ?_))
      | exact ih0 _ _ _ _ _ _ _ _ _ _ _
      | exact ih1 _ _ _ _ _ _ _ _ _ _ _
      | exact params_of.mono _ _
      | exact LeO.none _
      | refine LeO.ite ?_ ?_
      | refine LeO.bind ?_ (fun _ => ?_)
    · intro y0 y1 y2 y3 y4 y5 y6 y7 y8 y9 y10
      unfold params_Get.j0
      repeat' first
      | (with_reducible exact ih0 _ _ _ _ _ _ _ _ _ _ _)
      | (with_reducible exact ih1 _ _ _ _ _ _ _ _ _ _ _)
      | (with_reducible exact params_of.mono _ _)
      | (with_reducible exact LeO.refl _)
      | (with_reducible exact LeO.none _)
      | (with_reducible refine LeO.ite ?_ ?_)
      | (with_reducible refine LeO.bind ?_ (fun _ => ?_))
      | exact ih0 _ _ _ _ _ _ _ _ _ _ _
      | exact ih1 _ _ _ _ _ _ _ _ _ _ _
      | exact params_of.mono _ _
      | exact LeO.none _
      | refine LeO.ite ?_ ?_
      | refine LeO.bind ?_ (fun _ => ?_)
theorem params_Get.mono : ∀ a0 k, LeO (params_Get.f k a0) (params_Get.f (k + 1) a0) := by
  intro a0 k
  obtain ⟨ih0, ih1⟩ := params_Get.mono_l k
  unfold params_Get.f
  repeat' first
      | (with_reducible exact ih0 _ _ _ _ _ _ _ _ _ _ _)
      | (with_reducible exact ih1 _ _ _ _ _ _ _ _ _ _ _)
      | (with_reducible exact params_of.mono _ _)
      | (with_reducible exact LeO.refl _)
      | (with_reducible exact LeO.none _)
      | (with_reducible refine LeO.ite ?_ ?_)
      | (with_reducible refine LeO.bind ?_ (fun _ => ?_))
      | exact ih0 _ _ _ _ _ _ _ _ _ _ _
      | exact ih1 _ _ _ _ _ _ _ _ _ _ _
      | exact params_of.mono _ _
      | exact LeO.none _
      | refine LeO.ite ?_ ?_
      | refine LeO.bind ?_ (fun _ => ?_)
set_option maxHeartbeats 8000000 in
set_option maxRecDepth 100000 in
theorem params_Get.calls (k : Nat) (a0 : Int) (r1 : Int) (r2 : Int) (r3 : ByteArray) (r4 : Int) (r5 : Int) (r6 : Int) (r7 : Int) (r8 : List Int) (r9 : Int) (r10 : Int) (r11 : Bool) (w : World) (h : params_Get.f k a0 = some (r1, r2, r3, r4, r5, r6, r7, r8, r9, r10, r11)) (hG : GOK w) :
    Calls Tryd.prog 28 #[.int .i64 a0] w fun e w' => ∃ v7_ : Value, e = .returned (.tuple #[.agg #[.int .i64 r1, .int .i64 r2, .string r3, .int .i64 r4, .int .i64 r5, .int .i64 r6, .int .i64 r7, v7_, .int .i64 r9, .int .u32 r10], .bool r11]) ∧ Kd.R (Kd.int .u32) 33 w' w.heap.size (fun _ => True) v7_ r8 ∧ Below w.heap.size w w' := by
  have HG := Aside0.mk hG
  clear hG
  have hu37 := Tryd.underlying37
  have HB := Aside0.mk (Below.refl w.heap.size w)
  have H : (if a0 < 1 then (params_Get.j0 k a0 true 0 0 (⟨#[]⟩ : ByteArray) 0 0 0 0 0 0) else (params_Get.j0 k a0 (decide (a0 > 25)) 0 0 (⟨#[]⟩ : ByteArray) 0 0 0 0 0 0)) = some (r1, r2, r3, r4, r5, r6, r7, r8, r9, r10, r11) := h
  clear h
  have HC2 := Aside0.mk H
  clear H
  go_enter Tryd.func28, Tryd.ntmps28
  go_upto_block 0 with (first | ((with_reducible refine gate_dst (N := 2) rfl ?_); refine box_event ?hg (N := 2) ?hd (cs := #[.int .i64 0, .int .i64 0, .string (⟨#[]⟩ : ByteArray), .int .i64 0, .int .i64 0, .int .i64 0, .int .i64 0, .slice none 0 0, .int .i64 0, .int .u32 0]) (t := 37) ?hr ?_; (case hd => rfl); (case hg => rfl); (case hr => first | (go_simp; done) | (go_simp; rfl)); intro gb120 hg w3 hbox hb; have n0_ := Aside0.mk (below_step (by repeat (first | (with_reducible first | exact HB.out | apply below_alloc | apply pw_below_drewN | apply below_drew1) | exact HB.out)) hb); have n1_ := Aside0.mk (hbox); have n2_ := Aside0.mk ((by rw [hg]; exact (below_size (by repeat (first | (with_reducible first | exact HB.out | apply below_alloc | apply pw_below_drewN | apply below_drew1) | exact HB.out))) : w.heap.size ≤ gb120)); have n3_ := Aside0.mk ((by rw [hg]; exact (below_size (by repeat (first | (with_reducible first | exact HB.out | apply below_alloc | apply pw_below_drewN | apply below_drew1) | exact HB.out))) : w.heap.size ≤ gb120)); clear HB; have HB := n0_; have BK120 := n1_; have GW120 := n2_; have GE120 := n3_; clear n0_ n1_ n2_ n3_; clear hb hbox hg) | ((with_reducible refine gate_dst (N := 4) rfl ?_); refine box_event ?hg (N := 4) ?hd (cs := #[.int .i64 0, .int .i64 0, .string (⟨#[]⟩ : ByteArray), .int .i64 0, .int .i64 0, .int .i64 0, .int .i64 0, .slice none 0 0, .int .i64 0, .int .u32 0]) (t := 37) ?hr ?_; (case hd => rfl); (case hg => rfl); (case hr => first | (go_simp; done) | (go_simp; rfl)); intro gb121 hg w4 hbox hb; have n0_ := Aside0.mk (blk_below (g := gb120) (o := .cells #[.int .i64 0, .int .i64 0, .string (⟨#[]⟩ : ByteArray), .int .i64 0, .int .i64 0, .int .i64 0, .int .i64 0, .slice none 0 0, .int .i64 0, .int .u32 0] 37 (0, 0)) (by (with_reducible repeat (first | refine blk_drewN ?_ _ | refine blk_drew ?_ | refine blk_alloc ?_ _)); exact BK120.out) hb); have n1_ := Aside0.mk (below_step (by repeat (first | (with_reducible first | exact HB.out | apply below_alloc | apply pw_below_drewN | apply below_drew1 | refine below_set ?_ GE120.out) | exact HB.out)) hb); have n2_ := Aside0.mk (hbox); have n3_ := Aside0.mk ((by rw [hg]; exact (below_size (by repeat (first | (with_reducible first | exact HB.out | apply below_alloc | apply pw_below_drewN | apply below_drew1 | refine below_set ?_ GE120.out) | exact HB.out))) : w.heap.size ≤ gb121)); have n4_ := Aside0.mk ((by rw [hg]; exact (below_size (by repeat (first | (with_reducible first | exact HB.out | apply below_alloc | apply pw_below_drewN | apply below_drew1 | refine below_set ?_ GE120.out) | exact HB.out))) : w.heap.size ≤ gb121)); have n5_ := Aside0.mk ((by rw [hg]; exact Nat.ne_of_lt (blk_lt (g := gb120) (o := .cells #[.int .i64 0, .int .i64 0, .string (⟨#[]⟩ : ByteArray), .int .i64 0, .int .i64 0, .int .i64 0, .int .i64 0, .slice none 0 0, .int .i64 0, .int .u32 0] 37 (0, 0)) (by (with_reducible repeat (first | refine blk_drewN ?_ _ | refine blk_drew ?_ | refine blk_alloc ?_ _)); exact BK120.out)) : gb120 ≠ gb121)); have n6_ := Aside0.mk ((by rw [hg]; exact Nat.ne_of_gt (blk_lt (g := gb120) (o := .cells #[.int .i64 0, .int .i64 0, .string (⟨#[]⟩ : ByteArray), .int .i64 0, .int .i64 0, .int .i64 0, .int .i64 0, .slice none 0 0, .int .i64 0, .int .u32 0] 37 (0, 0)) (by (with_reducible repeat (first | refine blk_drewN ?_ _ | refine blk_drew ?_ | refine blk_alloc ?_ _)); exact BK120.out)) : gb121 ≠ gb120)); clear BK120; clear HB; have BK120 := n0_; have HB := n1_; have BK121 := n2_; have GW121 := n3_; have GE121 := n4_; have NB120_121 := n5_; have NB121_120 := n6_; clear n0_ n1_ n2_ n3_ n4_ n5_ n6_; clear hb hbox hg))
  (try simp only [Act.put, List.setIfInBounds_toArray, List.set_cons_zero, List.set_cons_succ])
  go_cut [] (fun wc => ∃ (kq : Nat) (x121000_1 : Int) (x121001_1 : Int) (x121002_1 : ByteArray) (x121003_1 : Int) (x121004_1 : Int) (x121005_1 : Int) (x121006_1 : Int) (x121008_1 : Int) (x121009_1 : Int) (x122000_1 : Int) (x122001_1 : Int) (x122002_1 : ByteArray) (x122003_1 : Int) (x122004_1 : Int) (x122005_1 : Int) (x122006_1 : Int) (x122007_1 : List Int) (x122008_1 : Int) (x122009_1 : Int) (u122007 : Value), Aside0 (params_Get.j1 kq a0 x122000_1 x122001_1 x122002_1 x122003_1 x122004_1 x122005_1 x122006_1 x122007_1 x122008_1 x122009_1 = some (r1, r2, r3, r4, r5, r6, r7, r8, r9, r10, r11)) ∧ Aside0 (kq ≤ k) ∧ Aside0 (Kd.R (Kd.int .u32) 33 wc w.heap.size (fun _ => True) u122007 x122007_1) ∧ Aside0 (wc.heap[gb120]? = some (.cells #[.int .i64 x121000_1, .int .i64 x121001_1, .string x121002_1, .int .i64 x121003_1, .int .i64 x121004_1, .int .i64 x121005_1, .int .i64 x121006_1, (.slice none 0 0), .int .i64 x121008_1, .int .u32 x121009_1] 37 (0, 0))) ∧ Aside0 (wc.heap[gb121]? = some (.cells #[.int .i64 x122000_1, .int .i64 x122001_1, .string x122002_1, .int .i64 x122003_1, .int .i64 x122004_1, .int .i64 x122005_1, .int .i64 x122006_1, u122007, .int .i64 x122008_1, .int .u32 x122009_1] 37 (0, 0))) ∧ Aside0 (Below w.heap.size w wc))
  case first =>
    have H := HC2.out
    clear HC2
    have HC5 := Aside0.mk H
    clear H
    go_upto_region 3 with (fail)
    go_cut [7] (fun v7 wc => ∃ (kq : Nat) (x7_4 : Bool), v7 = .bool x7_4 ∧ Aside0 (params_Get.j0 kq a0 x7_4 0 0 (⟨#[]⟩ : ByteArray) 0 0 0 0 0 0 = some (r1, r2, r3, r4, r5, r6, r7, r8, r9, r10, r11)) ∧ Aside0 (kq ≤ k) ∧ Aside0 (wc.heap[gb120]? = some (.cells #[.int .i64 0, .int .i64 0, .string (⟨#[]⟩ : ByteArray), .int .i64 0, .int .i64 0, .int .i64 0, .int .i64 0, (.slice none 0 0), .int .i64 0, .int .u32 0] 37 (0, 0))) ∧ Aside0 (wc.heap[gb121]? = some (.cells #[.int .i64 0, .int .i64 0, .string (⟨#[]⟩ : ByteArray), .int .i64 0, .int .i64 0, .int .i64 0, .int .i64 0, (.slice none 0 0), .int .i64 0, .int .u32 0] 37 (0, 0))) ∧ Aside0 (Below w.heap.size w wc))
    case first =>
      have H := HC5.out
      clear HC5
      by_cases c6 : a0 < 1
      · rw [if_pos c6] at H
        have c6b0 : decide (a0 < 1) = true := decide_eq_true c6
        clear c6
        (first | rw [c6b0] | (simp only [i64_w, i32_w]; rw [c6b0]) | skip)
        have H' := Aside0.mk H
        clear H
        go_wp2
        go_meet
        case rel => exact ⟨_, (true), (by first | rfl | (simp; done) | (simp [*]; done)), H', ⟨by first | omega | exact Nat.le_refl _⟩, ⟨by (with_reducible repeat (first | refine blk_drewN ?_ _ | refine blk_drew ?_ | refine blk_alloc ?_ _)); exact BK120.out⟩, ⟨by (with_reducible repeat (first | refine blk_drewN ?_ _ | refine blk_drew ?_ | refine blk_alloc ?_ _)); exact BK121.out⟩, ⟨by repeat (first | (with_reducible first | exact HB.out | apply below_alloc | apply pw_below_drewN | apply below_drew1 | refine below_set ?_ GE120.out | refine below_set ?_ GE121.out) | exact HB.out)⟩⟩
      · rw [if_neg c6] at H
        have c6b0 : decide (a0 < 1) = false := decide_eq_false c6
        clear c6
        (first | rw [c6b0] | (simp only [i64_w, i32_w]; rw [c6b0]) | skip)
        have H' := Aside0.mk H
        clear H
        go_wp2
        go_meet
        case rel => exact ⟨_, (decide (a0 > 25)), (by first | rfl | (simp; done) | (simp [*]; done)), H', ⟨by first | omega | exact Nat.le_refl _⟩, ⟨by (with_reducible repeat (first | refine blk_drewN ?_ _ | refine blk_drew ?_ | refine blk_alloc ?_ _)); exact BK120.out⟩, ⟨by (with_reducible repeat (first | refine blk_drewN ?_ _ | refine blk_drew ?_ | refine blk_alloc ?_ _)); exact BK121.out⟩, ⟨by repeat (first | (with_reducible first | exact HB.out | apply below_alloc | apply pw_below_drewN | apply below_drew1 | refine below_set ?_ GE120.out | refine below_set ?_ GE121.out) | exact HB.out)⟩⟩
    case rest =>
      clear HC5
      try clear c2
      try clear p2
      try clear c6
      try clear c6b0
      obtain ⟨kq, x7_4, rfl, HA, HJ4, BK120, BK121, HB⟩ := hcut
      cases kq with
      | zero => exact absurd HA.out (by simp [params_Get.j0])
      | succ kj4 =>
        have H := HA.out
        clear HA
        simp only [params_Get.j0] at H
        by_cases c7 : x7_4 = true
        · subst c7
          have H1 : (some (0, 0, (⟨#[]⟩ : ByteArray), 0, 0, 0, 0, ([] : List Int), 0, 0, false)) = some (r1, r2, r3, r4, r5, r6, r7, r8, r9, r10, r11) := by rw [if_pos rfl] at H; exact H
          clear H
          have H := H1
          clear H1
          simp only [Option.some.injEq, Prod.mk.injEq] at H
          obtain ⟨rfl, rfl, rfl, rfl, rfl, rfl, rfl, rfl, rfl, rfl, rfl⟩ := H
          have hnb8 := NB121_120.out
          have hnc8 := NB120_121.out
          have hcz9_0 : wc.cell? ⟨gb121, 0, none⟩ = some (.int .i64 0) := (blk_cell BK121.out 0).trans rfl
          have hcz9_1 : wc.cell? ⟨gb121, 1, none⟩ = some (.int .i64 0) := (blk_cell BK121.out 1).trans rfl
          have hcz9_2 : wc.cell? ⟨gb121, 2, none⟩ = some (.string (⟨#[]⟩ : ByteArray)) := (blk_cell BK121.out 2).trans rfl
          have hcz9_3 : wc.cell? ⟨gb121, 3, none⟩ = some (.int .i64 0) := (blk_cell BK121.out 3).trans rfl
          have hcz9_4 : wc.cell? ⟨gb121, 4, none⟩ = some (.int .i64 0) := (blk_cell BK121.out 4).trans rfl
          have hcz9_5 : wc.cell? ⟨gb121, 5, none⟩ = some (.int .i64 0) := (blk_cell BK121.out 5).trans rfl
          have hcz9_6 : wc.cell? ⟨gb121, 6, none⟩ = some (.int .i64 0) := (blk_cell BK121.out 6).trans rfl
          have hcz9_7 : wc.cell? ⟨gb121, 7, none⟩ = some (.slice none 0 0) := (blk_cell BK121.out 7).trans rfl
          have hcz9_8 : wc.cell? ⟨gb121, 8, none⟩ = some (.int .i64 0) := (blk_cell BK121.out 8).trans rfl
          have hcz9_9 : wc.cell? ⟨gb121, 9, none⟩ = some (.int .u32 0) := (blk_cell BK121.out 9).trans rfl
          have hfz9_0 := blk_frozen BK121.out 0
          have hfz9_1 := blk_frozen BK121.out 1
          have hfz9_2 := blk_frozen BK121.out 2
          have hfz9_3 := blk_frozen BK121.out 3
          have hfz9_4 := blk_frozen BK121.out 4
          have hfz9_5 := blk_frozen BK121.out 5
          have hfz9_6 := blk_frozen BK121.out 6
          have hfz9_7 := blk_frozen BK121.out 7
          have hfz9_8 := blk_frozen BK121.out 8
          have hfz9_9 := blk_frozen BK121.out 9
          have hcz10_0 : wc.cell? ⟨gb120, 0, none⟩ = some (.int .i64 0) := (blk_cell BK120.out 0).trans rfl
          have hcz10_1 : wc.cell? ⟨gb120, 1, none⟩ = some (.int .i64 0) := (blk_cell BK120.out 1).trans rfl
          have hcz10_2 : wc.cell? ⟨gb120, 2, none⟩ = some (.string (⟨#[]⟩ : ByteArray)) := (blk_cell BK120.out 2).trans rfl
          have hcz10_3 : wc.cell? ⟨gb120, 3, none⟩ = some (.int .i64 0) := (blk_cell BK120.out 3).trans rfl
          have hcz10_4 : wc.cell? ⟨gb120, 4, none⟩ = some (.int .i64 0) := (blk_cell BK120.out 4).trans rfl
          have hcz10_5 : wc.cell? ⟨gb120, 5, none⟩ = some (.int .i64 0) := (blk_cell BK120.out 5).trans rfl
          have hcz10_6 : wc.cell? ⟨gb120, 6, none⟩ = some (.int .i64 0) := (blk_cell BK120.out 6).trans rfl
          have hcz10_7 : wc.cell? ⟨gb120, 7, none⟩ = some (.slice none 0 0) := (blk_cell BK120.out 7).trans rfl
          have hcz10_8 : wc.cell? ⟨gb120, 8, none⟩ = some (.int .i64 0) := (blk_cell BK120.out 8).trans rfl
          have hcz10_9 : wc.cell? ⟨gb120, 9, none⟩ = some (.int .u32 0) := (blk_cell BK120.out 9).trans rfl
          have hfz10_0 := blk_frozen BK120.out 0
          have hfz10_1 := blk_frozen BK120.out 1
          have hfz10_2 := blk_frozen BK120.out 2
          have hfz10_3 := blk_frozen BK120.out 3
          have hfz10_4 := blk_frozen BK120.out 4
          have hfz10_5 := blk_frozen BK120.out 5
          have hfz10_6 := blk_frozen BK120.out 6
          have hfz10_7 := blk_frozen BK120.out 7
          have hfz10_8 := blk_frozen BK120.out 8
          have hfz10_9 := blk_frozen BK120.out 9
          go_wp2
          refine bodyPost_ret (results_ct rfl _ _ gb120 37 #[.int .i64 0, .int .i64 0, .string (⟨#[]⟩ : ByteArray), .int .i64 0, .int .i64 0, .int .i64 0, .int .i64 0, .slice none 0 0, .int .i64 0, .int .u32 0] (0, 0) _ rfl (by (with_reducible repeat (first | refine blk_drewN ?_ _ | refine blk_drew ?_ | refine blk_alloc ?_ _)); refine blk_put (cs := #[.int .i64 0, .int .i64 0, .string (⟨#[]⟩ : ByteArray), .int .i64 0, .int .i64 0, .int .i64 0, .int .i64 0, .slice none 0 0, .int .i64 0, .int .u32 0]) ?_ 9 _ rfl; (with_reducible repeat (first | refine blk_drewN ?_ _ | refine blk_drew ?_ | refine blk_alloc ?_ _)); refine blk_put (cs := #[.int .i64 0, .int .i64 0, .string (⟨#[]⟩ : ByteArray), .int .i64 0, .int .i64 0, .int .i64 0, .int .i64 0, .slice none 0 0, .int .i64 0, .int .u32 0]) ?_ 8 _ rfl; (with_reducible repeat (first | refine blk_drewN ?_ _ | refine blk_drew ?_ | refine blk_alloc ?_ _)); refine blk_put (cs := #[.int .i64 0, .int .i64 0, .string (⟨#[]⟩ : ByteArray), .int .i64 0, .int .i64 0, .int .i64 0, .int .i64 0, .slice none 0 0, .int .i64 0, .int .u32 0]) ?_ 7 _ rfl; (with_reducible repeat (first | refine blk_drewN ?_ _ | refine blk_drew ?_ | refine blk_alloc ?_ _)); refine blk_put (cs := #[.int .i64 0, .int .i64 0, .string (⟨#[]⟩ : ByteArray), .int .i64 0, .int .i64 0, .int .i64 0, .int .i64 0, .slice none 0 0, .int .i64 0, .int .u32 0]) ?_ 6 _ rfl; (with_reducible repeat (first | refine blk_drewN ?_ _ | refine blk_drew ?_ | refine blk_alloc ?_ _)); refine blk_put (cs := #[.int .i64 0, .int .i64 0, .string (⟨#[]⟩ : ByteArray), .int .i64 0, .int .i64 0, .int .i64 0, .int .i64 0, .slice none 0 0, .int .i64 0, .int .u32 0]) ?_ 5 _ rfl; (with_reducible repeat (first | refine blk_drewN ?_ _ | refine blk_drew ?_ | refine blk_alloc ?_ _)); refine blk_put (cs := #[.int .i64 0, .int .i64 0, .string (⟨#[]⟩ : ByteArray), .int .i64 0, .int .i64 0, .int .i64 0, .int .i64 0, .slice none 0 0, .int .i64 0, .int .u32 0]) ?_ 4 _ rfl; (with_reducible repeat (first | refine blk_drewN ?_ _ | refine blk_drew ?_ | refine blk_alloc ?_ _)); refine blk_put (cs := #[.int .i64 0, .int .i64 0, .string (⟨#[]⟩ : ByteArray), .int .i64 0, .int .i64 0, .int .i64 0, .int .i64 0, .slice none 0 0, .int .i64 0, .int .u32 0]) ?_ 3 _ rfl; (with_reducible repeat (first | refine blk_drewN ?_ _ | refine blk_drew ?_ | refine blk_alloc ?_ _)); refine blk_put (cs := #[.int .i64 0, .int .i64 0, .string (⟨#[]⟩ : ByteArray), .int .i64 0, .int .i64 0, .int .i64 0, .int .i64 0, .slice none 0 0, .int .i64 0, .int .u32 0]) ?_ 2 _ rfl; (with_reducible repeat (first | refine blk_drewN ?_ _ | refine blk_drew ?_ | refine blk_alloc ?_ _)); refine blk_put (cs := #[.int .i64 0, .int .i64 0, .string (⟨#[]⟩ : ByteArray), .int .i64 0, .int .i64 0, .int .i64 0, .int .i64 0, .slice none 0 0, .int .i64 0, .int .u32 0]) ?_ 1 _ rfl; (with_reducible repeat (first | refine blk_drewN ?_ _ | refine blk_drew ?_ | refine blk_alloc ?_ _)); refine blk_put (cs := #[.int .i64 0, .int .i64 0, .string (⟨#[]⟩ : ByteArray), .int .i64 0, .int .i64 0, .int .i64 0, .int .i64 0, .slice none 0 0, .int .i64 0, .int .u32 0]) ?_ 0 _ rfl; (with_reducible repeat (first | refine blk_drewN ?_ _ | refine blk_drew ?_ | refine blk_alloc ?_ _)); exact BK120.out) Tryd.underlying37 rfl (by kernel_rfl)) rfl ?_
          exact ⟨_, by first | rfl | (simp [errW_none, errW_some] <;> rfl) | (simp [*, errW_none, errW_some] <;> rfl), by first | exact Kd.R_nil _ _ _ _ _ | exact Kd.N_nil _ _ _ _ _ | exact Kd.V_nil _ _ _ _ _ | exact Kd.Q_nil _ _ _ _ _ | exact Kd.S_nil _ _ _ _ _, by repeat (first | (with_reducible first | exact HB.out | apply below_alloc | apply pw_below_drewN | apply below_drew1 | refine below_set ?_ GE120.out | refine below_set ?_ GE121.out) | exact HB.out)⟩
        · replace c7 := Bool.eq_false_iff.mpr c7
          subst c7
          have H1 : (if a0 ≤ 3 then ((params_kem.f a0).bind fun bt122 => (params_Get.j1 kj4 a0 bt122.1 bt122.2.1 bt122.2.2.1 bt122.2.2.2.1 bt122.2.2.2.2.1 bt122.2.2.2.2.2.1 bt122.2.2.2.2.2.2.1 bt122.2.2.2.2.2.2.2.1 bt122.2.2.2.2.2.2.2.2.1 bt122.2.2.2.2.2.2.2.2.2)) else (if a0 = 4 then (params_Get.j1 kj4 a0 0 0 (⟨#[77, 76, 45, 68, 83, 65, 45, 52, 52]⟩ : ByteArray) 1312 2560 0 2420 ([] : List Int) 0 0) else (if a0 = 5 then (params_Get.j1 kj4 a0 0 0 (⟨#[77, 76, 45, 68, 83, 65, 45, 54, 53]⟩ : ByteArray) 1952 4032 0 3309 ([] : List Int) 0 0) else (if a0 = 6 then (params_Get.j1 kj4 a0 0 0 (⟨#[77, 76, 45, 68, 83, 65, 45, 56, 55]⟩ : ByteArray) 2592 4896 0 4627 ([] : List Int) 0 0) else (if a0 < 19 then ((params_slh.f a0).bind fun bt134 => (params_Get.j1 kj4 a0 bt134.1 bt134.2.1 bt134.2.2.1 bt134.2.2.2.1 bt134.2.2.2.2.1 bt134.2.2.2.2.2.1 bt134.2.2.2.2.2.2.1 bt134.2.2.2.2.2.2.2.1 bt134.2.2.2.2.2.2.2.2.1 bt134.2.2.2.2.2.2.2.2.2)) else (if a0 = 19 then ((params_of.f kj4 (⟨#[49, 46, 50, 46, 56, 52, 48, 46, 49, 49, 51, 53, 52, 57, 46, 49, 46, 57, 46, 49, 54, 46, 51, 46, 49, 55]⟩ : ByteArray)).bind fun t146 => (params_Get.j1 kj4 a0 0 4 (⟨#[72, 83, 83, 47, 76, 77, 83]⟩ : ByteArray) 0 0 0 0 t146 0 0)) else ((params_xmss.f a0).bind fun bt149 => (params_Get.j1 kj4 a0 bt149.1 bt149.2.1 bt149.2.2.1 bt149.2.2.2.1 bt149.2.2.2.2.1 bt149.2.2.2.2.2.1 bt149.2.2.2.2.2.2.1 bt149.2.2.2.2.2.2.2.1 bt149.2.2.2.2.2.2.2.2.1 bt149.2.2.2.2.2.2.2.2.2)))))))) = some (r1, r2, r3, r4, r5, r6, r7, r8, r9, r10, r11) := by rw [if_neg (show ¬ (false = true) by decide)] at H; exact H
          clear H
          have H := H1
          clear H1
          by_cases c11 : a0 ≤ 3
          · rw [if_pos c11] at H
            have c11b0 : decide (a0 ≤ 3) = true := decide_eq_true c11
            clear c11
            replace H := Option.bind_eq_some_iff.mp H
            obtain ⟨⟨t122, t123, t124, t125, t126, t127, t128, t129, t132, t133⟩, A120, H⟩ := H
            replace H : (params_Get.j1 kj4 a0 t122 t123 t124 t125 t126 t127 t128 t129 t132 t133) = some (r1, r2, r3, r4, r5, r6, r7, r8, r9, r10, r11) := H
            have A12 := Aside0.mk A120
            clear A120
            have H' := Aside0.mk H
            clear H
            go_wp2_with (first | ((with_reducible refine gate_callee (f := 49) rfl ?_); refine goesL_ (some 19) rfl rfl Tryd.func49 (by kernel_rfl) rfl #[.int .i64 a0] rfl (by (try simp only [List.map_toArray, List.map_cons, List.map_nil]); first | done | rfl | (simp only [List.length_drop, List.length_take]; rfl)) ?_; (with_reducible refine (params_kem.calls a0 t122 t123 t124 t125 t126 t127 t128 t129 t132 t133 _ A12.out (by first | exact GOK.below HG.out (by repeat (first | (with_reducible first | exact HB.out | apply below_alloc | apply pw_below_drewN | apply below_drew1 | refine below_set ?_ GE120.out | refine below_set ?_ GE121.out) | exact HB.out)) | (repeat (first | exact HG.out | apply GOK.drewN | apply GOK.drew)))).mono ?_); rintro e w13 ⟨v130, rfl, ho0, hb⟩; refine ⟨_, rfl, ?_⟩; have n0_ := Aside0.mk (Kd.R_lower ho0 (below_size (by repeat (first | (with_reducible first | exact HB.out | apply below_alloc | apply pw_below_drewN | apply below_drew1 | refine below_set ?_ GE120.out | refine below_set ?_ GE121.out) | exact HB.out)))); have n1_ := Aside0.mk (blk_below (g := gb120) (o := .cells #[.int .i64 0, .int .i64 0, .string (⟨#[]⟩ : ByteArray), .int .i64 0, .int .i64 0, .int .i64 0, .int .i64 0, .slice none 0 0, .int .i64 0, .int .u32 0] 37 (0, 0)) (by (with_reducible repeat (first | refine blk_drewN ?_ _ | refine blk_drew ?_ | refine blk_alloc ?_ _)); exact BK120.out) hb); have n2_ := Aside0.mk (blk_below (g := gb121) (o := .cells #[.int .i64 0, .int .i64 0, .string (⟨#[]⟩ : ByteArray), .int .i64 0, .int .i64 0, .int .i64 0, .int .i64 0, .slice none 0 0, .int .i64 0, .int .u32 0] 37 (0, 0)) (by (with_reducible repeat (first | refine blk_drewN ?_ _ | refine blk_drew ?_ | refine blk_alloc ?_ _)); exact BK121.out) hb); have n3_ := Aside0.mk (below_step (by repeat (first | (with_reducible first | exact HB.out | apply below_alloc | apply pw_below_drewN | apply below_drew1 | refine below_set ?_ GE120.out | refine below_set ?_ GE121.out) | exact HB.out)) hb); clear BK120; clear BK121; clear HB; have HO131 := n0_; have BK120 := n1_; have BK121 := n2_; have HB := n3_; clear n0_ n1_ n2_ n3_; (try clear hb); (try clear hb2); (try clear hk); (try clear hi); (try clear ho0); have hnb14 := NB121_120.out; have hnc14 := NB120_121.out; have hcz15_0 : w13.cell? ⟨gb121, 0, none⟩ = some (.int .i64 0) := (blk_cell BK121.out 0).trans rfl; have hcz15_1 : w13.cell? ⟨gb121, 1, none⟩ = some (.int .i64 0) := (blk_cell BK121.out 1).trans rfl; have hcz15_2 : w13.cell? ⟨gb121, 2, none⟩ = some (.string (⟨#[]⟩ : ByteArray)) := (blk_cell BK121.out 2).trans rfl; have hcz15_3 : w13.cell? ⟨gb121, 3, none⟩ = some (.int .i64 0) := (blk_cell BK121.out 3).trans rfl; have hcz15_4 : w13.cell? ⟨gb121, 4, none⟩ = some (.int .i64 0) := (blk_cell BK121.out 4).trans rfl; have hcz15_5 : w13.cell? ⟨gb121, 5, none⟩ = some (.int .i64 0) := (blk_cell BK121.out 5).trans rfl; have hcz15_6 : w13.cell? ⟨gb121, 6, none⟩ = some (.int .i64 0) := (blk_cell BK121.out 6).trans rfl; have hcz15_7 : w13.cell? ⟨gb121, 7, none⟩ = some (.slice none 0 0) := (blk_cell BK121.out 7).trans rfl; have hcz15_8 : w13.cell? ⟨gb121, 8, none⟩ = some (.int .i64 0) := (blk_cell BK121.out 8).trans rfl; have hcz15_9 : w13.cell? ⟨gb121, 9, none⟩ = some (.int .u32 0) := (blk_cell BK121.out 9).trans rfl; have hfz15_0 := blk_frozen BK121.out 0; have hfz15_1 := blk_frozen BK121.out 1; have hfz15_2 := blk_frozen BK121.out 2; have hfz15_3 := blk_frozen BK121.out 3; have hfz15_4 := blk_frozen BK121.out 4; have hfz15_5 := blk_frozen BK121.out 5; have hfz15_6 := blk_frozen BK121.out 6; have hfz15_7 := blk_frozen BK121.out 7; have hfz15_8 := blk_frozen BK121.out 8; have hfz15_9 := blk_frozen BK121.out 9; obtain ⟨Ao16, co16, eo16⟩ := Kd.R_slice HO131.out; subst eo16))
            go_meet
            case rel => exact ⟨_, (0), (0), ((⟨#[]⟩ : ByteArray)), (0), (0), (0), (0), (0), (0), (t122), (t123), (t124), (t125), (t126), (t127), (t128), (t129), (t132), (t133), (.slice Ao16 t129.length co16), H', ⟨by have := HJ4.out; first | omega | exact Nat.le_refl _⟩, ⟨by (with_reducible repeat (first | apply Kd.R_alloc | apply Kd.R_drewN | apply Kd.R_drew)); exact Kd.R_mono (Kd.R_far (p := ⟨gb121, 9, none⟩) (Kd.R_far (p := ⟨gb121, 8, none⟩) (Kd.R_far (p := ⟨gb121, 7, none⟩) (Kd.R_far (p := ⟨gb121, 6, none⟩) (Kd.R_far (p := ⟨gb121, 5, none⟩) (Kd.R_far (p := ⟨gb121, 4, none⟩) (Kd.R_far (p := ⟨gb121, 3, none⟩) (Kd.R_far (p := ⟨gb121, 2, none⟩) (Kd.R_far (p := ⟨gb121, 1, none⟩) (Kd.R_far (p := ⟨gb121, 0, none⟩) (Kd.R_types HO131.out BK121.out (by decide)) (fun _ hk => hk.2) (.int .i64 t122)) (fun _ hk => hk.2) (.int .i64 t123)) (fun _ hk => hk.2) (.string t124)) (fun _ hk => hk.2) (.int .i64 t125)) (fun _ hk => hk.2) (.int .i64 t126)) (fun _ hk => hk.2) (.int .i64 t127)) (fun _ hk => hk.2) (.int .i64 t128)) (fun _ hk => hk.2) (.slice Ao16 t129.length co16)) (fun _ hk => hk.2) (.int .i64 t132)) (fun _ hk => hk.2) (.int .u32 t133)) (fun _ hk => trivial)⟩, ⟨by (with_reducible repeat (first | refine blk_drewN ?_ _ | refine blk_drew ?_ | refine blk_alloc ?_ _)); refine blk_far ?_ NB120_121.out _; (with_reducible repeat (first | refine blk_drewN ?_ _ | refine blk_drew ?_ | refine blk_alloc ?_ _)); refine blk_far ?_ NB120_121.out _; (with_reducible repeat (first | refine blk_drewN ?_ _ | refine blk_drew ?_ | refine blk_alloc ?_ _)); refine blk_far ?_ NB120_121.out _; (with_reducible repeat (first | refine blk_drewN ?_ _ | refine blk_drew ?_ | refine blk_alloc ?_ _)); refine blk_far ?_ NB120_121.out _; (with_reducible repeat (first | refine blk_drewN ?_ _ | refine blk_drew ?_ | refine blk_alloc ?_ _)); refine blk_far ?_ NB120_121.out _; (with_reducible repeat (first | refine blk_drewN ?_ _ | refine blk_drew ?_ | refine blk_alloc ?_ _)); refine blk_far ?_ NB120_121.out _; (with_reducible repeat (first | refine blk_drewN ?_ _ | refine blk_drew ?_ | refine blk_alloc ?_ _)); refine blk_far ?_ NB120_121.out _; (with_reducible repeat (first | refine blk_drewN ?_ _ | refine blk_drew ?_ | refine blk_alloc ?_ _)); refine blk_far ?_ NB120_121.out _; (with_reducible repeat (first | refine blk_drewN ?_ _ | refine blk_drew ?_ | refine blk_alloc ?_ _)); refine blk_far ?_ NB120_121.out _; (with_reducible repeat (first | refine blk_drewN ?_ _ | refine blk_drew ?_ | refine blk_alloc ?_ _)); refine blk_far ?_ NB120_121.out _; (with_reducible repeat (first | refine blk_drewN ?_ _ | refine blk_drew ?_ | refine blk_alloc ?_ _)); exact BK120.out⟩, ⟨by (with_reducible repeat (first | refine blk_drewN ?_ _ | refine blk_drew ?_ | refine blk_alloc ?_ _)); refine blk_put (cs := #[.int .i64 t122, .int .i64 t123, .string t124, .int .i64 t125, .int .i64 t126, .int .i64 t127, .int .i64 t128, .slice Ao16 t129.length co16, .int .i64 t132, .int .u32 0]) ?_ 9 _ rfl; (with_reducible repeat (first | refine blk_drewN ?_ _ | refine blk_drew ?_ | refine blk_alloc ?_ _)); refine blk_put (cs := #[.int .i64 t122, .int .i64 t123, .string t124, .int .i64 t125, .int .i64 t126, .int .i64 t127, .int .i64 t128, .slice Ao16 t129.length co16, .int .i64 0, .int .u32 0]) ?_ 8 _ rfl; (with_reducible repeat (first | refine blk_drewN ?_ _ | refine blk_drew ?_ | refine blk_alloc ?_ _)); refine blk_put (cs := #[.int .i64 t122, .int .i64 t123, .string t124, .int .i64 t125, .int .i64 t126, .int .i64 t127, .int .i64 t128, .slice none 0 0, .int .i64 0, .int .u32 0]) ?_ 7 _ rfl; (with_reducible repeat (first | refine blk_drewN ?_ _ | refine blk_drew ?_ | refine blk_alloc ?_ _)); refine blk_put (cs := #[.int .i64 t122, .int .i64 t123, .string t124, .int .i64 t125, .int .i64 t126, .int .i64 t127, .int .i64 0, .slice none 0 0, .int .i64 0, .int .u32 0]) ?_ 6 _ rfl; (with_reducible repeat (first | refine blk_drewN ?_ _ | refine blk_drew ?_ | refine blk_alloc ?_ _)); refine blk_put (cs := #[.int .i64 t122, .int .i64 t123, .string t124, .int .i64 t125, .int .i64 t126, .int .i64 0, .int .i64 0, .slice none 0 0, .int .i64 0, .int .u32 0]) ?_ 5 _ rfl; (with_reducible repeat (first | refine blk_drewN ?_ _ | refine blk_drew ?_ | refine blk_alloc ?_ _)); refine blk_put (cs := #[.int .i64 t122, .int .i64 t123, .string t124, .int .i64 t125, .int .i64 0, .int .i64 0, .int .i64 0, .slice none 0 0, .int .i64 0, .int .u32 0]) ?_ 4 _ rfl; (with_reducible repeat (first | refine blk_drewN ?_ _ | refine blk_drew ?_ | refine blk_alloc ?_ _)); refine blk_put (cs := #[.int .i64 t122, .int .i64 t123, .string t124, .int .i64 0, .int .i64 0, .int .i64 0, .int .i64 0, .slice none 0 0, .int .i64 0, .int .u32 0]) ?_ 3 _ rfl; (with_reducible repeat (first | refine blk_drewN ?_ _ | refine blk_drew ?_ | refine blk_alloc ?_ _)); refine blk_put (cs := #[.int .i64 t122, .int .i64 t123, .string (⟨#[]⟩ : ByteArray), .int .i64 0, .int .i64 0, .int .i64 0, .int .i64 0, .slice none 0 0, .int .i64 0, .int .u32 0]) ?_ 2 _ rfl; (with_reducible repeat (first | refine blk_drewN ?_ _ | refine blk_drew ?_ | refine blk_alloc ?_ _)); refine blk_put (cs := #[.int .i64 t122, .int .i64 0, .string (⟨#[]⟩ : ByteArray), .int .i64 0, .int .i64 0, .int .i64 0, .int .i64 0, .slice none 0 0, .int .i64 0, .int .u32 0]) ?_ 1 _ rfl; (with_reducible repeat (first | refine blk_drewN ?_ _ | refine blk_drew ?_ | refine blk_alloc ?_ _)); refine blk_put (cs := #[.int .i64 0, .int .i64 0, .string (⟨#[]⟩ : ByteArray), .int .i64 0, .int .i64 0, .int .i64 0, .int .i64 0, .slice none 0 0, .int .i64 0, .int .u32 0]) ?_ 0 _ rfl; (with_reducible repeat (first | refine blk_drewN ?_ _ | refine blk_drew ?_ | refine blk_alloc ?_ _)); exact BK121.out⟩, ⟨by repeat (first | (with_reducible first | exact HB.out | apply below_alloc | apply pw_below_drewN | apply below_drew1 | refine below_set ?_ GE120.out | refine below_set ?_ GE121.out) | exact HB.out)⟩⟩
          · rw [if_neg c11] at H
            have c11b0 : decide (a0 ≤ 3) = false := decide_eq_false c11
            clear c11
            by_cases c17 : a0 = 4
            · rw [if_pos c17] at H
              have c17b0 : (a0 == 4) = true := beq_iff_eq.mpr c17
              have c17b1 : (a0 != 4) = false := bne_eq_false_iff_eq.mpr c17
              clear c17
              have H' := Aside0.mk H
              clear H
              have hnb18 := NB121_120.out
              have hnc18 := NB120_121.out
              have hcz19_0 : wc.cell? ⟨gb121, 0, none⟩ = some (.int .i64 0) := (blk_cell BK121.out 0).trans rfl
              have hcz19_1 : wc.cell? ⟨gb121, 1, none⟩ = some (.int .i64 0) := (blk_cell BK121.out 1).trans rfl
              have hcz19_2 : wc.cell? ⟨gb121, 2, none⟩ = some (.string (⟨#[]⟩ : ByteArray)) := (blk_cell BK121.out 2).trans rfl
              have hcz19_3 : wc.cell? ⟨gb121, 3, none⟩ = some (.int .i64 0) := (blk_cell BK121.out 3).trans rfl
              have hcz19_4 : wc.cell? ⟨gb121, 4, none⟩ = some (.int .i64 0) := (blk_cell BK121.out 4).trans rfl
              have hcz19_5 : wc.cell? ⟨gb121, 5, none⟩ = some (.int .i64 0) := (blk_cell BK121.out 5).trans rfl
              have hcz19_6 : wc.cell? ⟨gb121, 6, none⟩ = some (.int .i64 0) := (blk_cell BK121.out 6).trans rfl
              have hcz19_7 : wc.cell? ⟨gb121, 7, none⟩ = some (.slice none 0 0) := (blk_cell BK121.out 7).trans rfl
              have hcz19_8 : wc.cell? ⟨gb121, 8, none⟩ = some (.int .i64 0) := (blk_cell BK121.out 8).trans rfl
              have hcz19_9 : wc.cell? ⟨gb121, 9, none⟩ = some (.int .u32 0) := (blk_cell BK121.out 9).trans rfl
              have hfz19_0 := blk_frozen BK121.out 0
              have hfz19_1 := blk_frozen BK121.out 1
              have hfz19_2 := blk_frozen BK121.out 2
              have hfz19_3 := blk_frozen BK121.out 3
              have hfz19_4 := blk_frozen BK121.out 4
              have hfz19_5 := blk_frozen BK121.out 5
              have hfz19_6 := blk_frozen BK121.out 6
              have hfz19_7 := blk_frozen BK121.out 7
              have hfz19_8 := blk_frozen BK121.out 8
              have hfz19_9 := blk_frozen BK121.out 9
              go_wp2
              go_meet
              case rel => exact ⟨_, (0), (0), ((⟨#[]⟩ : ByteArray)), (0), (0), (0), (0), (0), (0), (0), (0), ((⟨#[77, 76, 45, 68, 83, 65, 45, 52, 52]⟩ : ByteArray)), (1312), (2560), (0), (2420), (([] : List Int)), (0), (0), (.slice none 0 0), H', ⟨by have := HJ4.out; first | omega | exact Nat.le_refl _⟩, ⟨by first | exact Kd.R_nil _ _ _ _ _ | exact Kd.N_nil _ _ _ _ _ | exact Kd.V_nil _ _ _ _ _ | exact Kd.Q_nil _ _ _ _ _ | exact Kd.S_nil _ _ _ _ _⟩, ⟨by (with_reducible repeat (first | refine blk_drewN ?_ _ | refine blk_drew ?_ | refine blk_alloc ?_ _)); refine blk_far ?_ NB120_121.out _; (with_reducible repeat (first | refine blk_drewN ?_ _ | refine blk_drew ?_ | refine blk_alloc ?_ _)); refine blk_far ?_ NB120_121.out _; (with_reducible repeat (first | refine blk_drewN ?_ _ | refine blk_drew ?_ | refine blk_alloc ?_ _)); refine blk_far ?_ NB120_121.out _; (with_reducible repeat (first | refine blk_drewN ?_ _ | refine blk_drew ?_ | refine blk_alloc ?_ _)); refine blk_far ?_ NB120_121.out _; (with_reducible repeat (first | refine blk_drewN ?_ _ | refine blk_drew ?_ | refine blk_alloc ?_ _)); refine blk_far ?_ NB120_121.out _; (with_reducible repeat (first | refine blk_drewN ?_ _ | refine blk_drew ?_ | refine blk_alloc ?_ _)); refine blk_far ?_ NB120_121.out _; (with_reducible repeat (first | refine blk_drewN ?_ _ | refine blk_drew ?_ | refine blk_alloc ?_ _)); refine blk_far ?_ NB120_121.out _; (with_reducible repeat (first | refine blk_drewN ?_ _ | refine blk_drew ?_ | refine blk_alloc ?_ _)); refine blk_far ?_ NB120_121.out _; (with_reducible repeat (first | refine blk_drewN ?_ _ | refine blk_drew ?_ | refine blk_alloc ?_ _)); refine blk_far ?_ NB120_121.out _; (with_reducible repeat (first | refine blk_drewN ?_ _ | refine blk_drew ?_ | refine blk_alloc ?_ _)); refine blk_far ?_ NB120_121.out _; (with_reducible repeat (first | refine blk_drewN ?_ _ | refine blk_drew ?_ | refine blk_alloc ?_ _)); exact BK120.out⟩, ⟨by (with_reducible repeat (first | refine blk_drewN ?_ _ | refine blk_drew ?_ | refine blk_alloc ?_ _)); refine blk_put (cs := #[.int .i64 0, .int .i64 0, .string (⟨#[77, 76, 45, 68, 83, 65, 45, 52, 52]⟩ : ByteArray), .int .i64 1312, .int .i64 2560, .int .i64 0, .int .i64 2420, .slice none 0 0, .int .i64 0, .int .u32 0]) ?_ 9 _ rfl; (with_reducible repeat (first | refine blk_drewN ?_ _ | refine blk_drew ?_ | refine blk_alloc ?_ _)); refine blk_put (cs := #[.int .i64 0, .int .i64 0, .string (⟨#[77, 76, 45, 68, 83, 65, 45, 52, 52]⟩ : ByteArray), .int .i64 1312, .int .i64 2560, .int .i64 0, .int .i64 2420, .slice none 0 0, .int .i64 0, .int .u32 0]) ?_ 8 _ rfl; (with_reducible repeat (first | refine blk_drewN ?_ _ | refine blk_drew ?_ | refine blk_alloc ?_ _)); refine blk_put (cs := #[.int .i64 0, .int .i64 0, .string (⟨#[77, 76, 45, 68, 83, 65, 45, 52, 52]⟩ : ByteArray), .int .i64 1312, .int .i64 2560, .int .i64 0, .int .i64 2420, .slice none 0 0, .int .i64 0, .int .u32 0]) ?_ 7 _ rfl; (with_reducible repeat (first | refine blk_drewN ?_ _ | refine blk_drew ?_ | refine blk_alloc ?_ _)); refine blk_put (cs := #[.int .i64 0, .int .i64 0, .string (⟨#[77, 76, 45, 68, 83, 65, 45, 52, 52]⟩ : ByteArray), .int .i64 1312, .int .i64 2560, .int .i64 0, .int .i64 0, .slice none 0 0, .int .i64 0, .int .u32 0]) ?_ 6 _ rfl; (with_reducible repeat (first | refine blk_drewN ?_ _ | refine blk_drew ?_ | refine blk_alloc ?_ _)); refine blk_put (cs := #[.int .i64 0, .int .i64 0, .string (⟨#[77, 76, 45, 68, 83, 65, 45, 52, 52]⟩ : ByteArray), .int .i64 1312, .int .i64 2560, .int .i64 0, .int .i64 0, .slice none 0 0, .int .i64 0, .int .u32 0]) ?_ 5 _ rfl; (with_reducible repeat (first | refine blk_drewN ?_ _ | refine blk_drew ?_ | refine blk_alloc ?_ _)); refine blk_put (cs := #[.int .i64 0, .int .i64 0, .string (⟨#[77, 76, 45, 68, 83, 65, 45, 52, 52]⟩ : ByteArray), .int .i64 1312, .int .i64 0, .int .i64 0, .int .i64 0, .slice none 0 0, .int .i64 0, .int .u32 0]) ?_ 4 _ rfl; (with_reducible repeat (first | refine blk_drewN ?_ _ | refine blk_drew ?_ | refine blk_alloc ?_ _)); refine blk_put (cs := #[.int .i64 0, .int .i64 0, .string (⟨#[77, 76, 45, 68, 83, 65, 45, 52, 52]⟩ : ByteArray), .int .i64 0, .int .i64 0, .int .i64 0, .int .i64 0, .slice none 0 0, .int .i64 0, .int .u32 0]) ?_ 3 _ rfl; (with_reducible repeat (first | refine blk_drewN ?_ _ | refine blk_drew ?_ | refine blk_alloc ?_ _)); refine blk_put (cs := #[.int .i64 0, .int .i64 0, .string (⟨#[]⟩ : ByteArray), .int .i64 0, .int .i64 0, .int .i64 0, .int .i64 0, .slice none 0 0, .int .i64 0, .int .u32 0]) ?_ 2 _ rfl; (with_reducible repeat (first | refine blk_drewN ?_ _ | refine blk_drew ?_ | refine blk_alloc ?_ _)); refine blk_put (cs := #[.int .i64 0, .int .i64 0, .string (⟨#[]⟩ : ByteArray), .int .i64 0, .int .i64 0, .int .i64 0, .int .i64 0, .slice none 0 0, .int .i64 0, .int .u32 0]) ?_ 1 _ rfl; (with_reducible repeat (first | refine blk_drewN ?_ _ | refine blk_drew ?_ | refine blk_alloc ?_ _)); refine blk_put (cs := #[.int .i64 0, .int .i64 0, .string (⟨#[]⟩ : ByteArray), .int .i64 0, .int .i64 0, .int .i64 0, .int .i64 0, .slice none 0 0, .int .i64 0, .int .u32 0]) ?_ 0 _ rfl; (with_reducible repeat (first | refine blk_drewN ?_ _ | refine blk_drew ?_ | refine blk_alloc ?_ _)); exact BK121.out⟩, ⟨by repeat (first | (with_reducible first | exact HB.out | apply below_alloc | apply pw_below_drewN | apply below_drew1 | refine below_set ?_ GE120.out | refine below_set ?_ GE121.out) | exact HB.out)⟩⟩
            · rw [if_neg c17] at H
              have c17b0 : (a0 == 4) = false := beq_eq_false_iff_ne.mpr c17
              have c17b1 : (a0 != 4) = true := bne_iff_ne.mpr c17
              by_cases c20 : a0 = 5
              · rw [if_pos c20] at H
                have c20b0 : (a0 == 5) = true := beq_iff_eq.mpr c20
                have c20b1 : (a0 != 5) = false := bne_eq_false_iff_eq.mpr c20
                clear c20
                have H' := Aside0.mk H
                clear H
                have hnb21 := NB121_120.out
                have hnc21 := NB120_121.out
                have hcz22_0 : wc.cell? ⟨gb121, 0, none⟩ = some (.int .i64 0) := (blk_cell BK121.out 0).trans rfl
                have hcz22_1 : wc.cell? ⟨gb121, 1, none⟩ = some (.int .i64 0) := (blk_cell BK121.out 1).trans rfl
                have hcz22_2 : wc.cell? ⟨gb121, 2, none⟩ = some (.string (⟨#[]⟩ : ByteArray)) := (blk_cell BK121.out 2).trans rfl
                have hcz22_3 : wc.cell? ⟨gb121, 3, none⟩ = some (.int .i64 0) := (blk_cell BK121.out 3).trans rfl
                have hcz22_4 : wc.cell? ⟨gb121, 4, none⟩ = some (.int .i64 0) := (blk_cell BK121.out 4).trans rfl
                have hcz22_5 : wc.cell? ⟨gb121, 5, none⟩ = some (.int .i64 0) := (blk_cell BK121.out 5).trans rfl
                have hcz22_6 : wc.cell? ⟨gb121, 6, none⟩ = some (.int .i64 0) := (blk_cell BK121.out 6).trans rfl
                have hcz22_7 : wc.cell? ⟨gb121, 7, none⟩ = some (.slice none 0 0) := (blk_cell BK121.out 7).trans rfl
                have hcz22_8 : wc.cell? ⟨gb121, 8, none⟩ = some (.int .i64 0) := (blk_cell BK121.out 8).trans rfl
                have hcz22_9 : wc.cell? ⟨gb121, 9, none⟩ = some (.int .u32 0) := (blk_cell BK121.out 9).trans rfl
                have hfz22_0 := blk_frozen BK121.out 0
                have hfz22_1 := blk_frozen BK121.out 1
                have hfz22_2 := blk_frozen BK121.out 2
                have hfz22_3 := blk_frozen BK121.out 3
                have hfz22_4 := blk_frozen BK121.out 4
                have hfz22_5 := blk_frozen BK121.out 5
                have hfz22_6 := blk_frozen BK121.out 6
                have hfz22_7 := blk_frozen BK121.out 7
                have hfz22_8 := blk_frozen BK121.out 8
                have hfz22_9 := blk_frozen BK121.out 9
                go_wp2
                go_meet
                case rel => exact ⟨_, (0), (0), ((⟨#[]⟩ : ByteArray)), (0), (0), (0), (0), (0), (0), (0), (0), ((⟨#[77, 76, 45, 68, 83, 65, 45, 54, 53]⟩ : ByteArray)), (1952), (4032), (0), (3309), (([] : List Int)), (0), (0), (.slice none 0 0), H', ⟨by have := HJ4.out; first | omega | exact Nat.le_refl _⟩, ⟨by first | exact Kd.R_nil _ _ _ _ _ | exact Kd.N_nil _ _ _ _ _ | exact Kd.V_nil _ _ _ _ _ | exact Kd.Q_nil _ _ _ _ _ | exact Kd.S_nil _ _ _ _ _⟩, ⟨by (with_reducible repeat (first | refine blk_drewN ?_ _ | refine blk_drew ?_ | refine blk_alloc ?_ _)); refine blk_far ?_ NB120_121.out _; (with_reducible repeat (first | refine blk_drewN ?_ _ | refine blk_drew ?_ | refine blk_alloc ?_ _)); refine blk_far ?_ NB120_121.out _; (with_reducible repeat (first | refine blk_drewN ?_ _ | refine blk_drew ?_ | refine blk_alloc ?_ _)); refine blk_far ?_ NB120_121.out _; (with_reducible repeat (first | refine blk_drewN ?_ _ | refine blk_drew ?_ | refine blk_alloc ?_ _)); refine blk_far ?_ NB120_121.out _; (with_reducible repeat (first | refine blk_drewN ?_ _ | refine blk_drew ?_ | refine blk_alloc ?_ _)); refine blk_far ?_ NB120_121.out _; (with_reducible repeat (first | refine blk_drewN ?_ _ | refine blk_drew ?_ | refine blk_alloc ?_ _)); refine blk_far ?_ NB120_121.out _; (with_reducible repeat (first | refine blk_drewN ?_ _ | refine blk_drew ?_ | refine blk_alloc ?_ _)); refine blk_far ?_ NB120_121.out _; (with_reducible repeat (first | refine blk_drewN ?_ _ | refine blk_drew ?_ | refine blk_alloc ?_ _)); refine blk_far ?_ NB120_121.out _; (with_reducible repeat (first | refine blk_drewN ?_ _ | refine blk_drew ?_ | refine blk_alloc ?_ _)); refine blk_far ?_ NB120_121.out _; (with_reducible repeat (first | refine blk_drewN ?_ _ | refine blk_drew ?_ | refine blk_alloc ?_ _)); refine blk_far ?_ NB120_121.out _; (with_reducible repeat (first | refine blk_drewN ?_ _ | refine blk_drew ?_ | refine blk_alloc ?_ _)); exact BK120.out⟩, ⟨by (with_reducible repeat (first | refine blk_drewN ?_ _ | refine blk_drew ?_ | refine blk_alloc ?_ _)); refine blk_put (cs := #[.int .i64 0, .int .i64 0, .string (⟨#[77, 76, 45, 68, 83, 65, 45, 54, 53]⟩ : ByteArray), .int .i64 1952, .int .i64 4032, .int .i64 0, .int .i64 3309, .slice none 0 0, .int .i64 0, .int .u32 0]) ?_ 9 _ rfl; (with_reducible repeat (first | refine blk_drewN ?_ _ | refine blk_drew ?_ | refine blk_alloc ?_ _)); refine blk_put (cs := #[.int .i64 0, .int .i64 0, .string (⟨#[77, 76, 45, 68, 83, 65, 45, 54, 53]⟩ : ByteArray), .int .i64 1952, .int .i64 4032, .int .i64 0, .int .i64 3309, .slice none 0 0, .int .i64 0, .int .u32 0]) ?_ 8 _ rfl; (with_reducible repeat (first | refine blk_drewN ?_ _ | refine blk_drew ?_ | refine blk_alloc ?_ _)); refine blk_put (cs := #[.int .i64 0, .int .i64 0, .string (⟨#[77, 76, 45, 68, 83, 65, 45, 54, 53]⟩ : ByteArray), .int .i64 1952, .int .i64 4032, .int .i64 0, .int .i64 3309, .slice none 0 0, .int .i64 0, .int .u32 0]) ?_ 7 _ rfl; (with_reducible repeat (first | refine blk_drewN ?_ _ | refine blk_drew ?_ | refine blk_alloc ?_ _)); refine blk_put (cs := #[.int .i64 0, .int .i64 0, .string (⟨#[77, 76, 45, 68, 83, 65, 45, 54, 53]⟩ : ByteArray), .int .i64 1952, .int .i64 4032, .int .i64 0, .int .i64 0, .slice none 0 0, .int .i64 0, .int .u32 0]) ?_ 6 _ rfl; (with_reducible repeat (first | refine blk_drewN ?_ _ | refine blk_drew ?_ | refine blk_alloc ?_ _)); refine blk_put (cs := #[.int .i64 0, .int .i64 0, .string (⟨#[77, 76, 45, 68, 83, 65, 45, 54, 53]⟩ : ByteArray), .int .i64 1952, .int .i64 4032, .int .i64 0, .int .i64 0, .slice none 0 0, .int .i64 0, .int .u32 0]) ?_ 5 _ rfl; (with_reducible repeat (first | refine blk_drewN ?_ _ | refine blk_drew ?_ | refine blk_alloc ?_ _)); refine blk_put (cs := #[.int .i64 0, .int .i64 0, .string (⟨#[77, 76, 45, 68, 83, 65, 45, 54, 53]⟩ : ByteArray), .int .i64 1952, .int .i64 0, .int .i64 0, .int .i64 0, .slice none 0 0, .int .i64 0, .int .u32 0]) ?_ 4 _ rfl; (with_reducible repeat (first | refine blk_drewN ?_ _ | refine blk_drew ?_ | refine blk_alloc ?_ _)); refine blk_put (cs := #[.int .i64 0, .int .i64 0, .string (⟨#[77, 76, 45, 68, 83, 65, 45, 54, 53]⟩ : ByteArray), .int .i64 0, .int .i64 0, .int .i64 0, .int .i64 0, .slice none 0 0, .int .i64 0, .int .u32 0]) ?_ 3 _ rfl; (with_reducible repeat (first | refine blk_drewN ?_ _ | refine blk_drew ?_ | refine blk_alloc ?_ _)); refine blk_put (cs := #[.int .i64 0, .int .i64 0, .string (⟨#[]⟩ : ByteArray), .int .i64 0, .int .i64 0, .int .i64 0, .int .i64 0, .slice none 0 0, .int .i64 0, .int .u32 0]) ?_ 2 _ rfl; (with_reducible repeat (first | refine blk_drewN ?_ _ | refine blk_drew ?_ | refine blk_alloc ?_ _)); refine blk_put (cs := #[.int .i64 0, .int .i64 0, .string (⟨#[]⟩ : ByteArray), .int .i64 0, .int .i64 0, .int .i64 0, .int .i64 0, .slice none 0 0, .int .i64 0, .int .u32 0]) ?_ 1 _ rfl; (with_reducible repeat (first | refine blk_drewN ?_ _ | refine blk_drew ?_ | refine blk_alloc ?_ _)); refine blk_put (cs := #[.int .i64 0, .int .i64 0, .string (⟨#[]⟩ : ByteArray), .int .i64 0, .int .i64 0, .int .i64 0, .int .i64 0, .slice none 0 0, .int .i64 0, .int .u32 0]) ?_ 0 _ rfl; (with_reducible repeat (first | refine blk_drewN ?_ _ | refine blk_drew ?_ | refine blk_alloc ?_ _)); exact BK121.out⟩, ⟨by repeat (first | (with_reducible first | exact HB.out | apply below_alloc | apply pw_below_drewN | apply below_drew1 | refine below_set ?_ GE120.out | refine below_set ?_ GE121.out) | exact HB.out)⟩⟩
              · rw [if_neg c20] at H
                have c20b0 : (a0 == 5) = false := beq_eq_false_iff_ne.mpr c20
                have c20b1 : (a0 != 5) = true := bne_iff_ne.mpr c20
                by_cases c23 : a0 = 6
                · rw [if_pos c23] at H
                  have c23b0 : (a0 == 6) = true := beq_iff_eq.mpr c23
                  have c23b1 : (a0 != 6) = false := bne_eq_false_iff_eq.mpr c23
                  clear c23
                  have H' := Aside0.mk H
                  clear H
                  have hnb24 := NB121_120.out
                  have hnc24 := NB120_121.out
                  have hcz25_0 : wc.cell? ⟨gb121, 0, none⟩ = some (.int .i64 0) := (blk_cell BK121.out 0).trans rfl
                  have hcz25_1 : wc.cell? ⟨gb121, 1, none⟩ = some (.int .i64 0) := (blk_cell BK121.out 1).trans rfl
                  have hcz25_2 : wc.cell? ⟨gb121, 2, none⟩ = some (.string (⟨#[]⟩ : ByteArray)) := (blk_cell BK121.out 2).trans rfl
                  have hcz25_3 : wc.cell? ⟨gb121, 3, none⟩ = some (.int .i64 0) := (blk_cell BK121.out 3).trans rfl
                  have hcz25_4 : wc.cell? ⟨gb121, 4, none⟩ = some (.int .i64 0) := (blk_cell BK121.out 4).trans rfl
                  have hcz25_5 : wc.cell? ⟨gb121, 5, none⟩ = some (.int .i64 0) := (blk_cell BK121.out 5).trans rfl
                  have hcz25_6 : wc.cell? ⟨gb121, 6, none⟩ = some (.int .i64 0) := (blk_cell BK121.out 6).trans rfl
                  have hcz25_7 : wc.cell? ⟨gb121, 7, none⟩ = some (.slice none 0 0) := (blk_cell BK121.out 7).trans rfl
                  have hcz25_8 : wc.cell? ⟨gb121, 8, none⟩ = some (.int .i64 0) := (blk_cell BK121.out 8).trans rfl
                  have hcz25_9 : wc.cell? ⟨gb121, 9, none⟩ = some (.int .u32 0) := (blk_cell BK121.out 9).trans rfl
                  have hfz25_0 := blk_frozen BK121.out 0
                  have hfz25_1 := blk_frozen BK121.out 1
                  have hfz25_2 := blk_frozen BK121.out 2
                  have hfz25_3 := blk_frozen BK121.out 3
                  have hfz25_4 := blk_frozen BK121.out 4
                  have hfz25_5 := blk_frozen BK121.out 5
                  have hfz25_6 := blk_frozen BK121.out 6
                  have hfz25_7 := blk_frozen BK121.out 7
                  have hfz25_8 := blk_frozen BK121.out 8
                  have hfz25_9 := blk_frozen BK121.out 9
                  go_wp2
                  go_meet
                  case rel => exact ⟨_, (0), (0), ((⟨#[]⟩ : ByteArray)), (0), (0), (0), (0), (0), (0), (0), (0), ((⟨#[77, 76, 45, 68, 83, 65, 45, 56, 55]⟩ : ByteArray)), (2592), (4896), (0), (4627), (([] : List Int)), (0), (0), (.slice none 0 0), H', ⟨by have := HJ4.out; first | omega | exact Nat.le_refl _⟩, ⟨by first | exact Kd.R_nil _ _ _ _ _ | exact Kd.N_nil _ _ _ _ _ | exact Kd.V_nil _ _ _ _ _ | exact Kd.Q_nil _ _ _ _ _ | exact Kd.S_nil _ _ _ _ _⟩, ⟨by (with_reducible repeat (first | refine blk_drewN ?_ _ | refine blk_drew ?_ | refine blk_alloc ?_ _)); refine blk_far ?_ NB120_121.out _; (with_reducible repeat (first | refine blk_drewN ?_ _ | refine blk_drew ?_ | refine blk_alloc ?_ _)); refine blk_far ?_ NB120_121.out _; (with_reducible repeat (first | refine blk_drewN ?_ _ | refine blk_drew ?_ | refine blk_alloc ?_ _)); refine blk_far ?_ NB120_121.out _; (with_reducible repeat (first | refine blk_drewN ?_ _ | refine blk_drew ?_ | refine blk_alloc ?_ _)); refine blk_far ?_ NB120_121.out _; (with_reducible repeat (first | refine blk_drewN ?_ _ | refine blk_drew ?_ | refine blk_alloc ?_ _)); refine blk_far ?_ NB120_121.out _; (with_reducible repeat (first | refine blk_drewN ?_ _ | refine blk_drew ?_ | refine blk_alloc ?_ _)); refine blk_far ?_ NB120_121.out _; (with_reducible repeat (first | refine blk_drewN ?_ _ | refine blk_drew ?_ | refine blk_alloc ?_ _)); refine blk_far ?_ NB120_121.out _; (with_reducible repeat (first | refine blk_drewN ?_ _ | refine blk_drew ?_ | refine blk_alloc ?_ _)); refine blk_far ?_ NB120_121.out _; (with_reducible repeat (first | refine blk_drewN ?_ _ | refine blk_drew ?_ | refine blk_alloc ?_ _)); refine blk_far ?_ NB120_121.out _; (with_reducible repeat (first | refine blk_drewN ?_ _ | refine blk_drew ?_ | refine blk_alloc ?_ _)); refine blk_far ?_ NB120_121.out _; (with_reducible repeat (first | refine blk_drewN ?_ _ | refine blk_drew ?_ | refine blk_alloc ?_ _)); exact BK120.out⟩, ⟨by (with_reducible repeat (first | refine blk_drewN ?_ _ | refine blk_drew ?_ | refine blk_alloc ?_ _)); refine blk_put (cs := #[.int .i64 0, .int .i64 0, .string (⟨#[77, 76, 45, 68, 83, 65, 45, 56, 55]⟩ : ByteArray), .int .i64 2592, .int .i64 4896, .int .i64 0, .int .i64 4627, .slice none 0 0, .int .i64 0, .int .u32 0]) ?_ 9 _ rfl; (with_reducible repeat (first | refine blk_drewN ?_ _ | refine blk_drew ?_ | refine blk_alloc ?_ _)); refine blk_put (cs := #[.int .i64 0, .int .i64 0, .string (⟨#[77, 76, 45, 68, 83, 65, 45, 56, 55]⟩ : ByteArray), .int .i64 2592, .int .i64 4896, .int .i64 0, .int .i64 4627, .slice none 0 0, .int .i64 0, .int .u32 0]) ?_ 8 _ rfl; (with_reducible repeat (first | refine blk_drewN ?_ _ | refine blk_drew ?_ | refine blk_alloc ?_ _)); refine blk_put (cs := #[.int .i64 0, .int .i64 0, .string (⟨#[77, 76, 45, 68, 83, 65, 45, 56, 55]⟩ : ByteArray), .int .i64 2592, .int .i64 4896, .int .i64 0, .int .i64 4627, .slice none 0 0, .int .i64 0, .int .u32 0]) ?_ 7 _ rfl; (with_reducible repeat (first | refine blk_drewN ?_ _ | refine blk_drew ?_ | refine blk_alloc ?_ _)); refine blk_put (cs := #[.int .i64 0, .int .i64 0, .string (⟨#[77, 76, 45, 68, 83, 65, 45, 56, 55]⟩ : ByteArray), .int .i64 2592, .int .i64 4896, .int .i64 0, .int .i64 0, .slice none 0 0, .int .i64 0, .int .u32 0]) ?_ 6 _ rfl; (with_reducible repeat (first | refine blk_drewN ?_ _ | refine blk_drew ?_ | refine blk_alloc ?_ _)); refine blk_put (cs := #[.int .i64 0, .int .i64 0, .string (⟨#[77, 76, 45, 68, 83, 65, 45, 56, 55]⟩ : ByteArray), .int .i64 2592, .int .i64 4896, .int .i64 0, .int .i64 0, .slice none 0 0, .int .i64 0, .int .u32 0]) ?_ 5 _ rfl; (with_reducible repeat (first | refine blk_drewN ?_ _ | refine blk_drew ?_ | refine blk_alloc ?_ _)); refine blk_put (cs := #[.int .i64 0, .int .i64 0, .string (⟨#[77, 76, 45, 68, 83, 65, 45, 56, 55]⟩ : ByteArray), .int .i64 2592, .int .i64 0, .int .i64 0, .int .i64 0, .slice none 0 0, .int .i64 0, .int .u32 0]) ?_ 4 _ rfl; (with_reducible repeat (first | refine blk_drewN ?_ _ | refine blk_drew ?_ | refine blk_alloc ?_ _)); refine blk_put (cs := #[.int .i64 0, .int .i64 0, .string (⟨#[77, 76, 45, 68, 83, 65, 45, 56, 55]⟩ : ByteArray), .int .i64 0, .int .i64 0, .int .i64 0, .int .i64 0, .slice none 0 0, .int .i64 0, .int .u32 0]) ?_ 3 _ rfl; (with_reducible repeat (first | refine blk_drewN ?_ _ | refine blk_drew ?_ | refine blk_alloc ?_ _)); refine blk_put (cs := #[.int .i64 0, .int .i64 0, .string (⟨#[]⟩ : ByteArray), .int .i64 0, .int .i64 0, .int .i64 0, .int .i64 0, .slice none 0 0, .int .i64 0, .int .u32 0]) ?_ 2 _ rfl; (with_reducible repeat (first | refine blk_drewN ?_ _ | refine blk_drew ?_ | refine blk_alloc ?_ _)); refine blk_put (cs := #[.int .i64 0, .int .i64 0, .string (⟨#[]⟩ : ByteArray), .int .i64 0, .int .i64 0, .int .i64 0, .int .i64 0, .slice none 0 0, .int .i64 0, .int .u32 0]) ?_ 1 _ rfl; (with_reducible repeat (first | refine blk_drewN ?_ _ | refine blk_drew ?_ | refine blk_alloc ?_ _)); refine blk_put (cs := #[.int .i64 0, .int .i64 0, .string (⟨#[]⟩ : ByteArray), .int .i64 0, .int .i64 0, .int .i64 0, .int .i64 0, .slice none 0 0, .int .i64 0, .int .u32 0]) ?_ 0 _ rfl; (with_reducible repeat (first | refine blk_drewN ?_ _ | refine blk_drew ?_ | refine blk_alloc ?_ _)); exact BK121.out⟩, ⟨by repeat (first | (with_reducible first | exact HB.out | apply below_alloc | apply pw_below_drewN | apply below_drew1 | refine below_set ?_ GE120.out | refine below_set ?_ GE121.out) | exact HB.out)⟩⟩
                · rw [if_neg c23] at H
                  have c23b0 : (a0 == 6) = false := beq_eq_false_iff_ne.mpr c23
                  have c23b1 : (a0 != 6) = true := bne_iff_ne.mpr c23
                  by_cases c26 : a0 < 19
                  · rw [if_pos c26] at H
                    have c26b0 : decide (a0 < 19) = true := decide_eq_true c26
                    clear c26
                    replace H := Option.bind_eq_some_iff.mp H
                    obtain ⟨⟨t134, t135, t136, t137, t138, t139, t140, t141, t144, t145⟩, A270, H⟩ := H
                    replace H : (params_Get.j1 kj4 a0 t134 t135 t136 t137 t138 t139 t140 t141 t144 t145) = some (r1, r2, r3, r4, r5, r6, r7, r8, r9, r10, r11) := H
                    have A27 := Aside0.mk A270
                    clear A270
                    have H' := Aside0.mk H
                    clear H
                    go_wp2_with (first | ((with_reducible refine gate_callee (f := 50) rfl ?_); refine goesL_ (some 36) rfl rfl Tryd.func50 (by kernel_rfl) rfl #[.int .i64 a0] rfl (by (try simp only [List.map_toArray, List.map_cons, List.map_nil]); first | done | rfl | (simp only [List.length_drop, List.length_take]; rfl)) ?_; (with_reducible refine (params_slh.calls a0 t134 t135 t136 t137 t138 t139 t140 t141 t144 t145 _ A27.out (by first | exact GOK.below HG.out (by repeat (first | (with_reducible first | exact HB.out | apply below_alloc | apply pw_below_drewN | apply below_drew1 | refine below_set ?_ GE120.out | refine below_set ?_ GE121.out) | exact HB.out)) | (repeat (first | exact HG.out | apply GOK.drewN | apply GOK.drew)))).mono ?_); rintro e w28 ⟨v142, rfl, ho0, hb⟩; refine ⟨_, rfl, ?_⟩; have n0_ := Aside0.mk (Kd.R_lower ho0 (below_size (by repeat (first | (with_reducible first | exact HB.out | apply below_alloc | apply pw_below_drewN | apply below_drew1 | refine below_set ?_ GE120.out | refine below_set ?_ GE121.out) | exact HB.out)))); have n1_ := Aside0.mk (blk_below (g := gb120) (o := .cells #[.int .i64 0, .int .i64 0, .string (⟨#[]⟩ : ByteArray), .int .i64 0, .int .i64 0, .int .i64 0, .int .i64 0, .slice none 0 0, .int .i64 0, .int .u32 0] 37 (0, 0)) (by (with_reducible repeat (first | refine blk_drewN ?_ _ | refine blk_drew ?_ | refine blk_alloc ?_ _)); exact BK120.out) hb); have n2_ := Aside0.mk (blk_below (g := gb121) (o := .cells #[.int .i64 0, .int .i64 0, .string (⟨#[]⟩ : ByteArray), .int .i64 0, .int .i64 0, .int .i64 0, .int .i64 0, .slice none 0 0, .int .i64 0, .int .u32 0] 37 (0, 0)) (by (with_reducible repeat (first | refine blk_drewN ?_ _ | refine blk_drew ?_ | refine blk_alloc ?_ _)); exact BK121.out) hb); have n3_ := Aside0.mk (below_step (by repeat (first | (with_reducible first | exact HB.out | apply below_alloc | apply pw_below_drewN | apply below_drew1 | refine below_set ?_ GE120.out | refine below_set ?_ GE121.out) | exact HB.out)) hb); clear BK120; clear BK121; clear HB; have HO143 := n0_; have BK120 := n1_; have BK121 := n2_; have HB := n3_; clear n0_ n1_ n2_ n3_; (try clear hb); (try clear hb2); (try clear hk); (try clear hi); (try clear ho0); have hnb29 := NB121_120.out; have hnc29 := NB120_121.out; have hcz30_0 : w28.cell? ⟨gb121, 0, none⟩ = some (.int .i64 0) := (blk_cell BK121.out 0).trans rfl; have hcz30_1 : w28.cell? ⟨gb121, 1, none⟩ = some (.int .i64 0) := (blk_cell BK121.out 1).trans rfl; have hcz30_2 : w28.cell? ⟨gb121, 2, none⟩ = some (.string (⟨#[]⟩ : ByteArray)) := (blk_cell BK121.out 2).trans rfl; have hcz30_3 : w28.cell? ⟨gb121, 3, none⟩ = some (.int .i64 0) := (blk_cell BK121.out 3).trans rfl; have hcz30_4 : w28.cell? ⟨gb121, 4, none⟩ = some (.int .i64 0) := (blk_cell BK121.out 4).trans rfl; have hcz30_5 : w28.cell? ⟨gb121, 5, none⟩ = some (.int .i64 0) := (blk_cell BK121.out 5).trans rfl; have hcz30_6 : w28.cell? ⟨gb121, 6, none⟩ = some (.int .i64 0) := (blk_cell BK121.out 6).trans rfl; have hcz30_7 : w28.cell? ⟨gb121, 7, none⟩ = some (.slice none 0 0) := (blk_cell BK121.out 7).trans rfl; have hcz30_8 : w28.cell? ⟨gb121, 8, none⟩ = some (.int .i64 0) := (blk_cell BK121.out 8).trans rfl; have hcz30_9 : w28.cell? ⟨gb121, 9, none⟩ = some (.int .u32 0) := (blk_cell BK121.out 9).trans rfl; have hfz30_0 := blk_frozen BK121.out 0; have hfz30_1 := blk_frozen BK121.out 1; have hfz30_2 := blk_frozen BK121.out 2; have hfz30_3 := blk_frozen BK121.out 3; have hfz30_4 := blk_frozen BK121.out 4; have hfz30_5 := blk_frozen BK121.out 5; have hfz30_6 := blk_frozen BK121.out 6; have hfz30_7 := blk_frozen BK121.out 7; have hfz30_8 := blk_frozen BK121.out 8; have hfz30_9 := blk_frozen BK121.out 9; obtain ⟨Ao31, co31, eo31⟩ := Kd.R_slice HO143.out; subst eo31))
                    go_meet
                    case rel => exact ⟨_, (0), (0), ((⟨#[]⟩ : ByteArray)), (0), (0), (0), (0), (0), (0), (t134), (t135), (t136), (t137), (t138), (t139), (t140), (t141), (t144), (t145), (.slice Ao31 t141.length co31), H', ⟨by have := HJ4.out; first | omega | exact Nat.le_refl _⟩, ⟨by (with_reducible repeat (first | apply Kd.R_alloc | apply Kd.R_drewN | apply Kd.R_drew)); exact Kd.R_mono (Kd.R_far (p := ⟨gb121, 9, none⟩) (Kd.R_far (p := ⟨gb121, 8, none⟩) (Kd.R_far (p := ⟨gb121, 7, none⟩) (Kd.R_far (p := ⟨gb121, 6, none⟩) (Kd.R_far (p := ⟨gb121, 5, none⟩) (Kd.R_far (p := ⟨gb121, 4, none⟩) (Kd.R_far (p := ⟨gb121, 3, none⟩) (Kd.R_far (p := ⟨gb121, 2, none⟩) (Kd.R_far (p := ⟨gb121, 1, none⟩) (Kd.R_far (p := ⟨gb121, 0, none⟩) (Kd.R_types HO143.out BK121.out (by decide)) (fun _ hk => hk.2) (.int .i64 t134)) (fun _ hk => hk.2) (.int .i64 t135)) (fun _ hk => hk.2) (.string t136)) (fun _ hk => hk.2) (.int .i64 t137)) (fun _ hk => hk.2) (.int .i64 t138)) (fun _ hk => hk.2) (.int .i64 t139)) (fun _ hk => hk.2) (.int .i64 t140)) (fun _ hk => hk.2) (.slice Ao31 t141.length co31)) (fun _ hk => hk.2) (.int .i64 t144)) (fun _ hk => hk.2) (.int .u32 t145)) (fun _ hk => trivial)⟩, ⟨by (with_reducible repeat (first | refine blk_drewN ?_ _ | refine blk_drew ?_ | refine blk_alloc ?_ _)); refine blk_far ?_ NB120_121.out _; (with_reducible repeat (first | refine blk_drewN ?_ _ | refine blk_drew ?_ | refine blk_alloc ?_ _)); refine blk_far ?_ NB120_121.out _; (with_reducible repeat (first | refine blk_drewN ?_ _ | refine blk_drew ?_ | refine blk_alloc ?_ _)); refine blk_far ?_ NB120_121.out _; (with_reducible repeat (first | refine blk_drewN ?_ _ | refine blk_drew ?_ | refine blk_alloc ?_ _)); refine blk_far ?_ NB120_121.out _; (with_reducible repeat (first | refine blk_drewN ?_ _ | refine blk_drew ?_ | refine blk_alloc ?_ _)); refine blk_far ?_ NB120_121.out _; (with_reducible repeat (first | refine blk_drewN ?_ _ | refine blk_drew ?_ | refine blk_alloc ?_ _)); refine blk_far ?_ NB120_121.out _; (with_reducible repeat (first | refine blk_drewN ?_ _ | refine blk_drew ?_ | refine blk_alloc ?_ _)); refine blk_far ?_ NB120_121.out _; (with_reducible repeat (first | refine blk_drewN ?_ _ | refine blk_drew ?_ | refine blk_alloc ?_ _)); refine blk_far ?_ NB120_121.out _; (with_reducible repeat (first | refine blk_drewN ?_ _ | refine blk_drew ?_ | refine blk_alloc ?_ _)); refine blk_far ?_ NB120_121.out _; (with_reducible repeat (first | refine blk_drewN ?_ _ | refine blk_drew ?_ | refine blk_alloc ?_ _)); refine blk_far ?_ NB120_121.out _; (with_reducible repeat (first | refine blk_drewN ?_ _ | refine blk_drew ?_ | refine blk_alloc ?_ _)); exact BK120.out⟩, ⟨by (with_reducible repeat (first | refine blk_drewN ?_ _ | refine blk_drew ?_ | refine blk_alloc ?_ _)); refine blk_put (cs := #[.int .i64 t134, .int .i64 t135, .string t136, .int .i64 t137, .int .i64 t138, .int .i64 t139, .int .i64 t140, .slice Ao31 t141.length co31, .int .i64 t144, .int .u32 0]) ?_ 9 _ rfl; (with_reducible repeat (first | refine blk_drewN ?_ _ | refine blk_drew ?_ | refine blk_alloc ?_ _)); refine blk_put (cs := #[.int .i64 t134, .int .i64 t135, .string t136, .int .i64 t137, .int .i64 t138, .int .i64 t139, .int .i64 t140, .slice Ao31 t141.length co31, .int .i64 0, .int .u32 0]) ?_ 8 _ rfl; (with_reducible repeat (first | refine blk_drewN ?_ _ | refine blk_drew ?_ | refine blk_alloc ?_ _)); refine blk_put (cs := #[.int .i64 t134, .int .i64 t135, .string t136, .int .i64 t137, .int .i64 t138, .int .i64 t139, .int .i64 t140, .slice none 0 0, .int .i64 0, .int .u32 0]) ?_ 7 _ rfl; (with_reducible repeat (first | refine blk_drewN ?_ _ | refine blk_drew ?_ | refine blk_alloc ?_ _)); refine blk_put (cs := #[.int .i64 t134, .int .i64 t135, .string t136, .int .i64 t137, .int .i64 t138, .int .i64 t139, .int .i64 0, .slice none 0 0, .int .i64 0, .int .u32 0]) ?_ 6 _ rfl; (with_reducible repeat (first | refine blk_drewN ?_ _ | refine blk_drew ?_ | refine blk_alloc ?_ _)); refine blk_put (cs := #[.int .i64 t134, .int .i64 t135, .string t136, .int .i64 t137, .int .i64 t138, .int .i64 0, .int .i64 0, .slice none 0 0, .int .i64 0, .int .u32 0]) ?_ 5 _ rfl; (with_reducible repeat (first | refine blk_drewN ?_ _ | refine blk_drew ?_ | refine blk_alloc ?_ _)); refine blk_put (cs := #[.int .i64 t134, .int .i64 t135, .string t136, .int .i64 t137, .int .i64 0, .int .i64 0, .int .i64 0, .slice none 0 0, .int .i64 0, .int .u32 0]) ?_ 4 _ rfl; (with_reducible repeat (first | refine blk_drewN ?_ _ | refine blk_drew ?_ | refine blk_alloc ?_ _)); refine blk_put (cs := #[.int .i64 t134, .int .i64 t135, .string t136, .int .i64 0, .int .i64 0, .int .i64 0, .int .i64 0, .slice none 0 0, .int .i64 0, .int .u32 0]) ?_ 3 _ rfl; (with_reducible repeat (first | refine blk_drewN ?_ _ | refine blk_drew ?_ | refine blk_alloc ?_ _)); refine blk_put (cs := #[.int .i64 t134, .int .i64 t135, .string (⟨#[]⟩ : ByteArray), .int .i64 0, .int .i64 0, .int .i64 0, .int .i64 0, .slice none 0 0, .int .i64 0, .int .u32 0]) ?_ 2 _ rfl; (with_reducible repeat (first | refine blk_drewN ?_ _ | refine blk_drew ?_ | refine blk_alloc ?_ _)); refine blk_put (cs := #[.int .i64 t134, .int .i64 0, .string (⟨#[]⟩ : ByteArray), .int .i64 0, .int .i64 0, .int .i64 0, .int .i64 0, .slice none 0 0, .int .i64 0, .int .u32 0]) ?_ 1 _ rfl; (with_reducible repeat (first | refine blk_drewN ?_ _ | refine blk_drew ?_ | refine blk_alloc ?_ _)); refine blk_put (cs := #[.int .i64 0, .int .i64 0, .string (⟨#[]⟩ : ByteArray), .int .i64 0, .int .i64 0, .int .i64 0, .int .i64 0, .slice none 0 0, .int .i64 0, .int .u32 0]) ?_ 0 _ rfl; (with_reducible repeat (first | refine blk_drewN ?_ _ | refine blk_drew ?_ | refine blk_alloc ?_ _)); exact BK121.out⟩, ⟨by repeat (first | (with_reducible first | exact HB.out | apply below_alloc | apply pw_below_drewN | apply below_drew1 | refine below_set ?_ GE120.out | refine below_set ?_ GE121.out) | exact HB.out)⟩⟩
                  · rw [if_neg c26] at H
                    have c26b0 : decide (a0 < 19) = false := decide_eq_false c26
                    clear c26
                    by_cases c32 : a0 = 19
                    · rw [if_pos c32] at H
                      have c32b0 : (a0 == 19) = true := beq_iff_eq.mpr c32
                      have c32b1 : (a0 != 19) = false := bne_eq_false_iff_eq.mpr c32
                      clear c32
                      replace H := Option.bind_eq_some_iff.mp H
                      obtain ⟨t146, A330, H⟩ := H
                      replace H : (params_Get.j1 kj4 a0 0 4 (⟨#[72, 83, 83, 47, 76, 77, 83]⟩ : ByteArray) 0 0 0 0 t146 0 0) = some (r1, r2, r3, r4, r5, r6, r7, r8, r9, r10, r11) := H
                      have A33 := Aside0.mk A330
                      clear A330
                      have H' := Aside0.mk H
                      clear H
                      go_wp2_with (first | ((with_reducible refine gate_callee (f := 51) rfl ?_); refine goesL_ (some 40) rfl rfl Tryd.func51 (by kernel_rfl) rfl #[.string (⟨#[49, 46, 50, 46, 56, 52, 48, 46, 49, 49, 51, 53, 52, 57, 46, 49, 46, 57, 46, 49, 54, 46, 51, 46, 49, 55]⟩ : ByteArray)] rfl (by (try simp only [List.map_toArray, List.map_cons, List.map_nil]); first | done | rfl | (simp only [List.length_drop, List.length_take]; rfl)) ?_; (with_reducible refine (params_of.calls kj4 (⟨#[49, 46, 50, 46, 56, 52, 48, 46, 49, 49, 51, 53, 52, 57, 46, 49, 46, 57, 46, 49, 54, 46, 51, 46, 49, 55]⟩ : ByteArray) t146 _ A33.out (by first | exact GOK.below HG.out (by repeat (first | (with_reducible first | exact HB.out | apply below_alloc | apply pw_below_drewN | apply below_drew1 | refine below_set ?_ GE120.out | refine below_set ?_ GE121.out) | exact HB.out)) | (repeat (first | exact HG.out | apply GOK.drewN | apply GOK.drew)))).mono ?_); rintro e w34 ⟨v147, rfl, ho0, hb⟩; refine ⟨_, rfl, ?_⟩; have n0_ := Aside0.mk (Kd.R_lower ho0 (below_size (by repeat (first | (with_reducible first | exact HB.out | apply below_alloc | apply pw_below_drewN | apply below_drew1 | refine below_set ?_ GE120.out | refine below_set ?_ GE121.out) | exact HB.out)))); have n1_ := Aside0.mk (blk_below (g := gb120) (o := .cells #[.int .i64 0, .int .i64 0, .string (⟨#[]⟩ : ByteArray), .int .i64 0, .int .i64 0, .int .i64 0, .int .i64 0, .slice none 0 0, .int .i64 0, .int .u32 0] 37 (0, 0)) (by (with_reducible repeat (first | refine blk_drewN ?_ _ | refine blk_drew ?_ | refine blk_alloc ?_ _)); exact BK120.out) hb); have n2_ := Aside0.mk (blk_below (g := gb121) (o := .cells #[.int .i64 0, .int .i64 0, .string (⟨#[]⟩ : ByteArray), .int .i64 0, .int .i64 0, .int .i64 0, .int .i64 0, .slice none 0 0, .int .i64 0, .int .u32 0] 37 (0, 0)) (by (with_reducible repeat (first | refine blk_drewN ?_ _ | refine blk_drew ?_ | refine blk_alloc ?_ _)); exact BK121.out) hb); have n3_ := Aside0.mk (below_step (by repeat (first | (with_reducible first | exact HB.out | apply below_alloc | apply pw_below_drewN | apply below_drew1 | refine below_set ?_ GE120.out | refine below_set ?_ GE121.out) | exact HB.out)) hb); clear BK120; clear BK121; clear HB; have HO148 := n0_; have BK120 := n1_; have BK121 := n2_; have HB := n3_; clear n0_ n1_ n2_ n3_; (try clear hb); (try clear hb2); (try clear hk); (try clear hi); (try clear ho0); obtain ⟨Ao35, co35, eo35⟩ := Kd.R_slice HO148.out; subst eo35; have hnb36 := NB121_120.out; have hnc36 := NB120_121.out; have hcz37_0 : w34.cell? ⟨gb121, 0, none⟩ = some (.int .i64 0) := (blk_cell BK121.out 0).trans rfl; have hcz37_1 : w34.cell? ⟨gb121, 1, none⟩ = some (.int .i64 0) := (blk_cell BK121.out 1).trans rfl; have hcz37_2 : w34.cell? ⟨gb121, 2, none⟩ = some (.string (⟨#[]⟩ : ByteArray)) := (blk_cell BK121.out 2).trans rfl; have hcz37_3 : w34.cell? ⟨gb121, 3, none⟩ = some (.int .i64 0) := (blk_cell BK121.out 3).trans rfl; have hcz37_4 : w34.cell? ⟨gb121, 4, none⟩ = some (.int .i64 0) := (blk_cell BK121.out 4).trans rfl; have hcz37_5 : w34.cell? ⟨gb121, 5, none⟩ = some (.int .i64 0) := (blk_cell BK121.out 5).trans rfl; have hcz37_6 : w34.cell? ⟨gb121, 6, none⟩ = some (.int .i64 0) := (blk_cell BK121.out 6).trans rfl; have hcz37_7 : w34.cell? ⟨gb121, 7, none⟩ = some (.slice none 0 0) := (blk_cell BK121.out 7).trans rfl; have hcz37_8 : w34.cell? ⟨gb121, 8, none⟩ = some (.int .i64 0) := (blk_cell BK121.out 8).trans rfl; have hcz37_9 : w34.cell? ⟨gb121, 9, none⟩ = some (.int .u32 0) := (blk_cell BK121.out 9).trans rfl; have hfz37_0 := blk_frozen BK121.out 0; have hfz37_1 := blk_frozen BK121.out 1; have hfz37_2 := blk_frozen BK121.out 2; have hfz37_3 := blk_frozen BK121.out 3; have hfz37_4 := blk_frozen BK121.out 4; have hfz37_5 := blk_frozen BK121.out 5; have hfz37_6 := blk_frozen BK121.out 6; have hfz37_7 := blk_frozen BK121.out 7; have hfz37_8 := blk_frozen BK121.out 8; have hfz37_9 := blk_frozen BK121.out 9))
                      go_meet
                      case rel => exact ⟨_, (0), (0), ((⟨#[]⟩ : ByteArray)), (0), (0), (0), (0), (0), (0), (0), (4), ((⟨#[72, 83, 83, 47, 76, 77, 83]⟩ : ByteArray)), (0), (0), (0), (0), (t146), (0), (0), (.slice Ao35 t146.length co35), H', ⟨by have := HJ4.out; first | omega | exact Nat.le_refl _⟩, ⟨by (with_reducible repeat (first | apply Kd.R_alloc | apply Kd.R_drewN | apply Kd.R_drew)); exact Kd.R_mono (Kd.R_far (p := ⟨gb121, 9, none⟩) (Kd.R_far (p := ⟨gb121, 8, none⟩) (Kd.R_far (p := ⟨gb121, 7, none⟩) (Kd.R_far (p := ⟨gb121, 6, none⟩) (Kd.R_far (p := ⟨gb121, 5, none⟩) (Kd.R_far (p := ⟨gb121, 4, none⟩) (Kd.R_far (p := ⟨gb121, 3, none⟩) (Kd.R_far (p := ⟨gb121, 2, none⟩) (Kd.R_far (p := ⟨gb121, 1, none⟩) (Kd.R_far (p := ⟨gb121, 0, none⟩) (Kd.R_types HO148.out BK121.out (by decide)) (fun _ hk => hk.2) (.int .i64 0)) (fun _ hk => hk.2) (.int .i64 4)) (fun _ hk => hk.2) (.string (⟨#[72, 83, 83, 47, 76, 77, 83]⟩ : ByteArray))) (fun _ hk => hk.2) (.int .i64 0)) (fun _ hk => hk.2) (.int .i64 0)) (fun _ hk => hk.2) (.int .i64 0)) (fun _ hk => hk.2) (.int .i64 0)) (fun _ hk => hk.2) (.slice Ao35 t146.length co35)) (fun _ hk => hk.2) (.int .i64 0)) (fun _ hk => hk.2) (.int .u32 0)) (fun _ hk => trivial)⟩, ⟨by (with_reducible repeat (first | refine blk_drewN ?_ _ | refine blk_drew ?_ | refine blk_alloc ?_ _)); refine blk_far ?_ NB120_121.out _; (with_reducible repeat (first | refine blk_drewN ?_ _ | refine blk_drew ?_ | refine blk_alloc ?_ _)); refine blk_far ?_ NB120_121.out _; (with_reducible repeat (first | refine blk_drewN ?_ _ | refine blk_drew ?_ | refine blk_alloc ?_ _)); refine blk_far ?_ NB120_121.out _; (with_reducible repeat (first | refine blk_drewN ?_ _ | refine blk_drew ?_ | refine blk_alloc ?_ _)); refine blk_far ?_ NB120_121.out _; (with_reducible repeat (first | refine blk_drewN ?_ _ | refine blk_drew ?_ | refine blk_alloc ?_ _)); refine blk_far ?_ NB120_121.out _; (with_reducible repeat (first | refine blk_drewN ?_ _ | refine blk_drew ?_ | refine blk_alloc ?_ _)); refine blk_far ?_ NB120_121.out _; (with_reducible repeat (first | refine blk_drewN ?_ _ | refine blk_drew ?_ | refine blk_alloc ?_ _)); refine blk_far ?_ NB120_121.out _; (with_reducible repeat (first | refine blk_drewN ?_ _ | refine blk_drew ?_ | refine blk_alloc ?_ _)); refine blk_far ?_ NB120_121.out _; (with_reducible repeat (first | refine blk_drewN ?_ _ | refine blk_drew ?_ | refine blk_alloc ?_ _)); refine blk_far ?_ NB120_121.out _; (with_reducible repeat (first | refine blk_drewN ?_ _ | refine blk_drew ?_ | refine blk_alloc ?_ _)); refine blk_far ?_ NB120_121.out _; (with_reducible repeat (first | refine blk_drewN ?_ _ | refine blk_drew ?_ | refine blk_alloc ?_ _)); exact BK120.out⟩, ⟨by (with_reducible repeat (first | refine blk_drewN ?_ _ | refine blk_drew ?_ | refine blk_alloc ?_ _)); refine blk_put (cs := #[.int .i64 0, .int .i64 4, .string (⟨#[72, 83, 83, 47, 76, 77, 83]⟩ : ByteArray), .int .i64 0, .int .i64 0, .int .i64 0, .int .i64 0, .slice Ao35 t146.length co35, .int .i64 0, .int .u32 0]) ?_ 9 _ rfl; (with_reducible repeat (first | refine blk_drewN ?_ _ | refine blk_drew ?_ | refine blk_alloc ?_ _)); refine blk_put (cs := #[.int .i64 0, .int .i64 4, .string (⟨#[72, 83, 83, 47, 76, 77, 83]⟩ : ByteArray), .int .i64 0, .int .i64 0, .int .i64 0, .int .i64 0, .slice Ao35 t146.length co35, .int .i64 0, .int .u32 0]) ?_ 8 _ rfl; (with_reducible repeat (first | refine blk_drewN ?_ _ | refine blk_drew ?_ | refine blk_alloc ?_ _)); refine blk_put (cs := #[.int .i64 0, .int .i64 4, .string (⟨#[72, 83, 83, 47, 76, 77, 83]⟩ : ByteArray), .int .i64 0, .int .i64 0, .int .i64 0, .int .i64 0, .slice none 0 0, .int .i64 0, .int .u32 0]) ?_ 7 _ rfl; (with_reducible repeat (first | refine blk_drewN ?_ _ | refine blk_drew ?_ | refine blk_alloc ?_ _)); refine blk_put (cs := #[.int .i64 0, .int .i64 4, .string (⟨#[72, 83, 83, 47, 76, 77, 83]⟩ : ByteArray), .int .i64 0, .int .i64 0, .int .i64 0, .int .i64 0, .slice none 0 0, .int .i64 0, .int .u32 0]) ?_ 6 _ rfl; (with_reducible repeat (first | refine blk_drewN ?_ _ | refine blk_drew ?_ | refine blk_alloc ?_ _)); refine blk_put (cs := #[.int .i64 0, .int .i64 4, .string (⟨#[72, 83, 83, 47, 76, 77, 83]⟩ : ByteArray), .int .i64 0, .int .i64 0, .int .i64 0, .int .i64 0, .slice none 0 0, .int .i64 0, .int .u32 0]) ?_ 5 _ rfl; (with_reducible repeat (first | refine blk_drewN ?_ _ | refine blk_drew ?_ | refine blk_alloc ?_ _)); refine blk_put (cs := #[.int .i64 0, .int .i64 4, .string (⟨#[72, 83, 83, 47, 76, 77, 83]⟩ : ByteArray), .int .i64 0, .int .i64 0, .int .i64 0, .int .i64 0, .slice none 0 0, .int .i64 0, .int .u32 0]) ?_ 4 _ rfl; (with_reducible repeat (first | refine blk_drewN ?_ _ | refine blk_drew ?_ | refine blk_alloc ?_ _)); refine blk_put (cs := #[.int .i64 0, .int .i64 4, .string (⟨#[72, 83, 83, 47, 76, 77, 83]⟩ : ByteArray), .int .i64 0, .int .i64 0, .int .i64 0, .int .i64 0, .slice none 0 0, .int .i64 0, .int .u32 0]) ?_ 3 _ rfl; (with_reducible repeat (first | refine blk_drewN ?_ _ | refine blk_drew ?_ | refine blk_alloc ?_ _)); refine blk_put (cs := #[.int .i64 0, .int .i64 4, .string (⟨#[]⟩ : ByteArray), .int .i64 0, .int .i64 0, .int .i64 0, .int .i64 0, .slice none 0 0, .int .i64 0, .int .u32 0]) ?_ 2 _ rfl; (with_reducible repeat (first | refine blk_drewN ?_ _ | refine blk_drew ?_ | refine blk_alloc ?_ _)); refine blk_put (cs := #[.int .i64 0, .int .i64 0, .string (⟨#[]⟩ : ByteArray), .int .i64 0, .int .i64 0, .int .i64 0, .int .i64 0, .slice none 0 0, .int .i64 0, .int .u32 0]) ?_ 1 _ rfl; (with_reducible repeat (first | refine blk_drewN ?_ _ | refine blk_drew ?_ | refine blk_alloc ?_ _)); refine blk_put (cs := #[.int .i64 0, .int .i64 0, .string (⟨#[]⟩ : ByteArray), .int .i64 0, .int .i64 0, .int .i64 0, .int .i64 0, .slice none 0 0, .int .i64 0, .int .u32 0]) ?_ 0 _ rfl; (with_reducible repeat (first | refine blk_drewN ?_ _ | refine blk_drew ?_ | refine blk_alloc ?_ _)); exact BK121.out⟩, ⟨by repeat (first | (with_reducible first | exact HB.out | apply below_alloc | apply pw_below_drewN | apply below_drew1 | refine below_set ?_ GE120.out | refine below_set ?_ GE121.out) | exact HB.out)⟩⟩
                    · rw [if_neg c32] at H
                      have c32b0 : (a0 == 19) = false := beq_eq_false_iff_ne.mpr c32
                      have c32b1 : (a0 != 19) = true := bne_iff_ne.mpr c32
                      replace H := Option.bind_eq_some_iff.mp H
                      obtain ⟨⟨t149, t150, t151, t152, t153, t154, t155, t156, t159, t160⟩, A380, H⟩ := H
                      replace H : (params_Get.j1 kj4 a0 t149 t150 t151 t152 t153 t154 t155 t156 t159 t160) = some (r1, r2, r3, r4, r5, r6, r7, r8, r9, r10, r11) := H
                      have A38 := Aside0.mk A380
                      clear A380
                      have H' := Aside0.mk H
                      clear H
                      go_wp2_with (first | ((with_reducible refine gate_callee (f := 52) rfl ?_); refine goesL_ (some 6) rfl rfl Tryd.func52 (by kernel_rfl) rfl #[.int .i64 a0] rfl (by (try simp only [List.map_toArray, List.map_cons, List.map_nil]); first | done | rfl | (simp only [List.length_drop, List.length_take]; rfl)) ?_; (with_reducible refine (params_xmss.calls a0 t149 t150 t151 t152 t153 t154 t155 t156 t159 t160 _ A38.out (by first | exact GOK.below HG.out (by repeat (first | (with_reducible first | exact HB.out | apply below_alloc | apply pw_below_drewN | apply below_drew1 | refine below_set ?_ GE120.out | refine below_set ?_ GE121.out) | exact HB.out)) | (repeat (first | exact HG.out | apply GOK.drewN | apply GOK.drew)))).mono ?_); rintro e w39 ⟨v157, rfl, ho0, hb⟩; refine ⟨_, rfl, ?_⟩; have n0_ := Aside0.mk (Kd.R_lower ho0 (below_size (by repeat (first | (with_reducible first | exact HB.out | apply below_alloc | apply pw_below_drewN | apply below_drew1 | refine below_set ?_ GE120.out | refine below_set ?_ GE121.out) | exact HB.out)))); have n1_ := Aside0.mk (blk_below (g := gb120) (o := .cells #[.int .i64 0, .int .i64 0, .string (⟨#[]⟩ : ByteArray), .int .i64 0, .int .i64 0, .int .i64 0, .int .i64 0, .slice none 0 0, .int .i64 0, .int .u32 0] 37 (0, 0)) (by (with_reducible repeat (first | refine blk_drewN ?_ _ | refine blk_drew ?_ | refine blk_alloc ?_ _)); exact BK120.out) hb); have n2_ := Aside0.mk (blk_below (g := gb121) (o := .cells #[.int .i64 0, .int .i64 0, .string (⟨#[]⟩ : ByteArray), .int .i64 0, .int .i64 0, .int .i64 0, .int .i64 0, .slice none 0 0, .int .i64 0, .int .u32 0] 37 (0, 0)) (by (with_reducible repeat (first | refine blk_drewN ?_ _ | refine blk_drew ?_ | refine blk_alloc ?_ _)); exact BK121.out) hb); have n3_ := Aside0.mk (below_step (by repeat (first | (with_reducible first | exact HB.out | apply below_alloc | apply pw_below_drewN | apply below_drew1 | refine below_set ?_ GE120.out | refine below_set ?_ GE121.out) | exact HB.out)) hb); clear BK120; clear BK121; clear HB; have HO158 := n0_; have BK120 := n1_; have BK121 := n2_; have HB := n3_; clear n0_ n1_ n2_ n3_; (try clear hb); (try clear hb2); (try clear hk); (try clear hi); (try clear ho0); have hnb40 := NB121_120.out; have hnc40 := NB120_121.out; have hcz41_0 : w39.cell? ⟨gb121, 0, none⟩ = some (.int .i64 0) := (blk_cell BK121.out 0).trans rfl; have hcz41_1 : w39.cell? ⟨gb121, 1, none⟩ = some (.int .i64 0) := (blk_cell BK121.out 1).trans rfl; have hcz41_2 : w39.cell? ⟨gb121, 2, none⟩ = some (.string (⟨#[]⟩ : ByteArray)) := (blk_cell BK121.out 2).trans rfl; have hcz41_3 : w39.cell? ⟨gb121, 3, none⟩ = some (.int .i64 0) := (blk_cell BK121.out 3).trans rfl; have hcz41_4 : w39.cell? ⟨gb121, 4, none⟩ = some (.int .i64 0) := (blk_cell BK121.out 4).trans rfl; have hcz41_5 : w39.cell? ⟨gb121, 5, none⟩ = some (.int .i64 0) := (blk_cell BK121.out 5).trans rfl; have hcz41_6 : w39.cell? ⟨gb121, 6, none⟩ = some (.int .i64 0) := (blk_cell BK121.out 6).trans rfl; have hcz41_7 : w39.cell? ⟨gb121, 7, none⟩ = some (.slice none 0 0) := (blk_cell BK121.out 7).trans rfl; have hcz41_8 : w39.cell? ⟨gb121, 8, none⟩ = some (.int .i64 0) := (blk_cell BK121.out 8).trans rfl; have hcz41_9 : w39.cell? ⟨gb121, 9, none⟩ = some (.int .u32 0) := (blk_cell BK121.out 9).trans rfl; have hfz41_0 := blk_frozen BK121.out 0; have hfz41_1 := blk_frozen BK121.out 1; have hfz41_2 := blk_frozen BK121.out 2; have hfz41_3 := blk_frozen BK121.out 3; have hfz41_4 := blk_frozen BK121.out 4; have hfz41_5 := blk_frozen BK121.out 5; have hfz41_6 := blk_frozen BK121.out 6; have hfz41_7 := blk_frozen BK121.out 7; have hfz41_8 := blk_frozen BK121.out 8; have hfz41_9 := blk_frozen BK121.out 9; obtain ⟨Ao42, co42, eo42⟩ := Kd.R_slice HO158.out; subst eo42))
                      go_meet
                      case rel => exact ⟨_, (0), (0), ((⟨#[]⟩ : ByteArray)), (0), (0), (0), (0), (0), (0), (t149), (t150), (t151), (t152), (t153), (t154), (t155), (t156), (t159), (t160), (.slice Ao42 t156.length co42), H', ⟨by have := HJ4.out; first | omega | exact Nat.le_refl _⟩, ⟨by (with_reducible repeat (first | apply Kd.R_alloc | apply Kd.R_drewN | apply Kd.R_drew)); exact Kd.R_mono (Kd.R_far (p := ⟨gb121, 9, none⟩) (Kd.R_far (p := ⟨gb121, 8, none⟩) (Kd.R_far (p := ⟨gb121, 7, none⟩) (Kd.R_far (p := ⟨gb121, 6, none⟩) (Kd.R_far (p := ⟨gb121, 5, none⟩) (Kd.R_far (p := ⟨gb121, 4, none⟩) (Kd.R_far (p := ⟨gb121, 3, none⟩) (Kd.R_far (p := ⟨gb121, 2, none⟩) (Kd.R_far (p := ⟨gb121, 1, none⟩) (Kd.R_far (p := ⟨gb121, 0, none⟩) (Kd.R_types HO158.out BK121.out (by decide)) (fun _ hk => hk.2) (.int .i64 t149)) (fun _ hk => hk.2) (.int .i64 t150)) (fun _ hk => hk.2) (.string t151)) (fun _ hk => hk.2) (.int .i64 t152)) (fun _ hk => hk.2) (.int .i64 t153)) (fun _ hk => hk.2) (.int .i64 t154)) (fun _ hk => hk.2) (.int .i64 t155)) (fun _ hk => hk.2) (.slice Ao42 t156.length co42)) (fun _ hk => hk.2) (.int .i64 t159)) (fun _ hk => hk.2) (.int .u32 t160)) (fun _ hk => trivial)⟩, ⟨by (with_reducible repeat (first | refine blk_drewN ?_ _ | refine blk_drew ?_ | refine blk_alloc ?_ _)); refine blk_far ?_ NB120_121.out _; (with_reducible repeat (first | refine blk_drewN ?_ _ | refine blk_drew ?_ | refine blk_alloc ?_ _)); refine blk_far ?_ NB120_121.out _; (with_reducible repeat (first | refine blk_drewN ?_ _ | refine blk_drew ?_ | refine blk_alloc ?_ _)); refine blk_far ?_ NB120_121.out _; (with_reducible repeat (first | refine blk_drewN ?_ _ | refine blk_drew ?_ | refine blk_alloc ?_ _)); refine blk_far ?_ NB120_121.out _; (with_reducible repeat (first | refine blk_drewN ?_ _ | refine blk_drew ?_ | refine blk_alloc ?_ _)); refine blk_far ?_ NB120_121.out _; (with_reducible repeat (first | refine blk_drewN ?_ _ | refine blk_drew ?_ | refine blk_alloc ?_ _)); refine blk_far ?_ NB120_121.out _; (with_reducible repeat (first | refine blk_drewN ?_ _ | refine blk_drew ?_ | refine blk_alloc ?_ _)); refine blk_far ?_ NB120_121.out _; (with_reducible repeat (first | refine blk_drewN ?_ _ | refine blk_drew ?_ | refine blk_alloc ?_ _)); refine blk_far ?_ NB120_121.out _; (with_reducible repeat (first | refine blk_drewN ?_ _ | refine blk_drew ?_ | refine blk_alloc ?_ _)); refine blk_far ?_ NB120_121.out _; (with_reducible repeat (first | refine blk_drewN ?_ _ | refine blk_drew ?_ | refine blk_alloc ?_ _)); refine blk_far ?_ NB120_121.out _; (with_reducible repeat (first | refine blk_drewN ?_ _ | refine blk_drew ?_ | refine blk_alloc ?_ _)); exact BK120.out⟩, ⟨by (with_reducible repeat (first | refine blk_drewN ?_ _ | refine blk_drew ?_ | refine blk_alloc ?_ _)); refine blk_put (cs := #[.int .i64 t149, .int .i64 t150, .string t151, .int .i64 t152, .int .i64 t153, .int .i64 t154, .int .i64 t155, .slice Ao42 t156.length co42, .int .i64 t159, .int .u32 0]) ?_ 9 _ rfl; (with_reducible repeat (first | refine blk_drewN ?_ _ | refine blk_drew ?_ | refine blk_alloc ?_ _)); refine blk_put (cs := #[.int .i64 t149, .int .i64 t150, .string t151, .int .i64 t152, .int .i64 t153, .int .i64 t154, .int .i64 t155, .slice Ao42 t156.length co42, .int .i64 0, .int .u32 0]) ?_ 8 _ rfl; (with_reducible repeat (first | refine blk_drewN ?_ _ | refine blk_drew ?_ | refine blk_alloc ?_ _)); refine blk_put (cs := #[.int .i64 t149, .int .i64 t150, .string t151, .int .i64 t152, .int .i64 t153, .int .i64 t154, .int .i64 t155, .slice none 0 0, .int .i64 0, .int .u32 0]) ?_ 7 _ rfl; (with_reducible repeat (first | refine blk_drewN ?_ _ | refine blk_drew ?_ | refine blk_alloc ?_ _)); refine blk_put (cs := #[.int .i64 t149, .int .i64 t150, .string t151, .int .i64 t152, .int .i64 t153, .int .i64 t154, .int .i64 0, .slice none 0 0, .int .i64 0, .int .u32 0]) ?_ 6 _ rfl; (with_reducible repeat (first | refine blk_drewN ?_ _ | refine blk_drew ?_ | refine blk_alloc ?_ _)); refine blk_put (cs := #[.int .i64 t149, .int .i64 t150, .string t151, .int .i64 t152, .int .i64 t153, .int .i64 0, .int .i64 0, .slice none 0 0, .int .i64 0, .int .u32 0]) ?_ 5 _ rfl; (with_reducible repeat (first | refine blk_drewN ?_ _ | refine blk_drew ?_ | refine blk_alloc ?_ _)); refine blk_put (cs := #[.int .i64 t149, .int .i64 t150, .string t151, .int .i64 t152, .int .i64 0, .int .i64 0, .int .i64 0, .slice none 0 0, .int .i64 0, .int .u32 0]) ?_ 4 _ rfl; (with_reducible repeat (first | refine blk_drewN ?_ _ | refine blk_drew ?_ | refine blk_alloc ?_ _)); refine blk_put (cs := #[.int .i64 t149, .int .i64 t150, .string t151, .int .i64 0, .int .i64 0, .int .i64 0, .int .i64 0, .slice none 0 0, .int .i64 0, .int .u32 0]) ?_ 3 _ rfl; (with_reducible repeat (first | refine blk_drewN ?_ _ | refine blk_drew ?_ | refine blk_alloc ?_ _)); refine blk_put (cs := #[.int .i64 t149, .int .i64 t150, .string (⟨#[]⟩ : ByteArray), .int .i64 0, .int .i64 0, .int .i64 0, .int .i64 0, .slice none 0 0, .int .i64 0, .int .u32 0]) ?_ 2 _ rfl; (with_reducible repeat (first | refine blk_drewN ?_ _ | refine blk_drew ?_ | refine blk_alloc ?_ _)); refine blk_put (cs := #[.int .i64 t149, .int .i64 0, .string (⟨#[]⟩ : ByteArray), .int .i64 0, .int .i64 0, .int .i64 0, .int .i64 0, .slice none 0 0, .int .i64 0, .int .u32 0]) ?_ 1 _ rfl; (with_reducible repeat (first | refine blk_drewN ?_ _ | refine blk_drew ?_ | refine blk_alloc ?_ _)); refine blk_put (cs := #[.int .i64 0, .int .i64 0, .string (⟨#[]⟩ : ByteArray), .int .i64 0, .int .i64 0, .int .i64 0, .int .i64 0, .slice none 0 0, .int .i64 0, .int .u32 0]) ?_ 0 _ rfl; (with_reducible repeat (first | refine blk_drewN ?_ _ | refine blk_drew ?_ | refine blk_alloc ?_ _)); exact BK121.out⟩, ⟨by repeat (first | (with_reducible first | exact HB.out | apply below_alloc | apply pw_below_drewN | apply below_drew1 | refine below_set ?_ GE120.out | refine below_set ?_ GE121.out) | exact HB.out)⟩⟩
  case rest =>
    clear HC2
    try clear c1
    try clear c2
    try clear p2
    try clear c3
    try clear c4
    try clear c5
    try clear c6
    try clear c6b0
    try clear c7
    try clear c8
    try clear c11
    try clear c11b0
    try clear c14
    try clear c17
    try clear c17b0
    try clear c17b1
    try clear c18
    try clear c20
    try clear c20b0
    try clear c20b1
    try clear c21
    try clear c23
    try clear c23b0
    try clear c23b1
    try clear c24
    try clear c26
    try clear c26b0
    try clear c28
    try clear c29
    try clear c32
    try clear c32b0
    try clear c32b1
    try clear c36
    try clear c40
    try clear hcz10_0
    try clear hcz10_1
    try clear hcz10_2
    try clear hcz10_3
    try clear hcz10_4
    try clear hcz10_5
    try clear hcz10_6
    try clear hcz10_7
    try clear hcz10_8
    try clear hcz10_9
    try clear hcz15_0
    try clear hcz15_1
    try clear hcz15_2
    try clear hcz15_3
    try clear hcz15_4
    try clear hcz15_5
    try clear hcz15_6
    try clear hcz15_7
    try clear hcz15_8
    try clear hcz15_9
    try clear hcz19_0
    try clear hcz19_1
    try clear hcz19_2
    try clear hcz19_3
    try clear hcz19_4
    try clear hcz19_5
    try clear hcz19_6
    try clear hcz19_7
    try clear hcz19_8
    try clear hcz19_9
    try clear hcz22_0
    try clear hcz22_1
    try clear hcz22_2
    try clear hcz22_3
    try clear hcz22_4
    try clear hcz22_5
    try clear hcz22_6
    try clear hcz22_7
    try clear hcz22_8
    try clear hcz22_9
    try clear hcz25_0
    try clear hcz25_1
    try clear hcz25_2
    try clear hcz25_3
    try clear hcz25_4
    try clear hcz25_5
    try clear hcz25_6
    try clear hcz25_7
    try clear hcz25_8
    try clear hcz25_9
    try clear hcz30_0
    try clear hcz30_1
    try clear hcz30_2
    try clear hcz30_3
    try clear hcz30_4
    try clear hcz30_5
    try clear hcz30_6
    try clear hcz30_7
    try clear hcz30_8
    try clear hcz30_9
    try clear hcz37_0
    try clear hcz37_1
    try clear hcz37_2
    try clear hcz37_3
    try clear hcz37_4
    try clear hcz37_5
    try clear hcz37_6
    try clear hcz37_7
    try clear hcz37_8
    try clear hcz37_9
    try clear hcz41_0
    try clear hcz41_1
    try clear hcz41_2
    try clear hcz41_3
    try clear hcz41_4
    try clear hcz41_5
    try clear hcz41_6
    try clear hcz41_7
    try clear hcz41_8
    try clear hcz41_9
    try clear hcz9_0
    try clear hcz9_1
    try clear hcz9_2
    try clear hcz9_3
    try clear hcz9_4
    try clear hcz9_5
    try clear hcz9_6
    try clear hcz9_7
    try clear hcz9_8
    try clear hcz9_9
    try clear hfz10_0
    try clear hfz10_1
    try clear hfz10_2
    try clear hfz10_3
    try clear hfz10_4
    try clear hfz10_5
    try clear hfz10_6
    try clear hfz10_7
    try clear hfz10_8
    try clear hfz10_9
    try clear hfz15_0
    try clear hfz15_1
    try clear hfz15_2
    try clear hfz15_3
    try clear hfz15_4
    try clear hfz15_5
    try clear hfz15_6
    try clear hfz15_7
    try clear hfz15_8
    try clear hfz15_9
    try clear hfz19_0
    try clear hfz19_1
    try clear hfz19_2
    try clear hfz19_3
    try clear hfz19_4
    try clear hfz19_5
    try clear hfz19_6
    try clear hfz19_7
    try clear hfz19_8
    try clear hfz19_9
    try clear hfz22_0
    try clear hfz22_1
    try clear hfz22_2
    try clear hfz22_3
    try clear hfz22_4
    try clear hfz22_5
    try clear hfz22_6
    try clear hfz22_7
    try clear hfz22_8
    try clear hfz22_9
    try clear hfz25_0
    try clear hfz25_1
    try clear hfz25_2
    try clear hfz25_3
    try clear hfz25_4
    try clear hfz25_5
    try clear hfz25_6
    try clear hfz25_7
    try clear hfz25_8
    try clear hfz25_9
    try clear hfz30_0
    try clear hfz30_1
    try clear hfz30_2
    try clear hfz30_3
    try clear hfz30_4
    try clear hfz30_5
    try clear hfz30_6
    try clear hfz30_7
    try clear hfz30_8
    try clear hfz30_9
    try clear hfz37_0
    try clear hfz37_1
    try clear hfz37_2
    try clear hfz37_3
    try clear hfz37_4
    try clear hfz37_5
    try clear hfz37_6
    try clear hfz37_7
    try clear hfz37_8
    try clear hfz37_9
    try clear hfz41_0
    try clear hfz41_1
    try clear hfz41_2
    try clear hfz41_3
    try clear hfz41_4
    try clear hfz41_5
    try clear hfz41_6
    try clear hfz41_7
    try clear hfz41_8
    try clear hfz41_9
    try clear hfz9_0
    try clear hfz9_1
    try clear hfz9_2
    try clear hfz9_3
    try clear hfz9_4
    try clear hfz9_5
    try clear hfz9_6
    try clear hfz9_7
    try clear hfz9_8
    try clear hfz9_9
    try clear p2
    obtain ⟨kq, x121000_1, x121001_1, x121002_1, x121003_1, x121004_1, x121005_1, x121006_1, x121008_1, x121009_1, x122000_1, x122001_1, x122002_1, x122003_1, x122004_1, x122005_1, x122006_1, x122007_1, x122008_1, x122009_1, u122007, HA, HJ1, HO_122007, BK120, BK121, HB⟩ := hcut
    cases kq with
    | zero => exact absurd HA.out (by simp [params_Get.j1])
    | succ kj1 =>
      have H := HA.out
      clear HA
      simp only [params_Get.j1] at H
      by_cases c43 : a0 = 4
      · rw [if_pos c43] at H
        have c43b0 : (a0 == 4) = true := beq_iff_eq.mpr c43
        have c43b1 : (a0 != 4) = false := bne_eq_false_iff_eq.mpr c43
        clear c43
        replace H := Option.bind_eq_some_iff.mp H
        obtain ⟨t161, A440, H⟩ := H
        replace H : (some (a0, 2, x122002_1, x122003_1, x122004_1, 32, x122006_1, t161, wrap64 ((-44) - a0), x122009_1, true)) = some (r1, r2, r3, r4, r5, r6, r7, r8, r9, r10, r11) := H
        have A44 := Aside0.mk A440
        clear A440
        simp only [Option.some.injEq, Prod.mk.injEq] at H
        obtain ⟨rfl, rfl, rfl, rfl, rfl, rfl, rfl, rfl, rfl, rfl, rfl⟩ := H
        go_wp2_with (first | ((with_reducible refine gate_callee (f := 53) rfl ?_); refine goesL_ (some 51) rfl rfl Tryd.func53 (by kernel_rfl) rfl #[.int .i64 3, .int .i64 (wrap64 (a0 + 13))] rfl (by (try simp only [List.map_toArray, List.map_cons, List.map_nil]); first | done | rfl | (simp only [List.length_drop, List.length_take]; rfl)) ?_; (with_reducible refine (params_nist.calls 3 (wrap64 (a0 + 13)) t161 _ A44.out).mono ?_); rintro e w45 ⟨v162, rfl, ho0, hb⟩; refine ⟨_, rfl, ?_⟩; have n0_ := Aside0.mk (Kd.R_elder' (by (with_reducible repeat (first | apply Kd.R_alloc | apply Kd.R_drewN | apply Kd.R_drew)); exact HO_122007.out) (Kd.R_base ho0) hb); have n1_ := Aside0.mk (Kd.R_lower (Kd.R_new' ho0 (Kd.R_lt (by (with_reducible repeat (first | apply Kd.R_alloc | apply Kd.R_drewN | apply Kd.R_drew)); exact HO_122007.out))) (below_size (by repeat (first | (with_reducible first | exact HB.out | apply below_alloc | apply pw_below_drewN | apply below_drew1 | refine below_set ?_ GE120.out | refine below_set ?_ GE121.out) | exact HB.out)))); have n2_ := Aside0.mk (blk_below (g := gb120) (o := .cells #[.int .i64 x121000_1, .int .i64 x121001_1, .string x121002_1, .int .i64 x121003_1, .int .i64 x121004_1, .int .i64 x121005_1, .int .i64 x121006_1, .slice none 0 0, .int .i64 x121008_1, .int .u32 x121009_1] 37 (0, 0)) (by (with_reducible repeat (first | refine blk_drewN ?_ _ | refine blk_drew ?_ | refine blk_alloc ?_ _)); exact BK120.out) hb); have n3_ := Aside0.mk (blk_below (g := gb121) (o := .cells #[.int .i64 x122000_1, .int .i64 x122001_1, .string x122002_1, .int .i64 x122003_1, .int .i64 x122004_1, .int .i64 x122005_1, .int .i64 x122006_1, u122007, .int .i64 x122008_1, .int .u32 x122009_1] 37 (0, 0)) (by (with_reducible repeat (first | refine blk_drewN ?_ _ | refine blk_drew ?_ | refine blk_alloc ?_ _)); exact BK121.out) hb); have n4_ := Aside0.mk (below_step (by repeat (first | (with_reducible first | exact HB.out | apply below_alloc | apply pw_below_drewN | apply below_drew1 | refine below_set ?_ GE120.out | refine below_set ?_ GE121.out) | exact HB.out)) hb); clear HO_122007; clear BK120; clear BK121; clear HB; have HO_122007 := n0_; have HO163 := n1_; have BK120 := n2_; have BK121 := n3_; have HB := n4_; clear n0_ n1_ n2_ n3_ n4_; (try clear hb); (try clear hb2); (try clear hk); (try clear hi); (try clear ho0); have hnb46 := NB121_120.out; have hnc46 := NB120_121.out; have hcz47_0 : w45.cell? ⟨gb121, 0, none⟩ = some (.int .i64 x122000_1) := (blk_cell BK121.out 0).trans rfl; have hcz47_1 : w45.cell? ⟨gb121, 1, none⟩ = some (.int .i64 x122001_1) := (blk_cell BK121.out 1).trans rfl; have hcz47_2 : w45.cell? ⟨gb121, 2, none⟩ = some (.string x122002_1) := (blk_cell BK121.out 2).trans rfl; have hcz47_3 : w45.cell? ⟨gb121, 3, none⟩ = some (.int .i64 x122003_1) := (blk_cell BK121.out 3).trans rfl; have hcz47_4 : w45.cell? ⟨gb121, 4, none⟩ = some (.int .i64 x122004_1) := (blk_cell BK121.out 4).trans rfl; have hcz47_5 : w45.cell? ⟨gb121, 5, none⟩ = some (.int .i64 x122005_1) := (blk_cell BK121.out 5).trans rfl; have hcz47_6 : w45.cell? ⟨gb121, 6, none⟩ = some (.int .i64 x122006_1) := (blk_cell BK121.out 6).trans rfl; have hcz47_7 : w45.cell? ⟨gb121, 7, none⟩ = some (u122007) := (blk_cell BK121.out 7).trans rfl; have hcz47_8 : w45.cell? ⟨gb121, 8, none⟩ = some (.int .i64 x122008_1) := (blk_cell BK121.out 8).trans rfl; have hcz47_9 : w45.cell? ⟨gb121, 9, none⟩ = some (.int .u32 x122009_1) := (blk_cell BK121.out 9).trans rfl; have hfz47_0 := blk_frozen BK121.out 0; have hfz47_1 := blk_frozen BK121.out 1; have hfz47_2 := blk_frozen BK121.out 2; have hfz47_3 := blk_frozen BK121.out 3; have hfz47_4 := blk_frozen BK121.out 4; have hfz47_5 := blk_frozen BK121.out 5; have hfz47_6 := blk_frozen BK121.out 6; have hfz47_7 := blk_frozen BK121.out 7; have hfz47_8 := blk_frozen BK121.out 8; have hfz47_9 := blk_frozen BK121.out 9; obtain ⟨Ao48, co48, eo48⟩ := Kd.R_slice HO163.out; subst eo48; have hcz49_0 : w45.cell? ⟨gb120, 0, none⟩ = some (.int .i64 x121000_1) := (blk_cell BK120.out 0).trans rfl; have hcz49_1 : w45.cell? ⟨gb120, 1, none⟩ = some (.int .i64 x121001_1) := (blk_cell BK120.out 1).trans rfl; have hcz49_2 : w45.cell? ⟨gb120, 2, none⟩ = some (.string x121002_1) := (blk_cell BK120.out 2).trans rfl; have hcz49_3 : w45.cell? ⟨gb120, 3, none⟩ = some (.int .i64 x121003_1) := (blk_cell BK120.out 3).trans rfl; have hcz49_4 : w45.cell? ⟨gb120, 4, none⟩ = some (.int .i64 x121004_1) := (blk_cell BK120.out 4).trans rfl; have hcz49_5 : w45.cell? ⟨gb120, 5, none⟩ = some (.int .i64 x121005_1) := (blk_cell BK120.out 5).trans rfl; have hcz49_6 : w45.cell? ⟨gb120, 6, none⟩ = some (.int .i64 x121006_1) := (blk_cell BK120.out 6).trans rfl; have hcz49_7 : w45.cell? ⟨gb120, 7, none⟩ = some (.slice none 0 0) := (blk_cell BK120.out 7).trans rfl; have hcz49_8 : w45.cell? ⟨gb120, 8, none⟩ = some (.int .i64 x121008_1) := (blk_cell BK120.out 8).trans rfl; have hcz49_9 : w45.cell? ⟨gb120, 9, none⟩ = some (.int .u32 x121009_1) := (blk_cell BK120.out 9).trans rfl; have hfz49_0 := blk_frozen BK120.out 0; have hfz49_1 := blk_frozen BK120.out 1; have hfz49_2 := blk_frozen BK120.out 2; have hfz49_3 := blk_frozen BK120.out 3; have hfz49_4 := blk_frozen BK120.out 4; have hfz49_5 := blk_frozen BK120.out 5; have hfz49_6 := blk_frozen BK120.out 6; have hfz49_7 := blk_frozen BK120.out 7; have hfz49_8 := blk_frozen BK120.out 8; have hfz49_9 := blk_frozen BK120.out 9))
        refine bodyPost_ret (results_ct rfl _ _ gb120 37 #[.int .i64 a0, .int .i64 2, .string x122002_1, .int .i64 x122003_1, .int .i64 x122004_1, .int .i64 32, .int .i64 x122006_1, .slice Ao48 t161.length co48, .int .i64 (wrap64 ((-44) - a0)), .int .u32 x122009_1] (0, 0) _ rfl (by (with_reducible repeat (first | refine blk_drewN ?_ _ | refine blk_drew ?_ | refine blk_alloc ?_ _)); refine blk_put (cs := #[.int .i64 a0, .int .i64 2, .string x122002_1, .int .i64 x122003_1, .int .i64 x122004_1, .int .i64 32, .int .i64 x122006_1, .slice Ao48 t161.length co48, .int .i64 (wrap64 ((-44) - a0)), .int .u32 x121009_1]) ?_ 9 _ rfl; (with_reducible repeat (first | refine blk_drewN ?_ _ | refine blk_drew ?_ | refine blk_alloc ?_ _)); refine blk_put (cs := #[.int .i64 a0, .int .i64 2, .string x122002_1, .int .i64 x122003_1, .int .i64 x122004_1, .int .i64 32, .int .i64 x122006_1, .slice Ao48 t161.length co48, .int .i64 x121008_1, .int .u32 x121009_1]) ?_ 8 _ rfl; (with_reducible repeat (first | refine blk_drewN ?_ _ | refine blk_drew ?_ | refine blk_alloc ?_ _)); refine blk_put (cs := #[.int .i64 a0, .int .i64 2, .string x122002_1, .int .i64 x122003_1, .int .i64 x122004_1, .int .i64 32, .int .i64 x122006_1, .slice none 0 0, .int .i64 x121008_1, .int .u32 x121009_1]) ?_ 7 _ rfl; (with_reducible repeat (first | refine blk_drewN ?_ _ | refine blk_drew ?_ | refine blk_alloc ?_ _)); refine blk_put (cs := #[.int .i64 a0, .int .i64 2, .string x122002_1, .int .i64 x122003_1, .int .i64 x122004_1, .int .i64 32, .int .i64 x121006_1, .slice none 0 0, .int .i64 x121008_1, .int .u32 x121009_1]) ?_ 6 _ rfl; (with_reducible repeat (first | refine blk_drewN ?_ _ | refine blk_drew ?_ | refine blk_alloc ?_ _)); refine blk_put (cs := #[.int .i64 a0, .int .i64 2, .string x122002_1, .int .i64 x122003_1, .int .i64 x122004_1, .int .i64 x121005_1, .int .i64 x121006_1, .slice none 0 0, .int .i64 x121008_1, .int .u32 x121009_1]) ?_ 5 _ rfl; (with_reducible repeat (first | refine blk_drewN ?_ _ | refine blk_drew ?_ | refine blk_alloc ?_ _)); refine blk_put (cs := #[.int .i64 a0, .int .i64 2, .string x122002_1, .int .i64 x122003_1, .int .i64 x121004_1, .int .i64 x121005_1, .int .i64 x121006_1, .slice none 0 0, .int .i64 x121008_1, .int .u32 x121009_1]) ?_ 4 _ rfl; (with_reducible repeat (first | refine blk_drewN ?_ _ | refine blk_drew ?_ | refine blk_alloc ?_ _)); refine blk_put (cs := #[.int .i64 a0, .int .i64 2, .string x122002_1, .int .i64 x121003_1, .int .i64 x121004_1, .int .i64 x121005_1, .int .i64 x121006_1, .slice none 0 0, .int .i64 x121008_1, .int .u32 x121009_1]) ?_ 3 _ rfl; (with_reducible repeat (first | refine blk_drewN ?_ _ | refine blk_drew ?_ | refine blk_alloc ?_ _)); refine blk_put (cs := #[.int .i64 a0, .int .i64 2, .string x121002_1, .int .i64 x121003_1, .int .i64 x121004_1, .int .i64 x121005_1, .int .i64 x121006_1, .slice none 0 0, .int .i64 x121008_1, .int .u32 x121009_1]) ?_ 2 _ rfl; (with_reducible repeat (first | refine blk_drewN ?_ _ | refine blk_drew ?_ | refine blk_alloc ?_ _)); refine blk_put (cs := #[.int .i64 a0, .int .i64 x121001_1, .string x121002_1, .int .i64 x121003_1, .int .i64 x121004_1, .int .i64 x121005_1, .int .i64 x121006_1, .slice none 0 0, .int .i64 x121008_1, .int .u32 x121009_1]) ?_ 1 _ rfl; (with_reducible repeat (first | refine blk_drewN ?_ _ | refine blk_drew ?_ | refine blk_alloc ?_ _)); refine blk_put (cs := #[.int .i64 x121000_1, .int .i64 x121001_1, .string x121002_1, .int .i64 x121003_1, .int .i64 x121004_1, .int .i64 x121005_1, .int .i64 x121006_1, .slice none 0 0, .int .i64 x121008_1, .int .u32 x121009_1]) ?_ 0 _ rfl; (with_reducible repeat (first | refine blk_drewN ?_ _ | refine blk_drew ?_ | refine blk_alloc ?_ _)); refine blk_far ?_ NB120_121.out _; (with_reducible repeat (first | refine blk_drewN ?_ _ | refine blk_drew ?_ | refine blk_alloc ?_ _)); refine blk_far ?_ NB120_121.out _; (with_reducible repeat (first | refine blk_drewN ?_ _ | refine blk_drew ?_ | refine blk_alloc ?_ _)); refine blk_far ?_ NB120_121.out _; (with_reducible repeat (first | refine blk_drewN ?_ _ | refine blk_drew ?_ | refine blk_alloc ?_ _)); refine blk_far ?_ NB120_121.out _; (with_reducible repeat (first | refine blk_drewN ?_ _ | refine blk_drew ?_ | refine blk_alloc ?_ _)); refine blk_far ?_ NB120_121.out _; (with_reducible repeat (first | refine blk_drewN ?_ _ | refine blk_drew ?_ | refine blk_alloc ?_ _)); exact BK120.out) Tryd.underlying37 rfl (by kernel_rfl)) rfl ?_
        exact ⟨_, by first | rfl | (simp [errW_none, errW_some] <;> rfl) | (simp [*, errW_none, errW_some] <;> rfl), by (with_reducible repeat (first | apply Kd.R_alloc | apply Kd.R_drewN | apply Kd.R_drew)); exact Kd.R_mono (Kd.R_far (p := ⟨gb120, 9, none⟩) (Kd.R_far (p := ⟨gb120, 8, none⟩) (Kd.R_far (p := ⟨gb120, 7, none⟩) (Kd.R_far (p := ⟨gb120, 6, none⟩) (Kd.R_far (p := ⟨gb120, 5, none⟩) (Kd.R_far (p := ⟨gb120, 4, none⟩) (Kd.R_far (p := ⟨gb120, 3, none⟩) (Kd.R_far (p := ⟨gb120, 2, none⟩) (Kd.R_far (p := ⟨gb120, 1, none⟩) (Kd.R_far (p := ⟨gb120, 0, none⟩) (Kd.R_far (p := ⟨gb121, 0, none⟩) (Kd.R_far (p := ⟨gb121, 8, none⟩) (Kd.R_far (p := ⟨gb121, 7, none⟩) (Kd.R_far (p := ⟨gb121, 5, none⟩) (Kd.R_far (p := ⟨gb121, 1, none⟩) (Kd.R_types (Kd.R_types HO163.out BK121.out (by decide)) BK120.out (by decide)) (fun _ hk => hk.1.2) (.int .i64 2)) (fun _ hk => hk.1.2) (.int .i64 32)) (fun _ hk => hk.1.2) (.slice Ao48 t161.length co48)) (fun _ hk => hk.1.2) (.int .i64 (wrap64 ((-44) - a0)))) (fun _ hk => hk.1.2) (.int .i64 a0)) (fun _ hk => hk.2) (.int .i64 a0)) (fun _ hk => hk.2) (.int .i64 2)) (fun _ hk => hk.2) (.string x122002_1)) (fun _ hk => hk.2) (.int .i64 x122003_1)) (fun _ hk => hk.2) (.int .i64 x122004_1)) (fun _ hk => hk.2) (.int .i64 32)) (fun _ hk => hk.2) (.int .i64 x122006_1)) (fun _ hk => hk.2) (.slice Ao48 t161.length co48)) (fun _ hk => hk.2) (.int .i64 (wrap64 ((-44) - a0)))) (fun _ hk => hk.2) (.int .u32 x122009_1)) (fun _ hk => trivial), by repeat (first | (with_reducible first | exact HB.out | apply below_alloc | apply pw_below_drewN | apply below_drew1 | refine below_set ?_ GE120.out | refine below_set ?_ GE121.out) | exact HB.out)⟩
      · rw [if_neg c43] at H
        have c43b0 : (a0 == 4) = false := beq_eq_false_iff_ne.mpr c43
        have c43b1 : (a0 != 4) = true := bne_iff_ne.mpr c43
        by_cases c50 : a0 = 5
        · rw [if_pos c50] at H
          have c50b0 : (a0 == 5) = true := beq_iff_eq.mpr c50
          have c50b1 : (a0 != 5) = false := bne_eq_false_iff_eq.mpr c50
          clear c50
          replace H := Option.bind_eq_some_iff.mp H
          obtain ⟨t164, A510, H⟩ := H
          replace H : (some (a0, 2, x122002_1, x122003_1, x122004_1, 32, x122006_1, t164, wrap64 ((-44) - a0), x122009_1, true)) = some (r1, r2, r3, r4, r5, r6, r7, r8, r9, r10, r11) := H
          have A51 := Aside0.mk A510
          clear A510
          simp only [Option.some.injEq, Prod.mk.injEq] at H
          obtain ⟨rfl, rfl, rfl, rfl, rfl, rfl, rfl, rfl, rfl, rfl, rfl⟩ := H
          go_wp2_with (first | ((with_reducible refine gate_callee (f := 53) rfl ?_); refine goesL_ (some 51) rfl rfl Tryd.func53 (by kernel_rfl) rfl #[.int .i64 3, .int .i64 (wrap64 (a0 + 13))] rfl (by (try simp only [List.map_toArray, List.map_cons, List.map_nil]); first | done | rfl | (simp only [List.length_drop, List.length_take]; rfl)) ?_; (with_reducible refine (params_nist.calls 3 (wrap64 (a0 + 13)) t164 _ A51.out).mono ?_); rintro e w52 ⟨v165, rfl, ho0, hb⟩; refine ⟨_, rfl, ?_⟩; have n0_ := Aside0.mk (Kd.R_elder' (by (with_reducible repeat (first | apply Kd.R_alloc | apply Kd.R_drewN | apply Kd.R_drew)); exact HO_122007.out) (Kd.R_base ho0) hb); have n1_ := Aside0.mk (Kd.R_lower (Kd.R_new' ho0 (Kd.R_lt (by (with_reducible repeat (first | apply Kd.R_alloc | apply Kd.R_drewN | apply Kd.R_drew)); exact HO_122007.out))) (below_size (by repeat (first | (with_reducible first | exact HB.out | apply below_alloc | apply pw_below_drewN | apply below_drew1 | refine below_set ?_ GE120.out | refine below_set ?_ GE121.out) | exact HB.out)))); have n2_ := Aside0.mk (blk_below (g := gb120) (o := .cells #[.int .i64 x121000_1, .int .i64 x121001_1, .string x121002_1, .int .i64 x121003_1, .int .i64 x121004_1, .int .i64 x121005_1, .int .i64 x121006_1, .slice none 0 0, .int .i64 x121008_1, .int .u32 x121009_1] 37 (0, 0)) (by (with_reducible repeat (first | refine blk_drewN ?_ _ | refine blk_drew ?_ | refine blk_alloc ?_ _)); exact BK120.out) hb); have n3_ := Aside0.mk (blk_below (g := gb121) (o := .cells #[.int .i64 x122000_1, .int .i64 x122001_1, .string x122002_1, .int .i64 x122003_1, .int .i64 x122004_1, .int .i64 x122005_1, .int .i64 x122006_1, u122007, .int .i64 x122008_1, .int .u32 x122009_1] 37 (0, 0)) (by (with_reducible repeat (first | refine blk_drewN ?_ _ | refine blk_drew ?_ | refine blk_alloc ?_ _)); exact BK121.out) hb); have n4_ := Aside0.mk (below_step (by repeat (first | (with_reducible first | exact HB.out | apply below_alloc | apply pw_below_drewN | apply below_drew1 | refine below_set ?_ GE120.out | refine below_set ?_ GE121.out) | exact HB.out)) hb); clear HO_122007; clear BK120; clear BK121; clear HB; have HO_122007 := n0_; have HO166 := n1_; have BK120 := n2_; have BK121 := n3_; have HB := n4_; clear n0_ n1_ n2_ n3_ n4_; (try clear hb); (try clear hb2); (try clear hk); (try clear hi); (try clear ho0); have hnb53 := NB121_120.out; have hnc53 := NB120_121.out; have hcz54_0 : w52.cell? ⟨gb121, 0, none⟩ = some (.int .i64 x122000_1) := (blk_cell BK121.out 0).trans rfl; have hcz54_1 : w52.cell? ⟨gb121, 1, none⟩ = some (.int .i64 x122001_1) := (blk_cell BK121.out 1).trans rfl; have hcz54_2 : w52.cell? ⟨gb121, 2, none⟩ = some (.string x122002_1) := (blk_cell BK121.out 2).trans rfl; have hcz54_3 : w52.cell? ⟨gb121, 3, none⟩ = some (.int .i64 x122003_1) := (blk_cell BK121.out 3).trans rfl; have hcz54_4 : w52.cell? ⟨gb121, 4, none⟩ = some (.int .i64 x122004_1) := (blk_cell BK121.out 4).trans rfl; have hcz54_5 : w52.cell? ⟨gb121, 5, none⟩ = some (.int .i64 x122005_1) := (blk_cell BK121.out 5).trans rfl; have hcz54_6 : w52.cell? ⟨gb121, 6, none⟩ = some (.int .i64 x122006_1) := (blk_cell BK121.out 6).trans rfl; have hcz54_7 : w52.cell? ⟨gb121, 7, none⟩ = some (u122007) := (blk_cell BK121.out 7).trans rfl; have hcz54_8 : w52.cell? ⟨gb121, 8, none⟩ = some (.int .i64 x122008_1) := (blk_cell BK121.out 8).trans rfl; have hcz54_9 : w52.cell? ⟨gb121, 9, none⟩ = some (.int .u32 x122009_1) := (blk_cell BK121.out 9).trans rfl; have hfz54_0 := blk_frozen BK121.out 0; have hfz54_1 := blk_frozen BK121.out 1; have hfz54_2 := blk_frozen BK121.out 2; have hfz54_3 := blk_frozen BK121.out 3; have hfz54_4 := blk_frozen BK121.out 4; have hfz54_5 := blk_frozen BK121.out 5; have hfz54_6 := blk_frozen BK121.out 6; have hfz54_7 := blk_frozen BK121.out 7; have hfz54_8 := blk_frozen BK121.out 8; have hfz54_9 := blk_frozen BK121.out 9; obtain ⟨Ao55, co55, eo55⟩ := Kd.R_slice HO166.out; subst eo55; have hcz56_0 : w52.cell? ⟨gb120, 0, none⟩ = some (.int .i64 x121000_1) := (blk_cell BK120.out 0).trans rfl; have hcz56_1 : w52.cell? ⟨gb120, 1, none⟩ = some (.int .i64 x121001_1) := (blk_cell BK120.out 1).trans rfl; have hcz56_2 : w52.cell? ⟨gb120, 2, none⟩ = some (.string x121002_1) := (blk_cell BK120.out 2).trans rfl; have hcz56_3 : w52.cell? ⟨gb120, 3, none⟩ = some (.int .i64 x121003_1) := (blk_cell BK120.out 3).trans rfl; have hcz56_4 : w52.cell? ⟨gb120, 4, none⟩ = some (.int .i64 x121004_1) := (blk_cell BK120.out 4).trans rfl; have hcz56_5 : w52.cell? ⟨gb120, 5, none⟩ = some (.int .i64 x121005_1) := (blk_cell BK120.out 5).trans rfl; have hcz56_6 : w52.cell? ⟨gb120, 6, none⟩ = some (.int .i64 x121006_1) := (blk_cell BK120.out 6).trans rfl; have hcz56_7 : w52.cell? ⟨gb120, 7, none⟩ = some (.slice none 0 0) := (blk_cell BK120.out 7).trans rfl; have hcz56_8 : w52.cell? ⟨gb120, 8, none⟩ = some (.int .i64 x121008_1) := (blk_cell BK120.out 8).trans rfl; have hcz56_9 : w52.cell? ⟨gb120, 9, none⟩ = some (.int .u32 x121009_1) := (blk_cell BK120.out 9).trans rfl; have hfz56_0 := blk_frozen BK120.out 0; have hfz56_1 := blk_frozen BK120.out 1; have hfz56_2 := blk_frozen BK120.out 2; have hfz56_3 := blk_frozen BK120.out 3; have hfz56_4 := blk_frozen BK120.out 4; have hfz56_5 := blk_frozen BK120.out 5; have hfz56_6 := blk_frozen BK120.out 6; have hfz56_7 := blk_frozen BK120.out 7; have hfz56_8 := blk_frozen BK120.out 8; have hfz56_9 := blk_frozen BK120.out 9))
          refine bodyPost_ret (results_ct rfl _ _ gb120 37 #[.int .i64 a0, .int .i64 2, .string x122002_1, .int .i64 x122003_1, .int .i64 x122004_1, .int .i64 32, .int .i64 x122006_1, .slice Ao55 t164.length co55, .int .i64 (wrap64 ((-44) - a0)), .int .u32 x122009_1] (0, 0) _ rfl (by (with_reducible repeat (first | refine blk_drewN ?_ _ | refine blk_drew ?_ | refine blk_alloc ?_ _)); refine blk_put (cs := #[.int .i64 a0, .int .i64 2, .string x122002_1, .int .i64 x122003_1, .int .i64 x122004_1, .int .i64 32, .int .i64 x122006_1, .slice Ao55 t164.length co55, .int .i64 (wrap64 ((-44) - a0)), .int .u32 x121009_1]) ?_ 9 _ rfl; (with_reducible repeat (first | refine blk_drewN ?_ _ | refine blk_drew ?_ | refine blk_alloc ?_ _)); refine blk_put (cs := #[.int .i64 a0, .int .i64 2, .string x122002_1, .int .i64 x122003_1, .int .i64 x122004_1, .int .i64 32, .int .i64 x122006_1, .slice Ao55 t164.length co55, .int .i64 x121008_1, .int .u32 x121009_1]) ?_ 8 _ rfl; (with_reducible repeat (first | refine blk_drewN ?_ _ | refine blk_drew ?_ | refine blk_alloc ?_ _)); refine blk_put (cs := #[.int .i64 a0, .int .i64 2, .string x122002_1, .int .i64 x122003_1, .int .i64 x122004_1, .int .i64 32, .int .i64 x122006_1, .slice none 0 0, .int .i64 x121008_1, .int .u32 x121009_1]) ?_ 7 _ rfl; (with_reducible repeat (first | refine blk_drewN ?_ _ | refine blk_drew ?_ | refine blk_alloc ?_ _)); refine blk_put (cs := #[.int .i64 a0, .int .i64 2, .string x122002_1, .int .i64 x122003_1, .int .i64 x122004_1, .int .i64 32, .int .i64 x121006_1, .slice none 0 0, .int .i64 x121008_1, .int .u32 x121009_1]) ?_ 6 _ rfl; (with_reducible repeat (first | refine blk_drewN ?_ _ | refine blk_drew ?_ | refine blk_alloc ?_ _)); refine blk_put (cs := #[.int .i64 a0, .int .i64 2, .string x122002_1, .int .i64 x122003_1, .int .i64 x122004_1, .int .i64 x121005_1, .int .i64 x121006_1, .slice none 0 0, .int .i64 x121008_1, .int .u32 x121009_1]) ?_ 5 _ rfl; (with_reducible repeat (first | refine blk_drewN ?_ _ | refine blk_drew ?_ | refine blk_alloc ?_ _)); refine blk_put (cs := #[.int .i64 a0, .int .i64 2, .string x122002_1, .int .i64 x122003_1, .int .i64 x121004_1, .int .i64 x121005_1, .int .i64 x121006_1, .slice none 0 0, .int .i64 x121008_1, .int .u32 x121009_1]) ?_ 4 _ rfl; (with_reducible repeat (first | refine blk_drewN ?_ _ | refine blk_drew ?_ | refine blk_alloc ?_ _)); refine blk_put (cs := #[.int .i64 a0, .int .i64 2, .string x122002_1, .int .i64 x121003_1, .int .i64 x121004_1, .int .i64 x121005_1, .int .i64 x121006_1, .slice none 0 0, .int .i64 x121008_1, .int .u32 x121009_1]) ?_ 3 _ rfl; (with_reducible repeat (first | refine blk_drewN ?_ _ | refine blk_drew ?_ | refine blk_alloc ?_ _)); refine blk_put (cs := #[.int .i64 a0, .int .i64 2, .string x121002_1, .int .i64 x121003_1, .int .i64 x121004_1, .int .i64 x121005_1, .int .i64 x121006_1, .slice none 0 0, .int .i64 x121008_1, .int .u32 x121009_1]) ?_ 2 _ rfl; (with_reducible repeat (first | refine blk_drewN ?_ _ | refine blk_drew ?_ | refine blk_alloc ?_ _)); refine blk_put (cs := #[.int .i64 a0, .int .i64 x121001_1, .string x121002_1, .int .i64 x121003_1, .int .i64 x121004_1, .int .i64 x121005_1, .int .i64 x121006_1, .slice none 0 0, .int .i64 x121008_1, .int .u32 x121009_1]) ?_ 1 _ rfl; (with_reducible repeat (first | refine blk_drewN ?_ _ | refine blk_drew ?_ | refine blk_alloc ?_ _)); refine blk_put (cs := #[.int .i64 x121000_1, .int .i64 x121001_1, .string x121002_1, .int .i64 x121003_1, .int .i64 x121004_1, .int .i64 x121005_1, .int .i64 x121006_1, .slice none 0 0, .int .i64 x121008_1, .int .u32 x121009_1]) ?_ 0 _ rfl; (with_reducible repeat (first | refine blk_drewN ?_ _ | refine blk_drew ?_ | refine blk_alloc ?_ _)); refine blk_far ?_ NB120_121.out _; (with_reducible repeat (first | refine blk_drewN ?_ _ | refine blk_drew ?_ | refine blk_alloc ?_ _)); refine blk_far ?_ NB120_121.out _; (with_reducible repeat (first | refine blk_drewN ?_ _ | refine blk_drew ?_ | refine blk_alloc ?_ _)); refine blk_far ?_ NB120_121.out _; (with_reducible repeat (first | refine blk_drewN ?_ _ | refine blk_drew ?_ | refine blk_alloc ?_ _)); refine blk_far ?_ NB120_121.out _; (with_reducible repeat (first | refine blk_drewN ?_ _ | refine blk_drew ?_ | refine blk_alloc ?_ _)); refine blk_far ?_ NB120_121.out _; (with_reducible repeat (first | refine blk_drewN ?_ _ | refine blk_drew ?_ | refine blk_alloc ?_ _)); exact BK120.out) Tryd.underlying37 rfl (by kernel_rfl)) rfl ?_
          exact ⟨_, by first | rfl | (simp [errW_none, errW_some] <;> rfl) | (simp [*, errW_none, errW_some] <;> rfl), by (with_reducible repeat (first | apply Kd.R_alloc | apply Kd.R_drewN | apply Kd.R_drew)); exact Kd.R_mono (Kd.R_far (p := ⟨gb120, 9, none⟩) (Kd.R_far (p := ⟨gb120, 8, none⟩) (Kd.R_far (p := ⟨gb120, 7, none⟩) (Kd.R_far (p := ⟨gb120, 6, none⟩) (Kd.R_far (p := ⟨gb120, 5, none⟩) (Kd.R_far (p := ⟨gb120, 4, none⟩) (Kd.R_far (p := ⟨gb120, 3, none⟩) (Kd.R_far (p := ⟨gb120, 2, none⟩) (Kd.R_far (p := ⟨gb120, 1, none⟩) (Kd.R_far (p := ⟨gb120, 0, none⟩) (Kd.R_far (p := ⟨gb121, 0, none⟩) (Kd.R_far (p := ⟨gb121, 8, none⟩) (Kd.R_far (p := ⟨gb121, 7, none⟩) (Kd.R_far (p := ⟨gb121, 5, none⟩) (Kd.R_far (p := ⟨gb121, 1, none⟩) (Kd.R_types (Kd.R_types HO166.out BK121.out (by decide)) BK120.out (by decide)) (fun _ hk => hk.1.2) (.int .i64 2)) (fun _ hk => hk.1.2) (.int .i64 32)) (fun _ hk => hk.1.2) (.slice Ao55 t164.length co55)) (fun _ hk => hk.1.2) (.int .i64 (wrap64 ((-44) - a0)))) (fun _ hk => hk.1.2) (.int .i64 a0)) (fun _ hk => hk.2) (.int .i64 a0)) (fun _ hk => hk.2) (.int .i64 2)) (fun _ hk => hk.2) (.string x122002_1)) (fun _ hk => hk.2) (.int .i64 x122003_1)) (fun _ hk => hk.2) (.int .i64 x122004_1)) (fun _ hk => hk.2) (.int .i64 32)) (fun _ hk => hk.2) (.int .i64 x122006_1)) (fun _ hk => hk.2) (.slice Ao55 t164.length co55)) (fun _ hk => hk.2) (.int .i64 (wrap64 ((-44) - a0)))) (fun _ hk => hk.2) (.int .u32 x122009_1)) (fun _ hk => trivial), by repeat (first | (with_reducible first | exact HB.out | apply below_alloc | apply pw_below_drewN | apply below_drew1 | refine below_set ?_ GE120.out | refine below_set ?_ GE121.out) | exact HB.out)⟩
        · rw [if_neg c50] at H
          have c50b0 : (a0 == 5) = false := beq_eq_false_iff_ne.mpr c50
          have c50b1 : (a0 != 5) = true := bne_iff_ne.mpr c50
          by_cases c57 : a0 = 6
          · rw [if_pos c57] at H
            have c57b0 : (a0 == 6) = true := beq_iff_eq.mpr c57
            have c57b1 : (a0 != 6) = false := bne_eq_false_iff_eq.mpr c57
            clear c57
            replace H := Option.bind_eq_some_iff.mp H
            obtain ⟨t167, A580, H⟩ := H
            replace H : (some (a0, 2, x122002_1, x122003_1, x122004_1, 32, x122006_1, t167, wrap64 ((-44) - a0), x122009_1, true)) = some (r1, r2, r3, r4, r5, r6, r7, r8, r9, r10, r11) := H
            have A58 := Aside0.mk A580
            clear A580
            simp only [Option.some.injEq, Prod.mk.injEq] at H
            obtain ⟨rfl, rfl, rfl, rfl, rfl, rfl, rfl, rfl, rfl, rfl, rfl⟩ := H
            go_wp2_with (first | ((with_reducible refine gate_callee (f := 53) rfl ?_); refine goesL_ (some 51) rfl rfl Tryd.func53 (by kernel_rfl) rfl #[.int .i64 3, .int .i64 (wrap64 (a0 + 13))] rfl (by (try simp only [List.map_toArray, List.map_cons, List.map_nil]); first | done | rfl | (simp only [List.length_drop, List.length_take]; rfl)) ?_; (with_reducible refine (params_nist.calls 3 (wrap64 (a0 + 13)) t167 _ A58.out).mono ?_); rintro e w59 ⟨v168, rfl, ho0, hb⟩; refine ⟨_, rfl, ?_⟩; have n0_ := Aside0.mk (Kd.R_elder' (by (with_reducible repeat (first | apply Kd.R_alloc | apply Kd.R_drewN | apply Kd.R_drew)); exact HO_122007.out) (Kd.R_base ho0) hb); have n1_ := Aside0.mk (Kd.R_lower (Kd.R_new' ho0 (Kd.R_lt (by (with_reducible repeat (first | apply Kd.R_alloc | apply Kd.R_drewN | apply Kd.R_drew)); exact HO_122007.out))) (below_size (by repeat (first | (with_reducible first | exact HB.out | apply below_alloc | apply pw_below_drewN | apply below_drew1 | refine below_set ?_ GE120.out | refine below_set ?_ GE121.out) | exact HB.out)))); have n2_ := Aside0.mk (blk_below (g := gb120) (o := .cells #[.int .i64 x121000_1, .int .i64 x121001_1, .string x121002_1, .int .i64 x121003_1, .int .i64 x121004_1, .int .i64 x121005_1, .int .i64 x121006_1, .slice none 0 0, .int .i64 x121008_1, .int .u32 x121009_1] 37 (0, 0)) (by (with_reducible repeat (first | refine blk_drewN ?_ _ | refine blk_drew ?_ | refine blk_alloc ?_ _)); exact BK120.out) hb); have n3_ := Aside0.mk (blk_below (g := gb121) (o := .cells #[.int .i64 x122000_1, .int .i64 x122001_1, .string x122002_1, .int .i64 x122003_1, .int .i64 x122004_1, .int .i64 x122005_1, .int .i64 x122006_1, u122007, .int .i64 x122008_1, .int .u32 x122009_1] 37 (0, 0)) (by (with_reducible repeat (first | refine blk_drewN ?_ _ | refine blk_drew ?_ | refine blk_alloc ?_ _)); exact BK121.out) hb); have n4_ := Aside0.mk (below_step (by repeat (first | (with_reducible first | exact HB.out | apply below_alloc | apply pw_below_drewN | apply below_drew1 | refine below_set ?_ GE120.out | refine below_set ?_ GE121.out) | exact HB.out)) hb); clear HO_122007; clear BK120; clear BK121; clear HB; have HO_122007 := n0_; have HO169 := n1_; have BK120 := n2_; have BK121 := n3_; have HB := n4_; clear n0_ n1_ n2_ n3_ n4_; (try clear hb); (try clear hb2); (try clear hk); (try clear hi); (try clear ho0); have hnb60 := NB121_120.out; have hnc60 := NB120_121.out; have hcz61_0 : w59.cell? ⟨gb121, 0, none⟩ = some (.int .i64 x122000_1) := (blk_cell BK121.out 0).trans rfl; have hcz61_1 : w59.cell? ⟨gb121, 1, none⟩ = some (.int .i64 x122001_1) := (blk_cell BK121.out 1).trans rfl; have hcz61_2 : w59.cell? ⟨gb121, 2, none⟩ = some (.string x122002_1) := (blk_cell BK121.out 2).trans rfl; have hcz61_3 : w59.cell? ⟨gb121, 3, none⟩ = some (.int .i64 x122003_1) := (blk_cell BK121.out 3).trans rfl; have hcz61_4 : w59.cell? ⟨gb121, 4, none⟩ = some (.int .i64 x122004_1) := (blk_cell BK121.out 4).trans rfl; have hcz61_5 : w59.cell? ⟨gb121, 5, none⟩ = some (.int .i64 x122005_1) := (blk_cell BK121.out 5).trans rfl; have hcz61_6 : w59.cell? ⟨gb121, 6, none⟩ = some (.int .i64 x122006_1) := (blk_cell BK121.out 6).trans rfl; have hcz61_7 : w59.cell? ⟨gb121, 7, none⟩ = some (u122007) := (blk_cell BK121.out 7).trans rfl; have hcz61_8 : w59.cell? ⟨gb121, 8, none⟩ = some (.int .i64 x122008_1) := (blk_cell BK121.out 8).trans rfl; have hcz61_9 : w59.cell? ⟨gb121, 9, none⟩ = some (.int .u32 x122009_1) := (blk_cell BK121.out 9).trans rfl; have hfz61_0 := blk_frozen BK121.out 0; have hfz61_1 := blk_frozen BK121.out 1; have hfz61_2 := blk_frozen BK121.out 2; have hfz61_3 := blk_frozen BK121.out 3; have hfz61_4 := blk_frozen BK121.out 4; have hfz61_5 := blk_frozen BK121.out 5; have hfz61_6 := blk_frozen BK121.out 6; have hfz61_7 := blk_frozen BK121.out 7; have hfz61_8 := blk_frozen BK121.out 8; have hfz61_9 := blk_frozen BK121.out 9; obtain ⟨Ao62, co62, eo62⟩ := Kd.R_slice HO169.out; subst eo62; have hcz63_0 : w59.cell? ⟨gb120, 0, none⟩ = some (.int .i64 x121000_1) := (blk_cell BK120.out 0).trans rfl; have hcz63_1 : w59.cell? ⟨gb120, 1, none⟩ = some (.int .i64 x121001_1) := (blk_cell BK120.out 1).trans rfl; have hcz63_2 : w59.cell? ⟨gb120, 2, none⟩ = some (.string x121002_1) := (blk_cell BK120.out 2).trans rfl; have hcz63_3 : w59.cell? ⟨gb120, 3, none⟩ = some (.int .i64 x121003_1) := (blk_cell BK120.out 3).trans rfl; have hcz63_4 : w59.cell? ⟨gb120, 4, none⟩ = some (.int .i64 x121004_1) := (blk_cell BK120.out 4).trans rfl; have hcz63_5 : w59.cell? ⟨gb120, 5, none⟩ = some (.int .i64 x121005_1) := (blk_cell BK120.out 5).trans rfl; have hcz63_6 : w59.cell? ⟨gb120, 6, none⟩ = some (.int .i64 x121006_1) := (blk_cell BK120.out 6).trans rfl; have hcz63_7 : w59.cell? ⟨gb120, 7, none⟩ = some (.slice none 0 0) := (blk_cell BK120.out 7).trans rfl; have hcz63_8 : w59.cell? ⟨gb120, 8, none⟩ = some (.int .i64 x121008_1) := (blk_cell BK120.out 8).trans rfl; have hcz63_9 : w59.cell? ⟨gb120, 9, none⟩ = some (.int .u32 x121009_1) := (blk_cell BK120.out 9).trans rfl; have hfz63_0 := blk_frozen BK120.out 0; have hfz63_1 := blk_frozen BK120.out 1; have hfz63_2 := blk_frozen BK120.out 2; have hfz63_3 := blk_frozen BK120.out 3; have hfz63_4 := blk_frozen BK120.out 4; have hfz63_5 := blk_frozen BK120.out 5; have hfz63_6 := blk_frozen BK120.out 6; have hfz63_7 := blk_frozen BK120.out 7; have hfz63_8 := blk_frozen BK120.out 8; have hfz63_9 := blk_frozen BK120.out 9))
            refine bodyPost_ret (results_ct rfl _ _ gb120 37 #[.int .i64 a0, .int .i64 2, .string x122002_1, .int .i64 x122003_1, .int .i64 x122004_1, .int .i64 32, .int .i64 x122006_1, .slice Ao62 t167.length co62, .int .i64 (wrap64 ((-44) - a0)), .int .u32 x122009_1] (0, 0) _ rfl (by (with_reducible repeat (first | refine blk_drewN ?_ _ | refine blk_drew ?_ | refine blk_alloc ?_ _)); refine blk_put (cs := #[.int .i64 a0, .int .i64 2, .string x122002_1, .int .i64 x122003_1, .int .i64 x122004_1, .int .i64 32, .int .i64 x122006_1, .slice Ao62 t167.length co62, .int .i64 (wrap64 ((-44) - a0)), .int .u32 x121009_1]) ?_ 9 _ rfl; (with_reducible repeat (first | refine blk_drewN ?_ _ | refine blk_drew ?_ | refine blk_alloc ?_ _)); refine blk_put (cs := #[.int .i64 a0, .int .i64 2, .string x122002_1, .int .i64 x122003_1, .int .i64 x122004_1, .int .i64 32, .int .i64 x122006_1, .slice Ao62 t167.length co62, .int .i64 x121008_1, .int .u32 x121009_1]) ?_ 8 _ rfl; (with_reducible repeat (first | refine blk_drewN ?_ _ | refine blk_drew ?_ | refine blk_alloc ?_ _)); refine blk_put (cs := #[.int .i64 a0, .int .i64 2, .string x122002_1, .int .i64 x122003_1, .int .i64 x122004_1, .int .i64 32, .int .i64 x122006_1, .slice none 0 0, .int .i64 x121008_1, .int .u32 x121009_1]) ?_ 7 _ rfl; (with_reducible repeat (first | refine blk_drewN ?_ _ | refine blk_drew ?_ | refine blk_alloc ?_ _)); refine blk_put (cs := #[.int .i64 a0, .int .i64 2, .string x122002_1, .int .i64 x122003_1, .int .i64 x122004_1, .int .i64 32, .int .i64 x121006_1, .slice none 0 0, .int .i64 x121008_1, .int .u32 x121009_1]) ?_ 6 _ rfl; (with_reducible repeat (first | refine blk_drewN ?_ _ | refine blk_drew ?_ | refine blk_alloc ?_ _)); refine blk_put (cs := #[.int .i64 a0, .int .i64 2, .string x122002_1, .int .i64 x122003_1, .int .i64 x122004_1, .int .i64 x121005_1, .int .i64 x121006_1, .slice none 0 0, .int .i64 x121008_1, .int .u32 x121009_1]) ?_ 5 _ rfl; (with_reducible repeat (first | refine blk_drewN ?_ _ | refine blk_drew ?_ | refine blk_alloc ?_ _)); refine blk_put (cs := #[.int .i64 a0, .int .i64 2, .string x122002_1, .int .i64 x122003_1, .int .i64 x121004_1, .int .i64 x121005_1, .int .i64 x121006_1, .slice none 0 0, .int .i64 x121008_1, .int .u32 x121009_1]) ?_ 4 _ rfl; (with_reducible repeat (first | refine blk_drewN ?_ _ | refine blk_drew ?_ | refine blk_alloc ?_ _)); refine blk_put (cs := #[.int .i64 a0, .int .i64 2, .string x122002_1, .int .i64 x121003_1, .int .i64 x121004_1, .int .i64 x121005_1, .int .i64 x121006_1, .slice none 0 0, .int .i64 x121008_1, .int .u32 x121009_1]) ?_ 3 _ rfl; (with_reducible repeat (first | refine blk_drewN ?_ _ | refine blk_drew ?_ | refine blk_alloc ?_ _)); refine blk_put (cs := #[.int .i64 a0, .int .i64 2, .string x121002_1, .int .i64 x121003_1, .int .i64 x121004_1, .int .i64 x121005_1, .int .i64 x121006_1, .slice none 0 0, .int .i64 x121008_1, .int .u32 x121009_1]) ?_ 2 _ rfl; (with_reducible repeat (first | refine blk_drewN ?_ _ | refine blk_drew ?_ | refine blk_alloc ?_ _)); refine blk_put (cs := #[.int .i64 a0, .int .i64 x121001_1, .string x121002_1, .int .i64 x121003_1, .int .i64 x121004_1, .int .i64 x121005_1, .int .i64 x121006_1, .slice none 0 0, .int .i64 x121008_1, .int .u32 x121009_1]) ?_ 1 _ rfl; (with_reducible repeat (first | refine blk_drewN ?_ _ | refine blk_drew ?_ | refine blk_alloc ?_ _)); refine blk_put (cs := #[.int .i64 x121000_1, .int .i64 x121001_1, .string x121002_1, .int .i64 x121003_1, .int .i64 x121004_1, .int .i64 x121005_1, .int .i64 x121006_1, .slice none 0 0, .int .i64 x121008_1, .int .u32 x121009_1]) ?_ 0 _ rfl; (with_reducible repeat (first | refine blk_drewN ?_ _ | refine blk_drew ?_ | refine blk_alloc ?_ _)); refine blk_far ?_ NB120_121.out _; (with_reducible repeat (first | refine blk_drewN ?_ _ | refine blk_drew ?_ | refine blk_alloc ?_ _)); refine blk_far ?_ NB120_121.out _; (with_reducible repeat (first | refine blk_drewN ?_ _ | refine blk_drew ?_ | refine blk_alloc ?_ _)); refine blk_far ?_ NB120_121.out _; (with_reducible repeat (first | refine blk_drewN ?_ _ | refine blk_drew ?_ | refine blk_alloc ?_ _)); refine blk_far ?_ NB120_121.out _; (with_reducible repeat (first | refine blk_drewN ?_ _ | refine blk_drew ?_ | refine blk_alloc ?_ _)); refine blk_far ?_ NB120_121.out _; (with_reducible repeat (first | refine blk_drewN ?_ _ | refine blk_drew ?_ | refine blk_alloc ?_ _)); exact BK120.out) Tryd.underlying37 rfl (by kernel_rfl)) rfl ?_
            exact ⟨_, by first | rfl | (simp [errW_none, errW_some] <;> rfl) | (simp [*, errW_none, errW_some] <;> rfl), by (with_reducible repeat (first | apply Kd.R_alloc | apply Kd.R_drewN | apply Kd.R_drew)); exact Kd.R_mono (Kd.R_far (p := ⟨gb120, 9, none⟩) (Kd.R_far (p := ⟨gb120, 8, none⟩) (Kd.R_far (p := ⟨gb120, 7, none⟩) (Kd.R_far (p := ⟨gb120, 6, none⟩) (Kd.R_far (p := ⟨gb120, 5, none⟩) (Kd.R_far (p := ⟨gb120, 4, none⟩) (Kd.R_far (p := ⟨gb120, 3, none⟩) (Kd.R_far (p := ⟨gb120, 2, none⟩) (Kd.R_far (p := ⟨gb120, 1, none⟩) (Kd.R_far (p := ⟨gb120, 0, none⟩) (Kd.R_far (p := ⟨gb121, 0, none⟩) (Kd.R_far (p := ⟨gb121, 8, none⟩) (Kd.R_far (p := ⟨gb121, 7, none⟩) (Kd.R_far (p := ⟨gb121, 5, none⟩) (Kd.R_far (p := ⟨gb121, 1, none⟩) (Kd.R_types (Kd.R_types HO169.out BK121.out (by decide)) BK120.out (by decide)) (fun _ hk => hk.1.2) (.int .i64 2)) (fun _ hk => hk.1.2) (.int .i64 32)) (fun _ hk => hk.1.2) (.slice Ao62 t167.length co62)) (fun _ hk => hk.1.2) (.int .i64 (wrap64 ((-44) - a0)))) (fun _ hk => hk.1.2) (.int .i64 a0)) (fun _ hk => hk.2) (.int .i64 a0)) (fun _ hk => hk.2) (.int .i64 2)) (fun _ hk => hk.2) (.string x122002_1)) (fun _ hk => hk.2) (.int .i64 x122003_1)) (fun _ hk => hk.2) (.int .i64 x122004_1)) (fun _ hk => hk.2) (.int .i64 32)) (fun _ hk => hk.2) (.int .i64 x122006_1)) (fun _ hk => hk.2) (.slice Ao62 t167.length co62)) (fun _ hk => hk.2) (.int .i64 (wrap64 ((-44) - a0)))) (fun _ hk => hk.2) (.int .u32 x122009_1)) (fun _ hk => trivial), by repeat (first | (with_reducible first | exact HB.out | apply below_alloc | apply pw_below_drewN | apply below_drew1 | refine below_set ?_ GE120.out | refine below_set ?_ GE121.out) | exact HB.out)⟩
          · rw [if_neg c57] at H
            have c57b0 : (a0 == 6) = false := beq_eq_false_iff_ne.mpr c57
            have c57b1 : (a0 != 6) = true := bne_iff_ne.mpr c57
            simp only [Option.some.injEq, Prod.mk.injEq] at H
            obtain ⟨rfl, rfl, rfl, rfl, rfl, rfl, rfl, rfl, rfl, rfl, rfl⟩ := H
            have hnb64 := NB121_120.out
            have hnc64 := NB120_121.out
            have hcz65_0 : wc.cell? ⟨gb121, 0, none⟩ = some (.int .i64 x122000_1) := (blk_cell BK121.out 0).trans rfl
            have hcz65_1 : wc.cell? ⟨gb121, 1, none⟩ = some (.int .i64 x122001_1) := (blk_cell BK121.out 1).trans rfl
            have hcz65_2 : wc.cell? ⟨gb121, 2, none⟩ = some (.string x122002_1) := (blk_cell BK121.out 2).trans rfl
            have hcz65_3 : wc.cell? ⟨gb121, 3, none⟩ = some (.int .i64 x122003_1) := (blk_cell BK121.out 3).trans rfl
            have hcz65_4 : wc.cell? ⟨gb121, 4, none⟩ = some (.int .i64 x122004_1) := (blk_cell BK121.out 4).trans rfl
            have hcz65_5 : wc.cell? ⟨gb121, 5, none⟩ = some (.int .i64 x122005_1) := (blk_cell BK121.out 5).trans rfl
            have hcz65_6 : wc.cell? ⟨gb121, 6, none⟩ = some (.int .i64 x122006_1) := (blk_cell BK121.out 6).trans rfl
            have hcz65_7 : wc.cell? ⟨gb121, 7, none⟩ = some (u122007) := (blk_cell BK121.out 7).trans rfl
            have hcz65_8 : wc.cell? ⟨gb121, 8, none⟩ = some (.int .i64 x122008_1) := (blk_cell BK121.out 8).trans rfl
            have hcz65_9 : wc.cell? ⟨gb121, 9, none⟩ = some (.int .u32 x122009_1) := (blk_cell BK121.out 9).trans rfl
            have hfz65_0 := blk_frozen BK121.out 0
            have hfz65_1 := blk_frozen BK121.out 1
            have hfz65_2 := blk_frozen BK121.out 2
            have hfz65_3 := blk_frozen BK121.out 3
            have hfz65_4 := blk_frozen BK121.out 4
            have hfz65_5 := blk_frozen BK121.out 5
            have hfz65_6 := blk_frozen BK121.out 6
            have hfz65_7 := blk_frozen BK121.out 7
            have hfz65_8 := blk_frozen BK121.out 8
            have hfz65_9 := blk_frozen BK121.out 9
            have hcz66_0 : wc.cell? ⟨gb120, 0, none⟩ = some (.int .i64 x121000_1) := (blk_cell BK120.out 0).trans rfl
            have hcz66_1 : wc.cell? ⟨gb120, 1, none⟩ = some (.int .i64 x121001_1) := (blk_cell BK120.out 1).trans rfl
            have hcz66_2 : wc.cell? ⟨gb120, 2, none⟩ = some (.string x121002_1) := (blk_cell BK120.out 2).trans rfl
            have hcz66_3 : wc.cell? ⟨gb120, 3, none⟩ = some (.int .i64 x121003_1) := (blk_cell BK120.out 3).trans rfl
            have hcz66_4 : wc.cell? ⟨gb120, 4, none⟩ = some (.int .i64 x121004_1) := (blk_cell BK120.out 4).trans rfl
            have hcz66_5 : wc.cell? ⟨gb120, 5, none⟩ = some (.int .i64 x121005_1) := (blk_cell BK120.out 5).trans rfl
            have hcz66_6 : wc.cell? ⟨gb120, 6, none⟩ = some (.int .i64 x121006_1) := (blk_cell BK120.out 6).trans rfl
            have hcz66_7 : wc.cell? ⟨gb120, 7, none⟩ = some (.slice none 0 0) := (blk_cell BK120.out 7).trans rfl
            have hcz66_8 : wc.cell? ⟨gb120, 8, none⟩ = some (.int .i64 x121008_1) := (blk_cell BK120.out 8).trans rfl
            have hcz66_9 : wc.cell? ⟨gb120, 9, none⟩ = some (.int .u32 x121009_1) := (blk_cell BK120.out 9).trans rfl
            have hfz66_0 := blk_frozen BK120.out 0
            have hfz66_1 := blk_frozen BK120.out 1
            have hfz66_2 := blk_frozen BK120.out 2
            have hfz66_3 := blk_frozen BK120.out 3
            have hfz66_4 := blk_frozen BK120.out 4
            have hfz66_5 := blk_frozen BK120.out 5
            have hfz66_6 := blk_frozen BK120.out 6
            have hfz66_7 := blk_frozen BK120.out 7
            have hfz66_8 := blk_frozen BK120.out 8
            have hfz66_9 := blk_frozen BK120.out 9
            obtain ⟨Ao67, co67, eo67⟩ := Kd.R_slice HO_122007.out
            subst eo67
            go_wp2
            refine bodyPost_ret (results_ct rfl _ _ gb120 37 #[.int .i64 a0, .int .i64 x122001_1, .string x122002_1, .int .i64 x122003_1, .int .i64 x122004_1, .int .i64 x122005_1, .int .i64 x122006_1, .slice Ao67 x122007_1.length co67, .int .i64 x122008_1, .int .u32 x122009_1] (0, 0) _ rfl (by (with_reducible repeat (first | refine blk_drewN ?_ _ | refine blk_drew ?_ | refine blk_alloc ?_ _)); refine blk_put (cs := #[.int .i64 a0, .int .i64 x122001_1, .string x122002_1, .int .i64 x122003_1, .int .i64 x122004_1, .int .i64 x122005_1, .int .i64 x122006_1, .slice Ao67 x122007_1.length co67, .int .i64 x122008_1, .int .u32 x121009_1]) ?_ 9 _ rfl; (with_reducible repeat (first | refine blk_drewN ?_ _ | refine blk_drew ?_ | refine blk_alloc ?_ _)); refine blk_put (cs := #[.int .i64 a0, .int .i64 x122001_1, .string x122002_1, .int .i64 x122003_1, .int .i64 x122004_1, .int .i64 x122005_1, .int .i64 x122006_1, .slice Ao67 x122007_1.length co67, .int .i64 x121008_1, .int .u32 x121009_1]) ?_ 8 _ rfl; (with_reducible repeat (first | refine blk_drewN ?_ _ | refine blk_drew ?_ | refine blk_alloc ?_ _)); refine blk_put (cs := #[.int .i64 a0, .int .i64 x122001_1, .string x122002_1, .int .i64 x122003_1, .int .i64 x122004_1, .int .i64 x122005_1, .int .i64 x122006_1, .slice none 0 0, .int .i64 x121008_1, .int .u32 x121009_1]) ?_ 7 _ rfl; (with_reducible repeat (first | refine blk_drewN ?_ _ | refine blk_drew ?_ | refine blk_alloc ?_ _)); refine blk_put (cs := #[.int .i64 a0, .int .i64 x122001_1, .string x122002_1, .int .i64 x122003_1, .int .i64 x122004_1, .int .i64 x122005_1, .int .i64 x121006_1, .slice none 0 0, .int .i64 x121008_1, .int .u32 x121009_1]) ?_ 6 _ rfl; (with_reducible repeat (first | refine blk_drewN ?_ _ | refine blk_drew ?_ | refine blk_alloc ?_ _)); refine blk_put (cs := #[.int .i64 a0, .int .i64 x122001_1, .string x122002_1, .int .i64 x122003_1, .int .i64 x122004_1, .int .i64 x121005_1, .int .i64 x121006_1, .slice none 0 0, .int .i64 x121008_1, .int .u32 x121009_1]) ?_ 5 _ rfl; (with_reducible repeat (first | refine blk_drewN ?_ _ | refine blk_drew ?_ | refine blk_alloc ?_ _)); refine blk_put (cs := #[.int .i64 a0, .int .i64 x122001_1, .string x122002_1, .int .i64 x122003_1, .int .i64 x121004_1, .int .i64 x121005_1, .int .i64 x121006_1, .slice none 0 0, .int .i64 x121008_1, .int .u32 x121009_1]) ?_ 4 _ rfl; (with_reducible repeat (first | refine blk_drewN ?_ _ | refine blk_drew ?_ | refine blk_alloc ?_ _)); refine blk_put (cs := #[.int .i64 a0, .int .i64 x122001_1, .string x122002_1, .int .i64 x121003_1, .int .i64 x121004_1, .int .i64 x121005_1, .int .i64 x121006_1, .slice none 0 0, .int .i64 x121008_1, .int .u32 x121009_1]) ?_ 3 _ rfl; (with_reducible repeat (first | refine blk_drewN ?_ _ | refine blk_drew ?_ | refine blk_alloc ?_ _)); refine blk_put (cs := #[.int .i64 a0, .int .i64 x122001_1, .string x121002_1, .int .i64 x121003_1, .int .i64 x121004_1, .int .i64 x121005_1, .int .i64 x121006_1, .slice none 0 0, .int .i64 x121008_1, .int .u32 x121009_1]) ?_ 2 _ rfl; (with_reducible repeat (first | refine blk_drewN ?_ _ | refine blk_drew ?_ | refine blk_alloc ?_ _)); refine blk_put (cs := #[.int .i64 a0, .int .i64 x121001_1, .string x121002_1, .int .i64 x121003_1, .int .i64 x121004_1, .int .i64 x121005_1, .int .i64 x121006_1, .slice none 0 0, .int .i64 x121008_1, .int .u32 x121009_1]) ?_ 1 _ rfl; (with_reducible repeat (first | refine blk_drewN ?_ _ | refine blk_drew ?_ | refine blk_alloc ?_ _)); refine blk_put (cs := #[.int .i64 x121000_1, .int .i64 x121001_1, .string x121002_1, .int .i64 x121003_1, .int .i64 x121004_1, .int .i64 x121005_1, .int .i64 x121006_1, .slice none 0 0, .int .i64 x121008_1, .int .u32 x121009_1]) ?_ 0 _ rfl; (with_reducible repeat (first | refine blk_drewN ?_ _ | refine blk_drew ?_ | refine blk_alloc ?_ _)); refine blk_far ?_ NB120_121.out _; (with_reducible repeat (first | refine blk_drewN ?_ _ | refine blk_drew ?_ | refine blk_alloc ?_ _)); exact BK120.out) Tryd.underlying37 rfl (by kernel_rfl)) rfl ?_
            exact ⟨_, by first | rfl | (simp [errW_none, errW_some] <;> rfl) | (simp [*, errW_none, errW_some] <;> rfl), by (with_reducible repeat (first | apply Kd.R_alloc | apply Kd.R_drewN | apply Kd.R_drew)); exact Kd.R_mono (Kd.R_far (p := ⟨gb120, 9, none⟩) (Kd.R_far (p := ⟨gb120, 8, none⟩) (Kd.R_far (p := ⟨gb120, 7, none⟩) (Kd.R_far (p := ⟨gb120, 6, none⟩) (Kd.R_far (p := ⟨gb120, 5, none⟩) (Kd.R_far (p := ⟨gb120, 4, none⟩) (Kd.R_far (p := ⟨gb120, 3, none⟩) (Kd.R_far (p := ⟨gb120, 2, none⟩) (Kd.R_far (p := ⟨gb120, 1, none⟩) (Kd.R_far (p := ⟨gb120, 0, none⟩) (Kd.R_far (p := ⟨gb121, 0, none⟩) (Kd.R_types (Kd.R_types HO_122007.out BK121.out (by decide)) BK120.out (by decide)) (fun _ hk => hk.1.2) (.int .i64 a0)) (fun _ hk => hk.2) (.int .i64 a0)) (fun _ hk => hk.2) (.int .i64 x122001_1)) (fun _ hk => hk.2) (.string x122002_1)) (fun _ hk => hk.2) (.int .i64 x122003_1)) (fun _ hk => hk.2) (.int .i64 x122004_1)) (fun _ hk => hk.2) (.int .i64 x122005_1)) (fun _ hk => hk.2) (.int .i64 x122006_1)) (fun _ hk => hk.2) (.slice Ao67 x122007_1.length co67)) (fun _ hk => hk.2) (.int .i64 x122008_1)) (fun _ hk => hk.2) (.int .u32 x122009_1)) (fun _ hk => trivial), by repeat (first | (with_reducible first | exact HB.out | apply below_alloc | apply pw_below_drewN | apply below_drew1 | refine below_set ?_ GE120.out | refine below_set ?_ GE121.out) | exact HB.out)⟩
def slices_Equal_int_int.l0 : Nat → List Int → List Int → Int → Int → Option (Bool)
  | 0, _, _, _, _ => none
  | k + 1, x0, x1, x12, x13 => if x13 < x12 then (if 0 ≤ x13 then (if x13 < (x0.length : Int) then (if x13 < (x1.length : Int) then (if (rd x0 x13) = (rd x1 x13) then (slices_Equal_int_int.l0 k x0 x1 x12 (wrap64 (x13 + 1))) else (some false)) else (none)) else (none)) else (none)) else (some true)
def slices_Equal_int_int.f (k : Nat) (l0 : List Int) (l1 : List Int) : Option (Bool) := if (l0.length : Int) = (l1.length : Int) then (slices_Equal_int_int.l0 k l0 l1 (l0.length : Int) 0) else (some false)
theorem slices_Equal_int_int.mono_l : ∀ k, (∀ y0 y1 y2 y3, LeO (slices_Equal_int_int.l0 k y0 y1 y2 y3) (slices_Equal_int_int.l0 (k + 1) y0 y1 y2 y3))
  | 0 => fun _ _ _ _ r h => by simp [slices_Equal_int_int.l0] at h
  | k + 1 => by
    have ih0 := slices_Equal_int_int.mono_l k
    · intro y0 y1 y2 y3
      unfold slices_Equal_int_int.l0
      repeat' first
      | (with_reducible exact ih0 _ _ _ _)
      | (with_reducible exact LeO.refl _)
      | (with_reducible exact LeO.none _)
      | (with_reducible refine LeO.ite ?_ ?_)
      | (with_reducible refine LeO.bind ?_ (fun _ => ?_))
      | exact ih0 _ _ _ _
      | exact LeO.none _
      | refine LeO.ite ?_ ?_
      | refine LeO.bind ?_ (fun _ => ?_)
theorem slices_Equal_int_int.mono : ∀ a0 a1 k, LeO (slices_Equal_int_int.f k a0 a1) (slices_Equal_int_int.f (k + 1) a0 a1) := by
  intro a0 a1 k
  have ih0 := slices_Equal_int_int.mono_l k
  unfold slices_Equal_int_int.f
  repeat' first
      | (with_reducible exact ih0 _ _ _ _)
      | (with_reducible exact LeO.refl _)
      | (with_reducible exact LeO.none _)
      | (with_reducible refine LeO.ite ?_ ?_)
      | (with_reducible refine LeO.bind ?_ (fun _ => ?_))
      | exact ih0 _ _ _ _
      | exact LeO.none _
      | refine LeO.ite ?_ ?_
      | refine LeO.bind ?_ (fun _ => ?_)
set_option maxHeartbeats 8000000 in
set_option maxRecDepth 100000 in
theorem slices_Equal_int_int.calls (k : Nat) (A0 : Option Addr) (c0 : Nat) (l0 : List Int) (A1 : Option Addr) (c1 : Nat) (l1 : List Int) (r : Bool) (w : World) (hr0 : Kd.C (Kd.int .i64) w A0 l0.length l0) (hc0 : l0.length ≤ c0) (hr1 : Kd.C (Kd.int .i64) w A1 l1.length l1) (hc1 : l1.length ≤ c1) (h : slices_Equal_int_int.f k l0 l1 = some r) :
    Calls Tryd.prog 32 #[.slice A0 l0.length c0, .slice A1 l1.length c1] w fun e w' => e = .returned (.bool r) ∧ Drawn0 w w' := by
  have HR0 := Aside0.mk hr0
  have HC0 := Aside0.mk hc0
  clear hr0 hc0
  have HR1 := Aside0.mk hr1
  have HC1 := Aside0.mk hc1
  clear hr1 hc1
  have H : (if (l0.length : Int) = (l1.length : Int) then (slices_Equal_int_int.l0 k l0 l1 (l0.length : Int) 0) else (some false)) = some r := h
  clear h
  by_cases c3 : (l0.length : Int) = (l1.length : Int)
  · rw [if_pos c3] at H
    have c3b0 : ((l0.length : Int) == (l1.length : Int)) = true := beq_iff_eq.mpr c3
    have c3b1 : ((l0.length : Int) != (l1.length : Int)) = false := bne_eq_false_iff_eq.mpr c3
    have c3b2 : (l0.length == l1.length) = true := by first | simpa using c3 | (simp at c3 ⊢; omega)
    clear c3
    have H' := Aside0.mk H
    clear H
    go_enter Tryd.func32, Tryd.ntmps32
    go_wp2
    repeat (go_quiet (fail); try go_wp2)
    go_loopg [13] k (fun kq v13 w' => ∃ (x13_1 : Int), v13 = .int .i64 x13_1 ∧ Aside0 (slices_Equal_int_int.l0 kq l0 l1 (l0.length : Int) x13_1 = some r) ∧ Aside0 (kq ≤ k) ∧ Drawn0 w w')
    case atStart => exact ⟨(0), (by first | rfl | (simp; done) | (simp [*]; done)), H', ⟨Nat.le_refl _⟩, by repeat (first | exact Drawn0.refl _ | apply Drawn0.step)⟩
    case round =>
      clear H'
      try clear c1
      try clear p2
      try clear c3
      try clear c3b0
      try clear c3b1
      try clear c3b2
      obtain ⟨x13_1, rfl, HA, HK1, ⟨m1, rfl⟩⟩ := hrel
      cases gk with
      | zero => exact absurd HA.out (by simp [slices_Equal_int_int.l0])
      | succ k1 =>
        have H := HA.out
        clear HA
        simp only [slices_Equal_int_int.l0] at H
        by_cases c4 : x13_1 < (l0.length : Int)
        · rw [if_pos c4] at H
          have c4b0 : decide (x13_1 < (l0.length : Int)) = true := decide_eq_true c4
          clear c4
          by_cases c5 : 0 ≤ x13_1
          · rw [if_pos c5] at H
            have c5b0 : decide (0 ≤ x13_1) = true := decide_eq_true c5
            clear c5
            by_cases c6 : x13_1 < (l0.length : Int)
            · rw [if_pos c6] at H
              have c6b0 : decide (x13_1 < (l0.length : Int)) = true := decide_eq_true c6
              clear c6
              by_cases c7 : x13_1 < (l1.length : Int)
              · rw [if_pos c7] at H
                have c7b0 : decide (x13_1 < (l1.length : Int)) = true := decide_eq_true c7
                clear c7
                by_cases c8 : (rd l0 x13_1) = (rd l1 x13_1)
                · rw [if_pos c8] at H
                  have c8b0 : ((rd l0 x13_1) == (rd l1 x13_1)) = true := beq_iff_eq.mpr c8
                  have c8b1 : ((rd l0 x13_1) != (rd l1 x13_1)) = false := bne_eq_false_iff_eq.mpr c8
                  clear c8
                  have H' := Aside0.mk H
                  clear H
                  have p170 : 0 ≤ (x13_1 : Int) := of_decide_eq_true (by first | (with_reducible assumption) | assumption)
                  have q170 : x13_1 < (l0.length : Int) := of_decide_eq_true (by first | (with_reducible assumption) | assumption)
                  obtain ⟨ad170, e170, hx170_0⟩ := Kd.at_int HR0.out x13_1 p170 q170
                  cases e170
                  replace p170 := eq_true p170
                  replace q170 := eq_true q170
                  have p171 : 0 ≤ (x13_1 : Int) := of_decide_eq_true (by first | (with_reducible assumption) | assumption)
                  have q171 : x13_1 < (l1.length : Int) := of_decide_eq_true (by first | (with_reducible assumption) | assumption)
                  obtain ⟨ad171, e171, hx171_0⟩ := Kd.at_int HR1.out x13_1 p171 q171
                  cases e171
                  replace p171 := eq_true p171
                  replace q171 := eq_true q171
                  go_wp2
                  repeat (go_quiet (fail); try go_wp2)
                  go_roundg k1
                  case measure => have := HK1.out; omega
                  case rel => exact ⟨(wrap64 (x13_1 + 1)), (by first | rfl | (simp; done) | (simp [*]; done)), H', ⟨by have := HK1.out; omega⟩, by repeat (first | exact Drawn0.refl _ | apply Drawn0.step)⟩
                · rw [if_neg c8] at H
                  have c8b0 : ((rd l0 x13_1) == (rd l1 x13_1)) = false := beq_eq_false_iff_ne.mpr c8
                  have c8b1 : ((rd l0 x13_1) != (rd l1 x13_1)) = true := bne_iff_ne.mpr c8
                  obtain rfl := Option.some.inj H
                  have p170 : 0 ≤ (x13_1 : Int) := of_decide_eq_true (by first | (with_reducible assumption) | assumption)
                  have q170 : x13_1 < (l0.length : Int) := of_decide_eq_true (by first | (with_reducible assumption) | assumption)
                  obtain ⟨ad170, e170, hx170_0⟩ := Kd.at_int HR0.out x13_1 p170 q170
                  cases e170
                  replace p170 := eq_true p170
                  replace q170 := eq_true q170
                  have p171 : 0 ≤ (x13_1 : Int) := of_decide_eq_true (by first | (with_reducible assumption) | assumption)
                  have q171 : x13_1 < (l1.length : Int) := of_decide_eq_true (by first | (with_reducible assumption) | assumption)
                  obtain ⟨ad171, e171, hx171_0⟩ := Kd.at_int HR1.out x13_1 p171 q171
                  cases e171
                  replace p171 := eq_true p171
                  replace q171 := eq_true q171
                  go_wp2
                  repeat (go_quiet (fail); try go_wp2)
                  go_ret
                  exact ⟨by first | rfl | (simp; done) | (simp [*]; done), by repeat (first | exact Drawn0.refl _ | apply Drawn0.step)⟩
              · rw [if_neg c7] at H
                exact absurd H (by simp)
            · rw [if_neg c6] at H
              exact absurd H (by simp)
          · rw [if_neg c5] at H
            exact absurd H (by simp)
        · rw [if_neg c4] at H
          have c4b0 : decide (x13_1 < (l0.length : Int)) = false := decide_eq_false c4
          clear c4
          obtain rfl := Option.some.inj H
          go_wp2
          repeat (go_quiet (fail); try go_wp2)
          go_ret
          exact ⟨by first | rfl | (simp; done) | (simp [*]; done), by repeat (first | exact Drawn0.refl _ | apply Drawn0.step)⟩
  · rw [if_neg c3] at H
    have c3b0 : ((l0.length : Int) == (l1.length : Int)) = false := beq_eq_false_iff_ne.mpr c3
    have c3b1 : ((l0.length : Int) != (l1.length : Int)) = true := bne_iff_ne.mpr c3
    have c3b2 : (l0.length == l1.length) = false := by first | simpa using c3 | (simp at c3 ⊢; omega)
    obtain rfl := Option.some.inj H
    go_enter Tryd.func32, Tryd.ntmps32
    go_wp2
    repeat (go_quiet (fail); try go_wp2)
    go_ret
    exact ⟨by first | rfl | (simp; done) | (simp [*]; done), by repeat (first | exact Drawn0.refl _ | apply Drawn0.step)⟩
end Go.Proofs.YtohmnlmeamkmjaaDoor.PParams
