import Derived.Test.YthdjmojpnimhjaaDoorZQ
import Derived.Test.YthdjmojpnimhjaaDoorZPCbgx0
import Derived.Test.YthdjmojpnimhjaaDoorZPCbgx10
import Derived.Test.YthdjmojpnimhjaaDoorZPCbgx11
namespace Go.Proofs.YthdjmojpnimhjaaDoor.PCbg
open Go.RowKit Go.Proofs.YthdjmojpnimhjaaDoorW.PrintWords Go.Proofs.YthdjmojpnimhjaaDoorW.PrintLast Go.Proofs.YthdjmojpnimhjaaDoorW.PrintMore
attribute [local go_sem] max2_int min2_int max_two min_two max_three min_three max_four min_four
set_option linter.unusedVariables false
set_option linter.unusedSimpArgs false
def cbor_Same.f (k : Nat) (a0_0 : Int) (a0_1 : Int) (l0_2 : List Int) (l0_3 : List (S27)) (a1_0 : Int) (a1_1 : Int) (l1_2 : List Int) (l1_3 : List (S27)) : Option (Bool) := (cbor_Item_same.f k a0_0 a0_1 l0_2 l0_3 a1_0 a1_1 l1_2 l1_3).bind fun t123 => (some t123)
theorem cbor_Same.mono : ∀ a0 a1 a2 a3 a4 a5 a6 a7 k, LeO (cbor_Same.f k a0 a1 a2 a3 a4 a5 a6 a7) (cbor_Same.f (k + 1) a0 a1 a2 a3 a4 a5 a6 a7) := by
 intro a0 a1 a2 a3 a4 a5 a6 a7 k
 unfold cbor_Same.f
 repeat' first
   | (with_reducible exact cbor_Item_same.mono _ _ _ _ _ _ _ _ _)
   | (with_reducible exact LeO.refl _)
   | (with_reducible exact LeO.none _)
   | (with_reducible refine LeO.ite ?_ ?_)
   | (with_reducible refine LeO.bind ?_ (fun _ => ?_))
   | exact cbor_Item_same.mono _ _ _ _ _ _ _ _ _
   | exact LeO.none _
   | refine LeO.ite ?_ ?_
   | refine LeO.bind ?_ (fun _ => ?_)
set_option maxHeartbeats 8000000 in
set_option maxRecDepth 100000 in
theorem cbor_Same.calls (k : Nat) (a0_0 : Int) (a0_1 : Int) (A0_2 : Option Addr) (c0_2 : Nat) (l0_2 : List Int) (A0_3 : Option Addr) (c0_3 : Nat) (l0_3 : List (S27)) (a1_0 : Int) (a1_1 : Int) (A1_2 : Option Addr) (c1_2 : Nat) (l1_2 : List Int) (A1_3 : Option Addr) (c1_3 : Nat) (l1_3 : List (S27)) (r : Bool) (w : World) (hr0_2 : Kd.C (Kd.int .u8) w A0_2 l0_2.length l0_2) (hc0_2 : l0_2.length ≤ c0_2) (hr0_3 : Kd.C k27 w A0_3 l0_3.length l0_3) (hc0_3 : l0_3.length ≤ c0_3) (hr1_2 : Kd.C (Kd.int .u8) w A1_2 l1_2.length l1_2) (hc1_2 : l1_2.length ≤ c1_2) (hr1_3 : Kd.C k27 w A1_3 l1_3.length l1_3) (hc1_3 : l1_3.length ≤ c1_3) (h : cbor_Same.f k a0_0 a0_1 l0_2 l0_3 a1_0 a1_1 l1_2 l1_3 = some r) :
  Calls Tryd.prog 49 #[.agg #[.int .i64 a0_0, .int .u64 a0_1, .slice A0_2 l0_2.length c0_2, .slice A0_3 l0_3.length c0_3], .agg #[.int .i64 a1_0, .int .u64 a1_1, .slice A1_2 l1_2.length c1_2, .slice A1_3 l1_3.length c1_3]] w fun e w' => e = .returned (.bool r) ∧ Below w.heap.size w w' := by
 have hu27 := Tryd.underlying27
 have HR0_2 := Aside0.mk hr0_2
 have HC0_2 := Aside0.mk hc0_2
 clear hr0_2 hc0_2
 have HR0_3 := Aside0.mk hr0_3
 have HC0_3 := Aside0.mk hc0_3
 clear hr0_3 hc0_3
 have HR1_2 := Aside0.mk hr1_2
 have HC1_2 := Aside0.mk hc1_2
 clear hr1_2 hc1_2
 have HR1_3 := Aside0.mk hr1_3
 have HC1_3 := Aside0.mk hc1_3
 clear hr1_3 hc1_3
 have HB := Aside0.mk (Below.refl w.heap.size w)
 have H : ((cbor_Item_same.f k a0_0 a0_1 l0_2 l0_3 a1_0 a1_1 l1_2 l1_3).bind fun t123 => (some t123)) = some r := h
 clear h
 replace H := Option.bind_eq_some_iff.mp H
 obtain ⟨t123, A30, H⟩ := H
 replace H : (some t123) = some r := H
 have A3 := Aside0.mk A30
 clear A30
 obtain rfl := Option.some.inj H
 go_enter Tryd.func49, Tryd.ntmps49
 go_wp2_with (first | ((with_reducible refine gate_dst (N := 2) rfl ?_); refine box_event ?hg (N := 2) ?hd (cs := #[.int .i64 a0_0, .int .u64 a0_1, .slice A0_2 l0_2.length c0_2, .slice A0_3 l0_3.length c0_3]) (t := 27) ?hr ?_; (case hd => rfl); (case hg => rfl); (case hr => first | (go_simp; done) | (go_simp; rfl)); intro gb121 hg w4 hbox hb; have n0_ := Aside0.mk (below_step q44_ hb); have n1_ := Aside0.mk (hbox); have n2_ := Aside0.mk ((by rw [hg]; exact (below_size q44_) : w.heap.size ≤ gb121)); have n3_ := Aside0.mk ((by rw [hg]; exact (below_size q44_) : w.heap.size ≤ gb121)); clear HB; have HB := n0_; have BK121 := n1_; have GW121 := n2_; have GE121 := n3_; clear n0_ n1_ n2_ n3_; clear hb hbox hg) | ((with_reducible refine gate_dst (N := 3) rfl ?_); refine box_event ?hg (N := 3) ?hd (cs := #[.int .i64 a1_0, .int .u64 a1_1, .slice A1_2 l1_2.length c1_2, .slice A1_3 l1_3.length c1_3]) (t := 27) ?hr ?_; (case hd => rfl); (case hg => rfl); (case hr => first | (go_simp; done) | (go_simp; rfl)); intro gb122 hg w5 hbox hb; have n0_ := Aside0.mk (blk_below (g := gb121) (o := .cells #[.int .i64 a0_0, .int .u64 a0_1, .slice A0_2 l0_2.length c0_2, .slice A0_3 l0_3.length c0_3] 27 (0, 0)) q45_ hb); have n1_ := Aside0.mk (below_step q35_ hb); have n2_ := Aside0.mk (hbox); have n3_ := Aside0.mk ((by rw [hg]; exact (below_size q35_) : w.heap.size ≤ gb122)); have n4_ := Aside0.mk ((by rw [hg]; exact (below_size q35_) : w.heap.size ≤ gb122)); have n5_ := Aside0.mk ((by rw [hg]; exact Nat.ne_of_lt (blk_lt (g := gb121) (o := .cells #[.int .i64 a0_0, .int .u64 a0_1, .slice A0_2 l0_2.length c0_2, .slice A0_3 l0_3.length c0_3] 27 (0, 0)) q45_) : gb121 ≠ gb122)); have n6_ := Aside0.mk ((by rw [hg]; exact Nat.ne_of_gt (blk_lt (g := gb121) (o := .cells #[.int .i64 a0_0, .int .u64 a0_1, .slice A0_2 l0_2.length c0_2, .slice A0_3 l0_3.length c0_3] 27 (0, 0)) q45_) : gb122 ≠ gb121)); clear BK121; clear HB; have BK121 := n0_; have HB := n1_; have BK122 := n2_; have GW122 := n3_; have GE122 := n4_; have NB121_122 := n5_; have NB122_121 := n6_; clear n0_ n1_ n2_ n3_ n4_ n5_ n6_; clear hb hbox hg; have hnb6 := NB121_122.out; have hnc6 := NB122_121.out; have hcz7_0 : w5.cell? ⟨gb121, 0, none⟩ = some (.int .i64 a0_0) := (blk_cell BK121.out 0).trans rfl; have hcz7_1 : w5.cell? ⟨gb121, 1, none⟩ = some (.int .u64 a0_1) := (blk_cell BK121.out 1).trans rfl; have hcz7_2 : w5.cell? ⟨gb121, 2, none⟩ = some (.slice A0_2 l0_2.length c0_2) := (blk_cell BK121.out 2).trans rfl; have hcz7_3 : w5.cell? ⟨gb121, 3, none⟩ = some (.slice A0_3 l0_3.length c0_3) := (blk_cell BK121.out 3).trans rfl; have hfz7_0 := blk_frozen BK121.out 0; have hfz7_1 := blk_frozen BK121.out 1; have hfz7_2 := blk_frozen BK121.out 2; have hfz7_3 := blk_frozen BK121.out 3; have hcz8_0 : w5.cell? ⟨gb122, 0, none⟩ = some (.int .i64 a1_0) := (blk_cell BK122.out 0).trans rfl; have hcz8_1 : w5.cell? ⟨gb122, 1, none⟩ = some (.int .u64 a1_1) := (blk_cell BK122.out 1).trans rfl; have hcz8_2 : w5.cell? ⟨gb122, 2, none⟩ = some (.slice A1_2 l1_2.length c1_2) := (blk_cell BK122.out 2).trans rfl; have hcz8_3 : w5.cell? ⟨gb122, 3, none⟩ = some (.slice A1_3 l1_3.length c1_3) := (blk_cell BK122.out 3).trans rfl; have hfz8_0 := blk_frozen BK122.out 0; have hfz8_1 := blk_frozen BK122.out 1; have hfz8_2 := blk_frozen BK122.out 2; have hfz8_3 := blk_frozen BK122.out 3) | ((with_reducible refine gate_callee (f := 84) rfl ?_); refine goesL_ (some 7) rfl rfl Tryd.func84 (by kernel_rfl) rfl #[.agg #[.int .i64 a0_0, .int .u64 a0_1, .slice A0_2 l0_2.length c0_2, .slice A0_3 l0_3.length c0_3], .agg #[.int .i64 a1_0, .int .u64 a1_1, .slice A1_2 l1_2.length c1_2, .slice A1_3 l1_3.length c1_3]] rfl q43_ ?_; (with_reducible refine (cbor_Item_same.calls k a0_0 a0_1 _ _ l0_2 _ _ l0_3 a1_0 a1_1 _ _ l1_2 _ _ l1_3 t123 _ ?side1 ?side2 ?side3 ?side4 ?side5 ?side6 ?side7 ?side8 A3.out).mono ?_); (case side1 => repeat (first | exact (Kd.C_below HR0_2.out HB.out) | (with_reducible refine Kd.C_alloc ?_ _) | (with_reducible refine Kd.C_drewN ?_ _) | (with_reducible refine Kd.C_drew ?_))); (case side2 => exact HC0_2.out); (case side3 => repeat (first | exact (Kd.C_below HR0_3.out HB.out) | (with_reducible refine Kd.C_alloc ?_ _) | (with_reducible refine Kd.C_drewN ?_ _) | (with_reducible refine Kd.C_drew ?_))); (case side4 => exact HC0_3.out); (case side5 => repeat (first | exact (Kd.C_below HR1_2.out HB.out) | (with_reducible refine Kd.C_alloc ?_ _) | (with_reducible refine Kd.C_drewN ?_ _) | (with_reducible refine Kd.C_drew ?_))); (case side6 => exact HC1_2.out); (case side7 => repeat (first | exact (Kd.C_below HR1_3.out HB.out) | (with_reducible refine Kd.C_alloc ?_ _) | (with_reducible refine Kd.C_drewN ?_ _) | (with_reducible refine Kd.C_drew ?_))); (case side8 => exact HC1_3.out); rintro e w9 ⟨rfl, hb⟩; refine ⟨_, rfl, ?_⟩; have n0_ := Aside0.mk (blk_below (g := gb121) (o := .cells #[.int .i64 a0_0, .int .u64 a0_1, .slice A0_2 l0_2.length c0_2, .slice A0_3 l0_3.length c0_3] 27 (0, 0)) q45_ hb); have n1_ := Aside0.mk (blk_below (g := gb122) (o := .cells #[.int .i64 a1_0, .int .u64 a1_1, .slice A1_2 l1_2.length c1_2, .slice A1_3 l1_3.length c1_3] 27 (0, 0)) (by (with_reducible repeat (first | refine blk_drewN ?_ _ | refine blk_drew ?_ | refine blk_alloc ?_ _)); exact BK122.out) hb); have n2_ := Aside0.mk (below_step (by repeat (first | (with_reducible first | exact HB.out | apply below_alloc | apply pw_below_drewN | apply below_drew1 | refine below_set ?_ GE121.out | refine below_set ?_ GE122.out) | exact HB.out)) hb); clear BK121; clear BK122; clear HB; have BK121 := n0_; have BK122 := n1_; have HB := n2_; clear n0_ n1_ n2_; (try clear hb); (try clear hb2); (try clear hk); (try clear hi)))
 go_ret
 exact ⟨by first | rfl | (simp [errW_none, errW_some] <;> rfl) | (simp [*, errW_none, errW_some] <;> rfl), by repeat (first | (with_reducible first | exact HB.out | apply below_alloc | apply pw_below_drewN | apply below_drew1 | refine below_set ?_ GE121.out | refine below_set ?_ GE122.out) | exact HB.out)⟩
mutual
def cbor_Get.l0 : Nat → Int → Int → Int → List Int → List (S27) → Int → Int → List Int → List (S27) → Option (Int × Int × List Int × (List (S27)) × Bool)
 | 0, _, _, _, _, _, _, _, _, _ => none
 | k + 1, x7, x125000, x125001, x125002, x125003, x135000, x135001, x135002, x135003 => if x125000 = 5 then (cbor_Get.j1 k x7 (decide ((wrap64 (x7 + 1)) < (x125003.length : Int))) x125000 x125001 x125002 x125003 x135000 x135001 x135002 x135003) else (cbor_Get.j1 k x7 false x125000 x125001 x125002 x125003 x135000 x135001 x135002 x135003)
def cbor_Get.j1 : Nat → Int → Bool → Int → Int → List Int → List (S27) → Int → Int → List Int → List (S27) → Option (Int × Int × List Int × (List (S27)) × Bool)
 | 0, _, _, _, _, _, _, _, _, _, _ => none
 | k + 1, x7, x20, x125000, x125001, x125002, x125003, x135000, x135001, x135002, x135003 => if x20 = true then (if 0 ≤ x7 then (if x7 < (x125003.length : Int) then ((cbor_Same.f k ((rd_T27 x125003 x7).f0) ((rd_T27 x125003 x7).f1) ((rd_T27 x125003 x7).f2) ((rd_T27 x125003 x7).f3) x135000 x135001 x135002 x135003).bind fun t136 => (if t136 = true then (if 0 ≤ (wrap64 (x7 + 1)) then (if (wrap64 (x7 + 1)) < (x125003.length : Int) then (some ((rd_T27 x125003 (wrap64 (x7 + 1))).f0, (rd_T27 x125003 (wrap64 (x7 + 1))).f1, (rd_T27 x125003 (wrap64 (x7 + 1))).f2, (rd_T27 x125003 (wrap64 (x7 + 1))).f3, true)) else (none)) else (none)) else (cbor_Get.l0 k (wrap64 (x7 + 2)) x125000 x125001 x125002 x125003 x135000 x135001 x135002 x135003))) else (none)) else (none)) else (some (0, 0, ([] : List Int), ([] : List (S27)), false))
end
def cbor_Get.f (k : Nat) (a0_0 : Int) (a0_1 : Int) (l0_2 : List Int) (l0_3 : List (S27)) (a1 : Int) : Option (Int × Int × List Int × (List (S27)) × Bool) := (cbor_Int.f a1).bind fun bt126 => (cbor_Get.l0 k 0 a0_0 a0_1 l0_2 l0_3 bt126.1 bt126.2.1 bt126.2.2.1 bt126.2.2.2)
theorem cbor_Get.mono_l : ∀ k, (∀ y0 y1 y2 y3 y4 y5 y6 y7 y8, LeO (cbor_Get.l0 k y0 y1 y2 y3 y4 y5 y6 y7 y8) (cbor_Get.l0 (k + 1) y0 y1 y2 y3 y4 y5 y6 y7 y8)) ∧ (∀ y0 y1 y2 y3 y4 y5 y6 y7 y8 y9, LeO (cbor_Get.j1 k y0 y1 y2 y3 y4 y5 y6 y7 y8 y9) (cbor_Get.j1 (k + 1) y0 y1 y2 y3 y4 y5 y6 y7 y8 y9))
 | 0 => ⟨fun _ _ _ _ _ _ _ _ _ r h => by simp [cbor_Get.l0] at h, fun _ _ _ _ _ _ _ _ _ _ r h => by simp [cbor_Get.j1] at h⟩
 | k + 1 => by
  obtain ⟨ih0, ih1⟩ := cbor_Get.mono_l k
  refine ⟨?_, ?_⟩
  ·intro y0 y1 y2 y3 y4 y5 y6 y7 y8
   unfold cbor_Get.l0
   repeat' first
   | (with_reducible exact ih0 _ _ _ _ _ _ _ _ _)
   | (with_reducible exact ih1 _ _ _ _ _ _ _ _ _ _)
   | (with_reducible exact cbor_Same.mono _ _ _ _ _ _ _ _ _)
   | (with_reducible exact LeO.refl _)
   | (with_reducible exact LeO.none _)
   | (with_reducible refine LeO.ite ?_ ?_)
   | (with_reducible refine LeO.bind ?_ (fun _ => ?_))
   | exact ih0 _ _ _ _ _ _ _ _ _
   | exact ih1 _ _ _ _ _ _ _ _ _ _
   | exact cbor_Same.mono _ _ _ _ _ _ _ _ _
   | exact LeO.none _
   | refine LeO.ite ?_ ?_
   | refine LeO.bind ?_ (fun _ => ?_)
  ·intro y0 y1 y2 y3 y4 y5 y6 y7 y8 y9
   unfold cbor_Get.j1
   repeat' first
   | (with_reducible exact ih0 _ _ _ _ _ _ _ _ _)
   | (with_reducible exact ih1 _ _ _ _ _ _ _ _ _ _)
   | (with_reducible exact cbor_Same.mono _ _ _ _ _ _ _ _ _)
   | (with_reducible exact LeO.refl _)
   | (with_reducible exact LeO.none _)
   | (with_reducible refine LeO.ite ?_ ?_)
   | (with_reducible refine LeO.bind ?_ (fun _ => ?_))
   | exact ih0 _ _ _ _ _ _ _ _ _
   | exact ih1 _ _ _ _ _ _ _ _ _ _
   | exact cbor_Same.mono _ _ _ _ _ _ _ _ _
   | exact LeO.none _
   | refine LeO.ite ?_ ?_
   | refine LeO.bind ?_ (fun _ => ?_)
theorem cbor_Get.mono : ∀ a0 a1 a2 a3 a4 k, LeO (cbor_Get.f k a0 a1 a2 a3 a4) (cbor_Get.f (k + 1) a0 a1 a2 a3 a4) := by
 intro a0 a1 a2 a3 a4 k
 obtain ⟨ih0, ih1⟩ := cbor_Get.mono_l k
 unfold cbor_Get.f
 repeat' first
   | (with_reducible exact ih0 _ _ _ _ _ _ _ _ _)
   | (with_reducible exact ih1 _ _ _ _ _ _ _ _ _ _)
   | (with_reducible exact cbor_Same.mono _ _ _ _ _ _ _ _ _)
   | (with_reducible exact LeO.refl _)
   | (with_reducible exact LeO.none _)
   | (with_reducible refine LeO.ite ?_ ?_)
   | (with_reducible refine LeO.bind ?_ (fun _ => ?_))
   | exact ih0 _ _ _ _ _ _ _ _ _
   | exact ih1 _ _ _ _ _ _ _ _ _ _
   | exact cbor_Same.mono _ _ _ _ _ _ _ _ _
   | exact LeO.none _
   | refine LeO.ite ?_ ?_
   | refine LeO.bind ?_ (fun _ => ?_)
set_option maxHeartbeats 8000000 in
set_option maxRecDepth 100000 in
theorem cbor_Get.calls (k : Nat) (a0_0 : Int) (a0_1 : Int) (A0_2 : Option Addr) (c0_2 : Nat) (l0_2 : List Int) (P0_3_ : Nat → Prop) (A0_3 : Option Addr) (c0_3 : Nat) (l0_3 : List (S27)) (a1 : Int) (r1 : Int) (r2 : Int) (r3 : List Int) (r4 : List (S27)) (r5 : Bool) (w : World) (hr0_2 : Kd.C (Kd.int .u8) w A0_2 l0_2.length l0_2) (hc0_2 : l0_2.length ≤ c0_2) (hs0_3 : Kd.V k27 27 w w.heap.size (fun k_ => P0_3_ k_) (.slice A0_3 l0_3.length c0_3) l0_3) (h : cbor_Get.f k a0_0 a0_1 l0_2 l0_3 a1 = some (r1, r2, r3, r4, r5)) :
  Calls Tryd.prog 30 #[.agg #[.int .i64 a0_0, .int .u64 a0_1, .slice A0_2 l0_2.length c0_2, .slice A0_3 l0_3.length c0_3], .int .i64 a1] w fun e w' => ∃ v2_ v3_ : Value, e = .returned (.tuple #[.agg #[.int .i64 r1, .int .u64 r2, v2_, v3_], .bool r5]) ∧ Kd.V (Kd.int .u8) 5 w' w.heap.size (fun k_ => (P0_3_ k_ ∨ w.heap.size ≤ k_)) v2_ r3 ∧ Kd.V k27 27 w' w.heap.size (fun k_ => (P0_3_ k_ ∨ w.heap.size ≤ k_)) v3_ r4 ∧ Below w.heap.size w w' := by
 have hu27 := Tryd.underlying27
 have HR0_2 := Aside0.mk hr0_2
 have HC0_2 := Aside0.mk hc0_2
 clear hr0_2 hc0_2
 have HO0_3 := Aside0.mk (show Kd.V k27 27 w w.heap.size (fun k_ => (P0_3_ k_ ∨ w.heap.size ≤ k_)) (.slice A0_3 l0_3.length c0_3) l0_3 from Kd.V_mono hs0_3 (fun k_ hk => .inl hk))
 have HB := Aside0.mk (Below.refl w.heap.size w)
 have H : ((cbor_Int.f a1).bind fun bt126 => (cbor_Get.l0 k 0 a0_0 a0_1 l0_2 l0_3 bt126.1 bt126.2.1 bt126.2.2.1 bt126.2.2.2)) = some (r1, r2, r3, r4, r5) := h
 clear h
 replace H := Option.bind_eq_some_iff.mp H
 obtain ⟨⟨t126, t127, t128, t131⟩, A30, H⟩ := H
 replace H : (cbor_Get.l0 k 0 a0_0 a0_1 l0_2 l0_3 t126 t127 t128 t131) = some (r1, r2, r3, r4, r5) := H
 have A3 := Aside0.mk A30
 clear A30
 have H' := Aside0.mk H
 clear H
 go_enter Tryd.func30, Tryd.ntmps30
 go_wp2_with (first | ((with_reducible refine gate_dst (N := 2) rfl ?_); (try (refine gate_guard (by rfl) ?_; dsimp only)); refine box_event ?hg (N := 2) ?hd (cs := #[.int .i64 a0_0, .int .u64 a0_1, .slice A0_2 l0_2.length c0_2, .slice A0_3 l0_3.length c0_3]) (t := 27) ?hr ?_; (case hd => rfl); (case hg => rfl); (case hr => first | (go_simp; done) | (go_simp; rfl)); intro gb124 hg w4 hbox hb; have n0_ := Aside0.mk (Kd.V_below (Kd.V_elderB q69_ gb124 (Nat.le_of_eq hg.symm)) hb); have n1_ := Aside0.mk (below_step q44_ hb); have n2_ := Aside0.mk (hbox); have n3_ := Aside0.mk ((by rw [hg]; exact (below_size q44_) : w.heap.size ≤ gb124)); have n4_ := Aside0.mk ((by rw [hg]; exact (below_size q44_) : w.heap.size ≤ gb124)); clear HO0_3; clear HB; have HO0_3 := n0_; have HB := n1_; have BK124 := n2_; have GW124 := n3_; have GE124 := n4_; clear n0_ n1_ n2_ n3_ n4_; clear hb hbox hg) | ((with_reducible refine gate_dst (N := 4) rfl ?_); (try (refine gate_guard (by rfl) ?_; dsimp only)); refine box_event ?hg (N := 4) ?hd (cs := #[.int .i64 0, .int .u64 0, .slice none 0 0, .slice none 0 0]) (t := 27) ?hr ?_; (case hd => rfl); (case hg => rfl); (case hr => first | (go_simp; done) | (go_simp; rfl)); intro gb125 hg w5 hbox hb; have n0_ := Aside0.mk (Kd.V_below (Kd.V_elderB q69_ gb125 (Nat.le_of_eq hg.symm)) hb); have n1_ := Aside0.mk (blk_below (g := gb124) (o := .cells #[.int .i64 a0_0, .int .u64 a0_1, .slice A0_2 l0_2.length c0_2, .slice A0_3 l0_3.length c0_3] 27 (0, 0)) q46_ hb); have n2_ := Aside0.mk (below_step q36_ hb); have n3_ := Aside0.mk (hbox); have n4_ := Aside0.mk ((by rw [hg]; exact (below_size q36_) : w.heap.size ≤ gb125)); have n5_ := Aside0.mk ((by rw [hg]; exact (below_size q36_) : w.heap.size ≤ gb125)); have n6_ := Aside0.mk ((by rw [hg]; exact Nat.ne_of_lt (blk_lt (g := gb124) (o := .cells #[.int .i64 a0_0, .int .u64 a0_1, .slice A0_2 l0_2.length c0_2, .slice A0_3 l0_3.length c0_3] 27 (0, 0)) q46_) : gb124 ≠ gb125)); have n7_ := Aside0.mk ((by rw [hg]; exact Nat.ne_of_gt (blk_lt (g := gb124) (o := .cells #[.int .i64 a0_0, .int .u64 a0_1, .slice A0_2 l0_2.length c0_2, .slice A0_3 l0_3.length c0_3] 27 (0, 0)) q46_) : gb125 ≠ gb124)); clear HO0_3; clear BK124; clear HB; have HO0_3 := n0_; have BK124 := n1_; have HB := n2_; have BK125 := n3_; have GW125 := n4_; have GE125 := n5_; have NB124_125 := n6_; have NB125_124 := n7_; clear n0_ n1_ n2_ n3_ n4_ n5_ n6_ n7_; clear hb hbox hg) | ((with_reducible refine gate_callee (f := 27) rfl ?_); refine goesL_ (some 9) rfl rfl Tryd.func27 (by kernel_rfl) rfl #[.int .i64 a1] rfl q43_ ?_; (with_reducible refine (cbor_Int.calls a1 t126 t127 t128 t131 _ A3.out).mono ?_); rintro e w6 ⟨v129, v132, rfl, ho0, ho1, hb⟩; refine ⟨_, rfl, ?_⟩; have n0_ := Aside0.mk (Kd.V_mono (Kd.V_told (Kd.V_told (Kd.V_old q69_ hb) (Kd.R_base ho0)) (Kd.R_base ho1)) (fun _ h_ => h_.1)); have n1_ := Aside0.mk (Kd.R_lower (Kd.R_newM (M := fun k_ => (w.heap.size ≤ k_)) ho0 (below_size q25_) (fun k_ h_ => h_)) (below_size q25_)); have n2_ := Aside0.mk (Kd.R_lower (Kd.R_newB (Kd.R_newB (Kd.R_newM (M := fun k_ => (w.heap.size ≤ k_)) ho1 (below_size q25_) (fun k_ h_ => h_)) (g := gb124) (o := .cells #[.int .i64 a0_0, .int .u64 a0_1, .slice A0_2 l0_2.length c0_2, .slice A0_3 l0_3.length c0_3] 27 (0, 0)) q46_) (g := gb125) (o := .cells #[.int .i64 0, .int .u64 0, .slice none 0 0, .slice none 0 0] 27 (0, 0)) q47_) (below_size q25_)); have n3_ := Aside0.mk (blk_below (g := gb124) (o := .cells #[.int .i64 a0_0, .int .u64 a0_1, .slice A0_2 l0_2.length c0_2, .slice A0_3 l0_3.length c0_3] 27 (0, 0)) q46_ hb); have n4_ := Aside0.mk (blk_below (g := gb125) (o := .cells #[.int .i64 0, .int .u64 0, .slice none 0 0, .slice none 0 0] 27 (0, 0)) q47_ hb); have n5_ := Aside0.mk (below_step q25_ hb); clear HO0_3; clear BK124; clear BK125; clear HB; have HO0_3 := n0_; have HO130 := n1_; have HO133 := n2_; have BK124 := n3_; have BK125 := n4_; have HB := n5_; clear n0_ n1_ n2_ n3_ n4_ n5_; (try clear hb); (try clear hb2); (try clear hk); (try clear hi); (try clear ho0); (try clear ho1)) | ((with_reducible refine gate_dst (N := 6) rfl ?_); (try (refine gate_guard (by rfl) ?_; dsimp only)); refine box_event ?hg (N := 6) ?hd (cs := #[.int .i64 0, .int .u64 0, .slice none 0 0, .slice none 0 0]) (t := 27) ?hr ?_; (case hd => rfl); (case hg => rfl); (case hr => first | (go_simp; done) | (go_simp; rfl)); intro gb134 hg w7 hbox hb; have n0_ := Aside0.mk (Kd.V_below (Kd.V_elderB q69_ gb134 (Nat.le_of_eq hg.symm)) hb); have n1_ := Aside0.mk (Kd.R_below (by (with_reducible repeat (first | apply Kd.R_alloc | apply Kd.R_drewN | apply Kd.R_drew)); exact HO130.out) hb); have n2_ := Aside0.mk (Kd.R_below (Kd.R_elderB (by (with_reducible repeat (first | apply Kd.R_alloc | apply Kd.R_drewN | apply Kd.R_drew)); exact HO133.out) gb134 (Nat.le_of_eq hg.symm)) hb); have n3_ := Aside0.mk (blk_below (g := gb124) (o := .cells #[.int .i64 a0_0, .int .u64 a0_1, .slice A0_2 l0_2.length c0_2, .slice A0_3 l0_3.length c0_3] 27 (0, 0)) q46_ hb); have n4_ := Aside0.mk (blk_below (g := gb125) (o := .cells #[.int .i64 0, .int .u64 0, .slice none 0 0, .slice none 0 0] 27 (0, 0)) q47_ hb); have n5_ := Aside0.mk (below_step q25_ hb); have n6_ := Aside0.mk (hbox); have n7_ := Aside0.mk ((by rw [hg]; exact (below_size q25_) : w.heap.size ≤ gb134)); have n8_ := Aside0.mk ((by rw [hg]; exact (below_size q25_) : w.heap.size ≤ gb134)); have n9_ := Aside0.mk ((by rw [hg]; exact Nat.ne_of_lt (blk_lt (g := gb124) (o := .cells #[.int .i64 a0_0, .int .u64 a0_1, .slice A0_2 l0_2.length c0_2, .slice A0_3 l0_3.length c0_3] 27 (0, 0)) q46_) : gb124 ≠ gb134)); have n10_ := Aside0.mk ((by rw [hg]; exact Nat.ne_of_gt (blk_lt (g := gb124) (o := .cells #[.int .i64 a0_0, .int .u64 a0_1, .slice A0_2 l0_2.length c0_2, .slice A0_3 l0_3.length c0_3] 27 (0, 0)) q46_) : gb134 ≠ gb124)); have n11_ := Aside0.mk ((by rw [hg]; exact Nat.ne_of_lt (blk_lt (g := gb125) (o := .cells #[.int .i64 0, .int .u64 0, .slice none 0 0, .slice none 0 0] 27 (0, 0)) q47_) : gb125 ≠ gb134)); have n12_ := Aside0.mk ((by rw [hg]; exact Nat.ne_of_gt (blk_lt (g := gb125) (o := .cells #[.int .i64 0, .int .u64 0, .slice none 0 0, .slice none 0 0] 27 (0, 0)) q47_) : gb134 ≠ gb125)); clear HO0_3; clear HO130; clear HO133; clear BK124; clear BK125; clear HB; have HO0_3 := n0_; have HO130 := n1_; have HO133 := n2_; have BK124 := n3_; have BK125 := n4_; have HB := n5_; have BK134 := n6_; have GW134 := n7_; have GE134 := n8_; have NB124_134 := n9_; have NB134_124 := n10_; have NB125_134 := n11_; have NB134_125 := n12_; clear n0_ n1_ n2_ n3_ n4_ n5_ n6_ n7_ n8_ n9_ n10_ n11_ n12_; clear hb hbox hg; have hnb8 := NB134_124.out; have hnc8 := NB124_134.out; have hnb9 := NB134_125.out; have hnc9 := NB125_134.out; have hcz10_0 : w7.cell? ⟨gb134, 0, none⟩ = some (.int .i64 0) := (blk_cell BK134.out 0).trans rfl; have hcz10_1 : w7.cell? ⟨gb134, 1, none⟩ = some (.int .u64 0) := (blk_cell BK134.out 1).trans rfl; have hcz10_2 : w7.cell? ⟨gb134, 2, none⟩ = some (.slice none 0 0) := (blk_cell BK134.out 2).trans rfl; have hcz10_3 : w7.cell? ⟨gb134, 3, none⟩ = some (.slice none 0 0) := (blk_cell BK134.out 3).trans rfl; have hfz10_0 := blk_frozen BK134.out 0; have hfz10_1 := blk_frozen BK134.out 1; have hfz10_2 := blk_frozen BK134.out 2; have hfz10_3 := blk_frozen BK134.out 3; obtain ⟨Ao11, co11, eo11⟩ := Kd.R_slice HO130.out; subst eo11; obtain ⟨Ao12, co12, eo12⟩ := Kd.R_slice HO133.out; subst eo12))
 go_loopg [7] k (fun kq v7 w' => ∃ (x7_1 : Int) (x126000_1 : Int) (x126001_1 : Int), v7 = .int .i64 x7_1 ∧ Aside0 (cbor_Get.l0 kq x7_1 a0_0 a0_1 l0_2 l0_3 t126 t127 t128 t131 = some (r1, r2, r3, r4, r5)) ∧ Aside0 (kq ≤ k) ∧ Aside0 (Kd.V k27 27 w' w.heap.size (fun k_ => (P0_3_ k_ ∨ w.heap.size ≤ k_) ∧ some k_ ≠ ((.slice Ao11 t128.length co11) : Value).ownBlock ∧ some k_ ≠ ((.slice Ao12 t131.length co12) : Value).ownBlock ∧ k_ ≠ gb124 ∧ k_ ≠ gb125 ∧ k_ ≠ gb134) (.slice A0_3 l0_3.length c0_3) l0_3) ∧ Aside0 (Kd.R (Kd.int .u8) 5 w' w.heap.size (fun k_ => (w.heap.size ≤ k_)) (.slice Ao11 t128.length co11) t128) ∧ Aside0 (Kd.R k27 27 w' w.heap.size (fun k_ => (w.heap.size ≤ k_) ∧ some k_ ≠ ((.slice Ao11 t128.length co11) : Value).ownBlock ∧ k_ ≠ gb124 ∧ k_ ≠ gb125 ∧ k_ ≠ gb134) (.slice Ao12 t131.length co12) t131) ∧ Aside0 (w'.heap[gb124]? = some (.cells #[.int .i64 a0_0, .int .u64 a0_1, (.slice A0_2 l0_2.length c0_2), (.slice A0_3 l0_3.length c0_3)] 27 (0, 0))) ∧ Aside0 (w'.heap[gb125]? = some (.cells #[.int .i64 x126000_1, .int .u64 x126001_1, (.slice none 0 0), (.slice none 0 0)] 27 (0, 0))) ∧ Aside0 (w'.heap[gb134]? = some (.cells #[.int .i64 t126, .int .u64 t127, (.slice Ao11 t128.length co11), (.slice Ao12 t131.length co12)] 27 (0, 0))) ∧ Aside0 (Below w.heap.size w w'))
 case atStart => exact ⟨(0), (0), (0), q97_, H', ⟨Nat.le_refl _⟩, ⟨by (with_reducible repeat (first | apply Kd.V_alloc | apply Kd.V_drewN | apply Kd.V_drew)); exact Kd.V_mono (Kd.V_far (p := ⟨gb134, 3, none⟩) (Kd.V_far (p := ⟨gb134, 2, none⟩) (Kd.V_far (p := ⟨gb134, 1, none⟩) (Kd.V_far (p := ⟨gb134, 0, none⟩) (Kd.V_mono HO0_3.out (fun k_ hk => (⟨hk, hk.2⟩ : _ ∧ k_ ≠ gb134))) (fun _ hk => hk.2) (.int .i64 t126)) (fun _ hk => hk.2) (.int .u64 t127)) (fun _ hk => hk.2) (.slice Ao11 t128.length co11)) (fun _ hk => hk.2) (.slice Ao12 t131.length co12)) (fun _ hk => ⟨hk.1.1.1.1.1.1, ⟨hk.1.1.1.2, ⟨hk.1.1.2, ⟨hk.1.1.1.1.1.2, ⟨hk.1.1.1.1.2, hk.1.2⟩⟩⟩⟩⟩)⟩, ⟨by (with_reducible repeat (first | apply Kd.R_alloc | apply Kd.R_drewN | apply Kd.R_drew)); exact Kd.R_mono (Kd.R_far (p := ⟨gb134, 3, none⟩) (Kd.R_far (p := ⟨gb134, 2, none⟩) (Kd.R_far (p := ⟨gb134, 1, none⟩) (Kd.R_far (p := ⟨gb134, 0, none⟩) (Kd.R_types HO130.out BK134.out (by decide)) (fun _ hk => hk.2) (.int .i64 t126)) (fun _ hk => hk.2) (.int .u64 t127)) (fun _ hk => hk.2) (.slice Ao11 t128.length co11)) (fun _ hk => hk.2) (.slice Ao12 t131.length co12)) (fun _ hk => hk.1.1)⟩, ⟨by (with_reducible repeat (first | apply Kd.R_alloc | apply Kd.R_drewN | apply Kd.R_drew)); exact Kd.R_mono (Kd.R_far (p := ⟨gb134, 3, none⟩) (Kd.R_far (p := ⟨gb134, 2, none⟩) (Kd.R_far (p := ⟨gb134, 1, none⟩) (Kd.R_far (p := ⟨gb134, 0, none⟩) (Kd.R_mono HO133.out (fun k_ hk => (⟨hk, hk.2⟩ : _ ∧ k_ ≠ gb134))) (fun _ hk => hk.2) (.int .i64 t126)) (fun _ hk => hk.2) (.int .u64 t127)) (fun _ hk => hk.2) (.slice Ao11 t128.length co11)) (fun _ hk => hk.2) (.slice Ao12 t131.length co12)) (fun _ hk => ⟨hk.1.1.1.1.1, ⟨hk.1.1.1.1.2, ⟨hk.1.1.1.2, ⟨hk.1.1.2, hk.1.2⟩⟩⟩⟩)⟩, ⟨by (with_reducible repeat (first | refine blk_drewN ?_ _ | refine blk_drew ?_ | refine blk_alloc ?_ _)); refine blk_far ?_ NB124_134.out _; (with_reducible repeat (first | refine blk_drewN ?_ _ | refine blk_drew ?_ | refine blk_alloc ?_ _)); refine blk_far ?_ NB124_134.out _; (with_reducible repeat (first | refine blk_drewN ?_ _ | refine blk_drew ?_ | refine blk_alloc ?_ _)); refine blk_far ?_ NB124_134.out _; (with_reducible repeat (first | refine blk_drewN ?_ _ | refine blk_drew ?_ | refine blk_alloc ?_ _)); refine blk_far ?_ NB124_134.out _; (with_reducible repeat (first | refine blk_drewN ?_ _ | refine blk_drew ?_ | refine blk_alloc ?_ _)); exact BK124.out⟩, ⟨by (with_reducible repeat (first | refine blk_drewN ?_ _ | refine blk_drew ?_ | refine blk_alloc ?_ _)); refine blk_far ?_ NB125_134.out _; (with_reducible repeat (first | refine blk_drewN ?_ _ | refine blk_drew ?_ | refine blk_alloc ?_ _)); refine blk_far ?_ NB125_134.out _; (with_reducible repeat (first | refine blk_drewN ?_ _ | refine blk_drew ?_ | refine blk_alloc ?_ _)); refine blk_far ?_ NB125_134.out _; (with_reducible repeat (first | refine blk_drewN ?_ _ | refine blk_drew ?_ | refine blk_alloc ?_ _)); refine blk_far ?_ NB125_134.out _; (with_reducible repeat (first | refine blk_drewN ?_ _ | refine blk_drew ?_ | refine blk_alloc ?_ _)); exact BK125.out⟩, ⟨by (with_reducible repeat (first | refine blk_drewN ?_ _ | refine blk_drew ?_ | refine blk_alloc ?_ _)); refine blk_put (cs := #[.int .i64 t126, .int .u64 t127, .slice Ao11 t128.length co11, .slice none 0 0]) ?_ 3 _ rfl; (with_reducible repeat (first | refine blk_drewN ?_ _ | refine blk_drew ?_ | refine blk_alloc ?_ _)); refine blk_put (cs := #[.int .i64 t126, .int .u64 t127, .slice none 0 0, .slice none 0 0]) ?_ 2 _ rfl; (with_reducible repeat (first | refine blk_drewN ?_ _ | refine blk_drew ?_ | refine blk_alloc ?_ _)); refine blk_put (cs := #[.int .i64 t126, .int .u64 0, .slice none 0 0, .slice none 0 0]) ?_ 1 _ rfl; (with_reducible repeat (first | refine blk_drewN ?_ _ | refine blk_drew ?_ | refine blk_alloc ?_ _)); refine blk_put (cs := #[.int .i64 0, .int .u64 0, .slice none 0 0, .slice none 0 0]) ?_ 0 _ rfl; (with_reducible repeat (first | refine blk_drewN ?_ _ | refine blk_drew ?_ | refine blk_alloc ?_ _)); exact BK134.out⟩, ⟨by repeat (first | (with_reducible first | exact HB.out | apply below_alloc | apply pw_below_drewN | apply below_drew1 | refine below_set ?_ GE124.out | refine below_set ?_ GE125.out | refine below_set ?_ GE134.out) | exact HB.out)⟩⟩
 case round =>
  clear H'
  try clear c2
  try clear p2
  try clear c3
  try clear c8
  try clear c9
  try clear hcz10_0
  try clear hcz10_1
  try clear hcz10_2
  try clear hcz10_3
  try clear hfz10_0
  try clear hfz10_1
  try clear hfz10_2
  try clear hfz10_3
  obtain ⟨x7_1, x126000_1, x126001_1, rfl, HA, HK1, HO_125003, HO_135002, HO_135003, BK124, BK125, BK134, HB⟩ := hrel
  cases gk with
  | zero => exact absurd HA.out (by simp [cbor_Get.l0])
  | succ k1 =>
   have H := HA.out
   clear HA
   simp only [cbor_Get.l0] at H
   have HC13 := Aside0.mk H
   clear H
   go_upto_region 3 with (fail)
   go_cut [20] (fun v20 wc => ∃ (kq : Nat) (x20_12 : Bool), v20 = .bool x20_12 ∧ Aside0 (cbor_Get.j1 kq x7_1 x20_12 a0_0 a0_1 l0_2 l0_3 t126 t127 t128 t131 = some (r1, r2, r3, r4, r5)) ∧ Aside0 (kq ≤ k1) ∧ Aside0 (Kd.V k27 27 wc w.heap.size (fun k_ => (P0_3_ k_ ∨ w.heap.size ≤ k_) ∧ some k_ ≠ ((.slice Ao11 t128.length co11) : Value).ownBlock ∧ some k_ ≠ ((.slice Ao12 t131.length co12) : Value).ownBlock ∧ k_ ≠ gb124 ∧ k_ ≠ gb125 ∧ k_ ≠ gb134) (.slice A0_3 l0_3.length c0_3) l0_3) ∧ Aside0 (Kd.R (Kd.int .u8) 5 wc w.heap.size (fun k_ => (w.heap.size ≤ k_)) (.slice Ao11 t128.length co11) t128) ∧ Aside0 (Kd.R k27 27 wc w.heap.size (fun k_ => (w.heap.size ≤ k_) ∧ some k_ ≠ ((.slice Ao11 t128.length co11) : Value).ownBlock ∧ k_ ≠ gb124 ∧ k_ ≠ gb125 ∧ k_ ≠ gb134) (.slice Ao12 t131.length co12) t131) ∧ Aside0 (wc.heap[gb124]? = some (.cells #[.int .i64 a0_0, .int .u64 a0_1, (.slice A0_2 l0_2.length c0_2), (.slice A0_3 l0_3.length c0_3)] 27 (0, 0))) ∧ Aside0 (wc.heap[gb125]? = some (.cells #[.int .i64 x126000_1, .int .u64 x126001_1, (.slice none 0 0), (.slice none 0 0)] 27 (0, 0))) ∧ Aside0 (wc.heap[gb134]? = some (.cells #[.int .i64 t126, .int .u64 t127, (.slice Ao11 t128.length co11), (.slice Ao12 t131.length co12)] 27 (0, 0))) ∧ Aside0 (Below w.heap.size w wc))
   case first =>
    have H := HC13.out
    clear HC13
    by_cases c14 : a0_0 = 5
    ·rw [if_pos c14] at H
     have c14b0 : (a0_0 == 5) = true := beq_iff_eq.mpr c14
     have c14b1 : (a0_0 != 5) = false := bne_eq_false_iff_eq.mpr c14
     clear c14
     (first | rw [c14b0] | (simp only [i64_w, i32_w]; rw [c14b0]) | skip)
     have H' := Aside0.mk H
     clear H
     have hnb15 := NB124_125.out
     have hnc15 := NB125_124.out
     have hnb16 := NB124_134.out
     have hnc16 := NB134_124.out
     have hcz17_0 : wr.cell? ⟨gb124, 0, none⟩ = some (.int .i64 a0_0) := (blk_cell BK124.out 0).trans rfl
     have hcz17_1 : wr.cell? ⟨gb124, 1, none⟩ = some (.int .u64 a0_1) := (blk_cell BK124.out 1).trans rfl
     have hcz17_2 : wr.cell? ⟨gb124, 2, none⟩ = some (.slice A0_2 l0_2.length c0_2) := (blk_cell BK124.out 2).trans rfl
     have hcz17_3 : wr.cell? ⟨gb124, 3, none⟩ = some (.slice A0_3 l0_3.length c0_3) := (blk_cell BK124.out 3).trans rfl
     have hfz17_0 := blk_frozen BK124.out 0
     have hfz17_1 := blk_frozen BK124.out 1
     have hfz17_2 := blk_frozen BK124.out 2
     have hfz17_3 := blk_frozen BK124.out 3
     go_wp2
     go_meet
     case rel => exact ⟨_, (decide ((wrap64 (x7_1 + 1)) < (l0_3.length : Int))), q97_, H', ⟨by have := HK1.out; first | omega | exact Nat.le_refl _⟩, ⟨by (with_reducible repeat (first | apply Kd.V_alloc | apply Kd.V_drewN | apply Kd.V_drew)); exact HO_125003.out⟩, ⟨by (with_reducible repeat (first | apply Kd.R_alloc | apply Kd.R_drewN | apply Kd.R_drew)); exact HO_135002.out⟩, ⟨by (with_reducible repeat (first | apply Kd.R_alloc | apply Kd.R_drewN | apply Kd.R_drew)); exact HO_135003.out⟩, ⟨by (with_reducible repeat (first | refine blk_drewN ?_ _ | refine blk_drew ?_ | refine blk_alloc ?_ _)); exact BK124.out⟩, ⟨by (with_reducible repeat (first | refine blk_drewN ?_ _ | refine blk_drew ?_ | refine blk_alloc ?_ _)); exact BK125.out⟩, ⟨by (with_reducible repeat (first | refine blk_drewN ?_ _ | refine blk_drew ?_ | refine blk_alloc ?_ _)); exact BK134.out⟩, ⟨by repeat (first | (with_reducible first | exact HB.out | apply below_alloc | apply pw_below_drewN | apply below_drew1 | refine below_set ?_ GE124.out | refine below_set ?_ GE125.out | refine below_set ?_ GE134.out) | exact HB.out)⟩⟩
    ·rw [if_neg c14] at H
     have c14b0 : (a0_0 == 5) = false := beq_eq_false_iff_ne.mpr c14
     have c14b1 : (a0_0 != 5) = true := bne_iff_ne.mpr c14
     (first | rw [c14b0] | (simp only [i64_w, i32_w]; rw [c14b0]) | skip)
     have H' := Aside0.mk H
     clear H
     have hnb18 := NB124_125.out
     have hnc18 := NB125_124.out
     have hnb19 := NB124_134.out
     have hnc19 := NB134_124.out
     have hcz20_0 : wr.cell? ⟨gb124, 0, none⟩ = some (.int .i64 a0_0) := (blk_cell BK124.out 0).trans rfl
     have hcz20_1 : wr.cell? ⟨gb124, 1, none⟩ = some (.int .u64 a0_1) := (blk_cell BK124.out 1).trans rfl
     have hcz20_2 : wr.cell? ⟨gb124, 2, none⟩ = some (.slice A0_2 l0_2.length c0_2) := (blk_cell BK124.out 2).trans rfl
     have hcz20_3 : wr.cell? ⟨gb124, 3, none⟩ = some (.slice A0_3 l0_3.length c0_3) := (blk_cell BK124.out 3).trans rfl
     have hfz20_0 := blk_frozen BK124.out 0
     have hfz20_1 := blk_frozen BK124.out 1
     have hfz20_2 := blk_frozen BK124.out 2
     have hfz20_3 := blk_frozen BK124.out 3
     go_wp2
     go_meet
     case rel => exact ⟨_, (false), q97_, H', ⟨by have := HK1.out; first | omega | exact Nat.le_refl _⟩, ⟨by (with_reducible repeat (first | apply Kd.V_alloc | apply Kd.V_drewN | apply Kd.V_drew)); exact HO_125003.out⟩, ⟨by (with_reducible repeat (first | apply Kd.R_alloc | apply Kd.R_drewN | apply Kd.R_drew)); exact HO_135002.out⟩, ⟨by (with_reducible repeat (first | apply Kd.R_alloc | apply Kd.R_drewN | apply Kd.R_drew)); exact HO_135003.out⟩, ⟨by (with_reducible repeat (first | refine blk_drewN ?_ _ | refine blk_drew ?_ | refine blk_alloc ?_ _)); exact BK124.out⟩, ⟨by (with_reducible repeat (first | refine blk_drewN ?_ _ | refine blk_drew ?_ | refine blk_alloc ?_ _)); exact BK125.out⟩, ⟨by (with_reducible repeat (first | refine blk_drewN ?_ _ | refine blk_drew ?_ | refine blk_alloc ?_ _)); exact BK134.out⟩, ⟨by repeat (first | (with_reducible first | exact HB.out | apply below_alloc | apply pw_below_drewN | apply below_drew1 | refine below_set ?_ GE124.out | refine below_set ?_ GE125.out | refine below_set ?_ GE134.out) | exact HB.out)⟩⟩
   case rest =>
    clear HC13
    try clear c1
    try clear c2
    try clear p2
    try clear c3
    try clear p6
    try clear c8
    try clear c9
    try clear c14
    try clear c14b0
    try clear c14b1
    try clear c15
    try clear c16
    try clear c18
    try clear c19
    try clear hcz10_0
    try clear hcz10_1
    try clear hcz10_2
    try clear hcz10_3
    try clear hcz17_0
    try clear hcz17_1
    try clear hcz17_2
    try clear hcz17_3
    try clear hcz20_0
    try clear hcz20_1
    try clear hcz20_2
    try clear hcz20_3
    try clear hfz10_0
    try clear hfz10_1
    try clear hfz10_2
    try clear hfz10_3
    try clear hfz17_0
    try clear hfz17_1
    try clear hfz17_2
    try clear hfz17_3
    try clear hfz20_0
    try clear hfz20_1
    try clear hfz20_2
    try clear hfz20_3
    try clear p2
    obtain ⟨kq, x20_12, rfl, HA, HJ12, HO_125003, HO_135002, HO_135003, BK124, BK125, BK134, HB⟩ := hcut
    cases kq with
    | zero => exact absurd HA.out (by simp [cbor_Get.j1])
    | succ kj12 =>
     have H := HA.out
     clear HA
     simp only [cbor_Get.j1] at H
     by_cases c21 : x20_12 = true
     ·subst c21
      have H1 : (if 0 ≤ x7_1 then (if x7_1 < (l0_3.length : Int) then ((cbor_Same.f kj12 ((rd_T27 l0_3 x7_1).f0) ((rd_T27 l0_3 x7_1).f1) ((rd_T27 l0_3 x7_1).f2) ((rd_T27 l0_3 x7_1).f3) t126 t127 t128 t131).bind fun t136 => (if t136 = true then (if 0 ≤ (wrap64 (x7_1 + 1)) then (if (wrap64 (x7_1 + 1)) < (l0_3.length : Int) then (some ((rd_T27 l0_3 (wrap64 (x7_1 + 1))).f0, (rd_T27 l0_3 (wrap64 (x7_1 + 1))).f1, (rd_T27 l0_3 (wrap64 (x7_1 + 1))).f2, (rd_T27 l0_3 (wrap64 (x7_1 + 1))).f3, true)) else (none)) else (none)) else (cbor_Get.l0 kj12 (wrap64 (x7_1 + 2)) a0_0 a0_1 l0_2 l0_3 t126 t127 t128 t131))) else (none)) else (none)) = some (r1, r2, r3, r4, r5) := by rw [if_pos rfl] at H; exact H
      clear H
      have H := H1
      clear H1
      by_cases c22 : 0 ≤ x7_1
      ·rw [if_pos c22] at H
       have c22b0 : decide (0 ≤ x7_1) = true := decide_eq_true c22
       clear c22
       by_cases c23 : x7_1 < (l0_3.length : Int)
       ·rw [if_pos c23] at H
        have c23b0 : decide (x7_1 < (l0_3.length : Int)) = true := decide_eq_true c23
        clear c23
        replace H := Option.bind_eq_some_iff.mp H
        obtain ⟨t136, A240, H⟩ := H
        replace H : (if t136 = true then (if 0 ≤ (wrap64 (x7_1 + 1)) then (if (wrap64 (x7_1 + 1)) < (l0_3.length : Int) then (some ((rd_T27 l0_3 (wrap64 (x7_1 + 1))).f0, (rd_T27 l0_3 (wrap64 (x7_1 + 1))).f1, (rd_T27 l0_3 (wrap64 (x7_1 + 1))).f2, (rd_T27 l0_3 (wrap64 (x7_1 + 1))).f3, true)) else (none)) else (none)) else (cbor_Get.l0 kj12 (wrap64 (x7_1 + 2)) a0_0 a0_1 l0_2 l0_3 t126 t127 t128 t131)) = some (r1, r2, r3, r4, r5) := H
        have A24 := Aside0.mk A240
        clear A240
        by_cases c25 : t136 = true
        ·subst c25
         have H1 : (if 0 ≤ (wrap64 (x7_1 + 1)) then (if (wrap64 (x7_1 + 1)) < (l0_3.length : Int) then (some ((rd_T27 l0_3 (wrap64 (x7_1 + 1))).f0, (rd_T27 l0_3 (wrap64 (x7_1 + 1))).f1, (rd_T27 l0_3 (wrap64 (x7_1 + 1))).f2, (rd_T27 l0_3 (wrap64 (x7_1 + 1))).f3, true)) else (none)) else (none)) = some (r1, r2, r3, r4, r5) := by rw [if_pos rfl] at H; exact H
         clear H
         have H := H1
         clear H1
         obtain ⟨ji26, hji26⟩ : ∃ j_ : Int, (wrap64 (x7_1 + 1)) = j_ := ⟨_, rfl⟩
         replace H : (if 0 ≤ (ji26) then (if (ji26) < (l0_3.length : Int) then (some ((rd_T27 l0_3 (ji26)).f0, (rd_T27 l0_3 (ji26)).f1, (rd_T27 l0_3 (ji26)).f2, (rd_T27 l0_3 (ji26)).f3, true)) else (none)) else (none)) = some (r1, r2, r3, r4, r5) := by first | (rw [hji26] at H; exact H) | (simp only [hji26] at H ⊢; exact H)
         (try rw [hji26] at A24)
         have hji26w : (IntKind.i64.wrap (x7_1 + 1)) = ji26 := (i64_w _).trans hji26
         by_cases c27 : 0 ≤ (ji26)
         ·rw [if_pos c27] at H
          have c27b0 : decide (0 ≤ (ji26)) = true := decide_eq_true c27
          clear c27
          by_cases c28 : (ji26) < (l0_3.length : Int)
          ·rw [if_pos c28] at H
           have c28b0 : decide ((ji26) < (l0_3.length : Int)) = true := decide_eq_true c28
           clear c28
           simp only [Option.some.injEq, Prod.mk.injEq] at H
           obtain ⟨rfl, rfl, rfl, rfl, rfl⟩ := H
           try go_wp2
           have n0_ := Aside0.mk (Kd.V_drew HO_125003.out)
           have n1_ := Aside0.mk (Kd.R_drew HO_135002.out)
           have n2_ := Aside0.mk (Kd.R_drew HO_135003.out)
           have n3_ := Aside0.mk (blk_drew BK124.out)
           have n4_ := Aside0.mk (blk_drew BK125.out)
           have n5_ := Aside0.mk (blk_drew BK134.out)
           have n6_ := Aside0.mk (below_drew1 HB.out)
           clear HO_125003
           clear HO_135002
           clear HO_135003
           clear BK124
           clear BK125
           clear BK134
           clear HB
           have HO_125003 := n0_
           have HO_135002 := n1_
           have HO_135003 := n2_
           have BK124 := n3_
           have BK125 := n4_
           have BK134 := n5_
           have HB := n6_
           clear n0_ n1_ n2_ n3_ n4_ n5_ n6_
           have p135 : 0 ≤ (x7_1 : Int) := of_decide_eq_true q95_
           have q135 : x7_1 < (l0_3.length : Int) := of_decide_eq_true q95_
           obtain ⟨ad135, A135_2, c135_2, A135_3, c135_3, e135, hx135_0, hx135_1, hx135_2, hx135_3, hl135_2, hi135_2, hl135_3, hi135_3⟩ := at_T27 (Kd.V_reads' HO_125003.out).2.2 x7_1 p135 q135
           cases e135
           obtain ⟨ce135, hce135, hMe135, hcc135⟩ := Kd.V_get HO_125003.out z27 x7_1 p135 (by first | exact q135 | exact of_decide_eq_true q95_ | (have e_ := (Kd.V_reads' HO_125003.out).1; omega))
           obtain ⟨ua135_2, uc135_2, ua135_3, uc135_3, rfl, ul135_2, ge135_2, ul135_3, ge135_3⟩ := k27_openF hMe135
           have hv135_2 := hcc135 2 _ rfl
           rw [add_field _ _ 2 (by omega)] at hv135_2
           replace hv135_2 := Option.some.inj (hv135_2.symm.trans hx135_2)
           injection hv135_2 with hva_ hvn_ hvc_
           rw [hva_] at ge135_2
           rw [hvc_] at ul135_2
           have HL135_2 := Aside0.mk (show Kd.V (Kd.int .u8) 5 _ w.heap.size _ _ ((rd_T27 l0_3 x7_1).f2) from Kd.V_mk ul135_2 ge135_2)
           clear hva_ hvn_ hvc_ ge135_2 ul135_2
           have hv135_3 := hcc135 3 _ rfl
           rw [add_field _ _ 3 (by omega)] at hv135_3
           replace hv135_3 := Option.some.inj (hv135_3.symm.trans hx135_3)
           injection hv135_3 with hva_ hvn_ hvc_
           rw [hva_] at ge135_3
           rw [hvc_] at ul135_3
           have HL135_3 := Aside0.mk (show Kd.V k27 27 _ w.heap.size _ _ ((rd_T27 l0_3 x7_1).f3) from Kd.V_mk ul135_3 ge135_3)
           clear hva_ hvn_ hvc_ ge135_3 ul135_3
           clear hcc135 hce135
           have HR135_2 := Aside0.mk hi135_2
           have HC135_2 := Aside0.mk hl135_2
           clear hi135_2 hl135_2
           have HR135_3 := Aside0.mk hi135_3
           have HC135_3 := Aside0.mk hl135_3
           clear hi135_3 hl135_3
           replace p135 := eq_true p135
           replace q135 := eq_true q135
           refine start_ (n := 7) (S := fun w' => w'.cell? ⟨gb124, 0, none⟩ = some (.int .i64 a0_0) ∧ w'.cell? ⟨gb124, 1, none⟩ = some (.int .u64 a0_1) ∧ w'.cell? ⟨gb124, 2, none⟩ = some (.slice A0_2 l0_2.length c0_2) ∧ w'.cell? ⟨gb124, 3, none⟩ = some (.slice (some ad135) l0_3.length c0_3) ∧ w'.cell? ⟨gb134, 0, none⟩ = some (.int .i64 t126) ∧ w'.cell? ⟨gb134, 1, none⟩ = some (.int .u64 t127) ∧ w'.cell? ⟨gb134, 2, none⟩ = some (.slice Ao11 t128.length co11) ∧ w'.cell? ⟨gb134, 3, none⟩ = some (.slice Ao12 t131.length co12) ∧ w'.cell? (ad135.add ((x7_1).toNat * 4)) = some (.int .i64 ((rd_T27 l0_3 x7_1).f0)) ∧ w'.cell? ⟨(ad135.add ((x7_1).toNat * 4)).block, (ad135.add ((x7_1).toNat * 4)).off + 1, none⟩ = some (.int .u64 ((rd_T27 l0_3 x7_1).f1)) ∧ w'.cell? ⟨(ad135.add ((x7_1).toNat * 4)).block, (ad135.add ((x7_1).toNat * 4)).off + 2, none⟩ = some (.slice A135_2 ((rd_T27 l0_3 x7_1).f2).length c135_2) ∧ w'.cell? ⟨(ad135.add ((x7_1).toNat * 4)).block, (ad135.add ((x7_1).toNat * 4)).off + 3, none⟩ = some (.slice A135_3 ((rd_T27 l0_3 x7_1).f3).length c135_3)) (ds := []) #[false, false, false, false, false, false, false] (by kernel_rfl) rfl rfl ⟨(blk_cell BK124.out 0).trans rfl, (blk_cell BK124.out 1).trans rfl, (blk_cell BK124.out 2).trans rfl, (blk_cell BK124.out 3).trans rfl, (blk_cell BK134.out 0).trans rfl, (blk_cell BK134.out 1).trans rfl, (blk_cell BK134.out 2).trans rfl, (blk_cell BK134.out 3).trans rfl, hx135_0, hx135_1, hx135_2, hx135_3⟩ (fun hHeld => ?_)
           generalize wc.drew = w29 at HO_125003 HO_135002 HO_135003 BK124 BK125 BK134 HB HL135_2 HL135_3 HR135_2 HR135_3 hx135_0 hx135_1 hx135_2 hx135_3 hHeld ⊢
           refine pure_ (i := 0) (N := some 23) (v := ?_) (a' := ?_) #[true, false, false, false, false, false, false] rfl rfl (by kernel_rfl) (fun _ _ _ h => h) (Or.inl ⟨by rfl, ?_⟩) ?_ ?_
           rotate_left
           ·intro w'
            go_simp
            with_reducible rfl
           rotate_left
           ·simp only [Act.put, List.setIfInBounds_toArray, List.set_cons_zero, List.set_cons_succ, i64_w, i32_w]
            rfl
           refine pure_ (i := 2) (N := some 25) (v := ?_) (a' := ?_) #[true, false, true, false, false, false, false] rfl rfl (by kernel_rfl) (fun _ _ _ h => h) (Or.inl ⟨by rfl, ?_⟩) ?_ ?_
           rotate_left
           ·intro w'
            go_simp
            with_reducible rfl
           rotate_left
           ·simp only [Act.put, List.setIfInBounds_toArray, List.set_cons_zero, List.set_cons_succ, i64_w, i32_w]
            rfl
           refine take_ (i := 1) (N := some 24) (v := ?_) (a' := ?_) #[true, true, true, false, false, false, false] rfl rfl (by kernel_rfl) (fun _ _ _ h => h) (Or.inl ⟨by rfl, ?_⟩) hHeld ?_ ?_
           rotate_left
           ·rintro w' ⟨s0, s1, s2, s3, s4, s5, s6, s7, s8, s9, s10, s11⟩
            go_simp
            with_reducible rfl
           rotate_left
           ·simp only [Act.put, List.setIfInBounds_toArray, List.set_cons_zero, List.set_cons_succ, i64_w, i32_w]
            rfl
           refine pure_ (i := 3) (N := some 26) (v := ?_) (a' := ?_) #[true, true, true, true, false, false, false] rfl rfl (by kernel_rfl) (fun _ _ _ h => h) (Or.inl ⟨by rfl, ?_⟩) ?_ ?_
           rotate_left
           ·intro w'
            go_simp
            with_reducible rfl
           rotate_left
           ·simp only [Act.put, List.setIfInBounds_toArray, List.set_cons_zero, List.set_cons_succ, i64_w, i32_w]
            rfl
           refine take_ (i := 4) (N := some 27) (v := ?_) (a' := ?_) #[true, true, true, true, true, false, false] rfl rfl (by kernel_rfl) (fun _ _ _ h => h) (Or.inl ⟨by rfl, ?_⟩) hHeld ?_ ?_
           rotate_left
           ·rintro w' ⟨s0, s1, s2, s3, s4, s5, s6, s7, s8, s9, s10, s11⟩
            go_simp
            with_reducible rfl
           rotate_left
           ·simp only [Act.put, List.setIfInBounds_toArray, List.set_cons_zero, List.set_cons_succ, i64_w, i32_w]
            rfl
           refine take_ (i := 5) (N := some 28) (v := ?_) (a' := ?_) #[true, true, true, true, true, true, false] rfl rfl (by kernel_rfl) (fun _ _ _ h => h) (Or.inl ⟨by rfl, ?_⟩) hHeld ?_ ?_
           rotate_left
           ·rintro w' ⟨s0, s1, s2, s3, s4, s5, s6, s7, s8, s9, s10, s11⟩
            go_simp
            with_reducible rfl
           rotate_left
           ·simp only [Act.put, List.setIfInBounds_toArray, List.set_cons_zero, List.set_cons_succ, i64_w, i32_w]
            rfl
           refine one_ (i := 6) (N := some 29) #[true, true, true, true, true, true, true] rfl rfl (by kernel_rfl) (by decide) (fun K hK => ?_)
           refine goes_ Tryd.func49 (by kernel_rfl) rfl #[.agg #[.int .i64 ((rd_T27 l0_3 x7_1).f0), .int .u64 ((rd_T27 l0_3 x7_1).f1), .slice A135_2 ((rd_T27 l0_3 x7_1).f2).length c135_2, .slice A135_3 ((rd_T27 l0_3 x7_1).f3).length c135_3], .agg #[.int .i64 t126, .int .u64 t127, .slice Ao11 t128.length co11, .slice Ao12 t131.length co12]] (by rfl) rfl rfl q43_ ?_
           with_reducible refine (cbor_Same.calls kj12 ((rd_T27 l0_3 x7_1).f0) ((rd_T27 l0_3 x7_1).f1) _ _ ((rd_T27 l0_3 x7_1).f2) _ _ ((rd_T27 l0_3 x7_1).f3) t126 t127 _ _ t128 _ _ t131 true _ ?side1 ?side2 ?side3 ?side4 ?side5 ?side6 ?side7 ?side8 A24.out).mono ?_
           (case side1 => repeat (first | exact q30_ | (with_reducible refine Kd.C_alloc ?_ _) | (with_reducible refine Kd.C_drewN ?_ _) | (with_reducible refine Kd.C_drew ?_)))
           (case side2 => exact HC135_2.out)
           (case side3 => repeat (first | exact q31_ | (with_reducible refine Kd.C_alloc ?_ _) | (with_reducible refine Kd.C_drewN ?_ _) | (with_reducible refine Kd.C_drew ?_)))
           (case side4 => exact HC135_3.out)
           (case side5 => repeat (first | exact (Kd.R_reads' HO_135002.out).2.2 | (with_reducible refine Kd.C_alloc ?_ _) | (with_reducible refine Kd.C_drewN ?_ _) | (with_reducible refine Kd.C_drew ?_)))
           (case side6 => exact (Kd.R_reads' HO_135002.out).2.1)
           (case side7 => repeat (first | exact (Kd.R_reads' HO_135003.out).2.2 | (with_reducible refine Kd.C_alloc ?_ _) | (with_reducible refine Kd.C_drewN ?_ _) | (with_reducible refine Kd.C_drew ?_)))
           (case side8 => exact (Kd.R_reads' HO_135003.out).2.1)
           rintro e w30 ⟨rfl, hb⟩
           have HS8_ := (hb.cell (World.block_lt_of_cell? _ _ (hHeld.2.2.2.2.2.2.2.2.1))).trans (hHeld.2.2.2.2.2.2.2.2.1)
           have HS9_ := (hb.cell (World.block_lt_of_cell? _ _ (hHeld.2.2.2.2.2.2.2.2.2.1))).trans (hHeld.2.2.2.2.2.2.2.2.2.1)
           have HS10_ := (hb.cell (World.block_lt_of_cell? _ _ (hHeld.2.2.2.2.2.2.2.2.2.2.1))).trans (hHeld.2.2.2.2.2.2.2.2.2.2.1)
           have HS11_ := (hb.cell (World.block_lt_of_cell? _ _ (hHeld.2.2.2.2.2.2.2.2.2.2.2))).trans (hHeld.2.2.2.2.2.2.2.2.2.2.2)
           refine ⟨_, rfl, ?_⟩
           have n0_ := Aside0.mk (Kd.V_below (by (with_reducible repeat (first | apply Kd.V_alloc | apply Kd.V_drewN | apply Kd.V_drew)); exact HO_125003.out) hb)
           have n1_ := Aside0.mk (Kd.R_below (by (with_reducible repeat (first | apply Kd.R_alloc | apply Kd.R_drewN | apply Kd.R_drew)); exact HO_135002.out) hb)
           have n2_ := Aside0.mk (Kd.R_below (by (with_reducible repeat (first | apply Kd.R_alloc | apply Kd.R_drewN | apply Kd.R_drew)); exact HO_135003.out) hb)
           have n3_ := Aside0.mk (Kd.V_below (by (with_reducible repeat (first | apply Kd.V_alloc | apply Kd.V_drewN | apply Kd.V_drew)); exact HL135_2.out) hb)
           have n4_ := Aside0.mk (Kd.V_below (by (with_reducible repeat (first | apply Kd.V_alloc | apply Kd.V_drewN | apply Kd.V_drew)); exact HL135_3.out) hb)
           have n5_ := Aside0.mk (blk_below (g := gb124) (o := .cells #[.int .i64 a0_0, .int .u64 a0_1, .slice A0_2 l0_2.length c0_2, .slice (some ad135) l0_3.length c0_3] 27 (0, 0)) q46_ hb)
           have n6_ := Aside0.mk (blk_below (g := gb125) (o := .cells #[.int .i64 x126000_1, .int .u64 x126001_1, .slice none 0 0, .slice none 0 0] 27 (0, 0)) q47_ hb)
           have n7_ := Aside0.mk (blk_below (g := gb134) (o := .cells #[.int .i64 t126, .int .u64 t127, .slice Ao11 t128.length co11, .slice Ao12 t131.length co12] 27 (0, 0)) (by (with_reducible repeat (first | refine blk_drewN ?_ _ | refine blk_drew ?_ | refine blk_alloc ?_ _)); exact BK134.out) hb)
           have n8_ := Aside0.mk (Kd.C_below q30_ hb)
           have n9_ := Aside0.mk (Kd.C_below q31_ hb)
           have n10_ := Aside0.mk (below_step q21_ hb)
           clear HO_125003
           clear HO_135002
           clear HO_135003
           clear HL135_2
           clear HL135_3
           clear BK124
           clear BK125
           clear BK134
           clear HR135_2
           clear HR135_3
           clear HB
           have HO_125003 := n0_
           have HO_135002 := n1_
           have HO_135003 := n2_
           have HL135_2 := n3_
           have HL135_3 := n4_
           have BK124 := n5_
           have BK125 := n6_
           have BK134 := n7_
           have HR135_2 := n8_
           have HR135_3 := n9_
           have HB := n10_
           clear n0_ n1_ n2_ n3_ n4_ n5_ n6_ n7_ n8_ n9_ n10_
           (try clear hb)
           (try clear hb2)
           (try clear hk)
           (try clear hi)
           refine hK.out _ _ ⟨(blk_cell BK124.out 0).trans rfl, (blk_cell BK124.out 1).trans rfl, (blk_cell BK124.out 2).trans rfl, (blk_cell BK124.out 3).trans rfl, (blk_cell BK134.out 0).trans rfl, (blk_cell BK134.out 1).trans rfl, (blk_cell BK134.out 2).trans rfl, (blk_cell BK134.out 3).trans rfl, HS8_, HS9_, HS10_, HS11_⟩ (fun hHeld => ?_)
           clear hK K
           refine norm_ (a' := ?_) ?_ ?_
           rotate_left
           ·show Act.put _ (some 29) _ = _
            simp only [Act.put, List.setIfInBounds_toArray, List.set_cons_zero, List.set_cons_succ, i64_w, i32_w]
            rfl
           refine done_ (by kernel_rfl) ?_
           have hnb31 := NB124_125.out
           have hnc31 := NB125_124.out
           have hnb32 := NB124_134.out
           have hnc32 := NB134_124.out
           have hcz33_0 : w30.cell? ⟨gb124, 0, none⟩ = some (.int .i64 a0_0) := (blk_cell BK124.out 0).trans rfl
           have hcz33_1 : w30.cell? ⟨gb124, 1, none⟩ = some (.int .u64 a0_1) := (blk_cell BK124.out 1).trans rfl
           have hcz33_2 : w30.cell? ⟨gb124, 2, none⟩ = some (.slice A0_2 l0_2.length c0_2) := (blk_cell BK124.out 2).trans rfl
           have hcz33_3 : w30.cell? ⟨gb124, 3, none⟩ = some (.slice (some ad135) l0_3.length c0_3) := (blk_cell BK124.out 3).trans rfl
           have hfz33_0 := blk_frozen BK124.out 0
           have hfz33_1 := blk_frozen BK124.out 1
           have hfz33_2 := blk_frozen BK124.out 2
           have hfz33_3 := blk_frozen BK124.out 3
           have p137 : 0 ≤ ((ji26) : Int) := of_decide_eq_true q95_
           have q137 : (ji26) < (l0_3.length : Int) := of_decide_eq_true q95_
           obtain ⟨ad137, A137_2, c137_2, A137_3, c137_3, e137, hx137_0, hx137_1, hx137_2, hx137_3, hl137_2, hi137_2, hl137_3, hi137_3⟩ := at_T27 (Kd.V_reads' HO_125003.out).2.2 (ji26) p137 q137
           obtain rfl : ad135 = ad137 := (by injection e137)
           obtain ⟨ce137, hce137, hMe137, hcc137⟩ := Kd.V_get HO_125003.out z27 (ji26) p137 (by first | exact q137 | exact of_decide_eq_true q95_ | (have e_ := (Kd.V_reads' HO_125003.out).1; omega))
           obtain ⟨ua137_2, uc137_2, ua137_3, uc137_3, rfl, ul137_2, ge137_2, ul137_3, ge137_3⟩ := k27_openF hMe137
           have hv137_2 := hcc137 2 _ rfl
           rw [add_field _ _ 2 (by omega)] at hv137_2
           replace hv137_2 := Option.some.inj (hv137_2.symm.trans hx137_2)
           injection hv137_2 with hva_ hvn_ hvc_
           rw [hva_] at ge137_2
           rw [hvc_] at ul137_2
           have HL137_2 := Aside0.mk (show Kd.V (Kd.int .u8) 5 _ w.heap.size _ _ ((rd_T27 l0_3 (ji26)).f2) from Kd.V_mk ul137_2 ge137_2)
           clear hva_ hvn_ hvc_ ge137_2 ul137_2
           have hv137_3 := hcc137 3 _ rfl
           rw [add_field _ _ 3 (by omega)] at hv137_3
           replace hv137_3 := Option.some.inj (hv137_3.symm.trans hx137_3)
           injection hv137_3 with hva_ hvn_ hvc_
           rw [hva_] at ge137_3
           rw [hvc_] at ul137_3
           have HL137_3 := Aside0.mk (show Kd.V k27 27 _ w.heap.size _ _ ((rd_T27 l0_3 (ji26)).f3) from Kd.V_mk ul137_3 ge137_3)
           clear hva_ hvn_ hvc_ ge137_3 ul137_3
           clear hcc137 hce137
           have HR137_2 := Aside0.mk hi137_2
           have HC137_2 := Aside0.mk hl137_2
           clear hi137_2 hl137_2
           have HR137_3 := Aside0.mk hi137_3
           have HC137_3 := Aside0.mk hl137_3
           clear hi137_3 hl137_3
           replace p137 := eq_true p137
           replace q137 := eq_true q137
           have hnb34 := NB125_134.out
           have hnc34 := NB134_125.out
           have hcz35_0 : w30.cell? ⟨gb125, 0, none⟩ = some (.int .i64 x126000_1) := (blk_cell BK125.out 0).trans rfl
           have hcz35_1 : w30.cell? ⟨gb125, 1, none⟩ = some (.int .u64 x126001_1) := (blk_cell BK125.out 1).trans rfl
           have hcz35_2 : w30.cell? ⟨gb125, 2, none⟩ = some (.slice none 0 0) := (blk_cell BK125.out 2).trans rfl
           have hcz35_3 : w30.cell? ⟨gb125, 3, none⟩ = some (.slice none 0 0) := (blk_cell BK125.out 3).trans rfl
           have hfz35_0 := blk_frozen BK125.out 0
           have hfz35_1 := blk_frozen BK125.out 1
           have hfz35_2 := blk_frozen BK125.out 2
           have hfz35_3 := blk_frozen BK125.out 3
           try go_wp2
           refine bodyPost_ret (results_ct rfl _ _ gb125 27 #[.int .i64 ((rd_T27 l0_3 (ji26)).f0), .int .u64 ((rd_T27 l0_3 (ji26)).f1), .slice A137_2 ((rd_T27 l0_3 (ji26)).f2).length c137_2, .slice A137_3 ((rd_T27 l0_3 (ji26)).f3).length c137_3] (0, 0) _ rfl (by (with_reducible repeat (first | refine blk_drewN ?_ _ | refine blk_drew ?_ | refine blk_alloc ?_ _)); refine blk_put (cs := #[.int .i64 ((rd_T27 l0_3 (ji26)).f0), .int .u64 ((rd_T27 l0_3 (ji26)).f1), .slice A137_2 ((rd_T27 l0_3 (ji26)).f2).length c137_2, .slice none 0 0]) ?_ 3 _ rfl; (with_reducible repeat (first | refine blk_drewN ?_ _ | refine blk_drew ?_ | refine blk_alloc ?_ _)); refine blk_put (cs := #[.int .i64 ((rd_T27 l0_3 (ji26)).f0), .int .u64 ((rd_T27 l0_3 (ji26)).f1), .slice none 0 0, .slice none 0 0]) ?_ 2 _ rfl; (with_reducible repeat (first | refine blk_drewN ?_ _ | refine blk_drew ?_ | refine blk_alloc ?_ _)); refine blk_put (cs := #[.int .i64 ((rd_T27 l0_3 (ji26)).f0), .int .u64 x126001_1, .slice none 0 0, .slice none 0 0]) ?_ 1 _ rfl; (with_reducible repeat (first | refine blk_drewN ?_ _ | refine blk_drew ?_ | refine blk_alloc ?_ _)); refine blk_put (cs := #[.int .i64 x126000_1, .int .u64 x126001_1, .slice none 0 0, .slice none 0 0]) ?_ 0 _ rfl; (with_reducible repeat (first | refine blk_drewN ?_ _ | refine blk_drew ?_ | refine blk_alloc ?_ _)); exact BK125.out) Tryd.underlying27 rfl (by kernel_rfl)) rfl ?_
           exact ⟨_, _, by first | rfl | (simp [errW_none, errW_some] <;> rfl) | (simp only [← hji26]; first | rfl | (simp [errW_none, errW_some] <;> rfl)) | (simp [*, errW_none, errW_some] <;> rfl), by (with_reducible repeat (first | apply Kd.V_alloc | apply Kd.V_drewN | apply Kd.V_drew)); exact Kd.V_mono (Kd.V_far (p := ⟨gb125, 3, none⟩) (Kd.V_far (p := ⟨gb125, 2, none⟩) (Kd.V_far (p := ⟨gb125, 1, none⟩) (Kd.V_far (p := ⟨gb125, 0, none⟩) (Kd.V_mono HL137_2.out (fun k_ hk => (⟨hk, hk.2.2.2.2.1⟩ : _ ∧ k_ ≠ gb125))) (fun _ hk => hk.2) (.int .i64 ((rd_T27 l0_3 (ji26)).f0))) (fun _ hk => hk.2) (.int .u64 ((rd_T27 l0_3 (ji26)).f1))) (fun _ hk => hk.2) (.slice A137_2 ((rd_T27 l0_3 (ji26)).f2).length c137_2)) (fun _ hk => hk.2) (.slice A137_3 ((rd_T27 l0_3 (ji26)).f3).length c137_3)) (fun _ hk => hk.1.1), by (with_reducible repeat (first | apply Kd.V_alloc | apply Kd.V_drewN | apply Kd.V_drew)); exact Kd.V_mono (Kd.V_far (p := ⟨gb125, 3, none⟩) (Kd.V_far (p := ⟨gb125, 2, none⟩) (Kd.V_far (p := ⟨gb125, 1, none⟩) (Kd.V_far (p := ⟨gb125, 0, none⟩) (Kd.V_mono HL137_3.out (fun k_ hk => (⟨hk, hk.2.2.2.2.1⟩ : _ ∧ k_ ≠ gb125))) (fun _ hk => hk.2) (.int .i64 ((rd_T27 l0_3 (ji26)).f0))) (fun _ hk => hk.2) (.int .u64 ((rd_T27 l0_3 (ji26)).f1))) (fun _ hk => hk.2) (.slice A137_2 ((rd_T27 l0_3 (ji26)).f2).length c137_2)) (fun _ hk => hk.2) (.slice A137_3 ((rd_T27 l0_3 (ji26)).f3).length c137_3)) (fun _ hk => hk.1.1), by repeat (first | (with_reducible first | exact HB.out | apply below_alloc | apply pw_below_drewN | apply below_drew1 | refine below_set ?_ GE124.out | refine below_set ?_ GE125.out | refine below_set ?_ GE134.out) | exact HB.out)⟩
          ·rw [if_neg c28] at H
           exact absurd H (by simp)
         ·rw [if_neg c27] at H
          exact absurd H (by simp)
        ·replace c25 := Bool.eq_false_iff.mpr c25
         subst c25
         have H1 : (cbor_Get.l0 kj12 (wrap64 (x7_1 + 2)) a0_0 a0_1 l0_2 l0_3 t126 t127 t128 t131) = some (r1, r2, r3, r4, r5) := by rw [if_neg (show ¬ (false = true) by decide)] at H; exact H
         clear H
         have H := H1
         clear H1
         have H' := Aside0.mk H
         clear H
         try go_wp2
         have n0_ := Aside0.mk (Kd.V_drew HO_125003.out)
         have n1_ := Aside0.mk (Kd.R_drew HO_135002.out)
         have n2_ := Aside0.mk (Kd.R_drew HO_135003.out)
         have n3_ := Aside0.mk (blk_drew BK124.out)
         have n4_ := Aside0.mk (blk_drew BK125.out)
         have n5_ := Aside0.mk (blk_drew BK134.out)
         have n6_ := Aside0.mk (below_drew1 HB.out)
         clear HO_125003
         clear HO_135002
         clear HO_135003
         clear BK124
         clear BK125
         clear BK134
         clear HB
         have HO_125003 := n0_
         have HO_135002 := n1_
         have HO_135003 := n2_
         have BK124 := n3_
         have BK125 := n4_
         have BK134 := n5_
         have HB := n6_
         clear n0_ n1_ n2_ n3_ n4_ n5_ n6_
         have p135 : 0 ≤ (x7_1 : Int) := of_decide_eq_true q95_
         have q135 : x7_1 < (l0_3.length : Int) := of_decide_eq_true q95_
         obtain ⟨ad135, A135_2, c135_2, A135_3, c135_3, e135, hx135_0, hx135_1, hx135_2, hx135_3, hl135_2, hi135_2, hl135_3, hi135_3⟩ := at_T27 (Kd.V_reads' HO_125003.out).2.2 x7_1 p135 q135
         cases e135
         obtain ⟨ce135, hce135, hMe135, hcc135⟩ := Kd.V_get HO_125003.out z27 x7_1 p135 (by first | exact q135 | exact of_decide_eq_true q95_ | (have e_ := (Kd.V_reads' HO_125003.out).1; omega))
         obtain ⟨ua135_2, uc135_2, ua135_3, uc135_3, rfl, ul135_2, ge135_2, ul135_3, ge135_3⟩ := k27_openF hMe135
         have hv135_2 := hcc135 2 _ rfl
         rw [add_field _ _ 2 (by omega)] at hv135_2
         replace hv135_2 := Option.some.inj (hv135_2.symm.trans hx135_2)
         injection hv135_2 with hva_ hvn_ hvc_
         rw [hva_] at ge135_2
         rw [hvc_] at ul135_2
         have HL135_2 := Aside0.mk (show Kd.V (Kd.int .u8) 5 _ w.heap.size _ _ ((rd_T27 l0_3 x7_1).f2) from Kd.V_mk ul135_2 ge135_2)
         clear hva_ hvn_ hvc_ ge135_2 ul135_2
         have hv135_3 := hcc135 3 _ rfl
         rw [add_field _ _ 3 (by omega)] at hv135_3
         replace hv135_3 := Option.some.inj (hv135_3.symm.trans hx135_3)
         injection hv135_3 with hva_ hvn_ hvc_
         rw [hva_] at ge135_3
         rw [hvc_] at ul135_3
         have HL135_3 := Aside0.mk (show Kd.V k27 27 _ w.heap.size _ _ ((rd_T27 l0_3 x7_1).f3) from Kd.V_mk ul135_3 ge135_3)
         clear hva_ hvn_ hvc_ ge135_3 ul135_3
         clear hcc135 hce135
         have HR135_2 := Aside0.mk hi135_2
         have HC135_2 := Aside0.mk hl135_2
         clear hi135_2 hl135_2
         have HR135_3 := Aside0.mk hi135_3
         have HC135_3 := Aside0.mk hl135_3
         clear hi135_3 hl135_3
         replace p135 := eq_true p135
         replace q135 := eq_true q135
         refine start_ (n := 7) (S := fun w' => w'.cell? ⟨gb124, 0, none⟩ = some (.int .i64 a0_0) ∧ w'.cell? ⟨gb124, 1, none⟩ = some (.int .u64 a0_1) ∧ w'.cell? ⟨gb124, 2, none⟩ = some (.slice A0_2 l0_2.length c0_2) ∧ w'.cell? ⟨gb124, 3, none⟩ = some (.slice (some ad135) l0_3.length c0_3) ∧ w'.cell? ⟨gb134, 0, none⟩ = some (.int .i64 t126) ∧ w'.cell? ⟨gb134, 1, none⟩ = some (.int .u64 t127) ∧ w'.cell? ⟨gb134, 2, none⟩ = some (.slice Ao11 t128.length co11) ∧ w'.cell? ⟨gb134, 3, none⟩ = some (.slice Ao12 t131.length co12) ∧ w'.cell? (ad135.add ((x7_1).toNat * 4)) = some (.int .i64 ((rd_T27 l0_3 x7_1).f0)) ∧ w'.cell? ⟨(ad135.add ((x7_1).toNat * 4)).block, (ad135.add ((x7_1).toNat * 4)).off + 1, none⟩ = some (.int .u64 ((rd_T27 l0_3 x7_1).f1)) ∧ w'.cell? ⟨(ad135.add ((x7_1).toNat * 4)).block, (ad135.add ((x7_1).toNat * 4)).off + 2, none⟩ = some (.slice A135_2 ((rd_T27 l0_3 x7_1).f2).length c135_2) ∧ w'.cell? ⟨(ad135.add ((x7_1).toNat * 4)).block, (ad135.add ((x7_1).toNat * 4)).off + 3, none⟩ = some (.slice A135_3 ((rd_T27 l0_3 x7_1).f3).length c135_3)) (ds := []) #[false, false, false, false, false, false, false] (by kernel_rfl) rfl rfl ⟨(blk_cell BK124.out 0).trans rfl, (blk_cell BK124.out 1).trans rfl, (blk_cell BK124.out 2).trans rfl, (blk_cell BK124.out 3).trans rfl, (blk_cell BK134.out 0).trans rfl, (blk_cell BK134.out 1).trans rfl, (blk_cell BK134.out 2).trans rfl, (blk_cell BK134.out 3).trans rfl, hx135_0, hx135_1, hx135_2, hx135_3⟩ (fun hHeld => ?_)
         generalize wc.drew = w36 at HO_125003 HO_135002 HO_135003 BK124 BK125 BK134 HB HL135_2 HL135_3 HR135_2 HR135_3 hx135_0 hx135_1 hx135_2 hx135_3 hHeld ⊢
         refine pure_ (i := 0) (N := some 23) (v := ?_) (a' := ?_) #[true, false, false, false, false, false, false] rfl rfl (by kernel_rfl) (fun _ _ _ h => h) (Or.inl ⟨by rfl, ?_⟩) ?_ ?_
         rotate_left
         ·intro w'
          go_simp
          with_reducible rfl
         rotate_left
         ·simp only [Act.put, List.setIfInBounds_toArray, List.set_cons_zero, List.set_cons_succ, i64_w, i32_w]
          rfl
         refine pure_ (i := 2) (N := some 25) (v := ?_) (a' := ?_) #[true, false, true, false, false, false, false] rfl rfl (by kernel_rfl) (fun _ _ _ h => h) (Or.inl ⟨by rfl, ?_⟩) ?_ ?_
         rotate_left
         ·intro w'
          go_simp
          with_reducible rfl
         rotate_left
         ·simp only [Act.put, List.setIfInBounds_toArray, List.set_cons_zero, List.set_cons_succ, i64_w, i32_w]
          rfl
         refine take_ (i := 1) (N := some 24) (v := ?_) (a' := ?_) #[true, true, true, false, false, false, false] rfl rfl (by kernel_rfl) (fun _ _ _ h => h) (Or.inl ⟨by rfl, ?_⟩) hHeld ?_ ?_
         rotate_left
         ·rintro w' ⟨s0, s1, s2, s3, s4, s5, s6, s7, s8, s9, s10, s11⟩
          go_simp
          with_reducible rfl
         rotate_left
         ·simp only [Act.put, List.setIfInBounds_toArray, List.set_cons_zero, List.set_cons_succ, i64_w, i32_w]
          rfl
         refine pure_ (i := 3) (N := some 26) (v := ?_) (a' := ?_) #[true, true, true, true, false, false, false] rfl rfl (by kernel_rfl) (fun _ _ _ h => h) (Or.inl ⟨by rfl, ?_⟩) ?_ ?_
         rotate_left
         ·intro w'
          go_simp
          with_reducible rfl
         rotate_left
         ·simp only [Act.put, List.setIfInBounds_toArray, List.set_cons_zero, List.set_cons_succ, i64_w, i32_w]
          rfl
         refine take_ (i := 4) (N := some 27) (v := ?_) (a' := ?_) #[true, true, true, true, true, false, false] rfl rfl (by kernel_rfl) (fun _ _ _ h => h) (Or.inl ⟨by rfl, ?_⟩) hHeld ?_ ?_
         rotate_left
         ·rintro w' ⟨s0, s1, s2, s3, s4, s5, s6, s7, s8, s9, s10, s11⟩
          go_simp
          with_reducible rfl
         rotate_left
         ·simp only [Act.put, List.setIfInBounds_toArray, List.set_cons_zero, List.set_cons_succ, i64_w, i32_w]
          rfl
         refine take_ (i := 5) (N := some 28) (v := ?_) (a' := ?_) #[true, true, true, true, true, true, false] rfl rfl (by kernel_rfl) (fun _ _ _ h => h) (Or.inl ⟨by rfl, ?_⟩) hHeld ?_ ?_
         rotate_left
         ·rintro w' ⟨s0, s1, s2, s3, s4, s5, s6, s7, s8, s9, s10, s11⟩
          go_simp
          with_reducible rfl
         rotate_left
         ·simp only [Act.put, List.setIfInBounds_toArray, List.set_cons_zero, List.set_cons_succ, i64_w, i32_w]
          rfl
         refine one_ (i := 6) (N := some 29) #[true, true, true, true, true, true, true] rfl rfl (by kernel_rfl) (by decide) (fun K hK => ?_)
         refine goes_ Tryd.func49 (by kernel_rfl) rfl #[.agg #[.int .i64 ((rd_T27 l0_3 x7_1).f0), .int .u64 ((rd_T27 l0_3 x7_1).f1), .slice A135_2 ((rd_T27 l0_3 x7_1).f2).length c135_2, .slice A135_3 ((rd_T27 l0_3 x7_1).f3).length c135_3], .agg #[.int .i64 t126, .int .u64 t127, .slice Ao11 t128.length co11, .slice Ao12 t131.length co12]] (by rfl) rfl rfl q43_ ?_
         with_reducible refine (cbor_Same.calls kj12 ((rd_T27 l0_3 x7_1).f0) ((rd_T27 l0_3 x7_1).f1) _ _ ((rd_T27 l0_3 x7_1).f2) _ _ ((rd_T27 l0_3 x7_1).f3) t126 t127 _ _ t128 _ _ t131 false _ ?side1 ?side2 ?side3 ?side4 ?side5 ?side6 ?side7 ?side8 A24.out).mono ?_
         (case side1 => repeat (first | exact q30_ | (with_reducible refine Kd.C_alloc ?_ _) | (with_reducible refine Kd.C_drewN ?_ _) | (with_reducible refine Kd.C_drew ?_)))
         (case side2 => exact HC135_2.out)
         (case side3 => repeat (first | exact q31_ | (with_reducible refine Kd.C_alloc ?_ _) | (with_reducible refine Kd.C_drewN ?_ _) | (with_reducible refine Kd.C_drew ?_)))
         (case side4 => exact HC135_3.out)
         (case side5 => repeat (first | exact (Kd.R_reads' HO_135002.out).2.2 | (with_reducible refine Kd.C_alloc ?_ _) | (with_reducible refine Kd.C_drewN ?_ _) | (with_reducible refine Kd.C_drew ?_)))
         (case side6 => exact (Kd.R_reads' HO_135002.out).2.1)
         (case side7 => repeat (first | exact (Kd.R_reads' HO_135003.out).2.2 | (with_reducible refine Kd.C_alloc ?_ _) | (with_reducible refine Kd.C_drewN ?_ _) | (with_reducible refine Kd.C_drew ?_)))
         (case side8 => exact (Kd.R_reads' HO_135003.out).2.1)
         rintro e w37 ⟨rfl, hb⟩
         have HS8_ := (hb.cell (World.block_lt_of_cell? _ _ (hHeld.2.2.2.2.2.2.2.2.1))).trans (hHeld.2.2.2.2.2.2.2.2.1)
         have HS9_ := (hb.cell (World.block_lt_of_cell? _ _ (hHeld.2.2.2.2.2.2.2.2.2.1))).trans (hHeld.2.2.2.2.2.2.2.2.2.1)
         have HS10_ := (hb.cell (World.block_lt_of_cell? _ _ (hHeld.2.2.2.2.2.2.2.2.2.2.1))).trans (hHeld.2.2.2.2.2.2.2.2.2.2.1)
         have HS11_ := (hb.cell (World.block_lt_of_cell? _ _ (hHeld.2.2.2.2.2.2.2.2.2.2.2))).trans (hHeld.2.2.2.2.2.2.2.2.2.2.2)
         refine ⟨_, rfl, ?_⟩
         have n0_ := Aside0.mk (Kd.V_below (by (with_reducible repeat (first | apply Kd.V_alloc | apply Kd.V_drewN | apply Kd.V_drew)); exact HO_125003.out) hb)
         have n1_ := Aside0.mk (Kd.R_below (by (with_reducible repeat (first | apply Kd.R_alloc | apply Kd.R_drewN | apply Kd.R_drew)); exact HO_135002.out) hb)
         have n2_ := Aside0.mk (Kd.R_below (by (with_reducible repeat (first | apply Kd.R_alloc | apply Kd.R_drewN | apply Kd.R_drew)); exact HO_135003.out) hb)
         have n3_ := Aside0.mk (Kd.V_below (by (with_reducible repeat (first | apply Kd.V_alloc | apply Kd.V_drewN | apply Kd.V_drew)); exact HL135_2.out) hb)
         have n4_ := Aside0.mk (Kd.V_below (by (with_reducible repeat (first | apply Kd.V_alloc | apply Kd.V_drewN | apply Kd.V_drew)); exact HL135_3.out) hb)
         have n5_ := Aside0.mk (blk_below (g := gb124) (o := .cells #[.int .i64 a0_0, .int .u64 a0_1, .slice A0_2 l0_2.length c0_2, .slice (some ad135) l0_3.length c0_3] 27 (0, 0)) q46_ hb)
         have n6_ := Aside0.mk (blk_below (g := gb125) (o := .cells #[.int .i64 x126000_1, .int .u64 x126001_1, .slice none 0 0, .slice none 0 0] 27 (0, 0)) q47_ hb)
         have n7_ := Aside0.mk (blk_below (g := gb134) (o := .cells #[.int .i64 t126, .int .u64 t127, .slice Ao11 t128.length co11, .slice Ao12 t131.length co12] 27 (0, 0)) (by (with_reducible repeat (first | refine blk_drewN ?_ _ | refine blk_drew ?_ | refine blk_alloc ?_ _)); exact BK134.out) hb)
         have n8_ := Aside0.mk (Kd.C_below q30_ hb)
         have n9_ := Aside0.mk (Kd.C_below q31_ hb)
         have n10_ := Aside0.mk (below_step q21_ hb)
         clear HO_125003
         clear HO_135002
         clear HO_135003
         clear HL135_2
         clear HL135_3
         clear BK124
         clear BK125
         clear BK134
         clear HR135_2
         clear HR135_3
         clear HB
         have HO_125003 := n0_
         have HO_135002 := n1_
         have HO_135003 := n2_
         have HL135_2 := n3_
         have HL135_3 := n4_
         have BK124 := n5_
         have BK125 := n6_
         have BK134 := n7_
         have HR135_2 := n8_
         have HR135_3 := n9_
         have HB := n10_
         clear n0_ n1_ n2_ n3_ n4_ n5_ n6_ n7_ n8_ n9_ n10_
         (try clear hb)
         (try clear hb2)
         (try clear hk)
         (try clear hi)
         refine hK.out _ _ ⟨(blk_cell BK124.out 0).trans rfl, (blk_cell BK124.out 1).trans rfl, (blk_cell BK124.out 2).trans rfl, (blk_cell BK124.out 3).trans rfl, (blk_cell BK134.out 0).trans rfl, (blk_cell BK134.out 1).trans rfl, (blk_cell BK134.out 2).trans rfl, (blk_cell BK134.out 3).trans rfl, HS8_, HS9_, HS10_, HS11_⟩ (fun hHeld => ?_)
         clear hK K
         refine norm_ (a' := ?_) ?_ ?_
         rotate_left
         ·show Act.put _ (some 29) _ = _
          simp only [Act.put, List.setIfInBounds_toArray, List.set_cons_zero, List.set_cons_succ, i64_w, i32_w]
          rfl
         refine done_ (by kernel_rfl) ?_
         try go_wp2
         go_roundg kj12
         case measure => have := HK1.out; have := HJ12.out; omega
         case rel => exact ⟨(wrap64 (x7_1 + 2)), (x126000_1), (x126001_1), q97_, H', ⟨by have := HK1.out; have := HJ12.out; omega⟩, ⟨by (with_reducible repeat (first | apply Kd.V_alloc | apply Kd.V_drewN | apply Kd.V_drew)); exact HO_125003.out⟩, ⟨by (with_reducible repeat (first | apply Kd.R_alloc | apply Kd.R_drewN | apply Kd.R_drew)); exact HO_135002.out⟩, ⟨by (with_reducible repeat (first | apply Kd.R_alloc | apply Kd.R_drewN | apply Kd.R_drew)); exact HO_135003.out⟩, ⟨by (with_reducible repeat (first | refine blk_drewN ?_ _ | refine blk_drew ?_ | refine blk_alloc ?_ _)); exact BK124.out⟩, ⟨by (with_reducible repeat (first | refine blk_drewN ?_ _ | refine blk_drew ?_ | refine blk_alloc ?_ _)); exact BK125.out⟩, ⟨by (with_reducible repeat (first | refine blk_drewN ?_ _ | refine blk_drew ?_ | refine blk_alloc ?_ _)); exact BK134.out⟩, ⟨by repeat (first | (with_reducible first | exact HB.out | apply below_alloc | apply pw_below_drewN | apply below_drew1 | refine below_set ?_ GE124.out | refine below_set ?_ GE125.out | refine below_set ?_ GE134.out) | exact HB.out)⟩⟩
       ·rw [if_neg c23] at H
        exact absurd H (by simp)
      ·rw [if_neg c22] at H
       exact absurd H (by simp)
     ·replace c21 := Bool.eq_false_iff.mpr c21
      subst c21
      have H1 : (some (0, 0, ([] : List Int), ([] : List (S27)), false)) = some (r1, r2, r3, r4, r5) := by rw [if_neg (show ¬ (false = true) by decide)] at H; exact H
      clear H
      have H := H1
      clear H1
      simp only [Option.some.injEq, Prod.mk.injEq] at H
      obtain ⟨rfl, rfl, rfl, rfl, rfl⟩ := H
      have hnb38 := NB125_124.out
      have hnc38 := NB124_125.out
      have hnb39 := NB125_134.out
      have hnc39 := NB134_125.out
      have hcz40_0 : wc.cell? ⟨gb125, 0, none⟩ = some (.int .i64 x126000_1) := (blk_cell BK125.out 0).trans rfl
      have hcz40_1 : wc.cell? ⟨gb125, 1, none⟩ = some (.int .u64 x126001_1) := (blk_cell BK125.out 1).trans rfl
      have hcz40_2 : wc.cell? ⟨gb125, 2, none⟩ = some (.slice none 0 0) := (blk_cell BK125.out 2).trans rfl
      have hcz40_3 : wc.cell? ⟨gb125, 3, none⟩ = some (.slice none 0 0) := (blk_cell BK125.out 3).trans rfl
      have hfz40_0 := blk_frozen BK125.out 0
      have hfz40_1 := blk_frozen BK125.out 1
      have hfz40_2 := blk_frozen BK125.out 2
      have hfz40_3 := blk_frozen BK125.out 3
      go_wp2
      refine bodyPost_ret (results_ct rfl _ _ gb125 27 #[.int .i64 0, .int .u64 0, .slice none 0 0, .slice none 0 0] (0, 0) _ rfl (by (with_reducible repeat (first | refine blk_drewN ?_ _ | refine blk_drew ?_ | refine blk_alloc ?_ _)); refine blk_put (cs := #[.int .i64 0, .int .u64 0, .slice none 0 0, .slice none 0 0]) ?_ 3 _ rfl; (with_reducible repeat (first | refine blk_drewN ?_ _ | refine blk_drew ?_ | refine blk_alloc ?_ _)); refine blk_put (cs := #[.int .i64 0, .int .u64 0, .slice none 0 0, .slice none 0 0]) ?_ 2 _ rfl; (with_reducible repeat (first | refine blk_drewN ?_ _ | refine blk_drew ?_ | refine blk_alloc ?_ _)); refine blk_put (cs := #[.int .i64 0, .int .u64 x126001_1, .slice none 0 0, .slice none 0 0]) ?_ 1 _ rfl; (with_reducible repeat (first | refine blk_drewN ?_ _ | refine blk_drew ?_ | refine blk_alloc ?_ _)); refine blk_put (cs := #[.int .i64 x126000_1, .int .u64 x126001_1, .slice none 0 0, .slice none 0 0]) ?_ 0 _ rfl; (with_reducible repeat (first | refine blk_drewN ?_ _ | refine blk_drew ?_ | refine blk_alloc ?_ _)); exact BK125.out) Tryd.underlying27 rfl (by kernel_rfl)) rfl ?_
      exact ⟨_, _, by first | rfl | (simp [errW_none, errW_some] <;> rfl) | (simp [*, errW_none, errW_some] <;> rfl), q17_, q17_, by repeat (first | (with_reducible first | exact HB.out | apply below_alloc | apply pw_below_drewN | apply below_drew1 | refine below_set ?_ GE124.out | refine below_set ?_ GE125.out | refine below_set ?_ GE134.out) | exact HB.out)⟩
end Go.Proofs.YthdjmojpnimhjaaDoor.PCbg
