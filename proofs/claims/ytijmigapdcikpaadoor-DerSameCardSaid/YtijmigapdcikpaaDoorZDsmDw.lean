/- the law of DerSame: printed by wip/hand/given/mksame.py -/
import Derived.Test.YtijmigapdcikpaaDoorZDsmGv
import Derived.Test.YtijmigapdcikpaaDoorZPDsmx12
import Derived.Test.YtijmigapdcikpaaDoorZPDsmx13
import Derived.Test.YtijmigapdcikpaaDoorZPDsmx11
namespace Go.Proofs.YtijmigapdcikpaaDoor.PDsm
open Go.RowKit Go.Proofs.YtijmigapdcikpaaDoorW.PrintWords Go.Proofs.YtijmigapdcikpaaDoorW.PrintLast Go.Proofs.YtijmigapdcikpaaDoorW.PrintMore
set_option linter.unusedVariables false
set_option linter.unusedSimpArgs false
def DerSame.T3 : Bool × List (List Nat × List Nat) := (true, [([], []), ([0], [0]), ([], []), ([2, 1], [2]), ([1, 3, 3], [1, 3]), ([], []), ([], []), ([5, 6, 4], [5, 6]), ([4, 7], [4, 7]), ([8, 7], [8]), ([9], [9]), ([10, 9, 9], [9, 10]), ([9], [9]), ([12, 11, 9], [9, 12]), ([11, 13, 13, 9], [9, 11, 13]), ([9, 14], [9, 14]), ([15, 14, 0, 1, 2, 3, 4, 5, 6, 7, 8, 9, 10, 11, 12, 13, 14, 15], [15])])
def DerSame.B3 : List Nat := [0, 1, 0, 7, 15, 0, 0, 127, 255, 511, 1023, 2047, 1023, 8191, 16383, 32767, 65535]
theorem DerSame.tab3 : rtab .any (opsOf Tryd.f4 3) = DerSame.T3 := by kernel_rfl
theorem DerSame.bits3 : waitsOk DerSame.T3.2 DerSame.B3 = true := by kernel_rfl
set_option maxHeartbeats 8000000 in
set_option maxRecDepth 100000 in
theorem DerSame.calls (a0 : Int) (A1 : Option Addr) (c1 : Nat) (l1 : List Int) (A2 : Option Addr) (c2 : Nat) (l2 : List S33) (b0 : Int) (B1 : Option Addr) (d1 : Nat) (m1 : List Int) (B2 : Option Addr) (d2 : Nat) (m2 : List S33) (w : World)
    (hr1 : Kd.C (Kd.int .u8) w A1 l1.length l1) (hc1 : l1.length ≤ c1) (hr2 : Kd.C k33 w A2 l2.length l2) (hc2 : l2.length ≤ c2) (hs1 : Kd.C (Kd.int .u8) w B1 m1.length m1) (hd1 : m1.length ≤ d1) (hs2 : Kd.C k33 w B2 m2.length m2) (hd2 : m2.length ≤ d2) (hG : GOK w)
    (kA kF kH kg kh ks kt ku : Nat) (fa fb s : Bool) (ga gb : List S26) (hA : pyxlaw08_awake.f kA = some true) (hF : pyxref08_Few.f kF a0 l1 l2 = some fa) (hH : pyxref08_Few.f kH b0 m1 m2 = some fb)
    (hg : pyxlaw08_given.f kg l2 = some ga) (hh : pyxlaw08_given.f kh m2 = some gb) (hs : der_Same.f ks a0 l1 ga b0 m1 gb = some s) (ht : pyxref08_Same.f kt a0 l1 l2 b0 m1 m2 = some s) (hu : der_Same.f ku a0 l1 ga a0 l1 ga = some true) :
    Calls Tryd.prog 4 #[.agg #[.int .u8 a0, .slice A1 l1.length c1, .slice A2 l2.length c2], .agg #[.int .u8 b0, .slice B1 m1.length d1, .slice B2 m2.length d2]] w fun e w' => e = .returned (.bool true) ∧ Below w.heap.size w w' := by
  have hu33 := Tryd.underlying33
  have hu26 := Tryd.underlying26
  have HG := Aside0.mk hG
  have HB := Aside0.mk (Below.refl w.heap.size w)
  have HA := Aside0.mk hA
  have HF := Aside0.mk hF
  have HH := Aside0.mk hH
  have Hg := Aside0.mk hg
  have Hh := Aside0.mk hh
  have Hs := Aside0.mk hs
  have Ht := Aside0.mk ht
  have Hu := Aside0.mk hu
  have R1 := Aside0.mk hr1
  have R2 := Aside0.mk hr2
  have S1 := Aside0.mk hs1
  have S2 := Aside0.mk hs2
  have K1 := Aside0.mk hc1
  have K2 := Aside0.mk hc2
  have K3 := Aside0.mk hd1
  have K4 := Aside0.mk hd2
  clear hG hA hF hH hg hh hs ht hu hr1 hr2 hs1 hs2 hc1 hc2 hd1 hd2
  go_enter Tryd.func4, Tryd.ntmps4
  cases fa
  case false =>
    go_wp2_with (first | ((with_reducible refine gate_dst (N := 2) rfl ?_); (try (refine gate_guard (by rfl) ?_; dsimp only)); refine box_event ?hg (N := 2) ?hd (cs := #[.int .u8 a0, .slice A1 l1.length c1, .slice A2 l2.length c2]) (t := 33) ?hr ?_; (case hd => rfl); (case hg => rfl); (case hr => first | (go_simp; done) | (go_simp; rfl)); intro ga_ hg_ w1 hbox hb; have n0_ := Aside0.mk (below_step (by repeat (first | (with_reducible first | exact HB.out | apply below_alloc | apply pw_below_drewN | apply below_drew1) | exact HB.out)) hb); clear HB; have HB := n0_; have BKga_ := Aside0.mk hbox; clear n0_ hb hbox hg_) | ((with_reducible refine gate_dst (N := 3) rfl ?_); (try (refine gate_guard (by rfl) ?_; dsimp only)); refine box_event ?hg (N := 3) ?hd (cs := #[.int .u8 b0, .slice B1 m1.length d1, .slice B2 m2.length d2]) (t := 33) ?hr ?_; (case hd => rfl); (case hg => rfl); (case hr => first | (go_simp; done) | (go_simp; rfl)); intro gb_ hg_ w2 hbox hb; have n0_ := Aside0.mk (blk_below (g := ga_) (o := .cells #[.int .u8 a0, .slice A1 l1.length c1, .slice A2 l2.length c2] 33 (0, 0)) (by (with_reducible repeat (first | refine blk_drewN ?_ _ | refine blk_drew ?_ | refine blk_alloc ?_ _)); exact BKga_.out) hb); have n1_ := Aside0.mk (below_step (by repeat (first | (with_reducible first | exact HB.out | apply below_alloc | apply pw_below_drewN | apply below_drew1) | exact HB.out)) hb); clear HB BKga_; have BKga_ := n0_; have HB := n1_; have BKgb_ := Aside0.mk hbox; clear n0_ n1_ hb hbox hg_; have hcga_w2_0 : w2.cell? ⟨ga_, 0, none⟩ = some (.int .u8 a0) := (blk_cell BKga_.out 0).trans rfl; have hfga_w2_0 := blk_frozen BKga_.out 0; have hcga_w2_1 : w2.cell? ⟨ga_, 1, none⟩ = some (.slice A1 l1.length c1) := (blk_cell BKga_.out 1).trans rfl; have hfga_w2_1 := blk_frozen BKga_.out 1; have hcga_w2_2 : w2.cell? ⟨ga_, 2, none⟩ = some (.slice A2 l2.length c2) := (blk_cell BKga_.out 2).trans rfl; have hfga_w2_2 := blk_frozen BKga_.out 2; have hcgb_w2_0 : w2.cell? ⟨gb_, 0, none⟩ = some (.int .u8 b0) := (blk_cell BKgb_.out 0).trans rfl; have hfgb_w2_0 := blk_frozen BKgb_.out 0; have hcgb_w2_1 : w2.cell? ⟨gb_, 1, none⟩ = some (.slice B1 m1.length d1) := (blk_cell BKgb_.out 1).trans rfl; have hfgb_w2_1 := blk_frozen BKgb_.out 1; have hcgb_w2_2 : w2.cell? ⟨gb_, 2, none⟩ = some (.slice B2 m2.length d2) := (blk_cell BKgb_.out 2).trans rfl; have hfgb_w2_2 := blk_frozen BKgb_.out 2) | (go_at_call 11; (with_reducible refine (pyxlaw08_awake.calls kA true _ HA.out (by first | exact GOK.below HG.out (by repeat (first | (with_reducible first | exact HB.out | apply below_alloc | apply pw_below_drewN | apply below_drew1) | exact HB.out)) | (repeat (first | exact HG.out | apply GOK.drewN | apply GOK.drew)))).mono ?_); rintro e w3 ⟨rfl, hb⟩; have n0_ := Aside0.mk (blk_below (g := ga_) (o := .cells #[.int .u8 a0, .slice A1 l1.length c1, .slice A2 l2.length c2] 33 (0, 0)) (by (with_reducible repeat (first | refine blk_drewN ?_ _ | refine blk_drew ?_ | refine blk_alloc ?_ _)); exact BKga_.out) hb); have n1_ := Aside0.mk (blk_below (g := gb_) (o := .cells #[.int .u8 b0, .slice B1 m1.length d1, .slice B2 m2.length d2] 33 (0, 0)) (by (with_reducible repeat (first | refine blk_drewN ?_ _ | refine blk_drew ?_ | refine blk_alloc ?_ _)); exact BKgb_.out) hb); have n2_ := Aside0.mk (below_step (by repeat (first | (with_reducible first | exact HB.out | apply below_alloc | apply pw_below_drewN | apply below_drew1) | exact HB.out)) hb); clear BKga_ BKgb_ HB; have BKga_ := n0_; have BKgb_ := n1_; have HB := n2_; clear n0_ n1_ n2_ hb; have hcga_w3_0 : w3.cell? ⟨ga_, 0, none⟩ = some (.int .u8 a0) := (blk_cell BKga_.out 0).trans rfl; have hfga_w3_0 := blk_frozen BKga_.out 0; have hcga_w3_1 : w3.cell? ⟨ga_, 1, none⟩ = some (.slice A1 l1.length c1) := (blk_cell BKga_.out 1).trans rfl; have hfga_w3_1 := blk_frozen BKga_.out 1; have hcga_w3_2 : w3.cell? ⟨ga_, 2, none⟩ = some (.slice A2 l2.length c2) := (blk_cell BKga_.out 2).trans rfl; have hfga_w3_2 := blk_frozen BKga_.out 2; have hcgb_w3_0 : w3.cell? ⟨gb_, 0, none⟩ = some (.int .u8 b0) := (blk_cell BKgb_.out 0).trans rfl; have hfgb_w3_0 := blk_frozen BKgb_.out 0; have hcgb_w3_1 : w3.cell? ⟨gb_, 1, none⟩ = some (.slice B1 m1.length d1) := (blk_cell BKgb_.out 1).trans rfl; have hfgb_w3_1 := blk_frozen BKgb_.out 1; have hcgb_w3_2 : w3.cell? ⟨gb_, 2, none⟩ = some (.slice B2 m2.length d2) := (blk_cell BKgb_.out 2).trans rfl; have hfgb_w3_2 := blk_frozen BKgb_.out 2) | (go_at_call 18; (with_reducible refine (pyxref08_Few.calls kF a0 _ _ l1 _ _ l2 false _ ?side1 ?side2 ?side3 ?side4 HF.out).mono ?_); (case side1 => repeat (first | exact (Kd.C_below R1.out HB.out) | (with_reducible refine Kd.C_alloc ?_ _) | (with_reducible refine Kd.C_drewN ?_ _) | (with_reducible refine Kd.C_drew ?_))); (case side2 => exact K1.out); (case side3 => repeat (first | exact (Kd.C_below R2.out HB.out) | (with_reducible refine Kd.C_alloc ?_ _) | (with_reducible refine Kd.C_drewN ?_ _) | (with_reducible refine Kd.C_drew ?_))); (case side4 => exact K2.out); rintro e w4 ⟨rfl, hb⟩; have n0_ := Aside0.mk (blk_below (g := ga_) (o := .cells #[.int .u8 a0, .slice A1 l1.length c1, .slice A2 l2.length c2] 33 (0, 0)) (by (with_reducible repeat (first | refine blk_drewN ?_ _ | refine blk_drew ?_ | refine blk_alloc ?_ _)); exact BKga_.out) hb); have n1_ := Aside0.mk (blk_below (g := gb_) (o := .cells #[.int .u8 b0, .slice B1 m1.length d1, .slice B2 m2.length d2] 33 (0, 0)) (by (with_reducible repeat (first | refine blk_drewN ?_ _ | refine blk_drew ?_ | refine blk_alloc ?_ _)); exact BKgb_.out) hb); have n2_ := Aside0.mk (below_step (by repeat (first | (with_reducible first | exact HB.out | apply below_alloc | apply pw_below_drewN | apply below_drew1) | exact HB.out)) hb); clear BKga_ BKgb_ HB; have BKga_ := n0_; have BKgb_ := n1_; have HB := n2_; clear n0_ n1_ n2_ hb; have hcga_w4_0 : w4.cell? ⟨ga_, 0, none⟩ = some (.int .u8 a0) := (blk_cell BKga_.out 0).trans rfl; have hfga_w4_0 := blk_frozen BKga_.out 0; have hcga_w4_1 : w4.cell? ⟨ga_, 1, none⟩ = some (.slice A1 l1.length c1) := (blk_cell BKga_.out 1).trans rfl; have hfga_w4_1 := blk_frozen BKga_.out 1; have hcga_w4_2 : w4.cell? ⟨ga_, 2, none⟩ = some (.slice A2 l2.length c2) := (blk_cell BKga_.out 2).trans rfl; have hfga_w4_2 := blk_frozen BKga_.out 2; have hcgb_w4_0 : w4.cell? ⟨gb_, 0, none⟩ = some (.int .u8 b0) := (blk_cell BKgb_.out 0).trans rfl; have hfgb_w4_0 := blk_frozen BKgb_.out 0; have hcgb_w4_1 : w4.cell? ⟨gb_, 1, none⟩ = some (.slice B1 m1.length d1) := (blk_cell BKgb_.out 1).trans rfl; have hfgb_w4_1 := blk_frozen BKgb_.out 1; have hcgb_w4_2 : w4.cell? ⟨gb_, 2, none⟩ = some (.slice B2 m2.length d2) := (blk_cell BKgb_.out 2).trans rfl; have hfgb_w4_2 := blk_frozen BKgb_.out 2) | (go_at_call 11; (with_reducible refine (pyxlaw08_awake.calls kA true _ HA.out (by first | exact GOK.below HG.out (by repeat (first | (with_reducible first | exact HB.out | apply below_alloc | apply pw_below_drewN | apply below_drew1) | exact HB.out)) | (repeat (first | exact HG.out | apply GOK.drewN | apply GOK.drew)))).mono ?_); rintro e w6 ⟨rfl, hb⟩; have n0_ := Aside0.mk (blk_below (g := ga_) (o := .cells #[.int .u8 a0, .slice A1 l1.length c1, .slice A2 l2.length c2] 33 (0, 0)) (by (with_reducible repeat (first | refine blk_drewN ?_ _ | refine blk_drew ?_ | refine blk_alloc ?_ _)); exact BKga_.out) hb); have n1_ := Aside0.mk (blk_below (g := gb_) (o := .cells #[.int .u8 b0, .slice B1 m1.length d1, .slice B2 m2.length d2] 33 (0, 0)) (by (with_reducible repeat (first | refine blk_drewN ?_ _ | refine blk_drew ?_ | refine blk_alloc ?_ _)); exact BKgb_.out) hb); have n2_ := Aside0.mk (below_step (by repeat (first | (with_reducible first | exact HB.out | apply below_alloc | apply pw_below_drewN | apply below_drew1) | exact HB.out)) hb); clear BKga_ BKgb_ HB; have BKga_ := n0_; have BKgb_ := n1_; have HB := n2_; clear n0_ n1_ n2_ hb; have hcga_w6_0 : w6.cell? ⟨ga_, 0, none⟩ = some (.int .u8 a0) := (blk_cell BKga_.out 0).trans rfl; have hfga_w6_0 := blk_frozen BKga_.out 0; have hcga_w6_1 : w6.cell? ⟨ga_, 1, none⟩ = some (.slice A1 l1.length c1) := (blk_cell BKga_.out 1).trans rfl; have hfga_w6_1 := blk_frozen BKga_.out 1; have hcga_w6_2 : w6.cell? ⟨ga_, 2, none⟩ = some (.slice A2 l2.length c2) := (blk_cell BKga_.out 2).trans rfl; have hfga_w6_2 := blk_frozen BKga_.out 2; have hcgb_w6_0 : w6.cell? ⟨gb_, 0, none⟩ = some (.int .u8 b0) := (blk_cell BKgb_.out 0).trans rfl; have hfgb_w6_0 := blk_frozen BKgb_.out 0; have hcgb_w6_1 : w6.cell? ⟨gb_, 1, none⟩ = some (.slice B1 m1.length d1) := (blk_cell BKgb_.out 1).trans rfl; have hfgb_w6_1 := blk_frozen BKgb_.out 1; have hcgb_w6_2 : w6.cell? ⟨gb_, 2, none⟩ = some (.slice B2 m2.length d2) := (blk_cell BKgb_.out 2).trans rfl; have hfgb_w6_2 := blk_frozen BKgb_.out 2))
    go_ret
    exact ⟨rfl, (by repeat (first | (with_reducible first | exact HB.out | apply below_alloc | apply pw_below_drewN | apply below_drew1) | exact HB.out))⟩
  cases fb
  case false =>
    go_wp2_with (first | ((with_reducible refine gate_dst (N := 2) rfl ?_); (try (refine gate_guard (by rfl) ?_; dsimp only)); refine box_event ?hg (N := 2) ?hd (cs := #[.int .u8 a0, .slice A1 l1.length c1, .slice A2 l2.length c2]) (t := 33) ?hr ?_; (case hd => rfl); (case hg => rfl); (case hr => first | (go_simp; done) | (go_simp; rfl)); intro ga_ hg_ w1 hbox hb; have n0_ := Aside0.mk (below_step (by repeat (first | (with_reducible first | exact HB.out | apply below_alloc | apply pw_below_drewN | apply below_drew1) | exact HB.out)) hb); clear HB; have HB := n0_; have BKga_ := Aside0.mk hbox; clear n0_ hb hbox hg_) | ((with_reducible refine gate_dst (N := 3) rfl ?_); (try (refine gate_guard (by rfl) ?_; dsimp only)); refine box_event ?hg (N := 3) ?hd (cs := #[.int .u8 b0, .slice B1 m1.length d1, .slice B2 m2.length d2]) (t := 33) ?hr ?_; (case hd => rfl); (case hg => rfl); (case hr => first | (go_simp; done) | (go_simp; rfl)); intro gb_ hg_ w2 hbox hb; have n0_ := Aside0.mk (blk_below (g := ga_) (o := .cells #[.int .u8 a0, .slice A1 l1.length c1, .slice A2 l2.length c2] 33 (0, 0)) (by (with_reducible repeat (first | refine blk_drewN ?_ _ | refine blk_drew ?_ | refine blk_alloc ?_ _)); exact BKga_.out) hb); have n1_ := Aside0.mk (below_step (by repeat (first | (with_reducible first | exact HB.out | apply below_alloc | apply pw_below_drewN | apply below_drew1) | exact HB.out)) hb); clear HB BKga_; have BKga_ := n0_; have HB := n1_; have BKgb_ := Aside0.mk hbox; clear n0_ n1_ hb hbox hg_; have hcga_w2_0 : w2.cell? ⟨ga_, 0, none⟩ = some (.int .u8 a0) := (blk_cell BKga_.out 0).trans rfl; have hfga_w2_0 := blk_frozen BKga_.out 0; have hcga_w2_1 : w2.cell? ⟨ga_, 1, none⟩ = some (.slice A1 l1.length c1) := (blk_cell BKga_.out 1).trans rfl; have hfga_w2_1 := blk_frozen BKga_.out 1; have hcga_w2_2 : w2.cell? ⟨ga_, 2, none⟩ = some (.slice A2 l2.length c2) := (blk_cell BKga_.out 2).trans rfl; have hfga_w2_2 := blk_frozen BKga_.out 2; have hcgb_w2_0 : w2.cell? ⟨gb_, 0, none⟩ = some (.int .u8 b0) := (blk_cell BKgb_.out 0).trans rfl; have hfgb_w2_0 := blk_frozen BKgb_.out 0; have hcgb_w2_1 : w2.cell? ⟨gb_, 1, none⟩ = some (.slice B1 m1.length d1) := (blk_cell BKgb_.out 1).trans rfl; have hfgb_w2_1 := blk_frozen BKgb_.out 1; have hcgb_w2_2 : w2.cell? ⟨gb_, 2, none⟩ = some (.slice B2 m2.length d2) := (blk_cell BKgb_.out 2).trans rfl; have hfgb_w2_2 := blk_frozen BKgb_.out 2) | (go_at_call 11; (with_reducible refine (pyxlaw08_awake.calls kA true _ HA.out (by first | exact GOK.below HG.out (by repeat (first | (with_reducible first | exact HB.out | apply below_alloc | apply pw_below_drewN | apply below_drew1) | exact HB.out)) | (repeat (first | exact HG.out | apply GOK.drewN | apply GOK.drew)))).mono ?_); rintro e w3 ⟨rfl, hb⟩; have n0_ := Aside0.mk (blk_below (g := ga_) (o := .cells #[.int .u8 a0, .slice A1 l1.length c1, .slice A2 l2.length c2] 33 (0, 0)) (by (with_reducible repeat (first | refine blk_drewN ?_ _ | refine blk_drew ?_ | refine blk_alloc ?_ _)); exact BKga_.out) hb); have n1_ := Aside0.mk (blk_below (g := gb_) (o := .cells #[.int .u8 b0, .slice B1 m1.length d1, .slice B2 m2.length d2] 33 (0, 0)) (by (with_reducible repeat (first | refine blk_drewN ?_ _ | refine blk_drew ?_ | refine blk_alloc ?_ _)); exact BKgb_.out) hb); have n2_ := Aside0.mk (below_step (by repeat (first | (with_reducible first | exact HB.out | apply below_alloc | apply pw_below_drewN | apply below_drew1) | exact HB.out)) hb); clear BKga_ BKgb_ HB; have BKga_ := n0_; have BKgb_ := n1_; have HB := n2_; clear n0_ n1_ n2_ hb; have hcga_w3_0 : w3.cell? ⟨ga_, 0, none⟩ = some (.int .u8 a0) := (blk_cell BKga_.out 0).trans rfl; have hfga_w3_0 := blk_frozen BKga_.out 0; have hcga_w3_1 : w3.cell? ⟨ga_, 1, none⟩ = some (.slice A1 l1.length c1) := (blk_cell BKga_.out 1).trans rfl; have hfga_w3_1 := blk_frozen BKga_.out 1; have hcga_w3_2 : w3.cell? ⟨ga_, 2, none⟩ = some (.slice A2 l2.length c2) := (blk_cell BKga_.out 2).trans rfl; have hfga_w3_2 := blk_frozen BKga_.out 2; have hcgb_w3_0 : w3.cell? ⟨gb_, 0, none⟩ = some (.int .u8 b0) := (blk_cell BKgb_.out 0).trans rfl; have hfgb_w3_0 := blk_frozen BKgb_.out 0; have hcgb_w3_1 : w3.cell? ⟨gb_, 1, none⟩ = some (.slice B1 m1.length d1) := (blk_cell BKgb_.out 1).trans rfl; have hfgb_w3_1 := blk_frozen BKgb_.out 1; have hcgb_w3_2 : w3.cell? ⟨gb_, 2, none⟩ = some (.slice B2 m2.length d2) := (blk_cell BKgb_.out 2).trans rfl; have hfgb_w3_2 := blk_frozen BKgb_.out 2) | (go_at_call 18; (with_reducible refine (pyxref08_Few.calls kF a0 _ _ l1 _ _ l2 true _ ?side1 ?side2 ?side3 ?side4 HF.out).mono ?_); (case side1 => repeat (first | exact (Kd.C_below R1.out HB.out) | (with_reducible refine Kd.C_alloc ?_ _) | (with_reducible refine Kd.C_drewN ?_ _) | (with_reducible refine Kd.C_drew ?_))); (case side2 => exact K1.out); (case side3 => repeat (first | exact (Kd.C_below R2.out HB.out) | (with_reducible refine Kd.C_alloc ?_ _) | (with_reducible refine Kd.C_drewN ?_ _) | (with_reducible refine Kd.C_drew ?_))); (case side4 => exact K2.out); rintro e w4 ⟨rfl, hb⟩; have n0_ := Aside0.mk (blk_below (g := ga_) (o := .cells #[.int .u8 a0, .slice A1 l1.length c1, .slice A2 l2.length c2] 33 (0, 0)) (by (with_reducible repeat (first | refine blk_drewN ?_ _ | refine blk_drew ?_ | refine blk_alloc ?_ _)); exact BKga_.out) hb); have n1_ := Aside0.mk (blk_below (g := gb_) (o := .cells #[.int .u8 b0, .slice B1 m1.length d1, .slice B2 m2.length d2] 33 (0, 0)) (by (with_reducible repeat (first | refine blk_drewN ?_ _ | refine blk_drew ?_ | refine blk_alloc ?_ _)); exact BKgb_.out) hb); have n2_ := Aside0.mk (below_step (by repeat (first | (with_reducible first | exact HB.out | apply below_alloc | apply pw_below_drewN | apply below_drew1) | exact HB.out)) hb); clear BKga_ BKgb_ HB; have BKga_ := n0_; have BKgb_ := n1_; have HB := n2_; clear n0_ n1_ n2_ hb; have hcga_w4_0 : w4.cell? ⟨ga_, 0, none⟩ = some (.int .u8 a0) := (blk_cell BKga_.out 0).trans rfl; have hfga_w4_0 := blk_frozen BKga_.out 0; have hcga_w4_1 : w4.cell? ⟨ga_, 1, none⟩ = some (.slice A1 l1.length c1) := (blk_cell BKga_.out 1).trans rfl; have hfga_w4_1 := blk_frozen BKga_.out 1; have hcga_w4_2 : w4.cell? ⟨ga_, 2, none⟩ = some (.slice A2 l2.length c2) := (blk_cell BKga_.out 2).trans rfl; have hfga_w4_2 := blk_frozen BKga_.out 2; have hcgb_w4_0 : w4.cell? ⟨gb_, 0, none⟩ = some (.int .u8 b0) := (blk_cell BKgb_.out 0).trans rfl; have hfgb_w4_0 := blk_frozen BKgb_.out 0; have hcgb_w4_1 : w4.cell? ⟨gb_, 1, none⟩ = some (.slice B1 m1.length d1) := (blk_cell BKgb_.out 1).trans rfl; have hfgb_w4_1 := blk_frozen BKgb_.out 1; have hcgb_w4_2 : w4.cell? ⟨gb_, 2, none⟩ = some (.slice B2 m2.length d2) := (blk_cell BKgb_.out 2).trans rfl; have hfgb_w4_2 := blk_frozen BKgb_.out 2) | (go_at_call 18; (with_reducible refine (pyxref08_Few.calls kH b0 _ _ m1 _ _ m2 false _ ?side1 ?side2 ?side3 ?side4 HH.out).mono ?_); (case side1 => repeat (first | exact (Kd.C_below S1.out HB.out) | (with_reducible refine Kd.C_alloc ?_ _) | (with_reducible refine Kd.C_drewN ?_ _) | (with_reducible refine Kd.C_drew ?_))); (case side2 => exact K3.out); (case side3 => repeat (first | exact (Kd.C_below S2.out HB.out) | (with_reducible refine Kd.C_alloc ?_ _) | (with_reducible refine Kd.C_drewN ?_ _) | (with_reducible refine Kd.C_drew ?_))); (case side4 => exact K4.out); rintro e w5 ⟨rfl, hb⟩; have n0_ := Aside0.mk (blk_below (g := ga_) (o := .cells #[.int .u8 a0, .slice A1 l1.length c1, .slice A2 l2.length c2] 33 (0, 0)) (by (with_reducible repeat (first | refine blk_drewN ?_ _ | refine blk_drew ?_ | refine blk_alloc ?_ _)); exact BKga_.out) hb); have n1_ := Aside0.mk (blk_below (g := gb_) (o := .cells #[.int .u8 b0, .slice B1 m1.length d1, .slice B2 m2.length d2] 33 (0, 0)) (by (with_reducible repeat (first | refine blk_drewN ?_ _ | refine blk_drew ?_ | refine blk_alloc ?_ _)); exact BKgb_.out) hb); have n2_ := Aside0.mk (below_step (by repeat (first | (with_reducible first | exact HB.out | apply below_alloc | apply pw_below_drewN | apply below_drew1) | exact HB.out)) hb); clear BKga_ BKgb_ HB; have BKga_ := n0_; have BKgb_ := n1_; have HB := n2_; clear n0_ n1_ n2_ hb; have hcga_w5_0 : w5.cell? ⟨ga_, 0, none⟩ = some (.int .u8 a0) := (blk_cell BKga_.out 0).trans rfl; have hfga_w5_0 := blk_frozen BKga_.out 0; have hcga_w5_1 : w5.cell? ⟨ga_, 1, none⟩ = some (.slice A1 l1.length c1) := (blk_cell BKga_.out 1).trans rfl; have hfga_w5_1 := blk_frozen BKga_.out 1; have hcga_w5_2 : w5.cell? ⟨ga_, 2, none⟩ = some (.slice A2 l2.length c2) := (blk_cell BKga_.out 2).trans rfl; have hfga_w5_2 := blk_frozen BKga_.out 2; have hcgb_w5_0 : w5.cell? ⟨gb_, 0, none⟩ = some (.int .u8 b0) := (blk_cell BKgb_.out 0).trans rfl; have hfgb_w5_0 := blk_frozen BKgb_.out 0; have hcgb_w5_1 : w5.cell? ⟨gb_, 1, none⟩ = some (.slice B1 m1.length d1) := (blk_cell BKgb_.out 1).trans rfl; have hfgb_w5_1 := blk_frozen BKgb_.out 1; have hcgb_w5_2 : w5.cell? ⟨gb_, 2, none⟩ = some (.slice B2 m2.length d2) := (blk_cell BKgb_.out 2).trans rfl; have hfgb_w5_2 := blk_frozen BKgb_.out 2) | (go_at_call 11; (with_reducible refine (pyxlaw08_awake.calls kA true _ HA.out (by first | exact GOK.below HG.out (by repeat (first | (with_reducible first | exact HB.out | apply below_alloc | apply pw_below_drewN | apply below_drew1) | exact HB.out)) | (repeat (first | exact HG.out | apply GOK.drewN | apply GOK.drew)))).mono ?_); rintro e w6 ⟨rfl, hb⟩; have n0_ := Aside0.mk (blk_below (g := ga_) (o := .cells #[.int .u8 a0, .slice A1 l1.length c1, .slice A2 l2.length c2] 33 (0, 0)) (by (with_reducible repeat (first | refine blk_drewN ?_ _ | refine blk_drew ?_ | refine blk_alloc ?_ _)); exact BKga_.out) hb); have n1_ := Aside0.mk (blk_below (g := gb_) (o := .cells #[.int .u8 b0, .slice B1 m1.length d1, .slice B2 m2.length d2] 33 (0, 0)) (by (with_reducible repeat (first | refine blk_drewN ?_ _ | refine blk_drew ?_ | refine blk_alloc ?_ _)); exact BKgb_.out) hb); have n2_ := Aside0.mk (below_step (by repeat (first | (with_reducible first | exact HB.out | apply below_alloc | apply pw_below_drewN | apply below_drew1) | exact HB.out)) hb); clear BKga_ BKgb_ HB; have BKga_ := n0_; have BKgb_ := n1_; have HB := n2_; clear n0_ n1_ n2_ hb; have hcga_w6_0 : w6.cell? ⟨ga_, 0, none⟩ = some (.int .u8 a0) := (blk_cell BKga_.out 0).trans rfl; have hfga_w6_0 := blk_frozen BKga_.out 0; have hcga_w6_1 : w6.cell? ⟨ga_, 1, none⟩ = some (.slice A1 l1.length c1) := (blk_cell BKga_.out 1).trans rfl; have hfga_w6_1 := blk_frozen BKga_.out 1; have hcga_w6_2 : w6.cell? ⟨ga_, 2, none⟩ = some (.slice A2 l2.length c2) := (blk_cell BKga_.out 2).trans rfl; have hfga_w6_2 := blk_frozen BKga_.out 2; have hcgb_w6_0 : w6.cell? ⟨gb_, 0, none⟩ = some (.int .u8 b0) := (blk_cell BKgb_.out 0).trans rfl; have hfgb_w6_0 := blk_frozen BKgb_.out 0; have hcgb_w6_1 : w6.cell? ⟨gb_, 1, none⟩ = some (.slice B1 m1.length d1) := (blk_cell BKgb_.out 1).trans rfl; have hfgb_w6_1 := blk_frozen BKgb_.out 1; have hcgb_w6_2 : w6.cell? ⟨gb_, 2, none⟩ = some (.slice B2 m2.length d2) := (blk_cell BKgb_.out 2).trans rfl; have hfgb_w6_2 := blk_frozen BKgb_.out 2))
    go_ret
    exact ⟨rfl, (by repeat (first | (with_reducible first | exact HB.out | apply below_alloc | apply pw_below_drewN | apply below_drew1) | exact HB.out))⟩
  go_upto_region 3 with (first | ((with_reducible refine gate_dst (N := 2) rfl ?_); (try (refine gate_guard (by rfl) ?_; dsimp only)); refine box_event ?hg (N := 2) ?hd (cs := #[.int .u8 a0, .slice A1 l1.length c1, .slice A2 l2.length c2]) (t := 33) ?hr ?_; (case hd => rfl); (case hg => rfl); (case hr => first | (go_simp; done) | (go_simp; rfl)); intro ga_ hg_ w1 hbox hb; have n0_ := Aside0.mk (below_step (by repeat (first | (with_reducible first | exact HB.out | apply below_alloc | apply pw_below_drewN | apply below_drew1) | exact HB.out)) hb); clear HB; have HB := n0_; have BKga_ := Aside0.mk hbox; clear n0_ hb hbox hg_) | ((with_reducible refine gate_dst (N := 3) rfl ?_); (try (refine gate_guard (by rfl) ?_; dsimp only)); refine box_event ?hg (N := 3) ?hd (cs := #[.int .u8 b0, .slice B1 m1.length d1, .slice B2 m2.length d2]) (t := 33) ?hr ?_; (case hd => rfl); (case hg => rfl); (case hr => first | (go_simp; done) | (go_simp; rfl)); intro gb_ hg_ w2 hbox hb; have n0_ := Aside0.mk (blk_below (g := ga_) (o := .cells #[.int .u8 a0, .slice A1 l1.length c1, .slice A2 l2.length c2] 33 (0, 0)) (by (with_reducible repeat (first | refine blk_drewN ?_ _ | refine blk_drew ?_ | refine blk_alloc ?_ _)); exact BKga_.out) hb); have n1_ := Aside0.mk (below_step (by repeat (first | (with_reducible first | exact HB.out | apply below_alloc | apply pw_below_drewN | apply below_drew1) | exact HB.out)) hb); clear HB BKga_; have BKga_ := n0_; have HB := n1_; have BKgb_ := Aside0.mk hbox; clear n0_ n1_ hb hbox hg_; have hcga_w2_0 : w2.cell? ⟨ga_, 0, none⟩ = some (.int .u8 a0) := (blk_cell BKga_.out 0).trans rfl; have hfga_w2_0 := blk_frozen BKga_.out 0; have hcga_w2_1 : w2.cell? ⟨ga_, 1, none⟩ = some (.slice A1 l1.length c1) := (blk_cell BKga_.out 1).trans rfl; have hfga_w2_1 := blk_frozen BKga_.out 1; have hcga_w2_2 : w2.cell? ⟨ga_, 2, none⟩ = some (.slice A2 l2.length c2) := (blk_cell BKga_.out 2).trans rfl; have hfga_w2_2 := blk_frozen BKga_.out 2; have hcgb_w2_0 : w2.cell? ⟨gb_, 0, none⟩ = some (.int .u8 b0) := (blk_cell BKgb_.out 0).trans rfl; have hfgb_w2_0 := blk_frozen BKgb_.out 0; have hcgb_w2_1 : w2.cell? ⟨gb_, 1, none⟩ = some (.slice B1 m1.length d1) := (blk_cell BKgb_.out 1).trans rfl; have hfgb_w2_1 := blk_frozen BKgb_.out 1; have hcgb_w2_2 : w2.cell? ⟨gb_, 2, none⟩ = some (.slice B2 m2.length d2) := (blk_cell BKgb_.out 2).trans rfl; have hfgb_w2_2 := blk_frozen BKgb_.out 2) | (go_at_call 11; (with_reducible refine (pyxlaw08_awake.calls kA true _ HA.out (by first | exact GOK.below HG.out (by repeat (first | (with_reducible first | exact HB.out | apply below_alloc | apply pw_below_drewN | apply below_drew1) | exact HB.out)) | (repeat (first | exact HG.out | apply GOK.drewN | apply GOK.drew)))).mono ?_); rintro e w3 ⟨rfl, hb⟩; have n0_ := Aside0.mk (blk_below (g := ga_) (o := .cells #[.int .u8 a0, .slice A1 l1.length c1, .slice A2 l2.length c2] 33 (0, 0)) (by (with_reducible repeat (first | refine blk_drewN ?_ _ | refine blk_drew ?_ | refine blk_alloc ?_ _)); exact BKga_.out) hb); have n1_ := Aside0.mk (blk_below (g := gb_) (o := .cells #[.int .u8 b0, .slice B1 m1.length d1, .slice B2 m2.length d2] 33 (0, 0)) (by (with_reducible repeat (first | refine blk_drewN ?_ _ | refine blk_drew ?_ | refine blk_alloc ?_ _)); exact BKgb_.out) hb); have n2_ := Aside0.mk (below_step (by repeat (first | (with_reducible first | exact HB.out | apply below_alloc | apply pw_below_drewN | apply below_drew1) | exact HB.out)) hb); clear BKga_ BKgb_ HB; have BKga_ := n0_; have BKgb_ := n1_; have HB := n2_; clear n0_ n1_ n2_ hb; have hcga_w3_0 : w3.cell? ⟨ga_, 0, none⟩ = some (.int .u8 a0) := (blk_cell BKga_.out 0).trans rfl; have hfga_w3_0 := blk_frozen BKga_.out 0; have hcga_w3_1 : w3.cell? ⟨ga_, 1, none⟩ = some (.slice A1 l1.length c1) := (blk_cell BKga_.out 1).trans rfl; have hfga_w3_1 := blk_frozen BKga_.out 1; have hcga_w3_2 : w3.cell? ⟨ga_, 2, none⟩ = some (.slice A2 l2.length c2) := (blk_cell BKga_.out 2).trans rfl; have hfga_w3_2 := blk_frozen BKga_.out 2; have hcgb_w3_0 : w3.cell? ⟨gb_, 0, none⟩ = some (.int .u8 b0) := (blk_cell BKgb_.out 0).trans rfl; have hfgb_w3_0 := blk_frozen BKgb_.out 0; have hcgb_w3_1 : w3.cell? ⟨gb_, 1, none⟩ = some (.slice B1 m1.length d1) := (blk_cell BKgb_.out 1).trans rfl; have hfgb_w3_1 := blk_frozen BKgb_.out 1; have hcgb_w3_2 : w3.cell? ⟨gb_, 2, none⟩ = some (.slice B2 m2.length d2) := (blk_cell BKgb_.out 2).trans rfl; have hfgb_w3_2 := blk_frozen BKgb_.out 2) | (go_at_call 18; (with_reducible refine (pyxref08_Few.calls kF a0 _ _ l1 _ _ l2 true _ ?side1 ?side2 ?side3 ?side4 HF.out).mono ?_); (case side1 => repeat (first | exact (Kd.C_below R1.out HB.out) | (with_reducible refine Kd.C_alloc ?_ _) | (with_reducible refine Kd.C_drewN ?_ _) | (with_reducible refine Kd.C_drew ?_))); (case side2 => exact K1.out); (case side3 => repeat (first | exact (Kd.C_below R2.out HB.out) | (with_reducible refine Kd.C_alloc ?_ _) | (with_reducible refine Kd.C_drewN ?_ _) | (with_reducible refine Kd.C_drew ?_))); (case side4 => exact K2.out); rintro e w4 ⟨rfl, hb⟩; have n0_ := Aside0.mk (blk_below (g := ga_) (o := .cells #[.int .u8 a0, .slice A1 l1.length c1, .slice A2 l2.length c2] 33 (0, 0)) (by (with_reducible repeat (first | refine blk_drewN ?_ _ | refine blk_drew ?_ | refine blk_alloc ?_ _)); exact BKga_.out) hb); have n1_ := Aside0.mk (blk_below (g := gb_) (o := .cells #[.int .u8 b0, .slice B1 m1.length d1, .slice B2 m2.length d2] 33 (0, 0)) (by (with_reducible repeat (first | refine blk_drewN ?_ _ | refine blk_drew ?_ | refine blk_alloc ?_ _)); exact BKgb_.out) hb); have n2_ := Aside0.mk (below_step (by repeat (first | (with_reducible first | exact HB.out | apply below_alloc | apply pw_below_drewN | apply below_drew1) | exact HB.out)) hb); clear BKga_ BKgb_ HB; have BKga_ := n0_; have BKgb_ := n1_; have HB := n2_; clear n0_ n1_ n2_ hb; have hcga_w4_0 : w4.cell? ⟨ga_, 0, none⟩ = some (.int .u8 a0) := (blk_cell BKga_.out 0).trans rfl; have hfga_w4_0 := blk_frozen BKga_.out 0; have hcga_w4_1 : w4.cell? ⟨ga_, 1, none⟩ = some (.slice A1 l1.length c1) := (blk_cell BKga_.out 1).trans rfl; have hfga_w4_1 := blk_frozen BKga_.out 1; have hcga_w4_2 : w4.cell? ⟨ga_, 2, none⟩ = some (.slice A2 l2.length c2) := (blk_cell BKga_.out 2).trans rfl; have hfga_w4_2 := blk_frozen BKga_.out 2; have hcgb_w4_0 : w4.cell? ⟨gb_, 0, none⟩ = some (.int .u8 b0) := (blk_cell BKgb_.out 0).trans rfl; have hfgb_w4_0 := blk_frozen BKgb_.out 0; have hcgb_w4_1 : w4.cell? ⟨gb_, 1, none⟩ = some (.slice B1 m1.length d1) := (blk_cell BKgb_.out 1).trans rfl; have hfgb_w4_1 := blk_frozen BKgb_.out 1; have hcgb_w4_2 : w4.cell? ⟨gb_, 2, none⟩ = some (.slice B2 m2.length d2) := (blk_cell BKgb_.out 2).trans rfl; have hfgb_w4_2 := blk_frozen BKgb_.out 2) | (go_at_call 18; (with_reducible refine (pyxref08_Few.calls kH b0 _ _ m1 _ _ m2 true _ ?side1 ?side2 ?side3 ?side4 HH.out).mono ?_); (case side1 => repeat (first | exact (Kd.C_below S1.out HB.out) | (with_reducible refine Kd.C_alloc ?_ _) | (with_reducible refine Kd.C_drewN ?_ _) | (with_reducible refine Kd.C_drew ?_))); (case side2 => exact K3.out); (case side3 => repeat (first | exact (Kd.C_below S2.out HB.out) | (with_reducible refine Kd.C_alloc ?_ _) | (with_reducible refine Kd.C_drewN ?_ _) | (with_reducible refine Kd.C_drew ?_))); (case side4 => exact K4.out); rintro e w5 ⟨rfl, hb⟩; have n0_ := Aside0.mk (blk_below (g := ga_) (o := .cells #[.int .u8 a0, .slice A1 l1.length c1, .slice A2 l2.length c2] 33 (0, 0)) (by (with_reducible repeat (first | refine blk_drewN ?_ _ | refine blk_drew ?_ | refine blk_alloc ?_ _)); exact BKga_.out) hb); have n1_ := Aside0.mk (blk_below (g := gb_) (o := .cells #[.int .u8 b0, .slice B1 m1.length d1, .slice B2 m2.length d2] 33 (0, 0)) (by (with_reducible repeat (first | refine blk_drewN ?_ _ | refine blk_drew ?_ | refine blk_alloc ?_ _)); exact BKgb_.out) hb); have n2_ := Aside0.mk (below_step (by repeat (first | (with_reducible first | exact HB.out | apply below_alloc | apply pw_below_drewN | apply below_drew1) | exact HB.out)) hb); clear BKga_ BKgb_ HB; have BKga_ := n0_; have BKgb_ := n1_; have HB := n2_; clear n0_ n1_ n2_ hb; have hcga_w5_0 : w5.cell? ⟨ga_, 0, none⟩ = some (.int .u8 a0) := (blk_cell BKga_.out 0).trans rfl; have hfga_w5_0 := blk_frozen BKga_.out 0; have hcga_w5_1 : w5.cell? ⟨ga_, 1, none⟩ = some (.slice A1 l1.length c1) := (blk_cell BKga_.out 1).trans rfl; have hfga_w5_1 := blk_frozen BKga_.out 1; have hcga_w5_2 : w5.cell? ⟨ga_, 2, none⟩ = some (.slice A2 l2.length c2) := (blk_cell BKga_.out 2).trans rfl; have hfga_w5_2 := blk_frozen BKga_.out 2; have hcgb_w5_0 : w5.cell? ⟨gb_, 0, none⟩ = some (.int .u8 b0) := (blk_cell BKgb_.out 0).trans rfl; have hfgb_w5_0 := blk_frozen BKgb_.out 0; have hcgb_w5_1 : w5.cell? ⟨gb_, 1, none⟩ = some (.slice B1 m1.length d1) := (blk_cell BKgb_.out 1).trans rfl; have hfgb_w5_1 := blk_frozen BKgb_.out 1; have hcgb_w5_2 : w5.cell? ⟨gb_, 2, none⟩ = some (.slice B2 m2.length d2) := (blk_cell BKgb_.out 2).trans rfl; have hfgb_w5_2 := blk_frozen BKgb_.out 2))
  (try simp only [Act.put, List.setIfInBounds_toArray, List.set_cons_zero, List.set_cons_succ])
  have n0_ := Aside0.mk (blk_drew BKga_.out)
  have n1_ := Aside0.mk (blk_drew BKgb_.out)
  have n2_ := Aside0.mk (below_drew1 HB.out)
  clear BKga_ BKgb_ HB
  have BKga_ := n0_; have BKgb_ := n1_; have HB := n2_
  clear n0_ n1_ n2_
  refine start_ (n := 17) (S := fun w' => w'.cell? ⟨ga_, 0, none⟩ = some (.int .u8 a0) ∧ w'.cell? ⟨ga_, 1, none⟩ = some (.slice A1 l1.length c1) ∧ w'.cell? ⟨ga_, 2, none⟩ = some (.slice A2 l2.length c2) ∧ w'.cell? ⟨gb_, 0, none⟩ = some (.int .u8 b0) ∧ w'.cell? ⟨gb_, 1, none⟩ = some (.slice B1 m1.length d1) ∧ w'.cell? ⟨gb_, 2, none⟩ = some (.slice B2 m2.length d2)) (ds := []) #[false, false, false, false, false, false, false, false, false, false, false, false, false, false, false, false, false] (by kernel_rfl) rfl rfl ⟨(blk_cell BKga_.out 0).trans rfl, (blk_cell BKga_.out 1).trans rfl, (blk_cell BKga_.out 2).trans rfl, (blk_cell BKgb_.out 0).trans rfl, (blk_cell BKgb_.out 1).trans rfl, (blk_cell BKgb_.out 2).trans rfl⟩ (fun hHeld => ?_); refine with_tabW DerSame.tab3 DerSame.bits3 (fun HT_ HW_ => ?_)
  generalize World.drew _ = wd at BKga_ BKgb_ HB hHeld ⊢
  refine take_ (i := 0) (N := some 18) (v := ?_) (a' := ?_) #[true, false, false, false, false, false, false, false, false, false, false, false, false, false, false, false, false] rfl rfl (take_ofW HT_.out HW_.out (by kernel_rfl)) (fun _ _ _ h => h) (Or.inl ⟨by rfl, ?_⟩) hHeld ?_ ?_
  rotate_left
  · rintro w' ⟨s0, s1, s2, s3, s4, s5⟩
    go_simp
    with_reducible rfl
  rotate_left
  · simp only [Act.put, List.setIfInBounds_toArray, List.set_cons_zero, List.set_cons_succ, i64_w, i32_w]
    rfl
  refine take_ (i := 2) (N := some 20) (v := ?_) (a' := ?_) #[true, false, true, false, false, false, false, false, false, false, false, false, false, false, false, false, false] rfl rfl (take_ofW HT_.out HW_.out (by kernel_rfl)) (fun _ _ _ h => h) (Or.inl ⟨by rfl, ?_⟩) hHeld ?_ ?_
  rotate_left
  · rintro w' ⟨s0, s1, s2, s3, s4, s5⟩
    go_simp
    with_reducible rfl
  rotate_left
  · simp only [Act.put, List.setIfInBounds_toArray, List.set_cons_zero, List.set_cons_succ, i64_w, i32_w]
    rfl
  refine take_ (i := 5) (N := some 23) (v := ?_) (a' := ?_) #[true, false, true, false, false, true, false, false, false, false, false, false, false, false, false, false, false] rfl rfl (take_ofW HT_.out HW_.out (by kernel_rfl)) (fun _ _ _ h => h) (Or.inl ⟨by rfl, ?_⟩) hHeld ?_ ?_
  rotate_left
  · rintro w' ⟨s0, s1, s2, s3, s4, s5⟩
    go_simp
    with_reducible rfl
  rotate_left
  · simp only [Act.put, List.setIfInBounds_toArray, List.set_cons_zero, List.set_cons_succ, i64_w, i32_w]
    rfl
  refine take_ (i := 6) (N := some 24) (v := ?_) (a' := ?_) #[true, false, true, false, false, true, true, false, false, false, false, false, false, false, false, false, false] rfl rfl (take_ofW HT_.out HW_.out (by kernel_rfl)) (fun _ _ _ h => h) (Or.inl ⟨by rfl, ?_⟩) hHeld ?_ ?_
  rotate_left
  · rintro w' ⟨s0, s1, s2, s3, s4, s5⟩
    go_simp
    with_reducible rfl
  rotate_left
  · simp only [Act.put, List.setIfInBounds_toArray, List.set_cons_zero, List.set_cons_succ, i64_w, i32_w]
    rfl
  refine one_ (i := 1) (N := some 19) #[true, true, true, false, false, true, true, false, false, false, false, false, false, false, false, false, false] rfl rfl (one_of HT_.out (by kernel_rfl)) (by decide) (fun K hK => ?_)
  refine goes_ Tryd.func20 (by kernel_rfl) rfl #[.agg #[.int .u8 a0, .slice A1 l1.length c1, .slice A2 l2.length c2]] (by rfl) rfl rfl (by (try simp only [List.map_toArray, List.map_cons, List.map_nil]); first | done | rfl | (simp only [List.length_drop, List.length_take]; rfl)) ?_
  with_reducible refine (pyxlaw08_given.calls kg a0 _ _ l1 _ _ l2 ga w _ R1.out K1.out R2.out K2.out HB.out Hg.out).mono ?_
  rintro e w_1 ⟨v, rfl, hN, hb⟩
  refine ⟨_, rfl, ?_⟩
  obtain ⟨Xa, xa, eva, lea, hCa_⟩ := Kd.N_reads hN
  subst eva
  have LEa := Aside0.mk lea
  have HCan := Aside0.mk hCa_
  clear hN lea hCa_
  have n0_ := Aside0.mk (blk_below (g := ga_) (o := .cells #[.int .u8 a0, .slice A1 l1.length c1, .slice A2 l2.length c2] 33 (0, 0)) (by (with_reducible repeat (first | refine blk_drewN ?_ _ | refine blk_drew ?_ | refine blk_alloc ?_ _)); exact BKga_.out) hb); have n1_ := Aside0.mk (blk_below (g := gb_) (o := .cells #[.int .u8 b0, .slice B1 m1.length d1, .slice B2 m2.length d2] 33 (0, 0)) (by (with_reducible repeat (first | refine blk_drewN ?_ _ | refine blk_drew ?_ | refine blk_alloc ?_ _)); exact BKgb_.out) hb); have n2_ := Aside0.mk (below_step HB.out hb)
  clear BKga_ BKgb_ HB; have BKga_ := n0_; have BKgb_ := n1_; have HB := n2_; clear n0_ n1_ n2_ hb
  refine hK.out _ _ ⟨(blk_cell BKga_.out 0).trans rfl, (blk_cell BKga_.out 1).trans rfl, (blk_cell BKga_.out 2).trans rfl, (blk_cell BKgb_.out 0).trans rfl, (blk_cell BKgb_.out 1).trans rfl, (blk_cell BKgb_.out 2).trans rfl⟩ (fun hHeld => ?_)
  clear hK K
  refine norm_ (a' := ?_) ?_ ?_
  rotate_left
  · show Act.put _ (some 19) _ = _
    simp only [Act.put, List.setIfInBounds_toArray, List.set_cons_zero, List.set_cons_succ, i64_w, i32_w]
    rfl
  have HCa := HCan; clear HCan
  refine one_ (i := 3) (N := some 21) #[true, true, true, true, false, true, true, false, false, false, false, false, false, false, false, false, false] rfl rfl (one_of HT_.out (by kernel_rfl)) (by decide) (fun K hK => ?_)
  refine goes_ Tryd.func20 (by kernel_rfl) rfl #[.agg #[.int .u8 b0, .slice B1 m1.length d1, .slice B2 m2.length d2]] (by rfl) rfl rfl (by (try simp only [List.map_toArray, List.map_cons, List.map_nil]); first | done | rfl | (simp only [List.length_drop, List.length_take]; rfl)) ?_
  with_reducible refine (pyxlaw08_given.calls kh b0 _ _ m1 _ _ m2 gb w _ S1.out K3.out S2.out K4.out HB.out Hh.out).mono ?_
  rintro e w_3 ⟨v, rfl, hN, hb⟩
  refine ⟨_, rfl, ?_⟩
  obtain ⟨Xb, xb, evb, leb, hCb_⟩ := Kd.N_reads hN
  subst evb
  have LEb := Aside0.mk leb
  have HCbn := Aside0.mk hCb_
  clear hN leb hCb_
  have n0_ := Aside0.mk (blk_below (g := ga_) (o := .cells #[.int .u8 a0, .slice A1 l1.length c1, .slice A2 l2.length c2] 33 (0, 0)) (by (with_reducible repeat (first | refine blk_drewN ?_ _ | refine blk_drew ?_ | refine blk_alloc ?_ _)); exact BKga_.out) hb); have n1_ := Aside0.mk (blk_below (g := gb_) (o := .cells #[.int .u8 b0, .slice B1 m1.length d1, .slice B2 m2.length d2] 33 (0, 0)) (by (with_reducible repeat (first | refine blk_drewN ?_ _ | refine blk_drew ?_ | refine blk_alloc ?_ _)); exact BKgb_.out) hb); have n2_ := Aside0.mk (below_step HB.out hb)
  have mHCa := Aside0.mk (Kd.C_below HCa.out hb); clear HCa; have HCa := mHCa; clear mHCa
  clear BKga_ BKgb_ HB; have BKga_ := n0_; have BKgb_ := n1_; have HB := n2_; clear n0_ n1_ n2_ hb
  refine hK.out _ _ ⟨(blk_cell BKga_.out 0).trans rfl, (blk_cell BKga_.out 1).trans rfl, (blk_cell BKga_.out 2).trans rfl, (blk_cell BKgb_.out 0).trans rfl, (blk_cell BKgb_.out 1).trans rfl, (blk_cell BKgb_.out 2).trans rfl⟩ (fun hHeld => ?_)
  clear hK K
  refine norm_ (a' := ?_) ?_ ?_
  rotate_left
  · show Act.put _ (some 21) _ = _
    simp only [Act.put, List.setIfInBounds_toArray, List.set_cons_zero, List.set_cons_succ, i64_w, i32_w]
    rfl
  have HCb := HCbn; clear HCbn
  refine one_ (i := 4) (N := some 22) #[true, true, true, true, true, true, true, false, false, false, false, false, false, false, false, false, false] rfl rfl (one_of HT_.out (by kernel_rfl)) (by decide) (fun K hK => ?_)
  refine goes_ Tryd.func19 (by kernel_rfl) rfl #[.agg #[.int .u8 a0, .slice A1 l1.length c1, .slice Xa ga.length xa], .agg #[.int .u8 b0, .slice B1 m1.length d1, .slice Xb gb.length xb]] (by rfl) rfl rfl (by (try simp only [List.map_toArray, List.map_cons, List.map_nil]); first | done | rfl | (simp only [List.length_drop, List.length_take]; rfl)) ?_
  with_reducible refine (der_Same.calls ks a0 _ _ l1 _ _ ga b0 _ _ m1 _ _ gb s _ ?side1 ?side2 ?side3 ?side4 ?side5 ?side6 ?side7 ?side8 Hs.out).mono ?_
  (case side1 => exact (Kd.C_below R1.out HB.out))
  (case side2 => exact K1.out)
  (case side3 => exact HCa.out)
  (case side4 => exact LEa.out)
  (case side5 => exact (Kd.C_below S1.out HB.out))
  (case side6 => exact K3.out)
  (case side7 => exact HCb.out)
  (case side8 => exact LEb.out)
  rintro e w_4 ⟨rfl, hb⟩
  refine ⟨_, rfl, ?_⟩
  have n0_ := Aside0.mk (blk_below (g := ga_) (o := .cells #[.int .u8 a0, .slice A1 l1.length c1, .slice A2 l2.length c2] 33 (0, 0)) (by (with_reducible repeat (first | refine blk_drewN ?_ _ | refine blk_drew ?_ | refine blk_alloc ?_ _)); exact BKga_.out) hb); have n1_ := Aside0.mk (blk_below (g := gb_) (o := .cells #[.int .u8 b0, .slice B1 m1.length d1, .slice B2 m2.length d2] 33 (0, 0)) (by (with_reducible repeat (first | refine blk_drewN ?_ _ | refine blk_drew ?_ | refine blk_alloc ?_ _)); exact BKgb_.out) hb); have n2_ := Aside0.mk (below_step HB.out hb)
  have mHCa := Aside0.mk (Kd.C_below HCa.out hb); clear HCa; have HCa := mHCa; clear mHCa
  have mHCb := Aside0.mk (Kd.C_below HCb.out hb); clear HCb; have HCb := mHCb; clear mHCb
  clear BKga_ BKgb_ HB; have BKga_ := n0_; have BKgb_ := n1_; have HB := n2_; clear n0_ n1_ n2_ hb
  refine hK.out _ _ ⟨(blk_cell BKga_.out 0).trans rfl, (blk_cell BKga_.out 1).trans rfl, (blk_cell BKga_.out 2).trans rfl, (blk_cell BKgb_.out 0).trans rfl, (blk_cell BKgb_.out 1).trans rfl, (blk_cell BKgb_.out 2).trans rfl⟩ (fun hHeld => ?_)
  clear hK K
  refine norm_ (a' := ?_) ?_ ?_
  rotate_left
  · show Act.put _ (some 22) _ = _
    simp only [Act.put, List.setIfInBounds_toArray, List.set_cons_zero, List.set_cons_succ, i64_w, i32_w]
    rfl
  refine one_ (i := 7) (N := some 25) #[true, true, true, true, true, true, true, true, false, false, false, false, false, false, false, false, false] rfl rfl (one_of HT_.out (by kernel_rfl)) (by decide) (fun K hK => ?_)
  refine goes_ Tryd.func21 (by kernel_rfl) rfl #[.agg #[.int .u8 a0, .slice A1 l1.length c1, .slice A2 l2.length c2], .agg #[.int .u8 b0, .slice B1 m1.length d1, .slice B2 m2.length d2]] (by rfl) rfl rfl (by (try simp only [List.map_toArray, List.map_cons, List.map_nil]); first | done | rfl | (simp only [List.length_drop, List.length_take]; rfl)) ?_
  with_reducible refine (pyxref08_Same.calls kt a0 _ _ l1 _ _ l2 b0 _ _ m1 _ _ m2 s _ ?side1 ?side2 ?side3 ?side4 ?side5 ?side6 ?side7 ?side8 Ht.out).mono ?_
  (case side1 => exact (Kd.C_below R1.out HB.out))
  (case side2 => exact K1.out)
  (case side3 => exact (Kd.C_below R2.out HB.out))
  (case side4 => exact K2.out)
  (case side5 => exact (Kd.C_below S1.out HB.out))
  (case side6 => exact K3.out)
  (case side7 => exact (Kd.C_below S2.out HB.out))
  (case side8 => exact K4.out)
  rintro e w_7 ⟨rfl, hb⟩
  refine ⟨_, rfl, ?_⟩
  have n0_ := Aside0.mk (blk_below (g := ga_) (o := .cells #[.int .u8 a0, .slice A1 l1.length c1, .slice A2 l2.length c2] 33 (0, 0)) (by (with_reducible repeat (first | refine blk_drewN ?_ _ | refine blk_drew ?_ | refine blk_alloc ?_ _)); exact BKga_.out) hb); have n1_ := Aside0.mk (blk_below (g := gb_) (o := .cells #[.int .u8 b0, .slice B1 m1.length d1, .slice B2 m2.length d2] 33 (0, 0)) (by (with_reducible repeat (first | refine blk_drewN ?_ _ | refine blk_drew ?_ | refine blk_alloc ?_ _)); exact BKgb_.out) hb); have n2_ := Aside0.mk (below_step HB.out hb)
  have mHCa := Aside0.mk (Kd.C_below HCa.out hb); clear HCa; have HCa := mHCa; clear mHCa
  have mHCb := Aside0.mk (Kd.C_below HCb.out hb); clear HCb; have HCb := mHCb; clear mHCb
  clear BKga_ BKgb_ HB; have BKga_ := n0_; have BKgb_ := n1_; have HB := n2_; clear n0_ n1_ n2_ hb
  refine hK.out _ _ ⟨(blk_cell BKga_.out 0).trans rfl, (blk_cell BKga_.out 1).trans rfl, (blk_cell BKga_.out 2).trans rfl, (blk_cell BKgb_.out 0).trans rfl, (blk_cell BKgb_.out 1).trans rfl, (blk_cell BKgb_.out 2).trans rfl⟩ (fun hHeld => ?_)
  clear hK K
  refine norm_ (a' := ?_) ?_ ?_
  rotate_left
  · show Act.put _ (some 25) _ = _
    simp only [Act.put, List.setIfInBounds_toArray, List.set_cons_zero, List.set_cons_succ, i64_w, i32_w]
    rfl
  have bs : (s == s) = true := by cases s <;> rfl
  refine pure_ (i := 8) (N := some 26) (v := ?_) (a' := ?_) #[true, true, true, true, true, true, true, true, true, false, false, false, false, false, false, false, false] rfl rfl (any_of HT_.out (by kernel_rfl)) (fun _ _ _ h => h) (Or.inl ⟨by rfl, ?_⟩) ?_ ?_
  rotate_left
  · intro w'
    go_simp
    with_reducible rfl
  rotate_left
  · simp only [Act.put, List.setIfInBounds_toArray, List.set_cons_zero, List.set_cons_succ, i64_w, i32_w]
    rfl
  refine pure_ (i := 9) (N := some 27) (v := ?_) (a' := ?_) #[true, true, true, true, true, true, true, true, true, true, false, false, false, false, false, false, false] rfl rfl (any_of HT_.out (by kernel_rfl)) (fun _ _ _ h => h) (Or.inl ⟨by rfl, ?_⟩) ?_ ?_
  rotate_left
  · intro w'
    go_simp
    with_reducible rfl
  rotate_left
  · simp only [Act.put, List.setIfInBounds_toArray, List.set_cons_zero, List.set_cons_succ, i64_w, i32_w]
    rfl
  refine take_ (i := 10) (N := some 28) (v := ?_) (a' := ?_) #[true, true, true, true, true, true, true, true, true, true, true, false, false, false, false, false, false] rfl rfl (take_ofW HT_.out HW_.out (by kernel_rfl)) (fun _ _ _ h => h) (Or.inl ⟨by rfl, ?_⟩) hHeld ?_ ?_
  rotate_left
  · rintro w' ⟨s0, s1, s2, s3, s4, s5⟩
    go_simp
    with_reducible rfl
  rotate_left
  · simp only [Act.put, List.setIfInBounds_toArray, List.set_cons_zero, List.set_cons_succ, i64_w, i32_w]
    rfl
  refine take_ (i := 12) (N := some 30) (v := ?_) (a' := ?_) #[true, true, true, true, true, true, true, true, true, true, true, false, true, false, false, false, false] rfl rfl (take_ofW HT_.out HW_.out (by kernel_rfl)) (fun _ _ _ h => h) (Or.inl ⟨by rfl, ?_⟩) hHeld ?_ ?_
  rotate_left
  · rintro w' ⟨s0, s1, s2, s3, s4, s5⟩
    go_simp
    with_reducible rfl
  rotate_left
  · simp only [Act.put, List.setIfInBounds_toArray, List.set_cons_zero, List.set_cons_succ, i64_w, i32_w]
    rfl
  refine one_ (i := 11) (N := some 29) #[true, true, true, true, true, true, true, true, true, true, true, true, true, false, false, false, false] rfl rfl (one_of HT_.out (by kernel_rfl)) (by decide) (fun K hK => ?_)
  refine goes_ Tryd.func20 (by kernel_rfl) rfl #[.agg #[.int .u8 a0, .slice A1 l1.length c1, .slice A2 l2.length c2]] (by rfl) rfl rfl (by (try simp only [List.map_toArray, List.map_cons, List.map_nil]); first | done | rfl | (simp only [List.length_drop, List.length_take]; rfl)) ?_
  with_reducible refine (pyxlaw08_given.calls kg a0 _ _ l1 _ _ l2 ga w _ R1.out K1.out R2.out K2.out HB.out Hg.out).mono ?_
  rintro e w_11 ⟨v, rfl, hN, hb⟩
  refine ⟨_, rfl, ?_⟩
  obtain ⟨Xp, xp, evp, lep, hCp_⟩ := Kd.N_reads hN
  subst evp
  have LEp := Aside0.mk lep
  have HCpn := Aside0.mk hCp_
  clear hN lep hCp_
  have n0_ := Aside0.mk (blk_below (g := ga_) (o := .cells #[.int .u8 a0, .slice A1 l1.length c1, .slice A2 l2.length c2] 33 (0, 0)) (by (with_reducible repeat (first | refine blk_drewN ?_ _ | refine blk_drew ?_ | refine blk_alloc ?_ _)); exact BKga_.out) hb); have n1_ := Aside0.mk (blk_below (g := gb_) (o := .cells #[.int .u8 b0, .slice B1 m1.length d1, .slice B2 m2.length d2] 33 (0, 0)) (by (with_reducible repeat (first | refine blk_drewN ?_ _ | refine blk_drew ?_ | refine blk_alloc ?_ _)); exact BKgb_.out) hb); have n2_ := Aside0.mk (below_step HB.out hb)
  have mHCa := Aside0.mk (Kd.C_below HCa.out hb); clear HCa; have HCa := mHCa; clear mHCa
  have mHCb := Aside0.mk (Kd.C_below HCb.out hb); clear HCb; have HCb := mHCb; clear mHCb
  clear BKga_ BKgb_ HB; have BKga_ := n0_; have BKgb_ := n1_; have HB := n2_; clear n0_ n1_ n2_ hb
  refine hK.out _ _ ⟨(blk_cell BKga_.out 0).trans rfl, (blk_cell BKga_.out 1).trans rfl, (blk_cell BKga_.out 2).trans rfl, (blk_cell BKgb_.out 0).trans rfl, (blk_cell BKgb_.out 1).trans rfl, (blk_cell BKgb_.out 2).trans rfl⟩ (fun hHeld => ?_)
  clear hK K
  refine norm_ (a' := ?_) ?_ ?_
  rotate_left
  · show Act.put _ (some 29) _ = _
    simp only [Act.put, List.setIfInBounds_toArray, List.set_cons_zero, List.set_cons_succ, i64_w, i32_w]
    rfl
  have HCp := HCpn; clear HCpn
  refine one_ (i := 13) (N := some 31) #[true, true, true, true, true, true, true, true, true, true, true, true, true, true, false, false, false] rfl rfl (one_of HT_.out (by kernel_rfl)) (by decide) (fun K hK => ?_)
  refine goes_ Tryd.func20 (by kernel_rfl) rfl #[.agg #[.int .u8 a0, .slice A1 l1.length c1, .slice A2 l2.length c2]] (by rfl) rfl rfl (by (try simp only [List.map_toArray, List.map_cons, List.map_nil]); first | done | rfl | (simp only [List.length_drop, List.length_take]; rfl)) ?_
  with_reducible refine (pyxlaw08_given.calls kg a0 _ _ l1 _ _ l2 ga w _ R1.out K1.out R2.out K2.out HB.out Hg.out).mono ?_
  rintro e w_13 ⟨v, rfl, hN, hb⟩
  refine ⟨_, rfl, ?_⟩
  obtain ⟨Xq, xq, evq, leq, hCq_⟩ := Kd.N_reads hN
  subst evq
  have LEq := Aside0.mk leq
  have HCqn := Aside0.mk hCq_
  clear hN leq hCq_
  have n0_ := Aside0.mk (blk_below (g := ga_) (o := .cells #[.int .u8 a0, .slice A1 l1.length c1, .slice A2 l2.length c2] 33 (0, 0)) (by (with_reducible repeat (first | refine blk_drewN ?_ _ | refine blk_drew ?_ | refine blk_alloc ?_ _)); exact BKga_.out) hb); have n1_ := Aside0.mk (blk_below (g := gb_) (o := .cells #[.int .u8 b0, .slice B1 m1.length d1, .slice B2 m2.length d2] 33 (0, 0)) (by (with_reducible repeat (first | refine blk_drewN ?_ _ | refine blk_drew ?_ | refine blk_alloc ?_ _)); exact BKgb_.out) hb); have n2_ := Aside0.mk (below_step HB.out hb)
  have mHCa := Aside0.mk (Kd.C_below HCa.out hb); clear HCa; have HCa := mHCa; clear mHCa
  have mHCb := Aside0.mk (Kd.C_below HCb.out hb); clear HCb; have HCb := mHCb; clear mHCb
  have mHCp := Aside0.mk (Kd.C_below HCp.out hb); clear HCp; have HCp := mHCp; clear mHCp
  clear BKga_ BKgb_ HB; have BKga_ := n0_; have BKgb_ := n1_; have HB := n2_; clear n0_ n1_ n2_ hb
  refine hK.out _ _ ⟨(blk_cell BKga_.out 0).trans rfl, (blk_cell BKga_.out 1).trans rfl, (blk_cell BKga_.out 2).trans rfl, (blk_cell BKgb_.out 0).trans rfl, (blk_cell BKgb_.out 1).trans rfl, (blk_cell BKgb_.out 2).trans rfl⟩ (fun hHeld => ?_)
  clear hK K
  refine norm_ (a' := ?_) ?_ ?_
  rotate_left
  · show Act.put _ (some 31) _ = _
    simp only [Act.put, List.setIfInBounds_toArray, List.set_cons_zero, List.set_cons_succ, i64_w, i32_w]
    rfl
  have HCq := HCqn; clear HCqn
  refine one_ (i := 14) (N := some 32) #[true, true, true, true, true, true, true, true, true, true, true, true, true, true, true, false, false] rfl rfl (one_of HT_.out (by kernel_rfl)) (by decide) (fun K hK => ?_)
  refine goes_ Tryd.func19 (by kernel_rfl) rfl #[.agg #[.int .u8 a0, .slice A1 l1.length c1, .slice Xp ga.length xp], .agg #[.int .u8 a0, .slice A1 l1.length c1, .slice Xq ga.length xq]] (by rfl) rfl rfl (by (try simp only [List.map_toArray, List.map_cons, List.map_nil]); first | done | rfl | (simp only [List.length_drop, List.length_take]; rfl)) ?_
  with_reducible refine (der_Same.calls ku a0 _ _ l1 _ _ ga a0 _ _ l1 _ _ ga true _ ?side1 ?side2 ?side3 ?side4 ?side5 ?side6 ?side7 ?side8 Hu.out).mono ?_
  (case side1 => exact (Kd.C_below R1.out HB.out))
  (case side2 => exact K1.out)
  (case side3 => exact HCp.out)
  (case side4 => exact LEp.out)
  (case side5 => exact (Kd.C_below R1.out HB.out))
  (case side6 => exact K1.out)
  (case side7 => exact HCq.out)
  (case side8 => exact LEq.out)
  rintro e w_14 ⟨rfl, hb⟩
  refine ⟨_, rfl, ?_⟩
  have n0_ := Aside0.mk (blk_below (g := ga_) (o := .cells #[.int .u8 a0, .slice A1 l1.length c1, .slice A2 l2.length c2] 33 (0, 0)) (by (with_reducible repeat (first | refine blk_drewN ?_ _ | refine blk_drew ?_ | refine blk_alloc ?_ _)); exact BKga_.out) hb); have n1_ := Aside0.mk (blk_below (g := gb_) (o := .cells #[.int .u8 b0, .slice B1 m1.length d1, .slice B2 m2.length d2] 33 (0, 0)) (by (with_reducible repeat (first | refine blk_drewN ?_ _ | refine blk_drew ?_ | refine blk_alloc ?_ _)); exact BKgb_.out) hb); have n2_ := Aside0.mk (below_step HB.out hb)
  have mHCa := Aside0.mk (Kd.C_below HCa.out hb); clear HCa; have HCa := mHCa; clear mHCa
  have mHCb := Aside0.mk (Kd.C_below HCb.out hb); clear HCb; have HCb := mHCb; clear mHCb
  have mHCp := Aside0.mk (Kd.C_below HCp.out hb); clear HCp; have HCp := mHCp; clear mHCp
  have mHCq := Aside0.mk (Kd.C_below HCq.out hb); clear HCq; have HCq := mHCq; clear mHCq
  clear BKga_ BKgb_ HB; have BKga_ := n0_; have BKgb_ := n1_; have HB := n2_; clear n0_ n1_ n2_ hb
  refine hK.out _ _ ⟨(blk_cell BKga_.out 0).trans rfl, (blk_cell BKga_.out 1).trans rfl, (blk_cell BKga_.out 2).trans rfl, (blk_cell BKgb_.out 0).trans rfl, (blk_cell BKgb_.out 1).trans rfl, (blk_cell BKgb_.out 2).trans rfl⟩ (fun hHeld => ?_)
  clear hK K
  refine norm_ (a' := ?_) ?_ ?_
  rotate_left
  · show Act.put _ (some 32) _ = _
    simp only [Act.put, List.setIfInBounds_toArray, List.set_cons_zero, List.set_cons_succ, i64_w, i32_w]
    rfl
  refine pure_ (i := 15) (N := some 33) (v := ?_) (a' := ?_) #[true, true, true, true, true, true, true, true, true, true, true, true, true, true, true, true, false] rfl rfl (any_of HT_.out (by kernel_rfl)) (fun _ _ _ h => h) (Or.inl ⟨by rfl, ?_⟩) ?_ ?_
  rotate_left
  · intro w'
    go_simp
    with_reducible rfl
  rotate_left
  · simp only [Act.put, List.setIfInBounds_toArray, List.set_cons_zero, List.set_cons_succ, i64_w, i32_w]
    rfl
  refine pure_ (i := 16) (N := some 4) (v := ?_) (a' := ?_) #[true, true, true, true, true, true, true, true, true, true, true, true, true, true, true, true, true] rfl rfl (any_of HT_.out (by kernel_rfl)) (fun _ _ _ h => h) (Or.inl ⟨by rfl, ?_⟩) ?_ ?_
  rotate_left
  · intro w'
    go_simp
    with_reducible rfl
  rotate_left
  · simp only [Act.put, List.setIfInBounds_toArray, List.set_cons_zero, List.set_cons_succ, i64_w, i32_w]
    rfl
  refine done_ (done_of HT_.out (by kernel_rfl)) ?_
  try go_wp2
  go_ret
  exact ⟨rfl, (by repeat (first | (with_reducible first | exact HB.out | apply below_alloc | apply pw_below_drewN | apply below_drew1) | exact HB.out))⟩
end Go.Proofs.YtijmigapdcikpaaDoor.PDsm
