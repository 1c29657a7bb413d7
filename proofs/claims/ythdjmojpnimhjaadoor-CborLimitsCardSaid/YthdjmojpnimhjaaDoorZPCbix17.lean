import Derived.Test.YthdjmojpnimhjaaDoorZPCbix0
import Derived.Test.YthdjmojpnimhjaaDoorZPCbix9
import Derived.Test.YthdjmojpnimhjaaDoorZPCbix10
import Derived.Test.YthdjmojpnimhjaaDoorZPCbix13
import Derived.Test.YthdjmojpnimhjaaDoorZPCbix14
import Derived.Test.YthdjmojpnimhjaaDoorZPCbix15
import Derived.Test.YthdjmojpnimhjaaDoorZPCbix16
namespace Go.Proofs.YthdjmojpnimhjaaDoor.PCbi
open Go.RowKit Go.Proofs.YthdjmojpnimhjaaDoorW.PrintWords Go.Proofs.YthdjmojpnimhjaaDoorW.PrintLast Go.Proofs.YthdjmojpnimhjaaDoorW.PrintMore
attribute [local go_sem] max2_int min2_int max_two min_two max_three min_three max_four min_four
set_option linter.unusedVariables false
set_option linter.unusedSimpArgs false
mutual
def pyxref10_Depth.l0 : Nat → Int → Int → Int → Int → List Int → List (S34) → Option (Int)
  | 0, _, _, _, _, _, _ => none
  | k + 1, x3, x4, x311000, x311001, x311002, x311003 => if x4 < (x311003.length : Int) then (if 0 ≤ x4 then ((pyxref10_Depth.f k ((rd_T34 x311003 x4).f0) ((rd_T34 x311003 x4).f1) ((rd_T34 x311003 x4).f2) ((rd_T34 x311003 x4).f3)).bind fun t312 => (if (wrap64 (1 + t312)) > x3 then (pyxref10_Depth.l0 k (wrap64 (1 + t312)) (wrap64 (x4 + 1)) x311000 x311001 x311002 x311003) else (pyxref10_Depth.l0 k x3 (wrap64 (x4 + 1)) x311000 x311001 x311002 x311003))) else (none)) else (some x3)
def pyxref10_Depth.f : Nat → Int → Int → List Int → List (S34) → Option (Int)
  | 0, _, _, _, _ => none
  | k + 1, a0_0, a0_1, l0_2, l0_3 => pyxref10_Depth.l0 k 1 0 a0_0 a0_1 l0_2 l0_3
end
theorem pyxref10_Depth.mono_l : ∀ k, (∀ y0 y1 y2 y3, LeO (pyxref10_Depth.f k y0 y1 y2 y3) (pyxref10_Depth.f (k + 1) y0 y1 y2 y3)) ∧ (∀ y0 y1 y2 y3 y4 y5, LeO (pyxref10_Depth.l0 k y0 y1 y2 y3 y4 y5) (pyxref10_Depth.l0 (k + 1) y0 y1 y2 y3 y4 y5))
  | 0 => ⟨fun _ _ _ _ r h => by simp [pyxref10_Depth.f] at h, fun _ _ _ _ _ _ r h => by simp [pyxref10_Depth.l0] at h⟩
  | k + 1 => by
    obtain ⟨ih0, ih1⟩ := pyxref10_Depth.mono_l k
    refine ⟨?_, ?_⟩
    · intro y0 y1 y2 y3
      unfold pyxref10_Depth.f
      repeat' first
      | (with_reducible exact ih0 _ _ _ _)
      | (with_reducible exact ih1 _ _ _ _ _ _)
      | (with_reducible exact LeO.refl _)
      | (with_reducible exact LeO.none _)
      | (with_reducible refine LeO.ite ?_ ?_)
      | (with_reducible refine LeO.bind ?_ (fun _ => ?_))
      | exact ih0 _ _ _ _
      | exact ih1 _ _ _ _ _ _
      | exact LeO.none _
      | refine LeO.ite ?_ ?_
      | refine LeO.bind ?_ (fun _ => ?_)
    · intro y0 y1 y2 y3 y4 y5
      unfold pyxref10_Depth.l0
      repeat' first
      | (with_reducible exact ih0 _ _ _ _)
      | (with_reducible exact ih1 _ _ _ _ _ _)
      | (with_reducible exact LeO.refl _)
      | (with_reducible exact LeO.none _)
      | (with_reducible refine LeO.ite ?_ ?_)
      | (with_reducible refine LeO.bind ?_ (fun _ => ?_))
      | exact ih0 _ _ _ _
      | exact ih1 _ _ _ _ _ _
      | exact LeO.none _
      | refine LeO.ite ?_ ?_
      | refine LeO.bind ?_ (fun _ => ?_)
theorem pyxref10_Depth.mono : ∀ a0 a1 a2 a3 k, LeO (pyxref10_Depth.f k a0 a1 a2 a3) (pyxref10_Depth.f (k + 1) a0 a1 a2 a3) := by
  intro a0 a1 a2 a3 k
  obtain ⟨ih0, ih1⟩ := pyxref10_Depth.mono_l k
  exact ih0 a0 a1 a2 a3
set_option maxHeartbeats 8000000 in
set_option maxRecDepth 100000 in
theorem pyxref10_Depth.calls (k : Nat) : ∀ (a0_0 : Int) (a0_1 : Int) (A0_2 : Option Addr) (c0_2 : Nat) (l0_2 : List Int) (A0_3 : Option Addr) (c0_3 : Nat) (l0_3 : List (S34)) (r : Int) (w : World) (hr0_2 : Kd.C (Kd.int .u8) w A0_2 l0_2.length l0_2) (hc0_2 : l0_2.length ≤ c0_2) (hr0_3 : Kd.C k34 w A0_3 l0_3.length l0_3) (hc0_3 : l0_3.length ≤ c0_3) (h : pyxref10_Depth.f k a0_0 a0_1 l0_2 l0_3 = some r),
    Calls Tryd.prog 32 #[.agg #[.int .i64 a0_0, .int .u64 a0_1, .slice A0_2 l0_2.length c0_2, .slice A0_3 l0_3.length c0_3]] w fun e w' => e = .returned (.int .i64 r) ∧ Below w.heap.size w w' := by
  induction k using Nat.strongRecOn with
  | _ k ih =>
  intro a0_0 a0_1 A0_2 c0_2 l0_2 A0_3 c0_3 l0_3 r w hr0_2 hc0_2 hr0_3 hc0_3 h
  cases k with
  | zero => exact absurd h (by simp [pyxref10_Depth.f])
  | succ k =>
  simp only [pyxref10_Depth.f] at h
  have hu34 := Tryd.underlying34
  have HR0_2 := Aside0.mk hr0_2
  have HC0_2 := Aside0.mk hc0_2
  clear hr0_2 hc0_2
  have HR0_3 := Aside0.mk hr0_3
  have HC0_3 := Aside0.mk hc0_3
  clear hr0_3 hc0_3
  have HB := Aside0.mk (Below.refl w.heap.size w)
  have H : (pyxref10_Depth.l0 k 1 0 a0_0 a0_1 l0_2 l0_3) = some r := h
  clear h
  have H' := Aside0.mk H
  clear H
  go_enter Tryd.func32, Tryd.ntmps32
  go_wp2_with (first | ((with_reducible refine gate_dst (N := 1) rfl ?_); refine box_event ?hg (N := 1) ?hd (cs := #[.int .i64 a0_0, .int .u64 a0_1, .slice A0_2 l0_2.length c0_2, .slice A0_3 l0_3.length c0_3]) (t := 34) ?hr ?_; (case hd => rfl); (case hg => rfl); (case hr => first | (go_simp; done) | (go_simp; rfl)); intro gb310 hg w2 hbox hb; have n0_ := Aside0.mk (below_step (by repeat (first | (with_reducible first | exact HB.out | apply below_alloc | apply pw_below_drewN | apply below_drew1) | exact HB.out)) hb); have n1_ := Aside0.mk (hbox); have n2_ := Aside0.mk ((by rw [hg]; exact (below_size (by repeat (first | (with_reducible first | exact HB.out | apply below_alloc | apply pw_below_drewN | apply below_drew1) | exact HB.out))) : w.heap.size ≤ gb310)); have n3_ := Aside0.mk ((by rw [hg]; exact (below_size (by repeat (first | (with_reducible first | exact HB.out | apply below_alloc | apply pw_below_drewN | apply below_drew1) | exact HB.out))) : w.heap.size ≤ gb310)); clear HB; have HB := n0_; have BK310 := n1_; have GW310 := n2_; have GE310 := n3_; clear n0_ n1_ n2_ n3_; clear hb hbox hg))
  go_loopg [3, 4] k (fun kq v3 v4 w' => ∃ (x3_1 : Int) (x4_1 : Int), v3 = .int .i64 x3_1 ∧ v4 = .int .i64 x4_1 ∧ Aside0 (pyxref10_Depth.l0 kq x3_1 x4_1 a0_0 a0_1 l0_2 l0_3 = some r) ∧ Aside0 (kq ≤ k) ∧ Aside0 (w'.heap[gb310]? = some (.cells #[.int .i64 a0_0, .int .u64 a0_1, (.slice A0_2 l0_2.length c0_2), (.slice A0_3 l0_3.length c0_3)] 34 (0, 0))) ∧ Aside0 (Below w.heap.size w w'))
  case atStart => exact ⟨(1), (0), (by first | rfl | (simp; done) | (simp [*]; done)), (by first | rfl | (simp; done) | (simp [*]; done)), H', ⟨Nat.le_refl _⟩, ⟨by (with_reducible repeat (first | refine blk_drewN ?_ _ | refine blk_drew ?_ | refine blk_alloc ?_ _)); exact BK310.out⟩, ⟨by repeat (first | (with_reducible first | exact HB.out | apply below_alloc | apply pw_below_drewN | apply below_drew1 | refine below_set ?_ GE310.out) | exact HB.out)⟩⟩
  case round =>
    clear H'
    try clear p2
    obtain ⟨x3_1, x4_1, rfl, rfl, HA, HK1, BK310, HB⟩ := hrel
    cases gk with
    | zero => exact absurd HA.out (by simp [pyxref10_Depth.l0])
    | succ k1 =>
      have H := HA.out
      clear HA
      simp only [pyxref10_Depth.l0] at H
      by_cases c3 : x4_1 < (l0_3.length : Int)
      · rw [if_pos c3] at H
        have c3b0 : decide (x4_1 < (l0_3.length : Int)) = true := decide_eq_true c3
        clear c3
        by_cases c4 : 0 ≤ x4_1
        · rw [if_pos c4] at H
          have c4b0 : decide (0 ≤ x4_1) = true := decide_eq_true c4
          clear c4
          replace H := Option.bind_eq_some_iff.mp H
          obtain ⟨t312, A50, H⟩ := H
          replace H : (if (wrap64 (1 + t312)) > x3_1 then (pyxref10_Depth.l0 k1 (wrap64 (1 + t312)) (wrap64 (x4_1 + 1)) a0_0 a0_1 l0_2 l0_3) else (pyxref10_Depth.l0 k1 x3_1 (wrap64 (x4_1 + 1)) a0_0 a0_1 l0_2 l0_3)) = some r := H
          have A5 := Aside0.mk A50
          clear A50
          by_cases c6 : (wrap64 (1 + t312)) > x3_1
          · rw [if_pos c6] at H
            have c6b0 : decide (x3_1 < (wrap64 (1 + t312))) = true := decide_eq_true c6
            clear c6
            have H' := Aside0.mk H
            clear H
            have hcz7_0 : wr.cell? ⟨gb310, 0, none⟩ = some (.int .i64 a0_0) := (blk_cell BK310.out 0).trans rfl
            have hcz7_1 : wr.cell? ⟨gb310, 1, none⟩ = some (.int .u64 a0_1) := (blk_cell BK310.out 1).trans rfl
            have hcz7_2 : wr.cell? ⟨gb310, 2, none⟩ = some (.slice A0_2 l0_2.length c0_2) := (blk_cell BK310.out 2).trans rfl
            have hcz7_3 : wr.cell? ⟨gb310, 3, none⟩ = some (.slice A0_3 l0_3.length c0_3) := (blk_cell BK310.out 3).trans rfl
            have hfz7_0 := blk_frozen BK310.out 0
            have hfz7_1 := blk_frozen BK310.out 1
            have hfz7_2 := blk_frozen BK310.out 2
            have hfz7_3 := blk_frozen BK310.out 3
            have p311 : 0 ≤ (x4_1 : Int) := of_decide_eq_true (by first | (with_reducible assumption) | assumption)
            have q311 : x4_1 < (l0_3.length : Int) := of_decide_eq_true (by first | (with_reducible assumption) | assumption)
            obtain ⟨ad311, A311_2, c311_2, A311_3, c311_3, e311, hx311_0, hx311_1, hx311_2, hx311_3, hl311_2, hi311_2, hl311_3, hi311_3⟩ := at_T34 HR0_3.out x4_1 p311 q311
            cases e311
            replace hx311_0 := (HB.out.cell (World.block_lt_of_cell? w _ hx311_0)).trans hx311_0
            replace hx311_1 := (HB.out.cell (World.block_lt_of_cell? w _ hx311_1)).trans hx311_1
            replace hx311_2 := (HB.out.cell (World.block_lt_of_cell? w _ hx311_2)).trans hx311_2
            replace hx311_3 := (HB.out.cell (World.block_lt_of_cell? w _ hx311_3)).trans hx311_3
            have HR311_2 := Aside0.mk hi311_2
            have HC311_2 := Aside0.mk hl311_2
            clear hi311_2 hl311_2
            have HR311_3 := Aside0.mk hi311_3
            have HC311_3 := Aside0.mk hl311_3
            clear hi311_3 hl311_3
            replace p311 := eq_true p311
            replace q311 := eq_true q311
            go_wp2_with (first | ((with_reducible refine gate_callee (f := 32) rfl ?_); refine goesL_ (some 18) rfl rfl Tryd.func32 (by kernel_rfl) rfl #[.agg #[.int .i64 ((rd_T34 l0_3 x4_1).f0), .int .u64 ((rd_T34 l0_3 x4_1).f1), .slice A311_2 ((rd_T34 l0_3 x4_1).f2).length c311_2, .slice A311_3 ((rd_T34 l0_3 x4_1).f3).length c311_3]] rfl (by (try simp only [List.map_toArray, List.map_cons, List.map_nil]); first | done | rfl | (simp only [List.length_drop, List.length_take]; rfl)) ?_; (with_reducible refine (ih k1 (by have := HK1.out; omega) ((rd_T34 l0_3 x4_1).f0) ((rd_T34 l0_3 x4_1).f1) _ _ ((rd_T34 l0_3 x4_1).f2) _ _ ((rd_T34 l0_3 x4_1).f3) t312 _ ?side1 ?side2 ?side3 ?side4 A5.out).mono ?_); (case side1 => repeat (first | exact (Kd.C_below HR311_2.out HB.out) | (with_reducible refine Kd.C_alloc ?_ _) | (with_reducible refine Kd.C_drewN ?_ _) | (with_reducible refine Kd.C_drew ?_))); (case side2 => exact HC311_2.out); (case side3 => repeat (first | exact (Kd.C_below HR311_3.out HB.out) | (with_reducible refine Kd.C_alloc ?_ _) | (with_reducible refine Kd.C_drewN ?_ _) | (with_reducible refine Kd.C_drew ?_))); (case side4 => exact HC311_3.out); rintro e w8 ⟨rfl, hb⟩; refine ⟨_, rfl, ?_⟩; have n0_ := Aside0.mk (blk_below (g := gb310) (o := .cells #[.int .i64 a0_0, .int .u64 a0_1, .slice A0_2 l0_2.length c0_2, .slice (some ad311) l0_3.length c0_3] 34 (0, 0)) (by (with_reducible repeat (first | refine blk_drewN ?_ _ | refine blk_drew ?_ | refine blk_alloc ?_ _)); exact BK310.out) hb); have n1_ := Aside0.mk (below_step (by repeat (first | (with_reducible first | exact HB.out | apply below_alloc | apply pw_below_drewN | apply below_drew1 | refine below_set ?_ GE310.out) | exact HB.out)) hb); clear BK310; clear HB; have BK310 := n0_; have HB := n1_; clear n0_ n1_; (try clear hb); (try clear hb2); (try clear hk); (try clear hi)))
            go_roundg k1
            case measure => have := HK1.out; omega
            case rel => exact ⟨(wrap64 (1 + t312)), (wrap64 (x4_1 + 1)), (by first | rfl | (simp; done) | (simp [*]; done)), (by first | rfl | (simp; done) | (simp [*]; done)), H', ⟨by have := HK1.out; omega⟩, ⟨by (with_reducible repeat (first | refine blk_drewN ?_ _ | refine blk_drew ?_ | refine blk_alloc ?_ _)); exact BK310.out⟩, ⟨by repeat (first | (with_reducible first | exact HB.out | apply below_alloc | apply pw_below_drewN | apply below_drew1 | refine below_set ?_ GE310.out) | exact HB.out)⟩⟩
          · rw [if_neg c6] at H
            have c6b0 : decide (x3_1 < (wrap64 (1 + t312))) = false := decide_eq_false c6
            clear c6
            have H' := Aside0.mk H
            clear H
            have hcz9_0 : wr.cell? ⟨gb310, 0, none⟩ = some (.int .i64 a0_0) := (blk_cell BK310.out 0).trans rfl
            have hcz9_1 : wr.cell? ⟨gb310, 1, none⟩ = some (.int .u64 a0_1) := (blk_cell BK310.out 1).trans rfl
            have hcz9_2 : wr.cell? ⟨gb310, 2, none⟩ = some (.slice A0_2 l0_2.length c0_2) := (blk_cell BK310.out 2).trans rfl
            have hcz9_3 : wr.cell? ⟨gb310, 3, none⟩ = some (.slice A0_3 l0_3.length c0_3) := (blk_cell BK310.out 3).trans rfl
            have hfz9_0 := blk_frozen BK310.out 0
            have hfz9_1 := blk_frozen BK310.out 1
            have hfz9_2 := blk_frozen BK310.out 2
            have hfz9_3 := blk_frozen BK310.out 3
            have p311 : 0 ≤ (x4_1 : Int) := of_decide_eq_true (by first | (with_reducible assumption) | assumption)
            have q311 : x4_1 < (l0_3.length : Int) := of_decide_eq_true (by first | (with_reducible assumption) | assumption)
            obtain ⟨ad311, A311_2, c311_2, A311_3, c311_3, e311, hx311_0, hx311_1, hx311_2, hx311_3, hl311_2, hi311_2, hl311_3, hi311_3⟩ := at_T34 HR0_3.out x4_1 p311 q311
            cases e311
            replace hx311_0 := (HB.out.cell (World.block_lt_of_cell? w _ hx311_0)).trans hx311_0
            replace hx311_1 := (HB.out.cell (World.block_lt_of_cell? w _ hx311_1)).trans hx311_1
            replace hx311_2 := (HB.out.cell (World.block_lt_of_cell? w _ hx311_2)).trans hx311_2
            replace hx311_3 := (HB.out.cell (World.block_lt_of_cell? w _ hx311_3)).trans hx311_3
            have HR311_2 := Aside0.mk hi311_2
            have HC311_2 := Aside0.mk hl311_2
            clear hi311_2 hl311_2
            have HR311_3 := Aside0.mk hi311_3
            have HC311_3 := Aside0.mk hl311_3
            clear hi311_3 hl311_3
            replace p311 := eq_true p311
            replace q311 := eq_true q311
            go_wp2_with (first | ((with_reducible refine gate_callee (f := 32) rfl ?_); refine goesL_ (some 18) rfl rfl Tryd.func32 (by kernel_rfl) rfl #[.agg #[.int .i64 ((rd_T34 l0_3 x4_1).f0), .int .u64 ((rd_T34 l0_3 x4_1).f1), .slice A311_2 ((rd_T34 l0_3 x4_1).f2).length c311_2, .slice A311_3 ((rd_T34 l0_3 x4_1).f3).length c311_3]] rfl (by (try simp only [List.map_toArray, List.map_cons, List.map_nil]); first | done | rfl | (simp only [List.length_drop, List.length_take]; rfl)) ?_; (with_reducible refine (ih k1 (by have := HK1.out; omega) ((rd_T34 l0_3 x4_1).f0) ((rd_T34 l0_3 x4_1).f1) _ _ ((rd_T34 l0_3 x4_1).f2) _ _ ((rd_T34 l0_3 x4_1).f3) t312 _ ?side1 ?side2 ?side3 ?side4 A5.out).mono ?_); (case side1 => repeat (first | exact (Kd.C_below HR311_2.out HB.out) | (with_reducible refine Kd.C_alloc ?_ _) | (with_reducible refine Kd.C_drewN ?_ _) | (with_reducible refine Kd.C_drew ?_))); (case side2 => exact HC311_2.out); (case side3 => repeat (first | exact (Kd.C_below HR311_3.out HB.out) | (with_reducible refine Kd.C_alloc ?_ _) | (with_reducible refine Kd.C_drewN ?_ _) | (with_reducible refine Kd.C_drew ?_))); (case side4 => exact HC311_3.out); rintro e w10 ⟨rfl, hb⟩; refine ⟨_, rfl, ?_⟩; have n0_ := Aside0.mk (blk_below (g := gb310) (o := .cells #[.int .i64 a0_0, .int .u64 a0_1, .slice A0_2 l0_2.length c0_2, .slice (some ad311) l0_3.length c0_3] 34 (0, 0)) (by (with_reducible repeat (first | refine blk_drewN ?_ _ | refine blk_drew ?_ | refine blk_alloc ?_ _)); exact BK310.out) hb); have n1_ := Aside0.mk (below_step (by repeat (first | (with_reducible first | exact HB.out | apply below_alloc | apply pw_below_drewN | apply below_drew1 | refine below_set ?_ GE310.out) | exact HB.out)) hb); clear BK310; clear HB; have BK310 := n0_; have HB := n1_; clear n0_ n1_; (try clear hb); (try clear hb2); (try clear hk); (try clear hi)))
            go_roundg k1
            case measure => have := HK1.out; omega
            case rel => exact ⟨(x3_1), (wrap64 (x4_1 + 1)), (by first | rfl | (simp; done) | (simp [*]; done)), (by first | rfl | (simp; done) | (simp [*]; done)), H', ⟨by have := HK1.out; omega⟩, ⟨by (with_reducible repeat (first | refine blk_drewN ?_ _ | refine blk_drew ?_ | refine blk_alloc ?_ _)); exact BK310.out⟩, ⟨by repeat (first | (with_reducible first | exact HB.out | apply below_alloc | apply pw_below_drewN | apply below_drew1 | refine below_set ?_ GE310.out) | exact HB.out)⟩⟩
        · rw [if_neg c4] at H
          exact absurd H (by simp)
      · rw [if_neg c3] at H
        have c3b0 : decide (x4_1 < (l0_3.length : Int)) = false := decide_eq_false c3
        clear c3
        obtain rfl := Option.some.inj H
        have hcz11_0 : wr.cell? ⟨gb310, 0, none⟩ = some (.int .i64 a0_0) := (blk_cell BK310.out 0).trans rfl
        have hcz11_1 : wr.cell? ⟨gb310, 1, none⟩ = some (.int .u64 a0_1) := (blk_cell BK310.out 1).trans rfl
        have hcz11_2 : wr.cell? ⟨gb310, 2, none⟩ = some (.slice A0_2 l0_2.length c0_2) := (blk_cell BK310.out 2).trans rfl
        have hcz11_3 : wr.cell? ⟨gb310, 3, none⟩ = some (.slice A0_3 l0_3.length c0_3) := (blk_cell BK310.out 3).trans rfl
        have hfz11_0 := blk_frozen BK310.out 0
        have hfz11_1 := blk_frozen BK310.out 1
        have hfz11_2 := blk_frozen BK310.out 2
        have hfz11_3 := blk_frozen BK310.out 3
        go_wp2
        go_ret
        exact ⟨by first | rfl | (simp [errW_none, errW_some] <;> rfl) | (simp [*, errW_none, errW_some] <;> rfl), by repeat (first | (with_reducible first | exact HB.out | apply below_alloc | apply pw_below_drewN | apply below_drew1 | refine below_set ?_ GE310.out) | exact HB.out)⟩
end Go.Proofs.YthdjmojpnimhjaaDoor.PCbi
