import Derived.Test.YtijmigapdcikpaaDoorZPDerx0
import Derived.Test.YtijmigapdcikpaaDoorZPDerx9
import Derived.Test.YtijmigapdcikpaaDoorZPDerx12
namespace Go.Proofs.YtijmigapdcikpaaDoor.PDer
open Go.RowKit Go.Proofs.YtijmigapdcikpaaDoorW.PrintWords Go.Proofs.YtijmigapdcikpaaDoorW.PrintLast Go.Proofs.YtijmigapdcikpaaDoorW.PrintMore
attribute [local go_sem] max2_int min2_int max_two min_two max_three min_three max_four min_four
set_option linter.unusedVariables false
set_option linter.unusedSimpArgs false
def pyxref08_Parse.f (k : Nat) (l0 : List Int) : Option (Int × List Int × (List (S33)) × Int × Int × Int) := if (l0.length : Int) > 1048576 then (some (0, ([] : List Int), ([] : List (S33)), 0, 1, 1048576)) else ((pyxref08_read.f k l0 0 (l0.length : Int) 0).bind fun bt230 => (if bt230.2.2.2.2.1 = 0 then (if bt230.2.2.2.1 < (l0.length : Int) then (some (0, ([] : List Int), ([] : List (S33)), 0, 4, bt230.2.2.2.1)) else (some (bt230.1, bt230.2.1, bt230.2.2.1, bt230.2.2.2.1, bt230.2.2.2.2.1, bt230.2.2.2.2.2))) else (some (bt230.1, bt230.2.1, bt230.2.2.1, bt230.2.2.2.1, bt230.2.2.2.2.1, bt230.2.2.2.2.2))))
set_option maxHeartbeats 8000000 in
set_option maxRecDepth 100000 in
theorem pyxref08_Parse.calls (k : Nat) (A0 : Option Addr) (c0 : Nat) (l0 : List Int) (r1 : Int) (r2 : List Int) (r3 : List (S33)) (r4 : Int) (r5 : Int) (r6 : Int) (w : World) (hr0 : Kd.C (Kd.int .u8) w A0 l0.length l0) (hc0 : l0.length ≤ c0) (h : pyxref08_Parse.f k l0 = some (r1, r2, r3, r4, r5, r6)) :
    Calls Tryd.prog 13 #[.slice A0 l0.length c0] w fun e w' => ∃ v1_ v2_ : Value, e = .returned (.agg #[.int .u8 r1, v1_, v2_, .int .i64 r4, .int .i64 r5, .int .i64 r6]) ∧ Kd.R (Kd.int .u8) 5 w' w.heap.size (fun _ => True) v1_ r2 ∧ Kd.R k33 33 w' w.heap.size (fun k_ => some k_ ≠ (v1_ : Value).ownBlock) v2_ r3 ∧ Below w.heap.size w w' := by
  have hu35 := Tryd.underlying35
  have HR0 := Aside0.mk hr0
  have HC0 := Aside0.mk hc0
  clear hr0 hc0
  have HB := Aside0.mk (Below.refl w.heap.size w)
  have H : (if (l0.length : Int) > 1048576 then (some (0, ([] : List Int), ([] : List (S33)), 0, 1, 1048576)) else ((pyxref08_read.f k l0 0 (l0.length : Int) 0).bind fun bt230 => (if bt230.2.2.2.2.1 = 0 then (if bt230.2.2.2.1 < (l0.length : Int) then (some (0, ([] : List Int), ([] : List (S33)), 0, 4, bt230.2.2.2.1)) else (some (bt230.1, bt230.2.1, bt230.2.2.1, bt230.2.2.2.1, bt230.2.2.2.2.1, bt230.2.2.2.2.2))) else (some (bt230.1, bt230.2.1, bt230.2.2.1, bt230.2.2.2.1, bt230.2.2.2.2.1, bt230.2.2.2.2.2))))) = some (r1, r2, r3, r4, r5, r6) := h
  clear h
  by_cases c2 : (l0.length : Int) > 1048576
  · rw [if_pos c2] at H
    have c2b0 : decide (1048576 < (l0.length : Int)) = true := decide_eq_true c2
    have c2b1 : decide (1048576 < l0.length) = true := decide_eq_true (by omega)
    clear c2
    simp only [Option.some.injEq, Prod.mk.injEq] at H
    obtain ⟨rfl, rfl, rfl, rfl, rfl, rfl⟩ := H
    go_enter Tryd.func13, Tryd.ntmps13
    go_wp2_with (first | ((with_reducible refine gate_dst (N := 2) rfl ?_); (try (refine gate_guard (by rfl) ?_; dsimp only)); refine box_event ?hg (N := 2) ?hd (cs := #[.int .u8 0, .slice none 0 0, .slice none 0 0, .int .i64 0, .int .i64 0, .int .i64 0]) (t := 35) ?hr ?_; (case hd => rfl); (case hg => rfl); (case hr => first | (go_simp; done) | (go_simp; rfl)); intro gb229 hg w3 hbox hb; have n0_ := Aside0.mk (below_step (by repeat (first | (with_reducible first | exact HB.out | apply below_alloc | apply pw_below_drewN | apply below_drew1) | exact HB.out)) hb); have n1_ := Aside0.mk (hbox); have n2_ := Aside0.mk ((by rw [hg]; exact (below_size (by repeat (first | (with_reducible first | exact HB.out | apply below_alloc | apply pw_below_drewN | apply below_drew1) | exact HB.out))) : w.heap.size ≤ gb229)); have n3_ := Aside0.mk ((by rw [hg]; exact (below_size (by repeat (first | (with_reducible first | exact HB.out | apply below_alloc | apply pw_below_drewN | apply below_drew1) | exact HB.out))) : w.heap.size ≤ gb229)); clear HB; have HB := n0_; have BK229 := n1_; have GW229 := n2_; have GE229 := n3_; clear n0_ n1_ n2_ n3_; clear hb hbox hg; have hcz4_0 : w3.cell? ⟨gb229, 0, none⟩ = some (.int .u8 0) := (blk_cell BK229.out 0).trans rfl; have hcz4_1 : w3.cell? ⟨gb229, 1, none⟩ = some (.slice none 0 0) := (blk_cell BK229.out 1).trans rfl; have hcz4_2 : w3.cell? ⟨gb229, 2, none⟩ = some (.slice none 0 0) := (blk_cell BK229.out 2).trans rfl; have hcz4_3 : w3.cell? ⟨gb229, 3, none⟩ = some (.int .i64 0) := (blk_cell BK229.out 3).trans rfl; have hcz4_4 : w3.cell? ⟨gb229, 4, none⟩ = some (.int .i64 0) := (blk_cell BK229.out 4).trans rfl; have hcz4_5 : w3.cell? ⟨gb229, 5, none⟩ = some (.int .i64 0) := (blk_cell BK229.out 5).trans rfl; have hfz4_0 := blk_frozen BK229.out 0; have hfz4_1 := blk_frozen BK229.out 1; have hfz4_2 := blk_frozen BK229.out 2; have hfz4_3 := blk_frozen BK229.out 3; have hfz4_4 := blk_frozen BK229.out 4; have hfz4_5 := blk_frozen BK229.out 5))
    refine bodyPost_ret (results_cell_row rfl _ _ gb229 35 #[.int .u8 0, .slice none 0 0, .slice none 0 0, .int .i64 0, .int .i64 1, .int .i64 1048576] (0, 0) _ rfl (by (with_reducible repeat (first | refine blk_drewN ?_ _ | refine blk_drew ?_ | refine blk_alloc ?_ _)); refine blk_put (cs := #[.int .u8 0, .slice none 0 0, .slice none 0 0, .int .i64 0, .int .i64 1, .int .i64 0]) ?_ 5 _ rfl; (with_reducible repeat (first | refine blk_drewN ?_ _ | refine blk_drew ?_ | refine blk_alloc ?_ _)); refine blk_put (cs := #[.int .u8 0, .slice none 0 0, .slice none 0 0, .int .i64 0, .int .i64 0, .int .i64 0]) ?_ 4 _ rfl; (with_reducible repeat (first | refine blk_drewN ?_ _ | refine blk_drew ?_ | refine blk_alloc ?_ _)); refine blk_put (cs := #[.int .u8 0, .slice none 0 0, .slice none 0 0, .int .i64 0, .int .i64 0, .int .i64 0]) ?_ 3 _ rfl; (with_reducible repeat (first | refine blk_drewN ?_ _ | refine blk_drew ?_ | refine blk_alloc ?_ _)); refine blk_put (cs := #[.int .u8 0, .slice none 0 0, .slice none 0 0, .int .i64 0, .int .i64 0, .int .i64 0]) ?_ 2 _ rfl; (with_reducible repeat (first | refine blk_drewN ?_ _ | refine blk_drew ?_ | refine blk_alloc ?_ _)); refine blk_put (cs := #[.int .u8 0, .slice none 0 0, .slice none 0 0, .int .i64 0, .int .i64 0, .int .i64 0]) ?_ 1 _ rfl; (with_reducible repeat (first | refine blk_drewN ?_ _ | refine blk_drew ?_ | refine blk_alloc ?_ _)); refine blk_put (cs := #[.int .u8 0, .slice none 0 0, .slice none 0 0, .int .i64 0, .int .i64 0, .int .i64 0]) ?_ 0 _ rfl; (with_reducible repeat (first | refine blk_drewN ?_ _ | refine blk_drew ?_ | refine blk_alloc ?_ _)); exact BK229.out) Tryd.underlying35 rfl (by kernel_rfl)) rfl ?_
    exact ⟨_, _, by first | rfl | (simp [errW_none, errW_some] <;> rfl) | (simp [*, errW_none, errW_some] <;> rfl), by first | exact Kd.R_nil _ _ _ _ _ | exact Kd.N_nil _ _ _ _ _ | exact Kd.V_nil _ _ _ _ _ | exact Kd.Q_nil _ _ _ _ _ | exact Kd.S_nil _ _ _ _ _, by first | exact Kd.R_nil _ _ _ _ _ | exact Kd.N_nil _ _ _ _ _ | exact Kd.V_nil _ _ _ _ _ | exact Kd.Q_nil _ _ _ _ _ | exact Kd.S_nil _ _ _ _ _, by repeat (first | (with_reducible first | exact HB.out | apply below_alloc | apply pw_below_drewN | apply below_drew1 | refine below_set ?_ GE229.out) | exact HB.out)⟩
  · rw [if_neg c2] at H
    have c2b0 : decide (1048576 < (l0.length : Int)) = false := decide_eq_false c2
    have c2b1 : decide (1048576 < l0.length) = false := decide_eq_false (by omega)
    clear c2
    replace H := Option.bind_eq_some_iff.mp H
    obtain ⟨⟨t230, t231, t234, t237, t238, t239⟩, A50, H⟩ := H
    replace H : (if t238 = 0 then (if t237 < (l0.length : Int) then (some (0, ([] : List Int), ([] : List (S33)), 0, 4, t237)) else (some (t230, t231, t234, t237, t238, t239))) else (some (t230, t231, t234, t237, t238, t239))) = some (r1, r2, r3, r4, r5, r6) := H
    have A5 := Aside0.mk A50
    clear A50
    by_cases c6 : t238 = 0
    · rw [if_pos c6] at H
      have c6b0 : (t238 == 0) = true := beq_iff_eq.mpr c6
      have c6b1 : (t238 != 0) = false := bne_eq_false_iff_eq.mpr c6
      clear c6
      by_cases c7 : t237 < (l0.length : Int)
      · rw [if_pos c7] at H
        have c7b0 : decide (t237 < (l0.length : Int)) = true := decide_eq_true c7
        clear c7
        simp only [Option.some.injEq, Prod.mk.injEq] at H
        obtain ⟨rfl, rfl, rfl, rfl, rfl, rfl⟩ := H
        go_enter Tryd.func13, Tryd.ntmps13
        go_wp2_with (first | ((with_reducible refine gate_dst (N := 2) rfl ?_); (try (refine gate_guard (by rfl) ?_; dsimp only)); refine box_event ?hg (N := 2) ?hd (cs := #[.int .u8 0, .slice none 0 0, .slice none 0 0, .int .i64 0, .int .i64 0, .int .i64 0]) (t := 35) ?hr ?_; (case hd => rfl); (case hg => rfl); (case hr => first | (go_simp; done) | (go_simp; rfl)); intro gb229 hg w8 hbox hb; have n0_ := Aside0.mk (below_step (by repeat (first | (with_reducible first | exact HB.out | apply below_alloc | apply pw_below_drewN | apply below_drew1) | exact HB.out)) hb); have n1_ := Aside0.mk (hbox); have n2_ := Aside0.mk ((by rw [hg]; exact (below_size (by repeat (first | (with_reducible first | exact HB.out | apply below_alloc | apply pw_below_drewN | apply below_drew1) | exact HB.out))) : w.heap.size ≤ gb229)); have n3_ := Aside0.mk ((by rw [hg]; exact (below_size (by repeat (first | (with_reducible first | exact HB.out | apply below_alloc | apply pw_below_drewN | apply below_drew1) | exact HB.out))) : w.heap.size ≤ gb229)); clear HB; have HB := n0_; have BK229 := n1_; have GW229 := n2_; have GE229 := n3_; clear n0_ n1_ n2_ n3_; clear hb hbox hg) | ((with_reducible refine gate_callee (f := 47) rfl ?_); refine goesL_ (some 11) rfl rfl Tryd.func47 (by kernel_rfl) rfl #[.slice A0 l0.length c0, .int .i64 0, .int .i64 (l0.length : Int), .int .i64 0] rfl (by (try simp only [List.map_toArray, List.map_cons, List.map_nil]); first | done | rfl | (simp only [List.length_drop, List.length_take]; rfl)) ?_; (with_reducible refine (pyxref08_read.calls k _ _ l0 0 (l0.length : Int) 0 t230 t231 t234 t237 t238 t239 _ ?side1 ?side2 A5.out).mono ?_); (case side1 => repeat (first | exact (Kd.C_below HR0.out HB.out) | (with_reducible refine Kd.C_alloc ?_ _) | (with_reducible refine Kd.C_drewN ?_ _) | (with_reducible refine Kd.C_drew ?_))); (case side2 => exact HC0.out); rintro e w9 ⟨v232, v235, rfl, ho0, ho1, hb⟩; refine ⟨_, rfl, ?_⟩; have n0_ := Aside0.mk (Kd.R_lower ho0 (below_size (by repeat (first | (with_reducible first | exact HB.out | apply below_alloc | apply pw_below_drewN | apply below_drew1 | refine below_set ?_ GE229.out) | exact HB.out)))); have n1_ := Aside0.mk (Kd.R_lower ho1 (below_size (by repeat (first | (with_reducible first | exact HB.out | apply below_alloc | apply pw_below_drewN | apply below_drew1 | refine below_set ?_ GE229.out) | exact HB.out)))); have n2_ := Aside0.mk (blk_below (g := gb229) (o := .cells #[.int .u8 0, .slice none 0 0, .slice none 0 0, .int .i64 0, .int .i64 0, .int .i64 0] 35 (0, 0)) (by (with_reducible repeat (first | refine blk_drewN ?_ _ | refine blk_drew ?_ | refine blk_alloc ?_ _)); exact BK229.out) hb); have n3_ := Aside0.mk (below_step (by repeat (first | (with_reducible first | exact HB.out | apply below_alloc | apply pw_below_drewN | apply below_drew1 | refine below_set ?_ GE229.out) | exact HB.out)) hb); clear BK229; clear HB; have HO233 := n0_; have HO236 := n1_; have BK229 := n2_; have HB := n3_; clear n0_ n1_ n2_ n3_; (try clear hb); (try clear hb2); (try clear hk); (try clear hi); (try clear ho0); (try clear ho1)) | ((with_reducible refine gate_dst (N := 3) rfl ?_); (try (refine gate_guard (by rfl) ?_; dsimp only)); refine box_event ?hg (N := 3) ?hd (cs := #[.int .u8 0, .slice none 0 0, .slice none 0 0, .int .i64 0, .int .i64 0, .int .i64 0]) (t := 35) ?hr ?_; (case hd => rfl); (case hg => rfl); (case hr => first | (go_simp; done) | (go_simp; rfl)); intro gb240 hg w10 hbox hb; have n0_ := Aside0.mk (Kd.R_below (by (with_reducible repeat (first | apply Kd.R_alloc | apply Kd.R_drewN | apply Kd.R_drew)); exact HO233.out) hb); have n1_ := Aside0.mk (Kd.R_below (by (with_reducible repeat (first | apply Kd.R_alloc | apply Kd.R_drewN | apply Kd.R_drew)); exact HO236.out) hb); have n2_ := Aside0.mk (blk_below (g := gb229) (o := .cells #[.int .u8 0, .slice none 0 0, .slice none 0 0, .int .i64 0, .int .i64 0, .int .i64 0] 35 (0, 0)) (by (with_reducible repeat (first | refine blk_drewN ?_ _ | refine blk_drew ?_ | refine blk_alloc ?_ _)); exact BK229.out) hb); have n3_ := Aside0.mk (below_step (by repeat (first | (with_reducible first | exact HB.out | apply below_alloc | apply pw_below_drewN | apply below_drew1 | refine below_set ?_ GE229.out) | exact HB.out)) hb); have n4_ := Aside0.mk (hbox); have n5_ := Aside0.mk ((by rw [hg]; exact (below_size (by repeat (first | (with_reducible first | exact HB.out | apply below_alloc | apply pw_below_drewN | apply below_drew1 | refine below_set ?_ GE229.out) | exact HB.out))) : w.heap.size ≤ gb240)); have n6_ := Aside0.mk ((by rw [hg]; exact (below_size (by repeat (first | (with_reducible first | exact HB.out | apply below_alloc | apply pw_below_drewN | apply below_drew1 | refine below_set ?_ GE229.out) | exact HB.out))) : w.heap.size ≤ gb240)); have n7_ := Aside0.mk ((by rw [hg]; exact Nat.ne_of_lt (blk_lt (g := gb229) (o := .cells #[.int .u8 0, .slice none 0 0, .slice none 0 0, .int .i64 0, .int .i64 0, .int .i64 0] 35 (0, 0)) (by (with_reducible repeat (first | refine blk_drewN ?_ _ | refine blk_drew ?_ | refine blk_alloc ?_ _)); exact BK229.out)) : gb229 ≠ gb240)); have n8_ := Aside0.mk ((by rw [hg]; exact Nat.ne_of_gt (blk_lt (g := gb229) (o := .cells #[.int .u8 0, .slice none 0 0, .slice none 0 0, .int .i64 0, .int .i64 0, .int .i64 0] 35 (0, 0)) (by (with_reducible repeat (first | refine blk_drewN ?_ _ | refine blk_drew ?_ | refine blk_alloc ?_ _)); exact BK229.out)) : gb240 ≠ gb229)); clear HO233; clear HO236; clear BK229; clear HB; have HO233 := n0_; have HO236 := n1_; have BK229 := n2_; have HB := n3_; have BK240 := n4_; have GW240 := n5_; have GE240 := n6_; have NB229_240 := n7_; have NB240_229 := n8_; clear n0_ n1_ n2_ n3_ n4_ n5_ n6_ n7_ n8_; clear hb hbox hg; have hnb11 := NB240_229.out; have hnc11 := NB229_240.out; have hcz12_0 : w10.cell? ⟨gb240, 0, none⟩ = some (.int .u8 0) := (blk_cell BK240.out 0).trans rfl; have hcz12_1 : w10.cell? ⟨gb240, 1, none⟩ = some (.slice none 0 0) := (blk_cell BK240.out 1).trans rfl; have hcz12_2 : w10.cell? ⟨gb240, 2, none⟩ = some (.slice none 0 0) := (blk_cell BK240.out 2).trans rfl; have hcz12_3 : w10.cell? ⟨gb240, 3, none⟩ = some (.int .i64 0) := (blk_cell BK240.out 3).trans rfl; have hcz12_4 : w10.cell? ⟨gb240, 4, none⟩ = some (.int .i64 0) := (blk_cell BK240.out 4).trans rfl; have hcz12_5 : w10.cell? ⟨gb240, 5, none⟩ = some (.int .i64 0) := (blk_cell BK240.out 5).trans rfl; have hfz12_0 := blk_frozen BK240.out 0; have hfz12_1 := blk_frozen BK240.out 1; have hfz12_2 := blk_frozen BK240.out 2; have hfz12_3 := blk_frozen BK240.out 3; have hfz12_4 := blk_frozen BK240.out 4; have hfz12_5 := blk_frozen BK240.out 5; obtain ⟨Ao13, co13, eo13⟩ := Kd.R_slice HO233.out; subst eo13; obtain ⟨Ao14, co14, eo14⟩ := Kd.R_slice HO236.out; subst eo14; have hcz15_0 : w10.cell? ⟨gb229, 0, none⟩ = some (.int .u8 0) := (blk_cell BK229.out 0).trans rfl; have hcz15_1 : w10.cell? ⟨gb229, 1, none⟩ = some (.slice none 0 0) := (blk_cell BK229.out 1).trans rfl; have hcz15_2 : w10.cell? ⟨gb229, 2, none⟩ = some (.slice none 0 0) := (blk_cell BK229.out 2).trans rfl; have hcz15_3 : w10.cell? ⟨gb229, 3, none⟩ = some (.int .i64 0) := (blk_cell BK229.out 3).trans rfl; have hcz15_4 : w10.cell? ⟨gb229, 4, none⟩ = some (.int .i64 0) := (blk_cell BK229.out 4).trans rfl; have hcz15_5 : w10.cell? ⟨gb229, 5, none⟩ = some (.int .i64 0) := (blk_cell BK229.out 5).trans rfl; have hfz15_0 := blk_frozen BK229.out 0; have hfz15_1 := blk_frozen BK229.out 1; have hfz15_2 := blk_frozen BK229.out 2; have hfz15_3 := blk_frozen BK229.out 3; have hfz15_4 := blk_frozen BK229.out 4; have hfz15_5 := blk_frozen BK229.out 5))
        refine bodyPost_ret (results_cell_row rfl _ _ gb229 35 #[.int .u8 0, .slice none 0 0, .slice none 0 0, .int .i64 0, .int .i64 4, .int .i64 t237] (0, 0) _ rfl (by (with_reducible repeat (first | refine blk_drewN ?_ _ | refine blk_drew ?_ | refine blk_alloc ?_ _)); refine blk_put (cs := #[.int .u8 0, .slice none 0 0, .slice none 0 0, .int .i64 0, .int .i64 4, .int .i64 0]) ?_ 5 _ rfl; (with_reducible repeat (first | refine blk_drewN ?_ _ | refine blk_drew ?_ | refine blk_alloc ?_ _)); refine blk_put (cs := #[.int .u8 0, .slice none 0 0, .slice none 0 0, .int .i64 0, .int .i64 0, .int .i64 0]) ?_ 4 _ rfl; (with_reducible repeat (first | refine blk_drewN ?_ _ | refine blk_drew ?_ | refine blk_alloc ?_ _)); refine blk_put (cs := #[.int .u8 0, .slice none 0 0, .slice none 0 0, .int .i64 0, .int .i64 0, .int .i64 0]) ?_ 3 _ rfl; (with_reducible repeat (first | refine blk_drewN ?_ _ | refine blk_drew ?_ | refine blk_alloc ?_ _)); refine blk_put (cs := #[.int .u8 0, .slice none 0 0, .slice none 0 0, .int .i64 0, .int .i64 0, .int .i64 0]) ?_ 2 _ rfl; (with_reducible repeat (first | refine blk_drewN ?_ _ | refine blk_drew ?_ | refine blk_alloc ?_ _)); refine blk_put (cs := #[.int .u8 0, .slice none 0 0, .slice none 0 0, .int .i64 0, .int .i64 0, .int .i64 0]) ?_ 1 _ rfl; (with_reducible repeat (first | refine blk_drewN ?_ _ | refine blk_drew ?_ | refine blk_alloc ?_ _)); refine blk_put (cs := #[.int .u8 0, .slice none 0 0, .slice none 0 0, .int .i64 0, .int .i64 0, .int .i64 0]) ?_ 0 _ rfl; (with_reducible repeat (first | refine blk_drewN ?_ _ | refine blk_drew ?_ | refine blk_alloc ?_ _)); refine blk_far ?_ NB229_240.out _; (with_reducible repeat (first | refine blk_drewN ?_ _ | refine blk_drew ?_ | refine blk_alloc ?_ _)); refine blk_far ?_ NB229_240.out _; (with_reducible repeat (first | refine blk_drewN ?_ _ | refine blk_drew ?_ | refine blk_alloc ?_ _)); refine blk_far ?_ NB229_240.out _; (with_reducible repeat (first | refine blk_drewN ?_ _ | refine blk_drew ?_ | refine blk_alloc ?_ _)); refine blk_far ?_ NB229_240.out _; (with_reducible repeat (first | refine blk_drewN ?_ _ | refine blk_drew ?_ | refine blk_alloc ?_ _)); refine blk_far ?_ NB229_240.out _; (with_reducible repeat (first | refine blk_drewN ?_ _ | refine blk_drew ?_ | refine blk_alloc ?_ _)); refine blk_far ?_ NB229_240.out _; (with_reducible repeat (first | refine blk_drewN ?_ _ | refine blk_drew ?_ | refine blk_alloc ?_ _)); exact BK229.out) Tryd.underlying35 rfl (by kernel_rfl)) rfl ?_
        exact ⟨_, _, by first | rfl | (simp [errW_none, errW_some] <;> rfl) | (simp [*, errW_none, errW_some] <;> rfl), by first | exact Kd.R_nil _ _ _ _ _ | exact Kd.N_nil _ _ _ _ _ | exact Kd.V_nil _ _ _ _ _ | exact Kd.Q_nil _ _ _ _ _ | exact Kd.S_nil _ _ _ _ _, by first | exact Kd.R_nil _ _ _ _ _ | exact Kd.N_nil _ _ _ _ _ | exact Kd.V_nil _ _ _ _ _ | exact Kd.Q_nil _ _ _ _ _ | exact Kd.S_nil _ _ _ _ _, by repeat (first | (with_reducible first | exact HB.out | apply below_alloc | apply pw_below_drewN | apply below_drew1 | refine below_set ?_ GE229.out | refine below_set ?_ GE240.out) | exact HB.out)⟩
      · rw [if_neg c7] at H
        have c7b0 : decide (t237 < (l0.length : Int)) = false := decide_eq_false c7
        clear c7
        simp only [Option.some.injEq, Prod.mk.injEq] at H
        obtain ⟨rfl, rfl, rfl, rfl, rfl, rfl⟩ := H
        go_enter Tryd.func13, Tryd.ntmps13
        go_wp2_with (first | ((with_reducible refine gate_dst (N := 2) rfl ?_); (try (refine gate_guard (by rfl) ?_; dsimp only)); refine box_event ?hg (N := 2) ?hd (cs := #[.int .u8 0, .slice none 0 0, .slice none 0 0, .int .i64 0, .int .i64 0, .int .i64 0]) (t := 35) ?hr ?_; (case hd => rfl); (case hg => rfl); (case hr => first | (go_simp; done) | (go_simp; rfl)); intro gb229 hg w16 hbox hb; have n0_ := Aside0.mk (below_step (by repeat (first | (with_reducible first | exact HB.out | apply below_alloc | apply pw_below_drewN | apply below_drew1) | exact HB.out)) hb); have n1_ := Aside0.mk (hbox); have n2_ := Aside0.mk ((by rw [hg]; exact (below_size (by repeat (first | (with_reducible first | exact HB.out | apply below_alloc | apply pw_below_drewN | apply below_drew1) | exact HB.out))) : w.heap.size ≤ gb229)); have n3_ := Aside0.mk ((by rw [hg]; exact (below_size (by repeat (first | (with_reducible first | exact HB.out | apply below_alloc | apply pw_below_drewN | apply below_drew1) | exact HB.out))) : w.heap.size ≤ gb229)); clear HB; have HB := n0_; have BK229 := n1_; have GW229 := n2_; have GE229 := n3_; clear n0_ n1_ n2_ n3_; clear hb hbox hg) | ((with_reducible refine gate_callee (f := 47) rfl ?_); refine goesL_ (some 11) rfl rfl Tryd.func47 (by kernel_rfl) rfl #[.slice A0 l0.length c0, .int .i64 0, .int .i64 (l0.length : Int), .int .i64 0] rfl (by (try simp only [List.map_toArray, List.map_cons, List.map_nil]); first | done | rfl | (simp only [List.length_drop, List.length_take]; rfl)) ?_; (with_reducible refine (pyxref08_read.calls k _ _ l0 0 (l0.length : Int) 0 t230 t231 t234 t237 t238 t239 _ ?side1 ?side2 A5.out).mono ?_); (case side1 => repeat (first | exact (Kd.C_below HR0.out HB.out) | (with_reducible refine Kd.C_alloc ?_ _) | (with_reducible refine Kd.C_drewN ?_ _) | (with_reducible refine Kd.C_drew ?_))); (case side2 => exact HC0.out); rintro e w17 ⟨v232, v235, rfl, ho0, ho1, hb⟩; refine ⟨_, rfl, ?_⟩; have n0_ := Aside0.mk (Kd.R_lower ho0 (below_size (by repeat (first | (with_reducible first | exact HB.out | apply below_alloc | apply pw_below_drewN | apply below_drew1 | refine below_set ?_ GE229.out) | exact HB.out)))); have n1_ := Aside0.mk (Kd.R_lower ho1 (below_size (by repeat (first | (with_reducible first | exact HB.out | apply below_alloc | apply pw_below_drewN | apply below_drew1 | refine below_set ?_ GE229.out) | exact HB.out)))); have n2_ := Aside0.mk (blk_below (g := gb229) (o := .cells #[.int .u8 0, .slice none 0 0, .slice none 0 0, .int .i64 0, .int .i64 0, .int .i64 0] 35 (0, 0)) (by (with_reducible repeat (first | refine blk_drewN ?_ _ | refine blk_drew ?_ | refine blk_alloc ?_ _)); exact BK229.out) hb); have n3_ := Aside0.mk (below_step (by repeat (first | (with_reducible first | exact HB.out | apply below_alloc | apply pw_below_drewN | apply below_drew1 | refine below_set ?_ GE229.out) | exact HB.out)) hb); clear BK229; clear HB; have HO233 := n0_; have HO236 := n1_; have BK229 := n2_; have HB := n3_; clear n0_ n1_ n2_ n3_; (try clear hb); (try clear hb2); (try clear hk); (try clear hi); (try clear ho0); (try clear ho1)) | ((with_reducible refine gate_dst (N := 3) rfl ?_); (try (refine gate_guard (by rfl) ?_; dsimp only)); refine box_event ?hg (N := 3) ?hd (cs := #[.int .u8 0, .slice none 0 0, .slice none 0 0, .int .i64 0, .int .i64 0, .int .i64 0]) (t := 35) ?hr ?_; (case hd => rfl); (case hg => rfl); (case hr => first | (go_simp; done) | (go_simp; rfl)); intro gb240 hg w18 hbox hb; have n0_ := Aside0.mk (Kd.R_below (by (with_reducible repeat (first | apply Kd.R_alloc | apply Kd.R_drewN | apply Kd.R_drew)); exact HO233.out) hb); have n1_ := Aside0.mk (Kd.R_below (by (with_reducible repeat (first | apply Kd.R_alloc | apply Kd.R_drewN | apply Kd.R_drew)); exact HO236.out) hb); have n2_ := Aside0.mk (blk_below (g := gb229) (o := .cells #[.int .u8 0, .slice none 0 0, .slice none 0 0, .int .i64 0, .int .i64 0, .int .i64 0] 35 (0, 0)) (by (with_reducible repeat (first | refine blk_drewN ?_ _ | refine blk_drew ?_ | refine blk_alloc ?_ _)); exact BK229.out) hb); have n3_ := Aside0.mk (below_step (by repeat (first | (with_reducible first | exact HB.out | apply below_alloc | apply pw_below_drewN | apply below_drew1 | refine below_set ?_ GE229.out) | exact HB.out)) hb); have n4_ := Aside0.mk (hbox); have n5_ := Aside0.mk ((by rw [hg]; exact (below_size (by repeat (first | (with_reducible first | exact HB.out | apply below_alloc | apply pw_below_drewN | apply below_drew1 | refine below_set ?_ GE229.out) | exact HB.out))) : w.heap.size ≤ gb240)); have n6_ := Aside0.mk ((by rw [hg]; exact (below_size (by repeat (first | (with_reducible first | exact HB.out | apply below_alloc | apply pw_below_drewN | apply below_drew1 | refine below_set ?_ GE229.out) | exact HB.out))) : w.heap.size ≤ gb240)); have n7_ := Aside0.mk ((by rw [hg]; exact Nat.ne_of_lt (blk_lt (g := gb229) (o := .cells #[.int .u8 0, .slice none 0 0, .slice none 0 0, .int .i64 0, .int .i64 0, .int .i64 0] 35 (0, 0)) (by (with_reducible repeat (first | refine blk_drewN ?_ _ | refine blk_drew ?_ | refine blk_alloc ?_ _)); exact BK229.out)) : gb229 ≠ gb240)); have n8_ := Aside0.mk ((by rw [hg]; exact Nat.ne_of_gt (blk_lt (g := gb229) (o := .cells #[.int .u8 0, .slice none 0 0, .slice none 0 0, .int .i64 0, .int .i64 0, .int .i64 0] 35 (0, 0)) (by (with_reducible repeat (first | refine blk_drewN ?_ _ | refine blk_drew ?_ | refine blk_alloc ?_ _)); exact BK229.out)) : gb240 ≠ gb229)); clear HO233; clear HO236; clear BK229; clear HB; have HO233 := n0_; have HO236 := n1_; have BK229 := n2_; have HB := n3_; have BK240 := n4_; have GW240 := n5_; have GE240 := n6_; have NB229_240 := n7_; have NB240_229 := n8_; clear n0_ n1_ n2_ n3_ n4_ n5_ n6_ n7_ n8_; clear hb hbox hg; have hnb19 := NB240_229.out; have hnc19 := NB229_240.out; have hcz20_0 : w18.cell? ⟨gb240, 0, none⟩ = some (.int .u8 0) := (blk_cell BK240.out 0).trans rfl; have hcz20_1 : w18.cell? ⟨gb240, 1, none⟩ = some (.slice none 0 0) := (blk_cell BK240.out 1).trans rfl; have hcz20_2 : w18.cell? ⟨gb240, 2, none⟩ = some (.slice none 0 0) := (blk_cell BK240.out 2).trans rfl; have hcz20_3 : w18.cell? ⟨gb240, 3, none⟩ = some (.int .i64 0) := (blk_cell BK240.out 3).trans rfl; have hcz20_4 : w18.cell? ⟨gb240, 4, none⟩ = some (.int .i64 0) := (blk_cell BK240.out 4).trans rfl; have hcz20_5 : w18.cell? ⟨gb240, 5, none⟩ = some (.int .i64 0) := (blk_cell BK240.out 5).trans rfl; have hfz20_0 := blk_frozen BK240.out 0; have hfz20_1 := blk_frozen BK240.out 1; have hfz20_2 := blk_frozen BK240.out 2; have hfz20_3 := blk_frozen BK240.out 3; have hfz20_4 := blk_frozen BK240.out 4; have hfz20_5 := blk_frozen BK240.out 5; obtain ⟨Ao21, co21, eo21⟩ := Kd.R_slice HO233.out; subst eo21; obtain ⟨Ao22, co22, eo22⟩ := Kd.R_slice HO236.out; subst eo22; have hcz23_0 : w18.cell? ⟨gb229, 0, none⟩ = some (.int .u8 0) := (blk_cell BK229.out 0).trans rfl; have hcz23_1 : w18.cell? ⟨gb229, 1, none⟩ = some (.slice none 0 0) := (blk_cell BK229.out 1).trans rfl; have hcz23_2 : w18.cell? ⟨gb229, 2, none⟩ = some (.slice none 0 0) := (blk_cell BK229.out 2).trans rfl; have hcz23_3 : w18.cell? ⟨gb229, 3, none⟩ = some (.int .i64 0) := (blk_cell BK229.out 3).trans rfl; have hcz23_4 : w18.cell? ⟨gb229, 4, none⟩ = some (.int .i64 0) := (blk_cell BK229.out 4).trans rfl; have hcz23_5 : w18.cell? ⟨gb229, 5, none⟩ = some (.int .i64 0) := (blk_cell BK229.out 5).trans rfl; have hfz23_0 := blk_frozen BK229.out 0; have hfz23_1 := blk_frozen BK229.out 1; have hfz23_2 := blk_frozen BK229.out 2; have hfz23_3 := blk_frozen BK229.out 3; have hfz23_4 := blk_frozen BK229.out 4; have hfz23_5 := blk_frozen BK229.out 5))
        refine bodyPost_ret (results_cell_row rfl _ _ gb229 35 #[.int .u8 t230, .slice Ao21 t231.length co21, .slice Ao22 t234.length co22, .int .i64 t237, .int .i64 t238, .int .i64 t239] (0, 0) _ rfl (by (with_reducible repeat (first | refine blk_drewN ?_ _ | refine blk_drew ?_ | refine blk_alloc ?_ _)); refine blk_put (cs := #[.int .u8 t230, .slice Ao21 t231.length co21, .slice Ao22 t234.length co22, .int .i64 t237, .int .i64 t238, .int .i64 0]) ?_ 5 _ rfl; (with_reducible repeat (first | refine blk_drewN ?_ _ | refine blk_drew ?_ | refine blk_alloc ?_ _)); refine blk_put (cs := #[.int .u8 t230, .slice Ao21 t231.length co21, .slice Ao22 t234.length co22, .int .i64 t237, .int .i64 0, .int .i64 0]) ?_ 4 _ rfl; (with_reducible repeat (first | refine blk_drewN ?_ _ | refine blk_drew ?_ | refine blk_alloc ?_ _)); refine blk_put (cs := #[.int .u8 t230, .slice Ao21 t231.length co21, .slice Ao22 t234.length co22, .int .i64 0, .int .i64 0, .int .i64 0]) ?_ 3 _ rfl; (with_reducible repeat (first | refine blk_drewN ?_ _ | refine blk_drew ?_ | refine blk_alloc ?_ _)); refine blk_put (cs := #[.int .u8 t230, .slice Ao21 t231.length co21, .slice none 0 0, .int .i64 0, .int .i64 0, .int .i64 0]) ?_ 2 _ rfl; (with_reducible repeat (first | refine blk_drewN ?_ _ | refine blk_drew ?_ | refine blk_alloc ?_ _)); refine blk_put (cs := #[.int .u8 t230, .slice none 0 0, .slice none 0 0, .int .i64 0, .int .i64 0, .int .i64 0]) ?_ 1 _ rfl; (with_reducible repeat (first | refine blk_drewN ?_ _ | refine blk_drew ?_ | refine blk_alloc ?_ _)); refine blk_put (cs := #[.int .u8 0, .slice none 0 0, .slice none 0 0, .int .i64 0, .int .i64 0, .int .i64 0]) ?_ 0 _ rfl; (with_reducible repeat (first | refine blk_drewN ?_ _ | refine blk_drew ?_ | refine blk_alloc ?_ _)); refine blk_far ?_ NB229_240.out _; (with_reducible repeat (first | refine blk_drewN ?_ _ | refine blk_drew ?_ | refine blk_alloc ?_ _)); refine blk_far ?_ NB229_240.out _; (with_reducible repeat (first | refine blk_drewN ?_ _ | refine blk_drew ?_ | refine blk_alloc ?_ _)); refine blk_far ?_ NB229_240.out _; (with_reducible repeat (first | refine blk_drewN ?_ _ | refine blk_drew ?_ | refine blk_alloc ?_ _)); refine blk_far ?_ NB229_240.out _; (with_reducible repeat (first | refine blk_drewN ?_ _ | refine blk_drew ?_ | refine blk_alloc ?_ _)); refine blk_far ?_ NB229_240.out _; (with_reducible repeat (first | refine blk_drewN ?_ _ | refine blk_drew ?_ | refine blk_alloc ?_ _)); refine blk_far ?_ NB229_240.out _; (with_reducible repeat (first | refine blk_drewN ?_ _ | refine blk_drew ?_ | refine blk_alloc ?_ _)); exact BK229.out) Tryd.underlying35 rfl (by kernel_rfl)) rfl ?_
        exact ⟨_, _, by first | rfl | (simp [errW_none, errW_some] <;> rfl) | (simp [*, errW_none, errW_some] <;> rfl), by (with_reducible repeat (first | apply Kd.R_alloc | apply Kd.R_drewN | apply Kd.R_drew)); exact Kd.R_mono (Kd.R_far (p := ⟨gb229, 5, none⟩) (Kd.R_far (p := ⟨gb229, 4, none⟩) (Kd.R_far (p := ⟨gb229, 3, none⟩) (Kd.R_far (p := ⟨gb229, 2, none⟩) (Kd.R_far (p := ⟨gb229, 1, none⟩) (Kd.R_far (p := ⟨gb229, 0, none⟩) (Kd.R_far (p := ⟨gb240, 5, none⟩) (Kd.R_far (p := ⟨gb240, 4, none⟩) (Kd.R_far (p := ⟨gb240, 3, none⟩) (Kd.R_far (p := ⟨gb240, 2, none⟩) (Kd.R_far (p := ⟨gb240, 1, none⟩) (Kd.R_far (p := ⟨gb240, 0, none⟩) (Kd.R_types (Kd.R_types HO233.out BK240.out (by decide)) BK229.out (by decide)) (fun _ hk => hk.1.2) (.int .u8 t230)) (fun _ hk => hk.1.2) (.slice Ao21 t231.length co21)) (fun _ hk => hk.1.2) (.slice Ao22 t234.length co22)) (fun _ hk => hk.1.2) (.int .i64 t237)) (fun _ hk => hk.1.2) (.int .i64 t238)) (fun _ hk => hk.1.2) (.int .i64 t239)) (fun _ hk => hk.2) (.int .u8 t230)) (fun _ hk => hk.2) (.slice Ao21 t231.length co21)) (fun _ hk => hk.2) (.slice Ao22 t234.length co22)) (fun _ hk => hk.2) (.int .i64 t237)) (fun _ hk => hk.2) (.int .i64 t238)) (fun _ hk => hk.2) (.int .i64 t239)) (fun _ hk => trivial), by (with_reducible repeat (first | apply Kd.R_alloc | apply Kd.R_drewN | apply Kd.R_drew)); exact Kd.R_mono (Kd.R_far (p := ⟨gb229, 5, none⟩) (Kd.R_far (p := ⟨gb229, 4, none⟩) (Kd.R_far (p := ⟨gb229, 3, none⟩) (Kd.R_far (p := ⟨gb229, 2, none⟩) (Kd.R_far (p := ⟨gb229, 1, none⟩) (Kd.R_far (p := ⟨gb229, 0, none⟩) (Kd.R_far (p := ⟨gb240, 5, none⟩) (Kd.R_far (p := ⟨gb240, 4, none⟩) (Kd.R_far (p := ⟨gb240, 3, none⟩) (Kd.R_far (p := ⟨gb240, 2, none⟩) (Kd.R_far (p := ⟨gb240, 1, none⟩) (Kd.R_far (p := ⟨gb240, 0, none⟩) (Kd.R_types (Kd.R_types HO236.out BK240.out (by decide)) BK229.out (by decide)) (fun _ hk => hk.1.2) (.int .u8 t230)) (fun _ hk => hk.1.2) (.slice Ao21 t231.length co21)) (fun _ hk => hk.1.2) (.slice Ao22 t234.length co22)) (fun _ hk => hk.1.2) (.int .i64 t237)) (fun _ hk => hk.1.2) (.int .i64 t238)) (fun _ hk => hk.1.2) (.int .i64 t239)) (fun _ hk => hk.2) (.int .u8 t230)) (fun _ hk => hk.2) (.slice Ao21 t231.length co21)) (fun _ hk => hk.2) (.slice Ao22 t234.length co22)) (fun _ hk => hk.2) (.int .i64 t237)) (fun _ hk => hk.2) (.int .i64 t238)) (fun _ hk => hk.2) (.int .i64 t239)) (fun _ hk => hk.1.1), by repeat (first | (with_reducible first | exact HB.out | apply below_alloc | apply pw_below_drewN | apply below_drew1 | refine below_set ?_ GE229.out | refine below_set ?_ GE240.out) | exact HB.out)⟩
    · rw [if_neg c6] at H
      have c6b0 : (t238 == 0) = false := beq_eq_false_iff_ne.mpr c6
      have c6b1 : (t238 != 0) = true := bne_iff_ne.mpr c6
      simp only [Option.some.injEq, Prod.mk.injEq] at H
      obtain ⟨rfl, rfl, rfl, rfl, rfl, rfl⟩ := H
      go_enter Tryd.func13, Tryd.ntmps13
      go_wp2_with (first | ((with_reducible refine gate_dst (N := 2) rfl ?_); (try (refine gate_guard (by rfl) ?_; dsimp only)); refine box_event ?hg (N := 2) ?hd (cs := #[.int .u8 0, .slice none 0 0, .slice none 0 0, .int .i64 0, .int .i64 0, .int .i64 0]) (t := 35) ?hr ?_; (case hd => rfl); (case hg => rfl); (case hr => first | (go_simp; done) | (go_simp; rfl)); intro gb229 hg w24 hbox hb; have n0_ := Aside0.mk (below_step (by repeat (first | (with_reducible first | exact HB.out | apply below_alloc | apply pw_below_drewN | apply below_drew1) | exact HB.out)) hb); have n1_ := Aside0.mk (hbox); have n2_ := Aside0.mk ((by rw [hg]; exact (below_size (by repeat (first | (with_reducible first | exact HB.out | apply below_alloc | apply pw_below_drewN | apply below_drew1) | exact HB.out))) : w.heap.size ≤ gb229)); have n3_ := Aside0.mk ((by rw [hg]; exact (below_size (by repeat (first | (with_reducible first | exact HB.out | apply below_alloc | apply pw_below_drewN | apply below_drew1) | exact HB.out))) : w.heap.size ≤ gb229)); clear HB; have HB := n0_; have BK229 := n1_; have GW229 := n2_; have GE229 := n3_; clear n0_ n1_ n2_ n3_; clear hb hbox hg) | ((with_reducible refine gate_callee (f := 47) rfl ?_); refine goesL_ (some 11) rfl rfl Tryd.func47 (by kernel_rfl) rfl #[.slice A0 l0.length c0, .int .i64 0, .int .i64 (l0.length : Int), .int .i64 0] rfl (by (try simp only [List.map_toArray, List.map_cons, List.map_nil]); first | done | rfl | (simp only [List.length_drop, List.length_take]; rfl)) ?_; (with_reducible refine (pyxref08_read.calls k _ _ l0 0 (l0.length : Int) 0 t230 t231 t234 t237 t238 t239 _ ?side1 ?side2 A5.out).mono ?_); (case side1 => repeat (first | exact (Kd.C_below HR0.out HB.out) | (with_reducible refine Kd.C_alloc ?_ _) | (with_reducible refine Kd.C_drewN ?_ _) | (with_reducible refine Kd.C_drew ?_))); (case side2 => exact HC0.out); rintro e w25 ⟨v232, v235, rfl, ho0, ho1, hb⟩; refine ⟨_, rfl, ?_⟩; have n0_ := Aside0.mk (Kd.R_lower ho0 (below_size (by repeat (first | (with_reducible first | exact HB.out | apply below_alloc | apply pw_below_drewN | apply below_drew1 | refine below_set ?_ GE229.out) | exact HB.out)))); have n1_ := Aside0.mk (Kd.R_lower ho1 (below_size (by repeat (first | (with_reducible first | exact HB.out | apply below_alloc | apply pw_below_drewN | apply below_drew1 | refine below_set ?_ GE229.out) | exact HB.out)))); have n2_ := Aside0.mk (blk_below (g := gb229) (o := .cells #[.int .u8 0, .slice none 0 0, .slice none 0 0, .int .i64 0, .int .i64 0, .int .i64 0] 35 (0, 0)) (by (with_reducible repeat (first | refine blk_drewN ?_ _ | refine blk_drew ?_ | refine blk_alloc ?_ _)); exact BK229.out) hb); have n3_ := Aside0.mk (below_step (by repeat (first | (with_reducible first | exact HB.out | apply below_alloc | apply pw_below_drewN | apply below_drew1 | refine below_set ?_ GE229.out) | exact HB.out)) hb); clear BK229; clear HB; have HO233 := n0_; have HO236 := n1_; have BK229 := n2_; have HB := n3_; clear n0_ n1_ n2_ n3_; (try clear hb); (try clear hb2); (try clear hk); (try clear hi); (try clear ho0); (try clear ho1)) | ((with_reducible refine gate_dst (N := 3) rfl ?_); (try (refine gate_guard (by rfl) ?_; dsimp only)); refine box_event ?hg (N := 3) ?hd (cs := #[.int .u8 0, .slice none 0 0, .slice none 0 0, .int .i64 0, .int .i64 0, .int .i64 0]) (t := 35) ?hr ?_; (case hd => rfl); (case hg => rfl); (case hr => first | (go_simp; done) | (go_simp; rfl)); intro gb240 hg w26 hbox hb; have n0_ := Aside0.mk (Kd.R_below (by (with_reducible repeat (first | apply Kd.R_alloc | apply Kd.R_drewN | apply Kd.R_drew)); exact HO233.out) hb); have n1_ := Aside0.mk (Kd.R_below (by (with_reducible repeat (first | apply Kd.R_alloc | apply Kd.R_drewN | apply Kd.R_drew)); exact HO236.out) hb); have n2_ := Aside0.mk (blk_below (g := gb229) (o := .cells #[.int .u8 0, .slice none 0 0, .slice none 0 0, .int .i64 0, .int .i64 0, .int .i64 0] 35 (0, 0)) (by (with_reducible repeat (first | refine blk_drewN ?_ _ | refine blk_drew ?_ | refine blk_alloc ?_ _)); exact BK229.out) hb); have n3_ := Aside0.mk (below_step (by repeat (first | (with_reducible first | exact HB.out | apply below_alloc | apply pw_below_drewN | apply below_drew1 | refine below_set ?_ GE229.out) | exact HB.out)) hb); have n4_ := Aside0.mk (hbox); have n5_ := Aside0.mk ((by rw [hg]; exact (below_size (by repeat (first | (with_reducible first | exact HB.out | apply below_alloc | apply pw_below_drewN | apply below_drew1 | refine below_set ?_ GE229.out) | exact HB.out))) : w.heap.size ≤ gb240)); have n6_ := Aside0.mk ((by rw [hg]; exact (below_size (by repeat (first | (with_reducible first | exact HB.out | apply below_alloc | apply pw_below_drewN | apply below_drew1 | refine below_set ?_ GE229.out) | exact HB.out))) : w.heap.size ≤ gb240)); have n7_ := Aside0.mk ((by rw [hg]; exact Nat.ne_of_lt (blk_lt (g := gb229) (o := .cells #[.int .u8 0, .slice none 0 0, .slice none 0 0, .int .i64 0, .int .i64 0, .int .i64 0] 35 (0, 0)) (by (with_reducible repeat (first | refine blk_drewN ?_ _ | refine blk_drew ?_ | refine blk_alloc ?_ _)); exact BK229.out)) : gb229 ≠ gb240)); have n8_ := Aside0.mk ((by rw [hg]; exact Nat.ne_of_gt (blk_lt (g := gb229) (o := .cells #[.int .u8 0, .slice none 0 0, .slice none 0 0, .int .i64 0, .int .i64 0, .int .i64 0] 35 (0, 0)) (by (with_reducible repeat (first | refine blk_drewN ?_ _ | refine blk_drew ?_ | refine blk_alloc ?_ _)); exact BK229.out)) : gb240 ≠ gb229)); clear HO233; clear HO236; clear BK229; clear HB; have HO233 := n0_; have HO236 := n1_; have BK229 := n2_; have HB := n3_; have BK240 := n4_; have GW240 := n5_; have GE240 := n6_; have NB229_240 := n7_; have NB240_229 := n8_; clear n0_ n1_ n2_ n3_ n4_ n5_ n6_ n7_ n8_; clear hb hbox hg; have hnb27 := NB240_229.out; have hnc27 := NB229_240.out; have hcz28_0 : w26.cell? ⟨gb240, 0, none⟩ = some (.int .u8 0) := (blk_cell BK240.out 0).trans rfl; have hcz28_1 : w26.cell? ⟨gb240, 1, none⟩ = some (.slice none 0 0) := (blk_cell BK240.out 1).trans rfl; have hcz28_2 : w26.cell? ⟨gb240, 2, none⟩ = some (.slice none 0 0) := (blk_cell BK240.out 2).trans rfl; have hcz28_3 : w26.cell? ⟨gb240, 3, none⟩ = some (.int .i64 0) := (blk_cell BK240.out 3).trans rfl; have hcz28_4 : w26.cell? ⟨gb240, 4, none⟩ = some (.int .i64 0) := (blk_cell BK240.out 4).trans rfl; have hcz28_5 : w26.cell? ⟨gb240, 5, none⟩ = some (.int .i64 0) := (blk_cell BK240.out 5).trans rfl; have hfz28_0 := blk_frozen BK240.out 0; have hfz28_1 := blk_frozen BK240.out 1; have hfz28_2 := blk_frozen BK240.out 2; have hfz28_3 := blk_frozen BK240.out 3; have hfz28_4 := blk_frozen BK240.out 4; have hfz28_5 := blk_frozen BK240.out 5; obtain ⟨Ao29, co29, eo29⟩ := Kd.R_slice HO233.out; subst eo29; obtain ⟨Ao30, co30, eo30⟩ := Kd.R_slice HO236.out; subst eo30; have hcz31_0 : w26.cell? ⟨gb229, 0, none⟩ = some (.int .u8 0) := (blk_cell BK229.out 0).trans rfl; have hcz31_1 : w26.cell? ⟨gb229, 1, none⟩ = some (.slice none 0 0) := (blk_cell BK229.out 1).trans rfl; have hcz31_2 : w26.cell? ⟨gb229, 2, none⟩ = some (.slice none 0 0) := (blk_cell BK229.out 2).trans rfl; have hcz31_3 : w26.cell? ⟨gb229, 3, none⟩ = some (.int .i64 0) := (blk_cell BK229.out 3).trans rfl; have hcz31_4 : w26.cell? ⟨gb229, 4, none⟩ = some (.int .i64 0) := (blk_cell BK229.out 4).trans rfl; have hcz31_5 : w26.cell? ⟨gb229, 5, none⟩ = some (.int .i64 0) := (blk_cell BK229.out 5).trans rfl; have hfz31_0 := blk_frozen BK229.out 0; have hfz31_1 := blk_frozen BK229.out 1; have hfz31_2 := blk_frozen BK229.out 2; have hfz31_3 := blk_frozen BK229.out 3; have hfz31_4 := blk_frozen BK229.out 4; have hfz31_5 := blk_frozen BK229.out 5))
      refine bodyPost_ret (results_cell_row rfl _ _ gb229 35 #[.int .u8 t230, .slice Ao29 t231.length co29, .slice Ao30 t234.length co30, .int .i64 t237, .int .i64 t238, .int .i64 t239] (0, 0) _ rfl (by (with_reducible repeat (first | refine blk_drewN ?_ _ | refine blk_drew ?_ | refine blk_alloc ?_ _)); refine blk_put (cs := #[.int .u8 t230, .slice Ao29 t231.length co29, .slice Ao30 t234.length co30, .int .i64 t237, .int .i64 t238, .int .i64 0]) ?_ 5 _ rfl; (with_reducible repeat (first | refine blk_drewN ?_ _ | refine blk_drew ?_ | refine blk_alloc ?_ _)); refine blk_put (cs := #[.int .u8 t230, .slice Ao29 t231.length co29, .slice Ao30 t234.length co30, .int .i64 t237, .int .i64 0, .int .i64 0]) ?_ 4 _ rfl; (with_reducible repeat (first | refine blk_drewN ?_ _ | refine blk_drew ?_ | refine blk_alloc ?_ _)); refine blk_put (cs := #[.int .u8 t230, .slice Ao29 t231.length co29, .slice Ao30 t234.length co30, .int .i64 0, .int .i64 0, .int .i64 0]) ?_ 3 _ rfl; (with_reducible repeat (first | refine blk_drewN ?_ _ | refine blk_drew ?_ | refine blk_alloc ?_ _)); refine blk_put (cs := #[.int .u8 t230, .slice Ao29 t231.length co29, .slice none 0 0, .int .i64 0, .int .i64 0, .int .i64 0]) ?_ 2 _ rfl; (with_reducible repeat (first | refine blk_drewN ?_ _ | refine blk_drew ?_ | refine blk_alloc ?_ _)); refine blk_put (cs := #[.int .u8 t230, .slice none 0 0, .slice none 0 0, .int .i64 0, .int .i64 0, .int .i64 0]) ?_ 1 _ rfl; (with_reducible repeat (first | refine blk_drewN ?_ _ | refine blk_drew ?_ | refine blk_alloc ?_ _)); refine blk_put (cs := #[.int .u8 0, .slice none 0 0, .slice none 0 0, .int .i64 0, .int .i64 0, .int .i64 0]) ?_ 0 _ rfl; (with_reducible repeat (first | refine blk_drewN ?_ _ | refine blk_drew ?_ | refine blk_alloc ?_ _)); refine blk_far ?_ NB229_240.out _; (with_reducible repeat (first | refine blk_drewN ?_ _ | refine blk_drew ?_ | refine blk_alloc ?_ _)); refine blk_far ?_ NB229_240.out _; (with_reducible repeat (first | refine blk_drewN ?_ _ | refine blk_drew ?_ | refine blk_alloc ?_ _)); refine blk_far ?_ NB229_240.out _; (with_reducible repeat (first | refine blk_drewN ?_ _ | refine blk_drew ?_ | refine blk_alloc ?_ _)); refine blk_far ?_ NB229_240.out _; (with_reducible repeat (first | refine blk_drewN ?_ _ | refine blk_drew ?_ | refine blk_alloc ?_ _)); refine blk_far ?_ NB229_240.out _; (with_reducible repeat (first | refine blk_drewN ?_ _ | refine blk_drew ?_ | refine blk_alloc ?_ _)); refine blk_far ?_ NB229_240.out _; (with_reducible repeat (first | refine blk_drewN ?_ _ | refine blk_drew ?_ | refine blk_alloc ?_ _)); exact BK229.out) Tryd.underlying35 rfl (by kernel_rfl)) rfl ?_
      exact ⟨_, _, by first | rfl | (simp [errW_none, errW_some] <;> rfl) | (simp [*, errW_none, errW_some] <;> rfl), by (with_reducible repeat (first | apply Kd.R_alloc | apply Kd.R_drewN | apply Kd.R_drew)); exact Kd.R_mono (Kd.R_far (p := ⟨gb229, 5, none⟩) (Kd.R_far (p := ⟨gb229, 4, none⟩) (Kd.R_far (p := ⟨gb229, 3, none⟩) (Kd.R_far (p := ⟨gb229, 2, none⟩) (Kd.R_far (p := ⟨gb229, 1, none⟩) (Kd.R_far (p := ⟨gb229, 0, none⟩) (Kd.R_far (p := ⟨gb240, 5, none⟩) (Kd.R_far (p := ⟨gb240, 4, none⟩) (Kd.R_far (p := ⟨gb240, 3, none⟩) (Kd.R_far (p := ⟨gb240, 2, none⟩) (Kd.R_far (p := ⟨gb240, 1, none⟩) (Kd.R_far (p := ⟨gb240, 0, none⟩) (Kd.R_types (Kd.R_types HO233.out BK240.out (by decide)) BK229.out (by decide)) (fun _ hk => hk.1.2) (.int .u8 t230)) (fun _ hk => hk.1.2) (.slice Ao29 t231.length co29)) (fun _ hk => hk.1.2) (.slice Ao30 t234.length co30)) (fun _ hk => hk.1.2) (.int .i64 t237)) (fun _ hk => hk.1.2) (.int .i64 t238)) (fun _ hk => hk.1.2) (.int .i64 t239)) (fun _ hk => hk.2) (.int .u8 t230)) (fun _ hk => hk.2) (.slice Ao29 t231.length co29)) (fun _ hk => hk.2) (.slice Ao30 t234.length co30)) (fun _ hk => hk.2) (.int .i64 t237)) (fun _ hk => hk.2) (.int .i64 t238)) (fun _ hk => hk.2) (.int .i64 t239)) (fun _ hk => trivial), by (with_reducible repeat (first | apply Kd.R_alloc | apply Kd.R_drewN | apply Kd.R_drew)); exact Kd.R_mono (Kd.R_far (p := ⟨gb229, 5, none⟩) (Kd.R_far (p := ⟨gb229, 4, none⟩) (Kd.R_far (p := ⟨gb229, 3, none⟩) (Kd.R_far (p := ⟨gb229, 2, none⟩) (Kd.R_far (p := ⟨gb229, 1, none⟩) (Kd.R_far (p := ⟨gb229, 0, none⟩) (Kd.R_far (p := ⟨gb240, 5, none⟩) (Kd.R_far (p := ⟨gb240, 4, none⟩) (Kd.R_far (p := ⟨gb240, 3, none⟩) (Kd.R_far (p := ⟨gb240, 2, none⟩) (Kd.R_far (p := ⟨gb240, 1, none⟩) (Kd.R_far (p := ⟨gb240, 0, none⟩) (Kd.R_types (Kd.R_types HO236.out BK240.out (by decide)) BK229.out (by decide)) (fun _ hk => hk.1.2) (.int .u8 t230)) (fun _ hk => hk.1.2) (.slice Ao29 t231.length co29)) (fun _ hk => hk.1.2) (.slice Ao30 t234.length co30)) (fun _ hk => hk.1.2) (.int .i64 t237)) (fun _ hk => hk.1.2) (.int .i64 t238)) (fun _ hk => hk.1.2) (.int .i64 t239)) (fun _ hk => hk.2) (.int .u8 t230)) (fun _ hk => hk.2) (.slice Ao29 t231.length co29)) (fun _ hk => hk.2) (.slice Ao30 t234.length co30)) (fun _ hk => hk.2) (.int .i64 t237)) (fun _ hk => hk.2) (.int .i64 t238)) (fun _ hk => hk.2) (.int .i64 t239)) (fun _ hk => hk.1.1), by repeat (first | (with_reducible first | exact HB.out | apply below_alloc | apply pw_below_drewN | apply below_drew1 | refine below_set ?_ GE229.out | refine below_set ?_ GE240.out) | exact HB.out)⟩
mutual
def pyxlaw08_same.j0 : Nat → Bool → Int → List Int → List (S26) → Int → List Int → List (S33) → Option (Bool)
  | 0, _, _, _, _, _, _, _ => none
  | k + 1, x27, x242000, x242001, x242002, x243000, x243001, x243002 => if x27 = true then (some false) else (pyxlaw08_same.l0 k 0 x242000 x242001 x242002 x243000 x243001 x243002)
def pyxlaw08_same.l0 : Nat → Int → Int → List Int → List (S26) → Int → List Int → List (S33) → Option (Bool)
  | 0, _, _, _, _, _, _, _ => none
  | k + 1, x5, x242000, x242001, x242002, x243000, x243001, x243002 => if x5 < (x242002.length : Int) then (if 0 ≤ x5 then (if x5 < (x243002.length : Int) then ((pyxlaw08_same.f k ((rd_T26 x242002 x5).f0) ((rd_T26 x242002 x5).f1) ((rd_T26 x242002 x5).f2) ((rd_T33 x243002 x5).f0) ((rd_T33 x243002 x5).f1) ((rd_T33 x243002 x5).f2)).bind fun t246 => (if t246 = true then (pyxlaw08_same.l0 k (wrap64 (x5 + 1)) x242000 x242001 x242002 x243000 x243001 x243002) else (some false))) else (none)) else (none)) else (some true)
def pyxlaw08_same.f : Nat → Int → List Int → List (S26) → Int → List Int → List (S33) → Option (Bool)
  | 0, _, _, _, _, _, _ => none
  | k + 1, a0_0, l0_1, l0_2, a1_0, l1_1, l1_2 => if a0_0 = a1_0 then ((pyxref01_Same.f k l0_1 l1_1).bind fun t243 => (if t243 = true then (pyxlaw08_same.j0 k ((l0_2.length : Int) != (l1_2.length : Int)) a0_0 l0_1 l0_2 a1_0 l1_1 l1_2) else (pyxlaw08_same.j0 k true a0_0 l0_1 l0_2 a1_0 l1_1 l1_2))) else (pyxlaw08_same.j0 k true a0_0 l0_1 l0_2 a1_0 l1_1 l1_2)
end
theorem pyxlaw08_same.mono_l : ∀ k, (∀ y0 y1 y2 y3 y4 y5, LeO (pyxlaw08_same.f k y0 y1 y2 y3 y4 y5) (pyxlaw08_same.f (k + 1) y0 y1 y2 y3 y4 y5)) ∧ (∀ y0 y1 y2 y3 y4 y5 y6, LeO (pyxlaw08_same.j0 k y0 y1 y2 y3 y4 y5 y6) (pyxlaw08_same.j0 (k + 1) y0 y1 y2 y3 y4 y5 y6)) ∧ (∀ y0 y1 y2 y3 y4 y5 y6, LeO (pyxlaw08_same.l0 k y0 y1 y2 y3 y4 y5 y6) (pyxlaw08_same.l0 (k + 1) y0 y1 y2 y3 y4 y5 y6))
  | 0 => ⟨fun _ _ _ _ _ _ r h => by simp [pyxlaw08_same.f] at h, fun _ _ _ _ _ _ _ r h => by simp [pyxlaw08_same.j0] at h, fun _ _ _ _ _ _ _ r h => by simp [pyxlaw08_same.l0] at h⟩
  | k + 1 => by
    obtain ⟨ih0, ih1, ih2⟩ := pyxlaw08_same.mono_l k
    refine ⟨?_, ?_, ?_⟩
    · intro y0 y1 y2 y3 y4 y5
      unfold pyxlaw08_same.f
      repeat' first
      | (with_reducible exact ih0 _ _ _ _ _ _)
      | (with_reducible exact ih1 _ _ _ _ _ _ _)
      | (with_reducible exact ih2 _ _ _ _ _ _ _)
      | (with_reducible exact pyxref01_Same.mono _ _ _)
      | (with_reducible exact LeO.refl _)
      | (with_reducible exact LeO.none _)
      | (with_reducible refine LeO.ite ?_ ?_)
      | (with_reducible refine LeO.bind ?_ (fun _ => ?_))
      | exact ih0 _ _ _ _ _ _
      | exact ih1 _ _ _ _ _ _ _
      | exact ih2 _ _ _ _ _ _ _
      | exact pyxref01_Same.mono _ _ _
      | exact LeO.none _
      | refine LeO.ite ?_ ?_
      | refine LeO.bind ?_ (fun _ => ?_)
    · intro y0 y1 y2 y3 y4 y5 y6
      unfold pyxlaw08_same.j0
      repeat' first
      | (with_reducible exact ih0 _ _ _ _ _ _)
      | (with_reducible exact ih1 _ _ _ _ _ _ _)
      | (with_reducible exact ih2 _ _ _ _ _ _ _)
      | (with_reducible exact pyxref01_Same.mono _ _ _)
      | (with_reducible exact LeO.refl _)
      | (with_reducible exact LeO.none _)
      | (with_reducible refine LeO.ite ?_ ?_)
      | (with_reducible refine LeO.bind ?_ (fun _ => ?_))
      | exact ih0 _ _ _ _ _ _
      | exact ih1 _ _ _ _ _ _ _
      | exact ih2 _ _ _ _ _ _ _
      | exact pyxref01_Same.mono _ _ _
      | exact LeO.none _
      | refine LeO.ite ?_ ?_
      | refine LeO.bind ?_ (fun _ => ?_)
    · intro y0 y1 y2 y3 y4 y5 y6
      unfold pyxlaw08_same.l0
      repeat' first
      | (with_reducible exact ih0 _ _ _ _ _ _)
      | (with_reducible exact ih1 _ _ _ _ _ _ _)
      | (with_reducible exact ih2 _ _ _ _ _ _ _)
      | (with_reducible exact pyxref01_Same.mono _ _ _)
      | (with_reducible exact LeO.refl _)
      | (with_reducible exact LeO.none _)
      | (with_reducible refine LeO.ite ?_ ?_)
      | (with_reducible refine LeO.bind ?_ (fun _ => ?_))
      | exact ih0 _ _ _ _ _ _
      | exact ih1 _ _ _ _ _ _ _
      | exact ih2 _ _ _ _ _ _ _
      | exact pyxref01_Same.mono _ _ _
      | exact LeO.none _
      | refine LeO.ite ?_ ?_
      | refine LeO.bind ?_ (fun _ => ?_)
theorem pyxlaw08_same.mono : ∀ a0 a1 a2 a3 a4 a5 k, LeO (pyxlaw08_same.f k a0 a1 a2 a3 a4 a5) (pyxlaw08_same.f (k + 1) a0 a1 a2 a3 a4 a5) := by
  intro a0 a1 a2 a3 a4 a5 k
  obtain ⟨ih0, ih1, ih2⟩ := pyxlaw08_same.mono_l k
  exact ih0 a0 a1 a2 a3 a4 a5
def pyxlaw08_same.T6 : Bool × List (List Nat × List Nat) := (true, [([], []), ([0], [0]), ([], []), ([1, 2], [1, 2]), ([3], [3]), ([], []), ([5], [5]), ([], []), ([6, 7], [6, 7]), ([8], [8]), ([4, 9], [4, 9]), ([10], [10])])
def pyxlaw08_same.B6 : List Nat := [0, 1, 0, 7, 15, 0, 32, 0, 224, 480, 1023, 2047]
theorem pyxlaw08_same.tab6 : rtab .any (opsOf Tryd.f15 6) = pyxlaw08_same.T6 := by kernel_rfl
theorem pyxlaw08_same.bits6 : waitsOk pyxlaw08_same.T6.2 pyxlaw08_same.B6 = true := by kernel_rfl
set_option maxHeartbeats 8000000 in
set_option maxRecDepth 100000 in
theorem pyxlaw08_same.calls (k : Nat) : ∀ (a0_0 : Int) (A0_1 : Option Addr) (c0_1 : Nat) (l0_1 : List Int) (A0_2 : Option Addr) (c0_2 : Nat) (l0_2 : List (S26)) (a1_0 : Int) (A1_1 : Option Addr) (c1_1 : Nat) (l1_1 : List Int) (A1_2 : Option Addr) (c1_2 : Nat) (l1_2 : List (S33)) (r : Bool) (w : World) (hr0_1 : Kd.C (Kd.int .u8) w A0_1 l0_1.length l0_1) (hc0_1 : l0_1.length ≤ c0_1) (hr0_2 : Kd.C k26 w A0_2 l0_2.length l0_2) (hc0_2 : l0_2.length ≤ c0_2) (hr1_1 : Kd.C (Kd.int .u8) w A1_1 l1_1.length l1_1) (hc1_1 : l1_1.length ≤ c1_1) (hr1_2 : Kd.C k33 w A1_2 l1_2.length l1_2) (hc1_2 : l1_2.length ≤ c1_2) (h : pyxlaw08_same.f k a0_0 l0_1 l0_2 a1_0 l1_1 l1_2 = some r),
    Calls Tryd.prog 15 #[.agg #[.int .u8 a0_0, .slice A0_1 l0_1.length c0_1, .slice A0_2 l0_2.length c0_2], .agg #[.int .u8 a1_0, .slice A1_1 l1_1.length c1_1, .slice A1_2 l1_2.length c1_2]] w fun e w' => e = .returned (.bool r) ∧ Below w.heap.size w w' := by
  induction k using Nat.strongRecOn with
  | _ k ih =>
  intro a0_0 A0_1 c0_1 l0_1 A0_2 c0_2 l0_2 a1_0 A1_1 c1_1 l1_1 A1_2 c1_2 l1_2 r w hr0_1 hc0_1 hr0_2 hc0_2 hr1_1 hc1_1 hr1_2 hc1_2 h
  cases k with
  | zero => exact absurd h (by simp [pyxlaw08_same.f])
  | succ k =>
  simp only [pyxlaw08_same.f] at h
  have hu26 := Tryd.underlying26
  have hu33 := Tryd.underlying33
  have HR0_1 := Aside0.mk hr0_1
  have HC0_1 := Aside0.mk hc0_1
  clear hr0_1 hc0_1
  have HR0_2 := Aside0.mk hr0_2
  have HC0_2 := Aside0.mk hc0_2
  clear hr0_2 hc0_2
  have HR1_1 := Aside0.mk hr1_1
  have HC1_1 := Aside0.mk hc1_1
  clear hr1_1 hc1_1
  have HR1_2 := Aside0.mk hr1_2
  have HC1_2 := Aside0.mk hc1_2
  clear hr1_2 hc1_2
  have HB := Aside0.mk (Below.refl w.heap.size w)
  have H : (if a0_0 = a1_0 then ((pyxref01_Same.f k l0_1 l1_1).bind fun t243 => (if t243 = true then (pyxlaw08_same.j0 k ((l0_2.length : Int) != (l1_2.length : Int)) a0_0 l0_1 l0_2 a1_0 l1_1 l1_2) else (pyxlaw08_same.j0 k true a0_0 l0_1 l0_2 a1_0 l1_1 l1_2))) else (pyxlaw08_same.j0 k true a0_0 l0_1 l0_2 a1_0 l1_1 l1_2)) = some r := h
  clear h
  have HC3 := Aside0.mk H
  clear H
  go_enter Tryd.func15, Tryd.ntmps15
  go_upto_region 1 with (first | ((with_reducible refine gate_dst (N := 2) rfl ?_); (try (refine gate_guard (by rfl) ?_; dsimp only)); refine box_event ?hg (N := 2) ?hd (cs := #[.int .u8 a0_0, .slice A0_1 l0_1.length c0_1, .slice A0_2 l0_2.length c0_2]) (t := 26) ?hr ?_; (case hd => rfl); (case hg => rfl); (case hr => first | (go_simp; done) | (go_simp; rfl)); intro gb241 hg w4 hbox hb; have n0_ := Aside0.mk (below_step (by repeat (first | (with_reducible first | exact HB.out | apply below_alloc | apply pw_below_drewN | apply below_drew1) | exact HB.out)) hb); have n1_ := Aside0.mk (hbox); have n2_ := Aside0.mk ((by rw [hg]; exact (below_size (by repeat (first | (with_reducible first | exact HB.out | apply below_alloc | apply pw_below_drewN | apply below_drew1) | exact HB.out))) : w.heap.size ≤ gb241)); have n3_ := Aside0.mk ((by rw [hg]; exact (below_size (by repeat (first | (with_reducible first | exact HB.out | apply below_alloc | apply pw_below_drewN | apply below_drew1) | exact HB.out))) : w.heap.size ≤ gb241)); clear HB; have HB := n0_; have BK241 := n1_; have GW241 := n2_; have GE241 := n3_; clear n0_ n1_ n2_ n3_; clear hb hbox hg) | ((with_reducible refine gate_dst (N := 3) rfl ?_); (try (refine gate_guard (by rfl) ?_; dsimp only)); refine box_event ?hg (N := 3) ?hd (cs := #[.int .u8 a1_0, .slice A1_1 l1_1.length c1_1, .slice A1_2 l1_2.length c1_2]) (t := 33) ?hr ?_; (case hd => rfl); (case hg => rfl); (case hr => first | (go_simp; done) | (go_simp; rfl)); intro gb242 hg w5 hbox hb; have n0_ := Aside0.mk (blk_below (g := gb241) (o := .cells #[.int .u8 a0_0, .slice A0_1 l0_1.length c0_1, .slice A0_2 l0_2.length c0_2] 26 (0, 0)) (by (with_reducible repeat (first | refine blk_drewN ?_ _ | refine blk_drew ?_ | refine blk_alloc ?_ _)); exact BK241.out) hb); have n1_ := Aside0.mk (below_step (by repeat (first | (with_reducible first | exact HB.out | apply below_alloc | apply pw_below_drewN | apply below_drew1 | refine below_set ?_ GE241.out) | exact HB.out)) hb); have n2_ := Aside0.mk (hbox); have n3_ := Aside0.mk ((by rw [hg]; exact (below_size (by repeat (first | (with_reducible first | exact HB.out | apply below_alloc | apply pw_below_drewN | apply below_drew1 | refine below_set ?_ GE241.out) | exact HB.out))) : w.heap.size ≤ gb242)); have n4_ := Aside0.mk ((by rw [hg]; exact (below_size (by repeat (first | (with_reducible first | exact HB.out | apply below_alloc | apply pw_below_drewN | apply below_drew1 | refine below_set ?_ GE241.out) | exact HB.out))) : w.heap.size ≤ gb242)); have n5_ := Aside0.mk ((by rw [hg]; exact Nat.ne_of_lt (blk_lt (g := gb241) (o := .cells #[.int .u8 a0_0, .slice A0_1 l0_1.length c0_1, .slice A0_2 l0_2.length c0_2] 26 (0, 0)) (by (with_reducible repeat (first | refine blk_drewN ?_ _ | refine blk_drew ?_ | refine blk_alloc ?_ _)); exact BK241.out)) : gb241 ≠ gb242)); have n6_ := Aside0.mk ((by rw [hg]; exact Nat.ne_of_gt (blk_lt (g := gb241) (o := .cells #[.int .u8 a0_0, .slice A0_1 l0_1.length c0_1, .slice A0_2 l0_2.length c0_2] 26 (0, 0)) (by (with_reducible repeat (first | refine blk_drewN ?_ _ | refine blk_drew ?_ | refine blk_alloc ?_ _)); exact BK241.out)) : gb242 ≠ gb241)); clear BK241; clear HB; have BK241 := n0_; have HB := n1_; have BK242 := n2_; have GW242 := n3_; have GE242 := n4_; have NB241_242 := n5_; have NB242_241 := n6_; clear n0_ n1_ n2_ n3_ n4_ n5_ n6_; clear hb hbox hg))
  (try simp only [Act.put, List.setIfInBounds_toArray, List.set_cons_zero, List.set_cons_succ])
  go_cut [27] (fun v27 wc => ∃ (kq : Nat) (x27_2 : Bool), v27 = .bool x27_2 ∧ Aside0 (pyxlaw08_same.j0 kq x27_2 a0_0 l0_1 l0_2 a1_0 l1_1 l1_2 = some r) ∧ Aside0 (kq ≤ k) ∧ Aside0 (wc.heap[gb241]? = some (.cells #[.int .u8 a0_0, (.slice A0_1 l0_1.length c0_1), (.slice A0_2 l0_2.length c0_2)] 26 (0, 0))) ∧ Aside0 (wc.heap[gb242]? = some (.cells #[.int .u8 a1_0, (.slice A1_1 l1_1.length c1_1), (.slice A1_2 l1_2.length c1_2)] 33 (0, 0))) ∧ Aside0 (Below w.heap.size w wc))
  case first =>
    have H := HC3.out
    clear HC3
    by_cases c6 : a0_0 = a1_0
    · rw [if_pos c6] at H
      have c6b0 : (a0_0 == a1_0) = true := beq_iff_eq.mpr c6
      have c6b1 : (a0_0 != a1_0) = false := bne_eq_false_iff_eq.mpr c6
      clear c6
      (first | rw [c6b0] | (simp only [i64_w, i32_w]; rw [c6b0]) | skip)
      replace H := Option.bind_eq_some_iff.mp H
      obtain ⟨t243, A70, H⟩ := H
      replace H : (if t243 = true then (pyxlaw08_same.j0 k ((l0_2.length : Int) != (l1_2.length : Int)) a0_0 l0_1 l0_2 a1_0 l1_1 l1_2) else (pyxlaw08_same.j0 k true a0_0 l0_1 l0_2 a1_0 l1_1 l1_2)) = some r := H
      have A7 := Aside0.mk A70
      clear A70
      by_cases c8 : t243 = true
      · subst c8
        have H1 : (pyxlaw08_same.j0 k ((l0_2.length : Int) != (l1_2.length : Int)) a0_0 l0_1 l0_2 a1_0 l1_1 l1_2) = some r := by rw [if_pos rfl] at H; exact H
        clear H
        have H := H1
        clear H1
        have H' := Aside0.mk H
        clear H
        have hnb9 := NB241_242.out
        have hnc9 := NB242_241.out
        have hcz10_0 : w5.cell? ⟨gb241, 0, none⟩ = some (.int .u8 a0_0) := (blk_cell BK241.out 0).trans rfl
        have hcz10_1 : w5.cell? ⟨gb241, 1, none⟩ = some (.slice A0_1 l0_1.length c0_1) := (blk_cell BK241.out 1).trans rfl
        have hcz10_2 : w5.cell? ⟨gb241, 2, none⟩ = some (.slice A0_2 l0_2.length c0_2) := (blk_cell BK241.out 2).trans rfl
        have hfz10_0 := blk_frozen BK241.out 0
        have hfz10_1 := blk_frozen BK241.out 1
        have hfz10_2 := blk_frozen BK241.out 2
        have hcz11_0 : w5.cell? ⟨gb242, 0, none⟩ = some (.int .u8 a1_0) := (blk_cell BK242.out 0).trans rfl
        have hcz11_1 : w5.cell? ⟨gb242, 1, none⟩ = some (.slice A1_1 l1_1.length c1_1) := (blk_cell BK242.out 1).trans rfl
        have hcz11_2 : w5.cell? ⟨gb242, 2, none⟩ = some (.slice A1_2 l1_2.length c1_2) := (blk_cell BK242.out 2).trans rfl
        have hfz11_0 := blk_frozen BK242.out 0
        have hfz11_1 := blk_frozen BK242.out 1
        have hfz11_2 := blk_frozen BK242.out 2
        go_wp2_with (first | (go_at_call 17; (with_reducible refine (pyxref01_Same.calls k _ _ l0_1 _ _ l1_1 true _ ?side1 ?side2 ?side3 ?side4 A7.out).mono ?_); (case side1 => repeat (first | exact (Kd.C_below HR0_1.out HB.out) | (with_reducible refine Kd.C_alloc ?_ _) | (with_reducible refine Kd.C_drewN ?_ _) | (with_reducible refine Kd.C_drew ?_))); (case side2 => exact HC0_1.out); (case side3 => repeat (first | exact (Kd.C_below HR1_1.out HB.out) | (with_reducible refine Kd.C_alloc ?_ _) | (with_reducible refine Kd.C_drewN ?_ _) | (with_reducible refine Kd.C_drew ?_))); (case side4 => exact HC1_1.out); rintro e w' ⟨rfl, ⟨nd, rfl⟩⟩))
        go_meet
        case rel => exact ⟨_, (((l0_2.length : Int) != (l1_2.length : Int))), (by first | rfl | (simp; done) | (simp [*]; done)), H', ⟨by first | omega | exact Nat.le_refl _⟩, ⟨by (with_reducible repeat (first | refine blk_drewN ?_ _ | refine blk_drew ?_ | refine blk_alloc ?_ _)); exact BK241.out⟩, ⟨by (with_reducible repeat (first | refine blk_drewN ?_ _ | refine blk_drew ?_ | refine blk_alloc ?_ _)); exact BK242.out⟩, ⟨by repeat (first | (with_reducible first | exact HB.out | apply below_alloc | apply pw_below_drewN | apply below_drew1 | refine below_set ?_ GE241.out | refine below_set ?_ GE242.out) | exact HB.out)⟩⟩
      · replace c8 := Bool.eq_false_iff.mpr c8
        subst c8
        have H1 : (pyxlaw08_same.j0 k true a0_0 l0_1 l0_2 a1_0 l1_1 l1_2) = some r := by rw [if_neg (show ¬ (false = true) by decide)] at H; exact H
        clear H
        have H := H1
        clear H1
        have H' := Aside0.mk H
        clear H
        have hnb12 := NB241_242.out
        have hnc12 := NB242_241.out
        have hcz13_0 : w5.cell? ⟨gb241, 0, none⟩ = some (.int .u8 a0_0) := (blk_cell BK241.out 0).trans rfl
        have hcz13_1 : w5.cell? ⟨gb241, 1, none⟩ = some (.slice A0_1 l0_1.length c0_1) := (blk_cell BK241.out 1).trans rfl
        have hcz13_2 : w5.cell? ⟨gb241, 2, none⟩ = some (.slice A0_2 l0_2.length c0_2) := (blk_cell BK241.out 2).trans rfl
        have hfz13_0 := blk_frozen BK241.out 0
        have hfz13_1 := blk_frozen BK241.out 1
        have hfz13_2 := blk_frozen BK241.out 2
        have hcz14_0 : w5.cell? ⟨gb242, 0, none⟩ = some (.int .u8 a1_0) := (blk_cell BK242.out 0).trans rfl
        have hcz14_1 : w5.cell? ⟨gb242, 1, none⟩ = some (.slice A1_1 l1_1.length c1_1) := (blk_cell BK242.out 1).trans rfl
        have hcz14_2 : w5.cell? ⟨gb242, 2, none⟩ = some (.slice A1_2 l1_2.length c1_2) := (blk_cell BK242.out 2).trans rfl
        have hfz14_0 := blk_frozen BK242.out 0
        have hfz14_1 := blk_frozen BK242.out 1
        have hfz14_2 := blk_frozen BK242.out 2
        go_wp2_with (first | (go_at_call 17; (with_reducible refine (pyxref01_Same.calls k _ _ l0_1 _ _ l1_1 false _ ?side1 ?side2 ?side3 ?side4 A7.out).mono ?_); (case side1 => repeat (first | exact (Kd.C_below HR0_1.out HB.out) | (with_reducible refine Kd.C_alloc ?_ _) | (with_reducible refine Kd.C_drewN ?_ _) | (with_reducible refine Kd.C_drew ?_))); (case side2 => exact HC0_1.out); (case side3 => repeat (first | exact (Kd.C_below HR1_1.out HB.out) | (with_reducible refine Kd.C_alloc ?_ _) | (with_reducible refine Kd.C_drewN ?_ _) | (with_reducible refine Kd.C_drew ?_))); (case side4 => exact HC1_1.out); rintro e w' ⟨rfl, ⟨nd, rfl⟩⟩))
        go_meet
        case rel => exact ⟨_, (true), (by first | rfl | (simp; done) | (simp [*]; done)), H', ⟨by first | omega | exact Nat.le_refl _⟩, ⟨by (with_reducible repeat (first | refine blk_drewN ?_ _ | refine blk_drew ?_ | refine blk_alloc ?_ _)); exact BK241.out⟩, ⟨by (with_reducible repeat (first | refine blk_drewN ?_ _ | refine blk_drew ?_ | refine blk_alloc ?_ _)); exact BK242.out⟩, ⟨by repeat (first | (with_reducible first | exact HB.out | apply below_alloc | apply pw_below_drewN | apply below_drew1 | refine below_set ?_ GE241.out | refine below_set ?_ GE242.out) | exact HB.out)⟩⟩
    · rw [if_neg c6] at H
      have c6b0 : (a0_0 == a1_0) = false := beq_eq_false_iff_ne.mpr c6
      have c6b1 : (a0_0 != a1_0) = true := bne_iff_ne.mpr c6
      (first | rw [c6b0] | (simp only [i64_w, i32_w]; rw [c6b0]) | skip)
      have H' := Aside0.mk H
      clear H
      have hnb15 := NB241_242.out
      have hnc15 := NB242_241.out
      have hcz16_0 : w5.cell? ⟨gb241, 0, none⟩ = some (.int .u8 a0_0) := (blk_cell BK241.out 0).trans rfl
      have hcz16_1 : w5.cell? ⟨gb241, 1, none⟩ = some (.slice A0_1 l0_1.length c0_1) := (blk_cell BK241.out 1).trans rfl
      have hcz16_2 : w5.cell? ⟨gb241, 2, none⟩ = some (.slice A0_2 l0_2.length c0_2) := (blk_cell BK241.out 2).trans rfl
      have hfz16_0 := blk_frozen BK241.out 0
      have hfz16_1 := blk_frozen BK241.out 1
      have hfz16_2 := blk_frozen BK241.out 2
      have hcz17_0 : w5.cell? ⟨gb242, 0, none⟩ = some (.int .u8 a1_0) := (blk_cell BK242.out 0).trans rfl
      have hcz17_1 : w5.cell? ⟨gb242, 1, none⟩ = some (.slice A1_1 l1_1.length c1_1) := (blk_cell BK242.out 1).trans rfl
      have hcz17_2 : w5.cell? ⟨gb242, 2, none⟩ = some (.slice A1_2 l1_2.length c1_2) := (blk_cell BK242.out 2).trans rfl
      have hfz17_0 := blk_frozen BK242.out 0
      have hfz17_1 := blk_frozen BK242.out 1
      have hfz17_2 := blk_frozen BK242.out 2
      go_wp2
      go_meet
      case rel => exact ⟨_, (true), (by first | rfl | (simp; done) | (simp [*]; done)), H', ⟨by first | omega | exact Nat.le_refl _⟩, ⟨by (with_reducible repeat (first | refine blk_drewN ?_ _ | refine blk_drew ?_ | refine blk_alloc ?_ _)); exact BK241.out⟩, ⟨by (with_reducible repeat (first | refine blk_drewN ?_ _ | refine blk_drew ?_ | refine blk_alloc ?_ _)); exact BK242.out⟩, ⟨by repeat (first | (with_reducible first | exact HB.out | apply below_alloc | apply pw_below_drewN | apply below_drew1 | refine below_set ?_ GE241.out | refine below_set ?_ GE242.out) | exact HB.out)⟩⟩
  case rest =>
    clear HC3
    try clear c1
    try clear p2
    try clear c6
    try clear c6b0
    try clear c6b1
    try clear c8
    try clear c9
    try clear c12
    try clear c15
    try clear hcz10_0
    try clear hcz10_1
    try clear hcz10_2
    try clear hcz11_0
    try clear hcz11_1
    try clear hcz11_2
    try clear hcz13_0
    try clear hcz13_1
    try clear hcz13_2
    try clear hcz14_0
    try clear hcz14_1
    try clear hcz14_2
    try clear hcz16_0
    try clear hcz16_1
    try clear hcz16_2
    try clear hcz17_0
    try clear hcz17_1
    try clear hcz17_2
    try clear hfz10_0
    try clear hfz10_1
    try clear hfz10_2
    try clear hfz11_0
    try clear hfz11_1
    try clear hfz11_2
    try clear hfz13_0
    try clear hfz13_1
    try clear hfz13_2
    try clear hfz14_0
    try clear hfz14_1
    try clear hfz14_2
    try clear hfz16_0
    try clear hfz16_1
    try clear hfz16_2
    try clear hfz17_0
    try clear hfz17_1
    try clear hfz17_2
    obtain ⟨kq, x27_2, rfl, HA, HJ2, BK241, BK242, HB⟩ := hcut
    cases kq with
    | zero => exact absurd HA.out (by simp [pyxlaw08_same.j0])
    | succ kj2 =>
      have H := HA.out
      clear HA
      simp only [pyxlaw08_same.j0] at H
      by_cases c18 : x27_2 = true
      · subst c18
        have H1 : (some false) = some r := by rw [if_pos rfl] at H; exact H
        clear H
        have H := H1
        clear H1
        obtain rfl := Option.some.inj H
        go_wp2
        go_ret
        exact ⟨by first | rfl | (simp [errW_none, errW_some] <;> rfl) | (simp [*, errW_none, errW_some] <;> rfl), by repeat (first | (with_reducible first | exact HB.out | apply below_alloc | apply pw_below_drewN | apply below_drew1 | refine below_set ?_ GE241.out | refine below_set ?_ GE242.out) | exact HB.out)⟩
      · replace c18 := Bool.eq_false_iff.mpr c18
        subst c18
        have H1 : (pyxlaw08_same.l0 kj2 0 a0_0 l0_1 l0_2 a1_0 l1_1 l1_2) = some r := by rw [if_neg (show ¬ (false = true) by decide)] at H; exact H
        clear H
        have H := H1
        clear H1
        have H' := Aside0.mk H
        clear H
        go_wp2
        go_loopg [5] kj2 (fun kq v5 w' => ∃ (x5_2 : Int), v5 = .int .i64 x5_2 ∧ Aside0 (pyxlaw08_same.l0 kq x5_2 a0_0 l0_1 l0_2 a1_0 l1_1 l1_2 = some r) ∧ Aside0 (kq ≤ kj2) ∧ Aside0 (w'.heap[gb241]? = some (.cells #[.int .u8 a0_0, (.slice A0_1 l0_1.length c0_1), (.slice A0_2 l0_2.length c0_2)] 26 (0, 0))) ∧ Aside0 (w'.heap[gb242]? = some (.cells #[.int .u8 a1_0, (.slice A1_1 l1_1.length c1_1), (.slice A1_2 l1_2.length c1_2)] 33 (0, 0))) ∧ Aside0 (Below w.heap.size w w'))
        case atStart => exact ⟨(0), (by first | rfl | (simp; done) | (simp [*]; done)), H', ⟨Nat.le_refl _⟩, ⟨by (with_reducible repeat (first | refine blk_drewN ?_ _ | refine blk_drew ?_ | refine blk_alloc ?_ _)); exact BK241.out⟩, ⟨by (with_reducible repeat (first | refine blk_drewN ?_ _ | refine blk_drew ?_ | refine blk_alloc ?_ _)); exact BK242.out⟩, ⟨by repeat (first | (with_reducible first | exact HB.out | apply below_alloc | apply pw_below_drewN | apply below_drew1 | refine below_set ?_ GE241.out | refine below_set ?_ GE242.out) | exact HB.out)⟩⟩
        case round =>
          clear H'
          try clear c1
          try clear p2
          try clear c6
          try clear c6b0
          try clear c6b1
          try clear c8
          try clear c9
          try clear c12
          try clear c15
          try clear c18
          try clear hcz10_0
          try clear hcz10_1
          try clear hcz10_2
          try clear hcz11_0
          try clear hcz11_1
          try clear hcz11_2
          try clear hcz13_0
          try clear hcz13_1
          try clear hcz13_2
          try clear hcz14_0
          try clear hcz14_1
          try clear hcz14_2
          try clear hcz16_0
          try clear hcz16_1
          try clear hcz16_2
          try clear hcz17_0
          try clear hcz17_1
          try clear hcz17_2
          try clear hfz10_0
          try clear hfz10_1
          try clear hfz10_2
          try clear hfz11_0
          try clear hfz11_1
          try clear hfz11_2
          try clear hfz13_0
          try clear hfz13_1
          try clear hfz13_2
          try clear hfz14_0
          try clear hfz14_1
          try clear hfz14_2
          try clear hfz16_0
          try clear hfz16_1
          try clear hfz16_2
          try clear hfz17_0
          try clear hfz17_1
          try clear hfz17_2
          try clear p2
          obtain ⟨x5_2, rfl, HA, HK2, BK241, BK242, HB⟩ := hrel
          cases gk with
          | zero => exact absurd HA.out (by simp [pyxlaw08_same.l0])
          | succ k2 =>
            have H := HA.out
            clear HA
            simp only [pyxlaw08_same.l0] at H
            by_cases c19 : x5_2 < (l0_2.length : Int)
            · rw [if_pos c19] at H
              have c19b0 : decide (x5_2 < (l0_2.length : Int)) = true := decide_eq_true c19
              clear c19
              by_cases c20 : 0 ≤ x5_2
              · rw [if_pos c20] at H
                have c20b0 : decide (0 ≤ x5_2) = true := decide_eq_true c20
                clear c20
                by_cases c21 : x5_2 < (l1_2.length : Int)
                · rw [if_pos c21] at H
                  have c21b0 : decide (x5_2 < (l1_2.length : Int)) = true := decide_eq_true c21
                  clear c21
                  replace H := Option.bind_eq_some_iff.mp H
                  obtain ⟨t246, A220, H⟩ := H
                  replace H : (if t246 = true then (pyxlaw08_same.l0 k2 (wrap64 (x5_2 + 1)) a0_0 l0_1 l0_2 a1_0 l1_1 l1_2) else (some false)) = some r := H
                  have A22 := Aside0.mk A220
                  clear A220
                  by_cases c23 : t246 = true
                  · subst c23
                    have H1 : (pyxlaw08_same.l0 k2 (wrap64 (x5_2 + 1)) a0_0 l0_1 l0_2 a1_0 l1_1 l1_2) = some r := by rw [if_pos rfl] at H; exact H
                    clear H
                    have H := H1
                    clear H1
                    have H' := Aside0.mk H
                    clear H
                    have hnb24 := NB241_242.out
                    have hnc24 := NB242_241.out
                    have hcz25_0 : wr.cell? ⟨gb241, 0, none⟩ = some (.int .u8 a0_0) := (blk_cell BK241.out 0).trans rfl
                    have hcz25_1 : wr.cell? ⟨gb241, 1, none⟩ = some (.slice A0_1 l0_1.length c0_1) := (blk_cell BK241.out 1).trans rfl
                    have hcz25_2 : wr.cell? ⟨gb241, 2, none⟩ = some (.slice A0_2 l0_2.length c0_2) := (blk_cell BK241.out 2).trans rfl
                    have hfz25_0 := blk_frozen BK241.out 0
                    have hfz25_1 := blk_frozen BK241.out 1
                    have hfz25_2 := blk_frozen BK241.out 2
                    try go_wp2
                    have n0_ := Aside0.mk (blk_drew BK241.out)
                    have n1_ := Aside0.mk (blk_drew BK242.out)
                    have n2_ := Aside0.mk (below_drew1 HB.out)
                    clear BK241
                    clear BK242
                    clear HB
                    have BK241 := n0_
                    have BK242 := n1_
                    have HB := n2_
                    clear n0_ n1_ n2_
                    have p244 : 0 ≤ (x5_2 : Int) := of_decide_eq_true (by first | (with_reducible assumption) | assumption)
                    have q244 : x5_2 < (l0_2.length : Int) := of_decide_eq_true (by first | (with_reducible assumption) | assumption)
                    obtain ⟨ad244, A244_1, c244_1, A244_2, c244_2, e244, hx244_0, hx244_1, hx244_2, hl244_1, hi244_1, hl244_2, hi244_2⟩ := at_T26 HR0_2.out x5_2 p244 q244
                    have hw244_2 := hx244_2
                    have hw244_1 := hx244_1
                    have hw244_0 := hx244_0
                    cases e244
                    replace hx244_0 := (HB.out.cell (World.block_lt_of_cell? w _ hx244_0)).trans hx244_0
                    replace hx244_1 := (HB.out.cell (World.block_lt_of_cell? w _ hx244_1)).trans hx244_1
                    replace hx244_2 := (HB.out.cell (World.block_lt_of_cell? w _ hx244_2)).trans hx244_2
                    have HR244_1 := Aside0.mk hi244_1
                    have HC244_1 := Aside0.mk hl244_1
                    clear hi244_1 hl244_1
                    have HR244_2 := Aside0.mk hi244_2
                    have HC244_2 := Aside0.mk hl244_2
                    clear hi244_2 hl244_2
                    replace p244 := eq_true p244
                    replace q244 := eq_true q244
                    have p245 : 0 ≤ (x5_2 : Int) := of_decide_eq_true (by first | (with_reducible assumption) | assumption)
                    have q245 : x5_2 < (l1_2.length : Int) := of_decide_eq_true (by first | (with_reducible assumption) | assumption)
                    obtain ⟨ad245, A245_1, c245_1, A245_2, c245_2, e245, hx245_0, hx245_1, hx245_2, hl245_1, hi245_1, hl245_2, hi245_2⟩ := at_T33 HR1_2.out x5_2 p245 q245
                    have hw245_2 := hx245_2
                    have hw245_1 := hx245_1
                    have hw245_0 := hx245_0
                    cases e245
                    replace hx245_0 := (HB.out.cell (World.block_lt_of_cell? w _ hx245_0)).trans hx245_0
                    replace hx245_1 := (HB.out.cell (World.block_lt_of_cell? w _ hx245_1)).trans hx245_1
                    replace hx245_2 := (HB.out.cell (World.block_lt_of_cell? w _ hx245_2)).trans hx245_2
                    have HR245_1 := Aside0.mk hi245_1
                    have HC245_1 := Aside0.mk hl245_1
                    clear hi245_1 hl245_1
                    have HR245_2 := Aside0.mk hi245_2
                    have HC245_2 := Aside0.mk hl245_2
                    clear hi245_2 hl245_2
                    replace p245 := eq_true p245
                    replace q245 := eq_true q245
                    refine start_ (n := 12) (S := fun w' => w'.cell? ⟨gb241, 0, none⟩ = some (.int .u8 a0_0) ∧ w'.cell? ⟨gb241, 1, none⟩ = some (.slice A0_1 l0_1.length c0_1) ∧ w'.cell? ⟨gb241, 2, none⟩ = some (.slice (some ad244) l0_2.length c0_2) ∧ w'.cell? ⟨gb242, 0, none⟩ = some (.int .u8 a1_0) ∧ w'.cell? ⟨gb242, 1, none⟩ = some (.slice A1_1 l1_1.length c1_1) ∧ w'.cell? ⟨gb242, 2, none⟩ = some (.slice (some ad245) l1_2.length c1_2) ∧ w'.cell? (ad244.add ((x5_2).toNat * 3)) = some (.int .u8 ((rd_T26 l0_2 x5_2).f0)) ∧ w'.cell? ⟨(ad244.add ((x5_2).toNat * 3)).block, (ad244.add ((x5_2).toNat * 3)).off + 1, none⟩ = some (.slice A244_1 ((rd_T26 l0_2 x5_2).f1).length c244_1) ∧ w'.cell? ⟨(ad244.add ((x5_2).toNat * 3)).block, (ad244.add ((x5_2).toNat * 3)).off + 2, none⟩ = some (.slice A244_2 ((rd_T26 l0_2 x5_2).f2).length c244_2) ∧ w'.cell? (ad245.add ((x5_2).toNat * 3)) = some (.int .u8 ((rd_T33 l1_2 x5_2).f0)) ∧ w'.cell? ⟨(ad245.add ((x5_2).toNat * 3)).block, (ad245.add ((x5_2).toNat * 3)).off + 1, none⟩ = some (.slice A245_1 ((rd_T33 l1_2 x5_2).f1).length c245_1) ∧ w'.cell? ⟨(ad245.add ((x5_2).toNat * 3)).block, (ad245.add ((x5_2).toNat * 3)).off + 2, none⟩ = some (.slice A245_2 ((rd_T33 l1_2 x5_2).f2).length c245_2)) (ds := []) #[false, false, false, false, false, false, false, false, false, false, false, false] (by kernel_rfl) rfl rfl ⟨(blk_cell BK241.out 0).trans rfl, (blk_cell BK241.out 1).trans rfl, (blk_cell BK241.out 2).trans rfl, (blk_cell BK242.out 0).trans rfl, (blk_cell BK242.out 1).trans rfl, (blk_cell BK242.out 2).trans rfl, ((HB.out.cell (World.block_lt_of_cell? w _ hw244_0)).trans hw244_0), ((HB.out.cell (World.block_lt_of_cell? w _ hw244_1)).trans hw244_1), ((HB.out.cell (World.block_lt_of_cell? w _ hw244_2)).trans hw244_2), ((HB.out.cell (World.block_lt_of_cell? w _ hw245_0)).trans hw245_0), ((HB.out.cell (World.block_lt_of_cell? w _ hw245_1)).trans hw245_1), ((HB.out.cell (World.block_lt_of_cell? w _ hw245_2)).trans hw245_2)⟩ (fun hHeld => ?_); refine with_tabW pyxlaw08_same.tab6 pyxlaw08_same.bits6 (fun HT_ HW_ => ?_)
                    generalize wr.drew = w26 at BK241 BK242 HB HR244_1 HR244_2 HR245_1 HR245_2 hx244_0 hx244_1 hx244_2 hx245_0 hx245_1 hx245_2 hHeld ⊢
                    refine pure_ (i := 0) (N := some 35) (v := ?_) (a' := ?_) #[true, false, false, false, false, false, false, false, false, false, false, false] rfl rfl (any_of HT_.out (by kernel_rfl)) (fun _ _ _ h => h) (Or.inl ⟨by rfl, ?_⟩) ?_ ?_
                    rotate_left
                    · intro w'
                      go_simp
                      with_reducible rfl
                    rotate_left
                    · simp only [Act.put, List.setIfInBounds_toArray, List.set_cons_zero, List.set_cons_succ, i64_w, i32_w]
                      rfl
                    refine pure_ (i := 2) (N := some 37) (v := ?_) (a' := ?_) #[true, false, true, false, false, false, false, false, false, false, false, false] rfl rfl (any_of HT_.out (by kernel_rfl)) (fun _ _ _ h => h) (Or.inl ⟨by rfl, ?_⟩) ?_ ?_
                    rotate_left
                    · intro w'
                      go_simp
                      with_reducible rfl
                    rotate_left
                    · simp only [Act.put, List.setIfInBounds_toArray, List.set_cons_zero, List.set_cons_succ, i64_w, i32_w]
                      rfl
                    refine pure_ (i := 5) (N := some 40) (v := ?_) (a' := ?_) #[true, false, true, false, false, true, false, false, false, false, false, false] rfl rfl (any_of HT_.out (by kernel_rfl)) (fun _ _ _ h => h) (Or.inl ⟨by rfl, ?_⟩) ?_ ?_
                    rotate_left
                    · intro w'
                      go_simp
                      with_reducible rfl
                    rotate_left
                    · simp only [Act.put, List.setIfInBounds_toArray, List.set_cons_zero, List.set_cons_succ, i64_w, i32_w]
                      rfl
                    refine pure_ (i := 7) (N := some 42) (v := ?_) (a' := ?_) #[true, false, true, false, false, true, false, true, false, false, false, false] rfl rfl (any_of HT_.out (by kernel_rfl)) (fun _ _ _ h => h) (Or.inl ⟨by rfl, ?_⟩) ?_ ?_
                    rotate_left
                    · intro w'
                      go_simp
                      with_reducible rfl
                    rotate_left
                    · simp only [Act.put, List.setIfInBounds_toArray, List.set_cons_zero, List.set_cons_succ, i64_w, i32_w]
                      rfl
                    refine take_ (i := 1) (N := some 36) (v := ?_) (a' := ?_) #[true, true, true, false, false, true, false, true, false, false, false, false] rfl rfl (take_ofW HT_.out HW_.out (by kernel_rfl)) (fun _ _ _ h => h) (Or.inl ⟨by rfl, ?_⟩) hHeld ?_ ?_
                    rotate_left
                    · rintro w' ⟨s0, s1, s2, s3, s4, s5, s6, s7, s8, s9, s10, s11⟩
                      go_simp
                      with_reducible rfl
                    rotate_left
                    · simp only [Act.put, List.setIfInBounds_toArray, List.set_cons_zero, List.set_cons_succ, i64_w, i32_w]
                      rfl
                    refine pure_ (i := 3) (N := some 38) (v := ?_) (a' := ?_) #[true, true, true, true, false, true, false, true, false, false, false, false] rfl rfl (any_of HT_.out (by kernel_rfl)) (fun _ _ _ h => h) (Or.inl ⟨by rfl, ?_⟩) ?_ ?_
                    rotate_left
                    · intro w'
                      go_simp
                      with_reducible rfl
                    rotate_left
                    · simp only [Act.put, List.setIfInBounds_toArray, List.set_cons_zero, List.set_cons_succ, i64_w, i32_w]
                      rfl
                    refine take_ (i := 4) (N := some 39) (v := ?_) (a' := ?_) #[true, true, true, true, true, true, false, true, false, false, false, false] rfl rfl (take_ofW HT_.out HW_.out (by kernel_rfl)) (fun _ _ _ h => h) (Or.inl ⟨by rfl, ?_⟩) hHeld ?_ ?_
                    rotate_left
                    · rintro w' ⟨s0, s1, s2, s3, s4, s5, s6, s7, s8, s9, s10, s11⟩
                      go_simp
                      with_reducible rfl
                    rotate_left
                    · simp only [Act.put, List.setIfInBounds_toArray, List.set_cons_zero, List.set_cons_succ, i64_w, i32_w]
                      rfl
                    refine take_ (i := 6) (N := some 41) (v := ?_) (a' := ?_) #[true, true, true, true, true, true, true, true, false, false, false, false] rfl rfl (take_ofW HT_.out HW_.out (by kernel_rfl)) (fun _ _ _ h => h) (Or.inl ⟨by rfl, ?_⟩) hHeld ?_ ?_
                    rotate_left
                    · rintro w' ⟨s0, s1, s2, s3, s4, s5, s6, s7, s8, s9, s10, s11⟩
                      go_simp
                      with_reducible rfl
                    rotate_left
                    · simp only [Act.put, List.setIfInBounds_toArray, List.set_cons_zero, List.set_cons_succ, i64_w, i32_w]
                      rfl
                    refine pure_ (i := 8) (N := some 43) (v := ?_) (a' := ?_) #[true, true, true, true, true, true, true, true, true, false, false, false] rfl rfl (any_of HT_.out (by kernel_rfl)) (fun _ _ _ h => h) (Or.inl ⟨by rfl, ?_⟩) ?_ ?_
                    rotate_left
                    · intro w'
                      go_simp
                      with_reducible rfl
                    rotate_left
                    · simp only [Act.put, List.setIfInBounds_toArray, List.set_cons_zero, List.set_cons_succ, i64_w, i32_w]
                      rfl
                    refine take_ (i := 9) (N := some 44) (v := ?_) (a' := ?_) #[true, true, true, true, true, true, true, true, true, true, false, false] rfl rfl (take_ofW HT_.out HW_.out (by kernel_rfl)) (fun _ _ _ h => h) (Or.inl ⟨by rfl, ?_⟩) hHeld ?_ ?_
                    rotate_left
                    · rintro w' ⟨s0, s1, s2, s3, s4, s5, s6, s7, s8, s9, s10, s11⟩
                      go_simp
                      with_reducible rfl
                    rotate_left
                    · simp only [Act.put, List.setIfInBounds_toArray, List.set_cons_zero, List.set_cons_succ, i64_w, i32_w]
                      rfl
                    refine one_ (i := 10) (N := some 45) #[true, true, true, true, true, true, true, true, true, true, true, false] rfl rfl (one_of HT_.out (by kernel_rfl)) (by decide) (fun K hK => ?_)
                    refine goes_ Tryd.func15 (by kernel_rfl) rfl #[.agg #[.int .u8 ((rd_T26 l0_2 x5_2).f0), .slice A244_1 ((rd_T26 l0_2 x5_2).f1).length c244_1, .slice A244_2 ((rd_T26 l0_2 x5_2).f2).length c244_2], .agg #[.int .u8 ((rd_T33 l1_2 x5_2).f0), .slice A245_1 ((rd_T33 l1_2 x5_2).f1).length c245_1, .slice A245_2 ((rd_T33 l1_2 x5_2).f2).length c245_2]] (by rfl) rfl rfl (by (try simp only [List.map_toArray, List.map_cons, List.map_nil]); first | done | rfl | (simp only [List.length_drop, List.length_take]; rfl)) ?_
                    with_reducible refine (ih k2 (by have := HJ2.out; have := HK2.out; omega) ((rd_T26 l0_2 x5_2).f0) _ _ ((rd_T26 l0_2 x5_2).f1) _ _ ((rd_T26 l0_2 x5_2).f2) ((rd_T33 l1_2 x5_2).f0) _ _ ((rd_T33 l1_2 x5_2).f1) _ _ ((rd_T33 l1_2 x5_2).f2) true _ ?side1 ?side2 ?side3 ?side4 ?side5 ?side6 ?side7 ?side8 A22.out).mono ?_
                    (case side1 => repeat (first | exact (Kd.C_below HR244_1.out HB.out) | (with_reducible refine Kd.C_alloc ?_ _) | (with_reducible refine Kd.C_drewN ?_ _) | (with_reducible refine Kd.C_drew ?_)))
                    (case side2 => exact HC244_1.out)
                    (case side3 => repeat (first | exact (Kd.C_below HR244_2.out HB.out) | (with_reducible refine Kd.C_alloc ?_ _) | (with_reducible refine Kd.C_drewN ?_ _) | (with_reducible refine Kd.C_drew ?_)))
                    (case side4 => exact HC244_2.out)
                    (case side5 => repeat (first | exact (Kd.C_below HR245_1.out HB.out) | (with_reducible refine Kd.C_alloc ?_ _) | (with_reducible refine Kd.C_drewN ?_ _) | (with_reducible refine Kd.C_drew ?_)))
                    (case side6 => exact HC245_1.out)
                    (case side7 => repeat (first | exact (Kd.C_below HR245_2.out HB.out) | (with_reducible refine Kd.C_alloc ?_ _) | (with_reducible refine Kd.C_drewN ?_ _) | (with_reducible refine Kd.C_drew ?_)))
                    (case side8 => exact HC245_2.out)
                    rintro e w27 ⟨rfl, hb⟩
                    refine ⟨_, rfl, ?_⟩
                    have n0_ := Aside0.mk (blk_below (g := gb241) (o := .cells #[.int .u8 a0_0, .slice A0_1 l0_1.length c0_1, .slice (some ad244) l0_2.length c0_2] 26 (0, 0)) (by (with_reducible repeat (first | refine blk_drewN ?_ _ | refine blk_drew ?_ | refine blk_alloc ?_ _)); exact BK241.out) hb)
                    have n1_ := Aside0.mk (blk_below (g := gb242) (o := .cells #[.int .u8 a1_0, .slice A1_1 l1_1.length c1_1, .slice (some ad245) l1_2.length c1_2] 33 (0, 0)) (by (with_reducible repeat (first | refine blk_drewN ?_ _ | refine blk_drew ?_ | refine blk_alloc ?_ _)); exact BK242.out) hb)
                    have n2_ := Aside0.mk (below_step (by repeat (first | (with_reducible first | exact HB.out | apply below_alloc | apply pw_below_drewN | apply below_drew1 | refine below_set ?_ GE241.out | refine below_set ?_ GE242.out) | exact HB.out)) hb)
                    clear BK241
                    clear BK242
                    clear HB
                    have BK241 := n0_
                    have BK242 := n1_
                    have HB := n2_
                    clear n0_ n1_ n2_
                    (try clear hb)
                    (try clear hb2)
                    (try clear hk)
                    (try clear hi)
                    refine hK.out _ _ ⟨(blk_cell BK241.out 0).trans rfl, (blk_cell BK241.out 1).trans rfl, (blk_cell BK241.out 2).trans rfl, (blk_cell BK242.out 0).trans rfl, (blk_cell BK242.out 1).trans rfl, (blk_cell BK242.out 2).trans rfl, ((HB.out.cell (World.block_lt_of_cell? w _ hw244_0)).trans hw244_0), ((HB.out.cell (World.block_lt_of_cell? w _ hw244_1)).trans hw244_1), ((HB.out.cell (World.block_lt_of_cell? w _ hw244_2)).trans hw244_2), ((HB.out.cell (World.block_lt_of_cell? w _ hw245_0)).trans hw245_0), ((HB.out.cell (World.block_lt_of_cell? w _ hw245_1)).trans hw245_1), ((HB.out.cell (World.block_lt_of_cell? w _ hw245_2)).trans hw245_2)⟩ (fun hHeld => ?_)
                    clear hK K
                    refine norm_ (a' := ?_) ?_ ?_
                    rotate_left
                    · show Act.put _ (some 45) _ = _
                      simp only [Act.put, List.setIfInBounds_toArray, List.set_cons_zero, List.set_cons_succ, i64_w, i32_w]
                      rfl
                    refine pure_ (i := 11) (N := some 46) (v := ?_) (a' := ?_) #[true, true, true, true, true, true, true, true, true, true, true, true] rfl rfl (any_of HT_.out (by kernel_rfl)) (fun _ _ _ h => h) (Or.inl ⟨by rfl, ?_⟩) ?_ ?_
                    rotate_left
                    · intro w'
                      go_simp
                      with_reducible rfl
                    rotate_left
                    · simp only [Act.put, List.setIfInBounds_toArray, List.set_cons_zero, List.set_cons_succ, i64_w, i32_w]
                      rfl
                    refine done_ (done_of HT_.out (by kernel_rfl)) ?_
                    try go_wp2
                    go_roundg k2
                    case measure => have := HJ2.out; have := HK2.out; omega
                    case rel => exact ⟨(wrap64 (x5_2 + 1)), (by first | rfl | (simp; done) | (simp [*]; done)), H', ⟨by have := HJ2.out; have := HK2.out; omega⟩, ⟨by (with_reducible repeat (first | refine blk_drewN ?_ _ | refine blk_drew ?_ | refine blk_alloc ?_ _)); exact BK241.out⟩, ⟨by (with_reducible repeat (first | refine blk_drewN ?_ _ | refine blk_drew ?_ | refine blk_alloc ?_ _)); exact BK242.out⟩, ⟨by repeat (first | (with_reducible first | exact HB.out | apply below_alloc | apply pw_below_drewN | apply below_drew1 | refine below_set ?_ GE241.out | refine below_set ?_ GE242.out) | exact HB.out)⟩⟩
                  · replace c23 := Bool.eq_false_iff.mpr c23
                    subst c23
                    have H1 : (some false) = some r := by rw [if_neg (show ¬ (false = true) by decide)] at H; exact H
                    clear H
                    have H := H1
                    clear H1
                    obtain rfl := Option.some.inj H
                    have hnb28 := NB241_242.out
                    have hnc28 := NB242_241.out
                    have hcz29_0 : wr.cell? ⟨gb241, 0, none⟩ = some (.int .u8 a0_0) := (blk_cell BK241.out 0).trans rfl
                    have hcz29_1 : wr.cell? ⟨gb241, 1, none⟩ = some (.slice A0_1 l0_1.length c0_1) := (blk_cell BK241.out 1).trans rfl
                    have hcz29_2 : wr.cell? ⟨gb241, 2, none⟩ = some (.slice A0_2 l0_2.length c0_2) := (blk_cell BK241.out 2).trans rfl
                    have hfz29_0 := blk_frozen BK241.out 0
                    have hfz29_1 := blk_frozen BK241.out 1
                    have hfz29_2 := blk_frozen BK241.out 2
                    try go_wp2
                    have n0_ := Aside0.mk (blk_drew BK241.out)
                    have n1_ := Aside0.mk (blk_drew BK242.out)
                    have n2_ := Aside0.mk (below_drew1 HB.out)
                    clear BK241
                    clear BK242
                    clear HB
                    have BK241 := n0_
                    have BK242 := n1_
                    have HB := n2_
                    clear n0_ n1_ n2_
                    have p244 : 0 ≤ (x5_2 : Int) := of_decide_eq_true (by first | (with_reducible assumption) | assumption)
                    have q244 : x5_2 < (l0_2.length : Int) := of_decide_eq_true (by first | (with_reducible assumption) | assumption)
                    obtain ⟨ad244, A244_1, c244_1, A244_2, c244_2, e244, hx244_0, hx244_1, hx244_2, hl244_1, hi244_1, hl244_2, hi244_2⟩ := at_T26 HR0_2.out x5_2 p244 q244
                    have hw244_2 := hx244_2
                    have hw244_1 := hx244_1
                    have hw244_0 := hx244_0
                    cases e244
                    replace hx244_0 := (HB.out.cell (World.block_lt_of_cell? w _ hx244_0)).trans hx244_0
                    replace hx244_1 := (HB.out.cell (World.block_lt_of_cell? w _ hx244_1)).trans hx244_1
                    replace hx244_2 := (HB.out.cell (World.block_lt_of_cell? w _ hx244_2)).trans hx244_2
                    have HR244_1 := Aside0.mk hi244_1
                    have HC244_1 := Aside0.mk hl244_1
                    clear hi244_1 hl244_1
                    have HR244_2 := Aside0.mk hi244_2
                    have HC244_2 := Aside0.mk hl244_2
                    clear hi244_2 hl244_2
                    replace p244 := eq_true p244
                    replace q244 := eq_true q244
                    have p245 : 0 ≤ (x5_2 : Int) := of_decide_eq_true (by first | (with_reducible assumption) | assumption)
                    have q245 : x5_2 < (l1_2.length : Int) := of_decide_eq_true (by first | (with_reducible assumption) | assumption)
                    obtain ⟨ad245, A245_1, c245_1, A245_2, c245_2, e245, hx245_0, hx245_1, hx245_2, hl245_1, hi245_1, hl245_2, hi245_2⟩ := at_T33 HR1_2.out x5_2 p245 q245
                    have hw245_2 := hx245_2
                    have hw245_1 := hx245_1
                    have hw245_0 := hx245_0
                    cases e245
                    replace hx245_0 := (HB.out.cell (World.block_lt_of_cell? w _ hx245_0)).trans hx245_0
                    replace hx245_1 := (HB.out.cell (World.block_lt_of_cell? w _ hx245_1)).trans hx245_1
                    replace hx245_2 := (HB.out.cell (World.block_lt_of_cell? w _ hx245_2)).trans hx245_2
                    have HR245_1 := Aside0.mk hi245_1
                    have HC245_1 := Aside0.mk hl245_1
                    clear hi245_1 hl245_1
                    have HR245_2 := Aside0.mk hi245_2
                    have HC245_2 := Aside0.mk hl245_2
                    clear hi245_2 hl245_2
                    replace p245 := eq_true p245
                    replace q245 := eq_true q245
                    refine start_ (n := 12) (S := fun w' => w'.cell? ⟨gb241, 0, none⟩ = some (.int .u8 a0_0) ∧ w'.cell? ⟨gb241, 1, none⟩ = some (.slice A0_1 l0_1.length c0_1) ∧ w'.cell? ⟨gb241, 2, none⟩ = some (.slice (some ad244) l0_2.length c0_2) ∧ w'.cell? ⟨gb242, 0, none⟩ = some (.int .u8 a1_0) ∧ w'.cell? ⟨gb242, 1, none⟩ = some (.slice A1_1 l1_1.length c1_1) ∧ w'.cell? ⟨gb242, 2, none⟩ = some (.slice (some ad245) l1_2.length c1_2) ∧ w'.cell? (ad244.add ((x5_2).toNat * 3)) = some (.int .u8 ((rd_T26 l0_2 x5_2).f0)) ∧ w'.cell? ⟨(ad244.add ((x5_2).toNat * 3)).block, (ad244.add ((x5_2).toNat * 3)).off + 1, none⟩ = some (.slice A244_1 ((rd_T26 l0_2 x5_2).f1).length c244_1) ∧ w'.cell? ⟨(ad244.add ((x5_2).toNat * 3)).block, (ad244.add ((x5_2).toNat * 3)).off + 2, none⟩ = some (.slice A244_2 ((rd_T26 l0_2 x5_2).f2).length c244_2) ∧ w'.cell? (ad245.add ((x5_2).toNat * 3)) = some (.int .u8 ((rd_T33 l1_2 x5_2).f0)) ∧ w'.cell? ⟨(ad245.add ((x5_2).toNat * 3)).block, (ad245.add ((x5_2).toNat * 3)).off + 1, none⟩ = some (.slice A245_1 ((rd_T33 l1_2 x5_2).f1).length c245_1) ∧ w'.cell? ⟨(ad245.add ((x5_2).toNat * 3)).block, (ad245.add ((x5_2).toNat * 3)).off + 2, none⟩ = some (.slice A245_2 ((rd_T33 l1_2 x5_2).f2).length c245_2)) (ds := []) #[false, false, false, false, false, false, false, false, false, false, false, false] (by kernel_rfl) rfl rfl ⟨(blk_cell BK241.out 0).trans rfl, (blk_cell BK241.out 1).trans rfl, (blk_cell BK241.out 2).trans rfl, (blk_cell BK242.out 0).trans rfl, (blk_cell BK242.out 1).trans rfl, (blk_cell BK242.out 2).trans rfl, ((HB.out.cell (World.block_lt_of_cell? w _ hw244_0)).trans hw244_0), ((HB.out.cell (World.block_lt_of_cell? w _ hw244_1)).trans hw244_1), ((HB.out.cell (World.block_lt_of_cell? w _ hw244_2)).trans hw244_2), ((HB.out.cell (World.block_lt_of_cell? w _ hw245_0)).trans hw245_0), ((HB.out.cell (World.block_lt_of_cell? w _ hw245_1)).trans hw245_1), ((HB.out.cell (World.block_lt_of_cell? w _ hw245_2)).trans hw245_2)⟩ (fun hHeld => ?_); refine with_tabW pyxlaw08_same.tab6 pyxlaw08_same.bits6 (fun HT_ HW_ => ?_)
                    generalize wr.drew = w30 at BK241 BK242 HB HR244_1 HR244_2 HR245_1 HR245_2 hx244_0 hx244_1 hx244_2 hx245_0 hx245_1 hx245_2 hHeld ⊢
                    refine pure_ (i := 0) (N := some 35) (v := ?_) (a' := ?_) #[true, false, false, false, false, false, false, false, false, false, false, false] rfl rfl (any_of HT_.out (by kernel_rfl)) (fun _ _ _ h => h) (Or.inl ⟨by rfl, ?_⟩) ?_ ?_
                    rotate_left
                    · intro w'
                      go_simp
                      with_reducible rfl
                    rotate_left
                    · simp only [Act.put, List.setIfInBounds_toArray, List.set_cons_zero, List.set_cons_succ, i64_w, i32_w]
                      rfl
                    refine pure_ (i := 2) (N := some 37) (v := ?_) (a' := ?_) #[true, false, true, false, false, false, false, false, false, false, false, false] rfl rfl (any_of HT_.out (by kernel_rfl)) (fun _ _ _ h => h) (Or.inl ⟨by rfl, ?_⟩) ?_ ?_
                    rotate_left
                    · intro w'
                      go_simp
                      with_reducible rfl
                    rotate_left
                    · simp only [Act.put, List.setIfInBounds_toArray, List.set_cons_zero, List.set_cons_succ, i64_w, i32_w]
                      rfl
                    refine pure_ (i := 5) (N := some 40) (v := ?_) (a' := ?_) #[true, false, true, false, false, true, false, false, false, false, false, false] rfl rfl (any_of HT_.out (by kernel_rfl)) (fun _ _ _ h => h) (Or.inl ⟨by rfl, ?_⟩) ?_ ?_
                    rotate_left
                    · intro w'
                      go_simp
                      with_reducible rfl
                    rotate_left
                    · simp only [Act.put, List.setIfInBounds_toArray, List.set_cons_zero, List.set_cons_succ, i64_w, i32_w]
                      rfl
                    refine pure_ (i := 7) (N := some 42) (v := ?_) (a' := ?_) #[true, false, true, false, false, true, false, true, false, false, false, false] rfl rfl (any_of HT_.out (by kernel_rfl)) (fun _ _ _ h => h) (Or.inl ⟨by rfl, ?_⟩) ?_ ?_
                    rotate_left
                    · intro w'
                      go_simp
                      with_reducible rfl
                    rotate_left
                    · simp only [Act.put, List.setIfInBounds_toArray, List.set_cons_zero, List.set_cons_succ, i64_w, i32_w]
                      rfl
                    refine take_ (i := 1) (N := some 36) (v := ?_) (a' := ?_) #[true, true, true, false, false, true, false, true, false, false, false, false] rfl rfl (take_ofW HT_.out HW_.out (by kernel_rfl)) (fun _ _ _ h => h) (Or.inl ⟨by rfl, ?_⟩) hHeld ?_ ?_
                    rotate_left
                    · rintro w' ⟨s0, s1, s2, s3, s4, s5, s6, s7, s8, s9, s10, s11⟩
                      go_simp
                      with_reducible rfl
                    rotate_left
                    · simp only [Act.put, List.setIfInBounds_toArray, List.set_cons_zero, List.set_cons_succ, i64_w, i32_w]
                      rfl
                    refine pure_ (i := 3) (N := some 38) (v := ?_) (a' := ?_) #[true, true, true, true, false, true, false, true, false, false, false, false] rfl rfl (any_of HT_.out (by kernel_rfl)) (fun _ _ _ h => h) (Or.inl ⟨by rfl, ?_⟩) ?_ ?_
                    rotate_left
                    · intro w'
                      go_simp
                      with_reducible rfl
                    rotate_left
                    · simp only [Act.put, List.setIfInBounds_toArray, List.set_cons_zero, List.set_cons_succ, i64_w, i32_w]
                      rfl
                    refine take_ (i := 4) (N := some 39) (v := ?_) (a' := ?_) #[true, true, true, true, true, true, false, true, false, false, false, false] rfl rfl (take_ofW HT_.out HW_.out (by kernel_rfl)) (fun _ _ _ h => h) (Or.inl ⟨by rfl, ?_⟩) hHeld ?_ ?_
                    rotate_left
                    · rintro w' ⟨s0, s1, s2, s3, s4, s5, s6, s7, s8, s9, s10, s11⟩
                      go_simp
                      with_reducible rfl
                    rotate_left
                    · simp only [Act.put, List.setIfInBounds_toArray, List.set_cons_zero, List.set_cons_succ, i64_w, i32_w]
                      rfl
                    refine take_ (i := 6) (N := some 41) (v := ?_) (a' := ?_) #[true, true, true, true, true, true, true, true, false, false, false, false] rfl rfl (take_ofW HT_.out HW_.out (by kernel_rfl)) (fun _ _ _ h => h) (Or.inl ⟨by rfl, ?_⟩) hHeld ?_ ?_
                    rotate_left
                    · rintro w' ⟨s0, s1, s2, s3, s4, s5, s6, s7, s8, s9, s10, s11⟩
                      go_simp
                      with_reducible rfl
                    rotate_left
                    · simp only [Act.put, List.setIfInBounds_toArray, List.set_cons_zero, List.set_cons_succ, i64_w, i32_w]
                      rfl
                    refine pure_ (i := 8) (N := some 43) (v := ?_) (a' := ?_) #[true, true, true, true, true, true, true, true, true, false, false, false] rfl rfl (any_of HT_.out (by kernel_rfl)) (fun _ _ _ h => h) (Or.inl ⟨by rfl, ?_⟩) ?_ ?_
                    rotate_left
                    · intro w'
                      go_simp
                      with_reducible rfl
                    rotate_left
                    · simp only [Act.put, List.setIfInBounds_toArray, List.set_cons_zero, List.set_cons_succ, i64_w, i32_w]
                      rfl
                    refine take_ (i := 9) (N := some 44) (v := ?_) (a' := ?_) #[true, true, true, true, true, true, true, true, true, true, false, false] rfl rfl (take_ofW HT_.out HW_.out (by kernel_rfl)) (fun _ _ _ h => h) (Or.inl ⟨by rfl, ?_⟩) hHeld ?_ ?_
                    rotate_left
                    · rintro w' ⟨s0, s1, s2, s3, s4, s5, s6, s7, s8, s9, s10, s11⟩
                      go_simp
                      with_reducible rfl
                    rotate_left
                    · simp only [Act.put, List.setIfInBounds_toArray, List.set_cons_zero, List.set_cons_succ, i64_w, i32_w]
                      rfl
                    refine one_ (i := 10) (N := some 45) #[true, true, true, true, true, true, true, true, true, true, true, false] rfl rfl (one_of HT_.out (by kernel_rfl)) (by decide) (fun K hK => ?_)
                    refine goes_ Tryd.func15 (by kernel_rfl) rfl #[.agg #[.int .u8 ((rd_T26 l0_2 x5_2).f0), .slice A244_1 ((rd_T26 l0_2 x5_2).f1).length c244_1, .slice A244_2 ((rd_T26 l0_2 x5_2).f2).length c244_2], .agg #[.int .u8 ((rd_T33 l1_2 x5_2).f0), .slice A245_1 ((rd_T33 l1_2 x5_2).f1).length c245_1, .slice A245_2 ((rd_T33 l1_2 x5_2).f2).length c245_2]] (by rfl) rfl rfl (by (try simp only [List.map_toArray, List.map_cons, List.map_nil]); first | done | rfl | (simp only [List.length_drop, List.length_take]; rfl)) ?_
                    with_reducible refine (ih k2 (by have := HJ2.out; have := HK2.out; omega) ((rd_T26 l0_2 x5_2).f0) _ _ ((rd_T26 l0_2 x5_2).f1) _ _ ((rd_T26 l0_2 x5_2).f2) ((rd_T33 l1_2 x5_2).f0) _ _ ((rd_T33 l1_2 x5_2).f1) _ _ ((rd_T33 l1_2 x5_2).f2) false _ ?side1 ?side2 ?side3 ?side4 ?side5 ?side6 ?side7 ?side8 A22.out).mono ?_
                    (case side1 => repeat (first | exact (Kd.C_below HR244_1.out HB.out) | (with_reducible refine Kd.C_alloc ?_ _) | (with_reducible refine Kd.C_drewN ?_ _) | (with_reducible refine Kd.C_drew ?_)))
                    (case side2 => exact HC244_1.out)
                    (case side3 => repeat (first | exact (Kd.C_below HR244_2.out HB.out) | (with_reducible refine Kd.C_alloc ?_ _) | (with_reducible refine Kd.C_drewN ?_ _) | (with_reducible refine Kd.C_drew ?_)))
                    (case side4 => exact HC244_2.out)
                    (case side5 => repeat (first | exact (Kd.C_below HR245_1.out HB.out) | (with_reducible refine Kd.C_alloc ?_ _) | (with_reducible refine Kd.C_drewN ?_ _) | (with_reducible refine Kd.C_drew ?_)))
                    (case side6 => exact HC245_1.out)
                    (case side7 => repeat (first | exact (Kd.C_below HR245_2.out HB.out) | (with_reducible refine Kd.C_alloc ?_ _) | (with_reducible refine Kd.C_drewN ?_ _) | (with_reducible refine Kd.C_drew ?_)))
                    (case side8 => exact HC245_2.out)
                    rintro e w31 ⟨rfl, hb⟩
                    refine ⟨_, rfl, ?_⟩
                    have n0_ := Aside0.mk (blk_below (g := gb241) (o := .cells #[.int .u8 a0_0, .slice A0_1 l0_1.length c0_1, .slice (some ad244) l0_2.length c0_2] 26 (0, 0)) (by (with_reducible repeat (first | refine blk_drewN ?_ _ | refine blk_drew ?_ | refine blk_alloc ?_ _)); exact BK241.out) hb)
                    have n1_ := Aside0.mk (blk_below (g := gb242) (o := .cells #[.int .u8 a1_0, .slice A1_1 l1_1.length c1_1, .slice (some ad245) l1_2.length c1_2] 33 (0, 0)) (by (with_reducible repeat (first | refine blk_drewN ?_ _ | refine blk_drew ?_ | refine blk_alloc ?_ _)); exact BK242.out) hb)
                    have n2_ := Aside0.mk (below_step (by repeat (first | (with_reducible first | exact HB.out | apply below_alloc | apply pw_below_drewN | apply below_drew1 | refine below_set ?_ GE241.out | refine below_set ?_ GE242.out) | exact HB.out)) hb)
                    clear BK241
                    clear BK242
                    clear HB
                    have BK241 := n0_
                    have BK242 := n1_
                    have HB := n2_
                    clear n0_ n1_ n2_
                    (try clear hb)
                    (try clear hb2)
                    (try clear hk)
                    (try clear hi)
                    refine hK.out _ _ ⟨(blk_cell BK241.out 0).trans rfl, (blk_cell BK241.out 1).trans rfl, (blk_cell BK241.out 2).trans rfl, (blk_cell BK242.out 0).trans rfl, (blk_cell BK242.out 1).trans rfl, (blk_cell BK242.out 2).trans rfl, ((HB.out.cell (World.block_lt_of_cell? w _ hw244_0)).trans hw244_0), ((HB.out.cell (World.block_lt_of_cell? w _ hw244_1)).trans hw244_1), ((HB.out.cell (World.block_lt_of_cell? w _ hw244_2)).trans hw244_2), ((HB.out.cell (World.block_lt_of_cell? w _ hw245_0)).trans hw245_0), ((HB.out.cell (World.block_lt_of_cell? w _ hw245_1)).trans hw245_1), ((HB.out.cell (World.block_lt_of_cell? w _ hw245_2)).trans hw245_2)⟩ (fun hHeld => ?_)
                    clear hK K
                    refine norm_ (a' := ?_) ?_ ?_
                    rotate_left
                    · show Act.put _ (some 45) _ = _
                      simp only [Act.put, List.setIfInBounds_toArray, List.set_cons_zero, List.set_cons_succ, i64_w, i32_w]
                      rfl
                    refine pure_ (i := 11) (N := some 46) (v := ?_) (a' := ?_) #[true, true, true, true, true, true, true, true, true, true, true, true] rfl rfl (any_of HT_.out (by kernel_rfl)) (fun _ _ _ h => h) (Or.inl ⟨by rfl, ?_⟩) ?_ ?_
                    rotate_left
                    · intro w'
                      go_simp
                      with_reducible rfl
                    rotate_left
                    · simp only [Act.put, List.setIfInBounds_toArray, List.set_cons_zero, List.set_cons_succ, i64_w, i32_w]
                      rfl
                    refine done_ (done_of HT_.out (by kernel_rfl)) ?_
                    try go_wp2
                    go_ret
                    exact ⟨by first | rfl | (simp [errW_none, errW_some] <;> rfl) | (simp [*, errW_none, errW_some] <;> rfl), by repeat (first | (with_reducible first | exact HB.out | apply below_alloc | apply pw_below_drewN | apply below_drew1 | refine below_set ?_ GE241.out | refine below_set ?_ GE242.out) | exact HB.out)⟩
                · rw [if_neg c21] at H
                  exact absurd H (by simp)
              · rw [if_neg c20] at H
                exact absurd H (by simp)
            · rw [if_neg c19] at H
              have c19b0 : decide (x5_2 < (l0_2.length : Int)) = false := decide_eq_false c19
              clear c19
              obtain rfl := Option.some.inj H
              have hnb32 := NB241_242.out
              have hnc32 := NB242_241.out
              have hcz33_0 : wr.cell? ⟨gb241, 0, none⟩ = some (.int .u8 a0_0) := (blk_cell BK241.out 0).trans rfl
              have hcz33_1 : wr.cell? ⟨gb241, 1, none⟩ = some (.slice A0_1 l0_1.length c0_1) := (blk_cell BK241.out 1).trans rfl
              have hcz33_2 : wr.cell? ⟨gb241, 2, none⟩ = some (.slice A0_2 l0_2.length c0_2) := (blk_cell BK241.out 2).trans rfl
              have hfz33_0 := blk_frozen BK241.out 0
              have hfz33_1 := blk_frozen BK241.out 1
              have hfz33_2 := blk_frozen BK241.out 2
              go_wp2
              go_ret
              exact ⟨by first | rfl | (simp [errW_none, errW_some] <;> rfl) | (simp [*, errW_none, errW_some] <;> rfl), by repeat (first | (with_reducible first | exact HB.out | apply below_alloc | apply pw_below_drewN | apply below_drew1 | refine below_set ?_ GE241.out | refine below_set ?_ GE242.out) | exact HB.out)⟩
end Go.Proofs.YtijmigapdcikpaaDoor.PDer
