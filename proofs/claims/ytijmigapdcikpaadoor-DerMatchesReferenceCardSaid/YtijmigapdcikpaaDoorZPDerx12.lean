import Derived.Test.YtijmigapdcikpaaDoorZPDerx0
import Derived.Test.YtijmigapdcikpaaDoorZPDerx11
namespace Go.Proofs.YtijmigapdcikpaaDoor.PDer
open Go.RowKit Go.Proofs.YtijmigapdcikpaaDoorW.PrintWords Go.Proofs.YtijmigapdcikpaaDoorW.PrintLast Go.Proofs.YtijmigapdcikpaaDoorW.PrintMore
attribute [local go_sem] max2_int min2_int max_two min_two max_three min_three max_four min_four
set_option linter.unusedVariables false
set_option linter.unusedSimpArgs false
mutual
def pyxref08_read.j0 : Nat → List Int → Int → Int → Int → Int → Int → Bool → Option (Int × List Int × (List (S33)) × Int × Int × Int)
  | 0, _, _, _, _, _, _, _ => none
  | k + 1, x0, x1, x2, x3, x9, x10, x53 => if x53 = true then (some (0, ([] : List Int), ([] : List (S33)), 0, 6, wrap64 (x1 + 1))) else (if x9 > 128 then (if (wrap64 (x10 + (wrap64 (x9 - 128)))) > x2 then (some (0, ([] : List Int), ([] : List (S33)), 0, 3, x2)) else (pyxref08_read.l0 k x0 x1 x2 x3 0 x10 (wrap64 (x9 - 128)) 0)) else (pyxref08_read.j2 k x0 x1 x2 x3 x9 x10))
def pyxref08_read.j2 : Nat → List Int → Int → Int → Int → Int → Int → Option (Int × List Int × (List (S33)) × Int × Int × Int)
  | 0, _, _, _, _, _, _ => none
  | k + 1, x0, x1, x2, x3, x9, x10 => if (wrap64 (x10 + x9)) > x2 then (some (0, ([] : List Int), ([] : List (S33)), 0, 3, x2)) else (if 0 ≤ x1 then (if x1 < (x0.length : Int) then (if (((Int.tdiv (rd x0 x1) 32) % 256) % 2) = 0 then ((some (([] : List Int) : List Int)).bind fun y208 => (if 0 ≤ x10 then (if x10 ≤ (wrap64 (x10 + x9)) then (if (wrap64 (x10 + x9)) ≤ (x0.length : Int) then (if y208.length + ((x0.take ((wrap64 (x10 + x9)) : Int).toNat).drop (x10 : Int).toNat).length < 140737488355328 then (some (rd x0 x1, (y208 ++ ((x0.take ((wrap64 (x10 + x9)) : Int).toNat).drop (x10 : Int).toNat)), ([] : List (S33)), wrap64 (x10 + x9), 0, 0)) else (none)) else (none)) else (none)) else (none))) else (pyxref08_read.l1 k x0 x3 x10 (wrap64 (x10 + x9)) (rd x0 x1) ([] : List (S33)))) else (none)) else (none))
def pyxref08_read.l1 : Nat → List Int → Int → Int → Int → Int → List (S33) → Option (Int × List Int × (List (S33)) × Int × Int × Int)
  | 0, _, _, _, _, _, _ => none
  | k + 1, x0, x3, x10, x14, x207000, x207002 => if x10 < x14 then ((pyxref08_read.f k x0 x10 x14 (wrap64 (x3 + 1))).bind fun bt215 => (if bt215.2.2.2.2.1 = 0 then (if x207002.length < 2513169434916 then (pyxref08_read.l1 k x0 x3 bt215.2.2.2.1 x14 x207000 (x207002 ++ [(⟨bt215.1, bt215.2.1, bt215.2.2.1⟩ : S33)])) else (none)) else (some (bt215.1, bt215.2.1, bt215.2.2.1, bt215.2.2.2.1, bt215.2.2.2.2.1, bt215.2.2.2.2.2)))) else (some (x207000, ([] : List Int), x207002, x10, 0, 0))
def pyxref08_read.l0 : Nat → List Int → Int → Int → Int → Int → Int → Int → Int → Option (Int × List Int × (List (S33)) × Int × Int × Int)
  | 0, _, _, _, _, _, _, _, _ => none
  | k + 1, x0, x1, x2, x3, x9, x10, x11, x12 => if x12 < x11 then (if 0 ≤ (wrap64 (x10 + x12)) then (if (wrap64 (x10 + x12)) < (x0.length : Int) then (pyxref08_read.l0 k x0 x1 x2 x3 (wrap64 ((wrap64 (x9 * 256)) + (wrap64 (rd x0 (wrap64 (x10 + x12)))))) x10 x11 (wrap64 (x12 + 1))) else (none)) else (none)) else (if x9 < 128 then (some (0, ([] : List Int), ([] : List (S33)), 0, 6, wrap64 (x1 + 1))) else ((pyxref08_Number.f k x9).bind fun t202 => (if (t202.length : Int) = x11 then (pyxref08_read.j2 k x0 x1 x2 x3 x9 (wrap64 (x10 + x11))) else (some (0, ([] : List Int), ([] : List (S33)), 0, 6, wrap64 (x1 + 1))))))
def pyxref08_read.f : Nat → List Int → Int → Int → Int → Option (Int × List Int × (List (S33)) × Int × Int × Int)
  | 0, _, _, _, _ => none
  | k + 1, l0, a1, a2, a3 => if a1 ≥ a2 then (some (0, ([] : List Int), ([] : List (S33)), 0, 3, a2)) else (if 0 ≤ a1 then (if a1 < (l0.length : Int) then ((pyxref08_Tag.f (wrap64 (rd l0 a1))).bind fun t199 => (if t199 = true then (if a3 ≥ 8 then (some (0, ([] : List Int), ([] : List (S33)), 0, 2, a1)) else (if (wrap64 (a1 + 1)) ≥ a2 then (some (0, ([] : List Int), ([] : List (S33)), 0, 3, a2)) else (if 0 ≤ (wrap64 (a1 + 1)) then (if (wrap64 (a1 + 1)) < (l0.length : Int) then (if (wrap64 (rd l0 (wrap64 (a1 + 1)))) = 128 then (pyxref08_read.j0 k l0 a1 a2 a3 (wrap64 (rd l0 (wrap64 (a1 + 1)))) (wrap64 (a1 + 2)) true) else (pyxref08_read.j0 k l0 a1 a2 a3 (wrap64 (rd l0 (wrap64 (a1 + 1)))) (wrap64 (a1 + 2)) (decide ((wrap64 (rd l0 (wrap64 (a1 + 1)))) > 131)))) else (none)) else (none)))) else (some (0, ([] : List Int), ([] : List (S33)), 0, 5, a1)))) else (none)) else (none))
end
set_option maxHeartbeats 8000000 in
set_option maxRecDepth 100000 in
theorem pyxref08_read.calls (k : Nat) : ∀ (A0 : Option Addr) (c0 : Nat) (l0 : List Int) (a1 : Int) (a2 : Int) (a3 : Int) (r1 : Int) (r2 : List Int) (r3 : List (S33)) (r4 : Int) (r5 : Int) (r6 : Int) (w : World) (hr0 : Kd.C (Kd.int .u8) w A0 l0.length l0) (hc0 : l0.length ≤ c0) (h : pyxref08_read.f k l0 a1 a2 a3 = some (r1, r2, r3, r4, r5, r6)),
    Calls Tryd.prog 47 #[.slice A0 l0.length c0, .int .i64 a1, .int .i64 a2, .int .i64 a3] w fun e w' => ∃ v1_ v2_ : Value, e = .returned (.agg #[.int .u8 r1, v1_, v2_, .int .i64 r4, .int .i64 r5, .int .i64 r6]) ∧ Kd.R (Kd.int .u8) 5 w' w.heap.size (fun _ => True) v1_ r2 ∧ Kd.R k33 33 w' w.heap.size (fun k_ => some k_ ≠ (v1_ : Value).ownBlock) v2_ r3 ∧ Below w.heap.size w w' := by
  induction k using Nat.strongRecOn with
  | _ k ih =>
  intro A0 c0 l0 a1 a2 a3 r1 r2 r3 r4 r5 r6 w hr0 hc0 h
  cases k with
  | zero => exact absurd h (by simp [pyxref08_read.f])
  | succ k =>
  simp only [pyxref08_read.f] at h
  have hu35 := Tryd.underlying35
  have hu33 := Tryd.underlying33
  have HR0 := Aside0.mk hr0
  have HC0 := Aside0.mk hc0
  clear hr0 hc0
  have HB := Aside0.mk (Below.refl w.heap.size w)
  have H : (if a1 ≥ a2 then (some (0, ([] : List Int), ([] : List (S33)), 0, 3, a2)) else (if 0 ≤ a1 then (if a1 < (l0.length : Int) then ((pyxref08_Tag.f (wrap64 (rd l0 a1))).bind fun t199 => (if t199 = true then (if a3 ≥ 8 then (some (0, ([] : List Int), ([] : List (S33)), 0, 2, a1)) else (if (wrap64 (a1 + 1)) ≥ a2 then (some (0, ([] : List Int), ([] : List (S33)), 0, 3, a2)) else (if 0 ≤ (wrap64 (a1 + 1)) then (if (wrap64 (a1 + 1)) < (l0.length : Int) then (if (wrap64 (rd l0 (wrap64 (a1 + 1)))) = 128 then (pyxref08_read.j0 k l0 a1 a2 a3 (wrap64 (rd l0 (wrap64 (a1 + 1)))) (wrap64 (a1 + 2)) true) else (pyxref08_read.j0 k l0 a1 a2 a3 (wrap64 (rd l0 (wrap64 (a1 + 1)))) (wrap64 (a1 + 2)) (decide ((wrap64 (rd l0 (wrap64 (a1 + 1)))) > 131)))) else (none)) else (none)))) else (some (0, ([] : List Int), ([] : List (S33)), 0, 5, a1)))) else (none)) else (none))) = some (r1, r2, r3, r4, r5, r6) := h
  clear h
  by_cases c5 : a1 ≥ a2
  · rw [if_pos c5] at H
    have c5b0 : decide (a2 ≤ a1) = true := decide_eq_true c5
    clear c5
    simp only [Option.some.injEq, Prod.mk.injEq] at H
    obtain ⟨rfl, rfl, rfl, rfl, rfl, rfl⟩ := H
    go_enter Tryd.func47, Tryd.ntmps47
    go_wp2_with (first | ((with_reducible refine gate_dst (N := 8) rfl ?_); (try (refine gate_guard (by rfl) ?_; dsimp only)); refine box_event ?hg (N := 8) ?hd (cs := #[.int .u8 0, .slice none 0 0, .slice none 0 0, .int .i64 0, .int .i64 0, .int .i64 0]) (t := 35) ?hr ?_; (case hd => rfl); (case hg => rfl); (case hr => first | (go_simp; done) | (go_simp; rfl)); intro gb197 hg w6 hbox hb; have n0_ := Aside0.mk (below_step (by repeat (first | (with_reducible first | exact HB.out | apply below_alloc | apply pw_below_drewN | apply below_drew1) | exact HB.out)) hb); have n1_ := Aside0.mk (hbox); have n2_ := Aside0.mk ((by rw [hg]; exact (below_size (by repeat (first | (with_reducible first | exact HB.out | apply below_alloc | apply pw_below_drewN | apply below_drew1) | exact HB.out))) : w.heap.size ≤ gb197)); have n3_ := Aside0.mk ((by rw [hg]; exact (below_size (by repeat (first | (with_reducible first | exact HB.out | apply below_alloc | apply pw_below_drewN | apply below_drew1) | exact HB.out))) : w.heap.size ≤ gb197)); clear HB; have HB := n0_; have BK197 := n1_; have GW197 := n2_; have GE197 := n3_; clear n0_ n1_ n2_ n3_; clear hb hbox hg; have hcz7_0 : w6.cell? ⟨gb197, 0, none⟩ = some (.int .u8 0) := (blk_cell BK197.out 0).trans rfl; have hcz7_1 : w6.cell? ⟨gb197, 1, none⟩ = some (.slice none 0 0) := (blk_cell BK197.out 1).trans rfl; have hcz7_2 : w6.cell? ⟨gb197, 2, none⟩ = some (.slice none 0 0) := (blk_cell BK197.out 2).trans rfl; have hcz7_3 : w6.cell? ⟨gb197, 3, none⟩ = some (.int .i64 0) := (blk_cell BK197.out 3).trans rfl; have hcz7_4 : w6.cell? ⟨gb197, 4, none⟩ = some (.int .i64 0) := (blk_cell BK197.out 4).trans rfl; have hcz7_5 : w6.cell? ⟨gb197, 5, none⟩ = some (.int .i64 0) := (blk_cell BK197.out 5).trans rfl; have hfz7_0 := blk_frozen BK197.out 0; have hfz7_1 := blk_frozen BK197.out 1; have hfz7_2 := blk_frozen BK197.out 2; have hfz7_3 := blk_frozen BK197.out 3; have hfz7_4 := blk_frozen BK197.out 4; have hfz7_5 := blk_frozen BK197.out 5))
    refine bodyPost_ret (results_cell_row rfl _ _ gb197 35 #[.int .u8 0, .slice none 0 0, .slice none 0 0, .int .i64 0, .int .i64 3, .int .i64 a2] (0, 0) _ rfl (by (with_reducible repeat (first | refine blk_drewN ?_ _ | refine blk_drew ?_ | refine blk_alloc ?_ _)); refine blk_put (cs := #[.int .u8 0, .slice none 0 0, .slice none 0 0, .int .i64 0, .int .i64 3, .int .i64 0]) ?_ 5 _ (by first | rfl | (rw [hji18]; rfl)); (with_reducible repeat (first | refine blk_drewN ?_ _ | refine blk_drew ?_ | refine blk_alloc ?_ _)); refine blk_put (cs := #[.int .u8 0, .slice none 0 0, .slice none 0 0, .int .i64 0, .int .i64 0, .int .i64 0]) ?_ 4 _ rfl; (with_reducible repeat (first | refine blk_drewN ?_ _ | refine blk_drew ?_ | refine blk_alloc ?_ _)); refine blk_put (cs := #[.int .u8 0, .slice none 0 0, .slice none 0 0, .int .i64 0, .int .i64 0, .int .i64 0]) ?_ 3 _ rfl; (with_reducible repeat (first | refine blk_drewN ?_ _ | refine blk_drew ?_ | refine blk_alloc ?_ _)); refine blk_put (cs := #[.int .u8 0, .slice none 0 0, .slice none 0 0, .int .i64 0, .int .i64 0, .int .i64 0]) ?_ 2 _ rfl; (with_reducible repeat (first | refine blk_drewN ?_ _ | refine blk_drew ?_ | refine blk_alloc ?_ _)); refine blk_put (cs := #[.int .u8 0, .slice none 0 0, .slice none 0 0, .int .i64 0, .int .i64 0, .int .i64 0]) ?_ 1 _ rfl; (with_reducible repeat (first | refine blk_drewN ?_ _ | refine blk_drew ?_ | refine blk_alloc ?_ _)); refine blk_put (cs := #[.int .u8 0, .slice none 0 0, .slice none 0 0, .int .i64 0, .int .i64 0, .int .i64 0]) ?_ 0 _ rfl; (with_reducible repeat (first | refine blk_drewN ?_ _ | refine blk_drew ?_ | refine blk_alloc ?_ _)); exact BK197.out) Tryd.underlying35 rfl (by kernel_rfl)) rfl ?_
    exact ⟨_, _, by first | rfl | (simp [errW_none, errW_some] <;> rfl) | (simp [*, errW_none, errW_some] <;> rfl), by first | exact Kd.R_nil _ _ _ _ _ | exact Kd.N_nil _ _ _ _ _ | exact Kd.V_nil _ _ _ _ _ | exact Kd.Q_nil _ _ _ _ _ | exact Kd.S_nil _ _ _ _ _, by first | exact Kd.R_nil _ _ _ _ _ | exact Kd.N_nil _ _ _ _ _ | exact Kd.V_nil _ _ _ _ _ | exact Kd.Q_nil _ _ _ _ _ | exact Kd.S_nil _ _ _ _ _, by repeat (first | (with_reducible first | exact HB.out | apply below_alloc | apply pw_below_drewN | apply below_drew1 | refine below_set ?_ GE197.out) | exact HB.out)⟩
  · rw [if_neg c5] at H
    have c5b0 : decide (a2 ≤ a1) = false := decide_eq_false c5
    clear c5
    by_cases c8 : 0 ≤ a1
    · rw [if_pos c8] at H
      have c8b0 : decide (0 ≤ a1) = true := decide_eq_true c8
      clear c8
      by_cases c9 : a1 < (l0.length : Int)
      · rw [if_pos c9] at H
        have c9b0 : decide (a1 < (l0.length : Int)) = true := decide_eq_true c9
        clear c9
        replace H := Option.bind_eq_some_iff.mp H
        obtain ⟨t199, A100, H⟩ := H
        replace H : (if t199 = true then (if a3 ≥ 8 then (some (0, ([] : List Int), ([] : List (S33)), 0, 2, a1)) else (if (wrap64 (a1 + 1)) ≥ a2 then (some (0, ([] : List Int), ([] : List (S33)), 0, 3, a2)) else (if 0 ≤ (wrap64 (a1 + 1)) then (if (wrap64 (a1 + 1)) < (l0.length : Int) then (if (wrap64 (rd l0 (wrap64 (a1 + 1)))) = 128 then (pyxref08_read.j0 k l0 a1 a2 a3 (wrap64 (rd l0 (wrap64 (a1 + 1)))) (wrap64 (a1 + 2)) true) else (pyxref08_read.j0 k l0 a1 a2 a3 (wrap64 (rd l0 (wrap64 (a1 + 1)))) (wrap64 (a1 + 2)) (decide ((wrap64 (rd l0 (wrap64 (a1 + 1)))) > 131)))) else (none)) else (none)))) else (some (0, ([] : List Int), ([] : List (S33)), 0, 5, a1))) = some (r1, r2, r3, r4, r5, r6) := H
        have A10 := Aside0.mk A100
        clear A100
        by_cases c11 : t199 = true
        · subst c11
          have H1 : (if a3 ≥ 8 then (some (0, ([] : List Int), ([] : List (S33)), 0, 2, a1)) else (if (wrap64 (a1 + 1)) ≥ a2 then (some (0, ([] : List Int), ([] : List (S33)), 0, 3, a2)) else (if 0 ≤ (wrap64 (a1 + 1)) then (if (wrap64 (a1 + 1)) < (l0.length : Int) then (if (wrap64 (rd l0 (wrap64 (a1 + 1)))) = 128 then (pyxref08_read.j0 k l0 a1 a2 a3 (wrap64 (rd l0 (wrap64 (a1 + 1)))) (wrap64 (a1 + 2)) true) else (pyxref08_read.j0 k l0 a1 a2 a3 (wrap64 (rd l0 (wrap64 (a1 + 1)))) (wrap64 (a1 + 2)) (decide ((wrap64 (rd l0 (wrap64 (a1 + 1)))) > 131)))) else (none)) else (none)))) = some (r1, r2, r3, r4, r5, r6) := by rw [if_pos rfl] at H; exact H
          clear H
          have H := H1
          clear H1
          by_cases c12 : a3 ≥ 8
          · rw [if_pos c12] at H
            have c12b0 : decide (8 ≤ a3) = true := decide_eq_true c12
            clear c12
            simp only [Option.some.injEq, Prod.mk.injEq] at H
            obtain ⟨rfl, rfl, rfl, rfl, rfl, rfl⟩ := H
            go_enter Tryd.func47, Tryd.ntmps47
            go_wp2_with (first | ((with_reducible refine gate_dst (N := 8) rfl ?_); (try (refine gate_guard (by rfl) ?_; dsimp only)); refine box_event ?hg (N := 8) ?hd (cs := #[.int .u8 0, .slice none 0 0, .slice none 0 0, .int .i64 0, .int .i64 0, .int .i64 0]) (t := 35) ?hr ?_; (case hd => rfl); (case hg => rfl); (case hr => first | (go_simp; done) | (go_simp; rfl)); intro gb197 hg w13 hbox hb; have n0_ := Aside0.mk (below_step (by repeat (first | (with_reducible first | exact HB.out | apply below_alloc | apply pw_below_drewN | apply below_drew1) | exact HB.out)) hb); have n1_ := Aside0.mk (hbox); have n2_ := Aside0.mk ((by rw [hg]; exact (below_size (by repeat (first | (with_reducible first | exact HB.out | apply below_alloc | apply pw_below_drewN | apply below_drew1) | exact HB.out))) : w.heap.size ≤ gb197)); have n3_ := Aside0.mk ((by rw [hg]; exact (below_size (by repeat (first | (with_reducible first | exact HB.out | apply below_alloc | apply pw_below_drewN | apply below_drew1) | exact HB.out))) : w.heap.size ≤ gb197)); clear HB; have HB := n0_; have BK197 := n1_; have GW197 := n2_; have GE197 := n3_; clear n0_ n1_ n2_ n3_; clear hb hbox hg; have p198 : 0 ≤ (a1 : Int) := of_decide_eq_true (by first | (with_reducible assumption) | assumption); have q198 : a1 < (l0.length : Int) := of_decide_eq_true (by first | (with_reducible assumption) | assumption); obtain ⟨ad198, e198, hx198_0⟩ := Kd.at_int HR0.out a1 p198 q198; cases e198; replace hx198_0 := (HB.out.cell (World.block_lt_of_cell? w _ hx198_0)).trans hx198_0; replace p198 := eq_true p198; replace q198 := eq_true q198) | ((with_reducible refine gate_callee (f := 77) rfl ?_); refine goesL_ (some 26) rfl rfl Tryd.func77 (by kernel_rfl) rfl #[.int .i64 (wrap64 (rd l0 a1))] rfl (by (try simp only [List.map_toArray, List.map_cons, List.map_nil]); first | done | rfl | (simp only [List.length_drop, List.length_take]; rfl)) ?_; (with_reducible refine (pyxref08_Tag.calls (wrap64 (rd l0 a1)) true _ A10.out).mono ?_); rintro e w' ⟨rfl, ⟨nd, rfl⟩⟩; refine ⟨_, rfl, ?_⟩; (try (rw [drewN_self w13]; generalize hq_ : World.drewN w13 _ = w13; have n0_ : Aside0 (w13.heap[gb197]? = some (.cells #[.int .u8 0, .slice none 0 0, .slice none 0 0, .int .i64 0, .int .i64 0, .int .i64 0] 35 (0, 0))) := ⟨by rw [← hq_]; exact (by (with_reducible repeat (first | refine blk_drewN ?_ _ | refine blk_drew ?_ | refine blk_alloc ?_ _)); exact BK197.out)⟩; have n1_ : Aside0 (Below w.heap.size w w13) := ⟨by rw [← hq_]; exact (by repeat (first | (with_reducible first | exact HB.out | apply below_alloc | apply pw_below_drewN | apply below_drew1 | refine below_set ?_ GE197.out) | exact HB.out))⟩; clear BK197 HB hq_; have BK197 := n0_; have HB := n1_; clear n0_ n1_)); have hcz14_0 : w13.cell? ⟨gb197, 0, none⟩ = some (.int .u8 0) := (blk_cell BK197.out 0).trans rfl; have hcz14_1 : w13.cell? ⟨gb197, 1, none⟩ = some (.slice none 0 0) := (blk_cell BK197.out 1).trans rfl; have hcz14_2 : w13.cell? ⟨gb197, 2, none⟩ = some (.slice none 0 0) := (blk_cell BK197.out 2).trans rfl; have hcz14_3 : w13.cell? ⟨gb197, 3, none⟩ = some (.int .i64 0) := (blk_cell BK197.out 3).trans rfl; have hcz14_4 : w13.cell? ⟨gb197, 4, none⟩ = some (.int .i64 0) := (blk_cell BK197.out 4).trans rfl; have hcz14_5 : w13.cell? ⟨gb197, 5, none⟩ = some (.int .i64 0) := (blk_cell BK197.out 5).trans rfl; have hfz14_0 := blk_frozen BK197.out 0; have hfz14_1 := blk_frozen BK197.out 1; have hfz14_2 := blk_frozen BK197.out 2; have hfz14_3 := blk_frozen BK197.out 3; have hfz14_4 := blk_frozen BK197.out 4; have hfz14_5 := blk_frozen BK197.out 5))
            refine bodyPost_ret (results_cell_row rfl _ _ gb197 35 #[.int .u8 0, .slice none 0 0, .slice none 0 0, .int .i64 0, .int .i64 2, .int .i64 a1] (0, 0) _ rfl (by (with_reducible repeat (first | refine blk_drewN ?_ _ | refine blk_drew ?_ | refine blk_alloc ?_ _)); refine blk_put (cs := #[.int .u8 0, .slice none 0 0, .slice none 0 0, .int .i64 0, .int .i64 2, .int .i64 0]) ?_ 5 _ (by first | rfl | (rw [hji18]; rfl)); (with_reducible repeat (first | refine blk_drewN ?_ _ | refine blk_drew ?_ | refine blk_alloc ?_ _)); refine blk_put (cs := #[.int .u8 0, .slice none 0 0, .slice none 0 0, .int .i64 0, .int .i64 0, .int .i64 0]) ?_ 4 _ rfl; (with_reducible repeat (first | refine blk_drewN ?_ _ | refine blk_drew ?_ | refine blk_alloc ?_ _)); refine blk_put (cs := #[.int .u8 0, .slice none 0 0, .slice none 0 0, .int .i64 0, .int .i64 0, .int .i64 0]) ?_ 3 _ rfl; (with_reducible repeat (first | refine blk_drewN ?_ _ | refine blk_drew ?_ | refine blk_alloc ?_ _)); refine blk_put (cs := #[.int .u8 0, .slice none 0 0, .slice none 0 0, .int .i64 0, .int .i64 0, .int .i64 0]) ?_ 2 _ rfl; (with_reducible repeat (first | refine blk_drewN ?_ _ | refine blk_drew ?_ | refine blk_alloc ?_ _)); refine blk_put (cs := #[.int .u8 0, .slice none 0 0, .slice none 0 0, .int .i64 0, .int .i64 0, .int .i64 0]) ?_ 1 _ rfl; (with_reducible repeat (first | refine blk_drewN ?_ _ | refine blk_drew ?_ | refine blk_alloc ?_ _)); refine blk_put (cs := #[.int .u8 0, .slice none 0 0, .slice none 0 0, .int .i64 0, .int .i64 0, .int .i64 0]) ?_ 0 _ rfl; (with_reducible repeat (first | refine blk_drewN ?_ _ | refine blk_drew ?_ | refine blk_alloc ?_ _)); exact BK197.out) Tryd.underlying35 rfl (by kernel_rfl)) rfl ?_
            exact ⟨_, _, by first | rfl | (simp [errW_none, errW_some] <;> rfl) | (simp [*, errW_none, errW_some] <;> rfl), by first | exact Kd.R_nil _ _ _ _ _ | exact Kd.N_nil _ _ _ _ _ | exact Kd.V_nil _ _ _ _ _ | exact Kd.Q_nil _ _ _ _ _ | exact Kd.S_nil _ _ _ _ _, by first | exact Kd.R_nil _ _ _ _ _ | exact Kd.N_nil _ _ _ _ _ | exact Kd.V_nil _ _ _ _ _ | exact Kd.Q_nil _ _ _ _ _ | exact Kd.S_nil _ _ _ _ _, by repeat (first | (with_reducible first | exact HB.out | apply below_alloc | apply pw_below_drewN | apply below_drew1 | refine below_set ?_ GE197.out) | exact HB.out)⟩
          · rw [if_neg c12] at H
            have c12b0 : decide (8 ≤ a3) = false := decide_eq_false c12
            clear c12
            by_cases c15 : (wrap64 (a1 + 1)) ≥ a2
            · rw [if_pos c15] at H
              have c15b0 : decide (a2 ≤ (wrap64 (a1 + 1))) = true := decide_eq_true c15
              clear c15
              simp only [Option.some.injEq, Prod.mk.injEq] at H
              obtain ⟨rfl, rfl, rfl, rfl, rfl, rfl⟩ := H
              go_enter Tryd.func47, Tryd.ntmps47
              go_wp2_with (first | ((with_reducible refine gate_dst (N := 8) rfl ?_); (try (refine gate_guard (by rfl) ?_; dsimp only)); refine box_event ?hg (N := 8) ?hd (cs := #[.int .u8 0, .slice none 0 0, .slice none 0 0, .int .i64 0, .int .i64 0, .int .i64 0]) (t := 35) ?hr ?_; (case hd => rfl); (case hg => rfl); (case hr => first | (go_simp; done) | (go_simp; rfl)); intro gb197 hg w16 hbox hb; have n0_ := Aside0.mk (below_step (by repeat (first | (with_reducible first | exact HB.out | apply below_alloc | apply pw_below_drewN | apply below_drew1) | exact HB.out)) hb); have n1_ := Aside0.mk (hbox); have n2_ := Aside0.mk ((by rw [hg]; exact (below_size (by repeat (first | (with_reducible first | exact HB.out | apply below_alloc | apply pw_below_drewN | apply below_drew1) | exact HB.out))) : w.heap.size ≤ gb197)); have n3_ := Aside0.mk ((by rw [hg]; exact (below_size (by repeat (first | (with_reducible first | exact HB.out | apply below_alloc | apply pw_below_drewN | apply below_drew1) | exact HB.out))) : w.heap.size ≤ gb197)); clear HB; have HB := n0_; have BK197 := n1_; have GW197 := n2_; have GE197 := n3_; clear n0_ n1_ n2_ n3_; clear hb hbox hg; have p198 : 0 ≤ (a1 : Int) := of_decide_eq_true (by first | (with_reducible assumption) | assumption); have q198 : a1 < (l0.length : Int) := of_decide_eq_true (by first | (with_reducible assumption) | assumption); obtain ⟨ad198, e198, hx198_0⟩ := Kd.at_int HR0.out a1 p198 q198; cases e198; replace hx198_0 := (HB.out.cell (World.block_lt_of_cell? w _ hx198_0)).trans hx198_0; replace p198 := eq_true p198; replace q198 := eq_true q198) | ((with_reducible refine gate_callee (f := 77) rfl ?_); refine goesL_ (some 26) rfl rfl Tryd.func77 (by kernel_rfl) rfl #[.int .i64 (wrap64 (rd l0 a1))] rfl (by (try simp only [List.map_toArray, List.map_cons, List.map_nil]); first | done | rfl | (simp only [List.length_drop, List.length_take]; rfl)) ?_; (with_reducible refine (pyxref08_Tag.calls (wrap64 (rd l0 a1)) true _ A10.out).mono ?_); rintro e w' ⟨rfl, ⟨nd, rfl⟩⟩; refine ⟨_, rfl, ?_⟩; (try (rw [drewN_self w16]; generalize hq_ : World.drewN w16 _ = w16; have n0_ : Aside0 (w16.heap[gb197]? = some (.cells #[.int .u8 0, .slice none 0 0, .slice none 0 0, .int .i64 0, .int .i64 0, .int .i64 0] 35 (0, 0))) := ⟨by rw [← hq_]; exact (by (with_reducible repeat (first | refine blk_drewN ?_ _ | refine blk_drew ?_ | refine blk_alloc ?_ _)); exact BK197.out)⟩; have n1_ : Aside0 (Below w.heap.size w w16) := ⟨by rw [← hq_]; exact (by repeat (first | (with_reducible first | exact HB.out | apply below_alloc | apply pw_below_drewN | apply below_drew1 | refine below_set ?_ GE197.out) | exact HB.out))⟩; clear BK197 HB hq_; have BK197 := n0_; have HB := n1_; clear n0_ n1_)); have hcz17_0 : w16.cell? ⟨gb197, 0, none⟩ = some (.int .u8 0) := (blk_cell BK197.out 0).trans rfl; have hcz17_1 : w16.cell? ⟨gb197, 1, none⟩ = some (.slice none 0 0) := (blk_cell BK197.out 1).trans rfl; have hcz17_2 : w16.cell? ⟨gb197, 2, none⟩ = some (.slice none 0 0) := (blk_cell BK197.out 2).trans rfl; have hcz17_3 : w16.cell? ⟨gb197, 3, none⟩ = some (.int .i64 0) := (blk_cell BK197.out 3).trans rfl; have hcz17_4 : w16.cell? ⟨gb197, 4, none⟩ = some (.int .i64 0) := (blk_cell BK197.out 4).trans rfl; have hcz17_5 : w16.cell? ⟨gb197, 5, none⟩ = some (.int .i64 0) := (blk_cell BK197.out 5).trans rfl; have hfz17_0 := blk_frozen BK197.out 0; have hfz17_1 := blk_frozen BK197.out 1; have hfz17_2 := blk_frozen BK197.out 2; have hfz17_3 := blk_frozen BK197.out 3; have hfz17_4 := blk_frozen BK197.out 4; have hfz17_5 := blk_frozen BK197.out 5))
              refine bodyPost_ret (results_cell_row rfl _ _ gb197 35 #[.int .u8 0, .slice none 0 0, .slice none 0 0, .int .i64 0, .int .i64 3, .int .i64 a2] (0, 0) _ rfl (by (with_reducible repeat (first | refine blk_drewN ?_ _ | refine blk_drew ?_ | refine blk_alloc ?_ _)); refine blk_put (cs := #[.int .u8 0, .slice none 0 0, .slice none 0 0, .int .i64 0, .int .i64 3, .int .i64 0]) ?_ 5 _ (by first | rfl | (rw [hji18]; rfl)); (with_reducible repeat (first | refine blk_drewN ?_ _ | refine blk_drew ?_ | refine blk_alloc ?_ _)); refine blk_put (cs := #[.int .u8 0, .slice none 0 0, .slice none 0 0, .int .i64 0, .int .i64 0, .int .i64 0]) ?_ 4 _ rfl; (with_reducible repeat (first | refine blk_drewN ?_ _ | refine blk_drew ?_ | refine blk_alloc ?_ _)); refine blk_put (cs := #[.int .u8 0, .slice none 0 0, .slice none 0 0, .int .i64 0, .int .i64 0, .int .i64 0]) ?_ 3 _ rfl; (with_reducible repeat (first | refine blk_drewN ?_ _ | refine blk_drew ?_ | refine blk_alloc ?_ _)); refine blk_put (cs := #[.int .u8 0, .slice none 0 0, .slice none 0 0, .int .i64 0, .int .i64 0, .int .i64 0]) ?_ 2 _ rfl; (with_reducible repeat (first | refine blk_drewN ?_ _ | refine blk_drew ?_ | refine blk_alloc ?_ _)); refine blk_put (cs := #[.int .u8 0, .slice none 0 0, .slice none 0 0, .int .i64 0, .int .i64 0, .int .i64 0]) ?_ 1 _ rfl; (with_reducible repeat (first | refine blk_drewN ?_ _ | refine blk_drew ?_ | refine blk_alloc ?_ _)); refine blk_put (cs := #[.int .u8 0, .slice none 0 0, .slice none 0 0, .int .i64 0, .int .i64 0, .int .i64 0]) ?_ 0 _ rfl; (with_reducible repeat (first | refine blk_drewN ?_ _ | refine blk_drew ?_ | refine blk_alloc ?_ _)); exact BK197.out) Tryd.underlying35 rfl (by kernel_rfl)) rfl ?_
              exact ⟨_, _, by first | rfl | (simp [errW_none, errW_some] <;> rfl) | (simp [*, errW_none, errW_some] <;> rfl), by first | exact Kd.R_nil _ _ _ _ _ | exact Kd.N_nil _ _ _ _ _ | exact Kd.V_nil _ _ _ _ _ | exact Kd.Q_nil _ _ _ _ _ | exact Kd.S_nil _ _ _ _ _, by first | exact Kd.R_nil _ _ _ _ _ | exact Kd.N_nil _ _ _ _ _ | exact Kd.V_nil _ _ _ _ _ | exact Kd.Q_nil _ _ _ _ _ | exact Kd.S_nil _ _ _ _ _, by repeat (first | (with_reducible first | exact HB.out | apply below_alloc | apply pw_below_drewN | apply below_drew1 | refine below_set ?_ GE197.out) | exact HB.out)⟩
            · rw [if_neg c15] at H
              have c15b0 : decide (a2 ≤ (wrap64 (a1 + 1))) = false := decide_eq_false c15
              clear c15
              obtain ⟨ji18, hji18⟩ : ∃ j_ : Int, (wrap64 (a1 + 1)) = j_ := ⟨_, rfl⟩
              replace H : (if 0 ≤ (ji18) then (if (ji18) < (l0.length : Int) then (if (wrap64 (rd l0 (ji18))) = 128 then (pyxref08_read.j0 k l0 a1 a2 a3 (wrap64 (rd l0 (ji18))) (wrap64 (a1 + 2)) true) else (pyxref08_read.j0 k l0 a1 a2 a3 (wrap64 (rd l0 (ji18))) (wrap64 (a1 + 2)) (decide ((wrap64 (rd l0 (ji18))) > 131)))) else (none)) else (none)) = some (r1, r2, r3, r4, r5, r6) := by first | (rw [hji18] at H; exact H) | (simp only [hji18] at H ⊢; exact H)
              (try rw [hji18] at c15b0)
              (try rw [hji18] at A10)
              have hji18w : (IntKind.i64.wrap (a1 + 1)) = ji18 := (i64_w _).trans hji18
              by_cases c19 : 0 ≤ (ji18)
              · rw [if_pos c19] at H
                have c19b0 : decide (0 ≤ (ji18)) = true := decide_eq_true c19
                clear c19
                by_cases c20 : (ji18) < (l0.length : Int)
                · rw [if_pos c20] at H
                  have c20b0 : decide ((ji18) < (l0.length : Int)) = true := decide_eq_true c20
                  clear c20
                  have HC21 := Aside0.mk H
                  clear H
                  go_enter Tryd.func47, Tryd.ntmps47
                  go_upto_region 11 with (first | ((with_reducible refine gate_dst (N := 8) rfl ?_); (try (refine gate_guard (by rfl) ?_; dsimp only)); refine box_event ?hg (N := 8) ?hd (cs := #[.int .u8 0, .slice none 0 0, .slice none 0 0, .int .i64 0, .int .i64 0, .int .i64 0]) (t := 35) ?hr ?_; (case hd => rfl); (case hg => rfl); (case hr => first | (go_simp; done) | (go_simp; rfl)); intro gb197 hg w22 hbox hb; have n0_ := Aside0.mk (below_step (by repeat (first | (with_reducible first | exact HB.out | apply below_alloc | apply pw_below_drewN | apply below_drew1) | exact HB.out)) hb); have n1_ := Aside0.mk (hbox); have n2_ := Aside0.mk ((by rw [hg]; exact (below_size (by repeat (first | (with_reducible first | exact HB.out | apply below_alloc | apply pw_below_drewN | apply below_drew1) | exact HB.out))) : w.heap.size ≤ gb197)); have n3_ := Aside0.mk ((by rw [hg]; exact (below_size (by repeat (first | (with_reducible first | exact HB.out | apply below_alloc | apply pw_below_drewN | apply below_drew1) | exact HB.out))) : w.heap.size ≤ gb197)); clear HB; have HB := n0_; have BK197 := n1_; have GW197 := n2_; have GE197 := n3_; clear n0_ n1_ n2_ n3_; clear hb hbox hg; have p198 : 0 ≤ (a1 : Int) := of_decide_eq_true (by first | (with_reducible assumption) | assumption); have q198 : a1 < (l0.length : Int) := of_decide_eq_true (by first | (with_reducible assumption) | assumption); obtain ⟨ad198, e198, hx198_0⟩ := Kd.at_int HR0.out a1 p198 q198; cases e198; replace hx198_0 := (HB.out.cell (World.block_lt_of_cell? w _ hx198_0)).trans hx198_0; replace p198 := eq_true p198; replace q198 := eq_true q198) | ((with_reducible refine gate_callee (f := 77) rfl ?_); refine goesL_ (some 26) rfl rfl Tryd.func77 (by kernel_rfl) rfl #[.int .i64 (wrap64 (rd l0 a1))] rfl (by (try simp only [List.map_toArray, List.map_cons, List.map_nil]); first | done | rfl | (simp only [List.length_drop, List.length_take]; rfl)) ?_; (with_reducible refine (pyxref08_Tag.calls (wrap64 (rd l0 a1)) true _ A10.out).mono ?_); rintro e w' ⟨rfl, ⟨nd, rfl⟩⟩; refine ⟨_, rfl, ?_⟩; have p200 : 0 ≤ ((ji18) : Int) := of_decide_eq_true (by first | (with_reducible assumption) | assumption); have q200 : (ji18) < (l0.length : Int) := of_decide_eq_true (by first | (with_reducible assumption) | assumption); obtain ⟨ad200, e200, hx200_0⟩ := Kd.at_int HR0.out (ji18) p200 q200; obtain rfl : ad198 = ad200 := (by injection e200); replace hx200_0 := (HB.out.cell (World.block_lt_of_cell? w _ hx200_0)).trans hx200_0; replace p200 := eq_true p200; replace q200 := eq_true q200))
                  (try simp only [Act.put, List.setIfInBounds_toArray, List.set_cons_zero, List.set_cons_succ])
                  go_cut [53] (fun v53 wc => ∃ (kq : Nat) (x53_20 : Bool), v53 = .bool x53_20 ∧ Aside0 (pyxref08_read.j0 kq l0 a1 a2 a3 (wrap64 (rd l0 (ji18))) (wrap64 (a1 + 2)) x53_20 = some (r1, r2, r3, r4, r5, r6)) ∧ Aside0 (kq ≤ k) ∧ Aside0 (wc.heap[gb197]? = some (.cells #[.int .u8 0, (.slice none 0 0), (.slice none 0 0), .int .i64 0, .int .i64 0, .int .i64 0] 35 (0, 0))) ∧ Aside0 (Below w.heap.size w wc))
                  case first =>
                    have H := HC21.out
                    clear HC21
                    by_cases c23 : (wrap64 (rd l0 (ji18))) = 128
                    · rw [if_pos c23] at H
                      have c23b0 : ((wrap64 (rd l0 (ji18))) == 128) = true := beq_iff_eq.mpr c23
                      have c23b1 : ((wrap64 (rd l0 (ji18))) != 128) = false := bne_eq_false_iff_eq.mpr c23
                      clear c23
                      (first | rw [c23b0] | (simp only [i64_w, i32_w]; rw [c23b0]) | skip)
                      have H' := Aside0.mk H
                      clear H
                      go_wp2
                      go_meet
                      case rel => exact ⟨_, (true), (by first | rfl | (simp; done) | (simp [*]; done)), H', ⟨by first | omega | exact Nat.le_refl _⟩, ⟨by (with_reducible repeat (first | refine blk_drewN ?_ _ | refine blk_drew ?_ | refine blk_alloc ?_ _)); exact BK197.out⟩, ⟨by repeat (first | (with_reducible first | exact HB.out | apply below_alloc | apply pw_below_drewN | apply below_drew1 | refine below_set ?_ GE197.out) | exact HB.out)⟩⟩
                    · rw [if_neg c23] at H
                      have c23b0 : ((wrap64 (rd l0 (ji18))) == 128) = false := beq_eq_false_iff_ne.mpr c23
                      have c23b1 : ((wrap64 (rd l0 (ji18))) != 128) = true := bne_iff_ne.mpr c23
                      (first | rw [c23b0] | (simp only [i64_w, i32_w]; rw [c23b0]) | skip)
                      have H' := Aside0.mk H
                      clear H
                      go_wp2
                      go_meet
                      case rel => exact ⟨_, (decide ((wrap64 (rd l0 (ji18))) > 131)), (by first | rfl | (simp; done) | (simp only [← hji18] <;> (first | rfl | simp)) | (simp [*]; done)), H', ⟨by first | omega | exact Nat.le_refl _⟩, ⟨by (with_reducible repeat (first | refine blk_drewN ?_ _ | refine blk_drew ?_ | refine blk_alloc ?_ _)); exact BK197.out⟩, ⟨by repeat (first | (with_reducible first | exact HB.out | apply below_alloc | apply pw_below_drewN | apply below_drew1 | refine below_set ?_ GE197.out) | exact HB.out)⟩⟩
                  case rest =>
                    clear HC21
                    try clear c1
                    try clear p1
                    try clear q1
                    try clear hx1
                    try clear c2
                    try clear p2
                    try clear q2
                    try clear hx2
                    try clear c4
                    try clear c5
                    try clear c5b0
                    try clear p6
                    try clear c7
                    try clear c8
                    try clear c8b0
                    try clear c9
                    try clear c9b0
                    try clear c11
                    try clear c12
                    try clear c12b0
                    try clear c15
                    try clear c15b0
                    try clear c19
                    try clear c19b0
                    try clear p19
                    try clear q19
                    try clear hx19
                    try clear c20
                    try clear c20b0
                    try clear p20
                    try clear q20
                    try clear hx20
                    try clear c23
                    try clear c23b0
                    try clear c23b1
                    try clear hcz14_0
                    try clear hcz14_1
                    try clear hcz14_2
                    try clear hcz14_3
                    try clear hcz14_4
                    try clear hcz14_5
                    try clear hcz17_0
                    try clear hcz17_1
                    try clear hcz17_2
                    try clear hcz17_3
                    try clear hcz17_4
                    try clear hcz17_5
                    try clear hcz7_0
                    try clear hcz7_1
                    try clear hcz7_2
                    try clear hcz7_3
                    try clear hcz7_4
                    try clear hcz7_5
                    try clear hfz14_0
                    try clear hfz14_1
                    try clear hfz14_2
                    try clear hfz14_3
                    try clear hfz14_4
                    try clear hfz14_5
                    try clear hfz17_0
                    try clear hfz17_1
                    try clear hfz17_2
                    try clear hfz17_3
                    try clear hfz17_4
                    try clear hfz17_5
                    try clear hfz7_0
                    try clear hfz7_1
                    try clear hfz7_2
                    try clear hfz7_3
                    try clear hfz7_4
                    try clear hfz7_5
                    try clear hx198_0
                    try clear hx200_0
                    try clear p198
                    try clear p200
                    try clear q198
                    try clear q200
                    obtain ⟨kq, x53_20, rfl, HA, HJ20, BK197, HB⟩ := hcut
                    cases kq with
                    | zero => exact absurd HA.out (by simp [pyxref08_read.j0])
                    | succ kj20 =>
                      have H := HA.out
                      clear HA
                      simp only [pyxref08_read.j0] at H
                      by_cases c24 : x53_20 = true
                      · subst c24
                        have H1 : (some (0, ([] : List Int), ([] : List (S33)), 0, 6, wrap64 (a1 + 1))) = some (r1, r2, r3, r4, r5, r6) := by rw [if_pos rfl] at H; exact H
                        clear H
                        have H := H1
                        clear H1
                        simp only [Option.some.injEq, Prod.mk.injEq] at H
                        obtain ⟨rfl, rfl, rfl, rfl, rfl, rfl⟩ := H
                        have hcz25_0 : wc.cell? ⟨gb197, 0, none⟩ = some (.int .u8 0) := (blk_cell BK197.out 0).trans rfl
                        have hcz25_1 : wc.cell? ⟨gb197, 1, none⟩ = some (.slice none 0 0) := (blk_cell BK197.out 1).trans rfl
                        have hcz25_2 : wc.cell? ⟨gb197, 2, none⟩ = some (.slice none 0 0) := (blk_cell BK197.out 2).trans rfl
                        have hcz25_3 : wc.cell? ⟨gb197, 3, none⟩ = some (.int .i64 0) := (blk_cell BK197.out 3).trans rfl
                        have hcz25_4 : wc.cell? ⟨gb197, 4, none⟩ = some (.int .i64 0) := (blk_cell BK197.out 4).trans rfl
                        have hcz25_5 : wc.cell? ⟨gb197, 5, none⟩ = some (.int .i64 0) := (blk_cell BK197.out 5).trans rfl
                        have hfz25_0 := blk_frozen BK197.out 0
                        have hfz25_1 := blk_frozen BK197.out 1
                        have hfz25_2 := blk_frozen BK197.out 2
                        have hfz25_3 := blk_frozen BK197.out 3
                        have hfz25_4 := blk_frozen BK197.out 4
                        have hfz25_5 := blk_frozen BK197.out 5
                        go_wp2
                        refine bodyPost_ret (results_cell_row rfl _ _ gb197 35 #[.int .u8 0, .slice none 0 0, .slice none 0 0, .int .i64 0, .int .i64 6, .int .i64 (wrap64 (a1 + 1))] (0, 0) _ rfl (by (with_reducible repeat (first | refine blk_drewN ?_ _ | refine blk_drew ?_ | refine blk_alloc ?_ _)); refine blk_put (cs := #[.int .u8 0, .slice none 0 0, .slice none 0 0, .int .i64 0, .int .i64 6, .int .i64 0]) ?_ 5 _ (by first | rfl | (rw [hji18]; rfl)); (with_reducible repeat (first | refine blk_drewN ?_ _ | refine blk_drew ?_ | refine blk_alloc ?_ _)); refine blk_put (cs := #[.int .u8 0, .slice none 0 0, .slice none 0 0, .int .i64 0, .int .i64 0, .int .i64 0]) ?_ 4 _ rfl; (with_reducible repeat (first | refine blk_drewN ?_ _ | refine blk_drew ?_ | refine blk_alloc ?_ _)); refine blk_put (cs := #[.int .u8 0, .slice none 0 0, .slice none 0 0, .int .i64 0, .int .i64 0, .int .i64 0]) ?_ 3 _ rfl; (with_reducible repeat (first | refine blk_drewN ?_ _ | refine blk_drew ?_ | refine blk_alloc ?_ _)); refine blk_put (cs := #[.int .u8 0, .slice none 0 0, .slice none 0 0, .int .i64 0, .int .i64 0, .int .i64 0]) ?_ 2 _ rfl; (with_reducible repeat (first | refine blk_drewN ?_ _ | refine blk_drew ?_ | refine blk_alloc ?_ _)); refine blk_put (cs := #[.int .u8 0, .slice none 0 0, .slice none 0 0, .int .i64 0, .int .i64 0, .int .i64 0]) ?_ 1 _ rfl; (with_reducible repeat (first | refine blk_drewN ?_ _ | refine blk_drew ?_ | refine blk_alloc ?_ _)); refine blk_put (cs := #[.int .u8 0, .slice none 0 0, .slice none 0 0, .int .i64 0, .int .i64 0, .int .i64 0]) ?_ 0 _ rfl; (with_reducible repeat (first | refine blk_drewN ?_ _ | refine blk_drew ?_ | refine blk_alloc ?_ _)); exact BK197.out) Tryd.underlying35 rfl (by kernel_rfl)) rfl ?_
                        exact ⟨_, _, by first | rfl | (simp [errW_none, errW_some] <;> rfl) | (simp only [← hji18]; first | rfl | (simp [errW_none, errW_some] <;> rfl)) | (simp [*, errW_none, errW_some] <;> rfl), by first | exact Kd.R_nil _ _ _ _ _ | exact Kd.N_nil _ _ _ _ _ | exact Kd.V_nil _ _ _ _ _ | exact Kd.Q_nil _ _ _ _ _ | exact Kd.S_nil _ _ _ _ _, by first | exact Kd.R_nil _ _ _ _ _ | exact Kd.N_nil _ _ _ _ _ | exact Kd.V_nil _ _ _ _ _ | exact Kd.Q_nil _ _ _ _ _ | exact Kd.S_nil _ _ _ _ _, by repeat (first | (with_reducible first | exact HB.out | apply below_alloc | apply pw_below_drewN | apply below_drew1 | refine below_set ?_ GE197.out) | exact HB.out)⟩
                      · replace c24 := Bool.eq_false_iff.mpr c24
                        subst c24
                        have H1 : (if (wrap64 (rd l0 (ji18))) > 128 then (if (wrap64 ((wrap64 (a1 + 2)) + (wrap64 ((wrap64 (rd l0 (ji18))) - 128)))) > a2 then (some (0, ([] : List Int), ([] : List (S33)), 0, 3, a2)) else (pyxref08_read.l0 kj20 l0 a1 a2 a3 0 (wrap64 (a1 + 2)) (wrap64 ((wrap64 (rd l0 (ji18))) - 128)) 0)) else (pyxref08_read.j2 kj20 l0 a1 a2 a3 (wrap64 (rd l0 (ji18))) (wrap64 (a1 + 2)))) = some (r1, r2, r3, r4, r5, r6) := by rw [if_neg (show ¬ (false = true) by decide)] at H; exact H
                        clear H
                        have H := H1
                        clear H1
                        have HC26 := Aside0.mk H
                        clear H
                        go_upto_if 58 with (fail)
                        go_cut [9, 10] (fun v9 v10 wc => ∃ (kq : Nat) (x9_25 : Int) (x10_25 : Int) (x198000_25 : Int) (x198003_25 : Int) (x198004_25 : Int) (x198005_25 : Int), v9 = .int .i64 x9_25 ∧ v10 = .int .i64 x10_25 ∧ Aside0 (pyxref08_read.j2 kq l0 a1 a2 a3 x9_25 x10_25 = some (r1, r2, r3, r4, r5, r6)) ∧ Aside0 (kq ≤ kj20) ∧ Aside0 (wc.heap[gb197]? = some (.cells #[.int .u8 x198000_25, (.slice none 0 0), (.slice none 0 0), .int .i64 x198003_25, .int .i64 x198004_25, .int .i64 x198005_25] 35 (0, 0))) ∧ Aside0 (Below w.heap.size w wc))
                        case first =>
                          have H := HC26.out
                          clear HC26
                          by_cases c27 : (wrap64 (rd l0 (ji18))) > 128
                          · rw [if_pos c27] at H
                            have c27b0 : decide (128 < (wrap64 (rd l0 (ji18)))) = true := decide_eq_true c27
                            clear c27
                            (first | rw [c27b0] | (simp only [i64_w, i32_w]; rw [c27b0]) | skip)
                            by_cases c28 : (wrap64 ((wrap64 (a1 + 2)) + (wrap64 ((wrap64 (rd l0 (ji18))) - 128)))) > a2
                            · rw [if_pos c28] at H
                              have c28b0 : decide (a2 < (wrap64 ((wrap64 (a1 + 2)) + (wrap64 ((wrap64 (rd l0 (ji18))) - 128))))) = true := decide_eq_true c28
                              clear c28
                              simp only [Option.some.injEq, Prod.mk.injEq] at H
                              obtain ⟨rfl, rfl, rfl, rfl, rfl, rfl⟩ := H
                              have hcz29_0 : wc.cell? ⟨gb197, 0, none⟩ = some (.int .u8 0) := (blk_cell BK197.out 0).trans rfl
                              have hcz29_1 : wc.cell? ⟨gb197, 1, none⟩ = some (.slice none 0 0) := (blk_cell BK197.out 1).trans rfl
                              have hcz29_2 : wc.cell? ⟨gb197, 2, none⟩ = some (.slice none 0 0) := (blk_cell BK197.out 2).trans rfl
                              have hcz29_3 : wc.cell? ⟨gb197, 3, none⟩ = some (.int .i64 0) := (blk_cell BK197.out 3).trans rfl
                              have hcz29_4 : wc.cell? ⟨gb197, 4, none⟩ = some (.int .i64 0) := (blk_cell BK197.out 4).trans rfl
                              have hcz29_5 : wc.cell? ⟨gb197, 5, none⟩ = some (.int .i64 0) := (blk_cell BK197.out 5).trans rfl
                              have hfz29_0 := blk_frozen BK197.out 0
                              have hfz29_1 := blk_frozen BK197.out 1
                              have hfz29_2 := blk_frozen BK197.out 2
                              have hfz29_3 := blk_frozen BK197.out 3
                              have hfz29_4 := blk_frozen BK197.out 4
                              have hfz29_5 := blk_frozen BK197.out 5
                              go_wp2
                              refine bodyPost_ret (results_cell_row rfl _ _ gb197 35 #[.int .u8 0, .slice none 0 0, .slice none 0 0, .int .i64 0, .int .i64 3, .int .i64 a2] (0, 0) _ rfl (by (with_reducible repeat (first | refine blk_drewN ?_ _ | refine blk_drew ?_ | refine blk_alloc ?_ _)); refine blk_put (cs := #[.int .u8 0, .slice none 0 0, .slice none 0 0, .int .i64 0, .int .i64 3, .int .i64 0]) ?_ 5 _ (by first | rfl | (rw [hji18]; rfl)); (with_reducible repeat (first | refine blk_drewN ?_ _ | refine blk_drew ?_ | refine blk_alloc ?_ _)); refine blk_put (cs := #[.int .u8 0, .slice none 0 0, .slice none 0 0, .int .i64 0, .int .i64 0, .int .i64 0]) ?_ 4 _ rfl; (with_reducible repeat (first | refine blk_drewN ?_ _ | refine blk_drew ?_ | refine blk_alloc ?_ _)); refine blk_put (cs := #[.int .u8 0, .slice none 0 0, .slice none 0 0, .int .i64 0, .int .i64 0, .int .i64 0]) ?_ 3 _ rfl; (with_reducible repeat (first | refine blk_drewN ?_ _ | refine blk_drew ?_ | refine blk_alloc ?_ _)); refine blk_put (cs := #[.int .u8 0, .slice none 0 0, .slice none 0 0, .int .i64 0, .int .i64 0, .int .i64 0]) ?_ 2 _ rfl; (with_reducible repeat (first | refine blk_drewN ?_ _ | refine blk_drew ?_ | refine blk_alloc ?_ _)); refine blk_put (cs := #[.int .u8 0, .slice none 0 0, .slice none 0 0, .int .i64 0, .int .i64 0, .int .i64 0]) ?_ 1 _ rfl; (with_reducible repeat (first | refine blk_drewN ?_ _ | refine blk_drew ?_ | refine blk_alloc ?_ _)); refine blk_put (cs := #[.int .u8 0, .slice none 0 0, .slice none 0 0, .int .i64 0, .int .i64 0, .int .i64 0]) ?_ 0 _ rfl; (with_reducible repeat (first | refine blk_drewN ?_ _ | refine blk_drew ?_ | refine blk_alloc ?_ _)); exact BK197.out) Tryd.underlying35 rfl (by kernel_rfl)) rfl ?_
                              exact ⟨_, _, by first | rfl | (simp [errW_none, errW_some] <;> rfl) | (simp only [← hji18]; first | rfl | (simp [errW_none, errW_some] <;> rfl)) | (simp [*, errW_none, errW_some] <;> rfl), by first | exact Kd.R_nil _ _ _ _ _ | exact Kd.N_nil _ _ _ _ _ | exact Kd.V_nil _ _ _ _ _ | exact Kd.Q_nil _ _ _ _ _ | exact Kd.S_nil _ _ _ _ _, by first | exact Kd.R_nil _ _ _ _ _ | exact Kd.N_nil _ _ _ _ _ | exact Kd.V_nil _ _ _ _ _ | exact Kd.Q_nil _ _ _ _ _ | exact Kd.S_nil _ _ _ _ _, by repeat (first | (with_reducible first | exact HB.out | apply below_alloc | apply pw_below_drewN | apply below_drew1 | refine below_set ?_ GE197.out) | exact HB.out)⟩
                            · rw [if_neg c28] at H
                              have c28b0 : decide (a2 < (wrap64 ((wrap64 (a1 + 2)) + (wrap64 ((wrap64 (rd l0 (ji18))) - 128))))) = false := decide_eq_false c28
                              clear c28
                              have H' := Aside0.mk H
                              clear H
                              go_wp2
                              go_loopg [9, 12] kj20 (fun kq v9 v12 w' => ∃ (x9_2 : Int) (x12_2 : Int), v9 = .int .i64 x9_2 ∧ v12 = .int .i64 x12_2 ∧ Aside0 (pyxref08_read.l0 kq l0 a1 a2 a3 x9_2 (wrap64 (a1 + 2)) (wrap64 ((wrap64 (rd l0 (ji18))) - 128)) x12_2 = some (r1, r2, r3, r4, r5, r6)) ∧ Aside0 (kq ≤ kj20) ∧ Aside0 (w'.heap[gb197]? = some (.cells #[.int .u8 0, (.slice none 0 0), (.slice none 0 0), .int .i64 0, .int .i64 0, .int .i64 0] 35 (0, 0))) ∧ Aside0 (Below w.heap.size w w'))
                              case atStart => exact ⟨(0), (0), (by first | rfl | (simp; done) | (simp [*]; done)), (by first | rfl | (simp; done) | (simp [*]; done)), H', ⟨Nat.le_refl _⟩, ⟨by (with_reducible repeat (first | refine blk_drewN ?_ _ | refine blk_drew ?_ | refine blk_alloc ?_ _)); exact BK197.out⟩, ⟨by repeat (first | (with_reducible first | exact HB.out | apply below_alloc | apply pw_below_drewN | apply below_drew1 | refine below_set ?_ GE197.out) | exact HB.out)⟩⟩
                              case round =>
                                clear H'
                                try clear c1
                                try clear p1
                                try clear q1
                                try clear hx1
                                try clear c2
                                try clear p2
                                try clear q2
                                try clear hx2
                                try clear c4
                                try clear c5
                                try clear c5b0
                                try clear p6
                                try clear c7
                                try clear c8
                                try clear c8b0
                                try clear c9
                                try clear c9b0
                                try clear c11
                                try clear c12
                                try clear c12b0
                                try clear c15
                                try clear c15b0
                                try clear c19
                                try clear c19b0
                                try clear p19
                                try clear q19
                                try clear hx19
                                try clear c20
                                try clear c20b0
                                try clear p20
                                try clear q20
                                try clear hx20
                                try clear c23
                                try clear c23b0
                                try clear c23b1
                                try clear c24
                                try clear c27
                                try clear c27b0
                                try clear c28
                                try clear c28b0
                                try clear hcz14_0
                                try clear hcz14_1
                                try clear hcz14_2
                                try clear hcz14_3
                                try clear hcz14_4
                                try clear hcz14_5
                                try clear hcz17_0
                                try clear hcz17_1
                                try clear hcz17_2
                                try clear hcz17_3
                                try clear hcz17_4
                                try clear hcz17_5
                                try clear hcz25_0
                                try clear hcz25_1
                                try clear hcz25_2
                                try clear hcz25_3
                                try clear hcz25_4
                                try clear hcz25_5
                                try clear hcz29_0
                                try clear hcz29_1
                                try clear hcz29_2
                                try clear hcz29_3
                                try clear hcz29_4
                                try clear hcz29_5
                                try clear hcz7_0
                                try clear hcz7_1
                                try clear hcz7_2
                                try clear hcz7_3
                                try clear hcz7_4
                                try clear hcz7_5
                                try clear hfz14_0
                                try clear hfz14_1
                                try clear hfz14_2
                                try clear hfz14_3
                                try clear hfz14_4
                                try clear hfz14_5
                                try clear hfz17_0
                                try clear hfz17_1
                                try clear hfz17_2
                                try clear hfz17_3
                                try clear hfz17_4
                                try clear hfz17_5
                                try clear hfz25_0
                                try clear hfz25_1
                                try clear hfz25_2
                                try clear hfz25_3
                                try clear hfz25_4
                                try clear hfz25_5
                                try clear hfz29_0
                                try clear hfz29_1
                                try clear hfz29_2
                                try clear hfz29_3
                                try clear hfz29_4
                                try clear hfz29_5
                                try clear hfz7_0
                                try clear hfz7_1
                                try clear hfz7_2
                                try clear hfz7_3
                                try clear hfz7_4
                                try clear hfz7_5
                                try clear hx198_0
                                try clear hx200_0
                                try clear p1
                                try clear p19
                                try clear p198
                                try clear p2
                                try clear p20
                                try clear p200
                                try clear p6
                                try clear q1
                                try clear q19
                                try clear q198
                                try clear q2
                                try clear q20
                                try clear q200
                                obtain ⟨x9_2, x12_2, rfl, rfl, HA, HK2, BK197, HB⟩ := hrel
                                cases gk with
                                | zero => exact absurd HA.out (by simp [pyxref08_read.l0])
                                | succ k2 =>
                                  have H := HA.out
                                  clear HA
                                  simp only [pyxref08_read.l0] at H
                                  by_cases c30 : x12_2 < (wrap64 ((wrap64 (rd l0 (ji18))) - 128))
                                  · rw [if_pos c30] at H
                                    have c30b0 : decide (x12_2 < (wrap64 ((wrap64 (rd l0 (ji18))) - 128))) = true := decide_eq_true c30
                                    clear c30
                                    obtain ⟨ji31, hji31⟩ : ∃ j_ : Int, (wrap64 ((wrap64 (a1 + 2)) + x12_2)) = j_ := ⟨_, rfl⟩
                                    replace H : (if 0 ≤ (ji31) then (if (ji31) < (l0.length : Int) then (pyxref08_read.l0 k2 l0 a1 a2 a3 (wrap64 ((wrap64 (x9_2 * 256)) + (wrap64 (rd l0 (ji31))))) (wrap64 (a1 + 2)) (wrap64 ((wrap64 (rd l0 (ji18))) - 128)) (wrap64 (x12_2 + 1))) else (none)) else (none)) = some (r1, r2, r3, r4, r5, r6) := by first | (rw [hji31] at H; exact H) | (simp only [hji31] at H ⊢; exact H)
                                    have hji31w : (IntKind.i64.wrap ((wrap64 (a1 + 2)) + x12_2)) = ji31 := (i64_w _).trans hji31
                                    by_cases c32 : 0 ≤ (ji31)
                                    · rw [if_pos c32] at H
                                      have c32b0 : decide (0 ≤ (ji31)) = true := decide_eq_true c32
                                      clear c32
                                      by_cases c33 : (ji31) < (l0.length : Int)
                                      · rw [if_pos c33] at H
                                        have c33b0 : decide ((ji31) < (l0.length : Int)) = true := decide_eq_true c33
                                        clear c33
                                        have H' := Aside0.mk H
                                        clear H
                                        have p201 : 0 ≤ ((ji31) : Int) := of_decide_eq_true (by first | (with_reducible assumption) | assumption)
                                        have q201 : (ji31) < (l0.length : Int) := of_decide_eq_true (by first | (with_reducible assumption) | assumption)
                                        obtain ⟨ad201, e201, hx201_0⟩ := Kd.at_int HR0.out (ji31) p201 q201
                                        obtain rfl : ad198 = ad201 := (by injection e201)
                                        replace hx201_0 := (HB.out.cell (World.block_lt_of_cell? w _ hx201_0)).trans hx201_0
                                        replace p201 := eq_true p201
                                        replace q201 := eq_true q201
                                        go_wp2
                                        go_roundg k2
                                        case measure => have := HJ20.out; have := HK2.out; omega
                                        case rel => exact ⟨(wrap64 ((wrap64 (x9_2 * 256)) + (wrap64 (rd l0 (ji31))))), (wrap64 (x12_2 + 1)), (by first | rfl | (simp; done) | (simp only [← hji31] <;> (first | rfl | simp)) | (simp [*]; done)), (by first | rfl | (simp; done) | (simp [*]; done)), H', ⟨by have := HJ20.out; have := HK2.out; omega⟩, ⟨by (with_reducible repeat (first | refine blk_drewN ?_ _ | refine blk_drew ?_ | refine blk_alloc ?_ _)); exact BK197.out⟩, ⟨by repeat (first | (with_reducible first | exact HB.out | apply below_alloc | apply pw_below_drewN | apply below_drew1 | refine below_set ?_ GE197.out) | exact HB.out)⟩⟩
                                      · rw [if_neg c33] at H
                                        exact absurd H (by simp)
                                    · rw [if_neg c32] at H
                                      exact absurd H (by simp)
                                  · rw [if_neg c30] at H
                                    have c30b0 : decide (x12_2 < (wrap64 ((wrap64 (rd l0 (ji18))) - 128))) = false := decide_eq_false c30
                                    clear c30
                                    by_cases c34 : x9_2 < 128
                                    · rw [if_pos c34] at H
                                      have c34b0 : decide (x9_2 < 128) = true := decide_eq_true c34
                                      clear c34
                                      simp only [Option.some.injEq, Prod.mk.injEq] at H
                                      obtain ⟨rfl, rfl, rfl, rfl, rfl, rfl⟩ := H
                                      have hcz35_0 : wr.cell? ⟨gb197, 0, none⟩ = some (.int .u8 0) := (blk_cell BK197.out 0).trans rfl
                                      have hcz35_1 : wr.cell? ⟨gb197, 1, none⟩ = some (.slice none 0 0) := (blk_cell BK197.out 1).trans rfl
                                      have hcz35_2 : wr.cell? ⟨gb197, 2, none⟩ = some (.slice none 0 0) := (blk_cell BK197.out 2).trans rfl
                                      have hcz35_3 : wr.cell? ⟨gb197, 3, none⟩ = some (.int .i64 0) := (blk_cell BK197.out 3).trans rfl
                                      have hcz35_4 : wr.cell? ⟨gb197, 4, none⟩ = some (.int .i64 0) := (blk_cell BK197.out 4).trans rfl
                                      have hcz35_5 : wr.cell? ⟨gb197, 5, none⟩ = some (.int .i64 0) := (blk_cell BK197.out 5).trans rfl
                                      have hfz35_0 := blk_frozen BK197.out 0
                                      have hfz35_1 := blk_frozen BK197.out 1
                                      have hfz35_2 := blk_frozen BK197.out 2
                                      have hfz35_3 := blk_frozen BK197.out 3
                                      have hfz35_4 := blk_frozen BK197.out 4
                                      have hfz35_5 := blk_frozen BK197.out 5
                                      go_wp2
                                      refine bodyPost_ret (results_cell_row rfl _ _ gb197 35 #[.int .u8 0, .slice none 0 0, .slice none 0 0, .int .i64 0, .int .i64 6, .int .i64 (wrap64 (a1 + 1))] (0, 0) _ rfl (by (with_reducible repeat (first | refine blk_drewN ?_ _ | refine blk_drew ?_ | refine blk_alloc ?_ _)); refine blk_put (cs := #[.int .u8 0, .slice none 0 0, .slice none 0 0, .int .i64 0, .int .i64 6, .int .i64 0]) ?_ 5 _ (by first | rfl | (rw [hji18]; rfl)); (with_reducible repeat (first | refine blk_drewN ?_ _ | refine blk_drew ?_ | refine blk_alloc ?_ _)); refine blk_put (cs := #[.int .u8 0, .slice none 0 0, .slice none 0 0, .int .i64 0, .int .i64 0, .int .i64 0]) ?_ 4 _ rfl; (with_reducible repeat (first | refine blk_drewN ?_ _ | refine blk_drew ?_ | refine blk_alloc ?_ _)); refine blk_put (cs := #[.int .u8 0, .slice none 0 0, .slice none 0 0, .int .i64 0, .int .i64 0, .int .i64 0]) ?_ 3 _ rfl; (with_reducible repeat (first | refine blk_drewN ?_ _ | refine blk_drew ?_ | refine blk_alloc ?_ _)); refine blk_put (cs := #[.int .u8 0, .slice none 0 0, .slice none 0 0, .int .i64 0, .int .i64 0, .int .i64 0]) ?_ 2 _ rfl; (with_reducible repeat (first | refine blk_drewN ?_ _ | refine blk_drew ?_ | refine blk_alloc ?_ _)); refine blk_put (cs := #[.int .u8 0, .slice none 0 0, .slice none 0 0, .int .i64 0, .int .i64 0, .int .i64 0]) ?_ 1 _ rfl; (with_reducible repeat (first | refine blk_drewN ?_ _ | refine blk_drew ?_ | refine blk_alloc ?_ _)); refine blk_put (cs := #[.int .u8 0, .slice none 0 0, .slice none 0 0, .int .i64 0, .int .i64 0, .int .i64 0]) ?_ 0 _ rfl; (with_reducible repeat (first | refine blk_drewN ?_ _ | refine blk_drew ?_ | refine blk_alloc ?_ _)); exact BK197.out) Tryd.underlying35 rfl (by kernel_rfl)) rfl ?_
                                      exact ⟨_, _, by first | rfl | (simp [errW_none, errW_some] <;> rfl) | (simp only [← hji18]; first | rfl | (simp [errW_none, errW_some] <;> rfl)) | (simp [*, errW_none, errW_some] <;> rfl), by first | exact Kd.R_nil _ _ _ _ _ | exact Kd.N_nil _ _ _ _ _ | exact Kd.V_nil _ _ _ _ _ | exact Kd.Q_nil _ _ _ _ _ | exact Kd.S_nil _ _ _ _ _, by first | exact Kd.R_nil _ _ _ _ _ | exact Kd.N_nil _ _ _ _ _ | exact Kd.V_nil _ _ _ _ _ | exact Kd.Q_nil _ _ _ _ _ | exact Kd.S_nil _ _ _ _ _, by repeat (first | (with_reducible first | exact HB.out | apply below_alloc | apply pw_below_drewN | apply below_drew1 | refine below_set ?_ GE197.out) | exact HB.out)⟩
                                    · rw [if_neg c34] at H
                                      have c34b0 : decide (x9_2 < 128) = false := decide_eq_false c34
                                      clear c34
                                      replace H := Option.bind_eq_some_iff.mp H
                                      obtain ⟨t202, A360, H⟩ := H
                                      replace H : (if (t202.length : Int) = (wrap64 ((wrap64 (rd l0 (ji18))) - 128)) then (pyxref08_read.j2 k2 l0 a1 a2 a3 x9_2 (wrap64 ((wrap64 (a1 + 2)) + (wrap64 ((wrap64 (rd l0 (ji18))) - 128))))) else (some (0, ([] : List Int), ([] : List (S33)), 0, 6, wrap64 (a1 + 1)))) = some (r1, r2, r3, r4, r5, r6) := H
                                      have A36 := Aside0.mk A360
                                      clear A360
                                      by_cases c37 : (t202.length : Int) = (wrap64 ((wrap64 (rd l0 (ji18))) - 128))
                                      · rw [if_pos c37] at H
                                        have c37b0 : ((t202.length : Int) == (wrap64 ((wrap64 (rd l0 (ji18))) - 128))) = true := beq_iff_eq.mpr c37
                                        have c37b1 : ((t202.length : Int) != (wrap64 ((wrap64 (rd l0 (ji18))) - 128))) = false := bne_eq_false_iff_eq.mpr c37
                                        clear c37
                                        have H' := Aside0.mk H
                                        clear H
                                        go_wp2_with (first | (go_at_call 57; (with_reducible refine (pyxref08_Number.calls k2 x9_2 t202 _ A36.out).mono ?_); rintro e w38 ⟨v203, rfl, ho0, hb⟩; have n0_ := Aside0.mk (Kd.R_lower ho0 (below_size (by repeat (first | (with_reducible first | exact HB.out | apply below_alloc | apply pw_below_drewN | apply below_drew1 | refine below_set ?_ GE197.out) | exact HB.out)))); have n1_ := Aside0.mk (blk_below (g := gb197) (o := .cells #[.int .u8 0, .slice none 0 0, .slice none 0 0, .int .i64 0, .int .i64 0, .int .i64 0] 35 (0, 0)) (by (with_reducible repeat (first | refine blk_drewN ?_ _ | refine blk_drew ?_ | refine blk_alloc ?_ _)); exact BK197.out) hb); have n2_ := Aside0.mk (below_step (by repeat (first | (with_reducible first | exact HB.out | apply below_alloc | apply pw_below_drewN | apply below_drew1 | refine below_set ?_ GE197.out) | exact HB.out)) hb); clear BK197; clear HB; have HO204 := n0_; have BK197 := n1_; have HB := n2_; clear n0_ n1_ n2_; (try clear hb); (try clear hb2); (try clear hk); (try clear hi); (try clear ho0); obtain ⟨Ao39, co39, eo39⟩ := Kd.R_slice HO204.out; subst eo39))
                                        go_meet
                                        case rel => exact ⟨_, (x9_2), (wrap64 ((wrap64 (a1 + 2)) + (wrap64 ((wrap64 (rd l0 (ji18))) - 128)))), (0), (0), (0), (0), (by first | rfl | (simp; done) | (simp [*]; done)), (by first | rfl | (simp; done) | (simp only [← hji18] <;> (first | rfl | simp)) | (simp [*]; done)), H', ⟨by have := HJ20.out; have := HK2.out; first | omega | exact Nat.le_refl _⟩, ⟨by (with_reducible repeat (first | refine blk_drewN ?_ _ | refine blk_drew ?_ | refine blk_alloc ?_ _)); exact BK197.out⟩, ⟨by repeat (first | (with_reducible first | exact HB.out | apply below_alloc | apply pw_below_drewN | apply below_drew1 | refine below_set ?_ GE197.out) | exact HB.out)⟩⟩
                                      · rw [if_neg c37] at H
                                        have c37b0 : ((t202.length : Int) == (wrap64 ((wrap64 (rd l0 (ji18))) - 128))) = false := beq_eq_false_iff_ne.mpr c37
                                        have c37b1 : ((t202.length : Int) != (wrap64 ((wrap64 (rd l0 (ji18))) - 128))) = true := bne_iff_ne.mpr c37
                                        simp only [Option.some.injEq, Prod.mk.injEq] at H
                                        obtain ⟨rfl, rfl, rfl, rfl, rfl, rfl⟩ := H
                                        go_wp2_with (first | (go_at_call 57; (with_reducible refine (pyxref08_Number.calls k2 x9_2 t202 _ A36.out).mono ?_); rintro e w40 ⟨v203, rfl, ho0, hb⟩; have n0_ := Aside0.mk (Kd.R_lower ho0 (below_size (by repeat (first | (with_reducible first | exact HB.out | apply below_alloc | apply pw_below_drewN | apply below_drew1 | refine below_set ?_ GE197.out) | exact HB.out)))); have n1_ := Aside0.mk (blk_below (g := gb197) (o := .cells #[.int .u8 0, .slice none 0 0, .slice none 0 0, .int .i64 0, .int .i64 0, .int .i64 0] 35 (0, 0)) (by (with_reducible repeat (first | refine blk_drewN ?_ _ | refine blk_drew ?_ | refine blk_alloc ?_ _)); exact BK197.out) hb); have n2_ := Aside0.mk (below_step (by repeat (first | (with_reducible first | exact HB.out | apply below_alloc | apply pw_below_drewN | apply below_drew1 | refine below_set ?_ GE197.out) | exact HB.out)) hb); clear BK197; clear HB; have HO204 := n0_; have BK197 := n1_; have HB := n2_; clear n0_ n1_ n2_; (try clear hb); (try clear hb2); (try clear hk); (try clear hi); (try clear ho0); obtain ⟨Ao41, co41, eo41⟩ := Kd.R_slice HO204.out; subst eo41; have hcz42_0 : w40.cell? ⟨gb197, 0, none⟩ = some (.int .u8 0) := (blk_cell BK197.out 0).trans rfl; have hcz42_1 : w40.cell? ⟨gb197, 1, none⟩ = some (.slice none 0 0) := (blk_cell BK197.out 1).trans rfl; have hcz42_2 : w40.cell? ⟨gb197, 2, none⟩ = some (.slice none 0 0) := (blk_cell BK197.out 2).trans rfl; have hcz42_3 : w40.cell? ⟨gb197, 3, none⟩ = some (.int .i64 0) := (blk_cell BK197.out 3).trans rfl; have hcz42_4 : w40.cell? ⟨gb197, 4, none⟩ = some (.int .i64 0) := (blk_cell BK197.out 4).trans rfl; have hcz42_5 : w40.cell? ⟨gb197, 5, none⟩ = some (.int .i64 0) := (blk_cell BK197.out 5).trans rfl; have hfz42_0 := blk_frozen BK197.out 0; have hfz42_1 := blk_frozen BK197.out 1; have hfz42_2 := blk_frozen BK197.out 2; have hfz42_3 := blk_frozen BK197.out 3; have hfz42_4 := blk_frozen BK197.out 4; have hfz42_5 := blk_frozen BK197.out 5))
                                        refine bodyPost_ret (results_cell_row rfl _ _ gb197 35 #[.int .u8 0, .slice none 0 0, .slice none 0 0, .int .i64 0, .int .i64 6, .int .i64 (wrap64 (a1 + 1))] (0, 0) _ rfl (by (with_reducible repeat (first | refine blk_drewN ?_ _ | refine blk_drew ?_ | refine blk_alloc ?_ _)); refine blk_put (cs := #[.int .u8 0, .slice none 0 0, .slice none 0 0, .int .i64 0, .int .i64 6, .int .i64 0]) ?_ 5 _ (by first | rfl | (rw [hji18]; rfl)); (with_reducible repeat (first | refine blk_drewN ?_ _ | refine blk_drew ?_ | refine blk_alloc ?_ _)); refine blk_put (cs := #[.int .u8 0, .slice none 0 0, .slice none 0 0, .int .i64 0, .int .i64 0, .int .i64 0]) ?_ 4 _ rfl; (with_reducible repeat (first | refine blk_drewN ?_ _ | refine blk_drew ?_ | refine blk_alloc ?_ _)); refine blk_put (cs := #[.int .u8 0, .slice none 0 0, .slice none 0 0, .int .i64 0, .int .i64 0, .int .i64 0]) ?_ 3 _ rfl; (with_reducible repeat (first | refine blk_drewN ?_ _ | refine blk_drew ?_ | refine blk_alloc ?_ _)); refine blk_put (cs := #[.int .u8 0, .slice none 0 0, .slice none 0 0, .int .i64 0, .int .i64 0, .int .i64 0]) ?_ 2 _ rfl; (with_reducible repeat (first | refine blk_drewN ?_ _ | refine blk_drew ?_ | refine blk_alloc ?_ _)); refine blk_put (cs := #[.int .u8 0, .slice none 0 0, .slice none 0 0, .int .i64 0, .int .i64 0, .int .i64 0]) ?_ 1 _ rfl; (with_reducible repeat (first | refine blk_drewN ?_ _ | refine blk_drew ?_ | refine blk_alloc ?_ _)); refine blk_put (cs := #[.int .u8 0, .slice none 0 0, .slice none 0 0, .int .i64 0, .int .i64 0, .int .i64 0]) ?_ 0 _ rfl; (with_reducible repeat (first | refine blk_drewN ?_ _ | refine blk_drew ?_ | refine blk_alloc ?_ _)); exact BK197.out) Tryd.underlying35 rfl (by kernel_rfl)) rfl ?_
                                        exact ⟨_, _, by first | rfl | (simp [errW_none, errW_some] <;> rfl) | (simp only [← hji18]; first | rfl | (simp [errW_none, errW_some] <;> rfl)) | (simp [*, errW_none, errW_some] <;> rfl), by first | exact Kd.R_nil _ _ _ _ _ | exact Kd.N_nil _ _ _ _ _ | exact Kd.V_nil _ _ _ _ _ | exact Kd.Q_nil _ _ _ _ _ | exact Kd.S_nil _ _ _ _ _, by first | exact Kd.R_nil _ _ _ _ _ | exact Kd.N_nil _ _ _ _ _ | exact Kd.V_nil _ _ _ _ _ | exact Kd.Q_nil _ _ _ _ _ | exact Kd.S_nil _ _ _ _ _, by repeat (first | (with_reducible first | exact HB.out | apply below_alloc | apply pw_below_drewN | apply below_drew1 | refine below_set ?_ GE197.out) | exact HB.out)⟩
                          · rw [if_neg c27] at H
                            have c27b0 : decide (128 < (wrap64 (rd l0 (ji18)))) = false := decide_eq_false c27
                            clear c27
                            (first | rw [c27b0] | (simp only [i64_w, i32_w]; rw [c27b0]) | skip)
                            have H' := Aside0.mk H
                            clear H
                            go_wp2
                            go_meet
                            case rel => exact ⟨_, ((wrap64 (rd l0 (ji18)))), ((wrap64 (a1 + 2))), (0), (0), (0), (0), (by first | rfl | (simp; done) | (simp only [← hji18] <;> (first | rfl | simp)) | (simp [*]; done)), (by first | rfl | (simp; done) | (simp [*]; done)), H', ⟨by have := HJ20.out; first | omega | exact Nat.le_refl _⟩, ⟨by (with_reducible repeat (first | refine blk_drewN ?_ _ | refine blk_drew ?_ | refine blk_alloc ?_ _)); exact BK197.out⟩, ⟨by repeat (first | (with_reducible first | exact HB.out | apply below_alloc | apply pw_below_drewN | apply below_drew1 | refine below_set ?_ GE197.out) | exact HB.out)⟩⟩
                        case rest =>
                          clear HC26
                          try clear c1
                          try clear p1
                          try clear q1
                          try clear hx1
                          try clear c2
                          try clear p2
                          try clear q2
                          try clear hx2
                          try clear c3
                          try clear c4
                          try clear c5
                          try clear c5b0
                          try clear p6
                          try clear c7
                          try clear c8
                          try clear c8b0
                          try clear c9
                          try clear c9b0
                          try clear c11
                          try clear c12
                          try clear c12b0
                          try clear c15
                          try clear c15b0
                          try clear c19
                          try clear c19b0
                          try clear p19
                          try clear q19
                          try clear hx19
                          try clear c20
                          try clear c20b0
                          try clear p20
                          try clear q20
                          try clear hx20
                          try clear c23
                          try clear c23b0
                          try clear c23b1
                          try clear c24
                          try clear c27
                          try clear c27b0
                          try clear c28
                          try clear c28b0
                          try clear c30
                          try clear c30b0
                          try clear c32
                          try clear c32b0
                          try clear c33
                          try clear c33b0
                          try clear c34
                          try clear c34b0
                          try clear c37
                          try clear c37b0
                          try clear c37b1
                          try clear hcz14_0
                          try clear hcz14_1
                          try clear hcz14_2
                          try clear hcz14_3
                          try clear hcz14_4
                          try clear hcz14_5
                          try clear hcz17_0
                          try clear hcz17_1
                          try clear hcz17_2
                          try clear hcz17_3
                          try clear hcz17_4
                          try clear hcz17_5
                          try clear hcz25_0
                          try clear hcz25_1
                          try clear hcz25_2
                          try clear hcz25_3
                          try clear hcz25_4
                          try clear hcz25_5
                          try clear hcz29_0
                          try clear hcz29_1
                          try clear hcz29_2
                          try clear hcz29_3
                          try clear hcz29_4
                          try clear hcz29_5
                          try clear hcz35_0
                          try clear hcz35_1
                          try clear hcz35_2
                          try clear hcz35_3
                          try clear hcz35_4
                          try clear hcz35_5
                          try clear hcz42_0
                          try clear hcz42_1
                          try clear hcz42_2
                          try clear hcz42_3
                          try clear hcz42_4
                          try clear hcz42_5
                          try clear hcz7_0
                          try clear hcz7_1
                          try clear hcz7_2
                          try clear hcz7_3
                          try clear hcz7_4
                          try clear hcz7_5
                          try clear hfz14_0
                          try clear hfz14_1
                          try clear hfz14_2
                          try clear hfz14_3
                          try clear hfz14_4
                          try clear hfz14_5
                          try clear hfz17_0
                          try clear hfz17_1
                          try clear hfz17_2
                          try clear hfz17_3
                          try clear hfz17_4
                          try clear hfz17_5
                          try clear hfz25_0
                          try clear hfz25_1
                          try clear hfz25_2
                          try clear hfz25_3
                          try clear hfz25_4
                          try clear hfz25_5
                          try clear hfz29_0
                          try clear hfz29_1
                          try clear hfz29_2
                          try clear hfz29_3
                          try clear hfz29_4
                          try clear hfz29_5
                          try clear hfz35_0
                          try clear hfz35_1
                          try clear hfz35_2
                          try clear hfz35_3
                          try clear hfz35_4
                          try clear hfz35_5
                          try clear hfz42_0
                          try clear hfz42_1
                          try clear hfz42_2
                          try clear hfz42_3
                          try clear hfz42_4
                          try clear hfz42_5
                          try clear hfz7_0
                          try clear hfz7_1
                          try clear hfz7_2
                          try clear hfz7_3
                          try clear hfz7_4
                          try clear hfz7_5
                          try clear hx198_0
                          try clear hx200_0
                          try clear hx201_0
                          try clear p1
                          try clear p19
                          try clear p198
                          try clear p2
                          try clear p20
                          try clear p200
                          try clear p201
                          try clear p6
                          try clear q1
                          try clear q19
                          try clear q198
                          try clear q2
                          try clear q20
                          try clear q200
                          try clear q201
                          obtain ⟨kq, x9_25, x10_25, x198000_25, x198003_25, x198004_25, x198005_25, rfl, rfl, HA, HJ25, BK197, HB⟩ := hcut
                          cases kq with
                          | zero => exact absurd HA.out (by simp [pyxref08_read.j2])
                          | succ kj25 =>
                            have H := HA.out
                            clear HA
                            simp only [pyxref08_read.j2] at H
                            by_cases c43 : (wrap64 (x10_25 + x9_25)) > a2
                            · rw [if_pos c43] at H
                              have c43b0 : decide (a2 < (wrap64 (x10_25 + x9_25))) = true := decide_eq_true c43
                              clear c43
                              simp only [Option.some.injEq, Prod.mk.injEq] at H
                              obtain ⟨rfl, rfl, rfl, rfl, rfl, rfl⟩ := H
                              have hcz44_0 : wc.cell? ⟨gb197, 0, none⟩ = some (.int .u8 x198000_25) := (blk_cell BK197.out 0).trans rfl
                              have hcz44_1 : wc.cell? ⟨gb197, 1, none⟩ = some (.slice none 0 0) := (blk_cell BK197.out 1).trans rfl
                              have hcz44_2 : wc.cell? ⟨gb197, 2, none⟩ = some (.slice none 0 0) := (blk_cell BK197.out 2).trans rfl
                              have hcz44_3 : wc.cell? ⟨gb197, 3, none⟩ = some (.int .i64 x198003_25) := (blk_cell BK197.out 3).trans rfl
                              have hcz44_4 : wc.cell? ⟨gb197, 4, none⟩ = some (.int .i64 x198004_25) := (blk_cell BK197.out 4).trans rfl
                              have hcz44_5 : wc.cell? ⟨gb197, 5, none⟩ = some (.int .i64 x198005_25) := (blk_cell BK197.out 5).trans rfl
                              have hfz44_0 := blk_frozen BK197.out 0
                              have hfz44_1 := blk_frozen BK197.out 1
                              have hfz44_2 := blk_frozen BK197.out 2
                              have hfz44_3 := blk_frozen BK197.out 3
                              have hfz44_4 := blk_frozen BK197.out 4
                              have hfz44_5 := blk_frozen BK197.out 5
                              go_wp2
                              refine bodyPost_ret (results_cell_row rfl _ _ gb197 35 #[.int .u8 0, .slice none 0 0, .slice none 0 0, .int .i64 0, .int .i64 3, .int .i64 a2] (0, 0) _ rfl (by (with_reducible repeat (first | refine blk_drewN ?_ _ | refine blk_drew ?_ | refine blk_alloc ?_ _)); refine blk_put (cs := #[.int .u8 0, .slice none 0 0, .slice none 0 0, .int .i64 0, .int .i64 3, .int .i64 x198005_25]) ?_ 5 _ (by first | rfl | (rw [hji18]; rfl)); (with_reducible repeat (first | refine blk_drewN ?_ _ | refine blk_drew ?_ | refine blk_alloc ?_ _)); refine blk_put (cs := #[.int .u8 0, .slice none 0 0, .slice none 0 0, .int .i64 0, .int .i64 x198004_25, .int .i64 x198005_25]) ?_ 4 _ rfl; (with_reducible repeat (first | refine blk_drewN ?_ _ | refine blk_drew ?_ | refine blk_alloc ?_ _)); refine blk_put (cs := #[.int .u8 0, .slice none 0 0, .slice none 0 0, .int .i64 x198003_25, .int .i64 x198004_25, .int .i64 x198005_25]) ?_ 3 _ rfl; (with_reducible repeat (first | refine blk_drewN ?_ _ | refine blk_drew ?_ | refine blk_alloc ?_ _)); refine blk_put (cs := #[.int .u8 0, .slice none 0 0, .slice none 0 0, .int .i64 x198003_25, .int .i64 x198004_25, .int .i64 x198005_25]) ?_ 2 _ rfl; (with_reducible repeat (first | refine blk_drewN ?_ _ | refine blk_drew ?_ | refine blk_alloc ?_ _)); refine blk_put (cs := #[.int .u8 0, .slice none 0 0, .slice none 0 0, .int .i64 x198003_25, .int .i64 x198004_25, .int .i64 x198005_25]) ?_ 1 _ rfl; (with_reducible repeat (first | refine blk_drewN ?_ _ | refine blk_drew ?_ | refine blk_alloc ?_ _)); refine blk_put (cs := #[.int .u8 x198000_25, .slice none 0 0, .slice none 0 0, .int .i64 x198003_25, .int .i64 x198004_25, .int .i64 x198005_25]) ?_ 0 _ rfl; (with_reducible repeat (first | refine blk_drewN ?_ _ | refine blk_drew ?_ | refine blk_alloc ?_ _)); exact BK197.out) Tryd.underlying35 rfl (by kernel_rfl)) rfl ?_
                              exact ⟨_, _, by first | rfl | (simp [errW_none, errW_some] <;> rfl) | (simp only [← hji18]; first | rfl | (simp [errW_none, errW_some] <;> rfl)) | (simp [*, errW_none, errW_some] <;> rfl), by first | exact Kd.R_nil _ _ _ _ _ | exact Kd.N_nil _ _ _ _ _ | exact Kd.V_nil _ _ _ _ _ | exact Kd.Q_nil _ _ _ _ _ | exact Kd.S_nil _ _ _ _ _, by first | exact Kd.R_nil _ _ _ _ _ | exact Kd.N_nil _ _ _ _ _ | exact Kd.V_nil _ _ _ _ _ | exact Kd.Q_nil _ _ _ _ _ | exact Kd.S_nil _ _ _ _ _, by repeat (first | (with_reducible first | exact HB.out | apply below_alloc | apply pw_below_drewN | apply below_drew1 | refine below_set ?_ GE197.out) | exact HB.out)⟩
                            · rw [if_neg c43] at H
                              have c43b0 : decide (a2 < (wrap64 (x10_25 + x9_25))) = false := decide_eq_false c43
                              clear c43
                              by_cases c45 : 0 ≤ a1
                              · rw [if_pos c45] at H
                                have c45b0 : decide (0 ≤ a1) = true := decide_eq_true c45
                                clear c45
                                by_cases c46 : a1 < (l0.length : Int)
                                · rw [if_pos c46] at H
                                  have c46b0 : decide (a1 < (l0.length : Int)) = true := decide_eq_true c46
                                  clear c46
                                  by_cases c47 : (((Int.tdiv (rd l0 a1) 32) % 256) % 2) = 0
                                  · rw [if_pos c47] at H
                                    have c47b0 : ((((Int.tdiv (rd l0 a1) 32) % 256) % 2) == 0) = true := beq_iff_eq.mpr c47
                                    have c47b1 : ((((Int.tdiv (rd l0 a1) 32) % 256) % 2) != 0) = false := bne_eq_false_iff_eq.mpr c47
                                    clear c47
                                    obtain ⟨y208, hy208⟩ : ∃ y_ : List Int, y_ = (([] : List Int)) := ⟨_, rfl⟩
                                    replace H : (if 0 ≤ x10_25 then (if x10_25 ≤ (wrap64 (x10_25 + x9_25)) then (if (wrap64 (x10_25 + x9_25)) ≤ (l0.length : Int) then (if y208.length + ((l0.take ((wrap64 (x10_25 + x9_25)) : Int).toNat).drop (x10_25 : Int).toNat).length < 140737488355328 then (some (rd l0 a1, (y208 ++ ((l0.take ((wrap64 (x10_25 + x9_25)) : Int).toNat).drop (x10_25 : Int).toNat)), ([] : List (S33)), wrap64 (x10_25 + x9_25), 0, 0)) else (none)) else (none)) else (none)) else (none)) = some (r1, r2, r3, r4, r5, r6) := by first | (rw [hy208]; with_reducible exact H) | (have H2_ := (Option.bind_some _ _).symm.trans H; rw [hy208]; with_reducible exact H2_) | (have H2_ := (Option.bind_some _ _).symm.trans H; with_reducible exact H2_) | with_reducible exact H | (rw [hy208]; exact H) | exact H
                                    have Ny208 := Aside0.mk hy208
                                    clear hy208
                                    by_cases c48 : 0 ≤ x10_25
                                    · rw [if_pos c48] at H
                                      have c48b0 := eq_true c48
                                      have c48b1 : decide (0 ≤ x10_25) = true := decide_eq_true c48
                                      clear c48
                                      by_cases c49 : x10_25 ≤ (wrap64 (x10_25 + x9_25))
                                      · rw [if_pos c49] at H
                                        have c49b0 := eq_true c49
                                        have c49b1 : decide (x10_25 ≤ (wrap64 (x10_25 + x9_25))) = true := decide_eq_true c49
                                        by_cases c50 : (wrap64 (x10_25 + x9_25)) ≤ (l0.length : Int)
                                        · rw [if_pos c50] at H
                                          have c50b0 := eq_true c50
                                          have c50b1 : decide ((wrap64 (x10_25 + x9_25)) ≤ (l0.length : Int)) = true := decide_eq_true c50
                                          by_cases c51 : y208.length + ((l0.take ((wrap64 (x10_25 + x9_25)) : Int).toNat).drop (x10_25 : Int).toNat).length < 140737488355328
                                          · rw [if_pos c51] at H
                                            have LMc51 := Aside0.mk c51
                                            clear c51
                                            obtain ⟨y212, hy212⟩ : ∃ y_ : List Int, y_ = (y208 ++ ((l0.take ((wrap64 (x10_25 + x9_25)) : Int).toNat).drop (x10_25 : Int).toNat)) := ⟨_, rfl⟩
                                            replace H : (some (rd l0 a1, y212, ([] : List (S33)), wrap64 (x10_25 + x9_25), 0, 0)) = some (r1, r2, r3, r4, r5, r6) := by first | (rw [hy212]; with_reducible exact H) | (have H2_ := (Option.bind_some _ _).symm.trans H; rw [hy212]; with_reducible exact H2_) | (have H2_ := (Option.bind_some _ _).symm.trans H; with_reducible exact H2_) | with_reducible exact H | (rw [hy212]; exact H) | exact H
                                            have Ny212 := Aside0.mk hy212
                                            clear hy212
                                            simp only [Option.some.injEq, Prod.mk.injEq] at H
                                            obtain ⟨rfl, rfl, rfl, rfl, rfl, rfl⟩ := H
                                            have p205 : 0 ≤ (a1 : Int) := of_decide_eq_true (by first | (with_reducible assumption) | assumption)
                                            have q205 : a1 < (l0.length : Int) := of_decide_eq_true (by first | (with_reducible assumption) | assumption)
                                            obtain ⟨ad205, e205, hx205_0⟩ := Kd.at_int HR0.out a1 p205 q205
                                            obtain rfl : ad198 = ad205 := (by injection e205)
                                            replace hx205_0 := (HB.out.cell (World.block_lt_of_cell? w _ hx205_0)).trans hx205_0
                                            replace p205 := eq_true p205
                                            replace q205 := eq_true q205
                                            go_wp2_with (first | ((with_reducible refine gate_dst (N := 13) rfl ?_); (try (refine gate_guard (by rfl) ?_; dsimp only)); refine box_event ?hg (N := 13) ?hd (cs := #[.int .u8 0, .slice none 0 0, .slice none 0 0]) (t := 33) ?hr ?_; (case hd => rfl); (case hg => rfl); (case hr => first | (go_simp; done) | (go_simp; rfl)); intro gb206 hg w52 hbox hb; have n0_ := Aside0.mk (blk_below (g := gb197) (o := .cells #[.int .u8 x198000_25, .slice none 0 0, .slice none 0 0, .int .i64 x198003_25, .int .i64 x198004_25, .int .i64 x198005_25] 35 (0, 0)) (by (with_reducible repeat (first | refine blk_drewN ?_ _ | refine blk_drew ?_ | refine blk_alloc ?_ _)); exact BK197.out) hb); have n1_ := Aside0.mk (below_step (by repeat (first | (with_reducible first | exact HB.out | apply below_alloc | apply pw_below_drewN | apply below_drew1 | refine below_set ?_ GE197.out) | exact HB.out)) hb); have n2_ := Aside0.mk (hbox); have n3_ := Aside0.mk ((by rw [hg]; exact (below_size (by repeat (first | (with_reducible first | exact HB.out | apply below_alloc | apply pw_below_drewN | apply below_drew1 | refine below_set ?_ GE197.out) | exact HB.out))) : w.heap.size ≤ gb206)); have n4_ := Aside0.mk ((by rw [hg]; exact (below_size (by repeat (first | (with_reducible first | exact HB.out | apply below_alloc | apply pw_below_drewN | apply below_drew1 | refine below_set ?_ GE197.out) | exact HB.out))) : w.heap.size ≤ gb206)); have n5_ := Aside0.mk ((by rw [hg]; exact Nat.ne_of_lt (blk_lt (g := gb197) (o := .cells #[.int .u8 x198000_25, .slice none 0 0, .slice none 0 0, .int .i64 x198003_25, .int .i64 x198004_25, .int .i64 x198005_25] 35 (0, 0)) (by (with_reducible repeat (first | refine blk_drewN ?_ _ | refine blk_drew ?_ | refine blk_alloc ?_ _)); exact BK197.out)) : gb197 ≠ gb206)); have n6_ := Aside0.mk ((by rw [hg]; exact Nat.ne_of_gt (blk_lt (g := gb197) (o := .cells #[.int .u8 x198000_25, .slice none 0 0, .slice none 0 0, .int .i64 x198003_25, .int .i64 x198004_25, .int .i64 x198005_25] 35 (0, 0)) (by (with_reducible repeat (first | refine blk_drewN ?_ _ | refine blk_drew ?_ | refine blk_alloc ?_ _)); exact BK197.out)) : gb206 ≠ gb197)); clear BK197; clear HB; have BK197 := n0_; have HB := n1_; have BK206 := n2_; have GW206 := n3_; have GE206 := n4_; have NB197_206 := n5_; have NB206_197 := n6_; clear n0_ n1_ n2_ n3_ n4_ n5_ n6_; clear hb hbox hg; have hnb53 := NB206_197.out; have hnc53 := NB197_206.out; have hcz54_0 : w52.cell? ⟨gb206, 0, none⟩ = some (.int .u8 0) := (blk_cell BK206.out 0).trans rfl; have hcz54_1 : w52.cell? ⟨gb206, 1, none⟩ = some (.slice none 0 0) := (blk_cell BK206.out 1).trans rfl; have hcz54_2 : w52.cell? ⟨gb206, 2, none⟩ = some (.slice none 0 0) := (blk_cell BK206.out 2).trans rfl; have hfz54_0 := blk_frozen BK206.out 0; have hfz54_1 := blk_frozen BK206.out 1; have hfz54_2 := blk_frozen BK206.out 2; have p207 : 0 ≤ (a1 : Int) := of_decide_eq_true (by first | (with_reducible assumption) | assumption); have q207 : a1 < (l0.length : Int) := of_decide_eq_true (by first | (with_reducible assumption) | assumption); obtain ⟨ad207, e207, hx207_0⟩ := Kd.at_int HR0.out a1 p207 q207; obtain rfl : ad198 = ad207 := (by injection e207); have hn207_0 : ad198.block ≠ gb206 := Nat.ne_of_lt (Nat.lt_of_lt_of_le (by have := World.block_lt_of_cell? _ _ hx207_0; first | rwa [add_block] at this | exact this) GW206.out); have hn207_1 : ad198.block ≠ gb206 := Nat.ne_of_lt (Nat.lt_of_lt_of_le (by have := World.block_lt_of_cell? _ _ hx207_0; first | rwa [add_block] at this | exact this) GW206.out); have hn207_2 : ad198.block ≠ gb206 := Nat.ne_of_lt (Nat.lt_of_lt_of_le (by have := World.block_lt_of_cell? _ _ hx207_0; first | rwa [add_block] at this | exact this) GW206.out); replace hx207_0 := (HB.out.cell (World.block_lt_of_cell? w _ hx207_0)).trans hx207_0; replace hx207_0 := (cell_far (p := ⟨gb206, 0, none⟩) (by first | (rw [add_block]; exact hn207_0) | (show (Addr.add _ _).block ≠ _; rw [add_block]; exact hn207_0) | exact hn207_0) (.int .u8 (rd l0 a1))).trans hx207_0; replace hx207_0 := (cell_far (p := ⟨gb206, 1, none⟩) (by first | (rw [add_block]; exact hn207_1) | (show (Addr.add _ _).block ≠ _; rw [add_block]; exact hn207_1) | exact hn207_1) (.slice none 0 0)).trans hx207_0; replace hx207_0 := (cell_far (p := ⟨gb206, 2, none⟩) (by first | (rw [add_block]; exact hn207_2) | (show (Addr.add _ _).block ≠ _; rw [add_block]; exact hn207_2) | exact hn207_2) (.slice none 0 0)).trans hx207_0; clear hn207_0; clear hn207_1; clear hn207_2; replace p207 := eq_true p207; replace q207 := eq_true q207) | ((with_reducible refine gate_dst (N := 117) rfl ?_); (try (refine gate_guard (by rfl) ?_; dsimp only)); refine Kd.R_lit (Kd.int .u8) _ 5 ?hg (N := 117) ?hd (xs := ([] : List Int)) (inner := []) (ok := fun _ => True) (okp := fun _ => True) ?hr ?hp (fun _ hk => hk) trivial (Below.refl _ _) (Nat.le_refl _) (by simp) ?_; (case hd => rfl); (case hg => rfl); (case hr => first | (go_simp; done) | (go_simp; rfl)); (case hp => exact (Reps.none _ _)); intro v209 w55 ho56 hb hg_ hnew_; clear hg_ hnew_; (first | rw [← Ny208.out] at ho56 | (simp only [Int.reduceToNat] at ho56; rw [← Ny208.out] at ho56)); have n0_ := Aside0.mk (Kd.R_lower ho56 (below_size (by repeat (first | (with_reducible first | exact HB.out | apply below_alloc | apply pw_below_drewN | apply below_drew1 | refine below_set ?_ GE197.out | refine below_set ?_ GE206.out) | exact HB.out)))); have n1_ := Aside0.mk (blk_below (g := gb197) (o := .cells #[.int .u8 x198000_25, .slice none 0 0, .slice none 0 0, .int .i64 x198003_25, .int .i64 x198004_25, .int .i64 x198005_25] 35 (0, 0)) (by (with_reducible repeat (first | refine blk_drewN ?_ _ | refine blk_drew ?_ | refine blk_alloc ?_ _)); refine blk_far ?_ NB197_206.out _; (with_reducible repeat (first | refine blk_drewN ?_ _ | refine blk_drew ?_ | refine blk_alloc ?_ _)); refine blk_far ?_ NB197_206.out _; (with_reducible repeat (first | refine blk_drewN ?_ _ | refine blk_drew ?_ | refine blk_alloc ?_ _)); refine blk_far ?_ NB197_206.out _; (with_reducible repeat (first | refine blk_drewN ?_ _ | refine blk_drew ?_ | refine blk_alloc ?_ _)); exact BK197.out) hb); have n2_ := Aside0.mk (blk_below (g := gb206) (o := .cells #[.int .u8 (rd l0 a1), .slice none 0 0, .slice none 0 0] 33 (0, 0)) (by (with_reducible repeat (first | refine blk_drewN ?_ _ | refine blk_drew ?_ | refine blk_alloc ?_ _)); refine blk_put (cs := #[.int .u8 (rd l0 a1), .slice none 0 0, .slice none 0 0]) ?_ 2 _ rfl; (with_reducible repeat (first | refine blk_drewN ?_ _ | refine blk_drew ?_ | refine blk_alloc ?_ _)); refine blk_put (cs := #[.int .u8 (rd l0 a1), .slice none 0 0, .slice none 0 0]) ?_ 1 _ rfl; (with_reducible repeat (first | refine blk_drewN ?_ _ | refine blk_drew ?_ | refine blk_alloc ?_ _)); refine blk_put (cs := #[.int .u8 0, .slice none 0 0, .slice none 0 0]) ?_ 0 _ rfl; (with_reducible repeat (first | refine blk_drewN ?_ _ | refine blk_drew ?_ | refine blk_alloc ?_ _)); exact BK206.out) hb); have n3_ := Aside0.mk (below_step (by repeat (first | (with_reducible first | exact HB.out | apply below_alloc | apply pw_below_drewN | apply below_drew1 | refine below_set ?_ GE197.out | refine below_set ?_ GE206.out) | exact HB.out)) hb); clear BK197; clear BK206; clear HB; have HO210 := n0_; have BK197 := n1_; have BK206 := n2_; have HB := n3_; clear n0_ n1_ n2_ n3_; clear hb ho56; obtain ⟨i057, hi057, _, hsz57, _⟩ := info_parts info5; obtain ⟨A57, hcut57, hA57, hC57⟩ := print_mid_of (P := Tryd.prog) (Value.int .u8) 0 22 5 .i64 .i64 Tryd.underlying22 hi057 hsz57 (some ad198) c0 l0 x10_25 (wrap64 (x10_25 + x9_25)) (of_decide_eq_true (by first | (with_reducible assumption) | assumption)) (by first | omega | exact of_decide_eq_true (by first | (with_reducible assumption) | assumption)) (of_decide_eq_true (by first | (with_reducible assumption) | assumption)) HC0.out; have HR211 := Aside0.mk (Kd.C_of_reads (h1 := fun _ => rfl) (hA57 _ (Kd.reads_of_C HR0.out))); have HC211 := Aside0.mk hC57; clear hA57 hC57 hi057 hsz57) | ((with_reducible refine gate_builtin (b := .append) (xs := #[.tmp 117, .tmp 123]) rfl ?_); (try (refine gate_guard (by rfl) ?_; dsimp only)); at_builtin; refine Kd.R_append_rows (Kd.int .u8) (w0 := w) w.heap.size rfl (.tmp 117) (.tmp 123) 22 5 (.int .u8 0) 1 rfl Tryd.underlying22 info5 rfl (by decide) (by omega) v209 y208 ((l0.take ((wrap64 (x10_25 + x9_25)) : Int).toNat).drop (x10_25 : Int).toNat) _ _ _ (fun _ => True) (fun _ => False) rfl rfl ?aO ?aR (fun _ _ h => h) (fun _ h => h.elim) ?aF ?aB ?aS ?aL ?_; (case aR => first | (rw [← show ((l0.take ((wrap64 (x10_25 + x9_25)) : Int).toNat).drop (x10_25 : Int).toNat).length = ((wrap64 (x10_25 + x9_25)).toNat - x10_25.toNat) from (by rw [List.length_drop, List.length_take]; have h_ : ((wrap64 (x10_25 + x9_25)) : Int) ≤ (l0.length : Int) := of_decide_eq_true (by first | (with_reducible assumption) | assumption); omega)]; repeat (first | exact (Kd.C_below HR211.out HB.out) | (with_reducible refine Kd.C_alloc ?_ _) | (with_reducible refine Kd.C_drewN ?_ _) | (with_reducible refine Kd.C_drew ?_))) | (repeat (first | exact (Kd.C_below HR211.out HB.out) | (with_reducible refine Kd.C_alloc ?_ _) | (with_reducible refine Kd.C_drewN ?_ _) | (with_reducible refine Kd.C_drew ?_)))); (case aB => exact (by repeat (first | (with_reducible first | exact HB.out | apply below_alloc | apply pw_below_drewN | apply below_drew1 | refine below_set ?_ GE197.out | refine below_set ?_ GE206.out) | exact HB.out))); (case aF => exact (fun _ _ => trivial)); (case aO => exact (by (with_reducible repeat (first | apply Kd.R_alloc | apply Kd.R_drewN | apply Kd.R_drew)); exact HO210.out)); (case aS => exact (below_size (by repeat (first | (with_reducible first | exact HB.out | apply below_alloc | apply pw_below_drewN | apply below_drew1 | refine below_set ?_ GE197.out | refine below_set ?_ GE206.out) | exact HB.out)))); (case aL => have := LMc51.out; have hlx_ := (show ((l0.take ((wrap64 (x10_25 + x9_25)) : Int).toNat).drop (x10_25 : Int).toNat).length = ((wrap64 (x10_25 + x9_25)).toNat - x10_25.toNat) from (by rw [List.length_drop, List.length_take]; have h_ : ((wrap64 (x10_25 + x9_25)) : Int) ≤ (l0.length : Int) := of_decide_eq_true (by first | (with_reducible assumption) | assumption); omega)); omega); intro v213 w58 ho hb hg hat; rw [← Ny212.out] at ho; have n0_ := Aside0.mk (blk_grown (g := gb197) (o := .cells #[.int .u8 x198000_25, .slice none 0 0, .slice none 0 0, .int .i64 x198003_25, .int .i64 x198004_25, .int .i64 x198005_25] 35 (0, 0)) (by (with_reducible repeat (first | refine blk_drewN ?_ _ | refine blk_drew ?_ | refine blk_alloc ?_ _)); exact BK197.out) hg (Kd.R_ne HO210.out BK197.out (by decide))); have n1_ := Aside0.mk (blk_grown (g := gb206) (o := .cells #[.int .u8 (rd l0 a1), .slice none 0 0, .slice none 0 0] 33 (0, 0)) (by (with_reducible repeat (first | refine blk_drewN ?_ _ | refine blk_drew ?_ | refine blk_alloc ?_ _)); exact BK206.out) hg (Kd.R_ne HO210.out BK206.out (by decide))); have n2_ := Aside0.mk (hb); have n3_ := Aside0.mk (ho); clear BK197; clear BK206; clear HB; clear HO210; have BK197 := n0_; have BK206 := n1_; have HB := n2_; have HO214 := n3_; clear n0_ n1_ n2_ n3_; clear ho hb hg hat; obtain ⟨Ao59, co59, eo59⟩ := Kd.R_slice HO214.out; subst eo59; have hcz60_0 : w58.cell? ⟨gb206, 0, none⟩ = some (.int .u8 (rd l0 a1)) := (blk_cell BK206.out 0).trans rfl; have hcz60_1 : w58.cell? ⟨gb206, 1, none⟩ = some (.slice none 0 0) := (blk_cell BK206.out 1).trans rfl; have hcz60_2 : w58.cell? ⟨gb206, 2, none⟩ = some (.slice none 0 0) := (blk_cell BK206.out 2).trans rfl; have hfz60_0 := blk_frozen BK206.out 0; have hfz60_1 := blk_frozen BK206.out 1; have hfz60_2 := blk_frozen BK206.out 2; have hcz61_0 : w58.cell? ⟨gb197, 0, none⟩ = some (.int .u8 x198000_25) := (blk_cell BK197.out 0).trans rfl; have hcz61_1 : w58.cell? ⟨gb197, 1, none⟩ = some (.slice none 0 0) := (blk_cell BK197.out 1).trans rfl; have hcz61_2 : w58.cell? ⟨gb197, 2, none⟩ = some (.slice none 0 0) := (blk_cell BK197.out 2).trans rfl; have hcz61_3 : w58.cell? ⟨gb197, 3, none⟩ = some (.int .i64 x198003_25) := (blk_cell BK197.out 3).trans rfl; have hcz61_4 : w58.cell? ⟨gb197, 4, none⟩ = some (.int .i64 x198004_25) := (blk_cell BK197.out 4).trans rfl; have hcz61_5 : w58.cell? ⟨gb197, 5, none⟩ = some (.int .i64 x198005_25) := (blk_cell BK197.out 5).trans rfl; have hfz61_0 := blk_frozen BK197.out 0; have hfz61_1 := blk_frozen BK197.out 1; have hfz61_2 := blk_frozen BK197.out 2; have hfz61_3 := blk_frozen BK197.out 3; have hfz61_4 := blk_frozen BK197.out 4; have hfz61_5 := blk_frozen BK197.out 5))
                                            refine bodyPost_ret (results_cell_row rfl _ _ gb197 35 #[.int .u8 (rd l0 a1), .slice Ao59 y212.length co59, .slice none 0 0, .int .i64 (wrap64 (x10_25 + x9_25)), .int .i64 0, .int .i64 0] (0, 0) _ rfl (by (with_reducible repeat (first | refine blk_drewN ?_ _ | refine blk_drew ?_ | refine blk_alloc ?_ _)); refine blk_put (cs := #[.int .u8 (rd l0 a1), .slice Ao59 y212.length co59, .slice none 0 0, .int .i64 (wrap64 (x10_25 + x9_25)), .int .i64 0, .int .i64 x198005_25]) ?_ 5 _ (by first | rfl | (rw [hji18]; rfl)); (with_reducible repeat (first | refine blk_drewN ?_ _ | refine blk_drew ?_ | refine blk_alloc ?_ _)); refine blk_put (cs := #[.int .u8 (rd l0 a1), .slice Ao59 y212.length co59, .slice none 0 0, .int .i64 (wrap64 (x10_25 + x9_25)), .int .i64 x198004_25, .int .i64 x198005_25]) ?_ 4 _ rfl; (with_reducible repeat (first | refine blk_drewN ?_ _ | refine blk_drew ?_ | refine blk_alloc ?_ _)); refine blk_put (cs := #[.int .u8 (rd l0 a1), .slice Ao59 y212.length co59, .slice none 0 0, .int .i64 x198003_25, .int .i64 x198004_25, .int .i64 x198005_25]) ?_ 3 _ rfl; (with_reducible repeat (first | refine blk_drewN ?_ _ | refine blk_drew ?_ | refine blk_alloc ?_ _)); refine blk_put (cs := #[.int .u8 (rd l0 a1), .slice Ao59 y212.length co59, .slice none 0 0, .int .i64 x198003_25, .int .i64 x198004_25, .int .i64 x198005_25]) ?_ 2 _ rfl; (with_reducible repeat (first | refine blk_drewN ?_ _ | refine blk_drew ?_ | refine blk_alloc ?_ _)); refine blk_put (cs := #[.int .u8 (rd l0 a1), .slice none 0 0, .slice none 0 0, .int .i64 x198003_25, .int .i64 x198004_25, .int .i64 x198005_25]) ?_ 1 _ rfl; (with_reducible repeat (first | refine blk_drewN ?_ _ | refine blk_drew ?_ | refine blk_alloc ?_ _)); refine blk_put (cs := #[.int .u8 x198000_25, .slice none 0 0, .slice none 0 0, .int .i64 x198003_25, .int .i64 x198004_25, .int .i64 x198005_25]) ?_ 0 _ rfl; (with_reducible repeat (first | refine blk_drewN ?_ _ | refine blk_drew ?_ | refine blk_alloc ?_ _)); refine blk_far ?_ NB197_206.out _; (with_reducible repeat (first | refine blk_drewN ?_ _ | refine blk_drew ?_ | refine blk_alloc ?_ _)); exact BK197.out) Tryd.underlying35 rfl (by kernel_rfl)) rfl ?_
                                            exact ⟨_, _, by first | rfl | (simp [errW_none, errW_some] <;> rfl) | (simp only [← hji18]; first | rfl | (simp [errW_none, errW_some] <;> rfl)) | (simp [*, errW_none, errW_some] <;> rfl), by (with_reducible repeat (first | apply Kd.R_alloc | apply Kd.R_drewN | apply Kd.R_drew)); exact Kd.R_mono (Kd.R_far (p := ⟨gb197, 5, none⟩) (Kd.R_far (p := ⟨gb197, 4, none⟩) (Kd.R_far (p := ⟨gb197, 3, none⟩) (Kd.R_far (p := ⟨gb197, 2, none⟩) (Kd.R_far (p := ⟨gb197, 1, none⟩) (Kd.R_far (p := ⟨gb197, 0, none⟩) (Kd.R_far (p := ⟨gb206, 1, none⟩) (Kd.R_types (Kd.R_types HO214.out BK206.out (by decide)) BK197.out (by decide)) (fun _ hk => hk.1.2) (.slice Ao59 y212.length co59)) (fun _ hk => hk.2) (.int .u8 (rd l0 a1))) (fun _ hk => hk.2) (.slice Ao59 y212.length co59)) (fun _ hk => hk.2) (.slice none 0 0)) (fun _ hk => hk.2) (.int .i64 (wrap64 (x10_25 + x9_25)))) (fun _ hk => hk.2) (.int .i64 0)) (fun _ hk => hk.2) (.int .i64 0)) (fun _ hk => trivial), by first | exact Kd.R_nil _ _ _ _ _ | exact Kd.N_nil _ _ _ _ _ | exact Kd.V_nil _ _ _ _ _ | exact Kd.Q_nil _ _ _ _ _ | exact Kd.S_nil _ _ _ _ _, by repeat (first | (with_reducible first | exact HB.out | apply below_alloc | apply pw_below_drewN | apply below_drew1 | refine below_set ?_ GE197.out | refine below_set ?_ GE206.out) | exact HB.out)⟩
                                          · rw [if_neg c51] at H
                                            exact absurd H (by simp)
                                        · rw [if_neg c50] at H
                                          exact absurd H (by simp)
                                      · rw [if_neg c49] at H
                                        exact absurd H (by simp)
                                    · rw [if_neg c48] at H
                                      exact absurd H (by simp)
                                  · rw [if_neg c47] at H
                                    have c47b0 : ((((Int.tdiv (rd l0 a1) 32) % 256) % 2) == 0) = false := beq_eq_false_iff_ne.mpr c47
                                    have c47b1 : ((((Int.tdiv (rd l0 a1) 32) % 256) % 2) != 0) = true := bne_iff_ne.mpr c47
                                    have H' := Aside0.mk H
                                    clear H
                                    have p205 : 0 ≤ (a1 : Int) := of_decide_eq_true (by first | (with_reducible assumption) | assumption)
                                    have q205 : a1 < (l0.length : Int) := of_decide_eq_true (by first | (with_reducible assumption) | assumption)
                                    obtain ⟨ad205, e205, hx205_0⟩ := Kd.at_int HR0.out a1 p205 q205
                                    obtain rfl : ad198 = ad205 := (by injection e205)
                                    replace hx205_0 := (HB.out.cell (World.block_lt_of_cell? w _ hx205_0)).trans hx205_0
                                    replace p205 := eq_true p205
                                    replace q205 := eq_true q205
                                    go_wp2_with (first | ((with_reducible refine gate_dst (N := 13) rfl ?_); (try (refine gate_guard (by rfl) ?_; dsimp only)); refine box_event ?hg (N := 13) ?hd (cs := #[.int .u8 0, .slice none 0 0, .slice none 0 0]) (t := 33) ?hr ?_; (case hd => rfl); (case hg => rfl); (case hr => first | (go_simp; done) | (go_simp; rfl)); intro gb206 hg w62 hbox hb; have n0_ := Aside0.mk (blk_below (g := gb197) (o := .cells #[.int .u8 x198000_25, .slice none 0 0, .slice none 0 0, .int .i64 x198003_25, .int .i64 x198004_25, .int .i64 x198005_25] 35 (0, 0)) (by (with_reducible repeat (first | refine blk_drewN ?_ _ | refine blk_drew ?_ | refine blk_alloc ?_ _)); exact BK197.out) hb); have n1_ := Aside0.mk (below_step (by repeat (first | (with_reducible first | exact HB.out | apply below_alloc | apply pw_below_drewN | apply below_drew1 | refine below_set ?_ GE197.out) | exact HB.out)) hb); have n2_ := Aside0.mk (hbox); have n3_ := Aside0.mk ((by rw [hg]; exact (below_size (by repeat (first | (with_reducible first | exact HB.out | apply below_alloc | apply pw_below_drewN | apply below_drew1 | refine below_set ?_ GE197.out) | exact HB.out))) : w.heap.size ≤ gb206)); have n4_ := Aside0.mk ((by rw [hg]; exact (below_size (by repeat (first | (with_reducible first | exact HB.out | apply below_alloc | apply pw_below_drewN | apply below_drew1 | refine below_set ?_ GE197.out) | exact HB.out))) : w.heap.size ≤ gb206)); have n5_ := Aside0.mk ((by rw [hg]; exact Nat.ne_of_lt (blk_lt (g := gb197) (o := .cells #[.int .u8 x198000_25, .slice none 0 0, .slice none 0 0, .int .i64 x198003_25, .int .i64 x198004_25, .int .i64 x198005_25] 35 (0, 0)) (by (with_reducible repeat (first | refine blk_drewN ?_ _ | refine blk_drew ?_ | refine blk_alloc ?_ _)); exact BK197.out)) : gb197 ≠ gb206)); have n6_ := Aside0.mk ((by rw [hg]; exact Nat.ne_of_gt (blk_lt (g := gb197) (o := .cells #[.int .u8 x198000_25, .slice none 0 0, .slice none 0 0, .int .i64 x198003_25, .int .i64 x198004_25, .int .i64 x198005_25] 35 (0, 0)) (by (with_reducible repeat (first | refine blk_drewN ?_ _ | refine blk_drew ?_ | refine blk_alloc ?_ _)); exact BK197.out)) : gb206 ≠ gb197)); clear BK197; clear HB; have BK197 := n0_; have HB := n1_; have BK206 := n2_; have GW206 := n3_; have GE206 := n4_; have NB197_206 := n5_; have NB206_197 := n6_; clear n0_ n1_ n2_ n3_ n4_ n5_ n6_; clear hb hbox hg; have hnb63 := NB206_197.out; have hnc63 := NB197_206.out; have hcz64_0 : w62.cell? ⟨gb206, 0, none⟩ = some (.int .u8 0) := (blk_cell BK206.out 0).trans rfl; have hcz64_1 : w62.cell? ⟨gb206, 1, none⟩ = some (.slice none 0 0) := (blk_cell BK206.out 1).trans rfl; have hcz64_2 : w62.cell? ⟨gb206, 2, none⟩ = some (.slice none 0 0) := (blk_cell BK206.out 2).trans rfl; have hfz64_0 := blk_frozen BK206.out 0; have hfz64_1 := blk_frozen BK206.out 1; have hfz64_2 := blk_frozen BK206.out 2; have p207 : 0 ≤ (a1 : Int) := of_decide_eq_true (by first | (with_reducible assumption) | assumption); have q207 : a1 < (l0.length : Int) := of_decide_eq_true (by first | (with_reducible assumption) | assumption); obtain ⟨ad207, e207, hx207_0⟩ := Kd.at_int HR0.out a1 p207 q207; obtain rfl : ad198 = ad207 := (by injection e207); have hn207_0 : ad198.block ≠ gb206 := Nat.ne_of_lt (Nat.lt_of_lt_of_le (by have := World.block_lt_of_cell? _ _ hx207_0; first | rwa [add_block] at this | exact this) GW206.out); have hn207_1 : ad198.block ≠ gb206 := Nat.ne_of_lt (Nat.lt_of_lt_of_le (by have := World.block_lt_of_cell? _ _ hx207_0; first | rwa [add_block] at this | exact this) GW206.out); have hn207_2 : ad198.block ≠ gb206 := Nat.ne_of_lt (Nat.lt_of_lt_of_le (by have := World.block_lt_of_cell? _ _ hx207_0; first | rwa [add_block] at this | exact this) GW206.out); replace hx207_0 := (HB.out.cell (World.block_lt_of_cell? w _ hx207_0)).trans hx207_0; replace hx207_0 := (cell_far (p := ⟨gb206, 0, none⟩) (by first | (rw [add_block]; exact hn207_0) | (show (Addr.add _ _).block ≠ _; rw [add_block]; exact hn207_0) | exact hn207_0) (.int .u8 (rd l0 a1))).trans hx207_0; replace hx207_0 := (cell_far (p := ⟨gb206, 1, none⟩) (by first | (rw [add_block]; exact hn207_1) | (show (Addr.add _ _).block ≠ _; rw [add_block]; exact hn207_1) | exact hn207_1) (.slice none 0 0)).trans hx207_0; replace hx207_0 := (cell_far (p := ⟨gb206, 2, none⟩) (by first | (rw [add_block]; exact hn207_2) | (show (Addr.add _ _).block ≠ _; rw [add_block]; exact hn207_2) | exact hn207_2) (.slice none 0 0)).trans hx207_0; clear hn207_0; clear hn207_1; clear hn207_2; replace p207 := eq_true p207; replace q207 := eq_true q207))
                                    go_loopg [10] kj25 (fun kq v10 w' => ∃ (x10_3 : Int) (x198000_3 : Int) (x198003_3 : Int) (x198004_3 : Int) (x198005_3 : Int) (x207002_3 : List (S33)) (u207002 : Value), v10 = .int .i64 x10_3 ∧ Aside0 (pyxref08_read.l1 kq l0 a3 x10_3 (wrap64 (x10_25 + x9_25)) (rd l0 a1) x207002_3 = some (r1, r2, r3, r4, r5, r6)) ∧ Aside0 (kq ≤ kj25) ∧ Aside0 (Kd.R k33 33 w' w.heap.size (fun k_ => k_ ≠ gb206) u207002 x207002_3) ∧ Aside0 (w'.heap[gb197]? = some (.cells #[.int .u8 x198000_3, (.slice none 0 0), (.slice none 0 0), .int .i64 x198003_3, .int .i64 x198004_3, .int .i64 x198005_3] 35 (0, 0))) ∧ Aside0 (w'.heap[gb206]? = some (.cells #[.int .u8 (rd l0 a1), (.slice none 0 0), u207002] 33 (0, 0))) ∧ Aside0 (Below w.heap.size w w'))
                                    case atStart => exact ⟨(x10_25), (x198000_25), (x198003_25), (x198004_25), (x198005_25), (([] : List (S33))), (.slice none 0 0), (by first | rfl | (simp; done) | (simp [*]; done)), H', ⟨Nat.le_refl _⟩, ⟨by first | exact Kd.R_nil _ _ _ _ _ | exact Kd.N_nil _ _ _ _ _ | exact Kd.V_nil _ _ _ _ _ | exact Kd.Q_nil _ _ _ _ _ | exact Kd.S_nil _ _ _ _ _⟩, ⟨by (with_reducible repeat (first | refine blk_drewN ?_ _ | refine blk_drew ?_ | refine blk_alloc ?_ _)); refine blk_far ?_ NB197_206.out _; (with_reducible repeat (first | refine blk_drewN ?_ _ | refine blk_drew ?_ | refine blk_alloc ?_ _)); refine blk_far ?_ NB197_206.out _; (with_reducible repeat (first | refine blk_drewN ?_ _ | refine blk_drew ?_ | refine blk_alloc ?_ _)); refine blk_far ?_ NB197_206.out _; (with_reducible repeat (first | refine blk_drewN ?_ _ | refine blk_drew ?_ | refine blk_alloc ?_ _)); exact BK197.out⟩, ⟨by (with_reducible repeat (first | refine blk_drewN ?_ _ | refine blk_drew ?_ | refine blk_alloc ?_ _)); refine blk_put (cs := #[.int .u8 (rd l0 a1), .slice none 0 0, .slice none 0 0]) ?_ 2 _ rfl; (with_reducible repeat (first | refine blk_drewN ?_ _ | refine blk_drew ?_ | refine blk_alloc ?_ _)); refine blk_put (cs := #[.int .u8 (rd l0 a1), .slice none 0 0, .slice none 0 0]) ?_ 1 _ rfl; (with_reducible repeat (first | refine blk_drewN ?_ _ | refine blk_drew ?_ | refine blk_alloc ?_ _)); refine blk_put (cs := #[.int .u8 0, .slice none 0 0, .slice none 0 0]) ?_ 0 _ rfl; (with_reducible repeat (first | refine blk_drewN ?_ _ | refine blk_drew ?_ | refine blk_alloc ?_ _)); exact BK206.out⟩, ⟨by repeat (first | (with_reducible first | exact HB.out | apply below_alloc | apply pw_below_drewN | apply below_drew1 | refine below_set ?_ GE197.out | refine below_set ?_ GE206.out) | exact HB.out)⟩⟩
                                    case round =>
                                      clear H'
                                      try clear c1
                                      try clear p1
                                      try clear q1
                                      try clear hx1
                                      try clear c2
                                      try clear p2
                                      try clear q2
                                      try clear hx2
                                      try clear c3
                                      try clear c4
                                      try clear c5
                                      try clear c5b0
                                      try clear c6
                                      try clear p6
                                      try clear c7
                                      try clear c8
                                      try clear c8b0
                                      try clear c9
                                      try clear c9b0
                                      try clear c11
                                      try clear c12
                                      try clear c12b0
                                      try clear c15
                                      try clear c15b0
                                      try clear c19
                                      try clear c19b0
                                      try clear p19
                                      try clear q19
                                      try clear hx19
                                      try clear c20
                                      try clear c20b0
                                      try clear p20
                                      try clear q20
                                      try clear hx20
                                      try clear c23
                                      try clear c23b0
                                      try clear c23b1
                                      try clear c24
                                      try clear c27
                                      try clear c27b0
                                      try clear c28
                                      try clear c28b0
                                      try clear c30
                                      try clear c30b0
                                      try clear c32
                                      try clear c32b0
                                      try clear c33
                                      try clear c33b0
                                      try clear c34
                                      try clear c34b0
                                      try clear c37
                                      try clear c37b0
                                      try clear c37b1
                                      try clear c43
                                      try clear c43b0
                                      try clear c45
                                      try clear c45b0
                                      try clear c46
                                      try clear c46b0
                                      try clear c47
                                      try clear c47b0
                                      try clear c47b1
                                      try clear c48
                                      try clear c48b0
                                      try clear c48b1
                                      try clear c49
                                      try clear c49b0
                                      try clear c49b1
                                      try clear c50
                                      try clear c50b0
                                      try clear c50b1
                                      try clear c51
                                      try clear c53
                                      try clear c63
                                      try clear p64
                                      try clear hcz14_0
                                      try clear hcz14_1
                                      try clear hcz14_2
                                      try clear hcz14_3
                                      try clear hcz14_4
                                      try clear hcz14_5
                                      try clear hcz17_0
                                      try clear hcz17_1
                                      try clear hcz17_2
                                      try clear hcz17_3
                                      try clear hcz17_4
                                      try clear hcz17_5
                                      try clear hcz25_0
                                      try clear hcz25_1
                                      try clear hcz25_2
                                      try clear hcz25_3
                                      try clear hcz25_4
                                      try clear hcz25_5
                                      try clear hcz29_0
                                      try clear hcz29_1
                                      try clear hcz29_2
                                      try clear hcz29_3
                                      try clear hcz29_4
                                      try clear hcz29_5
                                      try clear hcz35_0
                                      try clear hcz35_1
                                      try clear hcz35_2
                                      try clear hcz35_3
                                      try clear hcz35_4
                                      try clear hcz35_5
                                      try clear hcz42_0
                                      try clear hcz42_1
                                      try clear hcz42_2
                                      try clear hcz42_3
                                      try clear hcz42_4
                                      try clear hcz42_5
                                      try clear hcz44_0
                                      try clear hcz44_1
                                      try clear hcz44_2
                                      try clear hcz44_3
                                      try clear hcz44_4
                                      try clear hcz44_5
                                      try clear hcz54_0
                                      try clear hcz54_1
                                      try clear hcz54_2
                                      try clear hcz60_0
                                      try clear hcz60_1
                                      try clear hcz60_2
                                      try clear hcz61_0
                                      try clear hcz61_1
                                      try clear hcz61_2
                                      try clear hcz61_3
                                      try clear hcz61_4
                                      try clear hcz61_5
                                      try clear hcz64_0
                                      try clear hcz64_1
                                      try clear hcz64_2
                                      try clear hcz7_0
                                      try clear hcz7_1
                                      try clear hcz7_2
                                      try clear hcz7_3
                                      try clear hcz7_4
                                      try clear hcz7_5
                                      try clear hfz14_0
                                      try clear hfz14_1
                                      try clear hfz14_2
                                      try clear hfz14_3
                                      try clear hfz14_4
                                      try clear hfz14_5
                                      try clear hfz17_0
                                      try clear hfz17_1
                                      try clear hfz17_2
                                      try clear hfz17_3
                                      try clear hfz17_4
                                      try clear hfz17_5
                                      try clear hfz25_0
                                      try clear hfz25_1
                                      try clear hfz25_2
                                      try clear hfz25_3
                                      try clear hfz25_4
                                      try clear hfz25_5
                                      try clear hfz29_0
                                      try clear hfz29_1
                                      try clear hfz29_2
                                      try clear hfz29_3
                                      try clear hfz29_4
                                      try clear hfz29_5
                                      try clear hfz35_0
                                      try clear hfz35_1
                                      try clear hfz35_2
                                      try clear hfz35_3
                                      try clear hfz35_4
                                      try clear hfz35_5
                                      try clear hfz42_0
                                      try clear hfz42_1
                                      try clear hfz42_2
                                      try clear hfz42_3
                                      try clear hfz42_4
                                      try clear hfz42_5
                                      try clear hfz44_0
                                      try clear hfz44_1
                                      try clear hfz44_2
                                      try clear hfz44_3
                                      try clear hfz44_4
                                      try clear hfz44_5
                                      try clear hfz54_0
                                      try clear hfz54_1
                                      try clear hfz54_2
                                      try clear hfz60_0
                                      try clear hfz60_1
                                      try clear hfz60_2
                                      try clear hfz61_0
                                      try clear hfz61_1
                                      try clear hfz61_2
                                      try clear hfz61_3
                                      try clear hfz61_4
                                      try clear hfz61_5
                                      try clear hfz64_0
                                      try clear hfz64_1
                                      try clear hfz64_2
                                      try clear hfz7_0
                                      try clear hfz7_1
                                      try clear hfz7_2
                                      try clear hfz7_3
                                      try clear hfz7_4
                                      try clear hfz7_5
                                      try clear hx198_0
                                      try clear hx200_0
                                      try clear hx201_0
                                      try clear hx205_0
                                      try clear hx207_0
                                      try clear p1
                                      try clear p19
                                      try clear p198
                                      try clear p2
                                      try clear p20
                                      try clear p200
                                      try clear p201
                                      try clear p205
                                      try clear p207
                                      try clear p6
                                      try clear q1
                                      try clear q19
                                      try clear q198
                                      try clear q2
                                      try clear q20
                                      try clear q200
                                      try clear q201
                                      try clear q205
                                      try clear q207
                                      obtain ⟨x10_3, x198000_3, x198003_3, x198004_3, x198005_3, x207002_3, u207002, rfl, HA, HK3, HO_207002, BK197, BK206, HB⟩ := hrel
                                      cases gk with
                                      | zero => exact absurd HA.out (by simp [pyxref08_read.l1])
                                      | succ k3 =>
                                        have H := HA.out
                                        clear HA
                                        simp only [pyxref08_read.l1] at H
                                        by_cases c65 : x10_3 < (wrap64 (x10_25 + x9_25))
                                        · rw [if_pos c65] at H
                                          have c65b0 : decide (x10_3 < (wrap64 (x10_25 + x9_25))) = true := decide_eq_true c65
                                          clear c65
                                          replace H := Option.bind_eq_some_iff.mp H
                                          obtain ⟨⟨t215, t216, t219, t222, t223, t224⟩, A660, H⟩ := H
                                          replace H : (if t223 = 0 then (if x207002_3.length < 2513169434916 then (pyxref08_read.l1 k3 l0 a3 t222 (wrap64 (x10_25 + x9_25)) (rd l0 a1) (x207002_3 ++ [(⟨t215, t216, t219⟩ : S33)])) else (none)) else (some (t215, t216, t219, t222, t223, t224))) = some (r1, r2, r3, r4, r5, r6) := H
                                          have A66 := Aside0.mk A660
                                          clear A660
                                          by_cases c67 : t223 = 0
                                          · rw [if_pos c67] at H
                                            have c67b0 : (t223 == 0) = true := beq_iff_eq.mpr c67
                                            have c67b1 : (t223 != 0) = false := bne_eq_false_iff_eq.mpr c67
                                            clear c67
                                            by_cases c68 : x207002_3.length < 2513169434916
                                            · rw [if_pos c68] at H
                                              have LMc68 := Aside0.mk c68
                                              clear c68
                                              obtain ⟨y226, hy226⟩ : ∃ y_ : List (S33), y_ = (x207002_3 ++ [(⟨t215, t216, t219⟩ : S33)]) := ⟨_, rfl⟩
                                              replace H : (pyxref08_read.l1 k3 l0 a3 t222 (wrap64 (x10_25 + x9_25)) (rd l0 a1) y226) = some (r1, r2, r3, r4, r5, r6) := by first | (rw [hy226]; with_reducible exact H) | (have H2_ := (Option.bind_some _ _).symm.trans H; rw [hy226]; with_reducible exact H2_) | (have H2_ := (Option.bind_some _ _).symm.trans H; with_reducible exact H2_) | with_reducible exact H | (rw [hy226]; exact H) | exact H
                                              have Ny226 := Aside0.mk hy226
                                              clear hy226
                                              have H' := Aside0.mk H
                                              clear H
                                              go_wp2_with (first | ((with_reducible refine gate_callee (f := 47) rfl ?_); refine goesL_ (some 142) rfl rfl Tryd.func47 (by kernel_rfl) rfl #[.slice (some ad198) l0.length c0, .int .i64 x10_3, .int .i64 (wrap64 (x10_25 + x9_25)), .int .i64 (wrap64 (a3 + 1))] rfl (by (try simp only [List.map_toArray, List.map_cons, List.map_nil]); first | done | rfl | (simp only [List.length_drop, List.length_take]; rfl)) ?_; (with_reducible refine (ih k3 (by have := HJ20.out; have := HJ25.out; have := HK3.out; omega) _ _ l0 x10_3 (wrap64 (x10_25 + x9_25)) (wrap64 (a3 + 1)) t215 t216 t219 t222 t223 t224 _ ?side1 ?side2 A66.out).mono ?_); (case side1 => repeat (first | exact (Kd.C_below HR0.out HB.out) | (with_reducible refine Kd.C_alloc ?_ _) | (with_reducible refine Kd.C_drewN ?_ _) | (with_reducible refine Kd.C_drew ?_))); (case side2 => exact HC0.out); rintro e w69 ⟨v217, v220, rfl, ho0, ho1, hb⟩; refine ⟨_, rfl, ?_⟩; have n0_ := Aside0.mk (Kd.R_mono (Kd.R_told (Kd.R_told (Kd.R_old (by (with_reducible repeat (first | apply Kd.R_alloc | apply Kd.R_drewN | apply Kd.R_drew)); exact HO_207002.out) hb) (Kd.R_base ho0)) (Kd.R_base ho1)) (fun _ h_ => h_.1)); have n1_ := Aside0.mk (Kd.R_lower ho0 (below_size (by repeat (first | (with_reducible first | exact HB.out | apply below_alloc | apply pw_below_drewN | apply below_drew1 | refine below_set ?_ GE197.out | refine below_set ?_ GE206.out) | exact HB.out)))); have n2_ := Aside0.mk (Kd.R_lower (Kd.R_newB (Kd.R_new' ho1 (Kd.R_lt (by (with_reducible repeat (first | apply Kd.R_alloc | apply Kd.R_drewN | apply Kd.R_drew)); exact HO_207002.out))) (g := gb206) (o := .cells #[.int .u8 (rd l0 a1), .slice none 0 0, u207002] 33 (0, 0)) (by (with_reducible repeat (first | refine blk_drewN ?_ _ | refine blk_drew ?_ | refine blk_alloc ?_ _)); exact BK206.out)) (below_size (by repeat (first | (with_reducible first | exact HB.out | apply below_alloc | apply pw_below_drewN | apply below_drew1 | refine below_set ?_ GE197.out | refine below_set ?_ GE206.out) | exact HB.out)))); have n3_ := Aside0.mk (blk_below (g := gb197) (o := .cells #[.int .u8 x198000_3, .slice none 0 0, .slice none 0 0, .int .i64 x198003_3, .int .i64 x198004_3, .int .i64 x198005_3] 35 (0, 0)) (by (with_reducible repeat (first | refine blk_drewN ?_ _ | refine blk_drew ?_ | refine blk_alloc ?_ _)); exact BK197.out) hb); have n4_ := Aside0.mk (blk_below (g := gb206) (o := .cells #[.int .u8 (rd l0 a1), .slice none 0 0, u207002] 33 (0, 0)) (by (with_reducible repeat (first | refine blk_drewN ?_ _ | refine blk_drew ?_ | refine blk_alloc ?_ _)); exact BK206.out) hb); have n5_ := Aside0.mk (below_step (by repeat (first | (with_reducible first | exact HB.out | apply below_alloc | apply pw_below_drewN | apply below_drew1 | refine below_set ?_ GE197.out | refine below_set ?_ GE206.out) | exact HB.out)) hb); clear HO_207002; clear BK197; clear BK206; clear HB; have HO_207002 := n0_; have HO218 := n1_; have HO221 := n2_; have BK197 := n3_; have BK206 := n4_; have HB := n5_; clear n0_ n1_ n2_ n3_ n4_ n5_; (try clear hb); (try clear hb2); (try clear hk); (try clear hi); (try clear ho0); (try clear ho1)) | ((with_reducible refine gate_dst (N := 15) rfl ?_); (try (refine gate_guard (by rfl) ?_; dsimp only)); refine box_event ?hg (N := 15) ?hd (cs := #[.int .u8 0, .slice none 0 0, .slice none 0 0, .int .i64 0, .int .i64 0, .int .i64 0]) (t := 35) ?hr ?_; (case hd => rfl); (case hg => rfl); (case hr => first | (go_simp; done) | (go_simp; rfl)); intro gb225 hg w70 hbox hb; have n0_ := Aside0.mk (Kd.R_below (by (with_reducible repeat (first | apply Kd.R_alloc | apply Kd.R_drewN | apply Kd.R_drew)); exact HO_207002.out) hb); have n1_ := Aside0.mk (Kd.R_below (by (with_reducible repeat (first | apply Kd.R_alloc | apply Kd.R_drewN | apply Kd.R_drew)); exact HO218.out) hb); have n2_ := Aside0.mk (Kd.R_below (by (with_reducible repeat (first | apply Kd.R_alloc | apply Kd.R_drewN | apply Kd.R_drew)); exact HO221.out) hb); have n3_ := Aside0.mk (blk_below (g := gb197) (o := .cells #[.int .u8 x198000_3, .slice none 0 0, .slice none 0 0, .int .i64 x198003_3, .int .i64 x198004_3, .int .i64 x198005_3] 35 (0, 0)) (by (with_reducible repeat (first | refine blk_drewN ?_ _ | refine blk_drew ?_ | refine blk_alloc ?_ _)); exact BK197.out) hb); have n4_ := Aside0.mk (blk_below (g := gb206) (o := .cells #[.int .u8 (rd l0 a1), .slice none 0 0, u207002] 33 (0, 0)) (by (with_reducible repeat (first | refine blk_drewN ?_ _ | refine blk_drew ?_ | refine blk_alloc ?_ _)); exact BK206.out) hb); have n5_ := Aside0.mk (below_step (by repeat (first | (with_reducible first | exact HB.out | apply below_alloc | apply pw_below_drewN | apply below_drew1 | refine below_set ?_ GE197.out | refine below_set ?_ GE206.out) | exact HB.out)) hb); have n6_ := Aside0.mk (hbox); have n7_ := Aside0.mk ((by rw [hg]; exact (below_size (by repeat (first | (with_reducible first | exact HB.out | apply below_alloc | apply pw_below_drewN | apply below_drew1 | refine below_set ?_ GE197.out | refine below_set ?_ GE206.out) | exact HB.out))) : w.heap.size ≤ gb225)); have n8_ := Aside0.mk ((by rw [hg]; exact (below_size (by repeat (first | (with_reducible first | exact HB.out | apply below_alloc | apply pw_below_drewN | apply below_drew1 | refine below_set ?_ GE197.out | refine below_set ?_ GE206.out) | exact HB.out))) : w.heap.size ≤ gb225)); have n9_ := Aside0.mk ((by rw [hg]; exact Nat.ne_of_lt (blk_lt (g := gb197) (o := .cells #[.int .u8 x198000_3, .slice none 0 0, .slice none 0 0, .int .i64 x198003_3, .int .i64 x198004_3, .int .i64 x198005_3] 35 (0, 0)) (by (with_reducible repeat (first | refine blk_drewN ?_ _ | refine blk_drew ?_ | refine blk_alloc ?_ _)); exact BK197.out)) : gb197 ≠ gb225)); have n10_ := Aside0.mk ((by rw [hg]; exact Nat.ne_of_gt (blk_lt (g := gb197) (o := .cells #[.int .u8 x198000_3, .slice none 0 0, .slice none 0 0, .int .i64 x198003_3, .int .i64 x198004_3, .int .i64 x198005_3] 35 (0, 0)) (by (with_reducible repeat (first | refine blk_drewN ?_ _ | refine blk_drew ?_ | refine blk_alloc ?_ _)); exact BK197.out)) : gb225 ≠ gb197)); have n11_ := Aside0.mk ((by rw [hg]; exact Nat.ne_of_lt (blk_lt (g := gb206) (o := .cells #[.int .u8 (rd l0 a1), .slice none 0 0, u207002] 33 (0, 0)) (by (with_reducible repeat (first | refine blk_drewN ?_ _ | refine blk_drew ?_ | refine blk_alloc ?_ _)); exact BK206.out)) : gb206 ≠ gb225)); have n12_ := Aside0.mk ((by rw [hg]; exact Nat.ne_of_gt (blk_lt (g := gb206) (o := .cells #[.int .u8 (rd l0 a1), .slice none 0 0, u207002] 33 (0, 0)) (by (with_reducible repeat (first | refine blk_drewN ?_ _ | refine blk_drew ?_ | refine blk_alloc ?_ _)); exact BK206.out)) : gb225 ≠ gb206)); clear HO_207002; clear HO218; clear HO221; clear BK197; clear BK206; clear HB; have HO_207002 := n0_; have HO218 := n1_; have HO221 := n2_; have BK197 := n3_; have BK206 := n4_; have HB := n5_; have BK225 := n6_; have GW225 := n7_; have GE225 := n8_; have NB197_225 := n9_; have NB225_197 := n10_; have NB206_225 := n11_; have NB225_206 := n12_; clear n0_ n1_ n2_ n3_ n4_ n5_ n6_ n7_ n8_ n9_ n10_ n11_ n12_; clear hb hbox hg; have hnb71 := NB225_197.out; have hnc71 := NB197_225.out; have hnb72 := NB225_206.out; have hnc72 := NB206_225.out; have hcz73_0 : w70.cell? ⟨gb225, 0, none⟩ = some (.int .u8 0) := (blk_cell BK225.out 0).trans rfl; have hcz73_1 : w70.cell? ⟨gb225, 1, none⟩ = some (.slice none 0 0) := (blk_cell BK225.out 1).trans rfl; have hcz73_2 : w70.cell? ⟨gb225, 2, none⟩ = some (.slice none 0 0) := (blk_cell BK225.out 2).trans rfl; have hcz73_3 : w70.cell? ⟨gb225, 3, none⟩ = some (.int .i64 0) := (blk_cell BK225.out 3).trans rfl; have hcz73_4 : w70.cell? ⟨gb225, 4, none⟩ = some (.int .i64 0) := (blk_cell BK225.out 4).trans rfl; have hcz73_5 : w70.cell? ⟨gb225, 5, none⟩ = some (.int .i64 0) := (blk_cell BK225.out 5).trans rfl; have hfz73_0 := blk_frozen BK225.out 0; have hfz73_1 := blk_frozen BK225.out 1; have hfz73_2 := blk_frozen BK225.out 2; have hfz73_3 := blk_frozen BK225.out 3; have hfz73_4 := blk_frozen BK225.out 4; have hfz73_5 := blk_frozen BK225.out 5; obtain ⟨Ao74, co74, eo74⟩ := Kd.R_slice HO218.out; subst eo74; obtain ⟨Ao75, co75, eo75⟩ := Kd.R_slice HO221.out; subst eo75) | ((with_reducible refine gate_store (t := 35) (p := 15) rfl ?_); refine store_event (t := 35) (p := 15) (v := ?vo_w76) (w1 := ((((((w70.setCell ⟨gb225, 0, none⟩ (.int .u8 t215)).setCell ⟨gb225, 1, none⟩ (.slice Ao74 t216.length co74)).setCell ⟨gb225, 2, none⟩ (.slice Ao75 t219.length co75)).setCell ⟨gb225, 3, none⟩ (.int .i64 t222)).setCell ⟨gb225, 4, none⟩ (.int .i64 t223)).setCell ⟨gb225, 5, none⟩ (.int .i64 t224))) ?hg ?ho ?hn ?hr ?_; (case ho => rfl); (case hg => rfl); (case hn => rfl); (case hr => first | (go_simp; done) | (go_simp; rfl)); intro w76 hw; have n0_ : Aside0 (Kd.R k33 33 w76 w.heap.size (fun k_ => some k_ ≠ (.slice Ao74 t216.length co74 : Value).ownBlock ∧ some k_ ≠ (.slice Ao75 t219.length co75 : Value).ownBlock ∧ k_ ≠ gb206) u207002 x207002_3) := ⟨(by rw [hw]; exact (by (with_reducible repeat (first | apply Kd.R_alloc | apply Kd.R_drewN | apply Kd.R_drew)); exact Kd.R_mono (Kd.R_far (p := ⟨gb225, 5, none⟩) (Kd.R_far (p := ⟨gb225, 4, none⟩) (Kd.R_far (p := ⟨gb225, 3, none⟩) (Kd.R_far (p := ⟨gb225, 2, none⟩) (Kd.R_far (p := ⟨gb225, 1, none⟩) (Kd.R_far (p := ⟨gb225, 0, none⟩) (Kd.R_types HO_207002.out BK225.out (by decide)) (fun _ hk => hk.2) (.int .u8 t215)) (fun _ hk => hk.2) (.slice Ao74 t216.length co74)) (fun _ hk => hk.2) (.slice Ao75 t219.length co75)) (fun _ hk => hk.2) (.int .i64 t222)) (fun _ hk => hk.2) (.int .i64 t223)) (fun _ hk => hk.2) (.int .i64 t224)) (fun _ hk => ⟨hk.1.1.2, ⟨hk.1.2, hk.1.1.1⟩⟩)))⟩; have n1_ : Aside0 (Kd.R (Kd.int .u8) 5 w76 w.heap.size (fun _ => True) (.slice Ao74 t216.length co74) t216) := ⟨(by rw [hw]; exact (by (with_reducible repeat (first | apply Kd.R_alloc | apply Kd.R_drewN | apply Kd.R_drew)); exact Kd.R_mono (Kd.R_far (p := ⟨gb225, 5, none⟩) (Kd.R_far (p := ⟨gb225, 4, none⟩) (Kd.R_far (p := ⟨gb225, 3, none⟩) (Kd.R_far (p := ⟨gb225, 2, none⟩) (Kd.R_far (p := ⟨gb225, 1, none⟩) (Kd.R_far (p := ⟨gb225, 0, none⟩) (Kd.R_types HO218.out BK225.out (by decide)) (fun _ hk => hk.2) (.int .u8 t215)) (fun _ hk => hk.2) (.slice Ao74 t216.length co74)) (fun _ hk => hk.2) (.slice Ao75 t219.length co75)) (fun _ hk => hk.2) (.int .i64 t222)) (fun _ hk => hk.2) (.int .i64 t223)) (fun _ hk => hk.2) (.int .i64 t224)) (fun _ hk => trivial)))⟩; have n2_ : Aside0 (Kd.R k33 33 w76 w.heap.size (fun k_ => some k_ ≠ (u207002 : Value).ownBlock ∧ some k_ ≠ (.slice Ao74 t216.length co74 : Value).ownBlock ∧ k_ ≠ gb206) (.slice Ao75 t219.length co75) t219) := ⟨(by rw [hw]; exact (by (with_reducible repeat (first | apply Kd.R_alloc | apply Kd.R_drewN | apply Kd.R_drew)); exact Kd.R_mono (Kd.R_far (p := ⟨gb225, 5, none⟩) (Kd.R_far (p := ⟨gb225, 4, none⟩) (Kd.R_far (p := ⟨gb225, 3, none⟩) (Kd.R_far (p := ⟨gb225, 2, none⟩) (Kd.R_far (p := ⟨gb225, 1, none⟩) (Kd.R_far (p := ⟨gb225, 0, none⟩) (Kd.R_types HO221.out BK225.out (by decide)) (fun _ hk => hk.2) (.int .u8 t215)) (fun _ hk => hk.2) (.slice Ao74 t216.length co74)) (fun _ hk => hk.2) (.slice Ao75 t219.length co75)) (fun _ hk => hk.2) (.int .i64 t222)) (fun _ hk => hk.2) (.int .i64 t223)) (fun _ hk => hk.2) (.int .i64 t224)) (fun _ hk => ⟨hk.1.1.2, ⟨hk.1.1.1, hk.1.2⟩⟩)))⟩; have n3_ : Aside0 (w76.heap[gb197]? = some (.cells #[.int .u8 x198000_3, .slice none 0 0, .slice none 0 0, .int .i64 x198003_3, .int .i64 x198004_3, .int .i64 x198005_3] 35 (0, 0))) := ⟨(by rw [hw]; exact (by (with_reducible repeat (first | refine blk_drewN ?_ _ | refine blk_drew ?_ | refine blk_alloc ?_ _)); refine blk_far ?_ NB197_225.out _; (with_reducible repeat (first | refine blk_drewN ?_ _ | refine blk_drew ?_ | refine blk_alloc ?_ _)); refine blk_far ?_ NB197_225.out _; (with_reducible repeat (first | refine blk_drewN ?_ _ | refine blk_drew ?_ | refine blk_alloc ?_ _)); refine blk_far ?_ NB197_225.out _; (with_reducible repeat (first | refine blk_drewN ?_ _ | refine blk_drew ?_ | refine blk_alloc ?_ _)); refine blk_far ?_ NB197_225.out _; (with_reducible repeat (first | refine blk_drewN ?_ _ | refine blk_drew ?_ | refine blk_alloc ?_ _)); refine blk_far ?_ NB197_225.out _; (with_reducible repeat (first | refine blk_drewN ?_ _ | refine blk_drew ?_ | refine blk_alloc ?_ _)); refine blk_far ?_ NB197_225.out _; (with_reducible repeat (first | refine blk_drewN ?_ _ | refine blk_drew ?_ | refine blk_alloc ?_ _)); exact BK197.out))⟩; have n4_ : Aside0 (w76.heap[gb206]? = some (.cells #[.int .u8 (rd l0 a1), .slice none 0 0, u207002] 33 (0, 0))) := ⟨(by rw [hw]; exact (by (with_reducible repeat (first | refine blk_drewN ?_ _ | refine blk_drew ?_ | refine blk_alloc ?_ _)); refine blk_far ?_ NB206_225.out _; (with_reducible repeat (first | refine blk_drewN ?_ _ | refine blk_drew ?_ | refine blk_alloc ?_ _)); refine blk_far ?_ NB206_225.out _; (with_reducible repeat (first | refine blk_drewN ?_ _ | refine blk_drew ?_ | refine blk_alloc ?_ _)); refine blk_far ?_ NB206_225.out _; (with_reducible repeat (first | refine blk_drewN ?_ _ | refine blk_drew ?_ | refine blk_alloc ?_ _)); refine blk_far ?_ NB206_225.out _; (with_reducible repeat (first | refine blk_drewN ?_ _ | refine blk_drew ?_ | refine blk_alloc ?_ _)); refine blk_far ?_ NB206_225.out _; (with_reducible repeat (first | refine blk_drewN ?_ _ | refine blk_drew ?_ | refine blk_alloc ?_ _)); refine blk_far ?_ NB206_225.out _; (with_reducible repeat (first | refine blk_drewN ?_ _ | refine blk_drew ?_ | refine blk_alloc ?_ _)); exact BK206.out))⟩; have n5_ : Aside0 (w76.heap[gb225]? = some (.cells #[.int .u8 t215, .slice Ao74 t216.length co74, .slice Ao75 t219.length co75, .int .i64 t222, .int .i64 t223, .int .i64 t224] 35 (0, 0))) := ⟨(by rw [hw]; exact (by (with_reducible repeat (first | refine blk_drewN ?_ _ | refine blk_drew ?_ | refine blk_alloc ?_ _)); refine blk_put (cs := #[.int .u8 t215, .slice Ao74 t216.length co74, .slice Ao75 t219.length co75, .int .i64 t222, .int .i64 t223, .int .i64 0]) ?_ 5 _ (by first | rfl | (rw [hji18]; rfl)); (with_reducible repeat (first | refine blk_drewN ?_ _ | refine blk_drew ?_ | refine blk_alloc ?_ _)); refine blk_put (cs := #[.int .u8 t215, .slice Ao74 t216.length co74, .slice Ao75 t219.length co75, .int .i64 t222, .int .i64 0, .int .i64 0]) ?_ 4 _ rfl; (with_reducible repeat (first | refine blk_drewN ?_ _ | refine blk_drew ?_ | refine blk_alloc ?_ _)); refine blk_put (cs := #[.int .u8 t215, .slice Ao74 t216.length co74, .slice Ao75 t219.length co75, .int .i64 0, .int .i64 0, .int .i64 0]) ?_ 3 _ rfl; (with_reducible repeat (first | refine blk_drewN ?_ _ | refine blk_drew ?_ | refine blk_alloc ?_ _)); refine blk_put (cs := #[.int .u8 t215, .slice Ao74 t216.length co74, .slice none 0 0, .int .i64 0, .int .i64 0, .int .i64 0]) ?_ 2 _ rfl; (with_reducible repeat (first | refine blk_drewN ?_ _ | refine blk_drew ?_ | refine blk_alloc ?_ _)); refine blk_put (cs := #[.int .u8 t215, .slice none 0 0, .slice none 0 0, .int .i64 0, .int .i64 0, .int .i64 0]) ?_ 1 _ rfl; (with_reducible repeat (first | refine blk_drewN ?_ _ | refine blk_drew ?_ | refine blk_alloc ?_ _)); refine blk_put (cs := #[.int .u8 0, .slice none 0 0, .slice none 0 0, .int .i64 0, .int .i64 0, .int .i64 0]) ?_ 0 _ rfl; (with_reducible repeat (first | refine blk_drewN ?_ _ | refine blk_drew ?_ | refine blk_alloc ?_ _)); exact BK225.out))⟩; have n6_ : Aside0 (Below w.heap.size w w76) := ⟨(by rw [hw]; exact (by repeat (first | (with_reducible first | exact HB.out | apply below_alloc | apply pw_below_drewN | apply below_drew1 | refine below_set ?_ GE197.out | refine below_set ?_ GE206.out | refine below_set ?_ GE225.out) | exact HB.out)))⟩; clear hw; clear HO_207002; clear HO218; clear HO221; clear BK197; clear BK206; clear BK225; clear HB; have HO_207002 := n0_; have HO218 := n1_; have HO221 := n2_; have BK197 := n3_; have BK206 := n4_; have BK225 := n5_; have HB := n6_; clear n0_ n1_ n2_ n3_ n4_ n5_ n6_; have hcz77_0 : w76.cell? ⟨gb225, 0, none⟩ = some (.int .u8 t215) := (blk_cell BK225.out 0).trans rfl; have hcz77_1 : w76.cell? ⟨gb225, 1, none⟩ = some (.slice Ao74 t216.length co74) := (blk_cell BK225.out 1).trans rfl; have hcz77_2 : w76.cell? ⟨gb225, 2, none⟩ = some (.slice Ao75 t219.length co75) := (blk_cell BK225.out 2).trans rfl; have hcz77_3 : w76.cell? ⟨gb225, 3, none⟩ = some (.int .i64 t222) := (blk_cell BK225.out 3).trans rfl; have hcz77_4 : w76.cell? ⟨gb225, 4, none⟩ = some (.int .i64 t223) := (blk_cell BK225.out 4).trans rfl; have hcz77_5 : w76.cell? ⟨gb225, 5, none⟩ = some (.int .i64 t224) := (blk_cell BK225.out 5).trans rfl; have hfz77_0 := blk_frozen BK225.out 0; have hfz77_1 := blk_frozen BK225.out 1; have hfz77_2 := blk_frozen BK225.out 2; have hfz77_3 := blk_frozen BK225.out 3; have hfz77_4 := blk_frozen BK225.out 4; have hfz77_5 := blk_frozen BK225.out 5; have hnb78 := NB206_197.out; have hnc78 := NB197_206.out; have hcz79_0 : w76.cell? ⟨gb206, 0, none⟩ = some (.int .u8 (rd l0 a1)) := (blk_cell BK206.out 0).trans rfl; have hcz79_1 : w76.cell? ⟨gb206, 1, none⟩ = some (.slice none 0 0) := (blk_cell BK206.out 1).trans rfl; have hcz79_2 : w76.cell? ⟨gb206, 2, none⟩ = some (u207002) := (blk_cell BK206.out 2).trans rfl; have hfz79_0 := blk_frozen BK206.out 0; have hfz79_1 := blk_frozen BK206.out 1; have hfz79_2 := blk_frozen BK206.out 2) | ((with_reducible refine gate_builtin (b := .append) (xs := #[.tmp 148, .tmp 151]) rfl ?_); (try (refine gate_guard (by rfl) ?_; dsimp only)); at_builtin; refine Kd.R_append k33 (w0 := w) w.heap.size rfl (.tmp 148) (.tmp 151) 31 33 (.agg #[(.int .u8 0), (.slice none 0 0), (.slice none 0 0)]) 56 rfl Tryd.underlying31 info33 rfl (by decide) (by omega) u207002 x207002_3 (⟨t215, t216, t219⟩ : S33) [.int .u8 t215, .slice Ao74 t216.length co74, .slice Ao75 t219.length co75] (fun k_ => k_ ≠ gb206) (fun k_ => ((fun k_ => k_ ≠ gb206)) k_ ∧ some k_ ≠ (u207002 : Value).ownBlock) rfl rfl ?aP (fun _ hk => hk) ?aF ?aO ?aB ?aS ?aL ?_; (case aP => exact k33_mkM _ _ _ (⟨t215, t216, t219⟩ : S33) (Kd.R_mono (Kd.R_types (Kd.R_apart' (HO218.out) (Kd.R_typed HO_207002.out) (by decide)) BK206.out (by decide)) (fun k_ hk => ⟨hk.2, hk.1.2⟩)) (Kd.R_mono (HO221.out) (fun k_ hk => ⟨hk.2.2, hk.1⟩))); (case aB => exact (by repeat (first | (with_reducible first | exact HB.out | apply below_alloc | apply pw_below_drewN | apply below_drew1 | refine below_set ?_ GE197.out | refine below_set ?_ GE206.out | refine below_set ?_ GE225.out) | exact HB.out))); (case aF => exact (fun k_ hk => Kd.freshB (g := gb206) (o := .cells #[.int .u8 (rd l0 a1), .slice none 0 0, u207002] 33 (0, 0)) (by (with_reducible repeat (first | refine blk_drewN ?_ _ | refine blk_drew ?_ | refine blk_alloc ?_ _)); exact BK206.out) k_ hk)); (case aO => exact (by (with_reducible repeat (first | apply Kd.R_alloc | apply Kd.R_drewN | apply Kd.R_drew)); exact Kd.R_mono HO_207002.out (fun _ hk => hk.2.2))); (case aS => exact (below_size (by repeat (first | (with_reducible first | exact HB.out | apply below_alloc | apply pw_below_drewN | apply below_drew1 | refine below_set ?_ GE197.out | refine below_set ?_ GE206.out | refine below_set ?_ GE225.out) | exact HB.out)))); (case aL => have := LMc68.out; omega); intro v227 w80 ho hb hg hat; rw [← Ny226.out] at ho; have n0_ := Aside0.mk (blk_grown (g := gb197) (o := .cells #[.int .u8 x198000_3, .slice none 0 0, .slice none 0 0, .int .i64 x198003_3, .int .i64 x198004_3, .int .i64 x198005_3] 35 (0, 0)) (by (with_reducible repeat (first | refine blk_drewN ?_ _ | refine blk_drew ?_ | refine blk_alloc ?_ _)); exact BK197.out) hg (Kd.R_ne HO_207002.out BK197.out (by decide))); have n1_ := Aside0.mk (blk_grown (g := gb206) (o := .cells #[.int .u8 (rd l0 a1), .slice none 0 0, u207002] 33 (0, 0)) (by (with_reducible repeat (first | refine blk_drewN ?_ _ | refine blk_drew ?_ | refine blk_alloc ?_ _)); exact BK206.out) hg (Kd.R_away HO_207002.out (fun _ hk => hk.2.2))); have n2_ := Aside0.mk (blk_grown (g := gb225) (o := .cells #[.int .u8 t215, .slice Ao74 t216.length co74, .slice Ao75 t219.length co75, .int .i64 t222, .int .i64 t223, .int .i64 t224] 35 (0, 0)) (by (with_reducible repeat (first | refine blk_drewN ?_ _ | refine blk_drew ?_ | refine blk_alloc ?_ _)); exact BK225.out) hg (Kd.R_ne HO_207002.out BK225.out (by decide))); have n3_ := Aside0.mk (hb); have n4_ := Aside0.mk (ho); clear BK197; clear BK206; clear BK225; clear HB; clear HO_207002; clear HO218; clear HO221; have BK197 := n0_; have BK206 := n1_; have BK225 := n2_; have HB := n3_; have HO228 := n4_; clear n0_ n1_ n2_ n3_ n4_; clear ho hb hg hat; obtain ⟨Ao81, co81, eo81⟩ := Kd.R_slice HO228.out; subst eo81; have hcz82_0 : w80.cell? ⟨gb206, 0, none⟩ = some (.int .u8 (rd l0 a1)) := (blk_cell BK206.out 0).trans rfl; have hcz82_1 : w80.cell? ⟨gb206, 1, none⟩ = some (.slice none 0 0) := (blk_cell BK206.out 1).trans rfl; have hcz82_2 : w80.cell? ⟨gb206, 2, none⟩ = some (u207002) := (blk_cell BK206.out 2).trans rfl; have hfz82_0 := blk_frozen BK206.out 0; have hfz82_1 := blk_frozen BK206.out 1; have hfz82_2 := blk_frozen BK206.out 2; have hcz83_0 : w80.cell? ⟨gb225, 0, none⟩ = some (.int .u8 t215) := (blk_cell BK225.out 0).trans rfl; have hcz83_1 : w80.cell? ⟨gb225, 1, none⟩ = some (.slice Ao74 t216.length co74) := (blk_cell BK225.out 1).trans rfl; have hcz83_2 : w80.cell? ⟨gb225, 2, none⟩ = some (.slice Ao75 t219.length co75) := (blk_cell BK225.out 2).trans rfl; have hcz83_3 : w80.cell? ⟨gb225, 3, none⟩ = some (.int .i64 t222) := (blk_cell BK225.out 3).trans rfl; have hcz83_4 : w80.cell? ⟨gb225, 4, none⟩ = some (.int .i64 t223) := (blk_cell BK225.out 4).trans rfl; have hcz83_5 : w80.cell? ⟨gb225, 5, none⟩ = some (.int .i64 t224) := (blk_cell BK225.out 5).trans rfl; have hfz83_0 := blk_frozen BK225.out 0; have hfz83_1 := blk_frozen BK225.out 1; have hfz83_2 := blk_frozen BK225.out 2; have hfz83_3 := blk_frozen BK225.out 3; have hfz83_4 := blk_frozen BK225.out 4; have hfz83_5 := blk_frozen BK225.out 5))
                                              go_roundg k3
                                              case measure => have := HJ20.out; have := HJ25.out; have := HK3.out; omega
                                              case rel => exact ⟨(t222), (x198000_3), (x198003_3), (x198004_3), (x198005_3), (y226), (.slice Ao81 y226.length co81), (by first | rfl | (simp; done) | (simp [*]; done)), H', ⟨by have := HJ20.out; have := HJ25.out; have := HK3.out; omega⟩, ⟨by (with_reducible repeat (first | apply Kd.R_alloc | apply Kd.R_drewN | apply Kd.R_drew)); exact Kd.R_mono (Kd.R_far (p := ⟨gb206, 2, none⟩) (Kd.R_mono HO228.out (fun k_ hk => (⟨hk, hk⟩ : _ ∧ k_ ≠ gb206))) (fun _ hk => hk.2) (.slice Ao81 y226.length co81)) (fun _ hk => hk.1)⟩, ⟨by (with_reducible repeat (first | refine blk_drewN ?_ _ | refine blk_drew ?_ | refine blk_alloc ?_ _)); refine blk_far ?_ NB197_206.out _; (with_reducible repeat (first | refine blk_drewN ?_ _ | refine blk_drew ?_ | refine blk_alloc ?_ _)); exact BK197.out⟩, ⟨by (with_reducible repeat (first | refine blk_drewN ?_ _ | refine blk_drew ?_ | refine blk_alloc ?_ _)); refine blk_put (cs := #[.int .u8 (rd l0 a1), .slice none 0 0, u207002]) ?_ 2 _ rfl; (with_reducible repeat (first | refine blk_drewN ?_ _ | refine blk_drew ?_ | refine blk_alloc ?_ _)); exact BK206.out⟩, ⟨by repeat (first | (with_reducible first | exact HB.out | apply below_alloc | apply pw_below_drewN | apply below_drew1 | refine below_set ?_ GE197.out | refine below_set ?_ GE206.out | refine below_set ?_ GE225.out) | exact HB.out)⟩⟩
                                            · rw [if_neg c68] at H
                                              exact absurd H (by simp)
                                          · rw [if_neg c67] at H
                                            have c67b0 : (t223 == 0) = false := beq_eq_false_iff_ne.mpr c67
                                            have c67b1 : (t223 != 0) = true := bne_iff_ne.mpr c67
                                            simp only [Option.some.injEq, Prod.mk.injEq] at H
                                            obtain ⟨rfl, rfl, rfl, rfl, rfl, rfl⟩ := H
                                            go_wp2_with (first | ((with_reducible refine gate_callee (f := 47) rfl ?_); refine goesL_ (some 142) rfl rfl Tryd.func47 (by kernel_rfl) rfl #[.slice (some ad198) l0.length c0, .int .i64 x10_3, .int .i64 (wrap64 (x10_25 + x9_25)), .int .i64 (wrap64 (a3 + 1))] rfl (by (try simp only [List.map_toArray, List.map_cons, List.map_nil]); first | done | rfl | (simp only [List.length_drop, List.length_take]; rfl)) ?_; (with_reducible refine (ih k3 (by have := HJ20.out; have := HJ25.out; have := HK3.out; omega) _ _ l0 x10_3 (wrap64 (x10_25 + x9_25)) (wrap64 (a3 + 1)) t215 t216 t219 t222 t223 t224 _ ?side1 ?side2 A66.out).mono ?_); (case side1 => repeat (first | exact (Kd.C_below HR0.out HB.out) | (with_reducible refine Kd.C_alloc ?_ _) | (with_reducible refine Kd.C_drewN ?_ _) | (with_reducible refine Kd.C_drew ?_))); (case side2 => exact HC0.out); rintro e w84 ⟨v217, v220, rfl, ho0, ho1, hb⟩; refine ⟨_, rfl, ?_⟩; have n0_ := Aside0.mk (Kd.R_mono (Kd.R_told (Kd.R_told (Kd.R_old (by (with_reducible repeat (first | apply Kd.R_alloc | apply Kd.R_drewN | apply Kd.R_drew)); exact HO_207002.out) hb) (Kd.R_base ho0)) (Kd.R_base ho1)) (fun _ h_ => h_.1)); have n1_ := Aside0.mk (Kd.R_lower ho0 (below_size (by repeat (first | (with_reducible first | exact HB.out | apply below_alloc | apply pw_below_drewN | apply below_drew1 | refine below_set ?_ GE197.out | refine below_set ?_ GE206.out) | exact HB.out)))); have n2_ := Aside0.mk (Kd.R_lower (Kd.R_newB (Kd.R_new' ho1 (Kd.R_lt (by (with_reducible repeat (first | apply Kd.R_alloc | apply Kd.R_drewN | apply Kd.R_drew)); exact HO_207002.out))) (g := gb206) (o := .cells #[.int .u8 (rd l0 a1), .slice none 0 0, u207002] 33 (0, 0)) (by (with_reducible repeat (first | refine blk_drewN ?_ _ | refine blk_drew ?_ | refine blk_alloc ?_ _)); exact BK206.out)) (below_size (by repeat (first | (with_reducible first | exact HB.out | apply below_alloc | apply pw_below_drewN | apply below_drew1 | refine below_set ?_ GE197.out | refine below_set ?_ GE206.out) | exact HB.out)))); have n3_ := Aside0.mk (blk_below (g := gb197) (o := .cells #[.int .u8 x198000_3, .slice none 0 0, .slice none 0 0, .int .i64 x198003_3, .int .i64 x198004_3, .int .i64 x198005_3] 35 (0, 0)) (by (with_reducible repeat (first | refine blk_drewN ?_ _ | refine blk_drew ?_ | refine blk_alloc ?_ _)); exact BK197.out) hb); have n4_ := Aside0.mk (blk_below (g := gb206) (o := .cells #[.int .u8 (rd l0 a1), .slice none 0 0, u207002] 33 (0, 0)) (by (with_reducible repeat (first | refine blk_drewN ?_ _ | refine blk_drew ?_ | refine blk_alloc ?_ _)); exact BK206.out) hb); have n5_ := Aside0.mk (below_step (by repeat (first | (with_reducible first | exact HB.out | apply below_alloc | apply pw_below_drewN | apply below_drew1 | refine below_set ?_ GE197.out | refine below_set ?_ GE206.out) | exact HB.out)) hb); clear HO_207002; clear BK197; clear BK206; clear HB; have HO_207002 := n0_; have HO218 := n1_; have HO221 := n2_; have BK197 := n3_; have BK206 := n4_; have HB := n5_; clear n0_ n1_ n2_ n3_ n4_ n5_; (try clear hb); (try clear hb2); (try clear hk); (try clear hi); (try clear ho0); (try clear ho1)) | ((with_reducible refine gate_dst (N := 15) rfl ?_); (try (refine gate_guard (by rfl) ?_; dsimp only)); refine box_event ?hg (N := 15) ?hd (cs := #[.int .u8 0, .slice none 0 0, .slice none 0 0, .int .i64 0, .int .i64 0, .int .i64 0]) (t := 35) ?hr ?_; (case hd => rfl); (case hg => rfl); (case hr => first | (go_simp; done) | (go_simp; rfl)); intro gb225 hg w85 hbox hb; have n0_ := Aside0.mk (Kd.R_below (by (with_reducible repeat (first | apply Kd.R_alloc | apply Kd.R_drewN | apply Kd.R_drew)); exact HO_207002.out) hb); have n1_ := Aside0.mk (Kd.R_below (by (with_reducible repeat (first | apply Kd.R_alloc | apply Kd.R_drewN | apply Kd.R_drew)); exact HO218.out) hb); have n2_ := Aside0.mk (Kd.R_below (by (with_reducible repeat (first | apply Kd.R_alloc | apply Kd.R_drewN | apply Kd.R_drew)); exact HO221.out) hb); have n3_ := Aside0.mk (blk_below (g := gb197) (o := .cells #[.int .u8 x198000_3, .slice none 0 0, .slice none 0 0, .int .i64 x198003_3, .int .i64 x198004_3, .int .i64 x198005_3] 35 (0, 0)) (by (with_reducible repeat (first | refine blk_drewN ?_ _ | refine blk_drew ?_ | refine blk_alloc ?_ _)); exact BK197.out) hb); have n4_ := Aside0.mk (blk_below (g := gb206) (o := .cells #[.int .u8 (rd l0 a1), .slice none 0 0, u207002] 33 (0, 0)) (by (with_reducible repeat (first | refine blk_drewN ?_ _ | refine blk_drew ?_ | refine blk_alloc ?_ _)); exact BK206.out) hb); have n5_ := Aside0.mk (below_step (by repeat (first | (with_reducible first | exact HB.out | apply below_alloc | apply pw_below_drewN | apply below_drew1 | refine below_set ?_ GE197.out | refine below_set ?_ GE206.out) | exact HB.out)) hb); have n6_ := Aside0.mk (hbox); have n7_ := Aside0.mk ((by rw [hg]; exact (below_size (by repeat (first | (with_reducible first | exact HB.out | apply below_alloc | apply pw_below_drewN | apply below_drew1 | refine below_set ?_ GE197.out | refine below_set ?_ GE206.out) | exact HB.out))) : w.heap.size ≤ gb225)); have n8_ := Aside0.mk ((by rw [hg]; exact (below_size (by repeat (first | (with_reducible first | exact HB.out | apply below_alloc | apply pw_below_drewN | apply below_drew1 | refine below_set ?_ GE197.out | refine below_set ?_ GE206.out) | exact HB.out))) : w.heap.size ≤ gb225)); have n9_ := Aside0.mk ((by rw [hg]; exact Nat.ne_of_lt (blk_lt (g := gb197) (o := .cells #[.int .u8 x198000_3, .slice none 0 0, .slice none 0 0, .int .i64 x198003_3, .int .i64 x198004_3, .int .i64 x198005_3] 35 (0, 0)) (by (with_reducible repeat (first | refine blk_drewN ?_ _ | refine blk_drew ?_ | refine blk_alloc ?_ _)); exact BK197.out)) : gb197 ≠ gb225)); have n10_ := Aside0.mk ((by rw [hg]; exact Nat.ne_of_gt (blk_lt (g := gb197) (o := .cells #[.int .u8 x198000_3, .slice none 0 0, .slice none 0 0, .int .i64 x198003_3, .int .i64 x198004_3, .int .i64 x198005_3] 35 (0, 0)) (by (with_reducible repeat (first | refine blk_drewN ?_ _ | refine blk_drew ?_ | refine blk_alloc ?_ _)); exact BK197.out)) : gb225 ≠ gb197)); have n11_ := Aside0.mk ((by rw [hg]; exact Nat.ne_of_lt (blk_lt (g := gb206) (o := .cells #[.int .u8 (rd l0 a1), .slice none 0 0, u207002] 33 (0, 0)) (by (with_reducible repeat (first | refine blk_drewN ?_ _ | refine blk_drew ?_ | refine blk_alloc ?_ _)); exact BK206.out)) : gb206 ≠ gb225)); have n12_ := Aside0.mk ((by rw [hg]; exact Nat.ne_of_gt (blk_lt (g := gb206) (o := .cells #[.int .u8 (rd l0 a1), .slice none 0 0, u207002] 33 (0, 0)) (by (with_reducible repeat (first | refine blk_drewN ?_ _ | refine blk_drew ?_ | refine blk_alloc ?_ _)); exact BK206.out)) : gb225 ≠ gb206)); clear HO_207002; clear HO218; clear HO221; clear BK197; clear BK206; clear HB; have HO_207002 := n0_; have HO218 := n1_; have HO221 := n2_; have BK197 := n3_; have BK206 := n4_; have HB := n5_; have BK225 := n6_; have GW225 := n7_; have GE225 := n8_; have NB197_225 := n9_; have NB225_197 := n10_; have NB206_225 := n11_; have NB225_206 := n12_; clear n0_ n1_ n2_ n3_ n4_ n5_ n6_ n7_ n8_ n9_ n10_ n11_ n12_; clear hb hbox hg; have hnb86 := NB225_197.out; have hnc86 := NB197_225.out; have hnb87 := NB225_206.out; have hnc87 := NB206_225.out; have hcz88_0 : w85.cell? ⟨gb225, 0, none⟩ = some (.int .u8 0) := (blk_cell BK225.out 0).trans rfl; have hcz88_1 : w85.cell? ⟨gb225, 1, none⟩ = some (.slice none 0 0) := (blk_cell BK225.out 1).trans rfl; have hcz88_2 : w85.cell? ⟨gb225, 2, none⟩ = some (.slice none 0 0) := (blk_cell BK225.out 2).trans rfl; have hcz88_3 : w85.cell? ⟨gb225, 3, none⟩ = some (.int .i64 0) := (blk_cell BK225.out 3).trans rfl; have hcz88_4 : w85.cell? ⟨gb225, 4, none⟩ = some (.int .i64 0) := (blk_cell BK225.out 4).trans rfl; have hcz88_5 : w85.cell? ⟨gb225, 5, none⟩ = some (.int .i64 0) := (blk_cell BK225.out 5).trans rfl; have hfz88_0 := blk_frozen BK225.out 0; have hfz88_1 := blk_frozen BK225.out 1; have hfz88_2 := blk_frozen BK225.out 2; have hfz88_3 := blk_frozen BK225.out 3; have hfz88_4 := blk_frozen BK225.out 4; have hfz88_5 := blk_frozen BK225.out 5; obtain ⟨Ao89, co89, eo89⟩ := Kd.R_slice HO218.out; subst eo89; obtain ⟨Ao90, co90, eo90⟩ := Kd.R_slice HO221.out; subst eo90; have hnb91 := NB197_206.out; have hnc91 := NB206_197.out; have hcz92_0 : w85.cell? ⟨gb197, 0, none⟩ = some (.int .u8 x198000_3) := (blk_cell BK197.out 0).trans rfl; have hcz92_1 : w85.cell? ⟨gb197, 1, none⟩ = some (.slice none 0 0) := (blk_cell BK197.out 1).trans rfl; have hcz92_2 : w85.cell? ⟨gb197, 2, none⟩ = some (.slice none 0 0) := (blk_cell BK197.out 2).trans rfl; have hcz92_3 : w85.cell? ⟨gb197, 3, none⟩ = some (.int .i64 x198003_3) := (blk_cell BK197.out 3).trans rfl; have hcz92_4 : w85.cell? ⟨gb197, 4, none⟩ = some (.int .i64 x198004_3) := (blk_cell BK197.out 4).trans rfl; have hcz92_5 : w85.cell? ⟨gb197, 5, none⟩ = some (.int .i64 x198005_3) := (blk_cell BK197.out 5).trans rfl; have hfz92_0 := blk_frozen BK197.out 0; have hfz92_1 := blk_frozen BK197.out 1; have hfz92_2 := blk_frozen BK197.out 2; have hfz92_3 := blk_frozen BK197.out 3; have hfz92_4 := blk_frozen BK197.out 4; have hfz92_5 := blk_frozen BK197.out 5))
                                            refine bodyPost_ret (results_cell_row rfl _ _ gb197 35 #[.int .u8 t215, .slice Ao89 t216.length co89, .slice Ao90 t219.length co90, .int .i64 t222, .int .i64 t223, .int .i64 t224] (0, 0) _ rfl (by (with_reducible repeat (first | refine blk_drewN ?_ _ | refine blk_drew ?_ | refine blk_alloc ?_ _)); refine blk_put (cs := #[.int .u8 t215, .slice Ao89 t216.length co89, .slice Ao90 t219.length co90, .int .i64 t222, .int .i64 t223, .int .i64 x198005_3]) ?_ 5 _ (by first | rfl | (rw [hji18]; rfl)); (with_reducible repeat (first | refine blk_drewN ?_ _ | refine blk_drew ?_ | refine blk_alloc ?_ _)); refine blk_put (cs := #[.int .u8 t215, .slice Ao89 t216.length co89, .slice Ao90 t219.length co90, .int .i64 t222, .int .i64 x198004_3, .int .i64 x198005_3]) ?_ 4 _ rfl; (with_reducible repeat (first | refine blk_drewN ?_ _ | refine blk_drew ?_ | refine blk_alloc ?_ _)); refine blk_put (cs := #[.int .u8 t215, .slice Ao89 t216.length co89, .slice Ao90 t219.length co90, .int .i64 x198003_3, .int .i64 x198004_3, .int .i64 x198005_3]) ?_ 3 _ rfl; (with_reducible repeat (first | refine blk_drewN ?_ _ | refine blk_drew ?_ | refine blk_alloc ?_ _)); refine blk_put (cs := #[.int .u8 t215, .slice Ao89 t216.length co89, .slice none 0 0, .int .i64 x198003_3, .int .i64 x198004_3, .int .i64 x198005_3]) ?_ 2 _ rfl; (with_reducible repeat (first | refine blk_drewN ?_ _ | refine blk_drew ?_ | refine blk_alloc ?_ _)); refine blk_put (cs := #[.int .u8 t215, .slice none 0 0, .slice none 0 0, .int .i64 x198003_3, .int .i64 x198004_3, .int .i64 x198005_3]) ?_ 1 _ rfl; (with_reducible repeat (first | refine blk_drewN ?_ _ | refine blk_drew ?_ | refine blk_alloc ?_ _)); refine blk_put (cs := #[.int .u8 x198000_3, .slice none 0 0, .slice none 0 0, .int .i64 x198003_3, .int .i64 x198004_3, .int .i64 x198005_3]) ?_ 0 _ rfl; (with_reducible repeat (first | refine blk_drewN ?_ _ | refine blk_drew ?_ | refine blk_alloc ?_ _)); refine blk_far ?_ NB197_225.out _; (with_reducible repeat (first | refine blk_drewN ?_ _ | refine blk_drew ?_ | refine blk_alloc ?_ _)); refine blk_far ?_ NB197_225.out _; (with_reducible repeat (first | refine blk_drewN ?_ _ | refine blk_drew ?_ | refine blk_alloc ?_ _)); refine blk_far ?_ NB197_225.out _; (with_reducible repeat (first | refine blk_drewN ?_ _ | refine blk_drew ?_ | refine blk_alloc ?_ _)); refine blk_far ?_ NB197_225.out _; (with_reducible repeat (first | refine blk_drewN ?_ _ | refine blk_drew ?_ | refine blk_alloc ?_ _)); refine blk_far ?_ NB197_225.out _; (with_reducible repeat (first | refine blk_drewN ?_ _ | refine blk_drew ?_ | refine blk_alloc ?_ _)); refine blk_far ?_ NB197_225.out _; (with_reducible repeat (first | refine blk_drewN ?_ _ | refine blk_drew ?_ | refine blk_alloc ?_ _)); exact BK197.out) Tryd.underlying35 rfl (by kernel_rfl)) rfl ?_
                                            exact ⟨_, _, by first | rfl | (simp [errW_none, errW_some] <;> rfl) | (simp only [← hji18]; first | rfl | (simp [errW_none, errW_some] <;> rfl)) | (simp [*, errW_none, errW_some] <;> rfl), by (with_reducible repeat (first | apply Kd.R_alloc | apply Kd.R_drewN | apply Kd.R_drew)); exact Kd.R_mono (Kd.R_far (p := ⟨gb197, 5, none⟩) (Kd.R_far (p := ⟨gb197, 4, none⟩) (Kd.R_far (p := ⟨gb197, 3, none⟩) (Kd.R_far (p := ⟨gb197, 2, none⟩) (Kd.R_far (p := ⟨gb197, 1, none⟩) (Kd.R_far (p := ⟨gb197, 0, none⟩) (Kd.R_far (p := ⟨gb225, 5, none⟩) (Kd.R_far (p := ⟨gb225, 4, none⟩) (Kd.R_far (p := ⟨gb225, 3, none⟩) (Kd.R_far (p := ⟨gb225, 2, none⟩) (Kd.R_far (p := ⟨gb225, 1, none⟩) (Kd.R_far (p := ⟨gb225, 0, none⟩) (Kd.R_types (Kd.R_types HO218.out BK225.out (by decide)) BK197.out (by decide)) (fun _ hk => hk.1.2) (.int .u8 t215)) (fun _ hk => hk.1.2) (.slice Ao89 t216.length co89)) (fun _ hk => hk.1.2) (.slice Ao90 t219.length co90)) (fun _ hk => hk.1.2) (.int .i64 t222)) (fun _ hk => hk.1.2) (.int .i64 t223)) (fun _ hk => hk.1.2) (.int .i64 t224)) (fun _ hk => hk.2) (.int .u8 t215)) (fun _ hk => hk.2) (.slice Ao89 t216.length co89)) (fun _ hk => hk.2) (.slice Ao90 t219.length co90)) (fun _ hk => hk.2) (.int .i64 t222)) (fun _ hk => hk.2) (.int .i64 t223)) (fun _ hk => hk.2) (.int .i64 t224)) (fun _ hk => trivial), by (with_reducible repeat (first | apply Kd.R_alloc | apply Kd.R_drewN | apply Kd.R_drew)); exact Kd.R_mono (Kd.R_far (p := ⟨gb197, 5, none⟩) (Kd.R_far (p := ⟨gb197, 4, none⟩) (Kd.R_far (p := ⟨gb197, 3, none⟩) (Kd.R_far (p := ⟨gb197, 2, none⟩) (Kd.R_far (p := ⟨gb197, 1, none⟩) (Kd.R_far (p := ⟨gb197, 0, none⟩) (Kd.R_far (p := ⟨gb225, 5, none⟩) (Kd.R_far (p := ⟨gb225, 4, none⟩) (Kd.R_far (p := ⟨gb225, 3, none⟩) (Kd.R_far (p := ⟨gb225, 2, none⟩) (Kd.R_far (p := ⟨gb225, 1, none⟩) (Kd.R_far (p := ⟨gb225, 0, none⟩) (Kd.R_types (Kd.R_types HO221.out BK225.out (by decide)) BK197.out (by decide)) (fun _ hk => hk.1.2) (.int .u8 t215)) (fun _ hk => hk.1.2) (.slice Ao89 t216.length co89)) (fun _ hk => hk.1.2) (.slice Ao90 t219.length co90)) (fun _ hk => hk.1.2) (.int .i64 t222)) (fun _ hk => hk.1.2) (.int .i64 t223)) (fun _ hk => hk.1.2) (.int .i64 t224)) (fun _ hk => hk.2) (.int .u8 t215)) (fun _ hk => hk.2) (.slice Ao89 t216.length co89)) (fun _ hk => hk.2) (.slice Ao90 t219.length co90)) (fun _ hk => hk.2) (.int .i64 t222)) (fun _ hk => hk.2) (.int .i64 t223)) (fun _ hk => hk.2) (.int .i64 t224)) (fun _ hk => hk.1.1.1.1), by repeat (first | (with_reducible first | exact HB.out | apply below_alloc | apply pw_below_drewN | apply below_drew1 | refine below_set ?_ GE197.out | refine below_set ?_ GE206.out | refine below_set ?_ GE225.out) | exact HB.out)⟩
                                        · rw [if_neg c65] at H
                                          have c65b0 : decide (x10_3 < (wrap64 (x10_25 + x9_25))) = false := decide_eq_false c65
                                          clear c65
                                          simp only [Option.some.injEq, Prod.mk.injEq] at H
                                          obtain ⟨rfl, rfl, rfl, rfl, rfl, rfl⟩ := H
                                          have hnb93 := NB206_197.out
                                          have hnc93 := NB197_206.out
                                          have hcz94_0 : wr.cell? ⟨gb206, 0, none⟩ = some (.int .u8 (rd l0 a1)) := (blk_cell BK206.out 0).trans rfl
                                          have hcz94_1 : wr.cell? ⟨gb206, 1, none⟩ = some (.slice none 0 0) := (blk_cell BK206.out 1).trans rfl
                                          have hcz94_2 : wr.cell? ⟨gb206, 2, none⟩ = some (u207002) := (blk_cell BK206.out 2).trans rfl
                                          have hfz94_0 := blk_frozen BK206.out 0
                                          have hfz94_1 := blk_frozen BK206.out 1
                                          have hfz94_2 := blk_frozen BK206.out 2
                                          obtain ⟨Ao95, co95, eo95⟩ := Kd.R_slice HO_207002.out
                                          subst eo95
                                          have hcz96_0 : wr.cell? ⟨gb197, 0, none⟩ = some (.int .u8 x198000_3) := (blk_cell BK197.out 0).trans rfl
                                          have hcz96_1 : wr.cell? ⟨gb197, 1, none⟩ = some (.slice none 0 0) := (blk_cell BK197.out 1).trans rfl
                                          have hcz96_2 : wr.cell? ⟨gb197, 2, none⟩ = some (.slice none 0 0) := (blk_cell BK197.out 2).trans rfl
                                          have hcz96_3 : wr.cell? ⟨gb197, 3, none⟩ = some (.int .i64 x198003_3) := (blk_cell BK197.out 3).trans rfl
                                          have hcz96_4 : wr.cell? ⟨gb197, 4, none⟩ = some (.int .i64 x198004_3) := (blk_cell BK197.out 4).trans rfl
                                          have hcz96_5 : wr.cell? ⟨gb197, 5, none⟩ = some (.int .i64 x198005_3) := (blk_cell BK197.out 5).trans rfl
                                          have hfz96_0 := blk_frozen BK197.out 0
                                          have hfz96_1 := blk_frozen BK197.out 1
                                          have hfz96_2 := blk_frozen BK197.out 2
                                          have hfz96_3 := blk_frozen BK197.out 3
                                          have hfz96_4 := blk_frozen BK197.out 4
                                          have hfz96_5 := blk_frozen BK197.out 5
                                          go_wp2
                                          refine bodyPost_ret (results_cell_row rfl _ _ gb197 35 #[.int .u8 (rd l0 a1), .slice none 0 0, .slice Ao95 x207002_3.length co95, .int .i64 x10_3, .int .i64 0, .int .i64 0] (0, 0) _ rfl (by (with_reducible repeat (first | refine blk_drewN ?_ _ | refine blk_drew ?_ | refine blk_alloc ?_ _)); refine blk_put (cs := #[.int .u8 (rd l0 a1), .slice none 0 0, .slice Ao95 x207002_3.length co95, .int .i64 x10_3, .int .i64 0, .int .i64 x198005_3]) ?_ 5 _ (by first | rfl | (rw [hji18]; rfl)); (with_reducible repeat (first | refine blk_drewN ?_ _ | refine blk_drew ?_ | refine blk_alloc ?_ _)); refine blk_put (cs := #[.int .u8 (rd l0 a1), .slice none 0 0, .slice Ao95 x207002_3.length co95, .int .i64 x10_3, .int .i64 x198004_3, .int .i64 x198005_3]) ?_ 4 _ rfl; (with_reducible repeat (first | refine blk_drewN ?_ _ | refine blk_drew ?_ | refine blk_alloc ?_ _)); refine blk_put (cs := #[.int .u8 (rd l0 a1), .slice none 0 0, .slice Ao95 x207002_3.length co95, .int .i64 x198003_3, .int .i64 x198004_3, .int .i64 x198005_3]) ?_ 3 _ rfl; (with_reducible repeat (first | refine blk_drewN ?_ _ | refine blk_drew ?_ | refine blk_alloc ?_ _)); refine blk_put (cs := #[.int .u8 (rd l0 a1), .slice none 0 0, .slice none 0 0, .int .i64 x198003_3, .int .i64 x198004_3, .int .i64 x198005_3]) ?_ 2 _ rfl; (with_reducible repeat (first | refine blk_drewN ?_ _ | refine blk_drew ?_ | refine blk_alloc ?_ _)); refine blk_put (cs := #[.int .u8 (rd l0 a1), .slice none 0 0, .slice none 0 0, .int .i64 x198003_3, .int .i64 x198004_3, .int .i64 x198005_3]) ?_ 1 _ rfl; (with_reducible repeat (first | refine blk_drewN ?_ _ | refine blk_drew ?_ | refine blk_alloc ?_ _)); refine blk_put (cs := #[.int .u8 x198000_3, .slice none 0 0, .slice none 0 0, .int .i64 x198003_3, .int .i64 x198004_3, .int .i64 x198005_3]) ?_ 0 _ rfl; (with_reducible repeat (first | refine blk_drewN ?_ _ | refine blk_drew ?_ | refine blk_alloc ?_ _)); exact BK197.out) Tryd.underlying35 rfl (by kernel_rfl)) rfl ?_
                                          exact ⟨_, _, by first | rfl | (simp [errW_none, errW_some] <;> rfl) | (simp only [← hji18]; first | rfl | (simp [errW_none, errW_some] <;> rfl)) | (simp [*, errW_none, errW_some] <;> rfl), by first | exact Kd.R_nil _ _ _ _ _ | exact Kd.N_nil _ _ _ _ _ | exact Kd.V_nil _ _ _ _ _ | exact Kd.Q_nil _ _ _ _ _ | exact Kd.S_nil _ _ _ _ _, by (with_reducible repeat (first | apply Kd.R_alloc | apply Kd.R_drewN | apply Kd.R_drew)); exact Kd.R_mono (Kd.R_far (p := ⟨gb197, 5, none⟩) (Kd.R_far (p := ⟨gb197, 4, none⟩) (Kd.R_far (p := ⟨gb197, 3, none⟩) (Kd.R_far (p := ⟨gb197, 2, none⟩) (Kd.R_far (p := ⟨gb197, 1, none⟩) (Kd.R_far (p := ⟨gb197, 0, none⟩) (Kd.R_types HO_207002.out BK197.out (by decide)) (fun _ hk => hk.2) (.int .u8 (rd l0 a1))) (fun _ hk => hk.2) (.slice none 0 0)) (fun _ hk => hk.2) (.slice Ao95 x207002_3.length co95)) (fun _ hk => hk.2) (.int .i64 x10_3)) (fun _ hk => hk.2) (.int .i64 0)) (fun _ hk => hk.2) (.int .i64 0)) (fun _ hk => (by simp [Value.ownBlock])), by repeat (first | (with_reducible first | exact HB.out | apply below_alloc | apply pw_below_drewN | apply below_drew1 | refine below_set ?_ GE197.out | refine below_set ?_ GE206.out) | exact HB.out)⟩
                                · rw [if_neg c46] at H
                                  exact absurd H (by simp)
                              · rw [if_neg c45] at H
                                exact absurd H (by simp)
                · rw [if_neg c20] at H
                  exact absurd H (by simp)
              · rw [if_neg c19] at H
                exact absurd H (by simp)
        · replace c11 := Bool.eq_false_iff.mpr c11
          subst c11
          have H1 : (some (0, ([] : List Int), ([] : List (S33)), 0, 5, a1)) = some (r1, r2, r3, r4, r5, r6) := by rw [if_neg (show ¬ (false = true) by decide)] at H; exact H
          clear H
          have H := H1
          clear H1
          simp only [Option.some.injEq, Prod.mk.injEq] at H
          obtain ⟨rfl, rfl, rfl, rfl, rfl, rfl⟩ := H
          go_enter Tryd.func47, Tryd.ntmps47
          go_wp2_with (first | ((with_reducible refine gate_dst (N := 8) rfl ?_); (try (refine gate_guard (by rfl) ?_; dsimp only)); refine box_event ?hg (N := 8) ?hd (cs := #[.int .u8 0, .slice none 0 0, .slice none 0 0, .int .i64 0, .int .i64 0, .int .i64 0]) (t := 35) ?hr ?_; (case hd => rfl); (case hg => rfl); (case hr => first | (go_simp; done) | (go_simp; rfl)); intro gb197 hg w97 hbox hb; have n0_ := Aside0.mk (below_step (by repeat (first | (with_reducible first | exact HB.out | apply below_alloc | apply pw_below_drewN | apply below_drew1) | exact HB.out)) hb); have n1_ := Aside0.mk (hbox); have n2_ := Aside0.mk ((by rw [hg]; exact (below_size (by repeat (first | (with_reducible first | exact HB.out | apply below_alloc | apply pw_below_drewN | apply below_drew1) | exact HB.out))) : w.heap.size ≤ gb197)); have n3_ := Aside0.mk ((by rw [hg]; exact (below_size (by repeat (first | (with_reducible first | exact HB.out | apply below_alloc | apply pw_below_drewN | apply below_drew1) | exact HB.out))) : w.heap.size ≤ gb197)); clear HB; have HB := n0_; have BK197 := n1_; have GW197 := n2_; have GE197 := n3_; clear n0_ n1_ n2_ n3_; clear hb hbox hg; have p198 : 0 ≤ (a1 : Int) := of_decide_eq_true (by first | (with_reducible assumption) | assumption); have q198 : a1 < (l0.length : Int) := of_decide_eq_true (by first | (with_reducible assumption) | assumption); obtain ⟨ad198, e198, hx198_0⟩ := Kd.at_int HR0.out a1 p198 q198; cases e198; replace hx198_0 := (HB.out.cell (World.block_lt_of_cell? w _ hx198_0)).trans hx198_0; replace p198 := eq_true p198; replace q198 := eq_true q198) | ((with_reducible refine gate_callee (f := 77) rfl ?_); refine goesL_ (some 26) rfl rfl Tryd.func77 (by kernel_rfl) rfl #[.int .i64 (wrap64 (rd l0 a1))] rfl (by (try simp only [List.map_toArray, List.map_cons, List.map_nil]); first | done | rfl | (simp only [List.length_drop, List.length_take]; rfl)) ?_; (with_reducible refine (pyxref08_Tag.calls (wrap64 (rd l0 a1)) false _ A10.out).mono ?_); rintro e w' ⟨rfl, ⟨nd, rfl⟩⟩; refine ⟨_, rfl, ?_⟩; (try (rw [drewN_self w97]; generalize hq_ : World.drewN w97 _ = w97; have n0_ : Aside0 (w97.heap[gb197]? = some (.cells #[.int .u8 0, .slice none 0 0, .slice none 0 0, .int .i64 0, .int .i64 0, .int .i64 0] 35 (0, 0))) := ⟨by rw [← hq_]; exact (by (with_reducible repeat (first | refine blk_drewN ?_ _ | refine blk_drew ?_ | refine blk_alloc ?_ _)); exact BK197.out)⟩; have n1_ : Aside0 (Below w.heap.size w w97) := ⟨by rw [← hq_]; exact (by repeat (first | (with_reducible first | exact HB.out | apply below_alloc | apply pw_below_drewN | apply below_drew1 | refine below_set ?_ GE197.out) | exact HB.out))⟩; clear BK197 HB hq_; have BK197 := n0_; have HB := n1_; clear n0_ n1_)); have hcz98_0 : w97.cell? ⟨gb197, 0, none⟩ = some (.int .u8 0) := (blk_cell BK197.out 0).trans rfl; have hcz98_1 : w97.cell? ⟨gb197, 1, none⟩ = some (.slice none 0 0) := (blk_cell BK197.out 1).trans rfl; have hcz98_2 : w97.cell? ⟨gb197, 2, none⟩ = some (.slice none 0 0) := (blk_cell BK197.out 2).trans rfl; have hcz98_3 : w97.cell? ⟨gb197, 3, none⟩ = some (.int .i64 0) := (blk_cell BK197.out 3).trans rfl; have hcz98_4 : w97.cell? ⟨gb197, 4, none⟩ = some (.int .i64 0) := (blk_cell BK197.out 4).trans rfl; have hcz98_5 : w97.cell? ⟨gb197, 5, none⟩ = some (.int .i64 0) := (blk_cell BK197.out 5).trans rfl; have hfz98_0 := blk_frozen BK197.out 0; have hfz98_1 := blk_frozen BK197.out 1; have hfz98_2 := blk_frozen BK197.out 2; have hfz98_3 := blk_frozen BK197.out 3; have hfz98_4 := blk_frozen BK197.out 4; have hfz98_5 := blk_frozen BK197.out 5))
          refine bodyPost_ret (results_cell_row rfl _ _ gb197 35 #[.int .u8 0, .slice none 0 0, .slice none 0 0, .int .i64 0, .int .i64 5, .int .i64 a1] (0, 0) _ rfl (by (with_reducible repeat (first | refine blk_drewN ?_ _ | refine blk_drew ?_ | refine blk_alloc ?_ _)); refine blk_put (cs := #[.int .u8 0, .slice none 0 0, .slice none 0 0, .int .i64 0, .int .i64 5, .int .i64 0]) ?_ 5 _ (by first | rfl | (rw [hji18]; rfl)); (with_reducible repeat (first | refine blk_drewN ?_ _ | refine blk_drew ?_ | refine blk_alloc ?_ _)); refine blk_put (cs := #[.int .u8 0, .slice none 0 0, .slice none 0 0, .int .i64 0, .int .i64 0, .int .i64 0]) ?_ 4 _ rfl; (with_reducible repeat (first | refine blk_drewN ?_ _ | refine blk_drew ?_ | refine blk_alloc ?_ _)); refine blk_put (cs := #[.int .u8 0, .slice none 0 0, .slice none 0 0, .int .i64 0, .int .i64 0, .int .i64 0]) ?_ 3 _ rfl; (with_reducible repeat (first | refine blk_drewN ?_ _ | refine blk_drew ?_ | refine blk_alloc ?_ _)); refine blk_put (cs := #[.int .u8 0, .slice none 0 0, .slice none 0 0, .int .i64 0, .int .i64 0, .int .i64 0]) ?_ 2 _ rfl; (with_reducible repeat (first | refine blk_drewN ?_ _ | refine blk_drew ?_ | refine blk_alloc ?_ _)); refine blk_put (cs := #[.int .u8 0, .slice none 0 0, .slice none 0 0, .int .i64 0, .int .i64 0, .int .i64 0]) ?_ 1 _ rfl; (with_reducible repeat (first | refine blk_drewN ?_ _ | refine blk_drew ?_ | refine blk_alloc ?_ _)); refine blk_put (cs := #[.int .u8 0, .slice none 0 0, .slice none 0 0, .int .i64 0, .int .i64 0, .int .i64 0]) ?_ 0 _ rfl; (with_reducible repeat (first | refine blk_drewN ?_ _ | refine blk_drew ?_ | refine blk_alloc ?_ _)); exact BK197.out) Tryd.underlying35 rfl (by kernel_rfl)) rfl ?_
          exact ⟨_, _, by first | rfl | (simp [errW_none, errW_some] <;> rfl) | (simp [*, errW_none, errW_some] <;> rfl), by first | exact Kd.R_nil _ _ _ _ _ | exact Kd.N_nil _ _ _ _ _ | exact Kd.V_nil _ _ _ _ _ | exact Kd.Q_nil _ _ _ _ _ | exact Kd.S_nil _ _ _ _ _, by first | exact Kd.R_nil _ _ _ _ _ | exact Kd.N_nil _ _ _ _ _ | exact Kd.V_nil _ _ _ _ _ | exact Kd.Q_nil _ _ _ _ _ | exact Kd.S_nil _ _ _ _ _, by repeat (first | (with_reducible first | exact HB.out | apply below_alloc | apply pw_below_drewN | apply below_drew1 | refine below_set ?_ GE197.out) | exact HB.out)⟩
      · rw [if_neg c9] at H
        exact absurd H (by simp)
    · rw [if_neg c8] at H
      exact absurd H (by simp)
end Go.Proofs.YtijmigapdcikpaaDoor.PDer
