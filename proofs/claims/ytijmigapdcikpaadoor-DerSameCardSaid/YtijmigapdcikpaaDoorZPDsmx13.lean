import Derived.Test.YtijmigapdcikpaaDoorZPDsmx0
namespace Go.Proofs.YtijmigapdcikpaaDoor.PDsm
open Go.RowKit Go.Proofs.YtijmigapdcikpaaDoorW.PrintWords Go.Proofs.YtijmigapdcikpaaDoorW.PrintLast Go.Proofs.YtijmigapdcikpaaDoorW.PrintMore
attribute [local go_sem] max2_int min2_int max_two min_two max_three min_three max_four min_four
set_option linter.unusedVariables false
set_option linter.unusedSimpArgs false
mutual
def pyxref08_Same.j0 : Nat → Bool → Int → List Int → List (S33) → Int → List Int → List (S33) → Option (Bool)
  | 0, _, _, _, _, _, _, _ => none
  | k + 1, x29, x209000, x209001, x209002, x210000, x210001, x210002 => if x29 = true then (some false) else (pyxref08_Same.l0 k 0 x209000 x209001 x209002 x210000 x210001 x210002)
def pyxref08_Same.l0 : Nat → Int → Int → List Int → List (S33) → Int → List Int → List (S33) → Option (Bool)
  | 0, _, _, _, _, _, _, _ => none
  | k + 1, x5, x209000, x209001, x209002, x210000, x210001, x210002 => if x5 < (x209001.length : Int) then (if 0 ≤ x5 then (if x5 < (x210001.length : Int) then (if (rd x209001 x5) = (rd x210001 x5) then (pyxref08_Same.l0 k (wrap64 (x5 + 1)) x209000 x209001 x209002 x210000 x210001 x210002) else (some false)) else (none)) else (none)) else (pyxref08_Same.l1 k 0 x209000 x209001 x209002 x210000 x210001 x210002)
def pyxref08_Same.l1 : Nat → Int → Int → List Int → List (S33) → Int → List Int → List (S33) → Option (Bool)
  | 0, _, _, _, _, _, _, _ => none
  | k + 1, x6, x209000, x209001, x209002, x210000, x210001, x210002 => if x6 < (x209002.length : Int) then (if 0 ≤ x6 then (if x6 < (x210002.length : Int) then ((pyxref08_Same.f k ((rd_T33 x209002 x6).f0) ((rd_T33 x209002 x6).f1) ((rd_T33 x209002 x6).f2) ((rd_T33 x210002 x6).f0) ((rd_T33 x210002 x6).f1) ((rd_T33 x210002 x6).f2)).bind fun t214 => (if t214 = true then (pyxref08_Same.l1 k (wrap64 (x6 + 1)) x209000 x209001 x209002 x210000 x210001 x210002) else (some false))) else (none)) else (none)) else (some true)
def pyxref08_Same.f : Nat → Int → List Int → List (S33) → Int → List Int → List (S33) → Option (Bool)
  | 0, _, _, _, _, _, _ => none
  | k + 1, a0_0, l0_1, l0_2, a1_0, l1_1, l1_2 => if a0_0 = a1_0 then (if (l0_1.length : Int) = (l1_1.length : Int) then (pyxref08_Same.j0 k ((l0_2.length : Int) != (l1_2.length : Int)) a0_0 l0_1 l0_2 a1_0 l1_1 l1_2) else (pyxref08_Same.j0 k true a0_0 l0_1 l0_2 a1_0 l1_1 l1_2)) else (pyxref08_Same.j0 k true a0_0 l0_1 l0_2 a1_0 l1_1 l1_2)
end
def pyxref08_Same.T6 : Bool × List (List Nat × List Nat) := (true, [([], []), ([0], [0]), ([], []), ([1, 2], [1, 2]), ([3], [3]), ([], []), ([5], [5]), ([], []), ([6, 7], [6, 7]), ([8], [8]), ([4, 9], [4, 9])])
def pyxref08_Same.B6 : List Nat := [0, 1, 0, 7, 15, 0, 32, 0, 224, 480, 1023]
theorem pyxref08_Same.tab6 : rtab .any (opsOf Tryd.f21 6) = pyxref08_Same.T6 := by kernel_rfl
theorem pyxref08_Same.bits6 : waitsOk pyxref08_Same.T6.2 pyxref08_Same.B6 = true := by kernel_rfl
def pyxref08_Same.T11 : Bool × List (List Nat × List Nat) := (true, [([], []), ([0], [0]), ([], []), ([1, 2], [1, 2]), ([3], [3]), ([], []), ([5], [5]), ([], []), ([6, 7], [6, 7]), ([8], [8]), ([4, 9], [4, 9]), ([10], [10])])
def pyxref08_Same.B11 : List Nat := [0, 1, 0, 7, 15, 0, 32, 0, 224, 480, 1023, 2047]
theorem pyxref08_Same.tab11 : rtab .any (opsOf Tryd.f21 11) = pyxref08_Same.T11 := by kernel_rfl
theorem pyxref08_Same.bits11 : waitsOk pyxref08_Same.T11.2 pyxref08_Same.B11 = true := by kernel_rfl
set_option maxHeartbeats 8000000 in
set_option maxRecDepth 100000 in
theorem pyxref08_Same.calls (k : Nat) : ∀ (a0_0 : Int) (A0_1 : Option Addr) (c0_1 : Nat) (l0_1 : List Int) (A0_2 : Option Addr) (c0_2 : Nat) (l0_2 : List (S33)) (a1_0 : Int) (A1_1 : Option Addr) (c1_1 : Nat) (l1_1 : List Int) (A1_2 : Option Addr) (c1_2 : Nat) (l1_2 : List (S33)) (r : Bool) (w : World) (hr0_1 : Kd.C (Kd.int .u8) w A0_1 l0_1.length l0_1) (hc0_1 : l0_1.length ≤ c0_1) (hr0_2 : Kd.C k33 w A0_2 l0_2.length l0_2) (hc0_2 : l0_2.length ≤ c0_2) (hr1_1 : Kd.C (Kd.int .u8) w A1_1 l1_1.length l1_1) (hc1_1 : l1_1.length ≤ c1_1) (hr1_2 : Kd.C k33 w A1_2 l1_2.length l1_2) (hc1_2 : l1_2.length ≤ c1_2) (h : pyxref08_Same.f k a0_0 l0_1 l0_2 a1_0 l1_1 l1_2 = some r),
    Calls Tryd.prog 21 #[.agg #[.int .u8 a0_0, .slice A0_1 l0_1.length c0_1, .slice A0_2 l0_2.length c0_2], .agg #[.int .u8 a1_0, .slice A1_1 l1_1.length c1_1, .slice A1_2 l1_2.length c1_2]] w fun e w' => e = .returned (.bool r) ∧ Below w.heap.size w w' := by
  induction k using Nat.strongRecOn with
  | _ k ih =>
  intro a0_0 A0_1 c0_1 l0_1 A0_2 c0_2 l0_2 a1_0 A1_1 c1_1 l1_1 A1_2 c1_2 l1_2 r w hr0_1 hc0_1 hr0_2 hc0_2 hr1_1 hc1_1 hr1_2 hc1_2 h
  cases k with
  | zero => exact absurd h (by simp [pyxref08_Same.f])
  | succ k =>
  simp only [pyxref08_Same.f] at h
  have hu33 := Tryd.underlying33
  have HR0_1 := Aside0.mk hr0_1
  have HC0_1 := Aside0.mk hc0_1
  clear hr0_1 hc0_1
  have HR0_2 := Aside0.mk hr0_2
  have HC0_2 := Aside0.mk hc0_2
  clear hr0_2 hc0_2
  have HR1_1 := Aside0.mk hr1_1
  have HC1_1 := Aside0.mk hc1_1
  clear hr1_1 hc1_1
  have HR1_2 := Aside0.mk hr1_2
  have HC1_2 := Aside0.mk hc1_2
  clear hr1_2 hc1_2
  have HB := Aside0.mk (Below.refl w.heap.size w)
  have H : (if a0_0 = a1_0 then (if (l0_1.length : Int) = (l1_1.length : Int) then (pyxref08_Same.j0 k ((l0_2.length : Int) != (l1_2.length : Int)) a0_0 l0_1 l0_2 a1_0 l1_1 l1_2) else (pyxref08_Same.j0 k true a0_0 l0_1 l0_2 a1_0 l1_1 l1_2)) else (pyxref08_Same.j0 k true a0_0 l0_1 l0_2 a1_0 l1_1 l1_2)) = some r := h
  clear h
  have HC3 := Aside0.mk H
  clear H
  go_enter Tryd.func21, Tryd.ntmps21
  go_upto_region 1 with (first | ((with_reducible refine gate_dst (N := 2) rfl ?_); (try (refine gate_guard (by rfl) ?_; dsimp only)); refine box_event ?hg (N := 2) ?hd (cs := #[.int .u8 a0_0, .slice A0_1 l0_1.length c0_1, .slice A0_2 l0_2.length c0_2]) (t := 33) ?hr ?_; (case hd => rfl); (case hg => rfl); (case hr => first | (go_simp; done) | (go_simp; rfl)); intro gb208 hg w4 hbox hb; have n0_ := Aside0.mk (below_step (by repeat (first | (with_reducible first | exact HB.out | apply below_alloc | apply pw_below_drewN | apply below_drew1) | exact HB.out)) hb); have n1_ := Aside0.mk (hbox); have n2_ := Aside0.mk ((by rw [hg]; exact (below_size (by repeat (first | (with_reducible first | exact HB.out | apply below_alloc | apply pw_below_drewN | apply below_drew1) | exact HB.out))) : w.heap.size ≤ gb208)); have n3_ := Aside0.mk ((by rw [hg]; exact (below_size (by repeat (first | (with_reducible first | exact HB.out | apply below_alloc | apply pw_below_drewN | apply below_drew1) | exact HB.out))) : w.heap.size ≤ gb208)); clear HB; have HB := n0_; have BK208 := n1_; have GW208 := n2_; have GE208 := n3_; clear n0_ n1_ n2_ n3_; clear hb hbox hg) | ((with_reducible refine gate_dst (N := 3) rfl ?_); (try (refine gate_guard (by rfl) ?_; dsimp only)); refine box_event ?hg (N := 3) ?hd (cs := #[.int .u8 a1_0, .slice A1_1 l1_1.length c1_1, .slice A1_2 l1_2.length c1_2]) (t := 33) ?hr ?_; (case hd => rfl); (case hg => rfl); (case hr => first | (go_simp; done) | (go_simp; rfl)); intro gb209 hg w5 hbox hb; have n0_ := Aside0.mk (blk_below (g := gb208) (o := .cells #[.int .u8 a0_0, .slice A0_1 l0_1.length c0_1, .slice A0_2 l0_2.length c0_2] 33 (0, 0)) (by (with_reducible repeat (first | refine blk_drewN ?_ _ | refine blk_drew ?_ | refine blk_alloc ?_ _)); exact BK208.out) hb); have n1_ := Aside0.mk (below_step (by repeat (first | (with_reducible first | exact HB.out | apply below_alloc | apply pw_below_drewN | apply below_drew1 | refine below_set ?_ GE208.out) | exact HB.out)) hb); have n2_ := Aside0.mk (hbox); have n3_ := Aside0.mk ((by rw [hg]; exact (below_size (by repeat (first | (with_reducible first | exact HB.out | apply below_alloc | apply pw_below_drewN | apply below_drew1 | refine below_set ?_ GE208.out) | exact HB.out))) : w.heap.size ≤ gb209)); have n4_ := Aside0.mk ((by rw [hg]; exact (below_size (by repeat (first | (with_reducible first | exact HB.out | apply below_alloc | apply pw_below_drewN | apply below_drew1 | refine below_set ?_ GE208.out) | exact HB.out))) : w.heap.size ≤ gb209)); have n5_ := Aside0.mk ((by rw [hg]; exact Nat.ne_of_lt (blk_lt (g := gb208) (o := .cells #[.int .u8 a0_0, .slice A0_1 l0_1.length c0_1, .slice A0_2 l0_2.length c0_2] 33 (0, 0)) (by (with_reducible repeat (first | refine blk_drewN ?_ _ | refine blk_drew ?_ | refine blk_alloc ?_ _)); exact BK208.out)) : gb208 ≠ gb209)); have n6_ := Aside0.mk ((by rw [hg]; exact Nat.ne_of_gt (blk_lt (g := gb208) (o := .cells #[.int .u8 a0_0, .slice A0_1 l0_1.length c0_1, .slice A0_2 l0_2.length c0_2] 33 (0, 0)) (by (with_reducible repeat (first | refine blk_drewN ?_ _ | refine blk_drew ?_ | refine blk_alloc ?_ _)); exact BK208.out)) : gb209 ≠ gb208)); clear BK208; clear HB; have BK208 := n0_; have HB := n1_; have BK209 := n2_; have GW209 := n3_; have GE209 := n4_; have NB208_209 := n5_; have NB209_208 := n6_; clear n0_ n1_ n2_ n3_ n4_ n5_ n6_; clear hb hbox hg))
  (try simp only [Act.put, List.setIfInBounds_toArray, List.set_cons_zero, List.set_cons_succ])
  go_cut [29] (fun v29 wc => ∃ (kq : Nat) (x29_2 : Bool), v29 = .bool x29_2 ∧ Aside0 (pyxref08_Same.j0 kq x29_2 a0_0 l0_1 l0_2 a1_0 l1_1 l1_2 = some r) ∧ Aside0 (kq ≤ k) ∧ Aside0 (wc.heap[gb208]? = some (.cells #[.int .u8 a0_0, (.slice A0_1 l0_1.length c0_1), (.slice A0_2 l0_2.length c0_2)] 33 (0, 0))) ∧ Aside0 (wc.heap[gb209]? = some (.cells #[.int .u8 a1_0, (.slice A1_1 l1_1.length c1_1), (.slice A1_2 l1_2.length c1_2)] 33 (0, 0))) ∧ Aside0 (Below w.heap.size w wc))
  case first =>
    have H := HC3.out
    clear HC3
    by_cases c6 : a0_0 = a1_0
    · rw [if_pos c6] at H
      have c6b0 : (a0_0 == a1_0) = true := beq_iff_eq.mpr c6
      have c6b1 : (a0_0 != a1_0) = false := bne_eq_false_iff_eq.mpr c6
      clear c6
      (first | rw [c6b0] | (simp only [i64_w, i32_w]; rw [c6b0]) | skip)
      by_cases c7 : (l0_1.length : Int) = (l1_1.length : Int)
      · rw [if_pos c7] at H
        have c7b0 : ((l0_1.length : Int) == (l1_1.length : Int)) = true := beq_iff_eq.mpr c7
        have c7b1 : ((l0_1.length : Int) != (l1_1.length : Int)) = false := bne_eq_false_iff_eq.mpr c7
        have c7b2 : (l0_1.length == l1_1.length) = true := by first | simpa using c7 | (simp at c7 ⊢; omega)
        clear c7
        have H' := Aside0.mk H
        clear H
        have hnb8 := NB208_209.out
        have hnc8 := NB209_208.out
        have hcz9_0 : w5.cell? ⟨gb208, 0, none⟩ = some (.int .u8 a0_0) := (blk_cell BK208.out 0).trans rfl
        have hcz9_1 : w5.cell? ⟨gb208, 1, none⟩ = some (.slice A0_1 l0_1.length c0_1) := (blk_cell BK208.out 1).trans rfl
        have hcz9_2 : w5.cell? ⟨gb208, 2, none⟩ = some (.slice A0_2 l0_2.length c0_2) := (blk_cell BK208.out 2).trans rfl
        have hfz9_0 := blk_frozen BK208.out 0
        have hfz9_1 := blk_frozen BK208.out 1
        have hfz9_2 := blk_frozen BK208.out 2
        have hcz10_0 : w5.cell? ⟨gb209, 0, none⟩ = some (.int .u8 a1_0) := (blk_cell BK209.out 0).trans rfl
        have hcz10_1 : w5.cell? ⟨gb209, 1, none⟩ = some (.slice A1_1 l1_1.length c1_1) := (blk_cell BK209.out 1).trans rfl
        have hcz10_2 : w5.cell? ⟨gb209, 2, none⟩ = some (.slice A1_2 l1_2.length c1_2) := (blk_cell BK209.out 2).trans rfl
        have hfz10_0 := blk_frozen BK209.out 0
        have hfz10_1 := blk_frozen BK209.out 1
        have hfz10_2 := blk_frozen BK209.out 2
        go_wp2
        go_meet
        case rel => exact ⟨_, (((l0_2.length : Int) != (l1_2.length : Int))), (by first | rfl | (simp; done) | (simp [*]; done)), H', ⟨by first | omega | exact Nat.le_refl _⟩, ⟨by (with_reducible repeat (first | refine blk_drewN ?_ _ | refine blk_drew ?_ | refine blk_alloc ?_ _)); exact BK208.out⟩, ⟨by (with_reducible repeat (first | refine blk_drewN ?_ _ | refine blk_drew ?_ | refine blk_alloc ?_ _)); exact BK209.out⟩, ⟨by repeat (first | (with_reducible first | exact HB.out | apply below_alloc | apply pw_below_drewN | apply below_drew1 | refine below_set ?_ GE208.out | refine below_set ?_ GE209.out) | exact HB.out)⟩⟩
      · rw [if_neg c7] at H
        have c7b0 : ((l0_1.length : Int) == (l1_1.length : Int)) = false := beq_eq_false_iff_ne.mpr c7
        have c7b1 : ((l0_1.length : Int) != (l1_1.length : Int)) = true := bne_iff_ne.mpr c7
        have c7b2 : (l0_1.length == l1_1.length) = false := by first | simpa using c7 | (simp at c7 ⊢; omega)
        have H' := Aside0.mk H
        clear H
        have hnb11 := NB208_209.out
        have hnc11 := NB209_208.out
        have hcz12_0 : w5.cell? ⟨gb208, 0, none⟩ = some (.int .u8 a0_0) := (blk_cell BK208.out 0).trans rfl
        have hcz12_1 : w5.cell? ⟨gb208, 1, none⟩ = some (.slice A0_1 l0_1.length c0_1) := (blk_cell BK208.out 1).trans rfl
        have hcz12_2 : w5.cell? ⟨gb208, 2, none⟩ = some (.slice A0_2 l0_2.length c0_2) := (blk_cell BK208.out 2).trans rfl
        have hfz12_0 := blk_frozen BK208.out 0
        have hfz12_1 := blk_frozen BK208.out 1
        have hfz12_2 := blk_frozen BK208.out 2
        have hcz13_0 : w5.cell? ⟨gb209, 0, none⟩ = some (.int .u8 a1_0) := (blk_cell BK209.out 0).trans rfl
        have hcz13_1 : w5.cell? ⟨gb209, 1, none⟩ = some (.slice A1_1 l1_1.length c1_1) := (blk_cell BK209.out 1).trans rfl
        have hcz13_2 : w5.cell? ⟨gb209, 2, none⟩ = some (.slice A1_2 l1_2.length c1_2) := (blk_cell BK209.out 2).trans rfl
        have hfz13_0 := blk_frozen BK209.out 0
        have hfz13_1 := blk_frozen BK209.out 1
        have hfz13_2 := blk_frozen BK209.out 2
        go_wp2
        go_meet
        case rel => exact ⟨_, (true), (by first | rfl | (simp; done) | (simp [*]; done)), H', ⟨by first | omega | exact Nat.le_refl _⟩, ⟨by (with_reducible repeat (first | refine blk_drewN ?_ _ | refine blk_drew ?_ | refine blk_alloc ?_ _)); exact BK208.out⟩, ⟨by (with_reducible repeat (first | refine blk_drewN ?_ _ | refine blk_drew ?_ | refine blk_alloc ?_ _)); exact BK209.out⟩, ⟨by repeat (first | (with_reducible first | exact HB.out | apply below_alloc | apply pw_below_drewN | apply below_drew1 | refine below_set ?_ GE208.out | refine below_set ?_ GE209.out) | exact HB.out)⟩⟩
    · rw [if_neg c6] at H
      have c6b0 : (a0_0 == a1_0) = false := beq_eq_false_iff_ne.mpr c6
      have c6b1 : (a0_0 != a1_0) = true := bne_iff_ne.mpr c6
      (first | rw [c6b0] | (simp only [i64_w, i32_w]; rw [c6b0]) | skip)
      have H' := Aside0.mk H
      clear H
      have hnb14 := NB208_209.out
      have hnc14 := NB209_208.out
      have hcz15_0 : w5.cell? ⟨gb208, 0, none⟩ = some (.int .u8 a0_0) := (blk_cell BK208.out 0).trans rfl
      have hcz15_1 : w5.cell? ⟨gb208, 1, none⟩ = some (.slice A0_1 l0_1.length c0_1) := (blk_cell BK208.out 1).trans rfl
      have hcz15_2 : w5.cell? ⟨gb208, 2, none⟩ = some (.slice A0_2 l0_2.length c0_2) := (blk_cell BK208.out 2).trans rfl
      have hfz15_0 := blk_frozen BK208.out 0
      have hfz15_1 := blk_frozen BK208.out 1
      have hfz15_2 := blk_frozen BK208.out 2
      have hcz16_0 : w5.cell? ⟨gb209, 0, none⟩ = some (.int .u8 a1_0) := (blk_cell BK209.out 0).trans rfl
      have hcz16_1 : w5.cell? ⟨gb209, 1, none⟩ = some (.slice A1_1 l1_1.length c1_1) := (blk_cell BK209.out 1).trans rfl
      have hcz16_2 : w5.cell? ⟨gb209, 2, none⟩ = some (.slice A1_2 l1_2.length c1_2) := (blk_cell BK209.out 2).trans rfl
      have hfz16_0 := blk_frozen BK209.out 0
      have hfz16_1 := blk_frozen BK209.out 1
      have hfz16_2 := blk_frozen BK209.out 2
      go_wp2
      go_meet
      case rel => exact ⟨_, (true), (by first | rfl | (simp; done) | (simp [*]; done)), H', ⟨by first | omega | exact Nat.le_refl _⟩, ⟨by (with_reducible repeat (first | refine blk_drewN ?_ _ | refine blk_drew ?_ | refine blk_alloc ?_ _)); exact BK208.out⟩, ⟨by (with_reducible repeat (first | refine blk_drewN ?_ _ | refine blk_drew ?_ | refine blk_alloc ?_ _)); exact BK209.out⟩, ⟨by repeat (first | (with_reducible first | exact HB.out | apply below_alloc | apply pw_below_drewN | apply below_drew1 | refine below_set ?_ GE208.out | refine below_set ?_ GE209.out) | exact HB.out)⟩⟩
  case rest =>
    clear HC3
    try clear c1
    try clear c2
    try clear p2
    try clear c6
    try clear c6b0
    try clear c6b1
    try clear c7
    try clear c7b0
    try clear c7b1
    try clear c7b2
    try clear c8
    try clear c11
    try clear c14
    try clear hcz10_0
    try clear hcz10_1
    try clear hcz10_2
    try clear hcz12_0
    try clear hcz12_1
    try clear hcz12_2
    try clear hcz13_0
    try clear hcz13_1
    try clear hcz13_2
    try clear hcz15_0
    try clear hcz15_1
    try clear hcz15_2
    try clear hcz16_0
    try clear hcz16_1
    try clear hcz16_2
    try clear hcz9_0
    try clear hcz9_1
    try clear hcz9_2
    try clear hfz10_0
    try clear hfz10_1
    try clear hfz10_2
    try clear hfz12_0
    try clear hfz12_1
    try clear hfz12_2
    try clear hfz13_0
    try clear hfz13_1
    try clear hfz13_2
    try clear hfz15_0
    try clear hfz15_1
    try clear hfz15_2
    try clear hfz16_0
    try clear hfz16_1
    try clear hfz16_2
    try clear hfz9_0
    try clear hfz9_1
    try clear hfz9_2
    obtain ⟨kq, x29_2, rfl, HA, HJ2, BK208, BK209, HB⟩ := hcut
    cases kq with
    | zero => exact absurd HA.out (by simp [pyxref08_Same.j0])
    | succ kj2 =>
      have H := HA.out
      clear HA
      simp only [pyxref08_Same.j0] at H
      by_cases c17 : x29_2 = true
      · subst c17
        have H1 : (some false) = some r := by rw [if_pos rfl] at H; exact H
        clear H
        have H := H1
        clear H1
        obtain rfl := Option.some.inj H
        go_wp2
        go_ret
        exact ⟨by first | rfl | (simp [errW_none, errW_some] <;> rfl) | (simp [*, errW_none, errW_some] <;> rfl), by repeat (first | (with_reducible first | exact HB.out | apply below_alloc | apply pw_below_drewN | apply below_drew1 | refine below_set ?_ GE208.out | refine below_set ?_ GE209.out) | exact HB.out)⟩
      · replace c17 := Bool.eq_false_iff.mpr c17
        subst c17
        have H1 : (pyxref08_Same.l0 kj2 0 a0_0 l0_1 l0_2 a1_0 l1_1 l1_2) = some r := by rw [if_neg (show ¬ (false = true) by decide)] at H; exact H
        clear H
        have H := H1
        clear H1
        have H' := Aside0.mk H
        clear H
        go_wp2
        go_loopg [5] kj2 (fun kq v5 w' => ∃ (x5_2 : Int), v5 = .int .i64 x5_2 ∧ Aside0 (pyxref08_Same.l0 kq x5_2 a0_0 l0_1 l0_2 a1_0 l1_1 l1_2 = some r) ∧ Aside0 (kq ≤ kj2) ∧ Aside0 (w'.heap[gb208]? = some (.cells #[.int .u8 a0_0, (.slice A0_1 l0_1.length c0_1), (.slice A0_2 l0_2.length c0_2)] 33 (0, 0))) ∧ Aside0 (w'.heap[gb209]? = some (.cells #[.int .u8 a1_0, (.slice A1_1 l1_1.length c1_1), (.slice A1_2 l1_2.length c1_2)] 33 (0, 0))) ∧ Aside0 (Below w.heap.size w w'))
        case atStart => exact ⟨(0), (by first | rfl | (simp; done) | (simp [*]; done)), H', ⟨Nat.le_refl _⟩, ⟨by (with_reducible repeat (first | refine blk_drewN ?_ _ | refine blk_drew ?_ | refine blk_alloc ?_ _)); exact BK208.out⟩, ⟨by (with_reducible repeat (first | refine blk_drewN ?_ _ | refine blk_drew ?_ | refine blk_alloc ?_ _)); exact BK209.out⟩, ⟨by repeat (first | (with_reducible first | exact HB.out | apply below_alloc | apply pw_below_drewN | apply below_drew1 | refine below_set ?_ GE208.out | refine below_set ?_ GE209.out) | exact HB.out)⟩⟩
        case round =>
          clear H'
          try clear c1
          try clear c2
          try clear p2
          try clear c6
          try clear c6b0
          try clear c6b1
          try clear c7
          try clear c7b0
          try clear c7b1
          try clear c7b2
          try clear c8
          try clear c11
          try clear c14
          try clear c17
          try clear hcz10_0
          try clear hcz10_1
          try clear hcz10_2
          try clear hcz12_0
          try clear hcz12_1
          try clear hcz12_2
          try clear hcz13_0
          try clear hcz13_1
          try clear hcz13_2
          try clear hcz15_0
          try clear hcz15_1
          try clear hcz15_2
          try clear hcz16_0
          try clear hcz16_1
          try clear hcz16_2
          try clear hcz9_0
          try clear hcz9_1
          try clear hcz9_2
          try clear hfz10_0
          try clear hfz10_1
          try clear hfz10_2
          try clear hfz12_0
          try clear hfz12_1
          try clear hfz12_2
          try clear hfz13_0
          try clear hfz13_1
          try clear hfz13_2
          try clear hfz15_0
          try clear hfz15_1
          try clear hfz15_2
          try clear hfz16_0
          try clear hfz16_1
          try clear hfz16_2
          try clear hfz9_0
          try clear hfz9_1
          try clear hfz9_2
          try clear p2
          obtain ⟨x5_2, rfl, HA, HK2, BK208, BK209, HB⟩ := hrel
          cases gk with
          | zero => exact absurd HA.out (by simp [pyxref08_Same.l0])
          | succ k2 =>
            have H := HA.out
            clear HA
            simp only [pyxref08_Same.l0] at H
            by_cases c18 : x5_2 < (l0_1.length : Int)
            · rw [if_pos c18] at H
              have c18b0 : decide (x5_2 < (l0_1.length : Int)) = true := decide_eq_true c18
              clear c18
              by_cases c19 : 0 ≤ x5_2
              · rw [if_pos c19] at H
                have c19b0 : decide (0 ≤ x5_2) = true := decide_eq_true c19
                clear c19
                by_cases c20 : x5_2 < (l1_1.length : Int)
                · rw [if_pos c20] at H
                  have c20b0 : decide (x5_2 < (l1_1.length : Int)) = true := decide_eq_true c20
                  clear c20
                  by_cases c21 : (rd l0_1 x5_2) = (rd l1_1 x5_2)
                  · rw [if_pos c21] at H
                    have c21b0 : ((rd l0_1 x5_2) == (rd l1_1 x5_2)) = true := beq_iff_eq.mpr c21
                    have c21b1 : ((rd l0_1 x5_2) != (rd l1_1 x5_2)) = false := bne_eq_false_iff_eq.mpr c21
                    clear c21
                    have H' := Aside0.mk H
                    clear H
                    have hnb22 := NB208_209.out
                    have hnc22 := NB209_208.out
                    have hcz23_0 : wr.cell? ⟨gb208, 0, none⟩ = some (.int .u8 a0_0) := (blk_cell BK208.out 0).trans rfl
                    have hcz23_1 : wr.cell? ⟨gb208, 1, none⟩ = some (.slice A0_1 l0_1.length c0_1) := (blk_cell BK208.out 1).trans rfl
                    have hcz23_2 : wr.cell? ⟨gb208, 2, none⟩ = some (.slice A0_2 l0_2.length c0_2) := (blk_cell BK208.out 2).trans rfl
                    have hfz23_0 := blk_frozen BK208.out 0
                    have hfz23_1 := blk_frozen BK208.out 1
                    have hfz23_2 := blk_frozen BK208.out 2
                    try go_wp2
                    have n0_ := Aside0.mk (blk_drew BK208.out)
                    have n1_ := Aside0.mk (blk_drew BK209.out)
                    have n2_ := Aside0.mk (below_drew1 HB.out)
                    clear BK208
                    clear BK209
                    clear HB
                    have BK208 := n0_
                    have BK209 := n1_
                    have HB := n2_
                    clear n0_ n1_ n2_
                    have p210 : 0 ≤ (x5_2 : Int) := of_decide_eq_true (by first | (with_reducible assumption) | assumption)
                    have q210 : x5_2 < (l0_1.length : Int) := of_decide_eq_true (by first | (with_reducible assumption) | assumption)
                    obtain ⟨ad210, e210, hx210_0⟩ := Kd.at_int HR0_1.out x5_2 p210 q210
                    have hw210_0 := hx210_0
                    cases e210
                    replace hx210_0 := (HB.out.cell (World.block_lt_of_cell? w _ hx210_0)).trans hx210_0
                    replace p210 := eq_true p210
                    replace q210 := eq_true q210
                    have p211 : 0 ≤ (x5_2 : Int) := of_decide_eq_true (by first | (with_reducible assumption) | assumption)
                    have q211 : x5_2 < (l1_1.length : Int) := of_decide_eq_true (by first | (with_reducible assumption) | assumption)
                    obtain ⟨ad211, e211, hx211_0⟩ := Kd.at_int HR1_1.out x5_2 p211 q211
                    have hw211_0 := hx211_0
                    cases e211
                    replace hx211_0 := (HB.out.cell (World.block_lt_of_cell? w _ hx211_0)).trans hx211_0
                    replace p211 := eq_true p211
                    replace q211 := eq_true q211
                    refine start_ (n := 11) (S := fun w' => w'.cell? ⟨gb208, 0, none⟩ = some (.int .u8 a0_0) ∧ w'.cell? ⟨gb208, 1, none⟩ = some (.slice (some ad210) l0_1.length c0_1) ∧ w'.cell? ⟨gb208, 2, none⟩ = some (.slice A0_2 l0_2.length c0_2) ∧ w'.cell? ⟨gb209, 0, none⟩ = some (.int .u8 a1_0) ∧ w'.cell? ⟨gb209, 1, none⟩ = some (.slice (some ad211) l1_1.length c1_1) ∧ w'.cell? ⟨gb209, 2, none⟩ = some (.slice A1_2 l1_2.length c1_2) ∧ w'.cell? (ad210.add (x5_2).toNat) = some (.int .u8 (rd l0_1 x5_2)) ∧ w'.cell? (ad211.add (x5_2).toNat) = some (.int .u8 (rd l1_1 x5_2))) (ds := []) #[false, false, false, false, false, false, false, false, false, false, false] (by kernel_rfl) rfl rfl ⟨(blk_cell BK208.out 0).trans rfl, (blk_cell BK208.out 1).trans rfl, (blk_cell BK208.out 2).trans rfl, (blk_cell BK209.out 0).trans rfl, (blk_cell BK209.out 1).trans rfl, (blk_cell BK209.out 2).trans rfl, ((HB.out.cell (World.block_lt_of_cell? w _ hw210_0)).trans hw210_0), ((HB.out.cell (World.block_lt_of_cell? w _ hw211_0)).trans hw211_0)⟩ (fun hHeld => ?_); refine with_tabW pyxref08_Same.tab6 pyxref08_Same.bits6 (fun HT_ HW_ => ?_)
                    generalize wr.drew = w24 at BK208 BK209 HB hx210_0 hx211_0 hHeld ⊢
                    refine pure_ (i := 0) (N := some 37) (v := ?_) (a' := ?_) #[true, false, false, false, false, false, false, false, false, false, false] rfl rfl (any_of HT_.out (by kernel_rfl)) (fun _ _ _ h => h) (Or.inl ⟨by rfl, ?_⟩) ?_ ?_
                    rotate_left
                    · intro w'
                      go_simp
                      with_reducible rfl
                    rotate_left
                    · simp only [Act.put, List.setIfInBounds_toArray, List.set_cons_zero, List.set_cons_succ, i64_w, i32_w]
                      rfl
                    refine pure_ (i := 2) (N := some 39) (v := ?_) (a' := ?_) #[true, false, true, false, false, false, false, false, false, false, false] rfl rfl (any_of HT_.out (by kernel_rfl)) (fun _ _ _ h => h) (Or.inl ⟨by rfl, ?_⟩) ?_ ?_
                    rotate_left
                    · intro w'
                      go_simp
                      with_reducible rfl
                    rotate_left
                    · simp only [Act.put, List.setIfInBounds_toArray, List.set_cons_zero, List.set_cons_succ, i64_w, i32_w]
                      rfl
                    refine pure_ (i := 5) (N := some 42) (v := ?_) (a' := ?_) #[true, false, true, false, false, true, false, false, false, false, false] rfl rfl (any_of HT_.out (by kernel_rfl)) (fun _ _ _ h => h) (Or.inl ⟨by rfl, ?_⟩) ?_ ?_
                    rotate_left
                    · intro w'
                      go_simp
                      with_reducible rfl
                    rotate_left
                    · simp only [Act.put, List.setIfInBounds_toArray, List.set_cons_zero, List.set_cons_succ, i64_w, i32_w]
                      rfl
                    refine pure_ (i := 7) (N := some 44) (v := ?_) (a' := ?_) #[true, false, true, false, false, true, false, true, false, false, false] rfl rfl (any_of HT_.out (by kernel_rfl)) (fun _ _ _ h => h) (Or.inl ⟨by rfl, ?_⟩) ?_ ?_
                    rotate_left
                    · intro w'
                      go_simp
                      with_reducible rfl
                    rotate_left
                    · simp only [Act.put, List.setIfInBounds_toArray, List.set_cons_zero, List.set_cons_succ, i64_w, i32_w]
                      rfl
                    refine take_ (i := 1) (N := some 38) (v := ?_) (a' := ?_) #[true, true, true, false, false, true, false, true, false, false, false] rfl rfl (take_ofW HT_.out HW_.out (by kernel_rfl)) (fun _ _ _ h => h) (Or.inl ⟨by rfl, ?_⟩) hHeld ?_ ?_
                    rotate_left
                    · rintro w' ⟨s0, s1, s2, s3, s4, s5, s6, s7⟩
                      go_simp
                      with_reducible rfl
                    rotate_left
                    · simp only [Act.put, List.setIfInBounds_toArray, List.set_cons_zero, List.set_cons_succ, i64_w, i32_w]
                      rfl
                    refine pure_ (i := 3) (N := some 40) (v := ?_) (a' := ?_) #[true, true, true, true, false, true, false, true, false, false, false] rfl rfl (any_of HT_.out (by kernel_rfl)) (fun _ _ _ h => h) (Or.inl ⟨by rfl, ?_⟩) ?_ ?_
                    rotate_left
                    · intro w'
                      go_simp
                      with_reducible rfl
                    rotate_left
                    · simp only [Act.put, List.setIfInBounds_toArray, List.set_cons_zero, List.set_cons_succ, i64_w, i32_w]
                      rfl
                    refine take_ (i := 4) (N := some 41) (v := ?_) (a' := ?_) #[true, true, true, true, true, true, false, true, false, false, false] rfl rfl (take_ofW HT_.out HW_.out (by kernel_rfl)) (fun _ _ _ h => h) (Or.inl ⟨by rfl, ?_⟩) hHeld ?_ ?_
                    rotate_left
                    · rintro w' ⟨s0, s1, s2, s3, s4, s5, s6, s7⟩
                      go_simp
                      with_reducible rfl
                    rotate_left
                    · simp only [Act.put, List.setIfInBounds_toArray, List.set_cons_zero, List.set_cons_succ, i64_w, i32_w]
                      rfl
                    refine take_ (i := 6) (N := some 43) (v := ?_) (a' := ?_) #[true, true, true, true, true, true, true, true, false, false, false] rfl rfl (take_ofW HT_.out HW_.out (by kernel_rfl)) (fun _ _ _ h => h) (Or.inl ⟨by rfl, ?_⟩) hHeld ?_ ?_
                    rotate_left
                    · rintro w' ⟨s0, s1, s2, s3, s4, s5, s6, s7⟩
                      go_simp
                      with_reducible rfl
                    rotate_left
                    · simp only [Act.put, List.setIfInBounds_toArray, List.set_cons_zero, List.set_cons_succ, i64_w, i32_w]
                      rfl
                    refine pure_ (i := 8) (N := some 45) (v := ?_) (a' := ?_) #[true, true, true, true, true, true, true, true, true, false, false] rfl rfl (any_of HT_.out (by kernel_rfl)) (fun _ _ _ h => h) (Or.inl ⟨by rfl, ?_⟩) ?_ ?_
                    rotate_left
                    · intro w'
                      go_simp
                      with_reducible rfl
                    rotate_left
                    · simp only [Act.put, List.setIfInBounds_toArray, List.set_cons_zero, List.set_cons_succ, i64_w, i32_w]
                      rfl
                    refine take_ (i := 9) (N := some 46) (v := ?_) (a' := ?_) #[true, true, true, true, true, true, true, true, true, true, false] rfl rfl (take_ofW HT_.out HW_.out (by kernel_rfl)) (fun _ _ _ h => h) (Or.inl ⟨by rfl, ?_⟩) hHeld ?_ ?_
                    rotate_left
                    · rintro w' ⟨s0, s1, s2, s3, s4, s5, s6, s7⟩
                      go_simp
                      with_reducible rfl
                    rotate_left
                    · simp only [Act.put, List.setIfInBounds_toArray, List.set_cons_zero, List.set_cons_succ, i64_w, i32_w]
                      rfl
                    refine pure_ (i := 10) (N := some 47) (v := ?_) (a' := ?_) #[true, true, true, true, true, true, true, true, true, true, true] rfl rfl (any_of HT_.out (by kernel_rfl)) (fun _ _ _ h => h) (Or.inl ⟨by rfl, ?_⟩) ?_ ?_
                    rotate_left
                    · intro w'
                      go_simp
                      with_reducible rfl
                    rotate_left
                    · simp only [Act.put, List.setIfInBounds_toArray, List.set_cons_zero, List.set_cons_succ, i64_w, i32_w]
                      rfl
                    refine done_ (done_of HT_.out (by kernel_rfl)) ?_
                    try go_wp2
                    go_roundg k2
                    case measure => have := HJ2.out; have := HK2.out; omega
                    case rel => exact ⟨(wrap64 (x5_2 + 1)), (by first | rfl | (simp; done) | (simp [*]; done)), H', ⟨by have := HJ2.out; have := HK2.out; omega⟩, ⟨by (with_reducible repeat (first | refine blk_drewN ?_ _ | refine blk_drew ?_ | refine blk_alloc ?_ _)); exact BK208.out⟩, ⟨by (with_reducible repeat (first | refine blk_drewN ?_ _ | refine blk_drew ?_ | refine blk_alloc ?_ _)); exact BK209.out⟩, ⟨by repeat (first | (with_reducible first | exact HB.out | apply below_alloc | apply pw_below_drewN | apply below_drew1 | refine below_set ?_ GE208.out | refine below_set ?_ GE209.out) | exact HB.out)⟩⟩
                  · rw [if_neg c21] at H
                    have c21b0 : ((rd l0_1 x5_2) == (rd l1_1 x5_2)) = false := beq_eq_false_iff_ne.mpr c21
                    have c21b1 : ((rd l0_1 x5_2) != (rd l1_1 x5_2)) = true := bne_iff_ne.mpr c21
                    obtain rfl := Option.some.inj H
                    have hnb25 := NB208_209.out
                    have hnc25 := NB209_208.out
                    have hcz26_0 : wr.cell? ⟨gb208, 0, none⟩ = some (.int .u8 a0_0) := (blk_cell BK208.out 0).trans rfl
                    have hcz26_1 : wr.cell? ⟨gb208, 1, none⟩ = some (.slice A0_1 l0_1.length c0_1) := (blk_cell BK208.out 1).trans rfl
                    have hcz26_2 : wr.cell? ⟨gb208, 2, none⟩ = some (.slice A0_2 l0_2.length c0_2) := (blk_cell BK208.out 2).trans rfl
                    have hfz26_0 := blk_frozen BK208.out 0
                    have hfz26_1 := blk_frozen BK208.out 1
                    have hfz26_2 := blk_frozen BK208.out 2
                    try go_wp2
                    have n0_ := Aside0.mk (blk_drew BK208.out)
                    have n1_ := Aside0.mk (blk_drew BK209.out)
                    have n2_ := Aside0.mk (below_drew1 HB.out)
                    clear BK208
                    clear BK209
                    clear HB
                    have BK208 := n0_
                    have BK209 := n1_
                    have HB := n2_
                    clear n0_ n1_ n2_
                    have p210 : 0 ≤ (x5_2 : Int) := of_decide_eq_true (by first | (with_reducible assumption) | assumption)
                    have q210 : x5_2 < (l0_1.length : Int) := of_decide_eq_true (by first | (with_reducible assumption) | assumption)
                    obtain ⟨ad210, e210, hx210_0⟩ := Kd.at_int HR0_1.out x5_2 p210 q210
                    have hw210_0 := hx210_0
                    cases e210
                    replace hx210_0 := (HB.out.cell (World.block_lt_of_cell? w _ hx210_0)).trans hx210_0
                    replace p210 := eq_true p210
                    replace q210 := eq_true q210
                    have p211 : 0 ≤ (x5_2 : Int) := of_decide_eq_true (by first | (with_reducible assumption) | assumption)
                    have q211 : x5_2 < (l1_1.length : Int) := of_decide_eq_true (by first | (with_reducible assumption) | assumption)
                    obtain ⟨ad211, e211, hx211_0⟩ := Kd.at_int HR1_1.out x5_2 p211 q211
                    have hw211_0 := hx211_0
                    cases e211
                    replace hx211_0 := (HB.out.cell (World.block_lt_of_cell? w _ hx211_0)).trans hx211_0
                    replace p211 := eq_true p211
                    replace q211 := eq_true q211
                    refine start_ (n := 11) (S := fun w' => w'.cell? ⟨gb208, 0, none⟩ = some (.int .u8 a0_0) ∧ w'.cell? ⟨gb208, 1, none⟩ = some (.slice (some ad210) l0_1.length c0_1) ∧ w'.cell? ⟨gb208, 2, none⟩ = some (.slice A0_2 l0_2.length c0_2) ∧ w'.cell? ⟨gb209, 0, none⟩ = some (.int .u8 a1_0) ∧ w'.cell? ⟨gb209, 1, none⟩ = some (.slice (some ad211) l1_1.length c1_1) ∧ w'.cell? ⟨gb209, 2, none⟩ = some (.slice A1_2 l1_2.length c1_2) ∧ w'.cell? (ad210.add (x5_2).toNat) = some (.int .u8 (rd l0_1 x5_2)) ∧ w'.cell? (ad211.add (x5_2).toNat) = some (.int .u8 (rd l1_1 x5_2))) (ds := []) #[false, false, false, false, false, false, false, false, false, false, false] (by kernel_rfl) rfl rfl ⟨(blk_cell BK208.out 0).trans rfl, (blk_cell BK208.out 1).trans rfl, (blk_cell BK208.out 2).trans rfl, (blk_cell BK209.out 0).trans rfl, (blk_cell BK209.out 1).trans rfl, (blk_cell BK209.out 2).trans rfl, ((HB.out.cell (World.block_lt_of_cell? w _ hw210_0)).trans hw210_0), ((HB.out.cell (World.block_lt_of_cell? w _ hw211_0)).trans hw211_0)⟩ (fun hHeld => ?_); refine with_tabW pyxref08_Same.tab6 pyxref08_Same.bits6 (fun HT_ HW_ => ?_)
                    generalize wr.drew = w27 at BK208 BK209 HB hx210_0 hx211_0 hHeld ⊢
                    refine pure_ (i := 0) (N := some 37) (v := ?_) (a' := ?_) #[true, false, false, false, false, false, false, false, false, false, false] rfl rfl (any_of HT_.out (by kernel_rfl)) (fun _ _ _ h => h) (Or.inl ⟨by rfl, ?_⟩) ?_ ?_
                    rotate_left
                    · intro w'
                      go_simp
                      with_reducible rfl
                    rotate_left
                    · simp only [Act.put, List.setIfInBounds_toArray, List.set_cons_zero, List.set_cons_succ, i64_w, i32_w]
                      rfl
                    refine pure_ (i := 2) (N := some 39) (v := ?_) (a' := ?_) #[true, false, true, false, false, false, false, false, false, false, false] rfl rfl (any_of HT_.out (by kernel_rfl)) (fun _ _ _ h => h) (Or.inl ⟨by rfl, ?_⟩) ?_ ?_
                    rotate_left
                    · intro w'
                      go_simp
                      with_reducible rfl
                    rotate_left
                    · simp only [Act.put, List.setIfInBounds_toArray, List.set_cons_zero, List.set_cons_succ, i64_w, i32_w]
                      rfl
                    refine pure_ (i := 5) (N := some 42) (v := ?_) (a' := ?_) #[true, false, true, false, false, true, false, false, false, false, false] rfl rfl (any_of HT_.out (by kernel_rfl)) (fun _ _ _ h => h) (Or.inl ⟨by rfl, ?_⟩) ?_ ?_
                    rotate_left
                    · intro w'
                      go_simp
                      with_reducible rfl
                    rotate_left
                    · simp only [Act.put, List.setIfInBounds_toArray, List.set_cons_zero, List.set_cons_succ, i64_w, i32_w]
                      rfl
                    refine pure_ (i := 7) (N := some 44) (v := ?_) (a' := ?_) #[true, false, true, false, false, true, false, true, false, false, false] rfl rfl (any_of HT_.out (by kernel_rfl)) (fun _ _ _ h => h) (Or.inl ⟨by rfl, ?_⟩) ?_ ?_
                    rotate_left
                    · intro w'
                      go_simp
                      with_reducible rfl
                    rotate_left
                    · simp only [Act.put, List.setIfInBounds_toArray, List.set_cons_zero, List.set_cons_succ, i64_w, i32_w]
                      rfl
                    refine take_ (i := 1) (N := some 38) (v := ?_) (a' := ?_) #[true, true, true, false, false, true, false, true, false, false, false] rfl rfl (take_ofW HT_.out HW_.out (by kernel_rfl)) (fun _ _ _ h => h) (Or.inl ⟨by rfl, ?_⟩) hHeld ?_ ?_
                    rotate_left
                    · rintro w' ⟨s0, s1, s2, s3, s4, s5, s6, s7⟩
                      go_simp
                      with_reducible rfl
                    rotate_left
                    · simp only [Act.put, List.setIfInBounds_toArray, List.set_cons_zero, List.set_cons_succ, i64_w, i32_w]
                      rfl
                    refine pure_ (i := 3) (N := some 40) (v := ?_) (a' := ?_) #[true, true, true, true, false, true, false, true, false, false, false] rfl rfl (any_of HT_.out (by kernel_rfl)) (fun _ _ _ h => h) (Or.inl ⟨by rfl, ?_⟩) ?_ ?_
                    rotate_left
                    · intro w'
                      go_simp
                      with_reducible rfl
                    rotate_left
                    · simp only [Act.put, List.setIfInBounds_toArray, List.set_cons_zero, List.set_cons_succ, i64_w, i32_w]
                      rfl
                    refine take_ (i := 4) (N := some 41) (v := ?_) (a' := ?_) #[true, true, true, true, true, true, false, true, false, false, false] rfl rfl (take_ofW HT_.out HW_.out (by kernel_rfl)) (fun _ _ _ h => h) (Or.inl ⟨by rfl, ?_⟩) hHeld ?_ ?_
                    rotate_left
                    · rintro w' ⟨s0, s1, s2, s3, s4, s5, s6, s7⟩
                      go_simp
                      with_reducible rfl
                    rotate_left
                    · simp only [Act.put, List.setIfInBounds_toArray, List.set_cons_zero, List.set_cons_succ, i64_w, i32_w]
                      rfl
                    refine take_ (i := 6) (N := some 43) (v := ?_) (a' := ?_) #[true, true, true, true, true, true, true, true, false, false, false] rfl rfl (take_ofW HT_.out HW_.out (by kernel_rfl)) (fun _ _ _ h => h) (Or.inl ⟨by rfl, ?_⟩) hHeld ?_ ?_
                    rotate_left
                    · rintro w' ⟨s0, s1, s2, s3, s4, s5, s6, s7⟩
                      go_simp
                      with_reducible rfl
                    rotate_left
                    · simp only [Act.put, List.setIfInBounds_toArray, List.set_cons_zero, List.set_cons_succ, i64_w, i32_w]
                      rfl
                    refine pure_ (i := 8) (N := some 45) (v := ?_) (a' := ?_) #[true, true, true, true, true, true, true, true, true, false, false] rfl rfl (any_of HT_.out (by kernel_rfl)) (fun _ _ _ h => h) (Or.inl ⟨by rfl, ?_⟩) ?_ ?_
                    rotate_left
                    · intro w'
                      go_simp
                      with_reducible rfl
                    rotate_left
                    · simp only [Act.put, List.setIfInBounds_toArray, List.set_cons_zero, List.set_cons_succ, i64_w, i32_w]
                      rfl
                    refine take_ (i := 9) (N := some 46) (v := ?_) (a' := ?_) #[true, true, true, true, true, true, true, true, true, true, false] rfl rfl (take_ofW HT_.out HW_.out (by kernel_rfl)) (fun _ _ _ h => h) (Or.inl ⟨by rfl, ?_⟩) hHeld ?_ ?_
                    rotate_left
                    · rintro w' ⟨s0, s1, s2, s3, s4, s5, s6, s7⟩
                      go_simp
                      with_reducible rfl
                    rotate_left
                    · simp only [Act.put, List.setIfInBounds_toArray, List.set_cons_zero, List.set_cons_succ, i64_w, i32_w]
                      rfl
                    refine pure_ (i := 10) (N := some 47) (v := ?_) (a' := ?_) #[true, true, true, true, true, true, true, true, true, true, true] rfl rfl (any_of HT_.out (by kernel_rfl)) (fun _ _ _ h => h) (Or.inl ⟨by rfl, ?_⟩) ?_ ?_
                    rotate_left
                    · intro w'
                      go_simp
                      with_reducible rfl
                    rotate_left
                    · simp only [Act.put, List.setIfInBounds_toArray, List.set_cons_zero, List.set_cons_succ, i64_w, i32_w]
                      rfl
                    refine done_ (done_of HT_.out (by kernel_rfl)) ?_
                    try go_wp2
                    go_ret
                    exact ⟨by first | rfl | (simp [errW_none, errW_some] <;> rfl) | (simp [*, errW_none, errW_some] <;> rfl), by repeat (first | (with_reducible first | exact HB.out | apply below_alloc | apply pw_below_drewN | apply below_drew1 | refine below_set ?_ GE208.out | refine below_set ?_ GE209.out) | exact HB.out)⟩
                · rw [if_neg c20] at H
                  exact absurd H (by simp)
              · rw [if_neg c19] at H
                exact absurd H (by simp)
            · rw [if_neg c18] at H
              have c18b0 : decide (x5_2 < (l0_1.length : Int)) = false := decide_eq_false c18
              clear c18
              have H' := Aside0.mk H
              clear H
              have hnb28 := NB208_209.out
              have hnc28 := NB209_208.out
              have hcz29_0 : wr.cell? ⟨gb208, 0, none⟩ = some (.int .u8 a0_0) := (blk_cell BK208.out 0).trans rfl
              have hcz29_1 : wr.cell? ⟨gb208, 1, none⟩ = some (.slice A0_1 l0_1.length c0_1) := (blk_cell BK208.out 1).trans rfl
              have hcz29_2 : wr.cell? ⟨gb208, 2, none⟩ = some (.slice A0_2 l0_2.length c0_2) := (blk_cell BK208.out 2).trans rfl
              have hfz29_0 := blk_frozen BK208.out 0
              have hfz29_1 := blk_frozen BK208.out 1
              have hfz29_2 := blk_frozen BK208.out 2
              go_wp2
              go_loopg [6] k2 (fun kq v6 w' => ∃ (x6_3 : Int), v6 = .int .i64 x6_3 ∧ Aside0 (pyxref08_Same.l1 kq x6_3 a0_0 l0_1 l0_2 a1_0 l1_1 l1_2 = some r) ∧ Aside0 (kq ≤ k2) ∧ Aside0 (w'.heap[gb208]? = some (.cells #[.int .u8 a0_0, (.slice A0_1 l0_1.length c0_1), (.slice A0_2 l0_2.length c0_2)] 33 (0, 0))) ∧ Aside0 (w'.heap[gb209]? = some (.cells #[.int .u8 a1_0, (.slice A1_1 l1_1.length c1_1), (.slice A1_2 l1_2.length c1_2)] 33 (0, 0))) ∧ Aside0 (Below w.heap.size w w'))
              case atStart => exact ⟨(0), (by first | rfl | (simp; done) | (simp [*]; done)), H', ⟨Nat.le_refl _⟩, ⟨by (with_reducible repeat (first | refine blk_drewN ?_ _ | refine blk_drew ?_ | refine blk_alloc ?_ _)); exact BK208.out⟩, ⟨by (with_reducible repeat (first | refine blk_drewN ?_ _ | refine blk_drew ?_ | refine blk_alloc ?_ _)); exact BK209.out⟩, ⟨by repeat (first | (with_reducible first | exact HB.out | apply below_alloc | apply pw_below_drewN | apply below_drew1 | refine below_set ?_ GE208.out | refine below_set ?_ GE209.out) | exact HB.out)⟩⟩
              case round =>
                clear H'
                try clear c1
                try clear c2
                try clear p2
                try clear q2
                try clear hx2
                try clear c6
                try clear c6b0
                try clear c6b1
                try clear p6
                try clear c7
                try clear c7b0
                try clear c7b1
                try clear c7b2
                try clear c8
                try clear c11
                try clear c14
                try clear c17
                try clear c18
                try clear c18b0
                try clear c19
                try clear c19b0
                try clear c20
                try clear c20b0
                try clear c21
                try clear c21b0
                try clear c21b1
                try clear p21
                try clear q21
                try clear hx21
                try clear c22
                try clear c25
                try clear c28
                try clear hcz10_0
                try clear hcz10_1
                try clear hcz10_2
                try clear hcz12_0
                try clear hcz12_1
                try clear hcz12_2
                try clear hcz13_0
                try clear hcz13_1
                try clear hcz13_2
                try clear hcz15_0
                try clear hcz15_1
                try clear hcz15_2
                try clear hcz16_0
                try clear hcz16_1
                try clear hcz16_2
                try clear hcz23_0
                try clear hcz23_1
                try clear hcz23_2
                try clear hcz26_0
                try clear hcz26_1
                try clear hcz26_2
                try clear hcz29_0
                try clear hcz29_1
                try clear hcz29_2
                try clear hcz9_0
                try clear hcz9_1
                try clear hcz9_2
                try clear hfz10_0
                try clear hfz10_1
                try clear hfz10_2
                try clear hfz12_0
                try clear hfz12_1
                try clear hfz12_2
                try clear hfz13_0
                try clear hfz13_1
                try clear hfz13_2
                try clear hfz15_0
                try clear hfz15_1
                try clear hfz15_2
                try clear hfz16_0
                try clear hfz16_1
                try clear hfz16_2
                try clear hfz23_0
                try clear hfz23_1
                try clear hfz23_2
                try clear hfz26_0
                try clear hfz26_1
                try clear hfz26_2
                try clear hfz29_0
                try clear hfz29_1
                try clear hfz29_2
                try clear hfz9_0
                try clear hfz9_1
                try clear hfz9_2
                try clear hx210_0
                try clear hx211_0
                try clear p2
                try clear p210
                try clear p211
                try clear q210
                try clear q211
                obtain ⟨x6_3, rfl, HA, HK3, BK208, BK209, HB⟩ := hrel
                cases gk with
                | zero => exact absurd HA.out (by simp [pyxref08_Same.l1])
                | succ k3 =>
                  have H := HA.out
                  clear HA
                  simp only [pyxref08_Same.l1] at H
                  by_cases c30 : x6_3 < (l0_2.length : Int)
                  · rw [if_pos c30] at H
                    have c30b0 : decide (x6_3 < (l0_2.length : Int)) = true := decide_eq_true c30
                    clear c30
                    by_cases c31 : 0 ≤ x6_3
                    · rw [if_pos c31] at H
                      have c31b0 : decide (0 ≤ x6_3) = true := decide_eq_true c31
                      clear c31
                      by_cases c32 : x6_3 < (l1_2.length : Int)
                      · rw [if_pos c32] at H
                        have c32b0 : decide (x6_3 < (l1_2.length : Int)) = true := decide_eq_true c32
                        clear c32
                        replace H := Option.bind_eq_some_iff.mp H
                        obtain ⟨t214, A330, H⟩ := H
                        replace H : (if t214 = true then (pyxref08_Same.l1 k3 (wrap64 (x6_3 + 1)) a0_0 l0_1 l0_2 a1_0 l1_1 l1_2) else (some false)) = some r := H
                        have A33 := Aside0.mk A330
                        clear A330
                        by_cases c34 : t214 = true
                        · subst c34
                          have H1 : (pyxref08_Same.l1 k3 (wrap64 (x6_3 + 1)) a0_0 l0_1 l0_2 a1_0 l1_1 l1_2) = some r := by rw [if_pos rfl] at H; exact H
                          clear H
                          have H := H1
                          clear H1
                          have H' := Aside0.mk H
                          clear H
                          have hnb35 := NB208_209.out
                          have hnc35 := NB209_208.out
                          have hcz36_0 : wr.cell? ⟨gb208, 0, none⟩ = some (.int .u8 a0_0) := (blk_cell BK208.out 0).trans rfl
                          have hcz36_1 : wr.cell? ⟨gb208, 1, none⟩ = some (.slice A0_1 l0_1.length c0_1) := (blk_cell BK208.out 1).trans rfl
                          have hcz36_2 : wr.cell? ⟨gb208, 2, none⟩ = some (.slice A0_2 l0_2.length c0_2) := (blk_cell BK208.out 2).trans rfl
                          have hfz36_0 := blk_frozen BK208.out 0
                          have hfz36_1 := blk_frozen BK208.out 1
                          have hfz36_2 := blk_frozen BK208.out 2
                          try go_wp2
                          have n0_ := Aside0.mk (blk_drew BK208.out)
                          have n1_ := Aside0.mk (blk_drew BK209.out)
                          have n2_ := Aside0.mk (below_drew1 HB.out)
                          clear BK208
                          clear BK209
                          clear HB
                          have BK208 := n0_
                          have BK209 := n1_
                          have HB := n2_
                          clear n0_ n1_ n2_
                          have p212 : 0 ≤ (x6_3 : Int) := of_decide_eq_true (by first | (with_reducible assumption) | assumption)
                          have q212 : x6_3 < (l0_2.length : Int) := of_decide_eq_true (by first | (with_reducible assumption) | assumption)
                          obtain ⟨ad212, A212_1, c212_1, A212_2, c212_2, e212, hx212_0, hx212_1, hx212_2, hl212_1, hi212_1, hl212_2, hi212_2⟩ := at_T33 HR0_2.out x6_3 p212 q212
                          have hw212_2 := hx212_2
                          have hw212_1 := hx212_1
                          have hw212_0 := hx212_0
                          cases e212
                          replace hx212_0 := (HB.out.cell (World.block_lt_of_cell? w _ hx212_0)).trans hx212_0
                          replace hx212_1 := (HB.out.cell (World.block_lt_of_cell? w _ hx212_1)).trans hx212_1
                          replace hx212_2 := (HB.out.cell (World.block_lt_of_cell? w _ hx212_2)).trans hx212_2
                          have HR212_1 := Aside0.mk hi212_1
                          have HC212_1 := Aside0.mk hl212_1
                          clear hi212_1 hl212_1
                          have HR212_2 := Aside0.mk hi212_2
                          have HC212_2 := Aside0.mk hl212_2
                          clear hi212_2 hl212_2
                          replace p212 := eq_true p212
                          replace q212 := eq_true q212
                          have p213 : 0 ≤ (x6_3 : Int) := of_decide_eq_true (by first | (with_reducible assumption) | assumption)
                          have q213 : x6_3 < (l1_2.length : Int) := of_decide_eq_true (by first | (with_reducible assumption) | assumption)
                          obtain ⟨ad213, A213_1, c213_1, A213_2, c213_2, e213, hx213_0, hx213_1, hx213_2, hl213_1, hi213_1, hl213_2, hi213_2⟩ := at_T33 HR1_2.out x6_3 p213 q213
                          have hw213_2 := hx213_2
                          have hw213_1 := hx213_1
                          have hw213_0 := hx213_0
                          cases e213
                          replace hx213_0 := (HB.out.cell (World.block_lt_of_cell? w _ hx213_0)).trans hx213_0
                          replace hx213_1 := (HB.out.cell (World.block_lt_of_cell? w _ hx213_1)).trans hx213_1
                          replace hx213_2 := (HB.out.cell (World.block_lt_of_cell? w _ hx213_2)).trans hx213_2
                          have HR213_1 := Aside0.mk hi213_1
                          have HC213_1 := Aside0.mk hl213_1
                          clear hi213_1 hl213_1
                          have HR213_2 := Aside0.mk hi213_2
                          have HC213_2 := Aside0.mk hl213_2
                          clear hi213_2 hl213_2
                          replace p213 := eq_true p213
                          replace q213 := eq_true q213
                          refine start_ (n := 12) (S := fun w' => w'.cell? ⟨gb208, 0, none⟩ = some (.int .u8 a0_0) ∧ w'.cell? ⟨gb208, 1, none⟩ = some (.slice A0_1 l0_1.length c0_1) ∧ w'.cell? ⟨gb208, 2, none⟩ = some (.slice (some ad212) l0_2.length c0_2) ∧ w'.cell? ⟨gb209, 0, none⟩ = some (.int .u8 a1_0) ∧ w'.cell? ⟨gb209, 1, none⟩ = some (.slice A1_1 l1_1.length c1_1) ∧ w'.cell? ⟨gb209, 2, none⟩ = some (.slice (some ad213) l1_2.length c1_2) ∧ w'.cell? (ad212.add ((x6_3).toNat * 3)) = some (.int .u8 ((rd_T33 l0_2 x6_3).f0)) ∧ w'.cell? ⟨(ad212.add ((x6_3).toNat * 3)).block, (ad212.add ((x6_3).toNat * 3)).off + 1, none⟩ = some (.slice A212_1 ((rd_T33 l0_2 x6_3).f1).length c212_1) ∧ w'.cell? ⟨(ad212.add ((x6_3).toNat * 3)).block, (ad212.add ((x6_3).toNat * 3)).off + 2, none⟩ = some (.slice A212_2 ((rd_T33 l0_2 x6_3).f2).length c212_2) ∧ w'.cell? (ad213.add ((x6_3).toNat * 3)) = some (.int .u8 ((rd_T33 l1_2 x6_3).f0)) ∧ w'.cell? ⟨(ad213.add ((x6_3).toNat * 3)).block, (ad213.add ((x6_3).toNat * 3)).off + 1, none⟩ = some (.slice A213_1 ((rd_T33 l1_2 x6_3).f1).length c213_1) ∧ w'.cell? ⟨(ad213.add ((x6_3).toNat * 3)).block, (ad213.add ((x6_3).toNat * 3)).off + 2, none⟩ = some (.slice A213_2 ((rd_T33 l1_2 x6_3).f2).length c213_2)) (ds := []) #[false, false, false, false, false, false, false, false, false, false, false, false] (by kernel_rfl) rfl rfl ⟨(blk_cell BK208.out 0).trans rfl, (blk_cell BK208.out 1).trans rfl, (blk_cell BK208.out 2).trans rfl, (blk_cell BK209.out 0).trans rfl, (blk_cell BK209.out 1).trans rfl, (blk_cell BK209.out 2).trans rfl, ((HB.out.cell (World.block_lt_of_cell? w _ hw212_0)).trans hw212_0), ((HB.out.cell (World.block_lt_of_cell? w _ hw212_1)).trans hw212_1), ((HB.out.cell (World.block_lt_of_cell? w _ hw212_2)).trans hw212_2), ((HB.out.cell (World.block_lt_of_cell? w _ hw213_0)).trans hw213_0), ((HB.out.cell (World.block_lt_of_cell? w _ hw213_1)).trans hw213_1), ((HB.out.cell (World.block_lt_of_cell? w _ hw213_2)).trans hw213_2)⟩ (fun hHeld => ?_); refine with_tabW pyxref08_Same.tab11 pyxref08_Same.bits11 (fun HT_ HW_ => ?_)
                          generalize wr.drew = w37 at BK208 BK209 HB HR212_1 HR212_2 HR213_1 HR213_2 hx212_0 hx212_1 hx212_2 hx213_0 hx213_1 hx213_2 hHeld ⊢
                          refine pure_ (i := 0) (N := some 55) (v := ?_) (a' := ?_) #[true, false, false, false, false, false, false, false, false, false, false, false] rfl rfl (any_of HT_.out (by kernel_rfl)) (fun _ _ _ h => h) (Or.inl ⟨by rfl, ?_⟩) ?_ ?_
                          rotate_left
                          · intro w'
                            go_simp
                            with_reducible rfl
                          rotate_left
                          · simp only [Act.put, List.setIfInBounds_toArray, List.set_cons_zero, List.set_cons_succ, i64_w, i32_w]
                            rfl
                          refine pure_ (i := 2) (N := some 57) (v := ?_) (a' := ?_) #[true, false, true, false, false, false, false, false, false, false, false, false] rfl rfl (any_of HT_.out (by kernel_rfl)) (fun _ _ _ h => h) (Or.inl ⟨by rfl, ?_⟩) ?_ ?_
                          rotate_left
                          · intro w'
                            go_simp
                            with_reducible rfl
                          rotate_left
                          · simp only [Act.put, List.setIfInBounds_toArray, List.set_cons_zero, List.set_cons_succ, i64_w, i32_w]
                            rfl
                          refine pure_ (i := 5) (N := some 60) (v := ?_) (a' := ?_) #[true, false, true, false, false, true, false, false, false, false, false, false] rfl rfl (any_of HT_.out (by kernel_rfl)) (fun _ _ _ h => h) (Or.inl ⟨by rfl, ?_⟩) ?_ ?_
                          rotate_left
                          · intro w'
                            go_simp
                            with_reducible rfl
                          rotate_left
                          · simp only [Act.put, List.setIfInBounds_toArray, List.set_cons_zero, List.set_cons_succ, i64_w, i32_w]
                            rfl
                          refine pure_ (i := 7) (N := some 62) (v := ?_) (a' := ?_) #[true, false, true, false, false, true, false, true, false, false, false, false] rfl rfl (any_of HT_.out (by kernel_rfl)) (fun _ _ _ h => h) (Or.inl ⟨by rfl, ?_⟩) ?_ ?_
                          rotate_left
                          · intro w'
                            go_simp
                            with_reducible rfl
                          rotate_left
                          · simp only [Act.put, List.setIfInBounds_toArray, List.set_cons_zero, List.set_cons_succ, i64_w, i32_w]
                            rfl
                          refine take_ (i := 1) (N := some 56) (v := ?_) (a' := ?_) #[true, true, true, false, false, true, false, true, false, false, false, false] rfl rfl (take_ofW HT_.out HW_.out (by kernel_rfl)) (fun _ _ _ h => h) (Or.inl ⟨by rfl, ?_⟩) hHeld ?_ ?_
                          rotate_left
                          · rintro w' ⟨s0, s1, s2, s3, s4, s5, s6, s7, s8, s9, s10, s11⟩
                            go_simp
                            with_reducible rfl
                          rotate_left
                          · simp only [Act.put, List.setIfInBounds_toArray, List.set_cons_zero, List.set_cons_succ, i64_w, i32_w]
                            rfl
                          refine pure_ (i := 3) (N := some 58) (v := ?_) (a' := ?_) #[true, true, true, true, false, true, false, true, false, false, false, false] rfl rfl (any_of HT_.out (by kernel_rfl)) (fun _ _ _ h => h) (Or.inl ⟨by rfl, ?_⟩) ?_ ?_
                          rotate_left
                          · intro w'
                            go_simp
                            with_reducible rfl
                          rotate_left
                          · simp only [Act.put, List.setIfInBounds_toArray, List.set_cons_zero, List.set_cons_succ, i64_w, i32_w]
                            rfl
                          refine take_ (i := 4) (N := some 59) (v := ?_) (a' := ?_) #[true, true, true, true, true, true, false, true, false, false, false, false] rfl rfl (take_ofW HT_.out HW_.out (by kernel_rfl)) (fun _ _ _ h => h) (Or.inl ⟨by rfl, ?_⟩) hHeld ?_ ?_
                          rotate_left
                          · rintro w' ⟨s0, s1, s2, s3, s4, s5, s6, s7, s8, s9, s10, s11⟩
                            go_simp
                            with_reducible rfl
                          rotate_left
                          · simp only [Act.put, List.setIfInBounds_toArray, List.set_cons_zero, List.set_cons_succ, i64_w, i32_w]
                            rfl
                          refine take_ (i := 6) (N := some 61) (v := ?_) (a' := ?_) #[true, true, true, true, true, true, true, true, false, false, false, false] rfl rfl (take_ofW HT_.out HW_.out (by kernel_rfl)) (fun _ _ _ h => h) (Or.inl ⟨by rfl, ?_⟩) hHeld ?_ ?_
                          rotate_left
                          · rintro w' ⟨s0, s1, s2, s3, s4, s5, s6, s7, s8, s9, s10, s11⟩
                            go_simp
                            with_reducible rfl
                          rotate_left
                          · simp only [Act.put, List.setIfInBounds_toArray, List.set_cons_zero, List.set_cons_succ, i64_w, i32_w]
                            rfl
                          refine pure_ (i := 8) (N := some 63) (v := ?_) (a' := ?_) #[true, true, true, true, true, true, true, true, true, false, false, false] rfl rfl (any_of HT_.out (by kernel_rfl)) (fun _ _ _ h => h) (Or.inl ⟨by rfl, ?_⟩) ?_ ?_
                          rotate_left
                          · intro w'
                            go_simp
                            with_reducible rfl
                          rotate_left
                          · simp only [Act.put, List.setIfInBounds_toArray, List.set_cons_zero, List.set_cons_succ, i64_w, i32_w]
                            rfl
                          refine take_ (i := 9) (N := some 64) (v := ?_) (a' := ?_) #[true, true, true, true, true, true, true, true, true, true, false, false] rfl rfl (take_ofW HT_.out HW_.out (by kernel_rfl)) (fun _ _ _ h => h) (Or.inl ⟨by rfl, ?_⟩) hHeld ?_ ?_
                          rotate_left
                          · rintro w' ⟨s0, s1, s2, s3, s4, s5, s6, s7, s8, s9, s10, s11⟩
                            go_simp
                            with_reducible rfl
                          rotate_left
                          · simp only [Act.put, List.setIfInBounds_toArray, List.set_cons_zero, List.set_cons_succ, i64_w, i32_w]
                            rfl
                          refine one_ (i := 10) (N := some 65) #[true, true, true, true, true, true, true, true, true, true, true, false] rfl rfl (one_of HT_.out (by kernel_rfl)) (by decide) (fun K hK => ?_)
                          refine goes_ Tryd.func21 (by kernel_rfl) rfl #[.agg #[.int .u8 ((rd_T33 l0_2 x6_3).f0), .slice A212_1 ((rd_T33 l0_2 x6_3).f1).length c212_1, .slice A212_2 ((rd_T33 l0_2 x6_3).f2).length c212_2], .agg #[.int .u8 ((rd_T33 l1_2 x6_3).f0), .slice A213_1 ((rd_T33 l1_2 x6_3).f1).length c213_1, .slice A213_2 ((rd_T33 l1_2 x6_3).f2).length c213_2]] (by rfl) rfl rfl (by (try simp only [List.map_toArray, List.map_cons, List.map_nil]); first | done | rfl | (simp only [List.length_drop, List.length_take]; rfl)) ?_
                          with_reducible refine (ih k3 (by have := HJ2.out; have := HK2.out; have := HK3.out; omega) ((rd_T33 l0_2 x6_3).f0) _ _ ((rd_T33 l0_2 x6_3).f1) _ _ ((rd_T33 l0_2 x6_3).f2) ((rd_T33 l1_2 x6_3).f0) _ _ ((rd_T33 l1_2 x6_3).f1) _ _ ((rd_T33 l1_2 x6_3).f2) true _ ?side1 ?side2 ?side3 ?side4 ?side5 ?side6 ?side7 ?side8 A33.out).mono ?_
                          (case side1 => repeat (first | exact (Kd.C_below HR212_1.out HB.out) | (with_reducible refine Kd.C_alloc ?_ _) | (with_reducible refine Kd.C_drewN ?_ _) | (with_reducible refine Kd.C_drew ?_)))
                          (case side2 => exact HC212_1.out)
                          (case side3 => repeat (first | exact (Kd.C_below HR212_2.out HB.out) | (with_reducible refine Kd.C_alloc ?_ _) | (with_reducible refine Kd.C_drewN ?_ _) | (with_reducible refine Kd.C_drew ?_)))
                          (case side4 => exact HC212_2.out)
                          (case side5 => repeat (first | exact (Kd.C_below HR213_1.out HB.out) | (with_reducible refine Kd.C_alloc ?_ _) | (with_reducible refine Kd.C_drewN ?_ _) | (with_reducible refine Kd.C_drew ?_)))
                          (case side6 => exact HC213_1.out)
                          (case side7 => repeat (first | exact (Kd.C_below HR213_2.out HB.out) | (with_reducible refine Kd.C_alloc ?_ _) | (with_reducible refine Kd.C_drewN ?_ _) | (with_reducible refine Kd.C_drew ?_)))
                          (case side8 => exact HC213_2.out)
                          rintro e w38 ⟨rfl, hb⟩
                          refine ⟨_, rfl, ?_⟩
                          have n0_ := Aside0.mk (blk_below (g := gb208) (o := .cells #[.int .u8 a0_0, .slice A0_1 l0_1.length c0_1, .slice (some ad212) l0_2.length c0_2] 33 (0, 0)) (by (with_reducible repeat (first | refine blk_drewN ?_ _ | refine blk_drew ?_ | refine blk_alloc ?_ _)); exact BK208.out) hb)
                          have n1_ := Aside0.mk (blk_below (g := gb209) (o := .cells #[.int .u8 a1_0, .slice A1_1 l1_1.length c1_1, .slice (some ad213) l1_2.length c1_2] 33 (0, 0)) (by (with_reducible repeat (first | refine blk_drewN ?_ _ | refine blk_drew ?_ | refine blk_alloc ?_ _)); exact BK209.out) hb)
                          have n2_ := Aside0.mk (below_step (by repeat (first | (with_reducible first | exact HB.out | apply below_alloc | apply pw_below_drewN | apply below_drew1 | refine below_set ?_ GE208.out | refine below_set ?_ GE209.out) | exact HB.out)) hb)
                          clear BK208
                          clear BK209
                          clear HB
                          have BK208 := n0_
                          have BK209 := n1_
                          have HB := n2_
                          clear n0_ n1_ n2_
                          (try clear hb)
                          (try clear hb2)
                          (try clear hk)
                          (try clear hi)
                          refine hK.out _ _ ⟨(blk_cell BK208.out 0).trans rfl, (blk_cell BK208.out 1).trans rfl, (blk_cell BK208.out 2).trans rfl, (blk_cell BK209.out 0).trans rfl, (blk_cell BK209.out 1).trans rfl, (blk_cell BK209.out 2).trans rfl, ((HB.out.cell (World.block_lt_of_cell? w _ hw212_0)).trans hw212_0), ((HB.out.cell (World.block_lt_of_cell? w _ hw212_1)).trans hw212_1), ((HB.out.cell (World.block_lt_of_cell? w _ hw212_2)).trans hw212_2), ((HB.out.cell (World.block_lt_of_cell? w _ hw213_0)).trans hw213_0), ((HB.out.cell (World.block_lt_of_cell? w _ hw213_1)).trans hw213_1), ((HB.out.cell (World.block_lt_of_cell? w _ hw213_2)).trans hw213_2)⟩ (fun hHeld => ?_)
                          clear hK K
                          refine norm_ (a' := ?_) ?_ ?_
                          rotate_left
                          · show Act.put _ (some 65) _ = _
                            simp only [Act.put, List.setIfInBounds_toArray, List.set_cons_zero, List.set_cons_succ, i64_w, i32_w]
                            rfl
                          refine pure_ (i := 11) (N := some 66) (v := ?_) (a' := ?_) #[true, true, true, true, true, true, true, true, true, true, true, true] rfl rfl (any_of HT_.out (by kernel_rfl)) (fun _ _ _ h => h) (Or.inl ⟨by rfl, ?_⟩) ?_ ?_
                          rotate_left
                          · intro w'
                            go_simp
                            with_reducible rfl
                          rotate_left
                          · simp only [Act.put, List.setIfInBounds_toArray, List.set_cons_zero, List.set_cons_succ, i64_w, i32_w]
                            rfl
                          refine done_ (done_of HT_.out (by kernel_rfl)) ?_
                          try go_wp2
                          go_roundg k3
                          case measure => have := HJ2.out; have := HK2.out; have := HK3.out; omega
                          case rel => exact ⟨(wrap64 (x6_3 + 1)), (by first | rfl | (simp; done) | (simp [*]; done)), H', ⟨by have := HJ2.out; have := HK2.out; have := HK3.out; omega⟩, ⟨by (with_reducible repeat (first | refine blk_drewN ?_ _ | refine blk_drew ?_ | refine blk_alloc ?_ _)); exact BK208.out⟩, ⟨by (with_reducible repeat (first | refine blk_drewN ?_ _ | refine blk_drew ?_ | refine blk_alloc ?_ _)); exact BK209.out⟩, ⟨by repeat (first | (with_reducible first | exact HB.out | apply below_alloc | apply pw_below_drewN | apply below_drew1 | refine below_set ?_ GE208.out | refine below_set ?_ GE209.out) | exact HB.out)⟩⟩
                        · replace c34 := Bool.eq_false_iff.mpr c34
                          subst c34
                          have H1 : (some false) = some r := by rw [if_neg (show ¬ (false = true) by decide)] at H; exact H
                          clear H
                          have H := H1
                          clear H1
                          obtain rfl := Option.some.inj H
                          have hnb39 := NB208_209.out
                          have hnc39 := NB209_208.out
                          have hcz40_0 : wr.cell? ⟨gb208, 0, none⟩ = some (.int .u8 a0_0) := (blk_cell BK208.out 0).trans rfl
                          have hcz40_1 : wr.cell? ⟨gb208, 1, none⟩ = some (.slice A0_1 l0_1.length c0_1) := (blk_cell BK208.out 1).trans rfl
                          have hcz40_2 : wr.cell? ⟨gb208, 2, none⟩ = some (.slice A0_2 l0_2.length c0_2) := (blk_cell BK208.out 2).trans rfl
                          have hfz40_0 := blk_frozen BK208.out 0
                          have hfz40_1 := blk_frozen BK208.out 1
                          have hfz40_2 := blk_frozen BK208.out 2
                          try go_wp2
                          have n0_ := Aside0.mk (blk_drew BK208.out)
                          have n1_ := Aside0.mk (blk_drew BK209.out)
                          have n2_ := Aside0.mk (below_drew1 HB.out)
                          clear BK208
                          clear BK209
                          clear HB
                          have BK208 := n0_
                          have BK209 := n1_
                          have HB := n2_
                          clear n0_ n1_ n2_
                          have p212 : 0 ≤ (x6_3 : Int) := of_decide_eq_true (by first | (with_reducible assumption) | assumption)
                          have q212 : x6_3 < (l0_2.length : Int) := of_decide_eq_true (by first | (with_reducible assumption) | assumption)
                          obtain ⟨ad212, A212_1, c212_1, A212_2, c212_2, e212, hx212_0, hx212_1, hx212_2, hl212_1, hi212_1, hl212_2, hi212_2⟩ := at_T33 HR0_2.out x6_3 p212 q212
                          have hw212_2 := hx212_2
                          have hw212_1 := hx212_1
                          have hw212_0 := hx212_0
                          cases e212
                          replace hx212_0 := (HB.out.cell (World.block_lt_of_cell? w _ hx212_0)).trans hx212_0
                          replace hx212_1 := (HB.out.cell (World.block_lt_of_cell? w _ hx212_1)).trans hx212_1
                          replace hx212_2 := (HB.out.cell (World.block_lt_of_cell? w _ hx212_2)).trans hx212_2
                          have HR212_1 := Aside0.mk hi212_1
                          have HC212_1 := Aside0.mk hl212_1
                          clear hi212_1 hl212_1
                          have HR212_2 := Aside0.mk hi212_2
                          have HC212_2 := Aside0.mk hl212_2
                          clear hi212_2 hl212_2
                          replace p212 := eq_true p212
                          replace q212 := eq_true q212
                          have p213 : 0 ≤ (x6_3 : Int) := of_decide_eq_true (by first | (with_reducible assumption) | assumption)
                          have q213 : x6_3 < (l1_2.length : Int) := of_decide_eq_true (by first | (with_reducible assumption) | assumption)
                          obtain ⟨ad213, A213_1, c213_1, A213_2, c213_2, e213, hx213_0, hx213_1, hx213_2, hl213_1, hi213_1, hl213_2, hi213_2⟩ := at_T33 HR1_2.out x6_3 p213 q213
                          have hw213_2 := hx213_2
                          have hw213_1 := hx213_1
                          have hw213_0 := hx213_0
                          cases e213
                          replace hx213_0 := (HB.out.cell (World.block_lt_of_cell? w _ hx213_0)).trans hx213_0
                          replace hx213_1 := (HB.out.cell (World.block_lt_of_cell? w _ hx213_1)).trans hx213_1
                          replace hx213_2 := (HB.out.cell (World.block_lt_of_cell? w _ hx213_2)).trans hx213_2
                          have HR213_1 := Aside0.mk hi213_1
                          have HC213_1 := Aside0.mk hl213_1
                          clear hi213_1 hl213_1
                          have HR213_2 := Aside0.mk hi213_2
                          have HC213_2 := Aside0.mk hl213_2
                          clear hi213_2 hl213_2
                          replace p213 := eq_true p213
                          replace q213 := eq_true q213
                          refine start_ (n := 12) (S := fun w' => w'.cell? ⟨gb208, 0, none⟩ = some (.int .u8 a0_0) ∧ w'.cell? ⟨gb208, 1, none⟩ = some (.slice A0_1 l0_1.length c0_1) ∧ w'.cell? ⟨gb208, 2, none⟩ = some (.slice (some ad212) l0_2.length c0_2) ∧ w'.cell? ⟨gb209, 0, none⟩ = some (.int .u8 a1_0) ∧ w'.cell? ⟨gb209, 1, none⟩ = some (.slice A1_1 l1_1.length c1_1) ∧ w'.cell? ⟨gb209, 2, none⟩ = some (.slice (some ad213) l1_2.length c1_2) ∧ w'.cell? (ad212.add ((x6_3).toNat * 3)) = some (.int .u8 ((rd_T33 l0_2 x6_3).f0)) ∧ w'.cell? ⟨(ad212.add ((x6_3).toNat * 3)).block, (ad212.add ((x6_3).toNat * 3)).off + 1, none⟩ = some (.slice A212_1 ((rd_T33 l0_2 x6_3).f1).length c212_1) ∧ w'.cell? ⟨(ad212.add ((x6_3).toNat * 3)).block, (ad212.add ((x6_3).toNat * 3)).off + 2, none⟩ = some (.slice A212_2 ((rd_T33 l0_2 x6_3).f2).length c212_2) ∧ w'.cell? (ad213.add ((x6_3).toNat * 3)) = some (.int .u8 ((rd_T33 l1_2 x6_3).f0)) ∧ w'.cell? ⟨(ad213.add ((x6_3).toNat * 3)).block, (ad213.add ((x6_3).toNat * 3)).off + 1, none⟩ = some (.slice A213_1 ((rd_T33 l1_2 x6_3).f1).length c213_1) ∧ w'.cell? ⟨(ad213.add ((x6_3).toNat * 3)).block, (ad213.add ((x6_3).toNat * 3)).off + 2, none⟩ = some (.slice A213_2 ((rd_T33 l1_2 x6_3).f2).length c213_2)) (ds := []) #[false, false, false, false, false, false, false, false, false, false, false, false] (by kernel_rfl) rfl rfl ⟨(blk_cell BK208.out 0).trans rfl, (blk_cell BK208.out 1).trans rfl, (blk_cell BK208.out 2).trans rfl, (blk_cell BK209.out 0).trans rfl, (blk_cell BK209.out 1).trans rfl, (blk_cell BK209.out 2).trans rfl, ((HB.out.cell (World.block_lt_of_cell? w _ hw212_0)).trans hw212_0), ((HB.out.cell (World.block_lt_of_cell? w _ hw212_1)).trans hw212_1), ((HB.out.cell (World.block_lt_of_cell? w _ hw212_2)).trans hw212_2), ((HB.out.cell (World.block_lt_of_cell? w _ hw213_0)).trans hw213_0), ((HB.out.cell (World.block_lt_of_cell? w _ hw213_1)).trans hw213_1), ((HB.out.cell (World.block_lt_of_cell? w _ hw213_2)).trans hw213_2)⟩ (fun hHeld => ?_); refine with_tabW pyxref08_Same.tab11 pyxref08_Same.bits11 (fun HT_ HW_ => ?_)
                          generalize wr.drew = w41 at BK208 BK209 HB HR212_1 HR212_2 HR213_1 HR213_2 hx212_0 hx212_1 hx212_2 hx213_0 hx213_1 hx213_2 hHeld ⊢
                          refine pure_ (i := 0) (N := some 55) (v := ?_) (a' := ?_) #[true, false, false, false, false, false, false, false, false, false, false, false] rfl rfl (any_of HT_.out (by kernel_rfl)) (fun _ _ _ h => h) (Or.inl ⟨by rfl, ?_⟩) ?_ ?_
                          rotate_left
                          · intro w'
                            go_simp
                            with_reducible rfl
                          rotate_left
                          · simp only [Act.put, List.setIfInBounds_toArray, List.set_cons_zero, List.set_cons_succ, i64_w, i32_w]
                            rfl
                          refine pure_ (i := 2) (N := some 57) (v := ?_) (a' := ?_) #[true, false, true, false, false, false, false, false, false, false, false, false] rfl rfl (any_of HT_.out (by kernel_rfl)) (fun _ _ _ h => h) (Or.inl ⟨by rfl, ?_⟩) ?_ ?_
                          rotate_left
                          · intro w'
                            go_simp
                            with_reducible rfl
                          rotate_left
                          · simp only [Act.put, List.setIfInBounds_toArray, List.set_cons_zero, List.set_cons_succ, i64_w, i32_w]
                            rfl
                          refine pure_ (i := 5) (N := some 60) (v := ?_) (a' := ?_) #[true, false, true, false, false, true, false, false, false, false, false, false] rfl rfl (any_of HT_.out (by kernel_rfl)) (fun _ _ _ h => h) (Or.inl ⟨by rfl, ?_⟩) ?_ ?_
                          rotate_left
                          · intro w'
                            go_simp
                            with_reducible rfl
                          rotate_left
                          · simp only [Act.put, List.setIfInBounds_toArray, List.set_cons_zero, List.set_cons_succ, i64_w, i32_w]
                            rfl
                          refine pure_ (i := 7) (N := some 62) (v := ?_) (a' := ?_) #[true, false, true, false, false, true, false, true, false, false, false, false] rfl rfl (any_of HT_.out (by kernel_rfl)) (fun _ _ _ h => h) (Or.inl ⟨by rfl, ?_⟩) ?_ ?_
                          rotate_left
                          · intro w'
                            go_simp
                            with_reducible rfl
                          rotate_left
                          · simp only [Act.put, List.setIfInBounds_toArray, List.set_cons_zero, List.set_cons_succ, i64_w, i32_w]
                            rfl
                          refine take_ (i := 1) (N := some 56) (v := ?_) (a' := ?_) #[true, true, true, false, false, true, false, true, false, false, false, false] rfl rfl (take_ofW HT_.out HW_.out (by kernel_rfl)) (fun _ _ _ h => h) (Or.inl ⟨by rfl, ?_⟩) hHeld ?_ ?_
                          rotate_left
                          · rintro w' ⟨s0, s1, s2, s3, s4, s5, s6, s7, s8, s9, s10, s11⟩
                            go_simp
                            with_reducible rfl
                          rotate_left
                          · simp only [Act.put, List.setIfInBounds_toArray, List.set_cons_zero, List.set_cons_succ, i64_w, i32_w]
                            rfl
                          refine pure_ (i := 3) (N := some 58) (v := ?_) (a' := ?_) #[true, true, true, true, false, true, false, true, false, false, false, false] rfl rfl (any_of HT_.out (by kernel_rfl)) (fun _ _ _ h => h) (Or.inl ⟨by rfl, ?_⟩) ?_ ?_
                          rotate_left
                          · intro w'
                            go_simp
                            with_reducible rfl
                          rotate_left
                          · simp only [Act.put, List.setIfInBounds_toArray, List.set_cons_zero, List.set_cons_succ, i64_w, i32_w]
                            rfl
                          refine take_ (i := 4) (N := some 59) (v := ?_) (a' := ?_) #[true, true, true, true, true, true, false, true, false, false, false, false] rfl rfl (take_ofW HT_.out HW_.out (by kernel_rfl)) (fun _ _ _ h => h) (Or.inl ⟨by rfl, ?_⟩) hHeld ?_ ?_
                          rotate_left
                          · rintro w' ⟨s0, s1, s2, s3, s4, s5, s6, s7, s8, s9, s10, s11⟩
                            go_simp
                            with_reducible rfl
                          rotate_left
                          · simp only [Act.put, List.setIfInBounds_toArray, List.set_cons_zero, List.set_cons_succ, i64_w, i32_w]
                            rfl
                          refine take_ (i := 6) (N := some 61) (v := ?_) (a' := ?_) #[true, true, true, true, true, true, true, true, false, false, false, false] rfl rfl (take_ofW HT_.out HW_.out (by kernel_rfl)) (fun _ _ _ h => h) (Or.inl ⟨by rfl, ?_⟩) hHeld ?_ ?_
                          rotate_left
                          · rintro w' ⟨s0, s1, s2, s3, s4, s5, s6, s7, s8, s9, s10, s11⟩
                            go_simp
                            with_reducible rfl
                          rotate_left
                          · simp only [Act.put, List.setIfInBounds_toArray, List.set_cons_zero, List.set_cons_succ, i64_w, i32_w]
                            rfl
                          refine pure_ (i := 8) (N := some 63) (v := ?_) (a' := ?_) #[true, true, true, true, true, true, true, true, true, false, false, false] rfl rfl (any_of HT_.out (by kernel_rfl)) (fun _ _ _ h => h) (Or.inl ⟨by rfl, ?_⟩) ?_ ?_
                          rotate_left
                          · intro w'
                            go_simp
                            with_reducible rfl
                          rotate_left
                          · simp only [Act.put, List.setIfInBounds_toArray, List.set_cons_zero, List.set_cons_succ, i64_w, i32_w]
                            rfl
                          refine take_ (i := 9) (N := some 64) (v := ?_) (a' := ?_) #[true, true, true, true, true, true, true, true, true, true, false, false] rfl rfl (take_ofW HT_.out HW_.out (by kernel_rfl)) (fun _ _ _ h => h) (Or.inl ⟨by rfl, ?_⟩) hHeld ?_ ?_
                          rotate_left
                          · rintro w' ⟨s0, s1, s2, s3, s4, s5, s6, s7, s8, s9, s10, s11⟩
                            go_simp
                            with_reducible rfl
                          rotate_left
                          · simp only [Act.put, List.setIfInBounds_toArray, List.set_cons_zero, List.set_cons_succ, i64_w, i32_w]
                            rfl
                          refine one_ (i := 10) (N := some 65) #[true, true, true, true, true, true, true, true, true, true, true, false] rfl rfl (one_of HT_.out (by kernel_rfl)) (by decide) (fun K hK => ?_)
                          refine goes_ Tryd.func21 (by kernel_rfl) rfl #[.agg #[.int .u8 ((rd_T33 l0_2 x6_3).f0), .slice A212_1 ((rd_T33 l0_2 x6_3).f1).length c212_1, .slice A212_2 ((rd_T33 l0_2 x6_3).f2).length c212_2], .agg #[.int .u8 ((rd_T33 l1_2 x6_3).f0), .slice A213_1 ((rd_T33 l1_2 x6_3).f1).length c213_1, .slice A213_2 ((rd_T33 l1_2 x6_3).f2).length c213_2]] (by rfl) rfl rfl (by (try simp only [List.map_toArray, List.map_cons, List.map_nil]); first | done | rfl | (simp only [List.length_drop, List.length_take]; rfl)) ?_
                          with_reducible refine (ih k3 (by have := HJ2.out; have := HK2.out; have := HK3.out; omega) ((rd_T33 l0_2 x6_3).f0) _ _ ((rd_T33 l0_2 x6_3).f1) _ _ ((rd_T33 l0_2 x6_3).f2) ((rd_T33 l1_2 x6_3).f0) _ _ ((rd_T33 l1_2 x6_3).f1) _ _ ((rd_T33 l1_2 x6_3).f2) false _ ?side1 ?side2 ?side3 ?side4 ?side5 ?side6 ?side7 ?side8 A33.out).mono ?_
                          (case side1 => repeat (first | exact (Kd.C_below HR212_1.out HB.out) | (with_reducible refine Kd.C_alloc ?_ _) | (with_reducible refine Kd.C_drewN ?_ _) | (with_reducible refine Kd.C_drew ?_)))
                          (case side2 => exact HC212_1.out)
                          (case side3 => repeat (first | exact (Kd.C_below HR212_2.out HB.out) | (with_reducible refine Kd.C_alloc ?_ _) | (with_reducible refine Kd.C_drewN ?_ _) | (with_reducible refine Kd.C_drew ?_)))
                          (case side4 => exact HC212_2.out)
                          (case side5 => repeat (first | exact (Kd.C_below HR213_1.out HB.out) | (with_reducible refine Kd.C_alloc ?_ _) | (with_reducible refine Kd.C_drewN ?_ _) | (with_reducible refine Kd.C_drew ?_)))
                          (case side6 => exact HC213_1.out)
                          (case side7 => repeat (first | exact (Kd.C_below HR213_2.out HB.out) | (with_reducible refine Kd.C_alloc ?_ _) | (with_reducible refine Kd.C_drewN ?_ _) | (with_reducible refine Kd.C_drew ?_)))
                          (case side8 => exact HC213_2.out)
                          rintro e w42 ⟨rfl, hb⟩
                          refine ⟨_, rfl, ?_⟩
                          have n0_ := Aside0.mk (blk_below (g := gb208) (o := .cells #[.int .u8 a0_0, .slice A0_1 l0_1.length c0_1, .slice (some ad212) l0_2.length c0_2] 33 (0, 0)) (by (with_reducible repeat (first | refine blk_drewN ?_ _ | refine blk_drew ?_ | refine blk_alloc ?_ _)); exact BK208.out) hb)
                          have n1_ := Aside0.mk (blk_below (g := gb209) (o := .cells #[.int .u8 a1_0, .slice A1_1 l1_1.length c1_1, .slice (some ad213) l1_2.length c1_2] 33 (0, 0)) (by (with_reducible repeat (first | refine blk_drewN ?_ _ | refine blk_drew ?_ | refine blk_alloc ?_ _)); exact BK209.out) hb)
                          have n2_ := Aside0.mk (below_step (by repeat (first | (with_reducible first | exact HB.out | apply below_alloc | apply pw_below_drewN | apply below_drew1 | refine below_set ?_ GE208.out | refine below_set ?_ GE209.out) | exact HB.out)) hb)
                          clear BK208
                          clear BK209
                          clear HB
                          have BK208 := n0_
                          have BK209 := n1_
                          have HB := n2_
                          clear n0_ n1_ n2_
                          (try clear hb)
                          (try clear hb2)
                          (try clear hk)
                          (try clear hi)
                          refine hK.out _ _ ⟨(blk_cell BK208.out 0).trans rfl, (blk_cell BK208.out 1).trans rfl, (blk_cell BK208.out 2).trans rfl, (blk_cell BK209.out 0).trans rfl, (blk_cell BK209.out 1).trans rfl, (blk_cell BK209.out 2).trans rfl, ((HB.out.cell (World.block_lt_of_cell? w _ hw212_0)).trans hw212_0), ((HB.out.cell (World.block_lt_of_cell? w _ hw212_1)).trans hw212_1), ((HB.out.cell (World.block_lt_of_cell? w _ hw212_2)).trans hw212_2), ((HB.out.cell (World.block_lt_of_cell? w _ hw213_0)).trans hw213_0), ((HB.out.cell (World.block_lt_of_cell? w _ hw213_1)).trans hw213_1), ((HB.out.cell (World.block_lt_of_cell? w _ hw213_2)).trans hw213_2)⟩ (fun hHeld => ?_)
                          clear hK K
                          refine norm_ (a' := ?_) ?_ ?_
                          rotate_left
                          · show Act.put _ (some 65) _ = _
                            simp only [Act.put, List.setIfInBounds_toArray, List.set_cons_zero, List.set_cons_succ, i64_w, i32_w]
                            rfl
                          refine pure_ (i := 11) (N := some 66) (v := ?_) (a' := ?_) #[true, true, true, true, true, true, true, true, true, true, true, true] rfl rfl (any_of HT_.out (by kernel_rfl)) (fun _ _ _ h => h) (Or.inl ⟨by rfl, ?_⟩) ?_ ?_
                          rotate_left
                          · intro w'
                            go_simp
                            with_reducible rfl
                          rotate_left
                          · simp only [Act.put, List.setIfInBounds_toArray, List.set_cons_zero, List.set_cons_succ, i64_w, i32_w]
                            rfl
                          refine done_ (done_of HT_.out (by kernel_rfl)) ?_
                          try go_wp2
                          go_ret
                          exact ⟨by first | rfl | (simp [errW_none, errW_some] <;> rfl) | (simp [*, errW_none, errW_some] <;> rfl), by repeat (first | (with_reducible first | exact HB.out | apply below_alloc | apply pw_below_drewN | apply below_drew1 | refine below_set ?_ GE208.out | refine below_set ?_ GE209.out) | exact HB.out)⟩
                      · rw [if_neg c32] at H
                        exact absurd H (by simp)
                    · rw [if_neg c31] at H
                      exact absurd H (by simp)
                  · rw [if_neg c30] at H
                    have c30b0 : decide (x6_3 < (l0_2.length : Int)) = false := decide_eq_false c30
                    clear c30
                    obtain rfl := Option.some.inj H
                    have hnb43 := NB208_209.out
                    have hnc43 := NB209_208.out
                    have hcz44_0 : wr.cell? ⟨gb208, 0, none⟩ = some (.int .u8 a0_0) := (blk_cell BK208.out 0).trans rfl
                    have hcz44_1 : wr.cell? ⟨gb208, 1, none⟩ = some (.slice A0_1 l0_1.length c0_1) := (blk_cell BK208.out 1).trans rfl
                    have hcz44_2 : wr.cell? ⟨gb208, 2, none⟩ = some (.slice A0_2 l0_2.length c0_2) := (blk_cell BK208.out 2).trans rfl
                    have hfz44_0 := blk_frozen BK208.out 0
                    have hfz44_1 := blk_frozen BK208.out 1
                    have hfz44_2 := blk_frozen BK208.out 2
                    go_wp2
                    go_ret
                    exact ⟨by first | rfl | (simp [errW_none, errW_some] <;> rfl) | (simp [*, errW_none, errW_some] <;> rfl), by repeat (first | (with_reducible first | exact HB.out | apply below_alloc | apply pw_below_drewN | apply below_drew1 | refine below_set ?_ GE208.out | refine below_set ?_ GE209.out) | exact HB.out)⟩
end Go.Proofs.YtijmigapdcikpaaDoor.PDsm
