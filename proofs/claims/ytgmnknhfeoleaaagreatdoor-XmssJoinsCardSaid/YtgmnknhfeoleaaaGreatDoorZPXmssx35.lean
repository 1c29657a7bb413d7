import Derived.Test.YtgmnknhfeoleaaaGreatDoorZQ
import Derived.Test.YtgmnknhfeoleaaaGreatDoorZSq
import Derived.Test.YtgmnknhfeoleaaaGreatDoorZPXmssx0
import Derived.Test.YtgmnknhfeoleaaaGreatDoorZPXmssx18
import Derived.Test.YtgmnknhfeoleaaaGreatDoorZPXmssx34
namespace Go.Proofs.YtgmnknhfeoleaaaGreatDoor.PXmss
open Go.RowKit Go.Proofs.YtgmnknhfeoleaaaGreatDoorW.PrintWords Go.Proofs.YtgmnknhfeoleaaaGreatDoorW.PrintLast Go.Proofs.YtgmnknhfeoleaaaGreatDoorW.PrintMore
attribute [local go_sem] max2_int min2_int max_two min_two max_three min_three max_four min_four
set_option linter.unusedVariables false
set_option linter.unusedSimpArgs false
mutual
def pyxref22_Join.j0 : Nat → List Int → Bool → Int → Int → List Int → List (List Int) → List (List Int) → Option (List Int × Bool)
 | 0, _, _, _, _, _, _, _ => none
 | k + 1, x4, x43, x478000, x478001, x478002, x478003, x478004 => if x43 = true then (some (([] : List Int), false)) else ((some (([x478002] : List (List Int)) : List (List Int))).bind fun y485 => (if y485.length + x478003.length < 5864062014805 then ((some (y485 ++ x478003 : List (List Int))).bind fun y488 => (if y488.length + x478004.length < 5864062014805 then (pyxref22_Join.l0 k x4 (y488 ++ x478004) 0 x478000 x478001 x478002 x478003 x478004) else (none))) else (none)))
def pyxref22_Join.l0 : Nat → List Int → List (List Int) → Int → Int → Int → List Int → List (List Int) → List (List Int) → Option (List Int × Bool)
 | 0, _, _, _, _, _, _, _, _ => none
 | k + 1, x4, x5, x6, x478000, x478001, x478002, x478003, x478004 => if x6 < (x5.length : Int) then (if 0 ≤ x6 then (if 0 < (x4.length : Int) then (if ((rd_L10 x5 x6).length : Int) = (rd x4 0) then (pyxref22_Join.l0 k x4 x5 (wrap64 (x6 + 1)) x478000 x478001 x478002 x478003 x478004) else (some (([] : List Int), false))) else (none)) else (none)) else ((some (([((wrap64 (x478001)) / 16777216) % 256, ((wrap64 (x478001)) / 65536) % 256, ((wrap64 (x478001)) / 256) % 256, (wrap64 (x478001)) % 256] : List Int) : List Int)).bind fun y496 => ((pyxref01_Join.f k x5).bind fun t499 => (if y496.length + t499.length < 140737488355328 then (some ((y496 ++ t499), true)) else (none))))
end
def pyxref22_Join.f (k : Nat) (a0_0 : Int) (a0_1 : Int) (l0_2 : List Int) (l0_3 : List (List Int)) (l0_4 : List (List Int)) : Option (List Int × Bool) := (pyxref22_Numbers.f a0_0).bind fun t478 => (if 0 < (t478.length : Int) then (if (rd t478 0) = 0 then (pyxref22_Join.j0 k t478 true a0_0 a0_1 l0_2 l0_3 l0_4) else (if 2 < (t478.length : Int) then (if (l0_3.length : Int) = (rd t478 2) then (if 1 < (t478.length : Int) then (if (l0_4.length : Int) = (rd t478 1) then (if 0 ≤ (IntKind.u64.wrap (rd t478 1)) then (pyxref22_Join.j0 k t478 (decide ((wrap64 (a0_1)) ≥ (shl .i64 1 (IntKind.u64.wrap (rd t478 1))))) a0_0 a0_1 l0_2 l0_3 l0_4) else (none)) else (pyxref22_Join.j0 k t478 true a0_0 a0_1 l0_2 l0_3 l0_4)) else (none)) else (pyxref22_Join.j0 k t478 true a0_0 a0_1 l0_2 l0_3 l0_4)) else (none))) else (none))
def pyxref22_Join.T2 : Bool × List (List Nat × List Nat) := (true, [([], []), ([0], [0]), ([1], [1]), ([2], [2]), ([3], [3]), ([4], [4]), ([5, 4], [4, 5]), ([6, 4], [4, 6]), ([4], [4]), ([8, 4], [4, 8]), ([9, 4], [4, 9]), ([7, 10, 4], [4, 7, 10]), ([4, 11], [4, 11]), ([12, 4], [12]), ([13], [13]), ([14, 13], [13, 14]), ([15, 13], [13, 15]), ([13], [13]), ([17, 13], [13, 17]), ([18, 13], [13, 18]), ([16, 19, 13], [13, 16, 19]), ([13, 20], [13, 20]), ([21, 13], [21]), ([22], [22]), ([23, 22], [22, 23]), ([24, 22], [22, 24]), ([22], [22]), ([26, 22], [22, 26]), ([27, 22], [22, 27]), ([28, 22], [22, 28]), ([29, 22], [22, 29]), ([25, 30, 22], [22, 25, 30]), ([22, 31], [22, 31])])
def pyxref22_Join.B2 : List Nat := [0, 1, 3, 7, 15, 31, 63, 127, 31, 287, 799, 2047, 4095, 8191, 16383, 32767, 65535, 16383, 147455, 409599, 1048575, 2097151, 4194303, 8388607, 16777215, 33554431, 8388607, 75497471, 209715199, 478150655, 1015021567, 2147483647, 4294967295]
theorem pyxref22_Join.tab2 : rtab .any (opsOf Tryz.f25 2) = pyxref22_Join.T2 := by kernel_rfl
theorem pyxref22_Join.bits2 : waitsOk pyxref22_Join.T2.2 pyxref22_Join.B2 = true := by kernel_rfl
def pyxref22_Join.T4 : Bool × List (List Nat × List Nat) := (true, [([], []), ([0], [0]), ([1], [1]), ([], []), ([3], [3]), ([2, 4], [2, 4]), ([], []), ([6], [6]), ([5, 7, 5], [5, 7]), ([8, 8, 0, 1, 2, 3, 4, 5, 6, 7, 8], [8])])
def pyxref22_Join.B4 : List Nat := [0, 1, 3, 0, 8, 31, 0, 64, 255, 511]
theorem pyxref22_Join.tab4 : rtab .any (opsOf Tryz.f25 4) = pyxref22_Join.T4 := by kernel_rfl
theorem pyxref22_Join.bits4 : waitsOk pyxref22_Join.T4.2 pyxref22_Join.B4 = true := by kernel_rfl
def pyxref22_Join.T8 : Bool × List (List Nat × List Nat) := (true, [([], []), ([], []), ([0, 1], [0, 1]), ([2], [2]), ([3], [3]), ([], []), ([5], [5]), ([6], [6]), ([4, 7], [4, 7])])
def pyxref22_Join.B8 : List Nat := [0, 0, 3, 7, 15, 0, 32, 96, 255]
theorem pyxref22_Join.tab8 : rtab .any (opsOf Tryz.f25 8) = pyxref22_Join.T8 := by kernel_rfl
theorem pyxref22_Join.bits8 : waitsOk pyxref22_Join.T8.2 pyxref22_Join.B8 = true := by kernel_rfl
set_option maxHeartbeats 8000000 in
set_option maxRecDepth 100000 in
theorem pyxref22_Join.calls (k : Nat) (a0_0 : Int) (a0_1 : Int) (P0_2_ : Nat → Prop) (A0_2 : Option Addr) (c0_2 : Nat) (l0_2 : List Int) (P0_3_ : Nat → Prop) (A0_3 : Option Addr) (c0_3 : Nat) (l0_3 : List (List Int)) (P0_4_ : Nat → Prop) (A0_4 : Option Addr) (c0_4 : Nat) (l0_4 : List (List Int)) (r1 : List Int) (r2 : Bool) (w : World) (hs0_2 : Kd.V (Kd.int .u8) 5 w w.heap.size (fun k_ => P0_2_ k_) (.slice A0_2 l0_2.length c0_2) l0_2) (hs0_3 : Kd.V (Kd.slice 5 (Kd.int .u8)) 25 w w.heap.size (fun k_ => P0_3_ k_) (.slice A0_3 l0_3.length c0_3) l0_3) (hs0_4 : Kd.V (Kd.slice 5 (Kd.int .u8)) 25 w w.heap.size (fun k_ => P0_4_ k_) (.slice A0_4 l0_4.length c0_4) l0_4) (h : pyxref22_Join.f k a0_0 a0_1 l0_2 l0_3 l0_4 = some (r1, r2)) :
  Calls Tryz.prog 25 #[.agg #[.int .i64 a0_0, .int .u32 a0_1, .slice A0_2 l0_2.length c0_2, .slice A0_3 l0_3.length c0_3, .slice A0_4 l0_4.length c0_4]] w fun e w' => ∃ v0_ : Value, e = .returned (.tuple #[v0_, .bool r2]) ∧ Kd.R (Kd.int .u8) 5 w' w.heap.size (fun k_ => (w.heap.size ≤ k_)) v0_ r1 ∧ Below w.heap.size w w' := by
 have hu57 := Tryz.underlying57
 have HO0_2 := Aside0.mk (show Kd.V (Kd.int .u8) 5 w w.heap.size (fun k_ => ((P0_2_ k_ ∨ P0_3_ k_ ∨ P0_4_ k_) ∨ w.heap.size ≤ k_)) (.slice A0_2 l0_2.length c0_2) l0_2 from Kd.V_mono hs0_2 (fun k_ hk => .inl (.inl hk)))
 have HO0_3 := Aside0.mk (show Kd.V (Kd.slice 5 (Kd.int .u8)) 25 w w.heap.size (fun k_ => ((P0_2_ k_ ∨ P0_3_ k_ ∨ P0_4_ k_) ∨ w.heap.size ≤ k_)) (.slice A0_3 l0_3.length c0_3) l0_3 from Kd.V_mono hs0_3 (fun k_ hk => .inl (.inr (.inl hk))))
 have HO0_4 := Aside0.mk (show Kd.V (Kd.slice 5 (Kd.int .u8)) 25 w w.heap.size (fun k_ => ((P0_2_ k_ ∨ P0_3_ k_ ∨ P0_4_ k_) ∨ w.heap.size ≤ k_)) (.slice A0_4 l0_4.length c0_4) l0_4 from Kd.V_mono hs0_4 (fun k_ hk => .inl (.inr (.inr hk))))
 have HB := Aside0.mk (Below.refl w.heap.size w)
 have H : ((pyxref22_Numbers.f a0_0).bind fun t478 => (if 0 < (t478.length : Int) then (if (rd t478 0) = 0 then (pyxref22_Join.j0 k t478 true a0_0 a0_1 l0_2 l0_3 l0_4) else (if 2 < (t478.length : Int) then (if (l0_3.length : Int) = (rd t478 2) then (if 1 < (t478.length : Int) then (if (l0_4.length : Int) = (rd t478 1) then (if 0 ≤ (IntKind.u64.wrap (rd t478 1)) then (pyxref22_Join.j0 k t478 (decide ((wrap64 (a0_1)) ≥ (shl .i64 1 (IntKind.u64.wrap (rd t478 1))))) a0_0 a0_1 l0_2 l0_3 l0_4) else (none)) else (pyxref22_Join.j0 k t478 true a0_0 a0_1 l0_2 l0_3 l0_4)) else (none)) else (pyxref22_Join.j0 k t478 true a0_0 a0_1 l0_2 l0_3 l0_4)) else (none))) else (none))) = some (r1, r2) := h
 clear h
 replace H := Option.bind_eq_some_iff.mp H
 obtain ⟨t478, A20, H⟩ := H
 replace H : (if 0 < (t478.length : Int) then (if (rd t478 0) = 0 then (pyxref22_Join.j0 k t478 true a0_0 a0_1 l0_2 l0_3 l0_4) else (if 2 < (t478.length : Int) then (if (l0_3.length : Int) = (rd t478 2) then (if 1 < (t478.length : Int) then (if (l0_4.length : Int) = (rd t478 1) then (if 0 ≤ (IntKind.u64.wrap (rd t478 1)) then (pyxref22_Join.j0 k t478 (decide ((wrap64 (a0_1)) ≥ (shl .i64 1 (IntKind.u64.wrap (rd t478 1))))) a0_0 a0_1 l0_2 l0_3 l0_4) else (none)) else (pyxref22_Join.j0 k t478 true a0_0 a0_1 l0_2 l0_3 l0_4)) else (none)) else (pyxref22_Join.j0 k t478 true a0_0 a0_1 l0_2 l0_3 l0_4)) else (none))) else (none)) = some (r1, r2) := H
 have A2 := Aside0.mk A20
 clear A20
 have HC3 := Aside0.mk H
 clear H
 go_enter Tryz.func25, Tryz.ntmps25
 go_upto_region 2 with (first | ((with_reducible refine gate_dst (N := 1) rfl ?_); (try (refine gate_guard (by rfl) ?_; dsimp only)); refine box_event ?hg (N := 1) ?hd (cs := #[.int .i64 a0_0, .int .u32 a0_1, .slice A0_2 l0_2.length c0_2, .slice A0_3 l0_3.length c0_3, .slice A0_4 l0_4.length c0_4]) (t := 57) ?hr ?_; (case hd => rfl); (case hg => rfl); (case hr => first | (go_simp; done) | (go_simp; rfl)); intro gb477 hg w4 hbox hb; have n0_ := Aside0.mk (Kd.V_below (Kd.V_elderB (by (with_reducible repeat (first | apply Kd.V_alloc | apply Kd.V_drewN | apply Kd.V_drew)); exact HO0_2.out) gb477 (Nat.le_of_eq hg.symm)) hb); have n1_ := Aside0.mk (Kd.V_below (Kd.V_elderB (by (with_reducible repeat (first | apply Kd.V_alloc | apply Kd.V_drewN | apply Kd.V_drew)); exact HO0_3.out) gb477 (Nat.le_of_eq hg.symm)) hb); have n2_ := Aside0.mk (Kd.V_below (Kd.V_elderB (by (with_reducible repeat (first | apply Kd.V_alloc | apply Kd.V_drewN | apply Kd.V_drew)); exact HO0_4.out) gb477 (Nat.le_of_eq hg.symm)) hb); have n3_ := Aside0.mk (below_step q55_ hb); have n4_ := Aside0.mk (hbox); have n5_ := Aside0.mk ((by rw [hg]; exact (below_size q55_) : w.heap.size ≤ gb477)); have n6_ := Aside0.mk ((by rw [hg]; exact (below_size q55_) : w.heap.size ≤ gb477)); clear HO0_2; clear HO0_3; clear HO0_4; clear HB; have HO0_2 := n0_; have HO0_3 := n1_; have HO0_4 := n2_; have HB := n3_; have BK477 := n4_; have GW477 := n5_; have GE477 := n6_; clear n0_ n1_ n2_ n3_ n4_ n5_ n6_; clear hb hbox hg; obtain ⟨hcz5_0, hcz5_1, hcz5_2, hcz5_3, hcz5_4⟩ := cells5_ BK477.out; obtain ⟨hfz5_0, hfz5_1, hfz5_2, hfz5_3, hfz5_4⟩ := frz5_ BK477.out) | ((with_reducible refine gate_callee (f := 18) rfl ?_); refine goesL_ (some 10) rfl rfl Tryz.func18 (by kernel_rfl) rfl #[.int .i64 a0_0] rfl q54_ ?_; (with_reducible refine (pyxref22_Numbers.calls a0_0 t478 _ A2.out).mono ?_); rintro e w6 ⟨v479, rfl, ho0, hb⟩; refine ⟨_, rfl, ?_⟩; have n0_ := Aside0.mk (Kd.V_below (by (with_reducible repeat (first | apply Kd.V_alloc | apply Kd.V_drewN | apply Kd.V_drew)); exact HO0_2.out) hb); have n1_ := Aside0.mk (Kd.V_below (by (with_reducible repeat (first | apply Kd.V_alloc | apply Kd.V_drewN | apply Kd.V_drew)); exact HO0_3.out) hb); have n2_ := Aside0.mk (Kd.V_below (by (with_reducible repeat (first | apply Kd.V_alloc | apply Kd.V_drewN | apply Kd.V_drew)); exact HO0_4.out) hb); have n3_ := Aside0.mk (Kd.V_lower (Kd.V_mono (ok' := fun k_ => ((P0_2_ k_ ∨ P0_3_ k_ ∨ P0_4_ k_) ∨ w.heap.size ≤ k_) ∧ k_ ≠ gb477) ho0 (fun k_ hk_ => ⟨(.inr (Nat.le_trans (below_size q49_) hk_)), (Kd.freshB (g := gb477) (o := .cells #[.int .i64 a0_0, .int .u32 a0_1, .slice A0_2 l0_2.length c0_2, .slice A0_3 l0_3.length c0_3, .slice A0_4 l0_4.length c0_4] 57 (0, 0)) q65_ k_ hk_)⟩)) (below_size q49_)); have n4_ := Aside0.mk (blk_below (g := gb477) (o := .cells #[.int .i64 a0_0, .int .u32 a0_1, .slice A0_2 l0_2.length c0_2, .slice A0_3 l0_3.length c0_3, .slice A0_4 l0_4.length c0_4] 57 (0, 0)) q65_ hb); have n5_ := Aside0.mk (below_step q49_ hb); clear HO0_2; clear HO0_3; clear HO0_4; clear BK477; clear HB; have HO0_2 := n0_; have HO0_3 := n1_; have HO0_4 := n2_; have HO480 := n3_; have BK477 := n4_; have HB := n5_; clear n0_ n1_ n2_ n3_ n4_ n5_; (try clear hb); (try clear hb2); (try clear hk); (try clear hi); (try clear ho0)))
 (try simp only [Act.put, List.setIfInBounds_toArray, List.set_cons_zero, List.set_cons_succ])
 go_cut [43] (fun v43 wc => ∃ (kq : Nat) (x43_2 : Bool), v43 = .bool x43_2 ∧ Aside0 (pyxref22_Join.j0 kq t478 x43_2 a0_0 a0_1 l0_2 l0_3 l0_4 = some (r1, r2)) ∧ Aside0 (kq ≤ k) ∧ Aside0 (Kd.V (Kd.int .i64) 3 wc w.heap.size (fun k_ => ((P0_2_ k_ ∨ P0_3_ k_ ∨ P0_4_ k_) ∨ w.heap.size ≤ k_) ∧ k_ ≠ gb477) v479 t478) ∧ Aside0 (Kd.V (Kd.int .u8) 5 wc w.heap.size (fun k_ => ((P0_2_ k_ ∨ P0_3_ k_ ∨ P0_4_ k_) ∨ w.heap.size ≤ k_) ∧ k_ ≠ gb477) (.slice A0_2 l0_2.length c0_2) l0_2) ∧ Aside0 (Kd.V (Kd.slice 5 (Kd.int .u8)) 25 wc w.heap.size (fun k_ => ((P0_2_ k_ ∨ P0_3_ k_ ∨ P0_4_ k_) ∨ w.heap.size ≤ k_) ∧ k_ ≠ gb477) (.slice A0_3 l0_3.length c0_3) l0_3) ∧ Aside0 (Kd.V (Kd.slice 5 (Kd.int .u8)) 25 wc w.heap.size (fun k_ => ((P0_2_ k_ ∨ P0_3_ k_ ∨ P0_4_ k_) ∨ w.heap.size ≤ k_) ∧ k_ ≠ gb477) (.slice A0_4 l0_4.length c0_4) l0_4) ∧ Aside0 (wc.heap[gb477]? = some (.cells #[.int .i64 a0_0, .int .u32 a0_1, (.slice A0_2 l0_2.length c0_2), (.slice A0_3 l0_3.length c0_3), (.slice A0_4 l0_4.length c0_4)] 57 (0, 0))) ∧ Aside0 (Below w.heap.size w wc))
 case first =>
  have H := HC3.out
  clear HC3
  by_cases c7 : 0 < (t478.length : Int)
  ·rw [if_pos c7] at H
   have c7b0 : decide (0 < (t478.length : Int)) = true := decide_eq_true c7
   have c7b1 : decide (0 < t478.length) = true := decide_eq_true (by omega)
   clear c7
   (first | rw [c7b0] | (simp only [i64_w, i32_w]; rw [c7b0]) | skip)
   by_cases c8 : (rd t478 0) = 0
   ·rw [if_pos c8] at H
    have c8b0 : ((rd t478 0) == 0) = true := beq_iff_eq.mpr c8
    have c8b1 : ((rd t478 0) != 0) = false := bne_eq_false_iff_eq.mpr c8
    clear c8
    have H' := Aside0.mk H
    clear H
    try go_wp2
    have n0_ := Aside0.mk (Kd.V_drew HO0_2.out)
    have n1_ := Aside0.mk (Kd.V_drew HO0_3.out)
    have n2_ := Aside0.mk (Kd.V_drew HO0_4.out)
    have n3_ := Aside0.mk (Kd.V_drew HO480.out)
    have n4_ := Aside0.mk (blk_drew BK477.out)
    have n5_ := Aside0.mk (below_drew1 HB.out)
    clear HO0_2
    clear HO0_3
    clear HO0_4
    clear HO480
    clear BK477
    clear HB
    have HO0_2 := n0_
    have HO0_3 := n1_
    have HO0_4 := n2_
    have HO480 := n3_
    have BK477 := n4_
    have HB := n5_
    clear n0_ n1_ n2_ n3_ n4_ n5_
    obtain ⟨Ao10, co10, eo10⟩ := Kd.V_slice HO480.out
    (first | subst eo10 | (injection eo10 with f1_ f2_ f3_; have f4_ := f1_.symm; have f5_ := f3_.symm; clear f1_ f2_ f3_; subst f4_; subst f5_))
    have p481 : 0 ≤ (0 : Int) := (by omega)
    have q481 : 0 < (t478.length : Int) := of_decide_eq_true q90_
    obtain ⟨ad481, e481, hx481_0⟩ := Kd.at_int (Kd.V_reads' HO480.out).2.2 0 p481 q481
    cases e481
    have qi481 : (0 < t478.length) = True := eq_true (by omega)
    (try rw [show ((0 : Int)).toNat = 0 from rfl] at hx481_0)
    (try rw [Addr.add_zero'] at hx481_0)
    replace p481 := eq_true p481
    replace q481 := eq_true q481
    refine start_ (n := 33) (S := fun w' => w'.cell? ad481 = some (.int .i64 (rd t478 0))) (ds := []) #[false, false, false, false, false, false, false, false, false, false, false, false, false, false, false, false, false, false, false, false, false, false, false, false, false, false, false, false, false, false, false, false, false] (by kernel_rfl) rfl rfl (hx481_0) (fun hHeld => ?_); refine with_tabW pyxref22_Join.tab2 pyxref22_Join.bits2 (fun HT_ HW_ => ?_)
    generalize w6.drew = w9 at HO0_2 HO0_3 HO0_4 HO480 BK477 HB hx481_0 hHeld ⊢
    refine pu_ 0 (N := some 11) #[true, false, false, false, false, false, false, false, false, false, false, false, false, false, false, false, false, false, false, false, false, false, false, false, false, false, false, false, false, false, false, false, false] rfl rfl ?_
    refine pu_ 1 (N := some 12) #[true, true, false, false, false, false, false, false, false, false, false, false, false, false, false, false, false, false, false, false, false, false, false, false, false, false, false, false, false, false, false, false, false] rfl rfl ?_
    refine tk1_ 2 (N := some 13) #[true, true, true, false, false, false, false, false, false, false, false, false, false, false, false, false, false, false, false, false, false, false, false, false, false, false, false, false, false, false, false, false, false] rfl rfl hHeld ?_
    refine pu_ 3 (N := some 14) #[true, true, true, true, false, false, false, false, false, false, false, false, false, false, false, false, false, false, false, false, false, false, false, false, false, false, false, false, false, false, false, false, false] rfl rfl ?_
    refine pu_ 4 (N := some 15) #[true, true, true, true, true, false, false, false, false, false, false, false, false, false, false, false, false, false, false, false, false, false, false, false, false, false, false, false, false, false, false, false, false] rfl rfl ?_
    refine pn_ 5 (N := some 16) #[true, true, true, true, true, true, false, false, false, false, false, false, false, false, false, false, false, false, false, false, false, false, false, false, false, false, false, false, false, false, false, false, false] rfl rfl ?_
    refine pn_ 6 (N := some 17) #[true, true, true, true, true, true, true, false, false, false, false, false, false, false, false, false, false, false, false, false, false, false, false, false, false, false, false, false, false, false, false, false, false] rfl rfl ?_
    refine pn_ 7 (N := some 18) #[true, true, true, true, true, true, true, true, false, false, false, false, false, false, false, false, false, false, false, false, false, false, false, false, false, false, false, false, false, false, false, false, false] rfl rfl ?_
    refine pn_ 8 (N := some 19) #[true, true, true, true, true, true, true, true, true, false, false, false, false, false, false, false, false, false, false, false, false, false, false, false, false, false, false, false, false, false, false, false, false] rfl rfl ?_
    refine pn_ 9 (N := some 20) #[true, true, true, true, true, true, true, true, true, true, false, false, false, false, false, false, false, false, false, false, false, false, false, false, false, false, false, false, false, false, false, false, false] rfl rfl ?_
    refine pn_ 10 (N := some 21) #[true, true, true, true, true, true, true, true, true, true, true, false, false, false, false, false, false, false, false, false, false, false, false, false, false, false, false, false, false, false, false, false, false] rfl rfl ?_
    refine pn_ 11 (N := some 22) #[true, true, true, true, true, true, true, true, true, true, true, true, false, false, false, false, false, false, false, false, false, false, false, false, false, false, false, false, false, false, false, false, false] rfl rfl ?_
    refine pu_ 12 (N := some 23) #[true, true, true, true, true, true, true, true, true, true, true, true, true, false, false, false, false, false, false, false, false, false, false, false, false, false, false, false, false, false, false, false, false] rfl rfl ?_
    refine pu_ 13 (N := some 24) #[true, true, true, true, true, true, true, true, true, true, true, true, true, true, false, false, false, false, false, false, false, false, false, false, false, false, false, false, false, false, false, false, false] rfl rfl ?_
    refine pn_ 14 (N := some 25) #[true, true, true, true, true, true, true, true, true, true, true, true, true, true, true, false, false, false, false, false, false, false, false, false, false, false, false, false, false, false, false, false, false] rfl rfl ?_
    refine pn_ 15 (N := some 26) #[true, true, true, true, true, true, true, true, true, true, true, true, true, true, true, true, false, false, false, false, false, false, false, false, false, false, false, false, false, false, false, false, false] rfl rfl ?_
    refine pn_ 16 (N := some 27) #[true, true, true, true, true, true, true, true, true, true, true, true, true, true, true, true, true, false, false, false, false, false, false, false, false, false, false, false, false, false, false, false, false] rfl rfl ?_
    refine pn_ 17 (N := some 28) #[true, true, true, true, true, true, true, true, true, true, true, true, true, true, true, true, true, true, false, false, false, false, false, false, false, false, false, false, false, false, false, false, false] rfl rfl ?_
    refine pn_ 18 (N := some 29) #[true, true, true, true, true, true, true, true, true, true, true, true, true, true, true, true, true, true, true, false, false, false, false, false, false, false, false, false, false, false, false, false, false] rfl rfl ?_
    refine pn_ 19 (N := some 30) #[true, true, true, true, true, true, true, true, true, true, true, true, true, true, true, true, true, true, true, true, false, false, false, false, false, false, false, false, false, false, false, false, false] rfl rfl ?_
    refine pn_ 20 (N := some 31) #[true, true, true, true, true, true, true, true, true, true, true, true, true, true, true, true, true, true, true, true, true, false, false, false, false, false, false, false, false, false, false, false, false] rfl rfl ?_
    refine pu_ 21 (N := some 32) #[true, true, true, true, true, true, true, true, true, true, true, true, true, true, true, true, true, true, true, true, true, true, false, false, false, false, false, false, false, false, false, false, false] rfl rfl ?_
    refine pu_ 22 (N := some 33) #[true, true, true, true, true, true, true, true, true, true, true, true, true, true, true, true, true, true, true, true, true, true, true, false, false, false, false, false, false, false, false, false, false] rfl rfl ?_
    refine pn_ 23 (N := some 34) #[true, true, true, true, true, true, true, true, true, true, true, true, true, true, true, true, true, true, true, true, true, true, true, true, false, false, false, false, false, false, false, false, false] rfl rfl ?_
    refine pn_ 24 (N := some 35) #[true, true, true, true, true, true, true, true, true, true, true, true, true, true, true, true, true, true, true, true, true, true, true, true, true, false, false, false, false, false, false, false, false] rfl rfl ?_
    refine pn_ 25 (N := some 36) #[true, true, true, true, true, true, true, true, true, true, true, true, true, true, true, true, true, true, true, true, true, true, true, true, true, true, false, false, false, false, false, false, false] rfl rfl ?_
    refine pn_ 26 (N := some 37) #[true, true, true, true, true, true, true, true, true, true, true, true, true, true, true, true, true, true, true, true, true, true, true, true, true, true, true, false, false, false, false, false, false] rfl rfl ?_
    refine pn_ 27 (N := some 38) #[true, true, true, true, true, true, true, true, true, true, true, true, true, true, true, true, true, true, true, true, true, true, true, true, true, true, true, true, false, false, false, false, false] rfl rfl ?_
    refine pn_ 28 (N := some 39) #[true, true, true, true, true, true, true, true, true, true, true, true, true, true, true, true, true, true, true, true, true, true, true, true, true, true, true, true, true, false, false, false, false] rfl rfl ?_
    refine pn_ 29 (N := some 40) #[true, true, true, true, true, true, true, true, true, true, true, true, true, true, true, true, true, true, true, true, true, true, true, true, true, true, true, true, true, true, false, false, false] rfl rfl ?_
    refine pn_ 30 (N := some 41) #[true, true, true, true, true, true, true, true, true, true, true, true, true, true, true, true, true, true, true, true, true, true, true, true, true, true, true, true, true, true, true, false, false] rfl rfl ?_
    refine pn_ 31 (N := some 42) #[true, true, true, true, true, true, true, true, true, true, true, true, true, true, true, true, true, true, true, true, true, true, true, true, true, true, true, true, true, true, true, true, false] rfl rfl ?_
    refine pu_ 32 (N := some 43) #[true, true, true, true, true, true, true, true, true, true, true, true, true, true, true, true, true, true, true, true, true, true, true, true, true, true, true, true, true, true, true, true, true] rfl rfl ?_
    refine done_ (done_of HT_.out (by kernel_rfl)) ?_
    try go_wp2
    go_meet
    case rel => exact ⟨_, (true), q91_, H', ⟨by first | omega | exact Nat.le_refl _⟩, ⟨by (with_reducible repeat (first | apply Kd.V_alloc | apply Kd.V_drewN | apply Kd.V_drew)); exact HO480.out⟩, ⟨by (with_reducible repeat (first | apply Kd.V_alloc | apply Kd.V_drewN | apply Kd.V_drew)); exact HO0_2.out⟩, ⟨by (with_reducible repeat (first | apply Kd.V_alloc | apply Kd.V_drewN | apply Kd.V_drew)); exact HO0_3.out⟩, ⟨by (with_reducible repeat (first | apply Kd.V_alloc | apply Kd.V_drewN | apply Kd.V_drew)); exact HO0_4.out⟩, ⟨by (with_reducible repeat (first | refine blk_drewN ?_ _ | refine blk_drew ?_ | refine blk_alloc ?_ _)); exact BK477.out⟩, ⟨by repeat (first | (with_reducible first | exact HB.out | apply below_alloc | apply pw_below_drewN | apply below_drew1 | refine below_set ?_ GE477.out) | exact HB.out)⟩⟩
   ·rw [if_neg c8] at H
    have c8b0 : ((rd t478 0) == 0) = false := beq_eq_false_iff_ne.mpr c8
    have c8b1 : ((rd t478 0) != 0) = true := bne_iff_ne.mpr c8
    by_cases c11 : 2 < (t478.length : Int)
    ·rw [if_pos c11] at H
     have c11b0 : decide (2 < (t478.length : Int)) = true := decide_eq_true c11
     have c11b1 : decide (2 < t478.length) = true := decide_eq_true (by omega)
     clear c11
     by_cases c12 : (l0_3.length : Int) = (rd t478 2)
     ·rw [if_pos c12] at H
      have c12b0 : ((l0_3.length : Int) == (rd t478 2)) = true := beq_iff_eq.mpr c12
      have c12b1 : ((l0_3.length : Int) != (rd t478 2)) = false := bne_eq_false_iff_eq.mpr c12
      clear c12
      by_cases c13 : 1 < (t478.length : Int)
      ·rw [if_pos c13] at H
       have c13b0 : decide (1 < (t478.length : Int)) = true := decide_eq_true c13
       have c13b1 : decide (1 < t478.length) = true := decide_eq_true (by omega)
       clear c13
       by_cases c14 : (l0_4.length : Int) = (rd t478 1)
       ·rw [if_pos c14] at H
        have c14b0 : ((l0_4.length : Int) == (rd t478 1)) = true := beq_iff_eq.mpr c14
        have c14b1 : ((l0_4.length : Int) != (rd t478 1)) = false := bne_eq_false_iff_eq.mpr c14
        clear c14
        obtain ⟨ji15, hji15⟩ : ∃ j_ : Int, (IntKind.u64.wrap (rd t478 1)) = j_ := ⟨_, rfl⟩
        replace H : (if 0 ≤ (ji15) then (pyxref22_Join.j0 k t478 (decide ((wrap64 (a0_1)) ≥ (shl .i64 1 (ji15)))) a0_0 a0_1 l0_2 l0_3 l0_4) else (none)) = some (r1, r2) := by first | (rw [hji15] at H; exact H) | (simp only [hji15] at H ⊢; exact H)
        by_cases c16 : 0 ≤ (ji15)
        ·rw [if_pos c16] at H
         have c16b0 := eq_true c16
         have c16b1 : decide (0 ≤ (ji15)) = true := decide_eq_true c16
         clear c16
         obtain ⟨ji17, hji17⟩ : ∃ j_ : Int, (shl .i64 1 (ji15)) = j_ := ⟨_, rfl⟩
         replace H : (pyxref22_Join.j0 k t478 (decide ((wrap64 (a0_1)) ≥ (ji17))) a0_0 a0_1 l0_2 l0_3 l0_4) = some (r1, r2) := by first | (rw [hji17] at H; exact H) | (simp only [hji17] at H ⊢; exact H)
         have hji17_ : (IntKind.i64.wrap (1 * 2 ^ min (ji15).toNat 64)) = ji17 := hji17
         have hji17z : (ji15) ≤ 64 → (IntKind.i64.wrap (1 * 2 ^ (ji15).toNat)) = ji17 := shl_small hji17
         have hji17u : (IntKind.i64.wrap (2 ^ min (ji15).toNat 64)) = ji17 := by have h_ := hji17_; rw [Int.one_mul] at h_; exact h_
         have hji17v : (ji15) ≤ 64 → (IntKind.i64.wrap (2 ^ (ji15).toNat)) = ji17 := fun hle_ => by have h_ := hji17z hle_; rw [Int.one_mul] at h_; exact h_
         have hji17y : (wrap64 (1 * 2 ^ min (ji15).toNat 64)) = ji17 := (i64_w _).symm.trans hji17_
         have hji17x : (ji15) ≤ 64 → (wrap64 (1 * 2 ^ (ji15).toNat)) = ji17 := fun h_ => (i64_w _).symm.trans (hji17z h_)
         have H' := Aside0.mk H
         clear H
         try go_wp2
         have n0_ := Aside0.mk (Kd.V_drew HO0_2.out)
         have n1_ := Aside0.mk (Kd.V_drew HO0_3.out)
         have n2_ := Aside0.mk (Kd.V_drew HO0_4.out)
         have n3_ := Aside0.mk (Kd.V_drew HO480.out)
         have n4_ := Aside0.mk (blk_drew BK477.out)
         have n5_ := Aside0.mk (below_drew1 HB.out)
         clear HO0_2
         clear HO0_3
         clear HO0_4
         clear HO480
         clear BK477
         clear HB
         have HO0_2 := n0_
         have HO0_3 := n1_
         have HO0_4 := n2_
         have HO480 := n3_
         have BK477 := n4_
         have HB := n5_
         clear n0_ n1_ n2_ n3_ n4_ n5_
         obtain ⟨Ao19, co19, eo19⟩ := Kd.V_slice HO480.out
         (first | subst eo19 | (injection eo19 with f1_ f2_ f3_; have f4_ := f1_.symm; have f5_ := f3_.symm; clear f1_ f2_ f3_; subst f4_; subst f5_))
         have p481 : 0 ≤ (0 : Int) := (by omega)
         have q481 : 0 < (t478.length : Int) := of_decide_eq_true q90_
         obtain ⟨ad481, e481, hx481_0⟩ := Kd.at_int (Kd.V_reads' HO480.out).2.2 0 p481 q481
         cases e481
         have qi481 : (0 < t478.length) = True := eq_true (by omega)
         (try rw [show ((0 : Int)).toNat = 0 from rfl] at hx481_0)
         (try rw [Addr.add_zero'] at hx481_0)
         replace p481 := eq_true p481
         replace q481 := eq_true q481
         have p482 : 0 ≤ (2 : Int) := (by omega)
         have q482 : 2 < (t478.length : Int) := of_decide_eq_true q90_
         obtain ⟨ad482, e482, hx482_0⟩ := Kd.at_int (Kd.V_reads' HO480.out).2.2 2 p482 q482
         obtain rfl : ad481 = ad482 := (by injection e482)
         (try simp only [show (2 : Int).toNat = 2 from rfl, Nat.reduceMul, Nat.reduceEqDiff, Go.Addr.add, ↓reduceIte] at hx482_0)
         have qi482 : (2 < t478.length) = True := eq_true (by omega)
         (try rw [show ((2 : Int)).toNat = 2 from rfl] at hx482_0)
         replace p482 := eq_true p482
         replace q482 := eq_true q482
         have p483 : 0 ≤ (1 : Int) := (by omega)
         have q483 : 1 < (t478.length : Int) := of_decide_eq_true q90_
         obtain ⟨ad483, e483, hx483_0⟩ := Kd.at_int (Kd.V_reads' HO480.out).2.2 1 p483 q483
         obtain rfl : ad481 = ad483 := (by injection e483)
         (try simp only [show (1 : Int).toNat = 1 from rfl, Nat.reduceMul, Nat.reduceEqDiff, Go.Addr.add, ↓reduceIte] at hx483_0)
         have qi483 : (1 < t478.length) = True := eq_true (by omega)
         (try rw [show ((1 : Int)).toNat = 1 from rfl] at hx483_0)
         replace p483 := eq_true p483
         replace q483 := eq_true q483
         have p484 : 0 ≤ (1 : Int) := (by omega)
         have q484 : 1 < (t478.length : Int) := of_decide_eq_true q90_
         obtain ⟨ad484, e484, hx484_0⟩ := Kd.at_int (Kd.V_reads' HO480.out).2.2 1 p484 q484
         obtain rfl : ad481 = ad484 := (by injection e484)
         (try simp only [show (1 : Int).toNat = 1 from rfl, Nat.reduceMul, Nat.reduceEqDiff, Go.Addr.add, ↓reduceIte] at hx484_0)
         have qi484 : (1 < t478.length) = True := eq_true (by omega)
         (try rw [show ((1 : Int)).toNat = 1 from rfl] at hx484_0)
         replace p484 := eq_true p484
         replace q484 := eq_true q484
         refine start_ (n := 33) (S := fun w' => w'.cell? ⟨gb477, 0, none⟩ = some (.int .i64 a0_0) ∧ w'.cell? ⟨gb477, 1, none⟩ = some (.int .u32 a0_1) ∧ w'.cell? ⟨gb477, 2, none⟩ = some (.slice A0_2 l0_2.length c0_2) ∧ w'.cell? ⟨gb477, 3, none⟩ = some (.slice A0_3 l0_3.length c0_3) ∧ w'.cell? ⟨gb477, 4, none⟩ = some (.slice A0_4 l0_4.length c0_4) ∧ w'.cell? ad481 = some (.int .i64 (rd t478 0)) ∧ w'.cell? ⟨ad481.block, ad481.off + 2, none⟩ = some (.int .i64 (rd t478 2)) ∧ w'.cell? ⟨ad481.block, ad481.off + 1, none⟩ = some (.int .i64 (rd t478 1)) ∧ w'.cell? ⟨ad481.block, ad481.off + 1, none⟩ = some (.int .i64 (rd t478 1))) (ds := []) #[false, false, false, false, false, false, false, false, false, false, false, false, false, false, false, false, false, false, false, false, false, false, false, false, false, false, false, false, false, false, false, false, false] (by kernel_rfl) rfl rfl ⟨(blk_cell BK477.out 0).trans rfl, (blk_cell BK477.out 1).trans rfl, (blk_cell BK477.out 2).trans rfl, (blk_cell BK477.out 3).trans rfl, (blk_cell BK477.out 4).trans rfl, hx481_0, hx482_0, hx483_0, hx484_0⟩ (fun hHeld => ?_); refine with_tabW pyxref22_Join.tab2 pyxref22_Join.bits2 (fun HT_ HW_ => ?_)
         generalize w6.drew = w18 at HO0_2 HO0_3 HO0_4 HO480 BK477 HB hx481_0 hx482_0 hx483_0 hx484_0 hHeld ⊢
         refine pu_ 0 (N := some 11) #[true, false, false, false, false, false, false, false, false, false, false, false, false, false, false, false, false, false, false, false, false, false, false, false, false, false, false, false, false, false, false, false, false] rfl rfl ?_
         refine pu_ 1 (N := some 12) #[true, true, false, false, false, false, false, false, false, false, false, false, false, false, false, false, false, false, false, false, false, false, false, false, false, false, false, false, false, false, false, false, false] rfl rfl ?_
         refine tk9_ 2 (N := some 13) #[true, true, true, false, false, false, false, false, false, false, false, false, false, false, false, false, false, false, false, false, false, false, false, false, false, false, false, false, false, false, false, false, false] rfl rfl hHeld ?_
         refine pu_ 3 (N := some 14) #[true, true, true, true, false, false, false, false, false, false, false, false, false, false, false, false, false, false, false, false, false, false, false, false, false, false, false, false, false, false, false, false, false] rfl rfl ?_
         refine pu_ 4 (N := some 15) #[true, true, true, true, true, false, false, false, false, false, false, false, false, false, false, false, false, false, false, false, false, false, false, false, false, false, false, false, false, false, false, false, false] rfl rfl ?_
         refine pu_ 5 (N := some 16) #[true, true, true, true, true, true, false, false, false, false, false, false, false, false, false, false, false, false, false, false, false, false, false, false, false, false, false, false, false, false, false, false, false] rfl rfl ?_
         refine pu_ 8 (N := some 19) #[true, true, true, true, true, true, false, false, true, false, false, false, false, false, false, false, false, false, false, false, false, false, false, false, false, false, false, false, false, false, false, false, false] rfl rfl ?_
         refine pu_ 9 (N := some 20) #[true, true, true, true, true, true, false, false, true, true, false, false, false, false, false, false, false, false, false, false, false, false, false, false, false, false, false, false, false, false, false, false, false] rfl rfl ?_
         refine tk9_ 6 (N := some 17) #[true, true, true, true, true, true, true, false, true, true, false, false, false, false, false, false, false, false, false, false, false, false, false, false, false, false, false, false, false, false, false, false, false] rfl rfl hHeld ?_
         refine pu_ 7 (N := some 18) #[true, true, true, true, true, true, true, true, true, true, false, false, false, false, false, false, false, false, false, false, false, false, false, false, false, false, false, false, false, false, false, false, false] rfl rfl ?_
         refine tk9_ 10 (N := some 21) #[true, true, true, true, true, true, true, true, true, true, true, false, false, false, false, false, false, false, false, false, false, false, false, false, false, false, false, false, false, false, false, false, false] rfl rfl hHeld ?_
         refine pu_ 11 (N := some 22) #[true, true, true, true, true, true, true, true, true, true, true, true, false, false, false, false, false, false, false, false, false, false, false, false, false, false, false, false, false, false, false, false, false] rfl rfl ?_
         refine pu_ 12 (N := some 23) #[true, true, true, true, true, true, true, true, true, true, true, true, true, false, false, false, false, false, false, false, false, false, false, false, false, false, false, false, false, false, false, false, false] rfl rfl ?_
         refine pu_ 13 (N := some 24) #[true, true, true, true, true, true, true, true, true, true, true, true, true, true, false, false, false, false, false, false, false, false, false, false, false, false, false, false, false, false, false, false, false] rfl rfl ?_
         refine pu_ 14 (N := some 25) #[true, true, true, true, true, true, true, true, true, true, true, true, true, true, true, false, false, false, false, false, false, false, false, false, false, false, false, false, false, false, false, false, false] rfl rfl ?_
         refine pu_ 17 (N := some 28) #[true, true, true, true, true, true, true, true, true, true, true, true, true, true, true, false, false, true, false, false, false, false, false, false, false, false, false, false, false, false, false, false, false] rfl rfl ?_
         refine pu_ 18 (N := some 29) #[true, true, true, true, true, true, true, true, true, true, true, true, true, true, true, false, false, true, true, false, false, false, false, false, false, false, false, false, false, false, false, false, false] rfl rfl ?_
         refine tk9_ 15 (N := some 26) #[true, true, true, true, true, true, true, true, true, true, true, true, true, true, true, true, false, true, true, false, false, false, false, false, false, false, false, false, false, false, false, false, false] rfl rfl hHeld ?_
         refine pu_ 16 (N := some 27) #[true, true, true, true, true, true, true, true, true, true, true, true, true, true, true, true, true, true, true, false, false, false, false, false, false, false, false, false, false, false, false, false, false] rfl rfl ?_
         refine tk9_ 19 (N := some 30) #[true, true, true, true, true, true, true, true, true, true, true, true, true, true, true, true, true, true, true, true, false, false, false, false, false, false, false, false, false, false, false, false, false] rfl rfl hHeld ?_
         refine pu_ 20 (N := some 31) #[true, true, true, true, true, true, true, true, true, true, true, true, true, true, true, true, true, true, true, true, true, false, false, false, false, false, false, false, false, false, false, false, false] rfl rfl ?_
         refine pu_ 21 (N := some 32) #[true, true, true, true, true, true, true, true, true, true, true, true, true, true, true, true, true, true, true, true, true, true, false, false, false, false, false, false, false, false, false, false, false] rfl rfl ?_
         refine pu_ 22 (N := some 33) #[true, true, true, true, true, true, true, true, true, true, true, true, true, true, true, true, true, true, true, true, true, true, true, false, false, false, false, false, false, false, false, false, false] rfl rfl ?_
         refine pu_ 23 (N := some 34) #[true, true, true, true, true, true, true, true, true, true, true, true, true, true, true, true, true, true, true, true, true, true, true, true, false, false, false, false, false, false, false, false, false] rfl rfl ?_
         refine pu_ 26 (N := some 37) #[true, true, true, true, true, true, true, true, true, true, true, true, true, true, true, true, true, true, true, true, true, true, true, true, false, false, true, false, false, false, false, false, false] rfl rfl ?_
         refine pu_ 27 (N := some 38) #[true, true, true, true, true, true, true, true, true, true, true, true, true, true, true, true, true, true, true, true, true, true, true, true, false, false, true, true, false, false, false, false, false] rfl rfl ?_
         refine tk9_ 24 (N := some 35) #[true, true, true, true, true, true, true, true, true, true, true, true, true, true, true, true, true, true, true, true, true, true, true, true, true, false, true, true, false, false, false, false, false] rfl rfl hHeld ?_
         refine pu_ 25 (N := some 36) #[true, true, true, true, true, true, true, true, true, true, true, true, true, true, true, true, true, true, true, true, true, true, true, true, true, true, true, true, false, false, false, false, false] rfl rfl ?_
         refine tk9_ 28 (N := some 39) #[true, true, true, true, true, true, true, true, true, true, true, true, true, true, true, true, true, true, true, true, true, true, true, true, true, true, true, true, true, false, false, false, false] rfl rfl hHeld ?_
         refine pu_ 29 (N := some 40) #[true, true, true, true, true, true, true, true, true, true, true, true, true, true, true, true, true, true, true, true, true, true, true, true, true, true, true, true, true, true, false, false, false] rfl rfl ?_
         refine pu_ 30 (N := some 41) #[true, true, true, true, true, true, true, true, true, true, true, true, true, true, true, true, true, true, true, true, true, true, true, true, true, true, true, true, true, true, true, false, false] rfl rfl ?_
         refine pu_ 31 (N := some 42) #[true, true, true, true, true, true, true, true, true, true, true, true, true, true, true, true, true, true, true, true, true, true, true, true, true, true, true, true, true, true, true, true, false] rfl rfl ?_
         refine pu_ 32 (N := some 43) #[true, true, true, true, true, true, true, true, true, true, true, true, true, true, true, true, true, true, true, true, true, true, true, true, true, true, true, true, true, true, true, true, true] rfl rfl ?_
         refine done_ (done_of HT_.out (by kernel_rfl)) ?_
         try go_wp2
         go_meet
         case rel => exact ⟨_, (decide ((wrap64 (a0_1)) ≥ (ji17))), (by first | rfl | (simp; done) | (simp only [← hji17] <;> (first | rfl | simp)) | (simp [*]; done)), H', ⟨by first | omega | exact Nat.le_refl _⟩, ⟨by (with_reducible repeat (first | apply Kd.V_alloc | apply Kd.V_drewN | apply Kd.V_drew)); exact HO480.out⟩, ⟨by (with_reducible repeat (first | apply Kd.V_alloc | apply Kd.V_drewN | apply Kd.V_drew)); exact HO0_2.out⟩, ⟨by (with_reducible repeat (first | apply Kd.V_alloc | apply Kd.V_drewN | apply Kd.V_drew)); exact HO0_3.out⟩, ⟨by (with_reducible repeat (first | apply Kd.V_alloc | apply Kd.V_drewN | apply Kd.V_drew)); exact HO0_4.out⟩, ⟨by (with_reducible repeat (first | refine blk_drewN ?_ _ | refine blk_drew ?_ | refine blk_alloc ?_ _)); exact BK477.out⟩, ⟨by repeat (first | (with_reducible first | exact HB.out | apply below_alloc | apply pw_below_drewN | apply below_drew1 | refine below_set ?_ GE477.out) | exact HB.out)⟩⟩
        ·rw [if_neg c16] at H
         exact absurd H (by simp)
       ·rw [if_neg c14] at H
        have c14b0 : ((l0_4.length : Int) == (rd t478 1)) = false := beq_eq_false_iff_ne.mpr c14
        have c14b1 : ((l0_4.length : Int) != (rd t478 1)) = true := bne_iff_ne.mpr c14
        have H' := Aside0.mk H
        clear H
        try go_wp2
        have n0_ := Aside0.mk (Kd.V_drew HO0_2.out)
        have n1_ := Aside0.mk (Kd.V_drew HO0_3.out)
        have n2_ := Aside0.mk (Kd.V_drew HO0_4.out)
        have n3_ := Aside0.mk (Kd.V_drew HO480.out)
        have n4_ := Aside0.mk (blk_drew BK477.out)
        have n5_ := Aside0.mk (below_drew1 HB.out)
        clear HO0_2
        clear HO0_3
        clear HO0_4
        clear HO480
        clear BK477
        clear HB
        have HO0_2 := n0_
        have HO0_3 := n1_
        have HO0_4 := n2_
        have HO480 := n3_
        have BK477 := n4_
        have HB := n5_
        clear n0_ n1_ n2_ n3_ n4_ n5_
        obtain ⟨Ao21, co21, eo21⟩ := Kd.V_slice HO480.out
        (first | subst eo21 | (injection eo21 with f1_ f2_ f3_; have f4_ := f1_.symm; have f5_ := f3_.symm; clear f1_ f2_ f3_; subst f4_; subst f5_))
        have p481 : 0 ≤ (0 : Int) := (by omega)
        have q481 : 0 < (t478.length : Int) := of_decide_eq_true q90_
        obtain ⟨ad481, e481, hx481_0⟩ := Kd.at_int (Kd.V_reads' HO480.out).2.2 0 p481 q481
        cases e481
        have qi481 : (0 < t478.length) = True := eq_true (by omega)
        (try rw [show ((0 : Int)).toNat = 0 from rfl] at hx481_0)
        (try rw [Addr.add_zero'] at hx481_0)
        replace p481 := eq_true p481
        replace q481 := eq_true q481
        have p482 : 0 ≤ (2 : Int) := (by omega)
        have q482 : 2 < (t478.length : Int) := of_decide_eq_true q90_
        obtain ⟨ad482, e482, hx482_0⟩ := Kd.at_int (Kd.V_reads' HO480.out).2.2 2 p482 q482
        obtain rfl : ad481 = ad482 := (by injection e482)
        (try simp only [show (2 : Int).toNat = 2 from rfl, Nat.reduceMul, Nat.reduceEqDiff, Go.Addr.add, ↓reduceIte] at hx482_0)
        have qi482 : (2 < t478.length) = True := eq_true (by omega)
        (try rw [show ((2 : Int)).toNat = 2 from rfl] at hx482_0)
        replace p482 := eq_true p482
        replace q482 := eq_true q482
        have p483 : 0 ≤ (1 : Int) := (by omega)
        have q483 : 1 < (t478.length : Int) := of_decide_eq_true q90_
        obtain ⟨ad483, e483, hx483_0⟩ := Kd.at_int (Kd.V_reads' HO480.out).2.2 1 p483 q483
        obtain rfl : ad481 = ad483 := (by injection e483)
        (try simp only [show (1 : Int).toNat = 1 from rfl, Nat.reduceMul, Nat.reduceEqDiff, Go.Addr.add, ↓reduceIte] at hx483_0)
        have qi483 : (1 < t478.length) = True := eq_true (by omega)
        (try rw [show ((1 : Int)).toNat = 1 from rfl] at hx483_0)
        replace p483 := eq_true p483
        replace q483 := eq_true q483
        refine start_ (n := 33) (S := fun w' => w'.cell? ⟨gb477, 0, none⟩ = some (.int .i64 a0_0) ∧ w'.cell? ⟨gb477, 1, none⟩ = some (.int .u32 a0_1) ∧ w'.cell? ⟨gb477, 2, none⟩ = some (.slice A0_2 l0_2.length c0_2) ∧ w'.cell? ⟨gb477, 3, none⟩ = some (.slice A0_3 l0_3.length c0_3) ∧ w'.cell? ⟨gb477, 4, none⟩ = some (.slice A0_4 l0_4.length c0_4) ∧ w'.cell? ad481 = some (.int .i64 (rd t478 0)) ∧ w'.cell? ⟨ad481.block, ad481.off + 2, none⟩ = some (.int .i64 (rd t478 2)) ∧ w'.cell? ⟨ad481.block, ad481.off + 1, none⟩ = some (.int .i64 (rd t478 1))) (ds := []) #[false, false, false, false, false, false, false, false, false, false, false, false, false, false, false, false, false, false, false, false, false, false, false, false, false, false, false, false, false, false, false, false, false] (by kernel_rfl) rfl rfl ⟨(blk_cell BK477.out 0).trans rfl, (blk_cell BK477.out 1).trans rfl, (blk_cell BK477.out 2).trans rfl, (blk_cell BK477.out 3).trans rfl, (blk_cell BK477.out 4).trans rfl, hx481_0, hx482_0, hx483_0⟩ (fun hHeld => ?_); refine with_tabW pyxref22_Join.tab2 pyxref22_Join.bits2 (fun HT_ HW_ => ?_)
        generalize w6.drew = w20 at HO0_2 HO0_3 HO0_4 HO480 BK477 HB hx481_0 hx482_0 hx483_0 hHeld ⊢
        refine pu_ 0 (N := some 11) #[true, false, false, false, false, false, false, false, false, false, false, false, false, false, false, false, false, false, false, false, false, false, false, false, false, false, false, false, false, false, false, false, false] rfl rfl ?_
        refine pu_ 1 (N := some 12) #[true, true, false, false, false, false, false, false, false, false, false, false, false, false, false, false, false, false, false, false, false, false, false, false, false, false, false, false, false, false, false, false, false] rfl rfl ?_
        refine tk8_ 2 (N := some 13) #[true, true, true, false, false, false, false, false, false, false, false, false, false, false, false, false, false, false, false, false, false, false, false, false, false, false, false, false, false, false, false, false, false] rfl rfl hHeld ?_
        refine pu_ 3 (N := some 14) #[true, true, true, true, false, false, false, false, false, false, false, false, false, false, false, false, false, false, false, false, false, false, false, false, false, false, false, false, false, false, false, false, false] rfl rfl ?_
        refine pu_ 4 (N := some 15) #[true, true, true, true, true, false, false, false, false, false, false, false, false, false, false, false, false, false, false, false, false, false, false, false, false, false, false, false, false, false, false, false, false] rfl rfl ?_
        refine pu_ 5 (N := some 16) #[true, true, true, true, true, true, false, false, false, false, false, false, false, false, false, false, false, false, false, false, false, false, false, false, false, false, false, false, false, false, false, false, false] rfl rfl ?_
        refine pu_ 8 (N := some 19) #[true, true, true, true, true, true, false, false, true, false, false, false, false, false, false, false, false, false, false, false, false, false, false, false, false, false, false, false, false, false, false, false, false] rfl rfl ?_
        refine pu_ 9 (N := some 20) #[true, true, true, true, true, true, false, false, true, true, false, false, false, false, false, false, false, false, false, false, false, false, false, false, false, false, false, false, false, false, false, false, false] rfl rfl ?_
        refine tk8_ 6 (N := some 17) #[true, true, true, true, true, true, true, false, true, true, false, false, false, false, false, false, false, false, false, false, false, false, false, false, false, false, false, false, false, false, false, false, false] rfl rfl hHeld ?_
        refine pu_ 7 (N := some 18) #[true, true, true, true, true, true, true, true, true, true, false, false, false, false, false, false, false, false, false, false, false, false, false, false, false, false, false, false, false, false, false, false, false] rfl rfl ?_
        refine tk8_ 10 (N := some 21) #[true, true, true, true, true, true, true, true, true, true, true, false, false, false, false, false, false, false, false, false, false, false, false, false, false, false, false, false, false, false, false, false, false] rfl rfl hHeld ?_
        refine pu_ 11 (N := some 22) #[true, true, true, true, true, true, true, true, true, true, true, true, false, false, false, false, false, false, false, false, false, false, false, false, false, false, false, false, false, false, false, false, false] rfl rfl ?_
        refine pu_ 12 (N := some 23) #[true, true, true, true, true, true, true, true, true, true, true, true, true, false, false, false, false, false, false, false, false, false, false, false, false, false, false, false, false, false, false, false, false] rfl rfl ?_
        refine pu_ 13 (N := some 24) #[true, true, true, true, true, true, true, true, true, true, true, true, true, true, false, false, false, false, false, false, false, false, false, false, false, false, false, false, false, false, false, false, false] rfl rfl ?_
        refine pu_ 14 (N := some 25) #[true, true, true, true, true, true, true, true, true, true, true, true, true, true, true, false, false, false, false, false, false, false, false, false, false, false, false, false, false, false, false, false, false] rfl rfl ?_
        refine pu_ 17 (N := some 28) #[true, true, true, true, true, true, true, true, true, true, true, true, true, true, true, false, false, true, false, false, false, false, false, false, false, false, false, false, false, false, false, false, false] rfl rfl ?_
        refine pu_ 18 (N := some 29) #[true, true, true, true, true, true, true, true, true, true, true, true, true, true, true, false, false, true, true, false, false, false, false, false, false, false, false, false, false, false, false, false, false] rfl rfl ?_
        refine tk8_ 15 (N := some 26) #[true, true, true, true, true, true, true, true, true, true, true, true, true, true, true, true, false, true, true, false, false, false, false, false, false, false, false, false, false, false, false, false, false] rfl rfl hHeld ?_
        refine pu_ 16 (N := some 27) #[true, true, true, true, true, true, true, true, true, true, true, true, true, true, true, true, true, true, true, false, false, false, false, false, false, false, false, false, false, false, false, false, false] rfl rfl ?_
        refine tk8_ 19 (N := some 30) #[true, true, true, true, true, true, true, true, true, true, true, true, true, true, true, true, true, true, true, true, false, false, false, false, false, false, false, false, false, false, false, false, false] rfl rfl hHeld ?_
        refine pu_ 20 (N := some 31) #[true, true, true, true, true, true, true, true, true, true, true, true, true, true, true, true, true, true, true, true, true, false, false, false, false, false, false, false, false, false, false, false, false] rfl rfl ?_
        refine pu_ 21 (N := some 32) #[true, true, true, true, true, true, true, true, true, true, true, true, true, true, true, true, true, true, true, true, true, true, false, false, false, false, false, false, false, false, false, false, false] rfl rfl ?_
        refine pu_ 22 (N := some 33) #[true, true, true, true, true, true, true, true, true, true, true, true, true, true, true, true, true, true, true, true, true, true, true, false, false, false, false, false, false, false, false, false, false] rfl rfl ?_
        refine pn_ 23 (N := some 34) #[true, true, true, true, true, true, true, true, true, true, true, true, true, true, true, true, true, true, true, true, true, true, true, true, false, false, false, false, false, false, false, false, false] rfl rfl ?_
        refine pn_ 24 (N := some 35) #[true, true, true, true, true, true, true, true, true, true, true, true, true, true, true, true, true, true, true, true, true, true, true, true, true, false, false, false, false, false, false, false, false] rfl rfl ?_
        refine pn_ 25 (N := some 36) #[true, true, true, true, true, true, true, true, true, true, true, true, true, true, true, true, true, true, true, true, true, true, true, true, true, true, false, false, false, false, false, false, false] rfl rfl ?_
        refine pn_ 26 (N := some 37) #[true, true, true, true, true, true, true, true, true, true, true, true, true, true, true, true, true, true, true, true, true, true, true, true, true, true, true, false, false, false, false, false, false] rfl rfl ?_
        refine pn_ 27 (N := some 38) #[true, true, true, true, true, true, true, true, true, true, true, true, true, true, true, true, true, true, true, true, true, true, true, true, true, true, true, true, false, false, false, false, false] rfl rfl ?_
        refine pn_ 28 (N := some 39) #[true, true, true, true, true, true, true, true, true, true, true, true, true, true, true, true, true, true, true, true, true, true, true, true, true, true, true, true, true, false, false, false, false] rfl rfl ?_
        refine pn_ 29 (N := some 40) #[true, true, true, true, true, true, true, true, true, true, true, true, true, true, true, true, true, true, true, true, true, true, true, true, true, true, true, true, true, true, false, false, false] rfl rfl ?_
        refine pn_ 30 (N := some 41) #[true, true, true, true, true, true, true, true, true, true, true, true, true, true, true, true, true, true, true, true, true, true, true, true, true, true, true, true, true, true, true, false, false] rfl rfl ?_
        refine pn_ 31 (N := some 42) #[true, true, true, true, true, true, true, true, true, true, true, true, true, true, true, true, true, true, true, true, true, true, true, true, true, true, true, true, true, true, true, true, false] rfl rfl ?_
        refine pu_ 32 (N := some 43) #[true, true, true, true, true, true, true, true, true, true, true, true, true, true, true, true, true, true, true, true, true, true, true, true, true, true, true, true, true, true, true, true, true] rfl rfl ?_
        refine done_ (done_of HT_.out (by kernel_rfl)) ?_
        try go_wp2
        go_meet
        case rel => exact ⟨_, (true), q91_, H', ⟨by first | omega | exact Nat.le_refl _⟩, ⟨by (with_reducible repeat (first | apply Kd.V_alloc | apply Kd.V_drewN | apply Kd.V_drew)); exact HO480.out⟩, ⟨by (with_reducible repeat (first | apply Kd.V_alloc | apply Kd.V_drewN | apply Kd.V_drew)); exact HO0_2.out⟩, ⟨by (with_reducible repeat (first | apply Kd.V_alloc | apply Kd.V_drewN | apply Kd.V_drew)); exact HO0_3.out⟩, ⟨by (with_reducible repeat (first | apply Kd.V_alloc | apply Kd.V_drewN | apply Kd.V_drew)); exact HO0_4.out⟩, ⟨by (with_reducible repeat (first | refine blk_drewN ?_ _ | refine blk_drew ?_ | refine blk_alloc ?_ _)); exact BK477.out⟩, ⟨by repeat (first | (with_reducible first | exact HB.out | apply below_alloc | apply pw_below_drewN | apply below_drew1 | refine below_set ?_ GE477.out) | exact HB.out)⟩⟩
      ·rw [if_neg c13] at H
       exact absurd H (by simp)
     ·rw [if_neg c12] at H
      have c12b0 : ((l0_3.length : Int) == (rd t478 2)) = false := beq_eq_false_iff_ne.mpr c12
      have c12b1 : ((l0_3.length : Int) != (rd t478 2)) = true := bne_iff_ne.mpr c12
      have H' := Aside0.mk H
      clear H
      try go_wp2
      have n0_ := Aside0.mk (Kd.V_drew HO0_2.out)
      have n1_ := Aside0.mk (Kd.V_drew HO0_3.out)
      have n2_ := Aside0.mk (Kd.V_drew HO0_4.out)
      have n3_ := Aside0.mk (Kd.V_drew HO480.out)
      have n4_ := Aside0.mk (blk_drew BK477.out)
      have n5_ := Aside0.mk (below_drew1 HB.out)
      clear HO0_2
      clear HO0_3
      clear HO0_4
      clear HO480
      clear BK477
      clear HB
      have HO0_2 := n0_
      have HO0_3 := n1_
      have HO0_4 := n2_
      have HO480 := n3_
      have BK477 := n4_
      have HB := n5_
      clear n0_ n1_ n2_ n3_ n4_ n5_
      obtain ⟨Ao23, co23, eo23⟩ := Kd.V_slice HO480.out
      (first | subst eo23 | (injection eo23 with f1_ f2_ f3_; have f4_ := f1_.symm; have f5_ := f3_.symm; clear f1_ f2_ f3_; subst f4_; subst f5_))
      have p481 : 0 ≤ (0 : Int) := (by omega)
      have q481 : 0 < (t478.length : Int) := of_decide_eq_true q90_
      obtain ⟨ad481, e481, hx481_0⟩ := Kd.at_int (Kd.V_reads' HO480.out).2.2 0 p481 q481
      cases e481
      have qi481 : (0 < t478.length) = True := eq_true (by omega)
      (try rw [show ((0 : Int)).toNat = 0 from rfl] at hx481_0)
      (try rw [Addr.add_zero'] at hx481_0)
      replace p481 := eq_true p481
      replace q481 := eq_true q481
      have p482 : 0 ≤ (2 : Int) := (by omega)
      have q482 : 2 < (t478.length : Int) := of_decide_eq_true q90_
      obtain ⟨ad482, e482, hx482_0⟩ := Kd.at_int (Kd.V_reads' HO480.out).2.2 2 p482 q482
      obtain rfl : ad481 = ad482 := (by injection e482)
      (try simp only [show (2 : Int).toNat = 2 from rfl, Nat.reduceMul, Nat.reduceEqDiff, Go.Addr.add, ↓reduceIte] at hx482_0)
      have qi482 : (2 < t478.length) = True := eq_true (by omega)
      (try rw [show ((2 : Int)).toNat = 2 from rfl] at hx482_0)
      replace p482 := eq_true p482
      replace q482 := eq_true q482
      refine start_ (n := 33) (S := fun w' => w'.cell? ⟨gb477, 0, none⟩ = some (.int .i64 a0_0) ∧ w'.cell? ⟨gb477, 1, none⟩ = some (.int .u32 a0_1) ∧ w'.cell? ⟨gb477, 2, none⟩ = some (.slice A0_2 l0_2.length c0_2) ∧ w'.cell? ⟨gb477, 3, none⟩ = some (.slice A0_3 l0_3.length c0_3) ∧ w'.cell? ⟨gb477, 4, none⟩ = some (.slice A0_4 l0_4.length c0_4) ∧ w'.cell? ad481 = some (.int .i64 (rd t478 0)) ∧ w'.cell? ⟨ad481.block, ad481.off + 2, none⟩ = some (.int .i64 (rd t478 2))) (ds := []) #[false, false, false, false, false, false, false, false, false, false, false, false, false, false, false, false, false, false, false, false, false, false, false, false, false, false, false, false, false, false, false, false, false] (by kernel_rfl) rfl rfl ⟨(blk_cell BK477.out 0).trans rfl, (blk_cell BK477.out 1).trans rfl, (blk_cell BK477.out 2).trans rfl, (blk_cell BK477.out 3).trans rfl, (blk_cell BK477.out 4).trans rfl, hx481_0, hx482_0⟩ (fun hHeld => ?_); refine with_tabW pyxref22_Join.tab2 pyxref22_Join.bits2 (fun HT_ HW_ => ?_)
      generalize w6.drew = w22 at HO0_2 HO0_3 HO0_4 HO480 BK477 HB hx481_0 hx482_0 hHeld ⊢
      refine pu_ 0 (N := some 11) #[true, false, false, false, false, false, false, false, false, false, false, false, false, false, false, false, false, false, false, false, false, false, false, false, false, false, false, false, false, false, false, false, false] rfl rfl ?_
      refine pu_ 1 (N := some 12) #[true, true, false, false, false, false, false, false, false, false, false, false, false, false, false, false, false, false, false, false, false, false, false, false, false, false, false, false, false, false, false, false, false] rfl rfl ?_
      refine tk7_ 2 (N := some 13) #[true, true, true, false, false, false, false, false, false, false, false, false, false, false, false, false, false, false, false, false, false, false, false, false, false, false, false, false, false, false, false, false, false] rfl rfl hHeld ?_
      refine pu_ 3 (N := some 14) #[true, true, true, true, false, false, false, false, false, false, false, false, false, false, false, false, false, false, false, false, false, false, false, false, false, false, false, false, false, false, false, false, false] rfl rfl ?_
      refine pu_ 4 (N := some 15) #[true, true, true, true, true, false, false, false, false, false, false, false, false, false, false, false, false, false, false, false, false, false, false, false, false, false, false, false, false, false, false, false, false] rfl rfl ?_
      refine pu_ 5 (N := some 16) #[true, true, true, true, true, true, false, false, false, false, false, false, false, false, false, false, false, false, false, false, false, false, false, false, false, false, false, false, false, false, false, false, false] rfl rfl ?_
      refine pu_ 8 (N := some 19) #[true, true, true, true, true, true, false, false, true, false, false, false, false, false, false, false, false, false, false, false, false, false, false, false, false, false, false, false, false, false, false, false, false] rfl rfl ?_
      refine pu_ 9 (N := some 20) #[true, true, true, true, true, true, false, false, true, true, false, false, false, false, false, false, false, false, false, false, false, false, false, false, false, false, false, false, false, false, false, false, false] rfl rfl ?_
      refine tk7_ 6 (N := some 17) #[true, true, true, true, true, true, true, false, true, true, false, false, false, false, false, false, false, false, false, false, false, false, false, false, false, false, false, false, false, false, false, false, false] rfl rfl hHeld ?_
      refine pu_ 7 (N := some 18) #[true, true, true, true, true, true, true, true, true, true, false, false, false, false, false, false, false, false, false, false, false, false, false, false, false, false, false, false, false, false, false, false, false] rfl rfl ?_
      refine tk7_ 10 (N := some 21) #[true, true, true, true, true, true, true, true, true, true, true, false, false, false, false, false, false, false, false, false, false, false, false, false, false, false, false, false, false, false, false, false, false] rfl rfl hHeld ?_
      refine pu_ 11 (N := some 22) #[true, true, true, true, true, true, true, true, true, true, true, true, false, false, false, false, false, false, false, false, false, false, false, false, false, false, false, false, false, false, false, false, false] rfl rfl ?_
      refine pu_ 12 (N := some 23) #[true, true, true, true, true, true, true, true, true, true, true, true, true, false, false, false, false, false, false, false, false, false, false, false, false, false, false, false, false, false, false, false, false] rfl rfl ?_
      refine pu_ 13 (N := some 24) #[true, true, true, true, true, true, true, true, true, true, true, true, true, true, false, false, false, false, false, false, false, false, false, false, false, false, false, false, false, false, false, false, false] rfl rfl ?_
      refine pn_ 14 (N := some 25) #[true, true, true, true, true, true, true, true, true, true, true, true, true, true, true, false, false, false, false, false, false, false, false, false, false, false, false, false, false, false, false, false, false] rfl rfl ?_
      refine pn_ 15 (N := some 26) #[true, true, true, true, true, true, true, true, true, true, true, true, true, true, true, true, false, false, false, false, false, false, false, false, false, false, false, false, false, false, false, false, false] rfl rfl ?_
      refine pn_ 16 (N := some 27) #[true, true, true, true, true, true, true, true, true, true, true, true, true, true, true, true, true, false, false, false, false, false, false, false, false, false, false, false, false, false, false, false, false] rfl rfl ?_
      refine pn_ 17 (N := some 28) #[true, true, true, true, true, true, true, true, true, true, true, true, true, true, true, true, true, true, false, false, false, false, false, false, false, false, false, false, false, false, false, false, false] rfl rfl ?_
      refine pn_ 18 (N := some 29) #[true, true, true, true, true, true, true, true, true, true, true, true, true, true, true, true, true, true, true, false, false, false, false, false, false, false, false, false, false, false, false, false, false] rfl rfl ?_
      refine pn_ 19 (N := some 30) #[true, true, true, true, true, true, true, true, true, true, true, true, true, true, true, true, true, true, true, true, false, false, false, false, false, false, false, false, false, false, false, false, false] rfl rfl ?_
      refine pn_ 20 (N := some 31) #[true, true, true, true, true, true, true, true, true, true, true, true, true, true, true, true, true, true, true, true, true, false, false, false, false, false, false, false, false, false, false, false, false] rfl rfl ?_
      refine pu_ 21 (N := some 32) #[true, true, true, true, true, true, true, true, true, true, true, true, true, true, true, true, true, true, true, true, true, true, false, false, false, false, false, false, false, false, false, false, false] rfl rfl ?_
      refine pu_ 22 (N := some 33) #[true, true, true, true, true, true, true, true, true, true, true, true, true, true, true, true, true, true, true, true, true, true, true, false, false, false, false, false, false, false, false, false, false] rfl rfl ?_
      refine pn_ 23 (N := some 34) #[true, true, true, true, true, true, true, true, true, true, true, true, true, true, true, true, true, true, true, true, true, true, true, true, false, false, false, false, false, false, false, false, false] rfl rfl ?_
      refine pn_ 24 (N := some 35) #[true, true, true, true, true, true, true, true, true, true, true, true, true, true, true, true, true, true, true, true, true, true, true, true, true, false, false, false, false, false, false, false, false] rfl rfl ?_
      refine pn_ 25 (N := some 36) #[true, true, true, true, true, true, true, true, true, true, true, true, true, true, true, true, true, true, true, true, true, true, true, true, true, true, false, false, false, false, false, false, false] rfl rfl ?_
      refine pn_ 26 (N := some 37) #[true, true, true, true, true, true, true, true, true, true, true, true, true, true, true, true, true, true, true, true, true, true, true, true, true, true, true, false, false, false, false, false, false] rfl rfl ?_
      refine pn_ 27 (N := some 38) #[true, true, true, true, true, true, true, true, true, true, true, true, true, true, true, true, true, true, true, true, true, true, true, true, true, true, true, true, false, false, false, false, false] rfl rfl ?_
      refine pn_ 28 (N := some 39) #[true, true, true, true, true, true, true, true, true, true, true, true, true, true, true, true, true, true, true, true, true, true, true, true, true, true, true, true, true, false, false, false, false] rfl rfl ?_
      refine pn_ 29 (N := some 40) #[true, true, true, true, true, true, true, true, true, true, true, true, true, true, true, true, true, true, true, true, true, true, true, true, true, true, true, true, true, true, false, false, false] rfl rfl ?_
      refine pn_ 30 (N := some 41) #[true, true, true, true, true, true, true, true, true, true, true, true, true, true, true, true, true, true, true, true, true, true, true, true, true, true, true, true, true, true, true, false, false] rfl rfl ?_
      refine pn_ 31 (N := some 42) #[true, true, true, true, true, true, true, true, true, true, true, true, true, true, true, true, true, true, true, true, true, true, true, true, true, true, true, true, true, true, true, true, false] rfl rfl ?_
      refine pu_ 32 (N := some 43) #[true, true, true, true, true, true, true, true, true, true, true, true, true, true, true, true, true, true, true, true, true, true, true, true, true, true, true, true, true, true, true, true, true] rfl rfl ?_
      refine done_ (done_of HT_.out (by kernel_rfl)) ?_
      try go_wp2
      go_meet
      case rel => exact ⟨_, (true), q91_, H', ⟨by first | omega | exact Nat.le_refl _⟩, ⟨by (with_reducible repeat (first | apply Kd.V_alloc | apply Kd.V_drewN | apply Kd.V_drew)); exact HO480.out⟩, ⟨by (with_reducible repeat (first | apply Kd.V_alloc | apply Kd.V_drewN | apply Kd.V_drew)); exact HO0_2.out⟩, ⟨by (with_reducible repeat (first | apply Kd.V_alloc | apply Kd.V_drewN | apply Kd.V_drew)); exact HO0_3.out⟩, ⟨by (with_reducible repeat (first | apply Kd.V_alloc | apply Kd.V_drewN | apply Kd.V_drew)); exact HO0_4.out⟩, ⟨by (with_reducible repeat (first | refine blk_drewN ?_ _ | refine blk_drew ?_ | refine blk_alloc ?_ _)); exact BK477.out⟩, ⟨by repeat (first | (with_reducible first | exact HB.out | apply below_alloc | apply pw_below_drewN | apply below_drew1 | refine below_set ?_ GE477.out) | exact HB.out)⟩⟩
    ·rw [if_neg c11] at H
     exact absurd H (by simp)
  ·rw [if_neg c7] at H
   exact absurd H (by simp)
 case rest =>
  clear HC3
  try clear c1
  try clear p2
  try clear p4
  try clear q4
  try clear hx4
  try clear qi4
  try clear p6
  try clear c7
  try clear c11
  try clear c12
  try clear c12b0
  try clear c12b1
  try clear c13
  try clear c14
  try clear c14b0
  try clear c14b1
  try clear c16
  try clear hx481_0
  try clear hx482_0
  try clear hx483_0
  try clear p481
  try clear p482
  try clear p483
  try clear q481
  try clear q482
  try clear q483
  obtain ⟨kq, x43_2, rfl, HA, HJ2, HO_4, HO_478002, HO_478003, HO_478004, BK477, HB⟩ := hcut
  cases kq with
  | zero => exact absurd HA.out (by simp [pyxref22_Join.j0])
  | succ kj2 =>
   have H := HA.out
   clear HA
   simp only [pyxref22_Join.j0] at H
   by_cases c24 : x43_2 = true
   ·subst c24
    have H1 : (some (([] : List Int), false)) = some (r1, r2) := by rw [if_pos rfl] at H; exact H
    clear H
    have H := H1
    clear H1
    simp only [Option.some.injEq, Prod.mk.injEq] at H
    obtain ⟨rfl, rfl⟩ := H
    go_wp2
    go_ret2
    exact ⟨_, by first | rfl | (simp [errW_none, errW_some] <;> rfl) | (simp [*, errW_none, errW_some] <;> rfl), by first | exact Kd.R_nil _ _ _ _ _ | exact Kd.N_nil _ _ _ _ _ | exact Kd.V_nil _ _ _ _ _ | exact Kd.Q_nil _ _ _ _ _ | exact Kd.S_nil _ _ _ _ _, by repeat (first | (with_reducible first | exact HB.out | apply below_alloc | apply pw_below_drewN | apply below_drew1 | refine below_set ?_ GE477.out) | exact HB.out)⟩
   ·replace c24 := Bool.eq_false_iff.mpr c24
    subst c24
    have H1 : ((some (([l0_2] : List (List Int)) : List (List Int))).bind fun y485 => (if y485.length + l0_3.length < 5864062014805 then ((some (y485 ++ l0_3 : List (List Int))).bind fun y488 => (if y488.length + l0_4.length < 5864062014805 then (pyxref22_Join.l0 kj2 t478 (y488 ++ l0_4) 0 a0_0 a0_1 l0_2 l0_3 l0_4) else (none))) else (none))) = some (r1, r2) := by rw [if_neg (show ¬ (false = true) by decide)] at H; exact H
    clear H
    have H := H1
    clear H1
    obtain ⟨y485, hy485⟩ : ∃ y_ : List (List Int), y_ = (([l0_2] : List (List Int))) := ⟨_, rfl⟩
    replace H : (if y485.length + l0_3.length < 5864062014805 then ((some (y485 ++ l0_3 : List (List Int))).bind fun y488 => (if y488.length + l0_4.length < 5864062014805 then (pyxref22_Join.l0 kj2 t478 (y488 ++ l0_4) 0 a0_0 a0_1 l0_2 l0_3 l0_4) else (none))) else (none)) = some (r1, r2) := by first | (rw [hy485]; with_reducible exact H) | (have H2_ := (Option.bind_some _ _).symm.trans H; rw [hy485]; with_reducible exact H2_) | (have H2_ := (Option.bind_some _ _).symm.trans H; with_reducible exact H2_) | with_reducible exact H | (rw [hy485]; exact H) | exact H
    have Ny485 := Aside0.mk hy485
    clear hy485
    by_cases c25 : y485.length + l0_3.length < 5864062014805
    ·rw [if_pos c25] at H
     have LMc25 := Aside0.mk c25
     clear c25
     obtain ⟨y488, hy488⟩ : ∃ y_ : List (List Int), y_ = (y485 ++ l0_3) := ⟨_, rfl⟩
     replace H : (if y488.length + l0_4.length < 5864062014805 then (pyxref22_Join.l0 kj2 t478 (y488 ++ l0_4) 0 a0_0 a0_1 l0_2 l0_3 l0_4) else (none)) = some (r1, r2) := by first | (rw [hy488]; with_reducible exact H) | (have H2_ := (Option.bind_some _ _).symm.trans H; rw [hy488]; with_reducible exact H2_) | (have H2_ := (Option.bind_some _ _).symm.trans H; with_reducible exact H2_) | with_reducible exact H | (rw [hy488]; exact H) | exact H
     have Ny488 := Aside0.mk hy488
     clear hy488
     by_cases c26 : y488.length + l0_4.length < 5864062014805
     ·rw [if_pos c26] at H
      have LMc26 := Aside0.mk c26
      clear c26
      obtain ⟨y491, hy491⟩ : ∃ y_ : List (List Int), y_ = (y488 ++ l0_4) := ⟨_, rfl⟩
      replace H : (pyxref22_Join.l0 kj2 t478 y491 0 a0_0 a0_1 l0_2 l0_3 l0_4) = some (r1, r2) := by first | (rw [hy491]; with_reducible exact H) | (have H2_ := (Option.bind_some _ _).symm.trans H; rw [hy491]; with_reducible exact H2_) | (have H2_ := (Option.bind_some _ _).symm.trans H; with_reducible exact H2_) | with_reducible exact H | (rw [hy491]; exact H) | exact H
      have Ny491 := Aside0.mk hy491
      clear hy491
      have H' := Aside0.mk H
      clear H
      try go_wp2
      have n0_ := Aside0.mk (Kd.V_drew HO_4.out)
      have n1_ := Aside0.mk (Kd.V_drew HO_478002.out)
      have n2_ := Aside0.mk (Kd.V_drew HO_478003.out)
      have n3_ := Aside0.mk (Kd.V_drew HO_478004.out)
      have n4_ := Aside0.mk (blk_drew BK477.out)
      have n5_ := Aside0.mk (below_drew1 HB.out)
      clear HO_4
      clear HO_478002
      clear HO_478003
      clear HO_478004
      clear BK477
      clear HB
      have HO_4 := n0_
      have HO_478002 := n1_
      have HO_478003 := n2_
      have HO_478004 := n3_
      have BK477 := n4_
      have HB := n5_
      clear n0_ n1_ n2_ n3_ n4_ n5_
      refine start_ (n := 10) (S := fun w' => w'.cell? ⟨gb477, 0, none⟩ = some (.int .i64 a0_0) ∧ w'.cell? ⟨gb477, 1, none⟩ = some (.int .u32 a0_1) ∧ w'.cell? ⟨gb477, 2, none⟩ = some (.slice A0_2 l0_2.length c0_2) ∧ w'.cell? ⟨gb477, 3, none⟩ = some (.slice A0_3 l0_3.length c0_3) ∧ w'.cell? ⟨gb477, 4, none⟩ = some (.slice A0_4 l0_4.length c0_4)) (ds := []) #[false, false, false, false, false, false, false, false, false, false] (by kernel_rfl) rfl rfl ⟨(blk_cell BK477.out 0).trans rfl, (blk_cell BK477.out 1).trans rfl, (blk_cell BK477.out 2).trans rfl, (blk_cell BK477.out 3).trans rfl, (blk_cell BK477.out 4).trans rfl⟩ (fun hHeld => ?_); refine with_tabW pyxref22_Join.tab4 pyxref22_Join.bits4 (fun HT_ HW_ => ?_)
      generalize wc.drew = w27 at HO_4 HO_478002 HO_478003 HO_478004 BK477 HB hHeld ⊢
      refine pu_ 0 (N := some 44) #[true, false, false, false, false, false, false, false, false, false] rfl rfl ?_
      refine pu_ 3 (N := some 47) #[true, false, false, true, false, false, false, false, false, false] rfl rfl ?_
      refine pu_ 6 (N := some 50) #[true, false, false, true, false, false, true, false, false, false] rfl rfl ?_
      refine tk5_ 1 (N := some 45) #[true, true, false, true, false, false, true, false, false, false] rfl rfl hHeld ?_
      refine tk5_ 4 (N := some 48) #[true, true, false, true, true, false, true, false, false, false] rfl rfl hHeld ?_
      refine tk5_ 7 (N := some 51) #[true, true, false, true, true, false, true, true, false, false] rfl rfl hHeld ?_
      refine one_ (i := 2) (N := some 46) #[true, true, true, true, true, false, true, true, false, false] rfl rfl (one_of HT_.out (by kernel_rfl)) (by decide) (fun K hK => ?_)
      refine Kd.N_lit_step (Kd.slice 5 (Kd.int .u8)) _ 25 ?hg (N' := 46) ?hd (xs := ([l0_2] : List (List Int))) (inner := [.slice A0_2 l0_2.length c0_2]) (ok := (fun k_ => ((P0_2_ k_ ∨ P0_3_ k_ ∨ P0_4_ k_) ∨ w.heap.size ≤ k_) ∧ k_ ≠ gb477)) (okp := (fun k_ => ((P0_2_ k_ ∨ P0_3_ k_ ∨ P0_4_ k_) ∨ w.heap.size ≤ k_) ∧ k_ ≠ gb477)) ?hr ?hp (fun _ hk => hk) ((show ∀ k_, w27.heap.size ≤ k_ → (fun k_ => ((P0_2_ k_ ∨ P0_3_ k_ ∨ P0_4_ k_) ∨ w.heap.size ≤ k_) ∧ k_ ≠ gb477) k_ from fun k_ hk => ⟨(.inr (Nat.le_trans (below_size q49_) hk)), Kd.freshB (g := gb477) (o := .cells #[.int .i64 a0_0, .int .u32 a0_1, .slice A0_2 l0_2.length c0_2, .slice A0_3 l0_3.length c0_3, .slice A0_4 l0_4.length c0_4] 57 (0, 0)) q65_ k_ hk⟩) _ (Nat.le_refl _)) (Below.refl _ _) (Nat.le_refl _) (by simp) ?_; (case hd => rfl); (case hg => rfl); (case hr => first | (go_simp; done) | (go_simp; rfl)); (case hp => exact (Reps.one (show Kd.FK (Kd.slice 5 (Kd.int .u8)) _ _ l0_2 [.slice A0_2 l0_2.length c0_2] from (Kd.FK_slice_mk (Kd.V_reads' (Kd.V_mono (ok' := (fun k_ => ((P0_2_ k_ ∨ P0_3_ k_ ∨ P0_4_ k_) ∨ w.heap.size ≤ k_) ∧ k_ ≠ gb477)) (HO_478002.out) (fun k_ hk => ⟨hk.1, hk.2⟩))).2.1 (Kd.V_F (Kd.V_mono (ok' := (fun k_ => ((P0_2_ k_ ∨ P0_3_ k_ ∨ P0_4_ k_) ∨ w.heap.size ≤ k_) ∧ k_ ≠ gb477)) (HO_478002.out) (fun k_ hk => ⟨hk.1, hk.2⟩))))) (Reps.none _ _)))
      intro v486 w28 ho29 hb hg_ hnew_
      clear hg_ hnew_
      (first | rw [← Ny485.out] at ho29 | (simp only [Int.reduceToNat] at ho29; rw [← Ny485.out] at ho29))
      have n0_ := Aside0.mk (Kd.V_elder' q84_ (Kd.N_base ho29) hb)
      have n1_ := Aside0.mk (Kd.V_elder' q70_ (Kd.N_base ho29) hb)
      have n2_ := Aside0.mk (Kd.V_elder' q71_ (Kd.N_base ho29) hb)
      have n3_ := Aside0.mk (Kd.V_elder' q72_ (Kd.N_base ho29) hb)
      have n4_ := Aside0.mk (Kd.N_lower ho29 (below_size q49_))
      have n5_ := Aside0.mk (blk_below (g := gb477) (o := .cells #[.int .i64 a0_0, .int .u32 a0_1, .slice A0_2 l0_2.length c0_2, .slice A0_3 l0_3.length c0_3, .slice A0_4 l0_4.length c0_4] 57 (0, 0)) q65_ hb)
      have n6_ := Aside0.mk (below_step q49_ hb)
      clear HO_4
      clear HO_478002
      clear HO_478003
      clear HO_478004
      clear BK477
      clear HB
      have HO_4 := n0_
      have HO_478002 := n1_
      have HO_478003 := n2_
      have HO_478004 := n3_
      have HO487 := n4_
      have BK477 := n5_
      have HB := n6_
      clear n0_ n1_ n2_ n3_ n4_ n5_ n6_
      clear hb ho29
      refine hK.out _ _ ⟨(blk_cell BK477.out 0).trans rfl, (blk_cell BK477.out 1).trans rfl, (blk_cell BK477.out 2).trans rfl, (blk_cell BK477.out 3).trans rfl, (blk_cell BK477.out 4).trans rfl⟩ (fun hHeld => ?_)
      clear hK K
      refine norm_ (a' := ?_) ?_ ?_
      rotate_left
      ·show Act.put _ (some 46) _ = _
       simp only [Act.put, List.setIfInBounds_toArray, List.set_cons_zero, List.set_cons_succ, i64_w, i32_w]
       rfl
      refine one_ (i := 5) (N := some 49) #[true, true, true, true, true, true, true, true, false, false] rfl rfl (one_of HT_.out (by kernel_rfl)) (by decide) (fun K hK => ?_)
      refine Kd.N_append_rows_step (Kd.slice 5 (Kd.int .u8)) (w0 := w) w.heap.size (by rfl) (.tmp 46) (.tmp 48) 52 25 (.slice none 0 0) 24 rfl Tryz.underlying52 info25 rfl (by decide) (by omega) v486 y485 l0_3 _ _ _ (fun k_ => ((P0_2_ k_ ∨ P0_3_ k_ ∨ P0_4_ k_) ∨ w.heap.size ≤ k_) ∧ k_ ≠ gb477) (fun k_ => ((fun k_ => ((P0_2_ k_ ∨ P0_3_ k_ ∨ P0_4_ k_) ∨ w.heap.size ≤ k_) ∧ k_ ≠ gb477)) k_ ∧ some k_ ≠ (v486 : Value).ownBlock) rfl rfl ?aO ?aR (fun _ hk => hk) ?aF ?aB ?aS ?aL ?_
      (case aR => exact (by skip; exact Kd.V_F (Kd.V_mono (ok' := (fun k_ => ((fun k_ => ((P0_2_ k_ ∨ P0_3_ k_ ∨ P0_4_ k_) ∨ w.heap.size ≤ k_) ∧ k_ ≠ gb477)) k_ ∧ some k_ ≠ (v486 : Value).ownBlock)) (HO_478003.out) (fun k_ hk => ⟨⟨hk.1.1, hk.1.2⟩, hk.2⟩))))
      (case aB => exact q49_)
      (case aF => exact (fun k_ hk => ⟨(.inr (Nat.le_trans (below_size q49_) hk)), Kd.freshB (g := gb477) (o := .cells #[.int .i64 a0_0, .int .u32 a0_1, .slice A0_2 l0_2.length c0_2, .slice A0_3 l0_3.length c0_3, .slice A0_4 l0_4.length c0_4] 57 (0, 0)) q65_ k_ hk⟩))
      (case aO => exact (by (with_reducible repeat (first | apply Kd.N_alloc | apply Kd.N_drewN | apply Kd.N_drew)); exact HO487.out))
      (case aS => exact (below_size q49_))
      (case aL => have := LMc25.out; omega)
      intro v489 w30 ho hb hg hat
      rw [← Ny488.out] at ho
      have n0_ := Aside0.mk (Kd.V_afterv (ok := (fun k_ => ((P0_2_ k_ ∨ P0_3_ k_ ∨ P0_4_ k_) ∨ w.heap.size ≤ k_) ∧ k_ ≠ gb477)) q84_ hg hat)
      have n1_ := Aside0.mk (Kd.V_afterv (ok := (fun k_ => ((P0_2_ k_ ∨ P0_3_ k_ ∨ P0_4_ k_) ∨ w.heap.size ≤ k_) ∧ k_ ≠ gb477)) q70_ hg hat)
      have n2_ := Aside0.mk (Kd.V_afterv (ok := (fun k_ => ((P0_2_ k_ ∨ P0_3_ k_ ∨ P0_4_ k_) ∨ w.heap.size ≤ k_) ∧ k_ ≠ gb477)) q71_ hg hat)
      have n3_ := Aside0.mk (Kd.V_afterv (ok := (fun k_ => ((P0_2_ k_ ∨ P0_3_ k_ ∨ P0_4_ k_) ∨ w.heap.size ≤ k_) ∧ k_ ≠ gb477)) q72_ hg hat)
      have n4_ := Aside0.mk (blk_grown (g := gb477) (o := .cells #[.int .i64 a0_0, .int .u32 a0_1, .slice A0_2 l0_2.length c0_2, .slice A0_3 l0_3.length c0_3, .slice A0_4 l0_4.length c0_4] 57 (0, 0)) q65_ hg (Kd.N_ne HO487.out BK477.out (by decide)))
      have n5_ := Aside0.mk (hb)
      have n6_ := Aside0.mk (ho)
      clear HO_4
      clear HO_478002
      clear HO_478003
      clear HO_478004
      clear BK477
      clear HB
      clear HO487
      have HO_4 := n0_
      have HO_478002 := n1_
      have HO_478003 := n2_
      have HO_478004 := n3_
      have BK477 := n4_
      have HB := n5_
      have HO490 := n6_
      clear n0_ n1_ n2_ n3_ n4_ n5_ n6_
      clear ho hb hg hat
      refine hK.out _ _ ⟨(blk_cell BK477.out 0).trans rfl, (blk_cell BK477.out 1).trans rfl, (blk_cell BK477.out 2).trans rfl, (blk_cell BK477.out 3).trans rfl, (blk_cell BK477.out 4).trans rfl⟩ (fun hHeld => ?_)
      clear hK K
      refine norm_ (a' := ?_) ?_ ?_
      rotate_left
      ·show Act.put _ (some 49) _ = _
       simp only [Act.put, List.setIfInBounds_toArray, List.set_cons_zero, List.set_cons_succ, i64_w, i32_w]
       rfl
      refine one_ (i := 8) (N := some 52) #[true, true, true, true, true, true, true, true, true, false] rfl rfl (one_of HT_.out (by kernel_rfl)) (by decide) (fun K hK => ?_)
      refine Kd.N_append_rows_step (Kd.slice 5 (Kd.int .u8)) (w0 := w) w.heap.size (by rfl) (.tmp 49) (.tmp 51) 52 25 (.slice none 0 0) 24 rfl Tryz.underlying52 info25 rfl (by decide) (by omega) v489 y488 l0_4 _ _ _ (fun k_ => ((P0_2_ k_ ∨ P0_3_ k_ ∨ P0_4_ k_) ∨ w.heap.size ≤ k_) ∧ k_ ≠ gb477) (fun k_ => ((fun k_ => ((P0_2_ k_ ∨ P0_3_ k_ ∨ P0_4_ k_) ∨ w.heap.size ≤ k_) ∧ k_ ≠ gb477)) k_ ∧ some k_ ≠ (v489 : Value).ownBlock) rfl rfl ?aO ?aR (fun _ hk => hk) ?aF ?aB ?aS ?aL ?_
      (case aR => exact (by skip; exact Kd.V_F (Kd.V_mono (ok' := (fun k_ => ((fun k_ => ((P0_2_ k_ ∨ P0_3_ k_ ∨ P0_4_ k_) ∨ w.heap.size ≤ k_) ∧ k_ ≠ gb477)) k_ ∧ some k_ ≠ (v489 : Value).ownBlock)) (HO_478004.out) (fun k_ hk => ⟨⟨hk.1.1, hk.1.2⟩, hk.2⟩))))
      (case aB => exact q49_)
      (case aF => exact (fun k_ hk => ⟨(.inr (Nat.le_trans (below_size q49_) hk)), Kd.freshB (g := gb477) (o := .cells #[.int .i64 a0_0, .int .u32 a0_1, .slice A0_2 l0_2.length c0_2, .slice A0_3 l0_3.length c0_3, .slice A0_4 l0_4.length c0_4] 57 (0, 0)) q65_ k_ hk⟩))
      (case aO => exact (by (with_reducible repeat (first | apply Kd.N_alloc | apply Kd.N_drewN | apply Kd.N_drew)); exact HO490.out))
      (case aS => exact (below_size q49_))
      (case aL => have := LMc26.out; omega)
      intro v492 w31 ho hb hg hat
      rw [← Ny491.out] at ho
      have n0_ := Aside0.mk (Kd.V_afterv (ok := (fun k_ => ((P0_2_ k_ ∨ P0_3_ k_ ∨ P0_4_ k_) ∨ w.heap.size ≤ k_) ∧ k_ ≠ gb477)) q84_ hg hat)
      have n1_ := Aside0.mk (Kd.V_afterv (ok := (fun k_ => ((P0_2_ k_ ∨ P0_3_ k_ ∨ P0_4_ k_) ∨ w.heap.size ≤ k_) ∧ k_ ≠ gb477)) q70_ hg hat)
      have n2_ := Aside0.mk (Kd.V_afterv (ok := (fun k_ => ((P0_2_ k_ ∨ P0_3_ k_ ∨ P0_4_ k_) ∨ w.heap.size ≤ k_) ∧ k_ ≠ gb477)) q71_ hg hat)
      have n3_ := Aside0.mk (Kd.V_afterv (ok := (fun k_ => ((P0_2_ k_ ∨ P0_3_ k_ ∨ P0_4_ k_) ∨ w.heap.size ≤ k_) ∧ k_ ≠ gb477)) q72_ hg hat)
      have n4_ := Aside0.mk (blk_grown (g := gb477) (o := .cells #[.int .i64 a0_0, .int .u32 a0_1, .slice A0_2 l0_2.length c0_2, .slice A0_3 l0_3.length c0_3, .slice A0_4 l0_4.length c0_4] 57 (0, 0)) q65_ hg (Kd.N_ne HO490.out BK477.out (by decide)))
      have n5_ := Aside0.mk (hb)
      have n6_ := Aside0.mk (ho)
      clear HO_4
      clear HO_478002
      clear HO_478003
      clear HO_478004
      clear BK477
      clear HB
      clear HO490
      have HO_4 := n0_
      have HO_478002 := n1_
      have HO_478003 := n2_
      have HO_478004 := n3_
      have BK477 := n4_
      have HB := n5_
      have HO493 := n6_
      clear n0_ n1_ n2_ n3_ n4_ n5_ n6_
      clear ho hb hg hat
      refine hK.out _ _ ⟨(blk_cell BK477.out 0).trans rfl, (blk_cell BK477.out 1).trans rfl, (blk_cell BK477.out 2).trans rfl, (blk_cell BK477.out 3).trans rfl, (blk_cell BK477.out 4).trans rfl⟩ (fun hHeld => ?_)
      clear hK K
      refine norm_ (a' := ?_) ?_ ?_
      rotate_left
      ·show Act.put _ (some 52) _ = _
       simp only [Act.put, List.setIfInBounds_toArray, List.set_cons_zero, List.set_cons_succ, i64_w, i32_w]
       rfl
      refine pu_ 9 (N := some 5) #[true, true, true, true, true, true, true, true, true, true] rfl rfl ?_
      refine done_ (done_of HT_.out (by kernel_rfl)) ?_
      try go_wp2
      go_loopg [6] kj2 (fun kq v6 w' => ∃ (x6_2 : Int), v6 = .int .i64 x6_2 ∧ Aside0 (pyxref22_Join.l0 kq t478 y491 x6_2 a0_0 a0_1 l0_2 l0_3 l0_4 = some (r1, r2)) ∧ Aside0 (kq ≤ kj2) ∧ Aside0 (Kd.V (Kd.int .i64) 3 w' w.heap.size (fun k_ => ((P0_2_ k_ ∨ P0_3_ k_ ∨ P0_4_ k_) ∨ w.heap.size ≤ k_) ∧ some k_ ≠ (v492 : Value).ownBlock ∧ k_ ≠ gb477) v479 t478) ∧ Aside0 (Kd.N (Kd.slice 5 (Kd.int .u8)) 25 w' w.heap.size (fun k_ => ((P0_2_ k_ ∨ P0_3_ k_ ∨ P0_4_ k_) ∨ w.heap.size ≤ k_) ∧ k_ ≠ gb477) v492 y491) ∧ Aside0 (Kd.V (Kd.int .u8) 5 w' w.heap.size (fun k_ => ((P0_2_ k_ ∨ P0_3_ k_ ∨ P0_4_ k_) ∨ w.heap.size ≤ k_) ∧ some k_ ≠ (v492 : Value).ownBlock ∧ k_ ≠ gb477) (.slice A0_2 l0_2.length c0_2) l0_2) ∧ Aside0 (Kd.V (Kd.slice 5 (Kd.int .u8)) 25 w' w.heap.size (fun k_ => ((P0_2_ k_ ∨ P0_3_ k_ ∨ P0_4_ k_) ∨ w.heap.size ≤ k_) ∧ some k_ ≠ (v492 : Value).ownBlock ∧ k_ ≠ gb477) (.slice A0_3 l0_3.length c0_3) l0_3) ∧ Aside0 (Kd.V (Kd.slice 5 (Kd.int .u8)) 25 w' w.heap.size (fun k_ => ((P0_2_ k_ ∨ P0_3_ k_ ∨ P0_4_ k_) ∨ w.heap.size ≤ k_) ∧ some k_ ≠ (v492 : Value).ownBlock ∧ k_ ≠ gb477) (.slice A0_4 l0_4.length c0_4) l0_4) ∧ Aside0 (w'.heap[gb477]? = some (.cells #[.int .i64 a0_0, .int .u32 a0_1, (.slice A0_2 l0_2.length c0_2), (.slice A0_3 l0_3.length c0_3), (.slice A0_4 l0_4.length c0_4)] 57 (0, 0))) ∧ Aside0 (Below w.heap.size w w'))
      case atStart => exact ⟨(0), q91_, H', ⟨Nat.le_refl _⟩, ⟨by (with_reducible repeat (first | apply Kd.V_alloc | apply Kd.V_drewN | apply Kd.V_drew)); exact Kd.V_mono HO_4.out (fun _ hk => ⟨hk.1.1, ⟨hk.2, hk.1.2⟩⟩)⟩, ⟨by (with_reducible repeat (first | apply Kd.N_alloc | apply Kd.N_drewN | apply Kd.N_drew)); exact HO493.out⟩, ⟨by (with_reducible repeat (first | apply Kd.V_alloc | apply Kd.V_drewN | apply Kd.V_drew)); exact Kd.V_mono HO_478002.out (fun _ hk => ⟨hk.1.1, ⟨hk.2, hk.1.2⟩⟩)⟩, ⟨by (with_reducible repeat (first | apply Kd.V_alloc | apply Kd.V_drewN | apply Kd.V_drew)); exact Kd.V_mono HO_478003.out (fun _ hk => ⟨hk.1.1, ⟨hk.2, hk.1.2⟩⟩)⟩, ⟨by (with_reducible repeat (first | apply Kd.V_alloc | apply Kd.V_drewN | apply Kd.V_drew)); exact Kd.V_mono HO_478004.out (fun _ hk => ⟨hk.1.1, ⟨hk.2, hk.1.2⟩⟩)⟩, ⟨by (with_reducible repeat (first | refine blk_drewN ?_ _ | refine blk_drew ?_ | refine blk_alloc ?_ _)); exact BK477.out⟩, ⟨by repeat (first | (with_reducible first | exact HB.out | apply below_alloc | apply pw_below_drewN | apply below_drew1 | refine below_set ?_ GE477.out) | exact HB.out)⟩⟩
      case round =>
       clear H'
       try clear c1
       try clear c2
       try clear p2
       try clear p4
       try clear q4
       try clear hx4
       try clear qi4
       try clear p6
       try clear c7
       try clear c11
       try clear c12
       try clear c12b0
       try clear c12b1
       try clear c13
       try clear c14
       try clear c14b0
       try clear c14b1
       try clear c16
       try clear c24
       try clear c25
       try clear c26
       try clear hx481_0
       try clear hx482_0
       try clear hx483_0
       try clear p2
       try clear p4
       try clear p481
       try clear p482
       try clear p483
       try clear p6
       try clear q4
       try clear q481
       try clear q482
       try clear q483
       obtain ⟨x6_2, rfl, HA, HK2, HO_4, HO_5, HO_478002, HO_478003, HO_478004, BK477, HB⟩ := hrel
       cases gk with
       | zero => exact absurd HA.out (by simp [pyxref22_Join.l0])
       | succ k2 =>
        have H := HA.out
        clear HA
        simp only [pyxref22_Join.l0] at H
        by_cases c32 : x6_2 < (y491.length : Int)
        ·rw [if_pos c32] at H
         have c32b0 : decide (x6_2 < (y491.length : Int)) = true := decide_eq_true c32
         clear c32
         by_cases c33 : 0 ≤ x6_2
         ·rw [if_pos c33] at H
          have c33b0 : decide (0 ≤ x6_2) = true := decide_eq_true c33
          clear c33
          by_cases c34 : 0 < (t478.length : Int)
          ·rw [if_pos c34] at H
           have c34b0 : decide (0 < (t478.length : Int)) = true := decide_eq_true c34
           have c34b1 : decide (0 < t478.length) = true := decide_eq_true (by omega)
           clear c34
           by_cases c35 : ((rd_L10 y491 x6_2).length : Int) = (rd t478 0)
           ·rw [if_pos c35] at H
            have c35b0 : (((rd_L10 y491 x6_2).length : Int) == (rd t478 0)) = true := beq_iff_eq.mpr c35
            have c35b1 : (((rd_L10 y491 x6_2).length : Int) != (rd t478 0)) = false := bne_eq_false_iff_eq.mpr c35
            clear c35
            have H' := Aside0.mk H
            clear H
            obtain ⟨Ao36, co36, eo36⟩ := Kd.N_slice HO_5.out
            subst eo36
            try go_wp2
            have n0_ := Aside0.mk (Kd.V_drew HO_4.out)
            have n1_ := Aside0.mk (Kd.N_drew HO_5.out)
            have n2_ := Aside0.mk (Kd.V_drew HO_478002.out)
            have n3_ := Aside0.mk (Kd.V_drew HO_478003.out)
            have n4_ := Aside0.mk (Kd.V_drew HO_478004.out)
            have n5_ := Aside0.mk (blk_drew BK477.out)
            have n6_ := Aside0.mk (below_drew1 HB.out)
            clear HO_4
            clear HO_5
            clear HO_478002
            clear HO_478003
            clear HO_478004
            clear BK477
            clear HB
            have HO_4 := n0_
            have HO_5 := n1_
            have HO_478002 := n2_
            have HO_478003 := n3_
            have HO_478004 := n4_
            have BK477 := n5_
            have HB := n6_
            clear n0_ n1_ n2_ n3_ n4_ n5_ n6_
            have p494 : 0 ≤ (x6_2 : Int) := of_decide_eq_true q90_
            have q494 : x6_2 < (y491.length : Int) := of_decide_eq_true q90_
            obtain ⟨ad494, A494_0, c494_0, e494, hx494_0, hl494_0, hi494_0⟩ := at_L10 (Kd.N_reads' HO_5.out).2.2 x6_2 p494 q494
            cases e494
            obtain ⟨ce494, hce494, hMe494, hcc494⟩ := Kd.N_get HO_5.out [] x6_2 p494 (by first | exact q494 | exact of_decide_eq_true q90_ | (have e_ := (Kd.N_reads' HO_5.out).1; omega))
            obtain ⟨ua494_0, uc494_0, rfl, ul494_0, ge494_0⟩ := Kd.FK_slice_open hMe494
            have hv494_0 := hcc494 0 _ rfl
            rw [Nat.add_zero, show ((Kd.slice 5 (Kd.int .u8))).sz = 1 from rfl, Nat.mul_one] at hv494_0
            replace hv494_0 := Option.some.inj (hv494_0.symm.trans hx494_0)
            injection hv494_0 with hva_ hvn_ hvc_
            rw [hva_] at ge494_0
            rw [hvc_] at ul494_0
            have HL494_0 := Aside0.mk (show Kd.V (Kd.int .u8) 5 _ w.heap.size _ _ (rd_L10 y491 x6_2) from Kd.V_mk ul494_0 ge494_0)
            clear hva_ hvn_ hvc_ ge494_0 ul494_0
            clear hcc494 hce494
            have HR494_0 := Aside0.mk hi494_0
            have HC494_0 := Aside0.mk hl494_0
            clear hi494_0 hl494_0
            replace p494 := eq_true p494
            replace q494 := eq_true q494
            obtain ⟨Ao38, co38, eo38⟩ := Kd.V_slice HO_4.out
            (first | subst eo38 | (injection eo38 with f1_ f2_ f3_; have f4_ := f1_.symm; have f5_ := f3_.symm; clear f1_ f2_ f3_; subst f4_; subst f5_))
            have p495 : 0 ≤ (0 : Int) := (by omega)
            have q495 : 0 < (t478.length : Int) := of_decide_eq_true q90_
            obtain ⟨ad495, e495, hx495_0⟩ := Kd.at_int (Kd.V_reads' HO_4.out).2.2 0 p495 q495
            cases e495
            have qi495 : (0 < t478.length) = True := eq_true (by omega)
            (try rw [show ((0 : Int)).toNat = 0 from rfl] at hx495_0)
            (try rw [Addr.add_zero'] at hx495_0)
            replace p495 := eq_true p495
            replace q495 := eq_true q495
            refine start_ (n := 9) (S := fun w' => w'.cell? (ad494.add (x6_2).toNat) = some (.slice A494_0 (rd_L10 y491 x6_2).length c494_0) ∧ w'.cell? ad495 = some (.int .i64 (rd t478 0))) (ds := []) #[false, false, false, false, false, false, false, false, false] (by kernel_rfl) rfl rfl ⟨hx494_0, hx495_0⟩ (fun hHeld => ?_); refine with_tabW pyxref22_Join.tab8 pyxref22_Join.bits8 (fun HT_ HW_ => ?_)
            generalize wr.drew = w37 at HO_4 HO_5 HO_478002 HO_478003 HO_478004 BK477 HB HL494_0 HR494_0 hx494_0 hx495_0 hHeld ⊢
            refine pu_ 0 (N := some 59) #[true, false, false, false, false, false, false, false, false] rfl rfl ?_
            refine pu_ 1 (N := some 60) #[true, true, false, false, false, false, false, false, false] rfl rfl ?_
            refine pu_ 2 (N := some 61) #[true, true, true, false, false, false, false, false, false] rfl rfl ?_
            refine pu_ 5 (N := some 64) #[true, true, true, false, false, true, false, false, false] rfl rfl ?_
            refine pu_ 6 (N := some 65) #[true, true, true, false, false, true, true, false, false] rfl rfl ?_
            refine tk2_ 3 (N := some 62) #[true, true, true, true, false, true, true, false, false] rfl rfl hHeld ?_
            refine pu_ 4 (N := some 63) #[true, true, true, true, true, true, true, false, false] rfl rfl ?_
            refine tk2_ 7 (N := some 66) #[true, true, true, true, true, true, true, true, false] rfl rfl hHeld ?_
            refine pu_ 8 (N := some 67) #[true, true, true, true, true, true, true, true, true] rfl rfl ?_
            refine done_ (done_of HT_.out (by kernel_rfl)) ?_
            try go_wp2
            go_roundg k2
            case measure => have := HJ2.out; have := HK2.out; omega
            case rel => exact ⟨(wrap64 (x6_2 + 1)), q91_, H', ⟨by have := HJ2.out; have := HK2.out; omega⟩, ⟨by (with_reducible repeat (first | apply Kd.V_alloc | apply Kd.V_drewN | apply Kd.V_drew)); exact HO_4.out⟩, ⟨by (with_reducible repeat (first | apply Kd.N_alloc | apply Kd.N_drewN | apply Kd.N_drew)); exact HO_5.out⟩, ⟨by (with_reducible repeat (first | apply Kd.V_alloc | apply Kd.V_drewN | apply Kd.V_drew)); exact HO_478002.out⟩, ⟨by (with_reducible repeat (first | apply Kd.V_alloc | apply Kd.V_drewN | apply Kd.V_drew)); exact HO_478003.out⟩, ⟨by (with_reducible repeat (first | apply Kd.V_alloc | apply Kd.V_drewN | apply Kd.V_drew)); exact HO_478004.out⟩, ⟨by (with_reducible repeat (first | refine blk_drewN ?_ _ | refine blk_drew ?_ | refine blk_alloc ?_ _)); exact BK477.out⟩, ⟨by repeat (first | (with_reducible first | exact HB.out | apply below_alloc | apply pw_below_drewN | apply below_drew1 | refine below_set ?_ GE477.out) | exact HB.out)⟩⟩
           ·rw [if_neg c35] at H
            have c35b0 : (((rd_L10 y491 x6_2).length : Int) == (rd t478 0)) = false := beq_eq_false_iff_ne.mpr c35
            have c35b1 : (((rd_L10 y491 x6_2).length : Int) != (rd t478 0)) = true := bne_iff_ne.mpr c35
            simp only [Option.some.injEq, Prod.mk.injEq] at H
            obtain ⟨rfl, rfl⟩ := H
            obtain ⟨Ao39, co39, eo39⟩ := Kd.N_slice HO_5.out
            subst eo39
            try go_wp2
            have n0_ := Aside0.mk (Kd.V_drew HO_4.out)
            have n1_ := Aside0.mk (Kd.N_drew HO_5.out)
            have n2_ := Aside0.mk (Kd.V_drew HO_478002.out)
            have n3_ := Aside0.mk (Kd.V_drew HO_478003.out)
            have n4_ := Aside0.mk (Kd.V_drew HO_478004.out)
            have n5_ := Aside0.mk (blk_drew BK477.out)
            have n6_ := Aside0.mk (below_drew1 HB.out)
            clear HO_4
            clear HO_5
            clear HO_478002
            clear HO_478003
            clear HO_478004
            clear BK477
            clear HB
            have HO_4 := n0_
            have HO_5 := n1_
            have HO_478002 := n2_
            have HO_478003 := n3_
            have HO_478004 := n4_
            have BK477 := n5_
            have HB := n6_
            clear n0_ n1_ n2_ n3_ n4_ n5_ n6_
            have p494 : 0 ≤ (x6_2 : Int) := of_decide_eq_true q90_
            have q494 : x6_2 < (y491.length : Int) := of_decide_eq_true q90_
            obtain ⟨ad494, A494_0, c494_0, e494, hx494_0, hl494_0, hi494_0⟩ := at_L10 (Kd.N_reads' HO_5.out).2.2 x6_2 p494 q494
            cases e494
            obtain ⟨ce494, hce494, hMe494, hcc494⟩ := Kd.N_get HO_5.out [] x6_2 p494 (by first | exact q494 | exact of_decide_eq_true q90_ | (have e_ := (Kd.N_reads' HO_5.out).1; omega))
            obtain ⟨ua494_0, uc494_0, rfl, ul494_0, ge494_0⟩ := Kd.FK_slice_open hMe494
            have hv494_0 := hcc494 0 _ rfl
            rw [Nat.add_zero, show ((Kd.slice 5 (Kd.int .u8))).sz = 1 from rfl, Nat.mul_one] at hv494_0
            replace hv494_0 := Option.some.inj (hv494_0.symm.trans hx494_0)
            injection hv494_0 with hva_ hvn_ hvc_
            rw [hva_] at ge494_0
            rw [hvc_] at ul494_0
            have HL494_0 := Aside0.mk (show Kd.V (Kd.int .u8) 5 _ w.heap.size _ _ (rd_L10 y491 x6_2) from Kd.V_mk ul494_0 ge494_0)
            clear hva_ hvn_ hvc_ ge494_0 ul494_0
            clear hcc494 hce494
            have HR494_0 := Aside0.mk hi494_0
            have HC494_0 := Aside0.mk hl494_0
            clear hi494_0 hl494_0
            replace p494 := eq_true p494
            replace q494 := eq_true q494
            obtain ⟨Ao41, co41, eo41⟩ := Kd.V_slice HO_4.out
            (first | subst eo41 | (injection eo41 with f1_ f2_ f3_; have f4_ := f1_.symm; have f5_ := f3_.symm; clear f1_ f2_ f3_; subst f4_; subst f5_))
            have p495 : 0 ≤ (0 : Int) := (by omega)
            have q495 : 0 < (t478.length : Int) := of_decide_eq_true q90_
            obtain ⟨ad495, e495, hx495_0⟩ := Kd.at_int (Kd.V_reads' HO_4.out).2.2 0 p495 q495
            cases e495
            have qi495 : (0 < t478.length) = True := eq_true (by omega)
            (try rw [show ((0 : Int)).toNat = 0 from rfl] at hx495_0)
            (try rw [Addr.add_zero'] at hx495_0)
            replace p495 := eq_true p495
            replace q495 := eq_true q495
            refine start_ (n := 9) (S := fun w' => w'.cell? (ad494.add (x6_2).toNat) = some (.slice A494_0 (rd_L10 y491 x6_2).length c494_0) ∧ w'.cell? ad495 = some (.int .i64 (rd t478 0))) (ds := []) #[false, false, false, false, false, false, false, false, false] (by kernel_rfl) rfl rfl ⟨hx494_0, hx495_0⟩ (fun hHeld => ?_); refine with_tabW pyxref22_Join.tab8 pyxref22_Join.bits8 (fun HT_ HW_ => ?_)
            generalize wr.drew = w40 at HO_4 HO_5 HO_478002 HO_478003 HO_478004 BK477 HB HL494_0 HR494_0 hx494_0 hx495_0 hHeld ⊢
            refine pu_ 0 (N := some 59) #[true, false, false, false, false, false, false, false, false] rfl rfl ?_
            refine pu_ 1 (N := some 60) #[true, true, false, false, false, false, false, false, false] rfl rfl ?_
            refine pu_ 2 (N := some 61) #[true, true, true, false, false, false, false, false, false] rfl rfl ?_
            refine pu_ 5 (N := some 64) #[true, true, true, false, false, true, false, false, false] rfl rfl ?_
            refine pu_ 6 (N := some 65) #[true, true, true, false, false, true, true, false, false] rfl rfl ?_
            refine tk2_ 3 (N := some 62) #[true, true, true, true, false, true, true, false, false] rfl rfl hHeld ?_
            refine pu_ 4 (N := some 63) #[true, true, true, true, true, true, true, false, false] rfl rfl ?_
            refine tk2_ 7 (N := some 66) #[true, true, true, true, true, true, true, true, false] rfl rfl hHeld ?_
            refine pu_ 8 (N := some 67) #[true, true, true, true, true, true, true, true, true] rfl rfl ?_
            refine done_ (done_of HT_.out (by kernel_rfl)) ?_
            try go_wp2
            go_ret2
            exact ⟨_, by first | rfl | (simp [errW_none, errW_some] <;> rfl) | (simp [*, errW_none, errW_some] <;> rfl), by first | exact Kd.R_nil _ _ _ _ _ | exact Kd.N_nil _ _ _ _ _ | exact Kd.V_nil _ _ _ _ _ | exact Kd.Q_nil _ _ _ _ _ | exact Kd.S_nil _ _ _ _ _, by repeat (first | (with_reducible first | exact HB.out | apply below_alloc | apply pw_below_drewN | apply below_drew1 | refine below_set ?_ GE477.out) | exact HB.out)⟩
          ·rw [if_neg c34] at H
           exact absurd H (by simp)
         ·rw [if_neg c33] at H
          exact absurd H (by simp)
        ·rw [if_neg c32] at H
         have c32b0 : decide (x6_2 < (y491.length : Int)) = false := decide_eq_false c32
         clear c32
         obtain ⟨y496, hy496⟩ : ∃ y_ : List Int, y_ = (([((wrap64 (a0_1)) / 16777216) % 256, ((wrap64 (a0_1)) / 65536) % 256, ((wrap64 (a0_1)) / 256) % 256, (wrap64 (a0_1)) % 256] : List Int)) := ⟨_, rfl⟩
         replace H : ((pyxref01_Join.f k2 y491).bind fun t499 => (if y496.length + t499.length < 140737488355328 then (some ((y496 ++ t499), true)) else (none))) = some (r1, r2) := by first | (rw [hy496]; with_reducible exact H) | (have H2_ := (Option.bind_some _ _).symm.trans H; rw [hy496]; with_reducible exact H2_) | (have H2_ := (Option.bind_some _ _).symm.trans H; with_reducible exact H2_) | with_reducible exact H | (rw [hy496]; exact H) | exact H
         have Ny496 := Aside0.mk hy496
         clear hy496
         replace H := Option.bind_eq_some_iff.mp H
         obtain ⟨t499, A420, H⟩ := H
         replace H : (if y496.length + t499.length < 140737488355328 then (some ((y496 ++ t499), true)) else (none)) = some (r1, r2) := H
         have A42 := Aside0.mk A420
         clear A420
         by_cases c43 : y496.length + t499.length < 140737488355328
         ·rw [if_pos c43] at H
          have LMc43 := Aside0.mk c43
          clear c43
          obtain ⟨y502, hy502⟩ : ∃ y_ : List Int, y_ = (y496 ++ t499) := ⟨_, rfl⟩
          replace H : (some (y502, true)) = some (r1, r2) := by first | (rw [hy502]; with_reducible exact H) | (have H2_ := (Option.bind_some _ _).symm.trans H; rw [hy502]; with_reducible exact H2_) | (have H2_ := (Option.bind_some _ _).symm.trans H; with_reducible exact H2_) | with_reducible exact H | (rw [hy502]; exact H) | exact H
          have Ny502 := Aside0.mk hy502
          clear hy502
          simp only [Option.some.injEq, Prod.mk.injEq] at H
          obtain ⟨rfl, rfl⟩ := H
          obtain ⟨Ao44, co44, eo44⟩ := Kd.N_slice HO_5.out
          subst eo44
          obtain ⟨hcz45_0, hcz45_1, hcz45_2, hcz45_3, hcz45_4⟩ := cells5_ BK477.out
          obtain ⟨hfz45_0, hfz45_1, hfz45_2, hfz45_3, hfz45_4⟩ := frz5_ BK477.out
          go_wp2_with (first | ((with_reducible refine gate_dst (N := 82) rfl ?_); (try (refine gate_guard (by rfl) ?_; dsimp only)); refine Kd.R_lit (Kd.int .u8) _ 5 ?hg (N := 82) ?hd (xs := ([((wrap64 (a0_1)) / 16777216) % 256, ((wrap64 (a0_1)) / 65536) % 256, ((wrap64 (a0_1)) / 256) % 256, (wrap64 (a0_1)) % 256] : List Int)) (inner := [.int .u8 (((wrap64 (a0_1)) / 16777216) % 256), .int .u8 (((wrap64 (a0_1)) / 65536) % 256), .int .u8 (((wrap64 (a0_1)) / 256) % 256), .int .u8 ((wrap64 (a0_1)) % 256)]) (ok := fun _ => True) (okp := fun _ => True) ?hr ?hp (fun _ hk => hk) trivial (Below.refl _ _) (Nat.le_refl _) (by simp) ?_; (case hd => rfl); (case hg => rfl); (case hr => first | (go_simp; done) | (go_simp; rfl)); (case hp => exact (Reps.one (show Kd.M (Kd.int .u8) _ _ _ (((wrap64 (a0_1)) / 16777216) % 256) [.int .u8 (((wrap64 (a0_1)) / 16777216) % 256)] from rfl) (Reps.one (show Kd.M (Kd.int .u8) _ _ _ (((wrap64 (a0_1)) / 65536) % 256) [.int .u8 (((wrap64 (a0_1)) / 65536) % 256)] from rfl) (Reps.one (show Kd.M (Kd.int .u8) _ _ _ (((wrap64 (a0_1)) / 256) % 256) [.int .u8 (((wrap64 (a0_1)) / 256) % 256)] from rfl) (Reps.one (show Kd.M (Kd.int .u8) _ _ _ ((wrap64 (a0_1)) % 256) [.int .u8 ((wrap64 (a0_1)) % 256)] from rfl) (Reps.none _ _)))))); intro v497 w46 ho47 hb hg_ hnew_; clear hg_ hnew_; (first | rw [← Ny496.out] at ho47 | (simp only [Int.reduceToNat] at ho47; rw [← Ny496.out] at ho47)); have n0_ := Aside0.mk (Kd.V_elder' q84_ (Kd.R_base ho47) hb); have n1_ := Aside0.mk (Kd.N_elder' (by (with_reducible repeat (first | apply Kd.N_alloc | apply Kd.N_drewN | apply Kd.N_drew)); exact HO_5.out) (Kd.R_base ho47) hb); have n2_ := Aside0.mk (Kd.V_elder' q70_ (Kd.R_base ho47) hb); have n3_ := Aside0.mk (Kd.V_elder' q71_ (Kd.R_base ho47) hb); have n4_ := Aside0.mk (Kd.V_elder' q72_ (Kd.R_base ho47) hb); have n5_ := Aside0.mk (Kd.R_lower (Kd.R_newM (M := fun k_ => (w.heap.size ≤ k_)) ho47 (below_size q49_) (fun k_ h_ => h_)) (below_size q49_)); have n6_ := Aside0.mk (blk_below (g := gb477) (o := .cells #[.int .i64 a0_0, .int .u32 a0_1, .slice A0_2 l0_2.length c0_2, .slice A0_3 l0_3.length c0_3, .slice A0_4 l0_4.length c0_4] 57 (0, 0)) q65_ hb); have n7_ := Aside0.mk (below_step q49_ hb); clear HO_4; clear HO_5; clear HO_478002; clear HO_478003; clear HO_478004; clear BK477; clear HB; have HO_4 := n0_; have HO_5 := n1_; have HO_478002 := n2_; have HO_478003 := n3_; have HO_478004 := n4_; have HO498 := n5_; have BK477 := n6_; have HB := n7_; clear n0_ n1_ n2_ n3_ n4_ n5_ n6_ n7_; clear hb ho47) | ((with_reducible refine gate_callee (f := 50) rfl ?_); refine goesL_ (some 84) rfl rfl Tryz.func50 (by kernel_rfl) rfl #[.slice Ao44 y491.length co44] rfl q54_ ?_; (with_reducible refine (pyxref01_Join.calls k2 _ _ y491 t499 _ ?side1 ?side2 A42.out).mono ?_); (case side1 => repeat (first | exact (Kd.N_reads' HO_5.out).2.2 | (with_reducible refine Kd.C_alloc ?_ _) | (with_reducible refine Kd.C_drewN ?_ _) | (with_reducible refine Kd.C_drew ?_))); (case side2 => exact (Kd.N_reads' HO_5.out).2.1); rintro e w48 ⟨v500, rfl, ho0, hb⟩; refine ⟨_, rfl, ?_⟩; have n0_ := Aside0.mk (Kd.V_elder' q84_ (Kd.R_base ho0) hb); have n1_ := Aside0.mk (Kd.N_elder' (by (with_reducible repeat (first | apply Kd.N_alloc | apply Kd.N_drewN | apply Kd.N_drew)); exact HO_5.out) (Kd.R_base ho0) hb); have n2_ := Aside0.mk (Kd.V_elder' q70_ (Kd.R_base ho0) hb); have n3_ := Aside0.mk (Kd.V_elder' q71_ (Kd.R_base ho0) hb); have n4_ := Aside0.mk (Kd.V_elder' q72_ (Kd.R_base ho0) hb); have n5_ := Aside0.mk (Kd.R_elder' (by (with_reducible repeat (first | apply Kd.R_alloc | apply Kd.R_drewN | apply Kd.R_drew)); exact HO498.out) (Kd.R_base ho0) hb); have n6_ := Aside0.mk (Kd.R_lower (Kd.R_new' (Kd.R_newM (M := fun k_ => (w.heap.size ≤ k_)) ho0 (below_size q49_) (fun k_ h_ => h_)) (Kd.R_lt (by (with_reducible repeat (first | apply Kd.R_alloc | apply Kd.R_drewN | apply Kd.R_drew)); exact HO498.out))) (below_size q49_)); have n7_ := Aside0.mk (blk_below (g := gb477) (o := .cells #[.int .i64 a0_0, .int .u32 a0_1, .slice A0_2 l0_2.length c0_2, .slice A0_3 l0_3.length c0_3, .slice A0_4 l0_4.length c0_4] 57 (0, 0)) q65_ hb); have n8_ := Aside0.mk (below_step q49_ hb); clear HO_4; clear HO_5; clear HO_478002; clear HO_478003; clear HO_478004; clear HO498; clear BK477; clear HB; have HO_4 := n0_; have HO_5 := n1_; have HO_478002 := n2_; have HO_478003 := n3_; have HO_478004 := n4_; have HO498 := n5_; have HO501 := n6_; have BK477 := n7_; have HB := n8_; clear n0_ n1_ n2_ n3_ n4_ n5_ n6_ n7_ n8_; (try clear hb); (try clear hb2); (try clear hk); (try clear hi); (try clear ho0); obtain ⟨Ao50, co50, eo50⟩ := Kd.R_slice HO501.out; subst eo50) | ((with_reducible refine gate_builtin (b := .append) (xs := #[.tmp 82, .tmp 84]) rfl ?_); (try (refine gate_guard (by rfl) ?_; dsimp only)); at_builtin; refine Kd.R_append_rows (Kd.int .u8) (w0 := w) w.heap.size rfl (.tmp 82) (.tmp 84) 25 5 (.int .u8 0) 1 rfl Tryz.underlying25 info5 rfl (by decide) (by omega) v497 y496 t499 _ _ _ (fun k_ => (w.heap.size ≤ k_) ∧ some k_ ≠ (.slice Ao50 t499.length co50 : Value).ownBlock) (fun _ => False) rfl rfl ?aO ?aR (fun _ _ h => h) (fun _ h => h.elim) ?aF ?aB ?aS ?aL ?_; (case aR => repeat (first | exact (Kd.R_reads' HO501.out).2.2 | (with_reducible refine Kd.C_alloc ?_ _) | (with_reducible refine Kd.C_drewN ?_ _) | (with_reducible refine Kd.C_drew ?_))); (case aB => exact q49_); (case aF => exact (fun k_ hk => ⟨(Nat.le_trans (below_size q49_) hk), Kd.fresh' (Kd.R_lt (by (with_reducible repeat (first | apply Kd.R_alloc | apply Kd.R_drewN | apply Kd.R_drew)); exact HO501.out)) k_ hk⟩)); (case aO => exact (by (with_reducible repeat (first | apply Kd.R_alloc | apply Kd.R_drewN | apply Kd.R_drew)); exact Kd.R_mono HO498.out (fun _ hk => ⟨hk.1.1, hk.2⟩))); (case aS => exact (below_size q49_)); (case aL => have := LMc43.out; omega); intro v503 w49 ho hb hg hat; rw [← Ny502.out] at ho; have n0_ := Aside0.mk (Kd.V_afterv (ok := (fun k_ => ((P0_2_ k_ ∨ P0_3_ k_ ∨ P0_4_ k_) ∨ w.heap.size ≤ k_) ∧ some k_ ≠ (.slice Ao44 y491.length co44 : Value).ownBlock ∧ some k_ ≠ (.slice Ao50 t499.length co50 : Value).ownBlock ∧ k_ ≠ gb477)) (by (with_reducible repeat (first | apply Kd.V_alloc | apply Kd.V_drewN | apply Kd.V_drew)); exact Kd.V_mono HO_4.out (fun _ hk => ⟨⟨hk.1.1.1, ⟨hk.1.1.2.1, ⟨hk.2, hk.1.1.2.2⟩⟩⟩, hk.1.2⟩)) hg hat); have n1_ := Aside0.mk (Kd.N_afterv (ok := (fun k_ => ((P0_2_ k_ ∨ P0_3_ k_ ∨ P0_4_ k_) ∨ w.heap.size ≤ k_) ∧ some k_ ≠ (.slice Ao50 t499.length co50 : Value).ownBlock ∧ k_ ≠ gb477)) (by (with_reducible repeat (first | apply Kd.N_alloc | apply Kd.N_drewN | apply Kd.N_drew)); exact Kd.N_mono HO_5.out (fun _ hk => ⟨⟨hk.1.1.1, ⟨hk.2, hk.1.1.2⟩⟩, hk.1.2⟩)) hg hat); have n2_ := Aside0.mk (Kd.V_afterv (ok := (fun k_ => ((P0_2_ k_ ∨ P0_3_ k_ ∨ P0_4_ k_) ∨ w.heap.size ≤ k_) ∧ some k_ ≠ (.slice Ao44 y491.length co44 : Value).ownBlock ∧ some k_ ≠ (.slice Ao50 t499.length co50 : Value).ownBlock ∧ k_ ≠ gb477)) (by (with_reducible repeat (first | apply Kd.V_alloc | apply Kd.V_drewN | apply Kd.V_drew)); exact Kd.V_mono HO_478002.out (fun _ hk => ⟨⟨hk.1.1.1, ⟨hk.1.1.2.1, ⟨hk.2, hk.1.1.2.2⟩⟩⟩, hk.1.2⟩)) hg hat); have n3_ := Aside0.mk (Kd.V_afterv (ok := (fun k_ => ((P0_2_ k_ ∨ P0_3_ k_ ∨ P0_4_ k_) ∨ w.heap.size ≤ k_) ∧ some k_ ≠ (.slice Ao44 y491.length co44 : Value).ownBlock ∧ some k_ ≠ (.slice Ao50 t499.length co50 : Value).ownBlock ∧ k_ ≠ gb477)) (by (with_reducible repeat (first | apply Kd.V_alloc | apply Kd.V_drewN | apply Kd.V_drew)); exact Kd.V_mono HO_478003.out (fun _ hk => ⟨⟨hk.1.1.1, ⟨hk.1.1.2.1, ⟨hk.2, hk.1.1.2.2⟩⟩⟩, hk.1.2⟩)) hg hat); have n4_ := Aside0.mk (Kd.V_afterv (ok := (fun k_ => ((P0_2_ k_ ∨ P0_3_ k_ ∨ P0_4_ k_) ∨ w.heap.size ≤ k_) ∧ some k_ ≠ (.slice Ao44 y491.length co44 : Value).ownBlock ∧ some k_ ≠ (.slice Ao50 t499.length co50 : Value).ownBlock ∧ k_ ≠ gb477)) (by (with_reducible repeat (first | apply Kd.V_alloc | apply Kd.V_drewN | apply Kd.V_drew)); exact Kd.V_mono HO_478004.out (fun _ hk => ⟨⟨hk.1.1.1, ⟨hk.1.1.2.1, ⟨hk.2, hk.1.1.2.2⟩⟩⟩, hk.1.2⟩)) hg hat); have n5_ := Aside0.mk (blk_grown (g := gb477) (o := .cells #[.int .i64 a0_0, .int .u32 a0_1, .slice A0_2 l0_2.length c0_2, .slice A0_3 l0_3.length c0_3, .slice A0_4 l0_4.length c0_4] 57 (0, 0)) q65_ hg (Kd.R_ne HO498.out BK477.out (by decide))); have n6_ := Aside0.mk (Kd.R_after (ok := (fun k_ => (w.heap.size ≤ k_))) (by (with_reducible repeat (first | apply Kd.R_alloc | apply Kd.R_drewN | apply Kd.R_drew)); exact Kd.R_mono HO501.out (fun _ hk => ⟨hk.1.1, hk.2⟩)) hg hat); have n7_ := Aside0.mk (hb); have n8_ := Aside0.mk (ho); clear HO_4; clear HO_5; clear HO_478002; clear HO_478003; clear HO_478004; clear BK477; clear HO501; clear HB; clear HO498; have HO_4 := n0_; have HO_5 := n1_; have HO_478002 := n2_; have HO_478003 := n3_; have HO_478004 := n4_; have BK477 := n5_; have HO501 := n6_; have HB := n7_; have HO504 := n8_; clear n0_ n1_ n2_ n3_ n4_ n5_ n6_ n7_ n8_; clear ho hb hg hat))
          go_ret2
          exact ⟨_, by first | rfl | (simp [errW_none, errW_some] <;> rfl) | (simp [*, errW_none, errW_some] <;> rfl), by (with_reducible repeat (first | apply Kd.R_alloc | apply Kd.R_drewN | apply Kd.R_drew)); exact Kd.R_mono HO504.out (fun _ hk => hk.1), by repeat (first | (with_reducible first | exact HB.out | apply below_alloc | apply pw_below_drewN | apply below_drew1 | refine below_set ?_ GE477.out) | exact HB.out)⟩
         ·rw [if_neg c43] at H
          exact absurd H (by simp)
     ·rw [if_neg c26] at H
      exact absurd H (by simp)
    ·rw [if_neg c25] at H
     exact absurd H (by simp)
end Go.Proofs.YtgmnknhfeoleaaaGreatDoor.PXmss
