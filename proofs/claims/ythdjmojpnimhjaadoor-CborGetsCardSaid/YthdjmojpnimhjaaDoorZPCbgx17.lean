import Derived.Test.YthdjmojpnimhjaaDoorZQ
import Derived.Test.YthdjmojpnimhjaaDoorZPCbgx0
import Derived.Test.YthdjmojpnimhjaaDoorZPCbgx10
import Derived.Test.YthdjmojpnimhjaaDoorZPCbgx12
import Derived.Test.YthdjmojpnimhjaaDoorZPCbgx13
import Derived.Test.YthdjmojpnimhjaaDoorZPCbgx14
import Derived.Test.YthdjmojpnimhjaaDoorZPCbgx15
import Derived.Test.YthdjmojpnimhjaaDoorZPCbgx16
namespace Go.Proofs.YthdjmojpnimhjaaDoor.PCbg
open Go.RowKit Go.Proofs.YthdjmojpnimhjaaDoorW.PrintWords Go.Proofs.YthdjmojpnimhjaaDoorW.PrintLast Go.Proofs.YthdjmojpnimhjaaDoorW.PrintMore
attribute [local go_sem] max2_int min2_int max_two min_two max_three min_three max_four min_four
set_option linter.unusedVariables false
set_option linter.unusedSimpArgs false
mutual
def pyxlaw10_CborGets.j0 : Nat → Int → Bool → Int → Int → List Int → List (S34) → Option (Bool)
 | 0, _, _, _, _, _, _ => none
 | k + 1, x1, x19, x251000, x251001, x251002, x251003 => if x19 = true then ((pyxlaw10_awake.f k).bind fun t253 => (some t253)) else (pyxlaw10_CborGets.l0 k x1 false 0 x251000 x251001 x251002 x251003 0 0 ([] : List Int) ([] : List (S34)))
def pyxlaw10_CborGets.l0 : Nat → Int → Bool → Int → Int → Int → List Int → List (S34) → Int → Int → List Int → List (S34) → Option (Bool)
 | 0, _, _, _, _, _, _, _, _, _, _, _ => none
 | k + 1, x1, x6, x7, x251000, x251001, x251002, x251003, x255000, x255001, x255002, x255003 => if x251000 = 5 then (if (wrap64 (x7 + 1)) < (x251003.length : Int) then (pyxlaw10_CborGets.j2 k x1 x6 x7 (!x6) x251000 x251001 x251002 x251003 x255000 x255001 x255002 x255003) else (pyxlaw10_CborGets.j2 k x1 x6 x7 false x251000 x251001 x251002 x251003 x255000 x255001 x255002 x255003)) else (pyxlaw10_CborGets.j2 k x1 x6 x7 false x251000 x251001 x251002 x251003 x255000 x255001 x255002 x255003)
def pyxlaw10_CborGets.j2 : Nat → Int → Bool → Int → Bool → Int → Int → List Int → List (S34) → Int → Int → List Int → List (S34) → Option (Bool)
 | 0, _, _, _, _, _, _, _, _, _, _, _, _ => none
 | k + 1, x1, x6, x7, x36, x251000, x251001, x251002, x251003, x255000, x255001, x255002, x255003 => if x36 = true then (if 0 ≤ x7 then (if x7 < (x251003.length : Int) then ((pyxref10_Int.f x1).bind fun bt256 => ((pyxref10_Same.f k ((rd_T34 x251003 x7).f0) ((rd_T34 x251003 x7).f1) ((rd_T34 x251003 x7).f2) ((rd_T34 x251003 x7).f3) bt256.1 bt256.2.1 bt256.2.2.1 bt256.2.2.2).bind fun t264 => (if t264 = true then (if 0 ≤ (wrap64 (x7 + 1)) then (if (wrap64 (x7 + 1)) < (x251003.length : Int) then (pyxlaw10_CborGets.l0 k x1 true (wrap64 (x7 + 2)) x251000 x251001 x251002 x251003 ((rd_T34 x251003 (wrap64 (x7 + 1))).f0) ((rd_T34 x251003 (wrap64 (x7 + 1))).f1) ((rd_T34 x251003 (wrap64 (x7 + 1))).f2) ((rd_T34 x251003 (wrap64 (x7 + 1))).f3)) else (none)) else (none)) else (pyxlaw10_CborGets.l0 k x1 x6 (wrap64 (x7 + 2)) x251000 x251001 x251002 x251003 x255000 x255001 x255002 x255003)))) else (none)) else (none)) else ((pyxlaw10_given.f k x251000 x251001 x251002 x251003).bind fun bt266 => ((cbor_Get.f k bt266.1 bt266.2.1 bt266.2.2.1 bt266.2.2.2 x1).bind fun bt274 => ((pyxlaw10_given.f k x251000 x251001 x251002 x251003).bind fun bt284 => ((cbor_Value.f k bt284.1 bt284.2.1 bt284.2.2.1 bt284.2.2.2).bind fun bt292 => (if x251000 = 0 then (pyxlaw10_CborGets.j3 k x6 bt274.2.2.2.2 bt292.1 bt292.2 (decide (x251001 < 9223372036854775808)) x251000 x251001 x251002 x251003 x255000 x255001 x255002 x255003 bt274.1 bt274.2.1 bt274.2.2.1 bt274.2.2.2.1) else (if x251000 = 1 then (pyxlaw10_CborGets.j3 k x6 bt274.2.2.2.2 bt292.1 bt292.2 (decide (x251001 < 9223372036854775808)) x251000 x251001 x251002 x251003 x255000 x255001 x255002 x255003 bt274.1 bt274.2.1 bt274.2.2.1 bt274.2.2.2.1) else (pyxlaw10_CborGets.j3 k x6 bt274.2.2.2.2 bt292.1 bt292.2 false x251000 x251001 x251002 x251003 x255000 x255001 x255002 x255003 bt274.1 bt274.2.1 bt274.2.2.1 bt274.2.2.2.1)))))))
def pyxlaw10_CborGets.j3 : Nat → Bool → Bool → Int → Bool → Bool → Int → Int → List Int → List (S34) → Int → Int → List Int → List (S34) → Int → Int → List Int → List (S27) → Option (Bool)
 | 0, _, _, _, _, _, _, _, _, _, _, _, _, _, _, _, _, _ => none
 | k + 1, x6, x9, x10, x11, x12, x251000, x251001, x251002, x251003, x255000, x255001, x255002, x255003, x284000, x284001, x284002, x284003 => if (x9 != x6) = true then (some false) else ((pyxlaw10_back.f k x284000 x284001 x284002 x284003).bind fun bt294 => ((pyxref10_Same.f k bt294.1 bt294.2.1 bt294.2.2.1 bt294.2.2.2 x255000 x255001 x255002 x255003).bind fun t302 => (if t302 = true then (if (x11 != x12) = true then (some false) else (if x11 = true then (if x251000 = 0 then (if x10 = (wrap64 (x251001)) then (some true) else (if x251000 = 1 then (some (x10 == (wrap64 ((-1) - (wrap64 (x251001)))))) else (some false))) else (if x251000 = 1 then (some (x10 == (wrap64 ((-1) - (wrap64 (x251001)))))) else (some false))) else (if x10 = 0 then (some true) else (some false)))) else (some false))))
end
def pyxlaw10_CborGets.f (k : Nat) (a0_0 : Int) (a0_1 : Int) (l0_2 : List Int) (l0_3 : List (S34)) (a1 : Int) : Option (Bool) := (pyxlaw10_awake.f k).bind fun t251 => (if t251 = true then ((pyxref10_Few.f k a0_0 a0_1 l0_2 l0_3).bind fun t252 => (pyxlaw10_CborGets.j0 k a1 (!t252) a0_0 a0_1 l0_2 l0_3)) else (pyxlaw10_CborGets.j0 k a1 true a0_0 a0_1 l0_2 l0_3))
def pyxlaw10_CborGets.T8 : Bool × List (List Nat × List Nat) := (true, [([], []), ([0], [0]), ([], []), ([1, 2], [1, 2]), ([3], [3]), ([], []), ([5], [5]), ([4, 6, 6], [4, 6])])
def pyxlaw10_CborGets.B8 : List Nat := [0, 1, 0, 7, 15, 0, 32, 127]
theorem pyxlaw10_CborGets.tab8 : rtab .any (opsOf Tryd.f6 8) = pyxlaw10_CborGets.T8 := by kernel_rfl
theorem pyxlaw10_CborGets.bits8 : waitsOk pyxlaw10_CborGets.T8.2 pyxlaw10_CborGets.B8 = true := by kernel_rfl
def pyxlaw10_CborGets.T14 : Bool × List (List Nat × List Nat) := (true, [([], []), ([], []), ([0, 1], [0, 1]), ([2], [2]), ([3], [3]), ([4, 3, 3], [3, 4]), ([3], [3]), ([5, 6, 5, 3], [3, 5, 6]), ([7, 3], [3, 7]), ([3, 8], [3, 8]), ([9, 7], [9]), ([10], [10]), ([10], [10]), ([11, 12, 10], [10, 11, 12]), ([10, 13], [10, 13])])
def pyxlaw10_CborGets.B14 : List Nat := [0, 0, 3, 7, 15, 31, 15, 127, 255, 511, 1023, 2047, 2047, 8191, 16383]
theorem pyxlaw10_CborGets.tab14 : rtab .any (opsOf Tryd.f6 14) = pyxlaw10_CborGets.T14 := by kernel_rfl
theorem pyxlaw10_CborGets.bits14 : waitsOk pyxlaw10_CborGets.T14.2 pyxlaw10_CborGets.B14 = true := by kernel_rfl
set_option maxHeartbeats 8000000 in
set_option maxRecDepth 100000 in
theorem pyxlaw10_CborGets.calls (k : Nat) (a0_0 : Int) (a0_1 : Int) (P0_2_ : Nat → Prop) (A0_2 : Option Addr) (c0_2 : Nat) (l0_2 : List Int) (P0_3_ : Nat → Prop) (A0_3 : Option Addr) (c0_3 : Nat) (l0_3 : List (S34)) (a1 : Int) (r : Bool) (w : World) (hs0_2 : Kd.V (Kd.int .u8) 5 w w.heap.size (fun k_ => P0_2_ k_) (.slice A0_2 l0_2.length c0_2) l0_2) (hs0_3 : Kd.V k34 34 w w.heap.size (fun k_ => P0_3_ k_) (.slice A0_3 l0_3.length c0_3) l0_3) (h : pyxlaw10_CborGets.f k a0_0 a0_1 l0_2 l0_3 a1 = some r) (hG : GOK w) (hr_ : r = true) :
  Calls Tryd.prog 6 #[.agg #[.int .i64 a0_0, .int .u64 a0_1, .slice A0_2 l0_2.length c0_2, .slice A0_3 l0_3.length c0_3], .int .i64 a1] w fun e w' => e = .returned (.bool r) ∧ Below w.heap.size w w' := by
 have HG := Aside0.mk hG
 clear hG
 have HT := Aside0.mk hr_
 clear hr_
 have hu34 := Tryd.underlying34
 have hu27 := Tryd.underlying27
 have HO0_2 := Aside0.mk (show Kd.V (Kd.int .u8) 5 w w.heap.size (fun k_ => ((P0_2_ k_ ∨ P0_3_ k_) ∨ w.heap.size ≤ k_)) (.slice A0_2 l0_2.length c0_2) l0_2 from Kd.V_mono hs0_2 (fun k_ hk => .inl (.inl hk)))
 have HO0_3 := Aside0.mk (show Kd.V k34 34 w w.heap.size (fun k_ => ((P0_2_ k_ ∨ P0_3_ k_) ∨ w.heap.size ≤ k_)) (.slice A0_3 l0_3.length c0_3) l0_3 from Kd.V_mono hs0_3 (fun k_ hk => .inl (.inr hk)))
 have HB := Aside0.mk (Below.refl w.heap.size w)
 have H : ((pyxlaw10_awake.f k).bind fun t251 => (if t251 = true then ((pyxref10_Few.f k a0_0 a0_1 l0_2 l0_3).bind fun t252 => (pyxlaw10_CborGets.j0 k a1 (!t252) a0_0 a0_1 l0_2 l0_3)) else (pyxlaw10_CborGets.j0 k a1 true a0_0 a0_1 l0_2 l0_3))) = some r := h
 clear h
 have HC3 := Aside0.mk H
 clear H
 go_enter Tryd.func6, Tryd.ntmps6
 go_upto_region 1 with (first | ((with_reducible refine gate_dst (N := 2) rfl ?_); (try (refine gate_guard (by rfl) ?_; dsimp only)); refine box_event ?hg (N := 2) ?hd (cs := #[.int .i64 a0_0, .int .u64 a0_1, .slice A0_2 l0_2.length c0_2, .slice A0_3 l0_3.length c0_3]) (t := 34) ?hr ?_; (case hd => rfl); (case hg => rfl); (case hr => first | (go_simp; done) | (go_simp; rfl)); intro gb250 hg w4 hbox hb; have n0_ := Aside0.mk (Kd.V_below (Kd.V_elderB q87_ gb250 (Nat.le_of_eq hg.symm)) hb); have n1_ := Aside0.mk (Kd.V_below (Kd.V_elderB q69_ gb250 (Nat.le_of_eq hg.symm)) hb); have n2_ := Aside0.mk (below_step q44_ hb); have n3_ := Aside0.mk (hbox); have n4_ := Aside0.mk ((by rw [hg]; exact (below_size q44_) : w.heap.size ≤ gb250)); have n5_ := Aside0.mk ((by rw [hg]; exact (below_size q44_) : w.heap.size ≤ gb250)); clear HO0_2; clear HO0_3; clear HB; have HO0_2 := n0_; have HO0_3 := n1_; have HB := n2_; have BK250 := n3_; have GW250 := n4_; have GE250 := n5_; clear n0_ n1_ n2_ n3_ n4_ n5_; clear hb hbox hg))
 (try simp only [Act.put, List.setIfInBounds_toArray, List.set_cons_zero, List.set_cons_succ])
 go_cut [19] (fun v19 wc => ∃ (kq : Nat) (x19_2 : Bool), v19 = .bool x19_2 ∧ Aside0 (pyxlaw10_CborGets.j0 kq a1 x19_2 a0_0 a0_1 l0_2 l0_3 = some r) ∧ Aside0 (kq ≤ k) ∧ Aside0 (Kd.V (Kd.int .u8) 5 wc w.heap.size (fun k_ => ((P0_2_ k_ ∨ P0_3_ k_) ∨ w.heap.size ≤ k_) ∧ k_ ≠ gb250) (.slice A0_2 l0_2.length c0_2) l0_2) ∧ Aside0 (Kd.V k34 34 wc w.heap.size (fun k_ => ((P0_2_ k_ ∨ P0_3_ k_) ∨ w.heap.size ≤ k_) ∧ k_ ≠ gb250) (.slice A0_3 l0_3.length c0_3) l0_3) ∧ Aside0 (wc.heap[gb250]? = some (.cells #[.int .i64 a0_0, .int .u64 a0_1, (.slice A0_2 l0_2.length c0_2), (.slice A0_3 l0_3.length c0_3)] 34 (0, 0))) ∧ Aside0 (Below w.heap.size w wc))
 case first =>
  have H := HC3.out
  clear HC3
  replace H := Option.bind_eq_some_iff.mp H
  obtain ⟨t251, A50, H⟩ := H
  replace H : (if t251 = true then ((pyxref10_Few.f k a0_0 a0_1 l0_2 l0_3).bind fun t252 => (pyxlaw10_CborGets.j0 k a1 (!t252) a0_0 a0_1 l0_2 l0_3)) else (pyxlaw10_CborGets.j0 k a1 true a0_0 a0_1 l0_2 l0_3)) = some r := H
  have A5 := Aside0.mk A50
  clear A50
  by_cases c6 : t251 = true
  ·subst c6
   have H1 : ((pyxref10_Few.f k a0_0 a0_1 l0_2 l0_3).bind fun t252 => (pyxlaw10_CborGets.j0 k a1 (!t252) a0_0 a0_1 l0_2 l0_3)) = some r := by rw [if_pos rfl] at H; exact H
   clear H
   have H := H1
   clear H1
   replace H := Option.bind_eq_some_iff.mp H
   obtain ⟨t252, A70, H⟩ := H
   replace H : (pyxlaw10_CborGets.j0 k a1 (!t252) a0_0 a0_1 l0_2 l0_3) = some r := H
   have A7 := Aside0.mk A70
   clear A70
   have H' := Aside0.mk H
   clear H
   go_wp2_with (first | ((with_reducible refine gate_callee (f := 13) rfl ?_); refine goesL_ (some 13) rfl rfl Tryd.func13 (by kernel_rfl) rfl #[] rfl q43_ ?_; (with_reducible refine (pyxlaw10_awake.calls k  true _ A5.out q18_).mono ?_); rintro e w8 ⟨rfl, hb⟩; refine ⟨_, rfl, ?_⟩; have n0_ := Aside0.mk (Kd.V_below q87_ hb); have n1_ := Aside0.mk (Kd.V_below q69_ hb); have n2_ := Aside0.mk (blk_below (g := gb250) (o := .cells #[.int .i64 a0_0, .int .u64 a0_1, .slice A0_2 l0_2.length c0_2, .slice A0_3 l0_3.length c0_3] 34 (0, 0)) q54_ hb); have n3_ := Aside0.mk (below_step q40_ hb); clear HO0_2; clear HO0_3; clear BK250; clear HB; have HO0_2 := n0_; have HO0_3 := n1_; have BK250 := n2_; have HB := n3_; clear n0_ n1_ n2_ n3_; (try clear hb); (try clear hb2); (try clear hk); (try clear hi); have hcz9_0 : w8.cell? ⟨gb250, 0, none⟩ = some (.int .i64 a0_0) := (blk_cell BK250.out 0).trans rfl; have hcz9_1 : w8.cell? ⟨gb250, 1, none⟩ = some (.int .u64 a0_1) := (blk_cell BK250.out 1).trans rfl; have hcz9_2 : w8.cell? ⟨gb250, 2, none⟩ = some (.slice A0_2 l0_2.length c0_2) := (blk_cell BK250.out 2).trans rfl; have hcz9_3 : w8.cell? ⟨gb250, 3, none⟩ = some (.slice A0_3 l0_3.length c0_3) := (blk_cell BK250.out 3).trans rfl; have hfz9_0 := blk_frozen BK250.out 0; have hfz9_1 := blk_frozen BK250.out 1; have hfz9_2 := blk_frozen BK250.out 2; have hfz9_3 := blk_frozen BK250.out 3) | (go_at_call 21; (with_reducible refine (pyxref10_Few.calls k a0_0 a0_1 _ _ l0_2 _ _ l0_3 t252 _ ?side1 ?side2 ?side3 ?side4 A7.out).mono ?_); (case side1 => repeat (first | exact (Kd.V_reads' HO0_2.out).2.2 | (with_reducible refine Kd.C_alloc ?_ _) | (with_reducible refine Kd.C_drewN ?_ _) | (with_reducible refine Kd.C_drew ?_))); (case side2 => exact (Kd.V_reads' HO0_2.out).2.1); (case side3 => repeat (first | exact (Kd.V_reads' HO0_3.out).2.2 | (with_reducible refine Kd.C_alloc ?_ _) | (with_reducible refine Kd.C_drewN ?_ _) | (with_reducible refine Kd.C_drew ?_))); (case side4 => exact (Kd.V_reads' HO0_3.out).2.1); rintro e w10 ⟨rfl, hb⟩; have n0_ := Aside0.mk (Kd.V_below q87_ hb); have n1_ := Aside0.mk (Kd.V_below q69_ hb); have n2_ := Aside0.mk (blk_below (g := gb250) (o := .cells #[.int .i64 a0_0, .int .u64 a0_1, .slice A0_2 l0_2.length c0_2, .slice A0_3 l0_3.length c0_3] 34 (0, 0)) q54_ hb); have n3_ := Aside0.mk (below_step q40_ hb); clear HO0_2; clear HO0_3; clear BK250; clear HB; have HO0_2 := n0_; have HO0_3 := n1_; have BK250 := n2_; have HB := n3_; clear n0_ n1_ n2_ n3_; (try clear hb); (try clear hb2); (try clear hk); (try clear hi)))
   go_meet
   case rel => exact ⟨_, (!t252), q97_, H', ⟨by first | omega | exact Nat.le_refl _⟩, ⟨by (with_reducible repeat (first | apply Kd.V_alloc | apply Kd.V_drewN | apply Kd.V_drew)); exact HO0_2.out⟩, ⟨by (with_reducible repeat (first | apply Kd.V_alloc | apply Kd.V_drewN | apply Kd.V_drew)); exact HO0_3.out⟩, ⟨by (with_reducible repeat (first | refine blk_drewN ?_ _ | refine blk_drew ?_ | refine blk_alloc ?_ _)); exact BK250.out⟩, ⟨by repeat (first | (with_reducible first | exact HB.out | apply below_alloc | apply pw_below_drewN | apply below_drew1 | refine below_set ?_ GE250.out) | exact HB.out)⟩⟩
  ·replace c6 := Bool.eq_false_iff.mpr c6
   subst c6
   have H1 : (pyxlaw10_CborGets.j0 k a1 true a0_0 a0_1 l0_2 l0_3) = some r := by rw [if_neg (show ¬ (false = true) by decide)] at H; exact H
   clear H
   have H := H1
   clear H1
   have H' := Aside0.mk H
   clear H
   go_wp2_with (first | ((with_reducible refine gate_callee (f := 13) rfl ?_); refine goesL_ (some 13) rfl rfl Tryd.func13 (by kernel_rfl) rfl #[] rfl q43_ ?_; (with_reducible refine (pyxlaw10_awake.calls k  false _ A5.out q18_).mono ?_); rintro e w11 ⟨rfl, hb⟩; refine ⟨_, rfl, ?_⟩; have n0_ := Aside0.mk (Kd.V_below q87_ hb); have n1_ := Aside0.mk (Kd.V_below q69_ hb); have n2_ := Aside0.mk (blk_below (g := gb250) (o := .cells #[.int .i64 a0_0, .int .u64 a0_1, .slice A0_2 l0_2.length c0_2, .slice A0_3 l0_3.length c0_3] 34 (0, 0)) q54_ hb); have n3_ := Aside0.mk (below_step q40_ hb); clear HO0_2; clear HO0_3; clear BK250; clear HB; have HO0_2 := n0_; have HO0_3 := n1_; have BK250 := n2_; have HB := n3_; clear n0_ n1_ n2_ n3_; (try clear hb); (try clear hb2); (try clear hk); (try clear hi)))
   go_meet
   case rel => exact ⟨_, (true), q97_, H', ⟨by first | omega | exact Nat.le_refl _⟩, ⟨by (with_reducible repeat (first | apply Kd.V_alloc | apply Kd.V_drewN | apply Kd.V_drew)); exact HO0_2.out⟩, ⟨by (with_reducible repeat (first | apply Kd.V_alloc | apply Kd.V_drewN | apply Kd.V_drew)); exact HO0_3.out⟩, ⟨by (with_reducible repeat (first | refine blk_drewN ?_ _ | refine blk_drew ?_ | refine blk_alloc ?_ _)); exact BK250.out⟩, ⟨by repeat (first | (with_reducible first | exact HB.out | apply below_alloc | apply pw_below_drewN | apply below_drew1 | refine below_set ?_ GE250.out) | exact HB.out)⟩⟩
 case rest =>
  clear HC3
  try clear c1
  try clear p2
  try clear c6
  try clear hcz9_0
  try clear hcz9_1
  try clear hcz9_2
  try clear hcz9_3
  try clear hfz9_0
  try clear hfz9_1
  try clear hfz9_2
  try clear hfz9_3
  obtain ⟨kq, x19_2, rfl, HA, HJ2, HO_251002, HO_251003, BK250, HB⟩ := hcut
  cases kq with
  | zero => exact absurd HA.out (by simp [pyxlaw10_CborGets.j0])
  | succ kj2 =>
   have H := HA.out
   clear HA
   simp only [pyxlaw10_CborGets.j0] at H
   by_cases c12 : x19_2 = true
   ·subst c12
    have H1 : ((pyxlaw10_awake.f kj2).bind fun t253 => (some t253)) = some r := by rw [if_pos rfl] at H; exact H
    clear H
    have H := H1
    clear H1
    replace H := Option.bind_eq_some_iff.mp H
    obtain ⟨t253, A130, H⟩ := H
    replace H : (some t253) = some r := H
    have A13 := Aside0.mk A130
    clear A130
    obtain rfl := Option.some.inj H
    go_wp2_with (first | ((with_reducible refine gate_callee (f := 13) rfl ?_); refine goesL_ (some 20) rfl rfl Tryd.func13 (by kernel_rfl) rfl #[] rfl q43_ ?_; (with_reducible refine (pyxlaw10_awake.calls kj2  t253 _ A13.out q18_).mono ?_); rintro e w14 ⟨rfl, hb⟩; refine ⟨_, rfl, ?_⟩; have n0_ := Aside0.mk (Kd.V_below q61_ hb); have n1_ := Aside0.mk (Kd.V_below q62_ hb); have n2_ := Aside0.mk (blk_below (g := gb250) (o := .cells #[.int .i64 a0_0, .int .u64 a0_1, .slice A0_2 l0_2.length c0_2, .slice A0_3 l0_3.length c0_3] 34 (0, 0)) q54_ hb); have n3_ := Aside0.mk (below_step q40_ hb); clear HO_251002; clear HO_251003; clear BK250; clear HB; have HO_251002 := n0_; have HO_251003 := n1_; have BK250 := n2_; have HB := n3_; clear n0_ n1_ n2_ n3_; (try clear hb); (try clear hb2); (try clear hk); (try clear hi)))
    go_ret
    exact ⟨by first | rfl | (simp [errW_none, errW_some] <;> rfl) | (simp [*, errW_none, errW_some] <;> rfl), by repeat (first | (with_reducible first | exact HB.out | apply below_alloc | apply pw_below_drewN | apply below_drew1 | refine below_set ?_ GE250.out) | exact HB.out)⟩
   ·replace c12 := Bool.eq_false_iff.mpr c12
    subst c12
    have H1 : (pyxlaw10_CborGets.l0 kj2 a1 false 0 a0_0 a0_1 l0_2 l0_3 0 0 ([] : List Int) ([] : List (S34))) = some r := by rw [if_neg (show ¬ (false = true) by decide)] at H; exact H
    clear H
    have H := H1
    clear H1
    have H' := Aside0.mk H
    clear H
    go_wp2_with (first | ((with_reducible refine gate_dst (N := 5) rfl ?_); (try (refine gate_guard (by rfl) ?_; dsimp only)); refine box_event ?hg (N := 5) ?hd (cs := #[.int .i64 0, .int .u64 0, .slice none 0 0, .slice none 0 0]) (t := 34) ?hr ?_; (case hd => rfl); (case hg => rfl); (case hr => first | (go_simp; done) | (go_simp; rfl)); intro gb254 hg w15 hbox hb; have n0_ := Aside0.mk (Kd.V_below (Kd.V_elderB q61_ gb254 (Nat.le_of_eq hg.symm)) hb); have n1_ := Aside0.mk (Kd.V_below (Kd.V_elderB q62_ gb254 (Nat.le_of_eq hg.symm)) hb); have n2_ := Aside0.mk (blk_below (g := gb250) (o := .cells #[.int .i64 a0_0, .int .u64 a0_1, .slice A0_2 l0_2.length c0_2, .slice A0_3 l0_3.length c0_3] 34 (0, 0)) q54_ hb); have n3_ := Aside0.mk (below_step q40_ hb); have n4_ := Aside0.mk (hbox); have n5_ := Aside0.mk ((by rw [hg]; exact (below_size q40_) : w.heap.size ≤ gb254)); have n6_ := Aside0.mk ((by rw [hg]; exact (below_size q40_) : w.heap.size ≤ gb254)); have n7_ := Aside0.mk ((by rw [hg]; exact Nat.ne_of_lt (blk_lt (g := gb250) (o := .cells #[.int .i64 a0_0, .int .u64 a0_1, .slice A0_2 l0_2.length c0_2, .slice A0_3 l0_3.length c0_3] 34 (0, 0)) q54_) : gb250 ≠ gb254)); have n8_ := Aside0.mk ((by rw [hg]; exact Nat.ne_of_gt (blk_lt (g := gb250) (o := .cells #[.int .i64 a0_0, .int .u64 a0_1, .slice A0_2 l0_2.length c0_2, .slice A0_3 l0_3.length c0_3] 34 (0, 0)) q54_) : gb254 ≠ gb250)); clear HO_251002; clear HO_251003; clear BK250; clear HB; have HO_251002 := n0_; have HO_251003 := n1_; have BK250 := n2_; have HB := n3_; have BK254 := n4_; have GW254 := n5_; have GE254 := n6_; have NB250_254 := n7_; have NB254_250 := n8_; clear n0_ n1_ n2_ n3_ n4_ n5_ n6_ n7_ n8_; clear hb hbox hg; have hnb16 := NB254_250.out; have hnc16 := NB250_254.out; have hcz17_0 : w15.cell? ⟨gb254, 0, none⟩ = some (.int .i64 0) := (blk_cell BK254.out 0).trans rfl; have hcz17_1 : w15.cell? ⟨gb254, 1, none⟩ = some (.int .u64 0) := (blk_cell BK254.out 1).trans rfl; have hcz17_2 : w15.cell? ⟨gb254, 2, none⟩ = some (.slice none 0 0) := (blk_cell BK254.out 2).trans rfl; have hcz17_3 : w15.cell? ⟨gb254, 3, none⟩ = some (.slice none 0 0) := (blk_cell BK254.out 3).trans rfl; have hfz17_0 := blk_frozen BK254.out 0; have hfz17_1 := blk_frozen BK254.out 1; have hfz17_2 := blk_frozen BK254.out 2; have hfz17_3 := blk_frozen BK254.out 3))
    go_loopg [6, 7] kj2 (fun kq v6 v7 w' => ∃ (x6_2 : Bool) (x7_2 : Int) (x255000_2 : Int) (x255001_2 : Int) (x255002_2 : List Int) (x255003_2 : List (S34)) (u255002 : Value) (u255003 : Value), v6 = .bool x6_2 ∧ v7 = .int .i64 x7_2 ∧ Aside0 (pyxlaw10_CborGets.l0 kq a1 x6_2 x7_2 a0_0 a0_1 l0_2 l0_3 x255000_2 x255001_2 x255002_2 x255003_2 = some r) ∧ Aside0 (kq ≤ kj2) ∧ Aside0 (Kd.V (Kd.int .u8) 5 w' w.heap.size (fun k_ => ((P0_2_ k_ ∨ P0_3_ k_) ∨ w.heap.size ≤ k_) ∧ k_ ≠ gb250 ∧ k_ ≠ gb254) (.slice A0_2 l0_2.length c0_2) l0_2) ∧ Aside0 (Kd.V k34 34 w' w.heap.size (fun k_ => ((P0_2_ k_ ∨ P0_3_ k_) ∨ w.heap.size ≤ k_) ∧ k_ ≠ gb250 ∧ k_ ≠ gb254) (.slice A0_3 l0_3.length c0_3) l0_3) ∧ Aside0 (Kd.V (Kd.int .u8) 5 w' w.heap.size (fun k_ => ((P0_2_ k_ ∨ P0_3_ k_) ∨ w.heap.size ≤ k_) ∧ k_ ≠ gb250 ∧ k_ ≠ gb254) u255002 x255002_2) ∧ Aside0 (Kd.V k34 34 w' w.heap.size (fun k_ => ((P0_2_ k_ ∨ P0_3_ k_) ∨ w.heap.size ≤ k_) ∧ k_ ≠ gb250 ∧ k_ ≠ gb254) u255003 x255003_2) ∧ Aside0 (w'.heap[gb250]? = some (.cells #[.int .i64 a0_0, .int .u64 a0_1, (.slice A0_2 l0_2.length c0_2), (.slice A0_3 l0_3.length c0_3)] 34 (0, 0))) ∧ Aside0 (w'.heap[gb254]? = some (.cells #[.int .i64 x255000_2, .int .u64 x255001_2, u255002, u255003] 34 (0, 0))) ∧ Aside0 (Below w.heap.size w w'))
    case atStart => exact ⟨(false), (0), (0), (0), (([] : List Int)), (([] : List (S34))), (.slice none 0 0), (.slice none 0 0), q97_, q97_, H', ⟨Nat.le_refl _⟩, ⟨by (with_reducible repeat (first | apply Kd.V_alloc | apply Kd.V_drewN | apply Kd.V_drew)); exact Kd.V_mono (Kd.V_far (p := ⟨gb254, 3, none⟩) (Kd.V_far (p := ⟨gb254, 2, none⟩) (Kd.V_far (p := ⟨gb254, 1, none⟩) (Kd.V_far (p := ⟨gb254, 0, none⟩) (Kd.V_mono HO_251002.out (fun k_ hk => (⟨hk, hk.2⟩ : _ ∧ k_ ≠ gb254))) (fun _ hk => hk.2) (.int .i64 0)) (fun _ hk => hk.2) (.int .u64 0)) (fun _ hk => hk.2) (.slice none 0 0)) (fun _ hk => hk.2) (.slice none 0 0)) (fun _ hk => ⟨hk.1.1.1, ⟨hk.1.1.2, hk.1.2⟩⟩)⟩, ⟨by (with_reducible repeat (first | apply Kd.V_alloc | apply Kd.V_drewN | apply Kd.V_drew)); exact Kd.V_mono (Kd.V_far (p := ⟨gb254, 3, none⟩) (Kd.V_far (p := ⟨gb254, 2, none⟩) (Kd.V_far (p := ⟨gb254, 1, none⟩) (Kd.V_far (p := ⟨gb254, 0, none⟩) (Kd.V_mono HO_251003.out (fun k_ hk => (⟨hk, hk.2⟩ : _ ∧ k_ ≠ gb254))) (fun _ hk => hk.2) (.int .i64 0)) (fun _ hk => hk.2) (.int .u64 0)) (fun _ hk => hk.2) (.slice none 0 0)) (fun _ hk => hk.2) (.slice none 0 0)) (fun _ hk => ⟨hk.1.1.1, ⟨hk.1.1.2, hk.1.2⟩⟩)⟩, ⟨q17_⟩, ⟨(by first | exact Kd.V_nil _ _ _ _ _ | exact Kd.N_V (by first | exact Kd.R_nil _ _ _ _ _ | exact Kd.N_nil _ _ _ _ _ | exact Kd.V_nil _ _ _ _ _ | exact Kd.Q_nil _ _ _ _ _ | exact Kd.S_nil _ _ _ _ _))⟩, ⟨by (with_reducible repeat (first | refine blk_drewN ?_ _ | refine blk_drew ?_ | refine blk_alloc ?_ _)); refine blk_far ?_ NB250_254.out _; (with_reducible repeat (first | refine blk_drewN ?_ _ | refine blk_drew ?_ | refine blk_alloc ?_ _)); refine blk_far ?_ NB250_254.out _; (with_reducible repeat (first | refine blk_drewN ?_ _ | refine blk_drew ?_ | refine blk_alloc ?_ _)); refine blk_far ?_ NB250_254.out _; (with_reducible repeat (first | refine blk_drewN ?_ _ | refine blk_drew ?_ | refine blk_alloc ?_ _)); refine blk_far ?_ NB250_254.out _; (with_reducible repeat (first | refine blk_drewN ?_ _ | refine blk_drew ?_ | refine blk_alloc ?_ _)); exact BK250.out⟩, ⟨by (with_reducible repeat (first | refine blk_drewN ?_ _ | refine blk_drew ?_ | refine blk_alloc ?_ _)); refine blk_put (cs := #[.int .i64 0, .int .u64 0, .slice none 0 0, .slice none 0 0]) ?_ 3 _ rfl; (with_reducible repeat (first | refine blk_drewN ?_ _ | refine blk_drew ?_ | refine blk_alloc ?_ _)); refine blk_put (cs := #[.int .i64 0, .int .u64 0, .slice none 0 0, .slice none 0 0]) ?_ 2 _ rfl; (with_reducible repeat (first | refine blk_drewN ?_ _ | refine blk_drew ?_ | refine blk_alloc ?_ _)); refine blk_put (cs := #[.int .i64 0, .int .u64 0, .slice none 0 0, .slice none 0 0]) ?_ 1 _ rfl; (with_reducible repeat (first | refine blk_drewN ?_ _ | refine blk_drew ?_ | refine blk_alloc ?_ _)); refine blk_put (cs := #[.int .i64 0, .int .u64 0, .slice none 0 0, .slice none 0 0]) ?_ 0 _ rfl; (with_reducible repeat (first | refine blk_drewN ?_ _ | refine blk_drew ?_ | refine blk_alloc ?_ _)); exact BK254.out⟩, ⟨by repeat (first | (with_reducible first | exact HB.out | apply below_alloc | apply pw_below_drewN | apply below_drew1 | refine below_set ?_ GE250.out | refine below_set ?_ GE254.out) | exact HB.out)⟩⟩
    case round =>
     clear H'
     try clear c1
     try clear p2
     try clear c6
     try clear c12
     try clear c13
     try clear c16
     try clear hcz17_0
     try clear hcz17_1
     try clear hcz17_2
     try clear hcz17_3
     try clear hcz9_0
     try clear hcz9_1
     try clear hcz9_2
     try clear hcz9_3
     try clear hfz17_0
     try clear hfz17_1
     try clear hfz17_2
     try clear hfz17_3
     try clear hfz9_0
     try clear hfz9_1
     try clear hfz9_2
     try clear hfz9_3
     try clear p2
     obtain ⟨x6_2, x7_2, x255000_2, x255001_2, x255002_2, x255003_2, u255002, u255003, rfl, rfl, HA, HK2, HO_251002, HO_251003, HO_255002, HO_255003, BK250, BK254, HB⟩ := hrel
     cases gk with
     | zero => exact absurd HA.out (by simp [pyxlaw10_CborGets.l0])
     | succ k2 =>
      have H := HA.out
      clear HA
      simp only [pyxlaw10_CborGets.l0] at H
      have HC18 := Aside0.mk H
      clear H
      go_upto_region 6 with (fail)
      go_cut [36] (fun v36 wc => ∃ (kq : Nat) (x36_17 : Bool), v36 = .bool x36_17 ∧ Aside0 (pyxlaw10_CborGets.j2 kq a1 x6_2 x7_2 x36_17 a0_0 a0_1 l0_2 l0_3 x255000_2 x255001_2 x255002_2 x255003_2 = some r) ∧ Aside0 (kq ≤ k2) ∧ Aside0 (Kd.V (Kd.int .u8) 5 wc w.heap.size (fun k_ => ((P0_2_ k_ ∨ P0_3_ k_) ∨ w.heap.size ≤ k_) ∧ k_ ≠ gb250 ∧ k_ ≠ gb254) (.slice A0_2 l0_2.length c0_2) l0_2) ∧ Aside0 (Kd.V k34 34 wc w.heap.size (fun k_ => ((P0_2_ k_ ∨ P0_3_ k_) ∨ w.heap.size ≤ k_) ∧ k_ ≠ gb250 ∧ k_ ≠ gb254) (.slice A0_3 l0_3.length c0_3) l0_3) ∧ Aside0 (Kd.V (Kd.int .u8) 5 wc w.heap.size (fun k_ => ((P0_2_ k_ ∨ P0_3_ k_) ∨ w.heap.size ≤ k_) ∧ k_ ≠ gb250 ∧ k_ ≠ gb254) u255002 x255002_2) ∧ Aside0 (Kd.V k34 34 wc w.heap.size (fun k_ => ((P0_2_ k_ ∨ P0_3_ k_) ∨ w.heap.size ≤ k_) ∧ k_ ≠ gb250 ∧ k_ ≠ gb254) u255003 x255003_2) ∧ Aside0 (wc.heap[gb250]? = some (.cells #[.int .i64 a0_0, .int .u64 a0_1, (.slice A0_2 l0_2.length c0_2), (.slice A0_3 l0_3.length c0_3)] 34 (0, 0))) ∧ Aside0 (wc.heap[gb254]? = some (.cells #[.int .i64 x255000_2, .int .u64 x255001_2, u255002, u255003] 34 (0, 0))) ∧ Aside0 (Below w.heap.size w wc))
      case first =>
       have H := HC18.out
       clear HC18
       by_cases c19 : a0_0 = 5
       ·rw [if_pos c19] at H
        have c19b0 : (a0_0 == 5) = true := beq_iff_eq.mpr c19
        have c19b1 : (a0_0 != 5) = false := bne_eq_false_iff_eq.mpr c19
        clear c19
        (first | rw [c19b0] | (simp only [i64_w, i32_w]; rw [c19b0]) | skip)
        by_cases c20 : (wrap64 (x7_2 + 1)) < (l0_3.length : Int)
        ·rw [if_pos c20] at H
         have c20b0 : decide ((wrap64 (x7_2 + 1)) < (l0_3.length : Int)) = true := decide_eq_true c20
         clear c20
         have H' := Aside0.mk H
         clear H
         have hnb21 := NB250_254.out
         have hnc21 := NB254_250.out
         have hcz22_0 : wr.cell? ⟨gb250, 0, none⟩ = some (.int .i64 a0_0) := (blk_cell BK250.out 0).trans rfl
         have hcz22_1 : wr.cell? ⟨gb250, 1, none⟩ = some (.int .u64 a0_1) := (blk_cell BK250.out 1).trans rfl
         have hcz22_2 : wr.cell? ⟨gb250, 2, none⟩ = some (.slice A0_2 l0_2.length c0_2) := (blk_cell BK250.out 2).trans rfl
         have hcz22_3 : wr.cell? ⟨gb250, 3, none⟩ = some (.slice A0_3 l0_3.length c0_3) := (blk_cell BK250.out 3).trans rfl
         have hfz22_0 := blk_frozen BK250.out 0
         have hfz22_1 := blk_frozen BK250.out 1
         have hfz22_2 := blk_frozen BK250.out 2
         have hfz22_3 := blk_frozen BK250.out 3
         go_wp2
         go_meet
         case rel => exact ⟨_, (!x6_2), q97_, H', ⟨by have := HJ2.out; have := HK2.out; first | omega | exact Nat.le_refl _⟩, ⟨by (with_reducible repeat (first | apply Kd.V_alloc | apply Kd.V_drewN | apply Kd.V_drew)); exact HO_251002.out⟩, ⟨by (with_reducible repeat (first | apply Kd.V_alloc | apply Kd.V_drewN | apply Kd.V_drew)); exact HO_251003.out⟩, ⟨by (with_reducible repeat (first | apply Kd.V_alloc | apply Kd.V_drewN | apply Kd.V_drew)); exact HO_255002.out⟩, ⟨by (with_reducible repeat (first | apply Kd.V_alloc | apply Kd.V_drewN | apply Kd.V_drew)); exact HO_255003.out⟩, ⟨by (with_reducible repeat (first | refine blk_drewN ?_ _ | refine blk_drew ?_ | refine blk_alloc ?_ _)); exact BK250.out⟩, ⟨by (with_reducible repeat (first | refine blk_drewN ?_ _ | refine blk_drew ?_ | refine blk_alloc ?_ _)); exact BK254.out⟩, ⟨by repeat (first | (with_reducible first | exact HB.out | apply below_alloc | apply pw_below_drewN | apply below_drew1 | refine below_set ?_ GE250.out | refine below_set ?_ GE254.out) | exact HB.out)⟩⟩
        ·rw [if_neg c20] at H
         have c20b0 : decide ((wrap64 (x7_2 + 1)) < (l0_3.length : Int)) = false := decide_eq_false c20
         clear c20
         have H' := Aside0.mk H
         clear H
         have hnb23 := NB250_254.out
         have hnc23 := NB254_250.out
         have hcz24_0 : wr.cell? ⟨gb250, 0, none⟩ = some (.int .i64 a0_0) := (blk_cell BK250.out 0).trans rfl
         have hcz24_1 : wr.cell? ⟨gb250, 1, none⟩ = some (.int .u64 a0_1) := (blk_cell BK250.out 1).trans rfl
         have hcz24_2 : wr.cell? ⟨gb250, 2, none⟩ = some (.slice A0_2 l0_2.length c0_2) := (blk_cell BK250.out 2).trans rfl
         have hcz24_3 : wr.cell? ⟨gb250, 3, none⟩ = some (.slice A0_3 l0_3.length c0_3) := (blk_cell BK250.out 3).trans rfl
         have hfz24_0 := blk_frozen BK250.out 0
         have hfz24_1 := blk_frozen BK250.out 1
         have hfz24_2 := blk_frozen BK250.out 2
         have hfz24_3 := blk_frozen BK250.out 3
         go_wp2
         go_meet
         case rel => exact ⟨_, (false), q97_, H', ⟨by have := HJ2.out; have := HK2.out; first | omega | exact Nat.le_refl _⟩, ⟨by (with_reducible repeat (first | apply Kd.V_alloc | apply Kd.V_drewN | apply Kd.V_drew)); exact HO_251002.out⟩, ⟨by (with_reducible repeat (first | apply Kd.V_alloc | apply Kd.V_drewN | apply Kd.V_drew)); exact HO_251003.out⟩, ⟨by (with_reducible repeat (first | apply Kd.V_alloc | apply Kd.V_drewN | apply Kd.V_drew)); exact HO_255002.out⟩, ⟨by (with_reducible repeat (first | apply Kd.V_alloc | apply Kd.V_drewN | apply Kd.V_drew)); exact HO_255003.out⟩, ⟨by (with_reducible repeat (first | refine blk_drewN ?_ _ | refine blk_drew ?_ | refine blk_alloc ?_ _)); exact BK250.out⟩, ⟨by (with_reducible repeat (first | refine blk_drewN ?_ _ | refine blk_drew ?_ | refine blk_alloc ?_ _)); exact BK254.out⟩, ⟨by repeat (first | (with_reducible first | exact HB.out | apply below_alloc | apply pw_below_drewN | apply below_drew1 | refine below_set ?_ GE250.out | refine below_set ?_ GE254.out) | exact HB.out)⟩⟩
       ·rw [if_neg c19] at H
        have c19b0 : (a0_0 == 5) = false := beq_eq_false_iff_ne.mpr c19
        have c19b1 : (a0_0 != 5) = true := bne_iff_ne.mpr c19
        (first | rw [c19b0] | (simp only [i64_w, i32_w]; rw [c19b0]) | skip)
        have H' := Aside0.mk H
        clear H
        have hnb25 := NB250_254.out
        have hnc25 := NB254_250.out
        have hcz26_0 : wr.cell? ⟨gb250, 0, none⟩ = some (.int .i64 a0_0) := (blk_cell BK250.out 0).trans rfl
        have hcz26_1 : wr.cell? ⟨gb250, 1, none⟩ = some (.int .u64 a0_1) := (blk_cell BK250.out 1).trans rfl
        have hcz26_2 : wr.cell? ⟨gb250, 2, none⟩ = some (.slice A0_2 l0_2.length c0_2) := (blk_cell BK250.out 2).trans rfl
        have hcz26_3 : wr.cell? ⟨gb250, 3, none⟩ = some (.slice A0_3 l0_3.length c0_3) := (blk_cell BK250.out 3).trans rfl
        have hfz26_0 := blk_frozen BK250.out 0
        have hfz26_1 := blk_frozen BK250.out 1
        have hfz26_2 := blk_frozen BK250.out 2
        have hfz26_3 := blk_frozen BK250.out 3
        go_wp2
        go_meet
        case rel => exact ⟨_, (false), q97_, H', ⟨by have := HJ2.out; have := HK2.out; first | omega | exact Nat.le_refl _⟩, ⟨by (with_reducible repeat (first | apply Kd.V_alloc | apply Kd.V_drewN | apply Kd.V_drew)); exact HO_251002.out⟩, ⟨by (with_reducible repeat (first | apply Kd.V_alloc | apply Kd.V_drewN | apply Kd.V_drew)); exact HO_251003.out⟩, ⟨by (with_reducible repeat (first | apply Kd.V_alloc | apply Kd.V_drewN | apply Kd.V_drew)); exact HO_255002.out⟩, ⟨by (with_reducible repeat (first | apply Kd.V_alloc | apply Kd.V_drewN | apply Kd.V_drew)); exact HO_255003.out⟩, ⟨by (with_reducible repeat (first | refine blk_drewN ?_ _ | refine blk_drew ?_ | refine blk_alloc ?_ _)); exact BK250.out⟩, ⟨by (with_reducible repeat (first | refine blk_drewN ?_ _ | refine blk_drew ?_ | refine blk_alloc ?_ _)); exact BK254.out⟩, ⟨by repeat (first | (with_reducible first | exact HB.out | apply below_alloc | apply pw_below_drewN | apply below_drew1 | refine below_set ?_ GE250.out | refine below_set ?_ GE254.out) | exact HB.out)⟩⟩
      case rest =>
       clear HC18
       try clear c1
       try clear c2
       try clear p2
       try clear c6
       try clear p6
       try clear c12
       try clear c13
       try clear c16
       try clear c19
       try clear c19b0
       try clear c19b1
       try clear c20
       try clear c20b0
       try clear c21
       try clear c23
       try clear c25
       try clear hcz17_0
       try clear hcz17_1
       try clear hcz17_2
       try clear hcz17_3
       try clear hcz22_0
       try clear hcz22_1
       try clear hcz22_2
       try clear hcz22_3
       try clear hcz24_0
       try clear hcz24_1
       try clear hcz24_2
       try clear hcz24_3
       try clear hcz26_0
       try clear hcz26_1
       try clear hcz26_2
       try clear hcz26_3
       try clear hcz9_0
       try clear hcz9_1
       try clear hcz9_2
       try clear hcz9_3
       try clear hfz17_0
       try clear hfz17_1
       try clear hfz17_2
       try clear hfz17_3
       try clear hfz22_0
       try clear hfz22_1
       try clear hfz22_2
       try clear hfz22_3
       try clear hfz24_0
       try clear hfz24_1
       try clear hfz24_2
       try clear hfz24_3
       try clear hfz26_0
       try clear hfz26_1
       try clear hfz26_2
       try clear hfz26_3
       try clear hfz9_0
       try clear hfz9_1
       try clear hfz9_2
       try clear hfz9_3
       try clear p2
       obtain ⟨kq, x36_17, rfl, HA, HJ17, HO_251002, HO_251003, HO_255002, HO_255003, BK250, BK254, HB⟩ := hcut
       cases kq with
       | zero => exact absurd HA.out (by simp [pyxlaw10_CborGets.j2])
       | succ kj17 =>
        have H := HA.out
        clear HA
        simp only [pyxlaw10_CborGets.j2] at H
        by_cases c27 : x36_17 = true
        ·subst c27
         have H1 : (if 0 ≤ x7_2 then (if x7_2 < (l0_3.length : Int) then ((pyxref10_Int.f a1).bind fun bt256 => ((pyxref10_Same.f kj17 ((rd_T34 l0_3 x7_2).f0) ((rd_T34 l0_3 x7_2).f1) ((rd_T34 l0_3 x7_2).f2) ((rd_T34 l0_3 x7_2).f3) bt256.1 bt256.2.1 bt256.2.2.1 bt256.2.2.2).bind fun t264 => (if t264 = true then (if 0 ≤ (wrap64 (x7_2 + 1)) then (if (wrap64 (x7_2 + 1)) < (l0_3.length : Int) then (pyxlaw10_CborGets.l0 kj17 a1 true (wrap64 (x7_2 + 2)) a0_0 a0_1 l0_2 l0_3 ((rd_T34 l0_3 (wrap64 (x7_2 + 1))).f0) ((rd_T34 l0_3 (wrap64 (x7_2 + 1))).f1) ((rd_T34 l0_3 (wrap64 (x7_2 + 1))).f2) ((rd_T34 l0_3 (wrap64 (x7_2 + 1))).f3)) else (none)) else (none)) else (pyxlaw10_CborGets.l0 kj17 a1 x6_2 (wrap64 (x7_2 + 2)) a0_0 a0_1 l0_2 l0_3 x255000_2 x255001_2 x255002_2 x255003_2)))) else (none)) else (none)) = some r := by rw [if_pos rfl] at H; exact H
         clear H
         have H := H1
         clear H1
         by_cases c28 : 0 ≤ x7_2
         ·rw [if_pos c28] at H
          have c28b0 : decide (0 ≤ x7_2) = true := decide_eq_true c28
          clear c28
          by_cases c29 : x7_2 < (l0_3.length : Int)
          ·rw [if_pos c29] at H
           have c29b0 : decide (x7_2 < (l0_3.length : Int)) = true := decide_eq_true c29
           clear c29
           replace H := Option.bind_eq_some_iff.mp H
           obtain ⟨⟨t256, t257, t258, t261⟩, A300, H⟩ := H
           replace H : ((pyxref10_Same.f kj17 ((rd_T34 l0_3 x7_2).f0) ((rd_T34 l0_3 x7_2).f1) ((rd_T34 l0_3 x7_2).f2) ((rd_T34 l0_3 x7_2).f3) t256 t257 t258 t261).bind fun t264 => (if t264 = true then (if 0 ≤ (wrap64 (x7_2 + 1)) then (if (wrap64 (x7_2 + 1)) < (l0_3.length : Int) then (pyxlaw10_CborGets.l0 kj17 a1 true (wrap64 (x7_2 + 2)) a0_0 a0_1 l0_2 l0_3 ((rd_T34 l0_3 (wrap64 (x7_2 + 1))).f0) ((rd_T34 l0_3 (wrap64 (x7_2 + 1))).f1) ((rd_T34 l0_3 (wrap64 (x7_2 + 1))).f2) ((rd_T34 l0_3 (wrap64 (x7_2 + 1))).f3)) else (none)) else (none)) else (pyxlaw10_CborGets.l0 kj17 a1 x6_2 (wrap64 (x7_2 + 2)) a0_0 a0_1 l0_2 l0_3 x255000_2 x255001_2 x255002_2 x255003_2))) = some r := H
           have A30 := Aside0.mk A300
           clear A300
           replace H := Option.bind_eq_some_iff.mp H
           obtain ⟨t264, A310, H⟩ := H
           replace H : (if t264 = true then (if 0 ≤ (wrap64 (x7_2 + 1)) then (if (wrap64 (x7_2 + 1)) < (l0_3.length : Int) then (pyxlaw10_CborGets.l0 kj17 a1 true (wrap64 (x7_2 + 2)) a0_0 a0_1 l0_2 l0_3 ((rd_T34 l0_3 (wrap64 (x7_2 + 1))).f0) ((rd_T34 l0_3 (wrap64 (x7_2 + 1))).f1) ((rd_T34 l0_3 (wrap64 (x7_2 + 1))).f2) ((rd_T34 l0_3 (wrap64 (x7_2 + 1))).f3)) else (none)) else (none)) else (pyxlaw10_CborGets.l0 kj17 a1 x6_2 (wrap64 (x7_2 + 2)) a0_0 a0_1 l0_2 l0_3 x255000_2 x255001_2 x255002_2 x255003_2)) = some r := H
           have A31 := Aside0.mk A310
           clear A310
           by_cases c32 : t264 = true
           ·subst c32
            have H1 : (if 0 ≤ (wrap64 (x7_2 + 1)) then (if (wrap64 (x7_2 + 1)) < (l0_3.length : Int) then (pyxlaw10_CborGets.l0 kj17 a1 true (wrap64 (x7_2 + 2)) a0_0 a0_1 l0_2 l0_3 ((rd_T34 l0_3 (wrap64 (x7_2 + 1))).f0) ((rd_T34 l0_3 (wrap64 (x7_2 + 1))).f1) ((rd_T34 l0_3 (wrap64 (x7_2 + 1))).f2) ((rd_T34 l0_3 (wrap64 (x7_2 + 1))).f3)) else (none)) else (none)) = some r := by rw [if_pos rfl] at H; exact H
            clear H
            have H := H1
            clear H1
            obtain ⟨ji33, hji33⟩ : ∃ j_ : Int, (wrap64 (x7_2 + 1)) = j_ := ⟨_, rfl⟩
            replace H : (if 0 ≤ (ji33) then (if (ji33) < (l0_3.length : Int) then (pyxlaw10_CborGets.l0 kj17 a1 true (wrap64 (x7_2 + 2)) a0_0 a0_1 l0_2 l0_3 ((rd_T34 l0_3 (ji33)).f0) ((rd_T34 l0_3 (ji33)).f1) ((rd_T34 l0_3 (ji33)).f2) ((rd_T34 l0_3 (ji33)).f3)) else (none)) else (none)) = some r := by first | (rw [hji33] at H; exact H) | (simp only [hji33] at H ⊢; exact H)
            (try rw [hji33] at A30)
            (try rw [hji33] at A31)
            have hji33w : (IntKind.i64.wrap (x7_2 + 1)) = ji33 := (i64_w _).trans hji33
            by_cases c34 : 0 ≤ (ji33)
            ·rw [if_pos c34] at H
             have c34b0 : decide (0 ≤ (ji33)) = true := decide_eq_true c34
             clear c34
             by_cases c35 : (ji33) < (l0_3.length : Int)
             ·rw [if_pos c35] at H
              have c35b0 : decide ((ji33) < (l0_3.length : Int)) = true := decide_eq_true c35
              clear c35
              have H' := Aside0.mk H
              clear H
              try go_wp2
              have n0_ := Aside0.mk (Kd.V_drew HO_251002.out)
              have n1_ := Aside0.mk (Kd.V_drew HO_251003.out)
              have n2_ := Aside0.mk (Kd.V_drew HO_255002.out)
              have n3_ := Aside0.mk (Kd.V_drew HO_255003.out)
              have n4_ := Aside0.mk (blk_drew BK250.out)
              have n5_ := Aside0.mk (blk_drew BK254.out)
              have n6_ := Aside0.mk (below_drew1 HB.out)
              clear HO_251002
              clear HO_251003
              clear HO_255002
              clear HO_255003
              clear BK250
              clear BK254
              clear HB
              have HO_251002 := n0_
              have HO_251003 := n1_
              have HO_255002 := n2_
              have HO_255003 := n3_
              have BK250 := n4_
              have BK254 := n5_
              have HB := n6_
              clear n0_ n1_ n2_ n3_ n4_ n5_ n6_
              have p255 : 0 ≤ (x7_2 : Int) := of_decide_eq_true q95_
              have q255 : x7_2 < (l0_3.length : Int) := of_decide_eq_true q95_
              obtain ⟨ad255, A255_2, c255_2, A255_3, c255_3, e255, hx255_0, hx255_1, hx255_2, hx255_3, hl255_2, hi255_2, hl255_3, hi255_3⟩ := at_T34 (Kd.V_reads' HO_251003.out).2.2 x7_2 p255 q255
              cases e255
              obtain ⟨ce255, hce255, hMe255, hcc255⟩ := Kd.V_get HO_251003.out z34 x7_2 p255 (by first | exact q255 | exact of_decide_eq_true q95_ | (have e_ := (Kd.V_reads' HO_251003.out).1; omega))
              obtain ⟨ua255_2, uc255_2, ua255_3, uc255_3, rfl, ul255_2, ge255_2, ul255_3, ge255_3⟩ := k34_openF hMe255
              have hv255_2 := hcc255 2 _ rfl
              rw [add_field _ _ 2 (by omega)] at hv255_2
              replace hv255_2 := Option.some.inj (hv255_2.symm.trans hx255_2)
              injection hv255_2 with hva_ hvn_ hvc_
              rw [hva_] at ge255_2
              rw [hvc_] at ul255_2
              have HL255_2 := Aside0.mk (show Kd.V (Kd.int .u8) 5 _ w.heap.size _ _ ((rd_T34 l0_3 x7_2).f2) from Kd.V_mk ul255_2 ge255_2)
              clear hva_ hvn_ hvc_ ge255_2 ul255_2
              have hv255_3 := hcc255 3 _ rfl
              rw [add_field _ _ 3 (by omega)] at hv255_3
              replace hv255_3 := Option.some.inj (hv255_3.symm.trans hx255_3)
              injection hv255_3 with hva_ hvn_ hvc_
              rw [hva_] at ge255_3
              rw [hvc_] at ul255_3
              have HL255_3 := Aside0.mk (show Kd.V k34 34 _ w.heap.size _ _ ((rd_T34 l0_3 x7_2).f3) from Kd.V_mk ul255_3 ge255_3)
              clear hva_ hvn_ hvc_ ge255_3 ul255_3
              clear hcc255 hce255
              have HR255_2 := Aside0.mk hi255_2
              have HC255_2 := Aside0.mk hl255_2
              clear hi255_2 hl255_2
              have HR255_3 := Aside0.mk hi255_3
              have HC255_3 := Aside0.mk hl255_3
              clear hi255_3 hl255_3
              replace p255 := eq_true p255
              replace q255 := eq_true q255
              refine start_ (n := 8) (S := fun w' => w'.cell? ⟨gb250, 0, none⟩ = some (.int .i64 a0_0) ∧ w'.cell? ⟨gb250, 1, none⟩ = some (.int .u64 a0_1) ∧ w'.cell? ⟨gb250, 2, none⟩ = some (.slice A0_2 l0_2.length c0_2) ∧ w'.cell? ⟨gb250, 3, none⟩ = some (.slice (some ad255) l0_3.length c0_3) ∧ w'.cell? (ad255.add ((x7_2).toNat * 4)) = some (.int .i64 ((rd_T34 l0_3 x7_2).f0)) ∧ w'.cell? ⟨(ad255.add ((x7_2).toNat * 4)).block, (ad255.add ((x7_2).toNat * 4)).off + 1, none⟩ = some (.int .u64 ((rd_T34 l0_3 x7_2).f1)) ∧ w'.cell? ⟨(ad255.add ((x7_2).toNat * 4)).block, (ad255.add ((x7_2).toNat * 4)).off + 2, none⟩ = some (.slice A255_2 ((rd_T34 l0_3 x7_2).f2).length c255_2) ∧ w'.cell? ⟨(ad255.add ((x7_2).toNat * 4)).block, (ad255.add ((x7_2).toNat * 4)).off + 3, none⟩ = some (.slice A255_3 ((rd_T34 l0_3 x7_2).f3).length c255_3)) (ds := []) #[false, false, false, false, false, false, false, false] (by kernel_rfl) rfl rfl ⟨(blk_cell BK250.out 0).trans rfl, (blk_cell BK250.out 1).trans rfl, (blk_cell BK250.out 2).trans rfl, (blk_cell BK250.out 3).trans rfl, hx255_0, hx255_1, hx255_2, hx255_3⟩ (fun hHeld => ?_); refine with_tabW pyxlaw10_CborGets.tab8 pyxlaw10_CborGets.bits8 (fun HT_ HW_ => ?_)
              generalize wc.drew = w36 at HO_251002 HO_251003 HO_255002 HO_255003 BK250 BK254 HB HL255_2 HL255_3 HR255_2 HR255_3 hx255_0 hx255_1 hx255_2 hx255_3 hHeld ⊢
              refine pure_ (i := 0) (N := some 39) (v := ?_) (a' := ?_) #[true, false, false, false, false, false, false, false] rfl rfl (any_of HT_.out (by kernel_rfl)) (fun _ _ _ h => h) (Or.inl ⟨by rfl, ?_⟩) ?_ ?_
              rotate_left
              ·intro w'
               go_simp
               with_reducible rfl
              rotate_left
              ·simp only [Act.put, List.setIfInBounds_toArray, List.set_cons_zero, List.set_cons_succ, i64_w, i32_w]
               rfl
              refine pure_ (i := 2) (N := some 41) (v := ?_) (a' := ?_) #[true, false, true, false, false, false, false, false] rfl rfl (any_of HT_.out (by kernel_rfl)) (fun _ _ _ h => h) (Or.inl ⟨by rfl, ?_⟩) ?_ ?_
              rotate_left
              ·intro w'
               go_simp
               with_reducible rfl
              rotate_left
              ·simp only [Act.put, List.setIfInBounds_toArray, List.set_cons_zero, List.set_cons_succ, i64_w, i32_w]
               rfl
              refine pure_ (i := 5) (N := some 44) (v := ?_) (a' := ?_) #[true, false, true, false, false, true, false, false] rfl rfl (any_of HT_.out (by kernel_rfl)) (fun _ _ _ h => h) (Or.inl ⟨by rfl, ?_⟩) ?_ ?_
              rotate_left
              ·intro w'
               go_simp
               with_reducible rfl
              rotate_left
              ·simp only [Act.put, List.setIfInBounds_toArray, List.set_cons_zero, List.set_cons_succ, i64_w, i32_w]
               rfl
              refine take_ (i := 1) (N := some 40) (v := ?_) (a' := ?_) #[true, true, true, false, false, true, false, false] rfl rfl (take_ofW HT_.out HW_.out (by kernel_rfl)) (fun _ _ _ h => h) (Or.inl ⟨by rfl, ?_⟩) hHeld ?_ ?_
              rotate_left
              ·rintro w' ⟨s0, s1, s2, s3, s4, s5, s6, s7⟩
               go_simp
               with_reducible rfl
              rotate_left
              ·simp only [Act.put, List.setIfInBounds_toArray, List.set_cons_zero, List.set_cons_succ, i64_w, i32_w]
               rfl
              refine pure_ (i := 3) (N := some 42) (v := ?_) (a' := ?_) #[true, true, true, true, false, true, false, false] rfl rfl (any_of HT_.out (by kernel_rfl)) (fun _ _ _ h => h) (Or.inl ⟨by rfl, ?_⟩) ?_ ?_
              rotate_left
              ·intro w'
               go_simp
               with_reducible rfl
              rotate_left
              ·simp only [Act.put, List.setIfInBounds_toArray, List.set_cons_zero, List.set_cons_succ, i64_w, i32_w]
               rfl
              refine take_ (i := 4) (N := some 43) (v := ?_) (a' := ?_) #[true, true, true, true, true, true, false, false] rfl rfl (take_ofW HT_.out HW_.out (by kernel_rfl)) (fun _ _ _ h => h) (Or.inl ⟨by rfl, ?_⟩) hHeld ?_ ?_
              rotate_left
              ·rintro w' ⟨s0, s1, s2, s3, s4, s5, s6, s7⟩
               go_simp
               with_reducible rfl
              rotate_left
              ·simp only [Act.put, List.setIfInBounds_toArray, List.set_cons_zero, List.set_cons_succ, i64_w, i32_w]
               rfl
              refine one_ (i := 6) (N := some 45) #[true, true, true, true, true, true, true, false] rfl rfl (one_of HT_.out (by kernel_rfl)) (by decide) (fun K hK => ?_)
              refine goes_ Tryd.func29 (by kernel_rfl) rfl #[.int .i64 a1] (by rfl) rfl rfl q43_ ?_
              with_reducible refine (pyxref10_Int.calls a1 t256 t257 t258 t261 _ A30.out).mono ?_
              rintro e w37 ⟨v259, v262, rfl, ho0, ho1, hb⟩
              have HS4_ := (hb.cell (World.block_lt_of_cell? _ _ (hHeld.2.2.2.2.1))).trans (hHeld.2.2.2.2.1)
              have HS5_ := (hb.cell (World.block_lt_of_cell? _ _ (hHeld.2.2.2.2.2.1))).trans (hHeld.2.2.2.2.2.1)
              have HS6_ := (hb.cell (World.block_lt_of_cell? _ _ (hHeld.2.2.2.2.2.2.1))).trans (hHeld.2.2.2.2.2.2.1)
              have HS7_ := (hb.cell (World.block_lt_of_cell? _ _ (hHeld.2.2.2.2.2.2.2))).trans (hHeld.2.2.2.2.2.2.2)
              refine ⟨_, rfl, ?_⟩
              have n0_ := Aside0.mk (Kd.V_mono (Kd.V_told (Kd.V_told (Kd.V_old q61_ hb) (Kd.R_base ho0)) q94_) (fun _ h_ => h_.1))
              have n1_ := Aside0.mk (Kd.V_mono (Kd.V_told (Kd.V_told (Kd.V_old q62_ hb) (Kd.R_base ho0)) q94_) (fun _ h_ => h_.1))
              have n2_ := Aside0.mk (Kd.V_mono (Kd.V_told (Kd.V_told (Kd.V_old q63_ hb) (Kd.R_base ho0)) q94_) (fun _ h_ => h_.1))
              have n3_ := Aside0.mk (Kd.V_mono (Kd.V_told (Kd.V_told (Kd.V_old q64_ hb) (Kd.R_base ho0)) q94_) (fun _ h_ => h_.1))
              have n4_ := Aside0.mk (Kd.V_mono (Kd.V_told (Kd.V_told (Kd.V_old q67_ hb) (Kd.R_base ho0)) q94_) (fun _ h_ => h_.1))
              have n5_ := Aside0.mk (Kd.V_mono (Kd.V_told (Kd.V_told (Kd.V_old q68_ hb) (Kd.R_base ho0)) q94_) (fun _ h_ => h_.1))
              have n6_ := Aside0.mk (Kd.R_lower (Kd.R_newM (M := fun k_ => (w.heap.size ≤ k_)) ho0 (below_size q28_) (fun k_ h_ => h_)) (below_size q28_))
              have n7_ := Aside0.mk (Kd.N_lower (Kd.N_mono (ok' := fun k_ => ((P0_2_ k_ ∨ P0_3_ k_) ∨ w.heap.size ≤ k_) ∧ some k_ ≠ (v259 : Value).ownBlock ∧ k_ ≠ gb250 ∧ k_ ≠ gb254) (Kd.R_N (Kd.R_bound ho1)) (fun k_ hk_ => ⟨(.inr (Nat.le_trans (below_size q28_) hk_.2.1)), hk_.1, (Kd.freshB (g := gb250) (o := .cells #[.int .i64 a0_0, .int .u64 a0_1, .slice A0_2 l0_2.length c0_2, .slice (some ad255) l0_3.length c0_3] 34 (0, 0)) q54_ k_ hk_.2.1), (Kd.freshB (g := gb254) (o := .cells #[.int .i64 x255000_2, .int .u64 x255001_2, u255002, u255003] 34 (0, 0)) q55_ k_ hk_.2.1)⟩)) (below_size q28_))
              have n8_ := Aside0.mk (blk_below (g := gb250) (o := .cells #[.int .i64 a0_0, .int .u64 a0_1, .slice A0_2 l0_2.length c0_2, .slice (some ad255) l0_3.length c0_3] 34 (0, 0)) q54_ hb)
              have n9_ := Aside0.mk (blk_below (g := gb254) (o := .cells #[.int .i64 x255000_2, .int .u64 x255001_2, u255002, u255003] 34 (0, 0)) q55_ hb)
              have n10_ := Aside0.mk (Kd.C_below q33_ hb)
              have n11_ := Aside0.mk (Kd.C_below q34_ hb)
              have n12_ := Aside0.mk (below_step q28_ hb)
              clear HO_251002
              clear HO_251003
              clear HO_255002
              clear HO_255003
              clear HL255_2
              clear HL255_3
              clear BK250
              clear BK254
              clear HR255_2
              clear HR255_3
              clear HB
              have HO_251002 := n0_
              have HO_251003 := n1_
              have HO_255002 := n2_
              have HO_255003 := n3_
              have HL255_2 := n4_
              have HL255_3 := n5_
              have HO260 := n6_
              have HO263 := n7_
              have BK250 := n8_
              have BK254 := n9_
              have HR255_2 := n10_
              have HR255_3 := n11_
              have HB := n12_
              clear n0_ n1_ n2_ n3_ n4_ n5_ n6_ n7_ n8_ n9_ n10_ n11_ n12_
              (try clear hb)
              (try clear hb2)
              (try clear hk)
              (try clear hi)
              (try clear ho0)
              (try clear ho1)
              obtain ⟨Ao38, co38, eo38⟩ := Kd.R_slice HO260.out
              (first | subst eo38 | (injection eo38 with f1_ f2_ f3_; have f4_ := f1_.symm; have f5_ := f3_.symm; clear f1_ f2_ f3_; subst f4_; subst f5_))
              obtain ⟨Ao39, co39, eo39⟩ := Kd.N_slice HO263.out
              (first | subst eo39 | (injection eo39 with f1_ f2_ f3_; have f4_ := f1_.symm; have f5_ := f3_.symm; clear f1_ f2_ f3_; subst f4_; subst f5_))
              refine hK.out _ _ ⟨(blk_cell BK250.out 0).trans rfl, (blk_cell BK250.out 1).trans rfl, (blk_cell BK250.out 2).trans rfl, (blk_cell BK250.out 3).trans rfl, HS4_, HS5_, HS6_, HS7_⟩ (fun hHeld => ?_)
              clear hK K
              refine norm_ (a' := ?_) ?_ ?_
              rotate_left
              ·show Act.put _ (some 45) _ = _
               simp only [Act.put, List.setIfInBounds_toArray, List.set_cons_zero, List.set_cons_succ, i64_w, i32_w]
               rfl
              refine one_ (i := 7) (N := some 46) #[true, true, true, true, true, true, true, true] rfl rfl (one_of HT_.out (by kernel_rfl)) (by decide) (fun K hK => ?_)
              refine goes_ Tryd.func17 (by kernel_rfl) rfl #[.agg #[.int .i64 ((rd_T34 l0_3 x7_2).f0), .int .u64 ((rd_T34 l0_3 x7_2).f1), .slice A255_2 ((rd_T34 l0_3 x7_2).f2).length c255_2, .slice A255_3 ((rd_T34 l0_3 x7_2).f3).length c255_3], .agg #[.int .i64 t256, .int .u64 t257, .slice Ao38 t258.length co38, .slice Ao39 t261.length co39]] (by rfl) rfl rfl q43_ ?_
              with_reducible refine (pyxref10_Same.calls kj17 ((rd_T34 l0_3 x7_2).f0) ((rd_T34 l0_3 x7_2).f1) _ _ ((rd_T34 l0_3 x7_2).f2) _ _ ((rd_T34 l0_3 x7_2).f3) t256 t257 _ _ t258 _ _ t261 true _ ?side1 ?side2 ?side3 ?side4 ?side5 ?side6 ?side7 ?side8 A31.out).mono ?_
              (case side1 => repeat (first | exact q33_ | (with_reducible refine Kd.C_alloc ?_ _) | (with_reducible refine Kd.C_drewN ?_ _) | (with_reducible refine Kd.C_drew ?_)))
              (case side2 => exact HC255_2.out)
              (case side3 => repeat (first | exact q34_ | (with_reducible refine Kd.C_alloc ?_ _) | (with_reducible refine Kd.C_drewN ?_ _) | (with_reducible refine Kd.C_drew ?_)))
              (case side4 => exact HC255_3.out)
              (case side5 => repeat (first | exact (Kd.R_reads' HO260.out).2.2 | (with_reducible refine Kd.C_alloc ?_ _) | (with_reducible refine Kd.C_drewN ?_ _) | (with_reducible refine Kd.C_drew ?_)))
              (case side6 => exact (Kd.R_reads' HO260.out).2.1)
              (case side7 => repeat (first | exact (Kd.N_reads' HO263.out).2.2 | (with_reducible refine Kd.C_alloc ?_ _) | (with_reducible refine Kd.C_drewN ?_ _) | (with_reducible refine Kd.C_drew ?_)))
              (case side8 => exact (Kd.N_reads' HO263.out).2.1)
              rintro e w40 ⟨rfl, hb⟩
              have HS4_ := (hb.cell (World.block_lt_of_cell? _ _ (hHeld.2.2.2.2.1))).trans (hHeld.2.2.2.2.1)
              have HS5_ := (hb.cell (World.block_lt_of_cell? _ _ (hHeld.2.2.2.2.2.1))).trans (hHeld.2.2.2.2.2.1)
              have HS6_ := (hb.cell (World.block_lt_of_cell? _ _ (hHeld.2.2.2.2.2.2.1))).trans (hHeld.2.2.2.2.2.2.1)
              have HS7_ := (hb.cell (World.block_lt_of_cell? _ _ (hHeld.2.2.2.2.2.2.2))).trans (hHeld.2.2.2.2.2.2.2)
              refine ⟨_, rfl, ?_⟩
              have n0_ := Aside0.mk (Kd.V_below q61_ hb)
              have n1_ := Aside0.mk (Kd.V_below q62_ hb)
              have n2_ := Aside0.mk (Kd.V_below q63_ hb)
              have n3_ := Aside0.mk (Kd.V_below q64_ hb)
              have n4_ := Aside0.mk (Kd.V_below q67_ hb)
              have n5_ := Aside0.mk (Kd.V_below q68_ hb)
              have n6_ := Aside0.mk (Kd.R_below (by (with_reducible repeat (first | apply Kd.R_alloc | apply Kd.R_drewN | apply Kd.R_drew)); exact HO260.out) hb)
              have n7_ := Aside0.mk (Kd.N_below (by (with_reducible repeat (first | apply Kd.N_alloc | apply Kd.N_drewN | apply Kd.N_drew)); exact HO263.out) hb)
              have n8_ := Aside0.mk (blk_below (g := gb250) (o := .cells #[.int .i64 a0_0, .int .u64 a0_1, .slice A0_2 l0_2.length c0_2, .slice (some ad255) l0_3.length c0_3] 34 (0, 0)) q54_ hb)
              have n9_ := Aside0.mk (blk_below (g := gb254) (o := .cells #[.int .i64 x255000_2, .int .u64 x255001_2, u255002, u255003] 34 (0, 0)) q55_ hb)
              have n10_ := Aside0.mk (Kd.C_below q33_ hb)
              have n11_ := Aside0.mk (Kd.C_below q34_ hb)
              have n12_ := Aside0.mk (below_step q28_ hb)
              clear HO_251002
              clear HO_251003
              clear HO_255002
              clear HO_255003
              clear HL255_2
              clear HL255_3
              clear HO260
              clear HO263
              clear BK250
              clear BK254
              clear HR255_2
              clear HR255_3
              clear HB
              have HO_251002 := n0_
              have HO_251003 := n1_
              have HO_255002 := n2_
              have HO_255003 := n3_
              have HL255_2 := n4_
              have HL255_3 := n5_
              have HO260 := n6_
              have HO263 := n7_
              have BK250 := n8_
              have BK254 := n9_
              have HR255_2 := n10_
              have HR255_3 := n11_
              have HB := n12_
              clear n0_ n1_ n2_ n3_ n4_ n5_ n6_ n7_ n8_ n9_ n10_ n11_ n12_
              (try clear hb)
              (try clear hb2)
              (try clear hk)
              (try clear hi)
              refine hK.out _ _ ⟨(blk_cell BK250.out 0).trans rfl, (blk_cell BK250.out 1).trans rfl, (blk_cell BK250.out 2).trans rfl, (blk_cell BK250.out 3).trans rfl, HS4_, HS5_, HS6_, HS7_⟩ (fun hHeld => ?_)
              clear hK K
              refine norm_ (a' := ?_) ?_ ?_
              rotate_left
              ·show Act.put _ (some 46) _ = _
               simp only [Act.put, List.setIfInBounds_toArray, List.set_cons_zero, List.set_cons_succ, i64_w, i32_w]
               rfl
              refine done_ (done_of HT_.out (by kernel_rfl)) ?_
              have hnb41 := NB250_254.out
              have hnc41 := NB254_250.out
              have hcz42_0 : w40.cell? ⟨gb250, 0, none⟩ = some (.int .i64 a0_0) := (blk_cell BK250.out 0).trans rfl
              have hcz42_1 : w40.cell? ⟨gb250, 1, none⟩ = some (.int .u64 a0_1) := (blk_cell BK250.out 1).trans rfl
              have hcz42_2 : w40.cell? ⟨gb250, 2, none⟩ = some (.slice A0_2 l0_2.length c0_2) := (blk_cell BK250.out 2).trans rfl
              have hcz42_3 : w40.cell? ⟨gb250, 3, none⟩ = some (.slice (some ad255) l0_3.length c0_3) := (blk_cell BK250.out 3).trans rfl
              have hfz42_0 := blk_frozen BK250.out 0
              have hfz42_1 := blk_frozen BK250.out 1
              have hfz42_2 := blk_frozen BK250.out 2
              have hfz42_3 := blk_frozen BK250.out 3
              have p265 : 0 ≤ ((ji33) : Int) := of_decide_eq_true q95_
              have q265 : (ji33) < (l0_3.length : Int) := of_decide_eq_true q95_
              obtain ⟨ad265, A265_2, c265_2, A265_3, c265_3, e265, hx265_0, hx265_1, hx265_2, hx265_3, hl265_2, hi265_2, hl265_3, hi265_3⟩ := at_T34 (Kd.V_reads' HO_251003.out).2.2 (ji33) p265 q265
              obtain rfl : ad255 = ad265 := (by injection e265)
              obtain ⟨ce265, hce265, hMe265, hcc265⟩ := Kd.V_get HO_251003.out z34 (ji33) p265 (by first | exact q265 | exact of_decide_eq_true q95_ | (have e_ := (Kd.V_reads' HO_251003.out).1; omega))
              obtain ⟨ua265_2, uc265_2, ua265_3, uc265_3, rfl, ul265_2, ge265_2, ul265_3, ge265_3⟩ := k34_openF hMe265
              have hv265_2 := hcc265 2 _ rfl
              rw [add_field _ _ 2 (by omega)] at hv265_2
              replace hv265_2 := Option.some.inj (hv265_2.symm.trans hx265_2)
              injection hv265_2 with hva_ hvn_ hvc_
              rw [hva_] at ge265_2
              rw [hvc_] at ul265_2
              have HL265_2 := Aside0.mk (show Kd.V (Kd.int .u8) 5 _ w.heap.size _ _ ((rd_T34 l0_3 (ji33)).f2) from Kd.V_mk ul265_2 ge265_2)
              clear hva_ hvn_ hvc_ ge265_2 ul265_2
              have hv265_3 := hcc265 3 _ rfl
              rw [add_field _ _ 3 (by omega)] at hv265_3
              replace hv265_3 := Option.some.inj (hv265_3.symm.trans hx265_3)
              injection hv265_3 with hva_ hvn_ hvc_
              rw [hva_] at ge265_3
              rw [hvc_] at ul265_3
              have HL265_3 := Aside0.mk (show Kd.V k34 34 _ w.heap.size _ _ ((rd_T34 l0_3 (ji33)).f3) from Kd.V_mk ul265_3 ge265_3)
              clear hva_ hvn_ hvc_ ge265_3 ul265_3
              clear hcc265 hce265
              have HR265_2 := Aside0.mk hi265_2
              have HC265_2 := Aside0.mk hl265_2
              clear hi265_2 hl265_2
              have HR265_3 := Aside0.mk hi265_3
              have HC265_3 := Aside0.mk hl265_3
              clear hi265_3 hl265_3
              replace p265 := eq_true p265
              replace q265 := eq_true q265
              have hcz43_0 : w40.cell? ⟨gb254, 0, none⟩ = some (.int .i64 x255000_2) := (blk_cell BK254.out 0).trans rfl
              have hcz43_1 : w40.cell? ⟨gb254, 1, none⟩ = some (.int .u64 x255001_2) := (blk_cell BK254.out 1).trans rfl
              have hcz43_2 : w40.cell? ⟨gb254, 2, none⟩ = some (u255002) := (blk_cell BK254.out 2).trans rfl
              have hcz43_3 : w40.cell? ⟨gb254, 3, none⟩ = some (u255003) := (blk_cell BK254.out 3).trans rfl
              have hfz43_0 := blk_frozen BK254.out 0
              have hfz43_1 := blk_frozen BK254.out 1
              have hfz43_2 := blk_frozen BK254.out 2
              have hfz43_3 := blk_frozen BK254.out 3
              try go_wp2
              go_roundg kj17
              case measure => have := HJ2.out; have := HK2.out; have := HJ17.out; omega
              case rel => exact ⟨(true), (wrap64 (x7_2 + 2)), ((rd_T34 l0_3 (ji33)).f0), ((rd_T34 l0_3 (ji33)).f1), ((rd_T34 l0_3 (ji33)).f2), ((rd_T34 l0_3 (ji33)).f3), (.slice A265_2 ((rd_T34 l0_3 (ji33)).f2).length c265_2), (.slice A265_3 ((rd_T34 l0_3 (ji33)).f3).length c265_3), q97_, q97_, H', ⟨by have := HJ2.out; have := HK2.out; have := HJ17.out; omega⟩, ⟨by (with_reducible repeat (first | apply Kd.V_alloc | apply Kd.V_drewN | apply Kd.V_drew)); exact Kd.V_mono (Kd.V_far (p := ⟨gb254, 3, none⟩) (Kd.V_far (p := ⟨gb254, 2, none⟩) (Kd.V_far (p := ⟨gb254, 1, none⟩) (Kd.V_far (p := ⟨gb254, 0, none⟩) (Kd.V_mono HO_251002.out (fun k_ hk => (⟨hk, hk.1.1.2.2⟩ : _ ∧ k_ ≠ gb254))) (fun _ hk => hk.2) (.int .i64 ((rd_T34 l0_3 (ji33)).f0))) (fun _ hk => hk.2) (.int .u64 ((rd_T34 l0_3 (ji33)).f1))) (fun _ hk => hk.2) (.slice A265_2 ((rd_T34 l0_3 (ji33)).f2).length c265_2)) (fun _ hk => hk.2) (.slice A265_3 ((rd_T34 l0_3 (ji33)).f3).length c265_3)) (fun _ hk => ⟨hk.1.1.1.1, ⟨hk.1.1.1.2.1, hk.1.1.1.2.2⟩⟩)⟩, ⟨by (with_reducible repeat (first | apply Kd.V_alloc | apply Kd.V_drewN | apply Kd.V_drew)); exact Kd.V_mono (Kd.V_far (p := ⟨gb254, 3, none⟩) (Kd.V_far (p := ⟨gb254, 2, none⟩) (Kd.V_far (p := ⟨gb254, 1, none⟩) (Kd.V_far (p := ⟨gb254, 0, none⟩) (Kd.V_mono HO_251003.out (fun k_ hk => (⟨hk, hk.1.1.2.2⟩ : _ ∧ k_ ≠ gb254))) (fun _ hk => hk.2) (.int .i64 ((rd_T34 l0_3 (ji33)).f0))) (fun _ hk => hk.2) (.int .u64 ((rd_T34 l0_3 (ji33)).f1))) (fun _ hk => hk.2) (.slice A265_2 ((rd_T34 l0_3 (ji33)).f2).length c265_2)) (fun _ hk => hk.2) (.slice A265_3 ((rd_T34 l0_3 (ji33)).f3).length c265_3)) (fun _ hk => ⟨hk.1.1.1.1, ⟨hk.1.1.1.2.1, hk.1.1.1.2.2⟩⟩)⟩, ⟨by (with_reducible repeat (first | apply Kd.V_alloc | apply Kd.V_drewN | apply Kd.V_drew)); exact Kd.V_mono (Kd.V_far (p := ⟨gb254, 3, none⟩) (Kd.V_far (p := ⟨gb254, 2, none⟩) (Kd.V_far (p := ⟨gb254, 1, none⟩) (Kd.V_far (p := ⟨gb254, 0, none⟩) (Kd.V_mono HL265_2.out (fun k_ hk => (⟨hk, hk.1.1.2.2⟩ : _ ∧ k_ ≠ gb254))) (fun _ hk => hk.2) (.int .i64 ((rd_T34 l0_3 (ji33)).f0))) (fun _ hk => hk.2) (.int .u64 ((rd_T34 l0_3 (ji33)).f1))) (fun _ hk => hk.2) (.slice A265_2 ((rd_T34 l0_3 (ji33)).f2).length c265_2)) (fun _ hk => hk.2) (.slice A265_3 ((rd_T34 l0_3 (ji33)).f3).length c265_3)) (fun _ hk => ⟨hk.1.1.1.1, ⟨hk.1.1.1.2.1, hk.1.1.1.2.2⟩⟩)⟩, ⟨by (with_reducible repeat (first | apply Kd.V_alloc | apply Kd.V_drewN | apply Kd.V_drew)); exact Kd.V_mono (Kd.V_far (p := ⟨gb254, 3, none⟩) (Kd.V_far (p := ⟨gb254, 2, none⟩) (Kd.V_far (p := ⟨gb254, 1, none⟩) (Kd.V_far (p := ⟨gb254, 0, none⟩) (Kd.V_mono HL265_3.out (fun k_ hk => (⟨hk, hk.1.1.2.2⟩ : _ ∧ k_ ≠ gb254))) (fun _ hk => hk.2) (.int .i64 ((rd_T34 l0_3 (ji33)).f0))) (fun _ hk => hk.2) (.int .u64 ((rd_T34 l0_3 (ji33)).f1))) (fun _ hk => hk.2) (.slice A265_2 ((rd_T34 l0_3 (ji33)).f2).length c265_2)) (fun _ hk => hk.2) (.slice A265_3 ((rd_T34 l0_3 (ji33)).f3).length c265_3)) (fun _ hk => ⟨hk.1.1.1.1, ⟨hk.1.1.1.2.1, hk.1.1.1.2.2⟩⟩)⟩, ⟨by (with_reducible repeat (first | refine blk_drewN ?_ _ | refine blk_drew ?_ | refine blk_alloc ?_ _)); refine blk_far ?_ NB250_254.out _; (with_reducible repeat (first | refine blk_drewN ?_ _ | refine blk_drew ?_ | refine blk_alloc ?_ _)); refine blk_far ?_ NB250_254.out _; (with_reducible repeat (first | refine blk_drewN ?_ _ | refine blk_drew ?_ | refine blk_alloc ?_ _)); refine blk_far ?_ NB250_254.out _; (with_reducible repeat (first | refine blk_drewN ?_ _ | refine blk_drew ?_ | refine blk_alloc ?_ _)); refine blk_far ?_ NB250_254.out _; (with_reducible repeat (first | refine blk_drewN ?_ _ | refine blk_drew ?_ | refine blk_alloc ?_ _)); exact BK250.out⟩, ⟨by (with_reducible repeat (first | refine blk_drewN ?_ _ | refine blk_drew ?_ | refine blk_alloc ?_ _)); refine blk_put (cs := #[.int .i64 ((rd_T34 l0_3 (ji33)).f0), .int .u64 ((rd_T34 l0_3 (ji33)).f1), .slice A265_2 ((rd_T34 l0_3 (ji33)).f2).length c265_2, u255003]) ?_ 3 _ rfl; (with_reducible repeat (first | refine blk_drewN ?_ _ | refine blk_drew ?_ | refine blk_alloc ?_ _)); refine blk_put (cs := #[.int .i64 ((rd_T34 l0_3 (ji33)).f0), .int .u64 ((rd_T34 l0_3 (ji33)).f1), u255002, u255003]) ?_ 2 _ rfl; (with_reducible repeat (first | refine blk_drewN ?_ _ | refine blk_drew ?_ | refine blk_alloc ?_ _)); refine blk_put (cs := #[.int .i64 ((rd_T34 l0_3 (ji33)).f0), .int .u64 x255001_2, u255002, u255003]) ?_ 1 _ rfl; (with_reducible repeat (first | refine blk_drewN ?_ _ | refine blk_drew ?_ | refine blk_alloc ?_ _)); refine blk_put (cs := #[.int .i64 x255000_2, .int .u64 x255001_2, u255002, u255003]) ?_ 0 _ rfl; (with_reducible repeat (first | refine blk_drewN ?_ _ | refine blk_drew ?_ | refine blk_alloc ?_ _)); exact BK254.out⟩, ⟨by repeat (first | (with_reducible first | exact HB.out | apply below_alloc | apply pw_below_drewN | apply below_drew1 | refine below_set ?_ GE250.out | refine below_set ?_ GE254.out) | exact HB.out)⟩⟩
             ·rw [if_neg c35] at H
              exact absurd H (by simp)
            ·rw [if_neg c34] at H
             exact absurd H (by simp)
           ·replace c32 := Bool.eq_false_iff.mpr c32
            subst c32
            have H1 : (pyxlaw10_CborGets.l0 kj17 a1 x6_2 (wrap64 (x7_2 + 2)) a0_0 a0_1 l0_2 l0_3 x255000_2 x255001_2 x255002_2 x255003_2) = some r := by rw [if_neg (show ¬ (false = true) by decide)] at H; exact H
            clear H
            have H := H1
            clear H1
            have H' := Aside0.mk H
            clear H
            try go_wp2
            have n0_ := Aside0.mk (Kd.V_drew HO_251002.out)
            have n1_ := Aside0.mk (Kd.V_drew HO_251003.out)
            have n2_ := Aside0.mk (Kd.V_drew HO_255002.out)
            have n3_ := Aside0.mk (Kd.V_drew HO_255003.out)
            have n4_ := Aside0.mk (blk_drew BK250.out)
            have n5_ := Aside0.mk (blk_drew BK254.out)
            have n6_ := Aside0.mk (below_drew1 HB.out)
            clear HO_251002
            clear HO_251003
            clear HO_255002
            clear HO_255003
            clear BK250
            clear BK254
            clear HB
            have HO_251002 := n0_
            have HO_251003 := n1_
            have HO_255002 := n2_
            have HO_255003 := n3_
            have BK250 := n4_
            have BK254 := n5_
            have HB := n6_
            clear n0_ n1_ n2_ n3_ n4_ n5_ n6_
            have p255 : 0 ≤ (x7_2 : Int) := of_decide_eq_true q95_
            have q255 : x7_2 < (l0_3.length : Int) := of_decide_eq_true q95_
            obtain ⟨ad255, A255_2, c255_2, A255_3, c255_3, e255, hx255_0, hx255_1, hx255_2, hx255_3, hl255_2, hi255_2, hl255_3, hi255_3⟩ := at_T34 (Kd.V_reads' HO_251003.out).2.2 x7_2 p255 q255
            cases e255
            obtain ⟨ce255, hce255, hMe255, hcc255⟩ := Kd.V_get HO_251003.out z34 x7_2 p255 (by first | exact q255 | exact of_decide_eq_true q95_ | (have e_ := (Kd.V_reads' HO_251003.out).1; omega))
            obtain ⟨ua255_2, uc255_2, ua255_3, uc255_3, rfl, ul255_2, ge255_2, ul255_3, ge255_3⟩ := k34_openF hMe255
            have hv255_2 := hcc255 2 _ rfl
            rw [add_field _ _ 2 (by omega)] at hv255_2
            replace hv255_2 := Option.some.inj (hv255_2.symm.trans hx255_2)
            injection hv255_2 with hva_ hvn_ hvc_
            rw [hva_] at ge255_2
            rw [hvc_] at ul255_2
            have HL255_2 := Aside0.mk (show Kd.V (Kd.int .u8) 5 _ w.heap.size _ _ ((rd_T34 l0_3 x7_2).f2) from Kd.V_mk ul255_2 ge255_2)
            clear hva_ hvn_ hvc_ ge255_2 ul255_2
            have hv255_3 := hcc255 3 _ rfl
            rw [add_field _ _ 3 (by omega)] at hv255_3
            replace hv255_3 := Option.some.inj (hv255_3.symm.trans hx255_3)
            injection hv255_3 with hva_ hvn_ hvc_
            rw [hva_] at ge255_3
            rw [hvc_] at ul255_3
            have HL255_3 := Aside0.mk (show Kd.V k34 34 _ w.heap.size _ _ ((rd_T34 l0_3 x7_2).f3) from Kd.V_mk ul255_3 ge255_3)
            clear hva_ hvn_ hvc_ ge255_3 ul255_3
            clear hcc255 hce255
            have HR255_2 := Aside0.mk hi255_2
            have HC255_2 := Aside0.mk hl255_2
            clear hi255_2 hl255_2
            have HR255_3 := Aside0.mk hi255_3
            have HC255_3 := Aside0.mk hl255_3
            clear hi255_3 hl255_3
            replace p255 := eq_true p255
            replace q255 := eq_true q255
            refine start_ (n := 8) (S := fun w' => w'.cell? ⟨gb250, 0, none⟩ = some (.int .i64 a0_0) ∧ w'.cell? ⟨gb250, 1, none⟩ = some (.int .u64 a0_1) ∧ w'.cell? ⟨gb250, 2, none⟩ = some (.slice A0_2 l0_2.length c0_2) ∧ w'.cell? ⟨gb250, 3, none⟩ = some (.slice (some ad255) l0_3.length c0_3) ∧ w'.cell? (ad255.add ((x7_2).toNat * 4)) = some (.int .i64 ((rd_T34 l0_3 x7_2).f0)) ∧ w'.cell? ⟨(ad255.add ((x7_2).toNat * 4)).block, (ad255.add ((x7_2).toNat * 4)).off + 1, none⟩ = some (.int .u64 ((rd_T34 l0_3 x7_2).f1)) ∧ w'.cell? ⟨(ad255.add ((x7_2).toNat * 4)).block, (ad255.add ((x7_2).toNat * 4)).off + 2, none⟩ = some (.slice A255_2 ((rd_T34 l0_3 x7_2).f2).length c255_2) ∧ w'.cell? ⟨(ad255.add ((x7_2).toNat * 4)).block, (ad255.add ((x7_2).toNat * 4)).off + 3, none⟩ = some (.slice A255_3 ((rd_T34 l0_3 x7_2).f3).length c255_3)) (ds := []) #[false, false, false, false, false, false, false, false] (by kernel_rfl) rfl rfl ⟨(blk_cell BK250.out 0).trans rfl, (blk_cell BK250.out 1).trans rfl, (blk_cell BK250.out 2).trans rfl, (blk_cell BK250.out 3).trans rfl, hx255_0, hx255_1, hx255_2, hx255_3⟩ (fun hHeld => ?_); refine with_tabW pyxlaw10_CborGets.tab8 pyxlaw10_CborGets.bits8 (fun HT_ HW_ => ?_)
            generalize wc.drew = w44 at HO_251002 HO_251003 HO_255002 HO_255003 BK250 BK254 HB HL255_2 HL255_3 HR255_2 HR255_3 hx255_0 hx255_1 hx255_2 hx255_3 hHeld ⊢
            refine pure_ (i := 0) (N := some 39) (v := ?_) (a' := ?_) #[true, false, false, false, false, false, false, false] rfl rfl (any_of HT_.out (by kernel_rfl)) (fun _ _ _ h => h) (Or.inl ⟨by rfl, ?_⟩) ?_ ?_
            rotate_left
            ·intro w'
             go_simp
             with_reducible rfl
            rotate_left
            ·simp only [Act.put, List.setIfInBounds_toArray, List.set_cons_zero, List.set_cons_succ, i64_w, i32_w]
             rfl
            refine pure_ (i := 2) (N := some 41) (v := ?_) (a' := ?_) #[true, false, true, false, false, false, false, false] rfl rfl (any_of HT_.out (by kernel_rfl)) (fun _ _ _ h => h) (Or.inl ⟨by rfl, ?_⟩) ?_ ?_
            rotate_left
            ·intro w'
             go_simp
             with_reducible rfl
            rotate_left
            ·simp only [Act.put, List.setIfInBounds_toArray, List.set_cons_zero, List.set_cons_succ, i64_w, i32_w]
             rfl
            refine pure_ (i := 5) (N := some 44) (v := ?_) (a' := ?_) #[true, false, true, false, false, true, false, false] rfl rfl (any_of HT_.out (by kernel_rfl)) (fun _ _ _ h => h) (Or.inl ⟨by rfl, ?_⟩) ?_ ?_
            rotate_left
            ·intro w'
             go_simp
             with_reducible rfl
            rotate_left
            ·simp only [Act.put, List.setIfInBounds_toArray, List.set_cons_zero, List.set_cons_succ, i64_w, i32_w]
             rfl
            refine take_ (i := 1) (N := some 40) (v := ?_) (a' := ?_) #[true, true, true, false, false, true, false, false] rfl rfl (take_ofW HT_.out HW_.out (by kernel_rfl)) (fun _ _ _ h => h) (Or.inl ⟨by rfl, ?_⟩) hHeld ?_ ?_
            rotate_left
            ·rintro w' ⟨s0, s1, s2, s3, s4, s5, s6, s7⟩
             go_simp
             with_reducible rfl
            rotate_left
            ·simp only [Act.put, List.setIfInBounds_toArray, List.set_cons_zero, List.set_cons_succ, i64_w, i32_w]
             rfl
            refine pure_ (i := 3) (N := some 42) (v := ?_) (a' := ?_) #[true, true, true, true, false, true, false, false] rfl rfl (any_of HT_.out (by kernel_rfl)) (fun _ _ _ h => h) (Or.inl ⟨by rfl, ?_⟩) ?_ ?_
            rotate_left
            ·intro w'
             go_simp
             with_reducible rfl
            rotate_left
            ·simp only [Act.put, List.setIfInBounds_toArray, List.set_cons_zero, List.set_cons_succ, i64_w, i32_w]
             rfl
            refine take_ (i := 4) (N := some 43) (v := ?_) (a' := ?_) #[true, true, true, true, true, true, false, false] rfl rfl (take_ofW HT_.out HW_.out (by kernel_rfl)) (fun _ _ _ h => h) (Or.inl ⟨by rfl, ?_⟩) hHeld ?_ ?_
            rotate_left
            ·rintro w' ⟨s0, s1, s2, s3, s4, s5, s6, s7⟩
             go_simp
             with_reducible rfl
            rotate_left
            ·simp only [Act.put, List.setIfInBounds_toArray, List.set_cons_zero, List.set_cons_succ, i64_w, i32_w]
             rfl
            refine one_ (i := 6) (N := some 45) #[true, true, true, true, true, true, true, false] rfl rfl (one_of HT_.out (by kernel_rfl)) (by decide) (fun K hK => ?_)
            refine goes_ Tryd.func29 (by kernel_rfl) rfl #[.int .i64 a1] (by rfl) rfl rfl q43_ ?_
            with_reducible refine (pyxref10_Int.calls a1 t256 t257 t258 t261 _ A30.out).mono ?_
            rintro e w45 ⟨v259, v262, rfl, ho0, ho1, hb⟩
            have HS4_ := (hb.cell (World.block_lt_of_cell? _ _ (hHeld.2.2.2.2.1))).trans (hHeld.2.2.2.2.1)
            have HS5_ := (hb.cell (World.block_lt_of_cell? _ _ (hHeld.2.2.2.2.2.1))).trans (hHeld.2.2.2.2.2.1)
            have HS6_ := (hb.cell (World.block_lt_of_cell? _ _ (hHeld.2.2.2.2.2.2.1))).trans (hHeld.2.2.2.2.2.2.1)
            have HS7_ := (hb.cell (World.block_lt_of_cell? _ _ (hHeld.2.2.2.2.2.2.2))).trans (hHeld.2.2.2.2.2.2.2)
            refine ⟨_, rfl, ?_⟩
            have n0_ := Aside0.mk (Kd.V_mono (Kd.V_told (Kd.V_told (Kd.V_old q61_ hb) (Kd.R_base ho0)) q94_) (fun _ h_ => h_.1))
            have n1_ := Aside0.mk (Kd.V_mono (Kd.V_told (Kd.V_told (Kd.V_old q62_ hb) (Kd.R_base ho0)) q94_) (fun _ h_ => h_.1))
            have n2_ := Aside0.mk (Kd.V_mono (Kd.V_told (Kd.V_told (Kd.V_old q63_ hb) (Kd.R_base ho0)) q94_) (fun _ h_ => h_.1))
            have n3_ := Aside0.mk (Kd.V_mono (Kd.V_told (Kd.V_told (Kd.V_old q64_ hb) (Kd.R_base ho0)) q94_) (fun _ h_ => h_.1))
            have n4_ := Aside0.mk (Kd.V_mono (Kd.V_told (Kd.V_told (Kd.V_old q67_ hb) (Kd.R_base ho0)) q94_) (fun _ h_ => h_.1))
            have n5_ := Aside0.mk (Kd.V_mono (Kd.V_told (Kd.V_told (Kd.V_old q68_ hb) (Kd.R_base ho0)) q94_) (fun _ h_ => h_.1))
            have n6_ := Aside0.mk (Kd.R_lower (Kd.R_newM (M := fun k_ => (w.heap.size ≤ k_)) ho0 (below_size q28_) (fun k_ h_ => h_)) (below_size q28_))
            have n7_ := Aside0.mk (Kd.N_lower (Kd.N_mono (ok' := fun k_ => ((P0_2_ k_ ∨ P0_3_ k_) ∨ w.heap.size ≤ k_) ∧ some k_ ≠ (v259 : Value).ownBlock ∧ k_ ≠ gb250 ∧ k_ ≠ gb254) (Kd.R_N (Kd.R_bound ho1)) (fun k_ hk_ => ⟨(.inr (Nat.le_trans (below_size q28_) hk_.2.1)), hk_.1, (Kd.freshB (g := gb250) (o := .cells #[.int .i64 a0_0, .int .u64 a0_1, .slice A0_2 l0_2.length c0_2, .slice (some ad255) l0_3.length c0_3] 34 (0, 0)) q54_ k_ hk_.2.1), (Kd.freshB (g := gb254) (o := .cells #[.int .i64 x255000_2, .int .u64 x255001_2, u255002, u255003] 34 (0, 0)) q55_ k_ hk_.2.1)⟩)) (below_size q28_))
            have n8_ := Aside0.mk (blk_below (g := gb250) (o := .cells #[.int .i64 a0_0, .int .u64 a0_1, .slice A0_2 l0_2.length c0_2, .slice (some ad255) l0_3.length c0_3] 34 (0, 0)) q54_ hb)
            have n9_ := Aside0.mk (blk_below (g := gb254) (o := .cells #[.int .i64 x255000_2, .int .u64 x255001_2, u255002, u255003] 34 (0, 0)) q55_ hb)
            have n10_ := Aside0.mk (Kd.C_below q33_ hb)
            have n11_ := Aside0.mk (Kd.C_below q34_ hb)
            have n12_ := Aside0.mk (below_step q28_ hb)
            clear HO_251002
            clear HO_251003
            clear HO_255002
            clear HO_255003
            clear HL255_2
            clear HL255_3
            clear BK250
            clear BK254
            clear HR255_2
            clear HR255_3
            clear HB
            have HO_251002 := n0_
            have HO_251003 := n1_
            have HO_255002 := n2_
            have HO_255003 := n3_
            have HL255_2 := n4_
            have HL255_3 := n5_
            have HO260 := n6_
            have HO263 := n7_
            have BK250 := n8_
            have BK254 := n9_
            have HR255_2 := n10_
            have HR255_3 := n11_
            have HB := n12_
            clear n0_ n1_ n2_ n3_ n4_ n5_ n6_ n7_ n8_ n9_ n10_ n11_ n12_
            (try clear hb)
            (try clear hb2)
            (try clear hk)
            (try clear hi)
            (try clear ho0)
            (try clear ho1)
            obtain ⟨Ao46, co46, eo46⟩ := Kd.R_slice HO260.out
            (first | subst eo46 | (injection eo46 with f1_ f2_ f3_; have f4_ := f1_.symm; have f5_ := f3_.symm; clear f1_ f2_ f3_; subst f4_; subst f5_))
            obtain ⟨Ao47, co47, eo47⟩ := Kd.N_slice HO263.out
            (first | subst eo47 | (injection eo47 with f1_ f2_ f3_; have f4_ := f1_.symm; have f5_ := f3_.symm; clear f1_ f2_ f3_; subst f4_; subst f5_))
            refine hK.out _ _ ⟨(blk_cell BK250.out 0).trans rfl, (blk_cell BK250.out 1).trans rfl, (blk_cell BK250.out 2).trans rfl, (blk_cell BK250.out 3).trans rfl, HS4_, HS5_, HS6_, HS7_⟩ (fun hHeld => ?_)
            clear hK K
            refine norm_ (a' := ?_) ?_ ?_
            rotate_left
            ·show Act.put _ (some 45) _ = _
             simp only [Act.put, List.setIfInBounds_toArray, List.set_cons_zero, List.set_cons_succ, i64_w, i32_w]
             rfl
            refine one_ (i := 7) (N := some 46) #[true, true, true, true, true, true, true, true] rfl rfl (one_of HT_.out (by kernel_rfl)) (by decide) (fun K hK => ?_)
            refine goes_ Tryd.func17 (by kernel_rfl) rfl #[.agg #[.int .i64 ((rd_T34 l0_3 x7_2).f0), .int .u64 ((rd_T34 l0_3 x7_2).f1), .slice A255_2 ((rd_T34 l0_3 x7_2).f2).length c255_2, .slice A255_3 ((rd_T34 l0_3 x7_2).f3).length c255_3], .agg #[.int .i64 t256, .int .u64 t257, .slice Ao46 t258.length co46, .slice Ao47 t261.length co47]] (by rfl) rfl rfl q43_ ?_
            with_reducible refine (pyxref10_Same.calls kj17 ((rd_T34 l0_3 x7_2).f0) ((rd_T34 l0_3 x7_2).f1) _ _ ((rd_T34 l0_3 x7_2).f2) _ _ ((rd_T34 l0_3 x7_2).f3) t256 t257 _ _ t258 _ _ t261 false _ ?side1 ?side2 ?side3 ?side4 ?side5 ?side6 ?side7 ?side8 A31.out).mono ?_
            (case side1 => repeat (first | exact q33_ | (with_reducible refine Kd.C_alloc ?_ _) | (with_reducible refine Kd.C_drewN ?_ _) | (with_reducible refine Kd.C_drew ?_)))
            (case side2 => exact HC255_2.out)
            (case side3 => repeat (first | exact q34_ | (with_reducible refine Kd.C_alloc ?_ _) | (with_reducible refine Kd.C_drewN ?_ _) | (with_reducible refine Kd.C_drew ?_)))
            (case side4 => exact HC255_3.out)
            (case side5 => repeat (first | exact (Kd.R_reads' HO260.out).2.2 | (with_reducible refine Kd.C_alloc ?_ _) | (with_reducible refine Kd.C_drewN ?_ _) | (with_reducible refine Kd.C_drew ?_)))
            (case side6 => exact (Kd.R_reads' HO260.out).2.1)
            (case side7 => repeat (first | exact (Kd.N_reads' HO263.out).2.2 | (with_reducible refine Kd.C_alloc ?_ _) | (with_reducible refine Kd.C_drewN ?_ _) | (with_reducible refine Kd.C_drew ?_)))
            (case side8 => exact (Kd.N_reads' HO263.out).2.1)
            rintro e w48 ⟨rfl, hb⟩
            have HS4_ := (hb.cell (World.block_lt_of_cell? _ _ (hHeld.2.2.2.2.1))).trans (hHeld.2.2.2.2.1)
            have HS5_ := (hb.cell (World.block_lt_of_cell? _ _ (hHeld.2.2.2.2.2.1))).trans (hHeld.2.2.2.2.2.1)
            have HS6_ := (hb.cell (World.block_lt_of_cell? _ _ (hHeld.2.2.2.2.2.2.1))).trans (hHeld.2.2.2.2.2.2.1)
            have HS7_ := (hb.cell (World.block_lt_of_cell? _ _ (hHeld.2.2.2.2.2.2.2))).trans (hHeld.2.2.2.2.2.2.2)
            refine ⟨_, rfl, ?_⟩
            have n0_ := Aside0.mk (Kd.V_below q61_ hb)
            have n1_ := Aside0.mk (Kd.V_below q62_ hb)
            have n2_ := Aside0.mk (Kd.V_below q63_ hb)
            have n3_ := Aside0.mk (Kd.V_below q64_ hb)
            have n4_ := Aside0.mk (Kd.V_below q67_ hb)
            have n5_ := Aside0.mk (Kd.V_below q68_ hb)
            have n6_ := Aside0.mk (Kd.R_below (by (with_reducible repeat (first | apply Kd.R_alloc | apply Kd.R_drewN | apply Kd.R_drew)); exact HO260.out) hb)
            have n7_ := Aside0.mk (Kd.N_below (by (with_reducible repeat (first | apply Kd.N_alloc | apply Kd.N_drewN | apply Kd.N_drew)); exact HO263.out) hb)
            have n8_ := Aside0.mk (blk_below (g := gb250) (o := .cells #[.int .i64 a0_0, .int .u64 a0_1, .slice A0_2 l0_2.length c0_2, .slice (some ad255) l0_3.length c0_3] 34 (0, 0)) q54_ hb)
            have n9_ := Aside0.mk (blk_below (g := gb254) (o := .cells #[.int .i64 x255000_2, .int .u64 x255001_2, u255002, u255003] 34 (0, 0)) q55_ hb)
            have n10_ := Aside0.mk (Kd.C_below q33_ hb)
            have n11_ := Aside0.mk (Kd.C_below q34_ hb)
            have n12_ := Aside0.mk (below_step q28_ hb)
            clear HO_251002
            clear HO_251003
            clear HO_255002
            clear HO_255003
            clear HL255_2
            clear HL255_3
            clear HO260
            clear HO263
            clear BK250
            clear BK254
            clear HR255_2
            clear HR255_3
            clear HB
            have HO_251002 := n0_
            have HO_251003 := n1_
            have HO_255002 := n2_
            have HO_255003 := n3_
            have HL255_2 := n4_
            have HL255_3 := n5_
            have HO260 := n6_
            have HO263 := n7_
            have BK250 := n8_
            have BK254 := n9_
            have HR255_2 := n10_
            have HR255_3 := n11_
            have HB := n12_
            clear n0_ n1_ n2_ n3_ n4_ n5_ n6_ n7_ n8_ n9_ n10_ n11_ n12_
            (try clear hb)
            (try clear hb2)
            (try clear hk)
            (try clear hi)
            refine hK.out _ _ ⟨(blk_cell BK250.out 0).trans rfl, (blk_cell BK250.out 1).trans rfl, (blk_cell BK250.out 2).trans rfl, (blk_cell BK250.out 3).trans rfl, HS4_, HS5_, HS6_, HS7_⟩ (fun hHeld => ?_)
            clear hK K
            refine norm_ (a' := ?_) ?_ ?_
            rotate_left
            ·show Act.put _ (some 46) _ = _
             simp only [Act.put, List.setIfInBounds_toArray, List.set_cons_zero, List.set_cons_succ, i64_w, i32_w]
             rfl
            refine done_ (done_of HT_.out (by kernel_rfl)) ?_
            try go_wp2
            go_roundg kj17
            case measure => have := HJ2.out; have := HK2.out; have := HJ17.out; omega
            case rel => exact ⟨(x6_2), (wrap64 (x7_2 + 2)), (x255000_2), (x255001_2), (x255002_2), (x255003_2), (u255002), (u255003), q97_, q97_, H', ⟨by have := HJ2.out; have := HK2.out; have := HJ17.out; omega⟩, ⟨by (with_reducible repeat (first | apply Kd.V_alloc | apply Kd.V_drewN | apply Kd.V_drew)); exact Kd.V_mono HO_251002.out (fun _ hk => ⟨hk.1.1.1, ⟨hk.1.1.2.1, hk.1.1.2.2⟩⟩)⟩, ⟨by (with_reducible repeat (first | apply Kd.V_alloc | apply Kd.V_drewN | apply Kd.V_drew)); exact Kd.V_mono HO_251003.out (fun _ hk => ⟨hk.1.1.1, ⟨hk.1.1.2.1, hk.1.1.2.2⟩⟩)⟩, ⟨by (with_reducible repeat (first | apply Kd.V_alloc | apply Kd.V_drewN | apply Kd.V_drew)); exact Kd.V_mono HO_255002.out (fun _ hk => ⟨hk.1.1.1, ⟨hk.1.1.2.1, hk.1.1.2.2⟩⟩)⟩, ⟨by (with_reducible repeat (first | apply Kd.V_alloc | apply Kd.V_drewN | apply Kd.V_drew)); exact Kd.V_mono HO_255003.out (fun _ hk => ⟨hk.1.1.1, ⟨hk.1.1.2.1, hk.1.1.2.2⟩⟩)⟩, ⟨by (with_reducible repeat (first | refine blk_drewN ?_ _ | refine blk_drew ?_ | refine blk_alloc ?_ _)); exact BK250.out⟩, ⟨by (with_reducible repeat (first | refine blk_drewN ?_ _ | refine blk_drew ?_ | refine blk_alloc ?_ _)); exact BK254.out⟩, ⟨by repeat (first | (with_reducible first | exact HB.out | apply below_alloc | apply pw_below_drewN | apply below_drew1 | refine below_set ?_ GE250.out | refine below_set ?_ GE254.out) | exact HB.out)⟩⟩
          ·rw [if_neg c29] at H
           exact absurd H (by simp)
         ·rw [if_neg c28] at H
          exact absurd H (by simp)
        ·replace c27 := Bool.eq_false_iff.mpr c27
         subst c27
         have H1 : ((pyxlaw10_given.f kj17 a0_0 a0_1 l0_2 l0_3).bind fun bt266 => ((cbor_Get.f kj17 bt266.1 bt266.2.1 bt266.2.2.1 bt266.2.2.2 a1).bind fun bt274 => ((pyxlaw10_given.f kj17 a0_0 a0_1 l0_2 l0_3).bind fun bt284 => ((cbor_Value.f kj17 bt284.1 bt284.2.1 bt284.2.2.1 bt284.2.2.2).bind fun bt292 => (if a0_0 = 0 then (pyxlaw10_CborGets.j3 kj17 x6_2 bt274.2.2.2.2 bt292.1 bt292.2 (decide (a0_1 < 9223372036854775808)) a0_0 a0_1 l0_2 l0_3 x255000_2 x255001_2 x255002_2 x255003_2 bt274.1 bt274.2.1 bt274.2.2.1 bt274.2.2.2.1) else (if a0_0 = 1 then (pyxlaw10_CborGets.j3 kj17 x6_2 bt274.2.2.2.2 bt292.1 bt292.2 (decide (a0_1 < 9223372036854775808)) a0_0 a0_1 l0_2 l0_3 x255000_2 x255001_2 x255002_2 x255003_2 bt274.1 bt274.2.1 bt274.2.2.1 bt274.2.2.2.1) else (pyxlaw10_CborGets.j3 kj17 x6_2 bt274.2.2.2.2 bt292.1 bt292.2 false a0_0 a0_1 l0_2 l0_3 x255000_2 x255001_2 x255002_2 x255003_2 bt274.1 bt274.2.1 bt274.2.2.1 bt274.2.2.2.1))))))) = some r := by rw [if_neg (show ¬ (false = true) by decide)] at H; exact H
         clear H
         have H := H1
         clear H1
         replace H := Option.bind_eq_some_iff.mp H
         obtain ⟨⟨t266, t267, t268, t271⟩, A490, H⟩ := H
         replace H : ((cbor_Get.f kj17 t266 t267 t268 t271 a1).bind fun bt274 => ((pyxlaw10_given.f kj17 a0_0 a0_1 l0_2 l0_3).bind fun bt284 => ((cbor_Value.f kj17 bt284.1 bt284.2.1 bt284.2.2.1 bt284.2.2.2).bind fun bt292 => (if a0_0 = 0 then (pyxlaw10_CborGets.j3 kj17 x6_2 bt274.2.2.2.2 bt292.1 bt292.2 (decide (a0_1 < 9223372036854775808)) a0_0 a0_1 l0_2 l0_3 x255000_2 x255001_2 x255002_2 x255003_2 bt274.1 bt274.2.1 bt274.2.2.1 bt274.2.2.2.1) else (if a0_0 = 1 then (pyxlaw10_CborGets.j3 kj17 x6_2 bt274.2.2.2.2 bt292.1 bt292.2 (decide (a0_1 < 9223372036854775808)) a0_0 a0_1 l0_2 l0_3 x255000_2 x255001_2 x255002_2 x255003_2 bt274.1 bt274.2.1 bt274.2.2.1 bt274.2.2.2.1) else (pyxlaw10_CborGets.j3 kj17 x6_2 bt274.2.2.2.2 bt292.1 bt292.2 false a0_0 a0_1 l0_2 l0_3 x255000_2 x255001_2 x255002_2 x255003_2 bt274.1 bt274.2.1 bt274.2.2.1 bt274.2.2.2.1)))))) = some r := H
         have A49 := Aside0.mk A490
         clear A490
         replace H := Option.bind_eq_some_iff.mp H
         obtain ⟨⟨t274, t275, t276, t279, t282⟩, A500, H⟩ := H
         replace H : ((pyxlaw10_given.f kj17 a0_0 a0_1 l0_2 l0_3).bind fun bt284 => ((cbor_Value.f kj17 bt284.1 bt284.2.1 bt284.2.2.1 bt284.2.2.2).bind fun bt292 => (if a0_0 = 0 then (pyxlaw10_CborGets.j3 kj17 x6_2 t282 bt292.1 bt292.2 (decide (a0_1 < 9223372036854775808)) a0_0 a0_1 l0_2 l0_3 x255000_2 x255001_2 x255002_2 x255003_2 t274 t275 t276 t279) else (if a0_0 = 1 then (pyxlaw10_CborGets.j3 kj17 x6_2 t282 bt292.1 bt292.2 (decide (a0_1 < 9223372036854775808)) a0_0 a0_1 l0_2 l0_3 x255000_2 x255001_2 x255002_2 x255003_2 t274 t275 t276 t279) else (pyxlaw10_CborGets.j3 kj17 x6_2 t282 bt292.1 bt292.2 false a0_0 a0_1 l0_2 l0_3 x255000_2 x255001_2 x255002_2 x255003_2 t274 t275 t276 t279))))) = some r := H
         have A50 := Aside0.mk A500
         clear A500
         replace H := Option.bind_eq_some_iff.mp H
         obtain ⟨⟨t284, t285, t286, t289⟩, A510, H⟩ := H
         replace H : ((cbor_Value.f kj17 t284 t285 t286 t289).bind fun bt292 => (if a0_0 = 0 then (pyxlaw10_CborGets.j3 kj17 x6_2 t282 bt292.1 bt292.2 (decide (a0_1 < 9223372036854775808)) a0_0 a0_1 l0_2 l0_3 x255000_2 x255001_2 x255002_2 x255003_2 t274 t275 t276 t279) else (if a0_0 = 1 then (pyxlaw10_CborGets.j3 kj17 x6_2 t282 bt292.1 bt292.2 (decide (a0_1 < 9223372036854775808)) a0_0 a0_1 l0_2 l0_3 x255000_2 x255001_2 x255002_2 x255003_2 t274 t275 t276 t279) else (pyxlaw10_CborGets.j3 kj17 x6_2 t282 bt292.1 bt292.2 false a0_0 a0_1 l0_2 l0_3 x255000_2 x255001_2 x255002_2 x255003_2 t274 t275 t276 t279)))) = some r := H
         have A51 := Aside0.mk A510
         clear A510
         replace H := Option.bind_eq_some_iff.mp H
         obtain ⟨⟨t292, t293⟩, A520, H⟩ := H
         replace H : (if a0_0 = 0 then (pyxlaw10_CborGets.j3 kj17 x6_2 t282 t292 t293 (decide (a0_1 < 9223372036854775808)) a0_0 a0_1 l0_2 l0_3 x255000_2 x255001_2 x255002_2 x255003_2 t274 t275 t276 t279) else (if a0_0 = 1 then (pyxlaw10_CborGets.j3 kj17 x6_2 t282 t292 t293 (decide (a0_1 < 9223372036854775808)) a0_0 a0_1 l0_2 l0_3 x255000_2 x255001_2 x255002_2 x255003_2 t274 t275 t276 t279) else (pyxlaw10_CborGets.j3 kj17 x6_2 t282 t292 t293 false a0_0 a0_1 l0_2 l0_3 x255000_2 x255001_2 x255002_2 x255003_2 t274 t275 t276 t279))) = some r := H
         have A52 := Aside0.mk A520
         clear A520
         have HC53 := Aside0.mk H
         clear H
         have hnb54 := NB250_254.out
         have hnc54 := NB254_250.out
         have hcz55_0 : wc.cell? ⟨gb250, 0, none⟩ = some (.int .i64 a0_0) := (blk_cell BK250.out 0).trans rfl
         have hcz55_1 : wc.cell? ⟨gb250, 1, none⟩ = some (.int .u64 a0_1) := (blk_cell BK250.out 1).trans rfl
         have hcz55_2 : wc.cell? ⟨gb250, 2, none⟩ = some (.slice A0_2 l0_2.length c0_2) := (blk_cell BK250.out 2).trans rfl
         have hcz55_3 : wc.cell? ⟨gb250, 3, none⟩ = some (.slice A0_3 l0_3.length c0_3) := (blk_cell BK250.out 3).trans rfl
         have hfz55_0 := blk_frozen BK250.out 0
         have hfz55_1 := blk_frozen BK250.out 1
         have hfz55_2 := blk_frozen BK250.out 2
         have hfz55_3 := blk_frozen BK250.out 3
         go_upto_region 13 with (first | ((with_reducible refine gate_callee (f := 22) rfl ?_); refine goesL_ (some 55) rfl rfl Tryd.func22 (by kernel_rfl) rfl #[.agg #[.int .i64 a0_0, .int .u64 a0_1, .slice A0_2 l0_2.length c0_2, .slice A0_3 l0_3.length c0_3]] rfl q43_ ?_; (with_reducible refine (pyxlaw10_given.calls kj17 a0_0 a0_1 (fun k_ => (((P0_2_ k_ ∨ P0_3_ k_) ∨ w.heap.size ≤ k_) ∧ (k_ ≠ gb250 ∧ k_ ≠ gb254))) _ _ l0_2 (fun k_ => (((P0_2_ k_ ∨ P0_3_ k_) ∨ w.heap.size ≤ k_) ∧ (k_ ≠ gb250 ∧ k_ ≠ gb254))) _ _ l0_3 t266 t267 t268 t271 _ ?side1 ?side2 A49.out).mono ?_); (case side1 => exact HO_251002.out); (case side2 => exact HO_251003.out); rintro e w56 ⟨v269, v272, rfl, ho0, ho1, hb⟩; refine ⟨_, rfl, ?_⟩; have n0_ := Aside0.mk (Kd.V_elder' q61_ q94_ hb); have n1_ := Aside0.mk (Kd.V_elder' q62_ q94_ hb); have n2_ := Aside0.mk (Kd.V_elder' q63_ q94_ hb); have n3_ := Aside0.mk (Kd.V_elder' q64_ q94_ hb); have n4_ := Aside0.mk (Kd.V_lower (Kd.V_mono (ok' := fun k_ => ((P0_2_ k_ ∨ P0_3_ k_) ∨ w.heap.size ≤ k_) ∧ some k_ ≠ (v272 : Value).ownBlock ∧ k_ ≠ gb250 ∧ k_ ≠ gb254) ho0 (fun k_ hk_ => ⟨Or.elim hk_.1 (fun hs_ => Or.elim hs_ (fun hs_ => hs_.1) (fun hs_ => hs_.1)) (fun hn_ => (.inr (Nat.le_trans (below_size q28_) hn_))), hk_.2, Or.elim hk_.1 (fun hs_ => Or.elim hs_ (fun hs_ => hs_.2.1) (fun hs_ => hs_.2.1)) (fun hn_ => (Kd.freshB (g := gb250) (o := .cells #[.int .i64 a0_0, .int .u64 a0_1, .slice A0_2 l0_2.length c0_2, .slice A0_3 l0_3.length c0_3] 34 (0, 0)) q54_ k_ hn_)), Or.elim hk_.1 (fun hs_ => Or.elim hs_ (fun hs_ => hs_.2.2) (fun hs_ => hs_.2.2)) (fun hn_ => (Kd.freshB (g := gb254) (o := .cells #[.int .i64 x255000_2, .int .u64 x255001_2, u255002, u255003] 34 (0, 0)) q55_ k_ hn_))⟩)) (below_size q28_)); have n5_ := Aside0.mk (Kd.N_lower (Kd.N_mono (ok' := fun k_ => ((P0_2_ k_ ∨ P0_3_ k_) ∨ w.heap.size ≤ k_) ∧ k_ ≠ gb250 ∧ k_ ≠ gb254) ho1 (fun k_ hk_ => ⟨Or.elim hk_ (fun hs_ => Or.elim hs_ (fun hs_ => hs_.1) (fun hs_ => hs_.1)) (fun hn_ => (.inr (Nat.le_trans (below_size q28_) hn_))), Or.elim hk_ (fun hs_ => Or.elim hs_ (fun hs_ => hs_.2.1) (fun hs_ => hs_.2.1)) (fun hn_ => (Kd.freshB (g := gb250) (o := .cells #[.int .i64 a0_0, .int .u64 a0_1, .slice A0_2 l0_2.length c0_2, .slice A0_3 l0_3.length c0_3] 34 (0, 0)) q54_ k_ hn_)), Or.elim hk_ (fun hs_ => Or.elim hs_ (fun hs_ => hs_.2.2) (fun hs_ => hs_.2.2)) (fun hn_ => (Kd.freshB (g := gb254) (o := .cells #[.int .i64 x255000_2, .int .u64 x255001_2, u255002, u255003] 34 (0, 0)) q55_ k_ hn_))⟩)) (below_size q28_)); have n6_ := Aside0.mk (blk_below (g := gb250) (o := .cells #[.int .i64 a0_0, .int .u64 a0_1, .slice A0_2 l0_2.length c0_2, .slice A0_3 l0_3.length c0_3] 34 (0, 0)) q54_ hb); have n7_ := Aside0.mk (blk_below (g := gb254) (o := .cells #[.int .i64 x255000_2, .int .u64 x255001_2, u255002, u255003] 34 (0, 0)) q55_ hb); have n8_ := Aside0.mk (below_step q28_ hb); clear HO_251002; clear HO_251003; clear HO_255002; clear HO_255003; clear BK250; clear BK254; clear HB; have HO_251002 := n0_; have HO_251003 := n1_; have HO_255002 := n2_; have HO_255003 := n3_; have HO270 := n4_; have HO273 := n5_; have BK250 := n6_; have BK254 := n7_; have HB := n8_; clear n0_ n1_ n2_ n3_ n4_ n5_ n6_ n7_ n8_; (try clear hb); (try clear hb2); (try clear hk); (try clear hi); (try clear ho0); (try clear ho1); obtain ⟨Ao57, co57, eo57⟩ := Kd.V_slice HO270.out; subst eo57; obtain ⟨Ao58, co58, eo58⟩ := Kd.N_slice HO273.out; subst eo58) | ((with_reducible refine gate_callee (f := 30) rfl ?_); refine goesL_ (some 57) rfl rfl Tryd.func30 (by kernel_rfl) rfl #[.agg #[.int .i64 t266, .int .u64 t267, .slice Ao57 t268.length co57, .slice Ao58 t271.length co58], .int .i64 a1] rfl q43_ ?_; (with_reducible refine (cbor_Get.calls kj17 t266 t267 _ _ t268 (fun k_ => (((P0_2_ k_ ∨ P0_3_ k_) ∨ w.heap.size ≤ k_) ∧ (k_ ≠ gb250 ∧ k_ ≠ gb254))) _ _ t271 a1 t274 t275 t276 t279 t282 _ ?side1 ?side2 ?side3 A50.out).mono ?_); (case side1 => repeat (first | exact (Kd.V_reads' HO270.out).2.2 | (with_reducible refine Kd.C_alloc ?_ _) | (with_reducible refine Kd.C_drewN ?_ _) | (with_reducible refine Kd.C_drew ?_))); (case side2 => exact (Kd.V_reads' HO270.out).2.1); (case side3 => exact Kd.N_V (HO273.out)); rintro e w59 ⟨v277, v280, rfl, ho0, ho1, hb⟩; refine ⟨_, rfl, ?_⟩; have n0_ := Aside0.mk (Kd.V_below q61_ hb); have n1_ := Aside0.mk (Kd.V_below q62_ hb); have n2_ := Aside0.mk (Kd.V_below q63_ hb); have n3_ := Aside0.mk (Kd.V_below q64_ hb); have n4_ := Aside0.mk (Kd.V_below q88_ hb); have n5_ := Aside0.mk (Kd.N_below q89_ hb); have n6_ := Aside0.mk (Kd.V_lower (Kd.V_mono (ok' := fun k_ => ((P0_2_ k_ ∨ P0_3_ k_) ∨ w.heap.size ≤ k_) ∧ k_ ≠ gb250 ∧ k_ ≠ gb254) ho0 (fun k_ hk_ => ⟨Or.elim hk_ (fun hs_ => hs_.1) (fun hn_ => (.inr (Nat.le_trans (below_size q28_) hn_))), Or.elim hk_ (fun hs_ => hs_.2.1) (fun hn_ => (Kd.freshB (g := gb250) (o := .cells #[.int .i64 a0_0, .int .u64 a0_1, .slice A0_2 l0_2.length c0_2, .slice A0_3 l0_3.length c0_3] 34 (0, 0)) q54_ k_ hn_)), Or.elim hk_ (fun hs_ => hs_.2.2) (fun hn_ => (Kd.freshB (g := gb254) (o := .cells #[.int .i64 x255000_2, .int .u64 x255001_2, u255002, u255003] 34 (0, 0)) q55_ k_ hn_))⟩)) (below_size q28_)); have n7_ := Aside0.mk (Kd.V_lower (Kd.V_mono (ok' := fun k_ => ((P0_2_ k_ ∨ P0_3_ k_) ∨ w.heap.size ≤ k_) ∧ k_ ≠ gb250 ∧ k_ ≠ gb254) ho1 (fun k_ hk_ => ⟨Or.elim hk_ (fun hs_ => hs_.1) (fun hn_ => (.inr (Nat.le_trans (below_size q28_) hn_))), Or.elim hk_ (fun hs_ => hs_.2.1) (fun hn_ => (Kd.freshB (g := gb250) (o := .cells #[.int .i64 a0_0, .int .u64 a0_1, .slice A0_2 l0_2.length c0_2, .slice A0_3 l0_3.length c0_3] 34 (0, 0)) q54_ k_ hn_)), Or.elim hk_ (fun hs_ => hs_.2.2) (fun hn_ => (Kd.freshB (g := gb254) (o := .cells #[.int .i64 x255000_2, .int .u64 x255001_2, u255002, u255003] 34 (0, 0)) q55_ k_ hn_))⟩)) (below_size q28_)); have n8_ := Aside0.mk (blk_below (g := gb250) (o := .cells #[.int .i64 a0_0, .int .u64 a0_1, .slice A0_2 l0_2.length c0_2, .slice A0_3 l0_3.length c0_3] 34 (0, 0)) q54_ hb); have n9_ := Aside0.mk (blk_below (g := gb254) (o := .cells #[.int .i64 x255000_2, .int .u64 x255001_2, u255002, u255003] 34 (0, 0)) q55_ hb); have n10_ := Aside0.mk (below_step q28_ hb); clear HO_251002; clear HO_251003; clear HO_255002; clear HO_255003; clear HO270; clear HO273; clear BK250; clear BK254; clear HB; have HO_251002 := n0_; have HO_251003 := n1_; have HO_255002 := n2_; have HO_255003 := n3_; have HO270 := n4_; have HO273 := n5_; have HO278 := n6_; have HO281 := n7_; have BK250 := n8_; have BK254 := n9_; have HB := n10_; clear n0_ n1_ n2_ n3_ n4_ n5_ n6_ n7_ n8_ n9_ n10_; (try clear hb); (try clear hb2); (try clear hk); (try clear hi); (try clear ho0); (try clear ho1)) | ((with_reducible refine gate_dst (N := 8) rfl ?_); (try (refine gate_guard (by rfl) ?_; dsimp only)); refine box_event ?hg (N := 8) ?hd (cs := #[.int .i64 0, .int .u64 0, .slice none 0 0, .slice none 0 0]) (t := 27) ?hr ?_; (case hd => rfl); (case hg => rfl); (case hr => first | (go_simp; done) | (go_simp; rfl)); intro gb283 hg w60 hbox hb; have n0_ := Aside0.mk (Kd.V_below (Kd.V_elderB q61_ gb283 (Nat.le_of_eq hg.symm)) hb); have n1_ := Aside0.mk (Kd.V_below (Kd.V_elderB q62_ gb283 (Nat.le_of_eq hg.symm)) hb); have n2_ := Aside0.mk (Kd.V_below (Kd.V_elderB q63_ gb283 (Nat.le_of_eq hg.symm)) hb); have n3_ := Aside0.mk (Kd.V_below (Kd.V_elderB q64_ gb283 (Nat.le_of_eq hg.symm)) hb); have n4_ := Aside0.mk (Kd.V_below (Kd.V_elderB q88_ gb283 (Nat.le_of_eq hg.symm)) hb); have n5_ := Aside0.mk (Kd.N_below (Kd.N_elderB q89_ gb283 (Nat.le_of_eq hg.symm)) hb); have n6_ := Aside0.mk (Kd.V_below (Kd.V_elderB q90_ gb283 (Nat.le_of_eq hg.symm)) hb); have n7_ := Aside0.mk (Kd.V_below (Kd.V_elderB q91_ gb283 (Nat.le_of_eq hg.symm)) hb); have n8_ := Aside0.mk (blk_below (g := gb250) (o := .cells #[.int .i64 a0_0, .int .u64 a0_1, .slice A0_2 l0_2.length c0_2, .slice A0_3 l0_3.length c0_3] 34 (0, 0)) q54_ hb); have n9_ := Aside0.mk (blk_below (g := gb254) (o := .cells #[.int .i64 x255000_2, .int .u64 x255001_2, u255002, u255003] 34 (0, 0)) q55_ hb); have n10_ := Aside0.mk (below_step q28_ hb); have n11_ := Aside0.mk (hbox); have n12_ := Aside0.mk ((by rw [hg]; exact (below_size q28_) : w.heap.size ≤ gb283)); have n13_ := Aside0.mk ((by rw [hg]; exact (below_size q28_) : w.heap.size ≤ gb283)); have n14_ := Aside0.mk ((by rw [hg]; exact Nat.ne_of_lt (blk_lt (g := gb250) (o := .cells #[.int .i64 a0_0, .int .u64 a0_1, .slice A0_2 l0_2.length c0_2, .slice A0_3 l0_3.length c0_3] 34 (0, 0)) q54_) : gb250 ≠ gb283)); have n15_ := Aside0.mk ((by rw [hg]; exact Nat.ne_of_gt (blk_lt (g := gb250) (o := .cells #[.int .i64 a0_0, .int .u64 a0_1, .slice A0_2 l0_2.length c0_2, .slice A0_3 l0_3.length c0_3] 34 (0, 0)) q54_) : gb283 ≠ gb250)); have n16_ := Aside0.mk ((by rw [hg]; exact Nat.ne_of_lt (blk_lt (g := gb254) (o := .cells #[.int .i64 x255000_2, .int .u64 x255001_2, u255002, u255003] 34 (0, 0)) q55_) : gb254 ≠ gb283)); have n17_ := Aside0.mk ((by rw [hg]; exact Nat.ne_of_gt (blk_lt (g := gb254) (o := .cells #[.int .i64 x255000_2, .int .u64 x255001_2, u255002, u255003] 34 (0, 0)) q55_) : gb283 ≠ gb254)); clear HO_251002; clear HO_251003; clear HO_255002; clear HO_255003; clear HO270; clear HO273; clear HO278; clear HO281; clear BK250; clear BK254; clear HB; have HO_251002 := n0_; have HO_251003 := n1_; have HO_255002 := n2_; have HO_255003 := n3_; have HO270 := n4_; have HO273 := n5_; have HO278 := n6_; have HO281 := n7_; have BK250 := n8_; have BK254 := n9_; have HB := n10_; have BK283 := n11_; have GW283 := n12_; have GE283 := n13_; have NB250_283 := n14_; have NB283_250 := n15_; have NB254_283 := n16_; have NB283_254 := n17_; clear n0_ n1_ n2_ n3_ n4_ n5_ n6_ n7_ n8_ n9_ n10_ n11_ n12_ n13_ n14_ n15_ n16_ n17_; clear hb hbox hg; have hnb61 := NB283_250.out; have hnc61 := NB250_283.out; have hnb62 := NB283_254.out; have hnc62 := NB254_283.out; have hcz63_0 : w60.cell? ⟨gb283, 0, none⟩ = some (.int .i64 0) := (blk_cell BK283.out 0).trans rfl; have hcz63_1 : w60.cell? ⟨gb283, 1, none⟩ = some (.int .u64 0) := (blk_cell BK283.out 1).trans rfl; have hcz63_2 : w60.cell? ⟨gb283, 2, none⟩ = some (.slice none 0 0) := (blk_cell BK283.out 2).trans rfl; have hcz63_3 : w60.cell? ⟨gb283, 3, none⟩ = some (.slice none 0 0) := (blk_cell BK283.out 3).trans rfl; have hfz63_0 := blk_frozen BK283.out 0; have hfz63_1 := blk_frozen BK283.out 1; have hfz63_2 := blk_frozen BK283.out 2; have hfz63_3 := blk_frozen BK283.out 3; obtain ⟨Ao64, co64, eo64⟩ := Kd.V_slice HO278.out; subst eo64; obtain ⟨Ao65, co65, eo65⟩ := Kd.V_slice HO281.out; subst eo65) | ((with_reducible refine gate_store (t := 27) (p := 8) rfl ?_); refine store_event (t := 27) (p := 8) (v := ?vo_w66) (w1 := ((((w60.setCell ⟨gb283, 0, none⟩ (.int .i64 t274)).setCell ⟨gb283, 1, none⟩ (.int .u64 t275)).setCell ⟨gb283, 2, none⟩ (.slice Ao64 t276.length co64)).setCell ⟨gb283, 3, none⟩ (.slice Ao65 t279.length co65))) ?hg ?ho ?hn ?hr ?_; (case ho => rfl); (case hg => rfl); (case hn => rfl); (case hr => first | (go_simp; done) | (go_simp; rfl)); intro w66 hw; have n0_ : Aside0 (Kd.V (Kd.int .u8) 5 w66 w.heap.size (fun k_ => ((P0_2_ k_ ∨ P0_3_ k_) ∨ w.heap.size ≤ k_) ∧ some k_ ≠ (.slice Ao58 t271.length co58 : Value).ownBlock ∧ k_ ≠ gb250 ∧ k_ ≠ gb254 ∧ k_ ≠ gb283) (.slice A0_2 l0_2.length c0_2) l0_2) := ⟨(by rw [hw]; exact (by (with_reducible repeat (first | apply Kd.V_alloc | apply Kd.V_drewN | apply Kd.V_drew)); exact Kd.V_mono (Kd.V_far (p := ⟨gb283, 3, none⟩) (Kd.V_far (p := ⟨gb283, 2, none⟩) (Kd.V_far (p := ⟨gb283, 1, none⟩) (Kd.V_far (p := ⟨gb283, 0, none⟩) (Kd.V_mono HO_251002.out (fun k_ hk => (⟨hk, hk.2⟩ : _ ∧ k_ ≠ gb283))) (fun _ hk => hk.2) (.int .i64 t274)) (fun _ hk => hk.2) (.int .u64 t275)) (fun _ hk => hk.2) (.slice Ao64 t276.length co64)) (fun _ hk => hk.2) (.slice Ao65 t279.length co65)) (fun _ hk => ⟨hk.1.1.1.1, ⟨hk.1.1.2, ⟨hk.1.1.1.2.1, ⟨hk.1.1.1.2.2, hk.1.2⟩⟩⟩⟩)))⟩; have n1_ : Aside0 (Kd.V k34 34 w66 w.heap.size (fun k_ => ((P0_2_ k_ ∨ P0_3_ k_) ∨ w.heap.size ≤ k_) ∧ some k_ ≠ (.slice Ao58 t271.length co58 : Value).ownBlock ∧ k_ ≠ gb250 ∧ k_ ≠ gb254 ∧ k_ ≠ gb283) (.slice A0_3 l0_3.length c0_3) l0_3) := ⟨(by rw [hw]; exact (by (with_reducible repeat (first | apply Kd.V_alloc | apply Kd.V_drewN | apply Kd.V_drew)); exact Kd.V_mono (Kd.V_far (p := ⟨gb283, 3, none⟩) (Kd.V_far (p := ⟨gb283, 2, none⟩) (Kd.V_far (p := ⟨gb283, 1, none⟩) (Kd.V_far (p := ⟨gb283, 0, none⟩) (Kd.V_mono HO_251003.out (fun k_ hk => (⟨hk, hk.2⟩ : _ ∧ k_ ≠ gb283))) (fun _ hk => hk.2) (.int .i64 t274)) (fun _ hk => hk.2) (.int .u64 t275)) (fun _ hk => hk.2) (.slice Ao64 t276.length co64)) (fun _ hk => hk.2) (.slice Ao65 t279.length co65)) (fun _ hk => ⟨hk.1.1.1.1, ⟨hk.1.1.2, ⟨hk.1.1.1.2.1, ⟨hk.1.1.1.2.2, hk.1.2⟩⟩⟩⟩)))⟩; have n2_ : Aside0 (Kd.V (Kd.int .u8) 5 w66 w.heap.size (fun k_ => ((P0_2_ k_ ∨ P0_3_ k_) ∨ w.heap.size ≤ k_) ∧ some k_ ≠ (.slice Ao58 t271.length co58 : Value).ownBlock ∧ k_ ≠ gb250 ∧ k_ ≠ gb254 ∧ k_ ≠ gb283) u255002 x255002_2) := ⟨(by rw [hw]; exact (by (with_reducible repeat (first | apply Kd.V_alloc | apply Kd.V_drewN | apply Kd.V_drew)); exact Kd.V_mono (Kd.V_far (p := ⟨gb283, 3, none⟩) (Kd.V_far (p := ⟨gb283, 2, none⟩) (Kd.V_far (p := ⟨gb283, 1, none⟩) (Kd.V_far (p := ⟨gb283, 0, none⟩) (Kd.V_mono HO_255002.out (fun k_ hk => (⟨hk, hk.2⟩ : _ ∧ k_ ≠ gb283))) (fun _ hk => hk.2) (.int .i64 t274)) (fun _ hk => hk.2) (.int .u64 t275)) (fun _ hk => hk.2) (.slice Ao64 t276.length co64)) (fun _ hk => hk.2) (.slice Ao65 t279.length co65)) (fun _ hk => ⟨hk.1.1.1.1, ⟨hk.1.1.2, ⟨hk.1.1.1.2.1, ⟨hk.1.1.1.2.2, hk.1.2⟩⟩⟩⟩)))⟩; have n3_ : Aside0 (Kd.V k34 34 w66 w.heap.size (fun k_ => ((P0_2_ k_ ∨ P0_3_ k_) ∨ w.heap.size ≤ k_) ∧ some k_ ≠ (.slice Ao58 t271.length co58 : Value).ownBlock ∧ k_ ≠ gb250 ∧ k_ ≠ gb254 ∧ k_ ≠ gb283) u255003 x255003_2) := ⟨(by rw [hw]; exact (by (with_reducible repeat (first | apply Kd.V_alloc | apply Kd.V_drewN | apply Kd.V_drew)); exact Kd.V_mono (Kd.V_far (p := ⟨gb283, 3, none⟩) (Kd.V_far (p := ⟨gb283, 2, none⟩) (Kd.V_far (p := ⟨gb283, 1, none⟩) (Kd.V_far (p := ⟨gb283, 0, none⟩) (Kd.V_mono HO_255003.out (fun k_ hk => (⟨hk, hk.2⟩ : _ ∧ k_ ≠ gb283))) (fun _ hk => hk.2) (.int .i64 t274)) (fun _ hk => hk.2) (.int .u64 t275)) (fun _ hk => hk.2) (.slice Ao64 t276.length co64)) (fun _ hk => hk.2) (.slice Ao65 t279.length co65)) (fun _ hk => ⟨hk.1.1.1.1, ⟨hk.1.1.2, ⟨hk.1.1.1.2.1, ⟨hk.1.1.1.2.2, hk.1.2⟩⟩⟩⟩)))⟩; have n4_ : Aside0 (Kd.V (Kd.int .u8) 5 w66 w.heap.size (fun k_ => ((P0_2_ k_ ∨ P0_3_ k_) ∨ w.heap.size ≤ k_) ∧ some k_ ≠ (.slice Ao58 t271.length co58 : Value).ownBlock ∧ k_ ≠ gb250 ∧ k_ ≠ gb254 ∧ k_ ≠ gb283) (.slice Ao57 t268.length co57) t268) := ⟨(by rw [hw]; exact (by (with_reducible repeat (first | apply Kd.V_alloc | apply Kd.V_drewN | apply Kd.V_drew)); exact Kd.V_mono (Kd.V_far (p := ⟨gb283, 3, none⟩) (Kd.V_far (p := ⟨gb283, 2, none⟩) (Kd.V_far (p := ⟨gb283, 1, none⟩) (Kd.V_far (p := ⟨gb283, 0, none⟩) (Kd.V_mono HO270.out (fun k_ hk => (⟨hk, hk.2⟩ : _ ∧ k_ ≠ gb283))) (fun _ hk => hk.2) (.int .i64 t274)) (fun _ hk => hk.2) (.int .u64 t275)) (fun _ hk => hk.2) (.slice Ao64 t276.length co64)) (fun _ hk => hk.2) (.slice Ao65 t279.length co65)) (fun _ hk => ⟨hk.1.1.1, ⟨hk.1.1.2.1, ⟨hk.1.1.2.2.1, ⟨hk.1.1.2.2.2, hk.1.2⟩⟩⟩⟩)))⟩; have n5_ : Aside0 (Kd.N k27 27 w66 w.heap.size (fun k_ => ((P0_2_ k_ ∨ P0_3_ k_) ∨ w.heap.size ≤ k_) ∧ k_ ≠ gb250 ∧ k_ ≠ gb254 ∧ k_ ≠ gb283) (.slice Ao58 t271.length co58) t271) := ⟨(by rw [hw]; exact (by (with_reducible repeat (first | apply Kd.N_alloc | apply Kd.N_drewN | apply Kd.N_drew)); exact Kd.N_mono (Kd.N_far (p := ⟨gb283, 3, none⟩) (Kd.N_far (p := ⟨gb283, 2, none⟩) (Kd.N_far (p := ⟨gb283, 1, none⟩) (Kd.N_far (p := ⟨gb283, 0, none⟩) (Kd.N_mono HO273.out (fun k_ hk => (⟨hk, hk.2⟩ : _ ∧ k_ ≠ gb283))) (fun _ hk => hk.2) (.int .i64 t274)) (fun _ hk => hk.2) (.int .u64 t275)) (fun _ hk => hk.2) (.slice Ao64 t276.length co64)) (fun _ hk => hk.2) (.slice Ao65 t279.length co65)) (fun _ hk => ⟨hk.1.1.1, ⟨hk.1.1.2.1, ⟨hk.1.1.2.2, hk.1.2⟩⟩⟩)))⟩; have n6_ : Aside0 (Kd.V (Kd.int .u8) 5 w66 w.heap.size (fun k_ => ((P0_2_ k_ ∨ P0_3_ k_) ∨ w.heap.size ≤ k_) ∧ k_ ≠ gb250 ∧ k_ ≠ gb254 ∧ k_ ≠ gb283) (.slice Ao64 t276.length co64) t276) := ⟨(by rw [hw]; exact (by (with_reducible repeat (first | apply Kd.V_alloc | apply Kd.V_drewN | apply Kd.V_drew)); exact Kd.V_mono (Kd.V_far (p := ⟨gb283, 3, none⟩) (Kd.V_far (p := ⟨gb283, 2, none⟩) (Kd.V_far (p := ⟨gb283, 1, none⟩) (Kd.V_far (p := ⟨gb283, 0, none⟩) (Kd.V_mono HO278.out (fun k_ hk => (⟨hk, hk.2⟩ : _ ∧ k_ ≠ gb283))) (fun _ hk => hk.2) (.int .i64 t274)) (fun _ hk => hk.2) (.int .u64 t275)) (fun _ hk => hk.2) (.slice Ao64 t276.length co64)) (fun _ hk => hk.2) (.slice Ao65 t279.length co65)) (fun _ hk => ⟨hk.1.1.1, ⟨hk.1.1.2.1, ⟨hk.1.1.2.2, hk.1.2⟩⟩⟩)))⟩; have n7_ : Aside0 (Kd.V k27 27 w66 w.heap.size (fun k_ => ((P0_2_ k_ ∨ P0_3_ k_) ∨ w.heap.size ≤ k_) ∧ k_ ≠ gb250 ∧ k_ ≠ gb254 ∧ k_ ≠ gb283) (.slice Ao65 t279.length co65) t279) := ⟨(by rw [hw]; exact (by (with_reducible repeat (first | apply Kd.V_alloc | apply Kd.V_drewN | apply Kd.V_drew)); exact Kd.V_mono (Kd.V_far (p := ⟨gb283, 3, none⟩) (Kd.V_far (p := ⟨gb283, 2, none⟩) (Kd.V_far (p := ⟨gb283, 1, none⟩) (Kd.V_far (p := ⟨gb283, 0, none⟩) (Kd.V_mono HO281.out (fun k_ hk => (⟨hk, hk.2⟩ : _ ∧ k_ ≠ gb283))) (fun _ hk => hk.2) (.int .i64 t274)) (fun _ hk => hk.2) (.int .u64 t275)) (fun _ hk => hk.2) (.slice Ao64 t276.length co64)) (fun _ hk => hk.2) (.slice Ao65 t279.length co65)) (fun _ hk => ⟨hk.1.1.1, ⟨hk.1.1.2.1, ⟨hk.1.1.2.2, hk.1.2⟩⟩⟩)))⟩; have n8_ : Aside0 (w66.heap[gb250]? = some (.cells #[.int .i64 a0_0, .int .u64 a0_1, .slice A0_2 l0_2.length c0_2, .slice A0_3 l0_3.length c0_3] 34 (0, 0))) := ⟨(by rw [hw]; exact (by (with_reducible repeat (first | refine blk_drewN ?_ _ | refine blk_drew ?_ | refine blk_alloc ?_ _)); refine blk_far ?_ NB250_283.out _; (with_reducible repeat (first | refine blk_drewN ?_ _ | refine blk_drew ?_ | refine blk_alloc ?_ _)); refine blk_far ?_ NB250_283.out _; (with_reducible repeat (first | refine blk_drewN ?_ _ | refine blk_drew ?_ | refine blk_alloc ?_ _)); refine blk_far ?_ NB250_283.out _; (with_reducible repeat (first | refine blk_drewN ?_ _ | refine blk_drew ?_ | refine blk_alloc ?_ _)); refine blk_far ?_ NB250_283.out _; (with_reducible repeat (first | refine blk_drewN ?_ _ | refine blk_drew ?_ | refine blk_alloc ?_ _)); exact BK250.out))⟩; have n9_ : Aside0 (w66.heap[gb254]? = some (.cells #[.int .i64 x255000_2, .int .u64 x255001_2, u255002, u255003] 34 (0, 0))) := ⟨(by rw [hw]; exact (by (with_reducible repeat (first | refine blk_drewN ?_ _ | refine blk_drew ?_ | refine blk_alloc ?_ _)); refine blk_far ?_ NB254_283.out _; (with_reducible repeat (first | refine blk_drewN ?_ _ | refine blk_drew ?_ | refine blk_alloc ?_ _)); refine blk_far ?_ NB254_283.out _; (with_reducible repeat (first | refine blk_drewN ?_ _ | refine blk_drew ?_ | refine blk_alloc ?_ _)); refine blk_far ?_ NB254_283.out _; (with_reducible repeat (first | refine blk_drewN ?_ _ | refine blk_drew ?_ | refine blk_alloc ?_ _)); refine blk_far ?_ NB254_283.out _; (with_reducible repeat (first | refine blk_drewN ?_ _ | refine blk_drew ?_ | refine blk_alloc ?_ _)); exact BK254.out))⟩; have n10_ : Aside0 (w66.heap[gb283]? = some (.cells #[.int .i64 t274, .int .u64 t275, .slice Ao64 t276.length co64, .slice Ao65 t279.length co65] 27 (0, 0))) := ⟨(by rw [hw]; exact (by (with_reducible repeat (first | refine blk_drewN ?_ _ | refine blk_drew ?_ | refine blk_alloc ?_ _)); refine blk_put (cs := #[.int .i64 t274, .int .u64 t275, .slice Ao64 t276.length co64, .slice none 0 0]) ?_ 3 _ rfl; (with_reducible repeat (first | refine blk_drewN ?_ _ | refine blk_drew ?_ | refine blk_alloc ?_ _)); refine blk_put (cs := #[.int .i64 t274, .int .u64 t275, .slice none 0 0, .slice none 0 0]) ?_ 2 _ rfl; (with_reducible repeat (first | refine blk_drewN ?_ _ | refine blk_drew ?_ | refine blk_alloc ?_ _)); refine blk_put (cs := #[.int .i64 t274, .int .u64 0, .slice none 0 0, .slice none 0 0]) ?_ 1 _ rfl; (with_reducible repeat (first | refine blk_drewN ?_ _ | refine blk_drew ?_ | refine blk_alloc ?_ _)); refine blk_put (cs := #[.int .i64 0, .int .u64 0, .slice none 0 0, .slice none 0 0]) ?_ 0 _ rfl; (with_reducible repeat (first | refine blk_drewN ?_ _ | refine blk_drew ?_ | refine blk_alloc ?_ _)); exact BK283.out))⟩; have n11_ : Aside0 (Below w.heap.size w w66) := ⟨(by rw [hw]; exact q23_)⟩; clear hw; clear HO_251002; clear HO_251003; clear HO_255002; clear HO_255003; clear HO270; clear HO273; clear HO278; clear HO281; clear BK250; clear BK254; clear BK283; clear HB; have HO_251002 := n0_; have HO_251003 := n1_; have HO_255002 := n2_; have HO_255003 := n3_; have HO270 := n4_; have HO273 := n5_; have HO278 := n6_; have HO281 := n7_; have BK250 := n8_; have BK254 := n9_; have BK283 := n10_; have HB := n11_; clear n0_ n1_ n2_ n3_ n4_ n5_ n6_ n7_ n8_ n9_ n10_ n11_; have hcz67_0 : w66.cell? ⟨gb250, 0, none⟩ = some (.int .i64 a0_0) := (blk_cell BK250.out 0).trans rfl; have hcz67_1 : w66.cell? ⟨gb250, 1, none⟩ = some (.int .u64 a0_1) := (blk_cell BK250.out 1).trans rfl; have hcz67_2 : w66.cell? ⟨gb250, 2, none⟩ = some (.slice A0_2 l0_2.length c0_2) := (blk_cell BK250.out 2).trans rfl; have hcz67_3 : w66.cell? ⟨gb250, 3, none⟩ = some (.slice A0_3 l0_3.length c0_3) := (blk_cell BK250.out 3).trans rfl; have hfz67_0 := blk_frozen BK250.out 0; have hfz67_1 := blk_frozen BK250.out 1; have hfz67_2 := blk_frozen BK250.out 2; have hfz67_3 := blk_frozen BK250.out 3) | ((with_reducible refine gate_callee (f := 22) rfl ?_); refine goesL_ (some 62) rfl rfl Tryd.func22 (by kernel_rfl) rfl #[.agg #[.int .i64 a0_0, .int .u64 a0_1, .slice A0_2 l0_2.length c0_2, .slice A0_3 l0_3.length c0_3]] rfl q43_ ?_; (with_reducible refine (pyxlaw10_given.calls kj17 a0_0 a0_1 (fun k_ => (((P0_2_ k_ ∨ P0_3_ k_) ∨ w.heap.size ≤ k_) ∧ (some k_ ≠ (.slice Ao58 t271.length co58 : Value).ownBlock ∧ (k_ ≠ gb250 ∧ (k_ ≠ gb254 ∧ k_ ≠ gb283))))) _ _ l0_2 (fun k_ => (((P0_2_ k_ ∨ P0_3_ k_) ∨ w.heap.size ≤ k_) ∧ (some k_ ≠ (.slice Ao58 t271.length co58 : Value).ownBlock ∧ (k_ ≠ gb250 ∧ (k_ ≠ gb254 ∧ k_ ≠ gb283))))) _ _ l0_3 t284 t285 t286 t289 _ ?side1 ?side2 A51.out).mono ?_); (case side1 => exact HO_251002.out); (case side2 => exact HO_251003.out); rintro e w68 ⟨v287, v290, rfl, ho0, ho1, hb⟩; refine ⟨_, rfl, ?_⟩; have n0_ := Aside0.mk (Kd.V_elder' q61_ q94_ hb); have n1_ := Aside0.mk (Kd.V_elder' q62_ q94_ hb); have n2_ := Aside0.mk (Kd.V_elder' q63_ q94_ hb); have n3_ := Aside0.mk (Kd.V_elder' q64_ q94_ hb); have n4_ := Aside0.mk (Kd.V_elder' q88_ q94_ hb); have n5_ := Aside0.mk (Kd.N_elder' q89_ q94_ hb); have n6_ := Aside0.mk (Kd.V_elder' q90_ q94_ hb); have n7_ := Aside0.mk (Kd.V_elder' q91_ q94_ hb); have n8_ := Aside0.mk (Kd.V_lower (Kd.V_mono (ok' := fun k_ => ((P0_2_ k_ ∨ P0_3_ k_) ∨ w.heap.size ≤ k_) ∧ some k_ ≠ (v290 : Value).ownBlock ∧ some k_ ≠ (.slice Ao58 t271.length co58 : Value).ownBlock ∧ k_ ≠ gb250 ∧ k_ ≠ gb254 ∧ k_ ≠ gb283) ho0 (fun k_ hk_ => ⟨Or.elim hk_.1 (fun hs_ => Or.elim hs_ (fun hs_ => hs_.1) (fun hs_ => hs_.1)) (fun hn_ => (.inr (Nat.le_trans (below_size q23_) hn_))), hk_.2, Or.elim hk_.1 (fun hs_ => Or.elim hs_ (fun hs_ => hs_.2.1) (fun hs_ => hs_.2.1)) (fun hn_ => (Kd.fresh' (Kd.N_lt q89_) k_ hn_)), Or.elim hk_.1 (fun hs_ => Or.elim hs_ (fun hs_ => hs_.2.2.1) (fun hs_ => hs_.2.2.1)) (fun hn_ => (Kd.freshB (g := gb250) (o := .cells #[.int .i64 a0_0, .int .u64 a0_1, .slice A0_2 l0_2.length c0_2, .slice A0_3 l0_3.length c0_3] 34 (0, 0)) q54_ k_ hn_)), Or.elim hk_.1 (fun hs_ => Or.elim hs_ (fun hs_ => hs_.2.2.2.1) (fun hs_ => hs_.2.2.2.1)) (fun hn_ => (Kd.freshB (g := gb254) (o := .cells #[.int .i64 x255000_2, .int .u64 x255001_2, u255002, u255003] 34 (0, 0)) q55_ k_ hn_)), Or.elim hk_.1 (fun hs_ => Or.elim hs_ (fun hs_ => hs_.2.2.2.2) (fun hs_ => hs_.2.2.2.2)) (fun hn_ => (Kd.freshB (g := gb283) (o := .cells #[.int .i64 t274, .int .u64 t275, .slice Ao64 t276.length co64, .slice Ao65 t279.length co65] 27 (0, 0)) q56_ k_ hn_))⟩)) (below_size q23_)); have n9_ := Aside0.mk (Kd.N_lower (Kd.N_mono (ok' := fun k_ => ((P0_2_ k_ ∨ P0_3_ k_) ∨ w.heap.size ≤ k_) ∧ some k_ ≠ (.slice Ao58 t271.length co58 : Value).ownBlock ∧ k_ ≠ gb250 ∧ k_ ≠ gb254 ∧ k_ ≠ gb283) ho1 (fun k_ hk_ => ⟨Or.elim hk_ (fun hs_ => Or.elim hs_ (fun hs_ => hs_.1) (fun hs_ => hs_.1)) (fun hn_ => (.inr (Nat.le_trans (below_size q23_) hn_))), Or.elim hk_ (fun hs_ => Or.elim hs_ (fun hs_ => hs_.2.1) (fun hs_ => hs_.2.1)) (fun hn_ => (Kd.fresh' (Kd.N_lt q89_) k_ hn_)), Or.elim hk_ (fun hs_ => Or.elim hs_ (fun hs_ => hs_.2.2.1) (fun hs_ => hs_.2.2.1)) (fun hn_ => (Kd.freshB (g := gb250) (o := .cells #[.int .i64 a0_0, .int .u64 a0_1, .slice A0_2 l0_2.length c0_2, .slice A0_3 l0_3.length c0_3] 34 (0, 0)) q54_ k_ hn_)), Or.elim hk_ (fun hs_ => Or.elim hs_ (fun hs_ => hs_.2.2.2.1) (fun hs_ => hs_.2.2.2.1)) (fun hn_ => (Kd.freshB (g := gb254) (o := .cells #[.int .i64 x255000_2, .int .u64 x255001_2, u255002, u255003] 34 (0, 0)) q55_ k_ hn_)), Or.elim hk_ (fun hs_ => Or.elim hs_ (fun hs_ => hs_.2.2.2.2) (fun hs_ => hs_.2.2.2.2)) (fun hn_ => (Kd.freshB (g := gb283) (o := .cells #[.int .i64 t274, .int .u64 t275, .slice Ao64 t276.length co64, .slice Ao65 t279.length co65] 27 (0, 0)) q56_ k_ hn_))⟩)) (below_size q23_)); have n10_ := Aside0.mk (blk_below (g := gb250) (o := .cells #[.int .i64 a0_0, .int .u64 a0_1, .slice A0_2 l0_2.length c0_2, .slice A0_3 l0_3.length c0_3] 34 (0, 0)) q54_ hb); have n11_ := Aside0.mk (blk_below (g := gb254) (o := .cells #[.int .i64 x255000_2, .int .u64 x255001_2, u255002, u255003] 34 (0, 0)) q55_ hb); have n12_ := Aside0.mk (blk_below (g := gb283) (o := .cells #[.int .i64 t274, .int .u64 t275, .slice Ao64 t276.length co64, .slice Ao65 t279.length co65] 27 (0, 0)) q56_ hb); have n13_ := Aside0.mk (below_step q23_ hb); clear HO_251002; clear HO_251003; clear HO_255002; clear HO_255003; clear HO270; clear HO273; clear HO278; clear HO281; clear BK250; clear BK254; clear BK283; clear HB; have HO_251002 := n0_; have HO_251003 := n1_; have HO_255002 := n2_; have HO_255003 := n3_; have HO270 := n4_; have HO273 := n5_; have HO278 := n6_; have HO281 := n7_; have HO288 := n8_; have HO291 := n9_; have BK250 := n10_; have BK254 := n11_; have BK283 := n12_; have HB := n13_; clear n0_ n1_ n2_ n3_ n4_ n5_ n6_ n7_ n8_ n9_ n10_ n11_ n12_ n13_; (try clear hb); (try clear hb2); (try clear hk); (try clear hi); (try clear ho0); (try clear ho1); obtain ⟨Ao69, co69, eo69⟩ := Kd.V_slice HO288.out; subst eo69; obtain ⟨Ao70, co70, eo70⟩ := Kd.N_slice HO291.out; subst eo70) | ((with_reducible refine gate_callee (f := 28) rfl ?_); refine goesL_ (some 63) rfl rfl Tryd.func28 (by kernel_rfl) rfl #[.agg #[.int .i64 t284, .int .u64 t285, .slice Ao69 t286.length co69, .slice Ao70 t289.length co70]] rfl q43_ ?_; (with_reducible refine (cbor_Value.calls kj17 t284 t285 _ _ t286 _ _ t289 t292 t293 _ ?side1 ?side2 ?side3 ?side4 A52.out).mono ?_); (case side1 => repeat (first | exact (Kd.V_reads' HO288.out).2.2 | (with_reducible refine Kd.C_alloc ?_ _) | (with_reducible refine Kd.C_drewN ?_ _) | (with_reducible refine Kd.C_drew ?_))); (case side2 => exact (Kd.V_reads' HO288.out).2.1); (case side3 => repeat (first | exact (Kd.N_reads' HO291.out).2.2 | (with_reducible refine Kd.C_alloc ?_ _) | (with_reducible refine Kd.C_drewN ?_ _) | (with_reducible refine Kd.C_drew ?_))); (case side4 => exact (Kd.N_reads' HO291.out).2.1); rintro e w71 ⟨rfl, hb⟩; refine ⟨_, rfl, ?_⟩; have n0_ := Aside0.mk (Kd.V_below q61_ hb); have n1_ := Aside0.mk (Kd.V_below q62_ hb); have n2_ := Aside0.mk (Kd.V_below q63_ hb); have n3_ := Aside0.mk (Kd.V_below q64_ hb); have n4_ := Aside0.mk (Kd.V_below q88_ hb); have n5_ := Aside0.mk (Kd.N_below q89_ hb); have n6_ := Aside0.mk (Kd.V_below q90_ hb); have n7_ := Aside0.mk (Kd.V_below q91_ hb); have n8_ := Aside0.mk (Kd.V_below (by (with_reducible repeat (first | apply Kd.V_alloc | apply Kd.V_drewN | apply Kd.V_drew)); exact HO288.out) hb); have n9_ := Aside0.mk (Kd.N_below (by (with_reducible repeat (first | apply Kd.N_alloc | apply Kd.N_drewN | apply Kd.N_drew)); exact HO291.out) hb); have n10_ := Aside0.mk (blk_below (g := gb250) (o := .cells #[.int .i64 a0_0, .int .u64 a0_1, .slice A0_2 l0_2.length c0_2, .slice A0_3 l0_3.length c0_3] 34 (0, 0)) q54_ hb); have n11_ := Aside0.mk (blk_below (g := gb254) (o := .cells #[.int .i64 x255000_2, .int .u64 x255001_2, u255002, u255003] 34 (0, 0)) q55_ hb); have n12_ := Aside0.mk (blk_below (g := gb283) (o := .cells #[.int .i64 t274, .int .u64 t275, .slice Ao64 t276.length co64, .slice Ao65 t279.length co65] 27 (0, 0)) q56_ hb); have n13_ := Aside0.mk (below_step q23_ hb); clear HO_251002; clear HO_251003; clear HO_255002; clear HO_255003; clear HO270; clear HO273; clear HO278; clear HO281; clear HO288; clear HO291; clear BK250; clear BK254; clear BK283; clear HB; have HO_251002 := n0_; have HO_251003 := n1_; have HO_255002 := n2_; have HO_255003 := n3_; have HO270 := n4_; have HO273 := n5_; have HO278 := n6_; have HO281 := n7_; have HO288 := n8_; have HO291 := n9_; have BK250 := n10_; have BK254 := n11_; have BK283 := n12_; have HB := n13_; clear n0_ n1_ n2_ n3_ n4_ n5_ n6_ n7_ n8_ n9_ n10_ n11_ n12_ n13_; (try clear hb); (try clear hb2); (try clear hk); (try clear hi)))
         (try simp only [Act.put, List.setIfInBounds_toArray, List.set_cons_zero, List.set_cons_succ])
         go_cut [12] (fun v12 wc => ∃ (kq : Nat) (x12_52 : Bool), v12 = .bool x12_52 ∧ Aside0 (pyxlaw10_CborGets.j3 kq x6_2 t282 t292 t293 x12_52 a0_0 a0_1 l0_2 l0_3 x255000_2 x255001_2 x255002_2 x255003_2 t274 t275 t276 t279 = some r) ∧ Aside0 (kq ≤ kj17) ∧ Aside0 (Kd.V (Kd.int .u8) 5 wc w.heap.size (fun k_ => ((P0_2_ k_ ∨ P0_3_ k_) ∨ w.heap.size ≤ k_) ∧ k_ ≠ gb250 ∧ k_ ≠ gb254 ∧ k_ ≠ gb283) (.slice A0_2 l0_2.length c0_2) l0_2) ∧ Aside0 (Kd.V k34 34 wc w.heap.size (fun k_ => ((P0_2_ k_ ∨ P0_3_ k_) ∨ w.heap.size ≤ k_) ∧ k_ ≠ gb250 ∧ k_ ≠ gb254 ∧ k_ ≠ gb283) (.slice A0_3 l0_3.length c0_3) l0_3) ∧ Aside0 (Kd.V (Kd.int .u8) 5 wc w.heap.size (fun k_ => ((P0_2_ k_ ∨ P0_3_ k_) ∨ w.heap.size ≤ k_) ∧ k_ ≠ gb250 ∧ k_ ≠ gb254 ∧ k_ ≠ gb283) u255002 x255002_2) ∧ Aside0 (Kd.V k34 34 wc w.heap.size (fun k_ => ((P0_2_ k_ ∨ P0_3_ k_) ∨ w.heap.size ≤ k_) ∧ k_ ≠ gb250 ∧ k_ ≠ gb254 ∧ k_ ≠ gb283) u255003 x255003_2) ∧ Aside0 (Kd.V (Kd.int .u8) 5 wc w.heap.size (fun k_ => ((P0_2_ k_ ∨ P0_3_ k_) ∨ w.heap.size ≤ k_) ∧ k_ ≠ gb250 ∧ k_ ≠ gb254 ∧ k_ ≠ gb283) (.slice Ao64 t276.length co64) t276) ∧ Aside0 (Kd.V k27 27 wc w.heap.size (fun k_ => ((P0_2_ k_ ∨ P0_3_ k_) ∨ w.heap.size ≤ k_) ∧ k_ ≠ gb250 ∧ k_ ≠ gb254 ∧ k_ ≠ gb283) (.slice Ao65 t279.length co65) t279) ∧ Aside0 (wc.heap[gb250]? = some (.cells #[.int .i64 a0_0, .int .u64 a0_1, (.slice A0_2 l0_2.length c0_2), (.slice A0_3 l0_3.length c0_3)] 34 (0, 0))) ∧ Aside0 (wc.heap[gb254]? = some (.cells #[.int .i64 x255000_2, .int .u64 x255001_2, u255002, u255003] 34 (0, 0))) ∧ Aside0 (wc.heap[gb283]? = some (.cells #[.int .i64 t274, .int .u64 t275, (.slice Ao64 t276.length co64), (.slice Ao65 t279.length co65)] 27 (0, 0))) ∧ Aside0 (Below w.heap.size w wc))
         case first =>
          have H := HC53.out
          clear HC53
          by_cases c72 : a0_0 = 0
          ·rw [if_pos c72] at H
           have c72b0 : (a0_0 == 0) = true := beq_iff_eq.mpr c72
           have c72b1 : (a0_0 != 0) = false := bne_eq_false_iff_eq.mpr c72
           clear c72
           (first | rw [c72b0] | (simp only [i64_w, i32_w]; rw [c72b0]) | skip)
           have H' := Aside0.mk H
           clear H
           have hnb73 := NB250_254.out
           have hnc73 := NB254_250.out
           have hnb74 := NB250_283.out
           have hnc74 := NB283_250.out
           have hcz75_0 : w71.cell? ⟨gb250, 0, none⟩ = some (.int .i64 a0_0) := (blk_cell BK250.out 0).trans rfl
           have hcz75_1 : w71.cell? ⟨gb250, 1, none⟩ = some (.int .u64 a0_1) := (blk_cell BK250.out 1).trans rfl
           have hcz75_2 : w71.cell? ⟨gb250, 2, none⟩ = some (.slice A0_2 l0_2.length c0_2) := (blk_cell BK250.out 2).trans rfl
           have hcz75_3 : w71.cell? ⟨gb250, 3, none⟩ = some (.slice A0_3 l0_3.length c0_3) := (blk_cell BK250.out 3).trans rfl
           have hfz75_0 := blk_frozen BK250.out 0
           have hfz75_1 := blk_frozen BK250.out 1
           have hfz75_2 := blk_frozen BK250.out 2
           have hfz75_3 := blk_frozen BK250.out 3
           go_wp2
           go_meet
           case rel => exact ⟨_, (decide (a0_1 < 9223372036854775808)), q97_, H', ⟨by have := HJ2.out; have := HK2.out; have := HJ17.out; first | omega | exact Nat.le_refl _⟩, ⟨by (with_reducible repeat (first | apply Kd.V_alloc | apply Kd.V_drewN | apply Kd.V_drew)); exact Kd.V_mono HO_251002.out (fun _ hk => ⟨hk.1.1, ⟨hk.1.2.2.1, ⟨hk.1.2.2.2.1, hk.1.2.2.2.2⟩⟩⟩)⟩, ⟨by (with_reducible repeat (first | apply Kd.V_alloc | apply Kd.V_drewN | apply Kd.V_drew)); exact Kd.V_mono HO_251003.out (fun _ hk => ⟨hk.1.1, ⟨hk.1.2.2.1, ⟨hk.1.2.2.2.1, hk.1.2.2.2.2⟩⟩⟩)⟩, ⟨by (with_reducible repeat (first | apply Kd.V_alloc | apply Kd.V_drewN | apply Kd.V_drew)); exact Kd.V_mono HO_255002.out (fun _ hk => ⟨hk.1.1, ⟨hk.1.2.2.1, ⟨hk.1.2.2.2.1, hk.1.2.2.2.2⟩⟩⟩)⟩, ⟨by (with_reducible repeat (first | apply Kd.V_alloc | apply Kd.V_drewN | apply Kd.V_drew)); exact Kd.V_mono HO_255003.out (fun _ hk => ⟨hk.1.1, ⟨hk.1.2.2.1, ⟨hk.1.2.2.2.1, hk.1.2.2.2.2⟩⟩⟩)⟩, ⟨by (with_reducible repeat (first | apply Kd.V_alloc | apply Kd.V_drewN | apply Kd.V_drew)); exact Kd.V_mono HO278.out (fun _ hk => ⟨hk.1.1, ⟨hk.1.2.1, ⟨hk.1.2.2.1, hk.1.2.2.2⟩⟩⟩)⟩, ⟨by (with_reducible repeat (first | apply Kd.V_alloc | apply Kd.V_drewN | apply Kd.V_drew)); exact Kd.V_mono HO281.out (fun _ hk => ⟨hk.1.1, ⟨hk.1.2.1, ⟨hk.1.2.2.1, hk.1.2.2.2⟩⟩⟩)⟩, ⟨by (with_reducible repeat (first | refine blk_drewN ?_ _ | refine blk_drew ?_ | refine blk_alloc ?_ _)); exact BK250.out⟩, ⟨by (with_reducible repeat (first | refine blk_drewN ?_ _ | refine blk_drew ?_ | refine blk_alloc ?_ _)); exact BK254.out⟩, ⟨by (with_reducible repeat (first | refine blk_drewN ?_ _ | refine blk_drew ?_ | refine blk_alloc ?_ _)); exact BK283.out⟩, ⟨by repeat (first | (with_reducible first | exact HB.out | apply below_alloc | apply pw_below_drewN | apply below_drew1 | refine below_set ?_ GE250.out | refine below_set ?_ GE254.out | refine below_set ?_ GE283.out) | exact HB.out)⟩⟩
          ·rw [if_neg c72] at H
           have c72b0 : (a0_0 == 0) = false := beq_eq_false_iff_ne.mpr c72
           have c72b1 : (a0_0 != 0) = true := bne_iff_ne.mpr c72
           (first | rw [c72b0] | (simp only [i64_w, i32_w]; rw [c72b0]) | skip)
           by_cases c76 : a0_0 = 1
           ·rw [if_pos c76] at H
            have c76b0 : (a0_0 == 1) = true := beq_iff_eq.mpr c76
            have c76b1 : (a0_0 != 1) = false := bne_eq_false_iff_eq.mpr c76
            clear c76
            have H' := Aside0.mk H
            clear H
            have hnb77 := NB250_254.out
            have hnc77 := NB254_250.out
            have hnb78 := NB250_283.out
            have hnc78 := NB283_250.out
            have hcz79_0 : w71.cell? ⟨gb250, 0, none⟩ = some (.int .i64 a0_0) := (blk_cell BK250.out 0).trans rfl
            have hcz79_1 : w71.cell? ⟨gb250, 1, none⟩ = some (.int .u64 a0_1) := (blk_cell BK250.out 1).trans rfl
            have hcz79_2 : w71.cell? ⟨gb250, 2, none⟩ = some (.slice A0_2 l0_2.length c0_2) := (blk_cell BK250.out 2).trans rfl
            have hcz79_3 : w71.cell? ⟨gb250, 3, none⟩ = some (.slice A0_3 l0_3.length c0_3) := (blk_cell BK250.out 3).trans rfl
            have hfz79_0 := blk_frozen BK250.out 0
            have hfz79_1 := blk_frozen BK250.out 1
            have hfz79_2 := blk_frozen BK250.out 2
            have hfz79_3 := blk_frozen BK250.out 3
            go_wp2
            go_meet
            case rel => exact ⟨_, (decide (a0_1 < 9223372036854775808)), q97_, H', ⟨by have := HJ2.out; have := HK2.out; have := HJ17.out; first | omega | exact Nat.le_refl _⟩, ⟨by (with_reducible repeat (first | apply Kd.V_alloc | apply Kd.V_drewN | apply Kd.V_drew)); exact Kd.V_mono HO_251002.out (fun _ hk => ⟨hk.1.1, ⟨hk.1.2.2.1, ⟨hk.1.2.2.2.1, hk.1.2.2.2.2⟩⟩⟩)⟩, ⟨by (with_reducible repeat (first | apply Kd.V_alloc | apply Kd.V_drewN | apply Kd.V_drew)); exact Kd.V_mono HO_251003.out (fun _ hk => ⟨hk.1.1, ⟨hk.1.2.2.1, ⟨hk.1.2.2.2.1, hk.1.2.2.2.2⟩⟩⟩)⟩, ⟨by (with_reducible repeat (first | apply Kd.V_alloc | apply Kd.V_drewN | apply Kd.V_drew)); exact Kd.V_mono HO_255002.out (fun _ hk => ⟨hk.1.1, ⟨hk.1.2.2.1, ⟨hk.1.2.2.2.1, hk.1.2.2.2.2⟩⟩⟩)⟩, ⟨by (with_reducible repeat (first | apply Kd.V_alloc | apply Kd.V_drewN | apply Kd.V_drew)); exact Kd.V_mono HO_255003.out (fun _ hk => ⟨hk.1.1, ⟨hk.1.2.2.1, ⟨hk.1.2.2.2.1, hk.1.2.2.2.2⟩⟩⟩)⟩, ⟨by (with_reducible repeat (first | apply Kd.V_alloc | apply Kd.V_drewN | apply Kd.V_drew)); exact Kd.V_mono HO278.out (fun _ hk => ⟨hk.1.1, ⟨hk.1.2.1, ⟨hk.1.2.2.1, hk.1.2.2.2⟩⟩⟩)⟩, ⟨by (with_reducible repeat (first | apply Kd.V_alloc | apply Kd.V_drewN | apply Kd.V_drew)); exact Kd.V_mono HO281.out (fun _ hk => ⟨hk.1.1, ⟨hk.1.2.1, ⟨hk.1.2.2.1, hk.1.2.2.2⟩⟩⟩)⟩, ⟨by (with_reducible repeat (first | refine blk_drewN ?_ _ | refine blk_drew ?_ | refine blk_alloc ?_ _)); exact BK250.out⟩, ⟨by (with_reducible repeat (first | refine blk_drewN ?_ _ | refine blk_drew ?_ | refine blk_alloc ?_ _)); exact BK254.out⟩, ⟨by (with_reducible repeat (first | refine blk_drewN ?_ _ | refine blk_drew ?_ | refine blk_alloc ?_ _)); exact BK283.out⟩, ⟨by repeat (first | (with_reducible first | exact HB.out | apply below_alloc | apply pw_below_drewN | apply below_drew1 | refine below_set ?_ GE250.out | refine below_set ?_ GE254.out | refine below_set ?_ GE283.out) | exact HB.out)⟩⟩
           ·rw [if_neg c76] at H
            have c76b0 : (a0_0 == 1) = false := beq_eq_false_iff_ne.mpr c76
            have c76b1 : (a0_0 != 1) = true := bne_iff_ne.mpr c76
            have H' := Aside0.mk H
            clear H
            have hnb80 := NB250_254.out
            have hnc80 := NB254_250.out
            have hnb81 := NB250_283.out
            have hnc81 := NB283_250.out
            have hcz82_0 : w71.cell? ⟨gb250, 0, none⟩ = some (.int .i64 a0_0) := (blk_cell BK250.out 0).trans rfl
            have hcz82_1 : w71.cell? ⟨gb250, 1, none⟩ = some (.int .u64 a0_1) := (blk_cell BK250.out 1).trans rfl
            have hcz82_2 : w71.cell? ⟨gb250, 2, none⟩ = some (.slice A0_2 l0_2.length c0_2) := (blk_cell BK250.out 2).trans rfl
            have hcz82_3 : w71.cell? ⟨gb250, 3, none⟩ = some (.slice A0_3 l0_3.length c0_3) := (blk_cell BK250.out 3).trans rfl
            have hfz82_0 := blk_frozen BK250.out 0
            have hfz82_1 := blk_frozen BK250.out 1
            have hfz82_2 := blk_frozen BK250.out 2
            have hfz82_3 := blk_frozen BK250.out 3
            go_wp2
            go_meet
            case rel => exact ⟨_, (false), q97_, H', ⟨by have := HJ2.out; have := HK2.out; have := HJ17.out; first | omega | exact Nat.le_refl _⟩, ⟨by (with_reducible repeat (first | apply Kd.V_alloc | apply Kd.V_drewN | apply Kd.V_drew)); exact Kd.V_mono HO_251002.out (fun _ hk => ⟨hk.1.1, ⟨hk.1.2.2.1, ⟨hk.1.2.2.2.1, hk.1.2.2.2.2⟩⟩⟩)⟩, ⟨by (with_reducible repeat (first | apply Kd.V_alloc | apply Kd.V_drewN | apply Kd.V_drew)); exact Kd.V_mono HO_251003.out (fun _ hk => ⟨hk.1.1, ⟨hk.1.2.2.1, ⟨hk.1.2.2.2.1, hk.1.2.2.2.2⟩⟩⟩)⟩, ⟨by (with_reducible repeat (first | apply Kd.V_alloc | apply Kd.V_drewN | apply Kd.V_drew)); exact Kd.V_mono HO_255002.out (fun _ hk => ⟨hk.1.1, ⟨hk.1.2.2.1, ⟨hk.1.2.2.2.1, hk.1.2.2.2.2⟩⟩⟩)⟩, ⟨by (with_reducible repeat (first | apply Kd.V_alloc | apply Kd.V_drewN | apply Kd.V_drew)); exact Kd.V_mono HO_255003.out (fun _ hk => ⟨hk.1.1, ⟨hk.1.2.2.1, ⟨hk.1.2.2.2.1, hk.1.2.2.2.2⟩⟩⟩)⟩, ⟨by (with_reducible repeat (first | apply Kd.V_alloc | apply Kd.V_drewN | apply Kd.V_drew)); exact Kd.V_mono HO278.out (fun _ hk => ⟨hk.1.1, ⟨hk.1.2.1, ⟨hk.1.2.2.1, hk.1.2.2.2⟩⟩⟩)⟩, ⟨by (with_reducible repeat (first | apply Kd.V_alloc | apply Kd.V_drewN | apply Kd.V_drew)); exact Kd.V_mono HO281.out (fun _ hk => ⟨hk.1.1, ⟨hk.1.2.1, ⟨hk.1.2.2.1, hk.1.2.2.2⟩⟩⟩)⟩, ⟨by (with_reducible repeat (first | refine blk_drewN ?_ _ | refine blk_drew ?_ | refine blk_alloc ?_ _)); exact BK250.out⟩, ⟨by (with_reducible repeat (first | refine blk_drewN ?_ _ | refine blk_drew ?_ | refine blk_alloc ?_ _)); exact BK254.out⟩, ⟨by (with_reducible repeat (first | refine blk_drewN ?_ _ | refine blk_drew ?_ | refine blk_alloc ?_ _)); exact BK283.out⟩, ⟨by repeat (first | (with_reducible first | exact HB.out | apply below_alloc | apply pw_below_drewN | apply below_drew1 | refine below_set ?_ GE250.out | refine below_set ?_ GE254.out | refine below_set ?_ GE283.out) | exact HB.out)⟩⟩
         case rest =>
          clear HC53
          try clear c1
          try clear c2
          try clear p2
          try clear q2
          try clear hx2
          try clear c3
          try clear c4
          try clear c5
          try clear c6
          try clear p6
          try clear c7
          try clear c8
          try clear c17
          try clear c22
          try clear c25
          try clear p25
          try clear q25
          try clear hx25
          try clear c26
          try clear p26
          try clear q26
          try clear hx26
          try clear c27
          try clear c28
          try clear c29
          try clear c30
          try clear c32
          try clear c34
          try clear c35
          try clear c41
          try clear c54
          try clear c61
          try clear c62
          try clear p64
          try clear c72
          try clear c72b0
          try clear c72b1
          try clear c73
          try clear c74
          try clear c76
          try clear c76b0
          try clear c76b1
          try clear c77
          try clear c78
          try clear c80
          try clear c81
          try clear hcz42_0
          try clear hcz42_1
          try clear hcz42_2
          try clear hcz42_3
          try clear hcz43_0
          try clear hcz43_1
          try clear hcz43_2
          try clear hcz43_3
          try clear hcz55_0
          try clear hcz55_1
          try clear hcz55_2
          try clear hcz55_3
          try clear hcz63_0
          try clear hcz63_1
          try clear hcz63_2
          try clear hcz63_3
          try clear hcz67_0
          try clear hcz67_1
          try clear hcz67_2
          try clear hcz67_3
          try clear hcz75_0
          try clear hcz75_1
          try clear hcz75_2
          try clear hcz75_3
          try clear hcz79_0
          try clear hcz79_1
          try clear hcz79_2
          try clear hcz79_3
          try clear hcz82_0
          try clear hcz82_1
          try clear hcz82_2
          try clear hcz82_3
          try clear hfz42_0
          try clear hfz42_1
          try clear hfz42_2
          try clear hfz42_3
          try clear hfz43_0
          try clear hfz43_1
          try clear hfz43_2
          try clear hfz43_3
          try clear hfz55_0
          try clear hfz55_1
          try clear hfz55_2
          try clear hfz55_3
          try clear hfz63_0
          try clear hfz63_1
          try clear hfz63_2
          try clear hfz63_3
          try clear hfz67_0
          try clear hfz67_1
          try clear hfz67_2
          try clear hfz67_3
          try clear hfz75_0
          try clear hfz75_1
          try clear hfz75_2
          try clear hfz75_3
          try clear hfz79_0
          try clear hfz79_1
          try clear hfz79_2
          try clear hfz79_3
          try clear hfz82_0
          try clear hfz82_1
          try clear hfz82_2
          try clear hfz82_3
          try clear hx255_0
          try clear hx255_1
          try clear hx255_2
          try clear hx255_3
          try clear hx265_0
          try clear hx265_1
          try clear hx265_2
          try clear hx265_3
          try clear p255
          try clear p265
          try clear q255
          try clear q265
          obtain ⟨kq, x12_52, rfl, HA, HJ52, HO_251002, HO_251003, HO_255002, HO_255003, HO_284002, HO_284003, BK250, BK254, BK283, HB⟩ := hcut
          cases kq with
          | zero => exact absurd HA.out (by simp [pyxlaw10_CborGets.j3])
          | succ kj52 =>
           have H := HA.out
           clear HA
           simp only [pyxlaw10_CborGets.j3] at H
           by_cases c83 : (t282 != x6_2) = true
           ·rw [if_pos c83] at H
            have c83b0 : (t282 != x6_2) = true := c83
            (try (have c83b1 : decide (t282 = x6_2) = false := by simpa using c83))
            (try (have c83b2 : (t282 == x6_2) = false := by simpa using c83))
            (try (have c83b3 : ¬ (t282 = x6_2) := by simpa using c83))
            clear c83
            exact absurd ((Option.some.inj H).trans HT.out) (by decide)
           ·rw [if_neg c83] at H
            have c83b0 : (t282 != x6_2) = false := by simpa using c83
            (try (have c83b1 : decide (t282 = x6_2) = true := by simpa using c83))
            (try (have c83b2 : (t282 == x6_2) = true := by simpa using c83))
            clear c83
            replace H := Option.bind_eq_some_iff.mp H
            obtain ⟨⟨t294, t295, t296, t299⟩, A840, H⟩ := H
            replace H : ((pyxref10_Same.f kj52 t294 t295 t296 t299 x255000_2 x255001_2 x255002_2 x255003_2).bind fun t302 => (if t302 = true then (if (t293 != x12_52) = true then (some false) else (if t293 = true then (if a0_0 = 0 then (if t292 = (wrap64 (a0_1)) then (some true) else (if a0_0 = 1 then (some (t292 == (wrap64 ((-1) - (wrap64 (a0_1)))))) else (some false))) else (if a0_0 = 1 then (some (t292 == (wrap64 ((-1) - (wrap64 (a0_1)))))) else (some false))) else (if t292 = 0 then (some true) else (some false)))) else (some false))) = some r := H
            have A84 := Aside0.mk A840
            clear A840
            replace H := Option.bind_eq_some_iff.mp H
            obtain ⟨t302, A850, H⟩ := H
            replace H : (if t302 = true then (if (t293 != x12_52) = true then (some false) else (if t293 = true then (if a0_0 = 0 then (if t292 = (wrap64 (a0_1)) then (some true) else (if a0_0 = 1 then (some (t292 == (wrap64 ((-1) - (wrap64 (a0_1)))))) else (some false))) else (if a0_0 = 1 then (some (t292 == (wrap64 ((-1) - (wrap64 (a0_1)))))) else (some false))) else (if t292 = 0 then (some true) else (some false)))) else (some false)) = some r := H
            have A85 := Aside0.mk A850
            clear A850
            by_cases c86 : t302 = true
            ·subst c86
             have H1 : (if (t293 != x12_52) = true then (some false) else (if t293 = true then (if a0_0 = 0 then (if t292 = (wrap64 (a0_1)) then (some true) else (if a0_0 = 1 then (some (t292 == (wrap64 ((-1) - (wrap64 (a0_1)))))) else (some false))) else (if a0_0 = 1 then (some (t292 == (wrap64 ((-1) - (wrap64 (a0_1)))))) else (some false))) else (if t292 = 0 then (some true) else (some false)))) = some r := by rw [if_pos rfl] at H; exact H
             clear H
             have H := H1
             clear H1
             by_cases c87 : (t293 != x12_52) = true
             ·rw [if_pos c87] at H
              have c87b0 : (t293 != x12_52) = true := c87
              (try (have c87b1 : decide (t293 = x12_52) = false := by simpa using c87))
              (try (have c87b2 : (t293 == x12_52) = false := by simpa using c87))
              (try (have c87b3 : ¬ (t293 = x12_52) := by simpa using c87))
              clear c87
              exact absurd ((Option.some.inj H).trans HT.out) (by decide)
             ·rw [if_neg c87] at H
              have c87b0 : (t293 != x12_52) = false := by simpa using c87
              (try (have c87b1 : decide (t293 = x12_52) = true := by simpa using c87))
              (try (have c87b2 : (t293 == x12_52) = true := by simpa using c87))
              clear c87
              by_cases c88 : t293 = true
              ·subst c88
               have H1 : (if a0_0 = 0 then (if t292 = (wrap64 (a0_1)) then (some true) else (if a0_0 = 1 then (some (t292 == (wrap64 ((-1) - (wrap64 (a0_1)))))) else (some false))) else (if a0_0 = 1 then (some (t292 == (wrap64 ((-1) - (wrap64 (a0_1)))))) else (some false))) = some r := by rw [if_pos rfl] at H; exact H
               clear H
               have H := H1
               clear H1
               by_cases c89 : a0_0 = 0
               ·rw [if_pos c89] at H
                have c89b0 : (a0_0 == 0) = true := beq_iff_eq.mpr c89
                have c89b1 : (a0_0 != 0) = false := bne_eq_false_iff_eq.mpr c89
                clear c89
                by_cases c90 : t292 = (wrap64 (a0_1))
                ·rw [if_pos c90] at H
                 have c90b0 : (t292 == (wrap64 (a0_1))) = true := beq_iff_eq.mpr c90
                 have c90b1 : (t292 != (wrap64 (a0_1))) = false := bne_eq_false_iff_eq.mpr c90
                 clear c90
                 obtain rfl := Option.some.inj H
                 try go_wp2
                 have n0_ := Aside0.mk (Kd.V_drew HO_251002.out)
                 have n1_ := Aside0.mk (Kd.V_drew HO_251003.out)
                 have n2_ := Aside0.mk (Kd.V_drew HO_255002.out)
                 have n3_ := Aside0.mk (Kd.V_drew HO_255003.out)
                 have n4_ := Aside0.mk (Kd.V_drew HO_284002.out)
                 have n5_ := Aside0.mk (Kd.V_drew HO_284003.out)
                 have n6_ := Aside0.mk (blk_drew BK250.out)
                 have n7_ := Aside0.mk (blk_drew BK254.out)
                 have n8_ := Aside0.mk (blk_drew BK283.out)
                 have n9_ := Aside0.mk (below_drew1 HB.out)
                 clear HO_251002
                 clear HO_251003
                 clear HO_255002
                 clear HO_255003
                 clear HO_284002
                 clear HO_284003
                 clear BK250
                 clear BK254
                 clear BK283
                 clear HB
                 have HO_251002 := n0_
                 have HO_251003 := n1_
                 have HO_255002 := n2_
                 have HO_255003 := n3_
                 have HO_284002 := n4_
                 have HO_284003 := n5_
                 have BK250 := n6_
                 have BK254 := n7_
                 have BK283 := n8_
                 have HB := n9_
                 clear n0_ n1_ n2_ n3_ n4_ n5_ n6_ n7_ n8_ n9_
                 refine start_ (n := 15) (S := fun w' => w'.cell? ⟨gb283, 0, none⟩ = some (.int .i64 t274) ∧ w'.cell? ⟨gb283, 1, none⟩ = some (.int .u64 t275) ∧ w'.cell? ⟨gb283, 2, none⟩ = some (.slice Ao64 t276.length co64) ∧ w'.cell? ⟨gb283, 3, none⟩ = some (.slice Ao65 t279.length co65) ∧ w'.cell? ⟨gb254, 0, none⟩ = some (.int .i64 x255000_2) ∧ w'.cell? ⟨gb254, 1, none⟩ = some (.int .u64 x255001_2) ∧ w'.cell? ⟨gb254, 2, none⟩ = some (u255002) ∧ w'.cell? ⟨gb254, 3, none⟩ = some (u255003)) (ds := []) #[false, false, false, false, false, false, false, false, false, false, false, false, false, false, false] (by kernel_rfl) rfl rfl ⟨(blk_cell BK283.out 0).trans rfl, (blk_cell BK283.out 1).trans rfl, (blk_cell BK283.out 2).trans rfl, (blk_cell BK283.out 3).trans rfl, (blk_cell BK254.out 0).trans rfl, (blk_cell BK254.out 1).trans rfl, (blk_cell BK254.out 2).trans rfl, (blk_cell BK254.out 3).trans rfl⟩ (fun hHeld => ?_); refine with_tabW pyxlaw10_CborGets.tab14 pyxlaw10_CborGets.bits14 (fun HT_ HW_ => ?_)
                 generalize wc.drew = w91 at HO_251002 HO_251003 HO_255002 HO_255003 HO_284002 HO_284003 BK250 BK254 BK283 HB hHeld ⊢
                 refine pure_ (i := 0) (N := some 79) (v := ?_) (a' := ?_) #[true, false, false, false, false, false, false, false, false, false, false, false, false, false, false] rfl rfl (any_of HT_.out (by kernel_rfl)) (fun _ _ _ h => h) (Or.inl ⟨by rfl, ?_⟩) ?_ ?_
                 rotate_left
                 ·intro w'
                  go_simp
                  with_reducible rfl
                 rotate_left
                 ·simp only [Act.put, List.setIfInBounds_toArray, List.set_cons_zero, List.set_cons_succ, i64_w, i32_w]
                  rfl
                 refine pure_ (i := 1) (N := some 80) (v := ?_) (a' := ?_) #[true, true, false, false, false, false, false, false, false, false, false, false, false, false, false] rfl rfl (any_of HT_.out (by kernel_rfl)) (fun _ _ _ h => h) (Or.inl ⟨by rfl, ?_⟩) ?_ ?_
                 rotate_left
                 ·intro w'
                  go_simp
                  with_reducible rfl
                 rotate_left
                 ·simp only [Act.put, List.setIfInBounds_toArray, List.set_cons_zero, List.set_cons_succ, i64_w, i32_w]
                  rfl
                 refine pure_ (i := 2) (N := some 81) (v := ?_) (a' := ?_) #[true, true, true, false, false, false, false, false, false, false, false, false, false, false, false] rfl rfl (any_of HT_.out (by kernel_rfl)) (fun _ _ _ h => h) (Or.inl ⟨by rfl, ?_⟩) ?_ ?_
                 rotate_left
                 ·intro w'
                  go_simp
                  with_reducible rfl
                 rotate_left
                 ·simp only [Act.put, List.setIfInBounds_toArray, List.set_cons_zero, List.set_cons_succ, i64_w, i32_w]
                  rfl
                 refine pure_ (i := 3) (N := some 82) (v := ?_) (a' := ?_) #[true, true, true, true, false, false, false, false, false, false, false, false, false, false, false] rfl rfl (any_of HT_.out (by kernel_rfl)) (fun _ _ _ h => h) (Or.inl ⟨by rfl, ?_⟩) ?_ ?_
                 rotate_left
                 ·intro w'
                  go_simp
                  with_reducible rfl
                 rotate_left
                 ·simp only [Act.put, List.setIfInBounds_toArray, List.set_cons_zero, List.set_cons_succ, i64_w, i32_w]
                  rfl
                 refine take_ (i := 4) (N := some 83) (v := ?_) (a' := ?_) #[true, true, true, true, true, false, false, false, false, false, false, false, false, false, false] rfl rfl (take_ofW HT_.out HW_.out (by kernel_rfl)) (fun _ _ _ h => h) (Or.inl ⟨by rfl, ?_⟩) hHeld ?_ ?_
                 rotate_left
                 ·rintro w' ⟨s0, s1, s2, s3, s4, s5, s6, s7⟩
                  go_simp
                  with_reducible rfl
                 rotate_left
                 ·simp only [Act.put, List.setIfInBounds_toArray, List.set_cons_zero, List.set_cons_succ, i64_w, i32_w]
                  rfl
                 refine take_ (i := 6) (N := some 85) (v := ?_) (a' := ?_) #[true, true, true, true, true, false, true, false, false, false, false, false, false, false, false] rfl rfl (take_ofW HT_.out HW_.out (by kernel_rfl)) (fun _ _ _ h => h) (Or.inl ⟨by rfl, ?_⟩) hHeld ?_ ?_
                 rotate_left
                 ·rintro w' ⟨s0, s1, s2, s3, s4, s5, s6, s7⟩
                  go_simp
                  with_reducible rfl
                 rotate_left
                 ·simp only [Act.put, List.setIfInBounds_toArray, List.set_cons_zero, List.set_cons_succ, i64_w, i32_w]
                  rfl
                 refine one_ (i := 5) (N := some 84) #[true, true, true, true, true, true, true, false, false, false, false, false, false, false, false] rfl rfl (one_of HT_.out (by kernel_rfl)) (by decide) (fun K hK => ?_)
                 refine goes_ Tryd.func18 (by kernel_rfl) rfl #[.agg #[.int .i64 t274, .int .u64 t275, .slice Ao64 t276.length co64, .slice Ao65 t279.length co65]] (by rfl) rfl rfl q43_ ?_
                 with_reducible refine (pyxlaw10_back.calls kj52 t274 t275 (fun k_ => (((P0_2_ k_ ∨ P0_3_ k_) ∨ w.heap.size ≤ k_) ∧ (k_ ≠ gb250 ∧ (k_ ≠ gb254 ∧ k_ ≠ gb283)))) _ _ t276 (fun k_ => (((P0_2_ k_ ∨ P0_3_ k_) ∨ w.heap.size ≤ k_) ∧ (k_ ≠ gb250 ∧ (k_ ≠ gb254 ∧ k_ ≠ gb283)))) _ _ t279 t294 t295 t296 t299 _ ?side1 ?side2 A84.out).mono ?_
                 (case side1 => exact HO_284002.out)
                 (case side2 => exact HO_284003.out)
                 rintro e w92 ⟨v297, v300, rfl, ho0, ho1, hb⟩
                 refine ⟨_, rfl, ?_⟩
                 have n0_ := Aside0.mk (Kd.V_elder' q61_ q94_ hb)
                 have n1_ := Aside0.mk (Kd.V_elder' q62_ q94_ hb)
                 have n2_ := Aside0.mk (Kd.V_elder' q63_ q94_ hb)
                 have n3_ := Aside0.mk (Kd.V_elder' q64_ q94_ hb)
                 have n4_ := Aside0.mk (Kd.V_elder' q65_ q94_ hb)
                 have n5_ := Aside0.mk (Kd.V_elder' q66_ q94_ hb)
                 have n6_ := Aside0.mk (Kd.V_lower (Kd.V_mono (ok' := fun k_ => ((P0_2_ k_ ∨ P0_3_ k_) ∨ w.heap.size ≤ k_) ∧ some k_ ≠ (v300 : Value).ownBlock ∧ k_ ≠ gb250 ∧ k_ ≠ gb254 ∧ k_ ≠ gb283) ho0 (fun k_ hk_ => ⟨Or.elim hk_.1 (fun hs_ => Or.elim hs_ (fun hs_ => hs_.1) (fun hs_ => hs_.1)) (fun hn_ => (.inr (Nat.le_trans (below_size q23_) hn_))), hk_.2, Or.elim hk_.1 (fun hs_ => Or.elim hs_ (fun hs_ => hs_.2.1) (fun hs_ => hs_.2.1)) (fun hn_ => (Kd.freshB (g := gb250) (o := .cells #[.int .i64 a0_0, .int .u64 a0_1, .slice A0_2 l0_2.length c0_2, .slice A0_3 l0_3.length c0_3] 34 (0, 0)) q54_ k_ hn_)), Or.elim hk_.1 (fun hs_ => Or.elim hs_ (fun hs_ => hs_.2.2.1) (fun hs_ => hs_.2.2.1)) (fun hn_ => (Kd.freshB (g := gb254) (o := .cells #[.int .i64 x255000_2, .int .u64 x255001_2, u255002, u255003] 34 (0, 0)) q55_ k_ hn_)), Or.elim hk_.1 (fun hs_ => Or.elim hs_ (fun hs_ => hs_.2.2.2) (fun hs_ => hs_.2.2.2)) (fun hn_ => (Kd.freshB (g := gb283) (o := .cells #[.int .i64 t274, .int .u64 t275, .slice Ao64 t276.length co64, .slice Ao65 t279.length co65] 27 (0, 0)) q56_ k_ hn_))⟩)) (below_size q23_))
                 have n7_ := Aside0.mk (Kd.N_lower (Kd.N_mono (ok' := fun k_ => ((P0_2_ k_ ∨ P0_3_ k_) ∨ w.heap.size ≤ k_) ∧ k_ ≠ gb250 ∧ k_ ≠ gb254 ∧ k_ ≠ gb283) ho1 (fun k_ hk_ => ⟨Or.elim hk_ (fun hs_ => Or.elim hs_ (fun hs_ => hs_.1) (fun hs_ => hs_.1)) (fun hn_ => (.inr (Nat.le_trans (below_size q23_) hn_))), Or.elim hk_ (fun hs_ => Or.elim hs_ (fun hs_ => hs_.2.1) (fun hs_ => hs_.2.1)) (fun hn_ => (Kd.freshB (g := gb250) (o := .cells #[.int .i64 a0_0, .int .u64 a0_1, .slice A0_2 l0_2.length c0_2, .slice A0_3 l0_3.length c0_3] 34 (0, 0)) q54_ k_ hn_)), Or.elim hk_ (fun hs_ => Or.elim hs_ (fun hs_ => hs_.2.2.1) (fun hs_ => hs_.2.2.1)) (fun hn_ => (Kd.freshB (g := gb254) (o := .cells #[.int .i64 x255000_2, .int .u64 x255001_2, u255002, u255003] 34 (0, 0)) q55_ k_ hn_)), Or.elim hk_ (fun hs_ => Or.elim hs_ (fun hs_ => hs_.2.2.2) (fun hs_ => hs_.2.2.2)) (fun hn_ => (Kd.freshB (g := gb283) (o := .cells #[.int .i64 t274, .int .u64 t275, .slice Ao64 t276.length co64, .slice Ao65 t279.length co65] 27 (0, 0)) q56_ k_ hn_))⟩)) (below_size q23_))
                 have n8_ := Aside0.mk (blk_below (g := gb250) (o := .cells #[.int .i64 a0_0, .int .u64 a0_1, .slice A0_2 l0_2.length c0_2, .slice A0_3 l0_3.length c0_3] 34 (0, 0)) q54_ hb)
                 have n9_ := Aside0.mk (blk_below (g := gb254) (o := .cells #[.int .i64 x255000_2, .int .u64 x255001_2, u255002, u255003] 34 (0, 0)) q55_ hb)
                 have n10_ := Aside0.mk (blk_below (g := gb283) (o := .cells #[.int .i64 t274, .int .u64 t275, .slice Ao64 t276.length co64, .slice Ao65 t279.length co65] 27 (0, 0)) q56_ hb)
                 have n11_ := Aside0.mk (below_step q23_ hb)
                 clear HO_251002
                 clear HO_251003
                 clear HO_255002
                 clear HO_255003
                 clear HO_284002
                 clear HO_284003
                 clear BK250
                 clear BK254
                 clear BK283
                 clear HB
                 have HO_251002 := n0_
                 have HO_251003 := n1_
                 have HO_255002 := n2_
                 have HO_255003 := n3_
                 have HO_284002 := n4_
                 have HO_284003 := n5_
                 have HO298 := n6_
                 have HO301 := n7_
                 have BK250 := n8_
                 have BK254 := n9_
                 have BK283 := n10_
                 have HB := n11_
                 clear n0_ n1_ n2_ n3_ n4_ n5_ n6_ n7_ n8_ n9_ n10_ n11_
                 (try clear hb)
                 (try clear hb2)
                 (try clear hk)
                 (try clear hi)
                 (try clear ho0)
                 (try clear ho1)
                 obtain ⟨Ao93, co93, eo93⟩ := Kd.V_slice HO298.out
                 (first | subst eo93 | (injection eo93 with f1_ f2_ f3_; have f4_ := f1_.symm; have f5_ := f3_.symm; clear f1_ f2_ f3_; subst f4_; subst f5_))
                 obtain ⟨Ao94, co94, eo94⟩ := Kd.N_slice HO301.out
                 (first | subst eo94 | (injection eo94 with f1_ f2_ f3_; have f4_ := f1_.symm; have f5_ := f3_.symm; clear f1_ f2_ f3_; subst f4_; subst f5_))
                 obtain ⟨Ao95, co95, eo95⟩ := Kd.V_slice HO_255002.out
                 (first | subst eo95 | (injection eo95 with f1_ f2_ f3_; have f4_ := f1_.symm; have f5_ := f3_.symm; clear f1_ f2_ f3_; subst f4_; subst f5_))
                 obtain ⟨Ao96, co96, eo96⟩ := Kd.V_slice HO_255003.out
                 (first | subst eo96 | (injection eo96 with f1_ f2_ f3_; have f4_ := f1_.symm; have f5_ := f3_.symm; clear f1_ f2_ f3_; subst f4_; subst f5_))
                 refine hK.out _ _ ⟨(blk_cell BK283.out 0).trans rfl, (blk_cell BK283.out 1).trans rfl, (blk_cell BK283.out 2).trans rfl, (blk_cell BK283.out 3).trans rfl, (blk_cell BK254.out 0).trans rfl, (blk_cell BK254.out 1).trans rfl, (blk_cell BK254.out 2).trans rfl, (blk_cell BK254.out 3).trans rfl⟩ (fun hHeld => ?_)
                 clear hK K
                 refine norm_ (a' := ?_) ?_ ?_
                 rotate_left
                 ·show Act.put _ (some 84) _ = _
                  simp only [Act.put, List.setIfInBounds_toArray, List.set_cons_zero, List.set_cons_succ, i64_w, i32_w]
                  rfl
                 refine one_ (i := 7) (N := some 86) #[true, true, true, true, true, true, true, true, false, false, false, false, false, false, false] rfl rfl (one_of HT_.out (by kernel_rfl)) (by decide) (fun K hK => ?_)
                 refine goes_ Tryd.func17 (by kernel_rfl) rfl #[.agg #[.int .i64 t294, .int .u64 t295, .slice Ao93 t296.length co93, .slice Ao94 t299.length co94], .agg #[.int .i64 x255000_2, .int .u64 x255001_2, .slice Ao95 x255002_2.length co95, .slice Ao96 x255003_2.length co96]] (by rfl) rfl rfl q43_ ?_
                 with_reducible refine (pyxref10_Same.calls kj52 t294 t295 _ _ t296 _ _ t299 x255000_2 x255001_2 _ _ x255002_2 _ _ x255003_2 true _ ?side1 ?side2 ?side3 ?side4 ?side5 ?side6 ?side7 ?side8 A85.out).mono ?_
                 (case side1 => repeat (first | exact (Kd.V_reads' HO298.out).2.2 | (with_reducible refine Kd.C_alloc ?_ _) | (with_reducible refine Kd.C_drewN ?_ _) | (with_reducible refine Kd.C_drew ?_)))
                 (case side2 => exact (Kd.V_reads' HO298.out).2.1)
                 (case side3 => repeat (first | exact (Kd.N_reads' HO301.out).2.2 | (with_reducible refine Kd.C_alloc ?_ _) | (with_reducible refine Kd.C_drewN ?_ _) | (with_reducible refine Kd.C_drew ?_)))
                 (case side4 => exact (Kd.N_reads' HO301.out).2.1)
                 (case side5 => repeat (first | exact (Kd.V_reads' HO_255002.out).2.2 | (with_reducible refine Kd.C_alloc ?_ _) | (with_reducible refine Kd.C_drewN ?_ _) | (with_reducible refine Kd.C_drew ?_)))
                 (case side6 => exact (Kd.V_reads' HO_255002.out).2.1)
                 (case side7 => repeat (first | exact (Kd.V_reads' HO_255003.out).2.2 | (with_reducible refine Kd.C_alloc ?_ _) | (with_reducible refine Kd.C_drewN ?_ _) | (with_reducible refine Kd.C_drew ?_)))
                 (case side8 => exact (Kd.V_reads' HO_255003.out).2.1)
                 rintro e w97 ⟨rfl, hb⟩
                 refine ⟨_, rfl, ?_⟩
                 have n0_ := Aside0.mk (Kd.V_below q61_ hb)
                 have n1_ := Aside0.mk (Kd.V_below q62_ hb)
                 have n2_ := Aside0.mk (Kd.V_below q63_ hb)
                 have n3_ := Aside0.mk (Kd.V_below q64_ hb)
                 have n4_ := Aside0.mk (Kd.V_below q65_ hb)
                 have n5_ := Aside0.mk (Kd.V_below q66_ hb)
                 have n6_ := Aside0.mk (Kd.V_below q92_ hb)
                 have n7_ := Aside0.mk (Kd.N_below q93_ hb)
                 have n8_ := Aside0.mk (blk_below (g := gb250) (o := .cells #[.int .i64 a0_0, .int .u64 a0_1, .slice A0_2 l0_2.length c0_2, .slice A0_3 l0_3.length c0_3] 34 (0, 0)) q54_ hb)
                 have n9_ := Aside0.mk (blk_below (g := gb254) (o := .cells #[.int .i64 x255000_2, .int .u64 x255001_2, .slice Ao95 x255002_2.length co95, .slice Ao96 x255003_2.length co96] 34 (0, 0)) q55_ hb)
                 have n10_ := Aside0.mk (blk_below (g := gb283) (o := .cells #[.int .i64 t274, .int .u64 t275, .slice Ao64 t276.length co64, .slice Ao65 t279.length co65] 27 (0, 0)) q56_ hb)
                 have n11_ := Aside0.mk (below_step q23_ hb)
                 clear HO_251002
                 clear HO_251003
                 clear HO_255002
                 clear HO_255003
                 clear HO_284002
                 clear HO_284003
                 clear HO298
                 clear HO301
                 clear BK250
                 clear BK254
                 clear BK283
                 clear HB
                 have HO_251002 := n0_
                 have HO_251003 := n1_
                 have HO_255002 := n2_
                 have HO_255003 := n3_
                 have HO_284002 := n4_
                 have HO_284003 := n5_
                 have HO298 := n6_
                 have HO301 := n7_
                 have BK250 := n8_
                 have BK254 := n9_
                 have BK283 := n10_
                 have HB := n11_
                 clear n0_ n1_ n2_ n3_ n4_ n5_ n6_ n7_ n8_ n9_ n10_ n11_
                 (try clear hb)
                 (try clear hb2)
                 (try clear hk)
                 (try clear hi)
                 refine hK.out _ _ ⟨(blk_cell BK283.out 0).trans rfl, (blk_cell BK283.out 1).trans rfl, (blk_cell BK283.out 2).trans rfl, (blk_cell BK283.out 3).trans rfl, (blk_cell BK254.out 0).trans rfl, (blk_cell BK254.out 1).trans rfl, (blk_cell BK254.out 2).trans rfl, (blk_cell BK254.out 3).trans rfl⟩ (fun hHeld => ?_)
                 clear hK K
                 refine norm_ (a' := ?_) ?_ ?_
                 rotate_left
                 ·show Act.put _ (some 86) _ = _
                  simp only [Act.put, List.setIfInBounds_toArray, List.set_cons_zero, List.set_cons_succ, i64_w, i32_w]
                  rfl
                 refine pure_ (i := 8) (N := some 87) (v := ?_) (a' := ?_) #[true, true, true, true, true, true, true, true, true, false, false, false, false, false, false] rfl rfl (any_of HT_.out (by kernel_rfl)) (fun _ _ _ h => h) (Or.inl ⟨by rfl, ?_⟩) ?_ ?_
                 rotate_left
                 ·intro w'
                  go_simp
                  with_reducible rfl
                 rotate_left
                 ·simp only [Act.put, List.setIfInBounds_toArray, List.set_cons_zero, List.set_cons_succ, i64_w, i32_w]
                  rfl
                 refine pure_ (i := 9) (N := some 88) (v := ?_) (a' := ?_) #[true, true, true, true, true, true, true, true, true, true, false, false, false, false, false] rfl rfl (any_of HT_.out (by kernel_rfl)) (fun _ _ _ h => h) (Or.inl ⟨by rfl, ?_⟩) ?_ ?_
                 rotate_left
                 ·intro w'
                  go_simp
                  with_reducible rfl
                 rotate_left
                 ·simp only [Act.put, List.setIfInBounds_toArray, List.set_cons_zero, List.set_cons_succ, i64_w, i32_w]
                  rfl
                 refine pure_ (i := 10) (N := some 89) (v := ?_) (a' := ?_) #[true, true, true, true, true, true, true, true, true, true, true, false, false, false, false] rfl rfl (any_of HT_.out (by kernel_rfl)) (fun _ _ _ h => h) (Or.inl ⟨by rfl, ?_⟩) ?_ ?_
                 rotate_left
                 ·intro w'
                  go_simp
                  with_reducible rfl
                 rotate_left
                 ·simp only [Act.put, List.setIfInBounds_toArray, List.set_cons_zero, List.set_cons_succ, i64_w, i32_w]
                  rfl
                 refine pure_ (i := 11) (N := some 90) (v := ?_) (a' := ?_) #[true, true, true, true, true, true, true, true, true, true, true, true, false, false, false] rfl rfl (any_of HT_.out (by kernel_rfl)) (fun _ _ _ h => h) (Or.inl ⟨by rfl, ?_⟩) ?_ ?_
                 rotate_left
                 ·intro w'
                  go_simp
                  with_reducible rfl
                 rotate_left
                 ·simp only [Act.put, List.setIfInBounds_toArray, List.set_cons_zero, List.set_cons_succ, i64_w, i32_w]
                  rfl
                 refine pure_ (i := 12) (N := some 91) (v := ?_) (a' := ?_) #[true, true, true, true, true, true, true, true, true, true, true, true, true, false, false] rfl rfl (any_of HT_.out (by kernel_rfl)) (fun _ _ _ h => h) (Or.inl ⟨by rfl, ?_⟩) ?_ ?_
                 rotate_left
                 ·intro w'
                  go_simp
                  with_reducible rfl
                 rotate_left
                 ·simp only [Act.put, List.setIfInBounds_toArray, List.set_cons_zero, List.set_cons_succ, i64_w, i32_w]
                  rfl
                 refine pure_ (i := 13) (N := some 92) (v := ?_) (a' := ?_) #[true, true, true, true, true, true, true, true, true, true, true, true, true, true, false] rfl rfl (any_of HT_.out (by kernel_rfl)) (fun _ _ _ h => h) (Or.inl ⟨by rfl, ?_⟩) ?_ ?_
                 rotate_left
                 ·intro w'
                  go_simp
                  with_reducible rfl
                 rotate_left
                 ·simp only [Act.put, List.setIfInBounds_toArray, List.set_cons_zero, List.set_cons_succ, i64_w, i32_w]
                  rfl
                 refine pure_ (i := 14) (N := some 93) (v := ?_) (a' := ?_) #[true, true, true, true, true, true, true, true, true, true, true, true, true, true, true] rfl rfl (any_of HT_.out (by kernel_rfl)) (fun _ _ _ h => h) (Or.inl ⟨by rfl, ?_⟩) ?_ ?_
                 rotate_left
                 ·intro w'
                  go_simp
                  with_reducible rfl
                 rotate_left
                 ·simp only [Act.put, List.setIfInBounds_toArray, List.set_cons_zero, List.set_cons_succ, i64_w, i32_w]
                  rfl
                 refine done_ (done_of HT_.out (by kernel_rfl)) ?_
                 have hnb98 := NB250_254.out
                 have hnc98 := NB254_250.out
                 have hnb99 := NB250_283.out
                 have hnc99 := NB283_250.out
                 have hcz100_0 : w97.cell? ⟨gb250, 0, none⟩ = some (.int .i64 a0_0) := (blk_cell BK250.out 0).trans rfl
                 have hcz100_1 : w97.cell? ⟨gb250, 1, none⟩ = some (.int .u64 a0_1) := (blk_cell BK250.out 1).trans rfl
                 have hcz100_2 : w97.cell? ⟨gb250, 2, none⟩ = some (.slice A0_2 l0_2.length c0_2) := (blk_cell BK250.out 2).trans rfl
                 have hcz100_3 : w97.cell? ⟨gb250, 3, none⟩ = some (.slice A0_3 l0_3.length c0_3) := (blk_cell BK250.out 3).trans rfl
                 have hfz100_0 := blk_frozen BK250.out 0
                 have hfz100_1 := blk_frozen BK250.out 1
                 have hfz100_2 := blk_frozen BK250.out 2
                 have hfz100_3 := blk_frozen BK250.out 3
                 try go_wp2
                 go_ret
                 exact ⟨by first | rfl | (simp [errW_none, errW_some] <;> rfl) | (simp [*, errW_none, errW_some] <;> rfl), by repeat (first | (with_reducible first | exact HB.out | apply below_alloc | apply pw_below_drewN | apply below_drew1 | refine below_set ?_ GE250.out | refine below_set ?_ GE254.out | refine below_set ?_ GE283.out) | exact HB.out)⟩
                ·rw [if_neg c90] at H
                 have c90b0 : (t292 == (wrap64 (a0_1))) = false := beq_eq_false_iff_ne.mpr c90
                 have c90b1 : (t292 != (wrap64 (a0_1))) = true := bne_iff_ne.mpr c90
                 by_cases c101 : a0_0 = 1
                 ·rw [if_pos c101] at H
                  have c101b0 : (a0_0 == 1) = true := beq_iff_eq.mpr c101
                  have c101b1 : (a0_0 != 1) = false := bne_eq_false_iff_eq.mpr c101
                  clear c101
                  obtain rfl := Option.some.inj H
                  try go_wp2
                  have n0_ := Aside0.mk (Kd.V_drew HO_251002.out)
                  have n1_ := Aside0.mk (Kd.V_drew HO_251003.out)
                  have n2_ := Aside0.mk (Kd.V_drew HO_255002.out)
                  have n3_ := Aside0.mk (Kd.V_drew HO_255003.out)
                  have n4_ := Aside0.mk (Kd.V_drew HO_284002.out)
                  have n5_ := Aside0.mk (Kd.V_drew HO_284003.out)
                  have n6_ := Aside0.mk (blk_drew BK250.out)
                  have n7_ := Aside0.mk (blk_drew BK254.out)
                  have n8_ := Aside0.mk (blk_drew BK283.out)
                  have n9_ := Aside0.mk (below_drew1 HB.out)
                  clear HO_251002
                  clear HO_251003
                  clear HO_255002
                  clear HO_255003
                  clear HO_284002
                  clear HO_284003
                  clear BK250
                  clear BK254
                  clear BK283
                  clear HB
                  have HO_251002 := n0_
                  have HO_251003 := n1_
                  have HO_255002 := n2_
                  have HO_255003 := n3_
                  have HO_284002 := n4_
                  have HO_284003 := n5_
                  have BK250 := n6_
                  have BK254 := n7_
                  have BK283 := n8_
                  have HB := n9_
                  clear n0_ n1_ n2_ n3_ n4_ n5_ n6_ n7_ n8_ n9_
                  refine start_ (n := 15) (S := fun w' => w'.cell? ⟨gb283, 0, none⟩ = some (.int .i64 t274) ∧ w'.cell? ⟨gb283, 1, none⟩ = some (.int .u64 t275) ∧ w'.cell? ⟨gb283, 2, none⟩ = some (.slice Ao64 t276.length co64) ∧ w'.cell? ⟨gb283, 3, none⟩ = some (.slice Ao65 t279.length co65) ∧ w'.cell? ⟨gb254, 0, none⟩ = some (.int .i64 x255000_2) ∧ w'.cell? ⟨gb254, 1, none⟩ = some (.int .u64 x255001_2) ∧ w'.cell? ⟨gb254, 2, none⟩ = some (u255002) ∧ w'.cell? ⟨gb254, 3, none⟩ = some (u255003)) (ds := []) #[false, false, false, false, false, false, false, false, false, false, false, false, false, false, false] (by kernel_rfl) rfl rfl ⟨(blk_cell BK283.out 0).trans rfl, (blk_cell BK283.out 1).trans rfl, (blk_cell BK283.out 2).trans rfl, (blk_cell BK283.out 3).trans rfl, (blk_cell BK254.out 0).trans rfl, (blk_cell BK254.out 1).trans rfl, (blk_cell BK254.out 2).trans rfl, (blk_cell BK254.out 3).trans rfl⟩ (fun hHeld => ?_); refine with_tabW pyxlaw10_CborGets.tab14 pyxlaw10_CborGets.bits14 (fun HT_ HW_ => ?_)
                  generalize wc.drew = w102 at HO_251002 HO_251003 HO_255002 HO_255003 HO_284002 HO_284003 BK250 BK254 BK283 HB hHeld ⊢
                  refine pure_ (i := 0) (N := some 79) (v := ?_) (a' := ?_) #[true, false, false, false, false, false, false, false, false, false, false, false, false, false, false] rfl rfl (any_of HT_.out (by kernel_rfl)) (fun _ _ _ h => h) (Or.inl ⟨by rfl, ?_⟩) ?_ ?_
                  rotate_left
                  ·intro w'
                   go_simp
                   with_reducible rfl
                  rotate_left
                  ·simp only [Act.put, List.setIfInBounds_toArray, List.set_cons_zero, List.set_cons_succ, i64_w, i32_w]
                   rfl
                  refine pure_ (i := 1) (N := some 80) (v := ?_) (a' := ?_) #[true, true, false, false, false, false, false, false, false, false, false, false, false, false, false] rfl rfl (any_of HT_.out (by kernel_rfl)) (fun _ _ _ h => h) (Or.inl ⟨by rfl, ?_⟩) ?_ ?_
                  rotate_left
                  ·intro w'
                   go_simp
                   with_reducible rfl
                  rotate_left
                  ·simp only [Act.put, List.setIfInBounds_toArray, List.set_cons_zero, List.set_cons_succ, i64_w, i32_w]
                   rfl
                  refine pure_ (i := 2) (N := some 81) (v := ?_) (a' := ?_) #[true, true, true, false, false, false, false, false, false, false, false, false, false, false, false] rfl rfl (any_of HT_.out (by kernel_rfl)) (fun _ _ _ h => h) (Or.inl ⟨by rfl, ?_⟩) ?_ ?_
                  rotate_left
                  ·intro w'
                   go_simp
                   with_reducible rfl
                  rotate_left
                  ·simp only [Act.put, List.setIfInBounds_toArray, List.set_cons_zero, List.set_cons_succ, i64_w, i32_w]
                   rfl
                  refine pure_ (i := 3) (N := some 82) (v := ?_) (a' := ?_) #[true, true, true, true, false, false, false, false, false, false, false, false, false, false, false] rfl rfl (any_of HT_.out (by kernel_rfl)) (fun _ _ _ h => h) (Or.inl ⟨by rfl, ?_⟩) ?_ ?_
                  rotate_left
                  ·intro w'
                   go_simp
                   with_reducible rfl
                  rotate_left
                  ·simp only [Act.put, List.setIfInBounds_toArray, List.set_cons_zero, List.set_cons_succ, i64_w, i32_w]
                   rfl
                  refine take_ (i := 4) (N := some 83) (v := ?_) (a' := ?_) #[true, true, true, true, true, false, false, false, false, false, false, false, false, false, false] rfl rfl (take_ofW HT_.out HW_.out (by kernel_rfl)) (fun _ _ _ h => h) (Or.inl ⟨by rfl, ?_⟩) hHeld ?_ ?_
                  rotate_left
                  ·rintro w' ⟨s0, s1, s2, s3, s4, s5, s6, s7⟩
                   go_simp
                   with_reducible rfl
                  rotate_left
                  ·simp only [Act.put, List.setIfInBounds_toArray, List.set_cons_zero, List.set_cons_succ, i64_w, i32_w]
                   rfl
                  refine take_ (i := 6) (N := some 85) (v := ?_) (a' := ?_) #[true, true, true, true, true, false, true, false, false, false, false, false, false, false, false] rfl rfl (take_ofW HT_.out HW_.out (by kernel_rfl)) (fun _ _ _ h => h) (Or.inl ⟨by rfl, ?_⟩) hHeld ?_ ?_
                  rotate_left
                  ·rintro w' ⟨s0, s1, s2, s3, s4, s5, s6, s7⟩
                   go_simp
                   with_reducible rfl
                  rotate_left
                  ·simp only [Act.put, List.setIfInBounds_toArray, List.set_cons_zero, List.set_cons_succ, i64_w, i32_w]
                   rfl
                  refine one_ (i := 5) (N := some 84) #[true, true, true, true, true, true, true, false, false, false, false, false, false, false, false] rfl rfl (one_of HT_.out (by kernel_rfl)) (by decide) (fun K hK => ?_)
                  refine goes_ Tryd.func18 (by kernel_rfl) rfl #[.agg #[.int .i64 t274, .int .u64 t275, .slice Ao64 t276.length co64, .slice Ao65 t279.length co65]] (by rfl) rfl rfl q43_ ?_
                  with_reducible refine (pyxlaw10_back.calls kj52 t274 t275 (fun k_ => (((P0_2_ k_ ∨ P0_3_ k_) ∨ w.heap.size ≤ k_) ∧ (k_ ≠ gb250 ∧ (k_ ≠ gb254 ∧ k_ ≠ gb283)))) _ _ t276 (fun k_ => (((P0_2_ k_ ∨ P0_3_ k_) ∨ w.heap.size ≤ k_) ∧ (k_ ≠ gb250 ∧ (k_ ≠ gb254 ∧ k_ ≠ gb283)))) _ _ t279 t294 t295 t296 t299 _ ?side1 ?side2 A84.out).mono ?_
                  (case side1 => exact HO_284002.out)
                  (case side2 => exact HO_284003.out)
                  rintro e w103 ⟨v297, v300, rfl, ho0, ho1, hb⟩
                  refine ⟨_, rfl, ?_⟩
                  have n0_ := Aside0.mk (Kd.V_elder' q61_ q94_ hb)
                  have n1_ := Aside0.mk (Kd.V_elder' q62_ q94_ hb)
                  have n2_ := Aside0.mk (Kd.V_elder' q63_ q94_ hb)
                  have n3_ := Aside0.mk (Kd.V_elder' q64_ q94_ hb)
                  have n4_ := Aside0.mk (Kd.V_elder' q65_ q94_ hb)
                  have n5_ := Aside0.mk (Kd.V_elder' q66_ q94_ hb)
                  have n6_ := Aside0.mk (Kd.V_lower (Kd.V_mono (ok' := fun k_ => ((P0_2_ k_ ∨ P0_3_ k_) ∨ w.heap.size ≤ k_) ∧ some k_ ≠ (v300 : Value).ownBlock ∧ k_ ≠ gb250 ∧ k_ ≠ gb254 ∧ k_ ≠ gb283) ho0 (fun k_ hk_ => ⟨Or.elim hk_.1 (fun hs_ => Or.elim hs_ (fun hs_ => hs_.1) (fun hs_ => hs_.1)) (fun hn_ => (.inr (Nat.le_trans (below_size q23_) hn_))), hk_.2, Or.elim hk_.1 (fun hs_ => Or.elim hs_ (fun hs_ => hs_.2.1) (fun hs_ => hs_.2.1)) (fun hn_ => (Kd.freshB (g := gb250) (o := .cells #[.int .i64 a0_0, .int .u64 a0_1, .slice A0_2 l0_2.length c0_2, .slice A0_3 l0_3.length c0_3] 34 (0, 0)) q54_ k_ hn_)), Or.elim hk_.1 (fun hs_ => Or.elim hs_ (fun hs_ => hs_.2.2.1) (fun hs_ => hs_.2.2.1)) (fun hn_ => (Kd.freshB (g := gb254) (o := .cells #[.int .i64 x255000_2, .int .u64 x255001_2, u255002, u255003] 34 (0, 0)) q55_ k_ hn_)), Or.elim hk_.1 (fun hs_ => Or.elim hs_ (fun hs_ => hs_.2.2.2) (fun hs_ => hs_.2.2.2)) (fun hn_ => (Kd.freshB (g := gb283) (o := .cells #[.int .i64 t274, .int .u64 t275, .slice Ao64 t276.length co64, .slice Ao65 t279.length co65] 27 (0, 0)) q56_ k_ hn_))⟩)) (below_size q23_))
                  have n7_ := Aside0.mk (Kd.N_lower (Kd.N_mono (ok' := fun k_ => ((P0_2_ k_ ∨ P0_3_ k_) ∨ w.heap.size ≤ k_) ∧ k_ ≠ gb250 ∧ k_ ≠ gb254 ∧ k_ ≠ gb283) ho1 (fun k_ hk_ => ⟨Or.elim hk_ (fun hs_ => Or.elim hs_ (fun hs_ => hs_.1) (fun hs_ => hs_.1)) (fun hn_ => (.inr (Nat.le_trans (below_size q23_) hn_))), Or.elim hk_ (fun hs_ => Or.elim hs_ (fun hs_ => hs_.2.1) (fun hs_ => hs_.2.1)) (fun hn_ => (Kd.freshB (g := gb250) (o := .cells #[.int .i64 a0_0, .int .u64 a0_1, .slice A0_2 l0_2.length c0_2, .slice A0_3 l0_3.length c0_3] 34 (0, 0)) q54_ k_ hn_)), Or.elim hk_ (fun hs_ => Or.elim hs_ (fun hs_ => hs_.2.2.1) (fun hs_ => hs_.2.2.1)) (fun hn_ => (Kd.freshB (g := gb254) (o := .cells #[.int .i64 x255000_2, .int .u64 x255001_2, u255002, u255003] 34 (0, 0)) q55_ k_ hn_)), Or.elim hk_ (fun hs_ => Or.elim hs_ (fun hs_ => hs_.2.2.2) (fun hs_ => hs_.2.2.2)) (fun hn_ => (Kd.freshB (g := gb283) (o := .cells #[.int .i64 t274, .int .u64 t275, .slice Ao64 t276.length co64, .slice Ao65 t279.length co65] 27 (0, 0)) q56_ k_ hn_))⟩)) (below_size q23_))
                  have n8_ := Aside0.mk (blk_below (g := gb250) (o := .cells #[.int .i64 a0_0, .int .u64 a0_1, .slice A0_2 l0_2.length c0_2, .slice A0_3 l0_3.length c0_3] 34 (0, 0)) q54_ hb)
                  have n9_ := Aside0.mk (blk_below (g := gb254) (o := .cells #[.int .i64 x255000_2, .int .u64 x255001_2, u255002, u255003] 34 (0, 0)) q55_ hb)
                  have n10_ := Aside0.mk (blk_below (g := gb283) (o := .cells #[.int .i64 t274, .int .u64 t275, .slice Ao64 t276.length co64, .slice Ao65 t279.length co65] 27 (0, 0)) q56_ hb)
                  have n11_ := Aside0.mk (below_step q23_ hb)
                  clear HO_251002
                  clear HO_251003
                  clear HO_255002
                  clear HO_255003
                  clear HO_284002
                  clear HO_284003
                  clear BK250
                  clear BK254
                  clear BK283
                  clear HB
                  have HO_251002 := n0_
                  have HO_251003 := n1_
                  have HO_255002 := n2_
                  have HO_255003 := n3_
                  have HO_284002 := n4_
                  have HO_284003 := n5_
                  have HO298 := n6_
                  have HO301 := n7_
                  have BK250 := n8_
                  have BK254 := n9_
                  have BK283 := n10_
                  have HB := n11_
                  clear n0_ n1_ n2_ n3_ n4_ n5_ n6_ n7_ n8_ n9_ n10_ n11_
                  (try clear hb)
                  (try clear hb2)
                  (try clear hk)
                  (try clear hi)
                  (try clear ho0)
                  (try clear ho1)
                  obtain ⟨Ao104, co104, eo104⟩ := Kd.V_slice HO298.out
                  (first | subst eo104 | (injection eo104 with f1_ f2_ f3_; have f4_ := f1_.symm; have f5_ := f3_.symm; clear f1_ f2_ f3_; subst f4_; subst f5_))
                  obtain ⟨Ao105, co105, eo105⟩ := Kd.N_slice HO301.out
                  (first | subst eo105 | (injection eo105 with f1_ f2_ f3_; have f4_ := f1_.symm; have f5_ := f3_.symm; clear f1_ f2_ f3_; subst f4_; subst f5_))
                  obtain ⟨Ao106, co106, eo106⟩ := Kd.V_slice HO_255002.out
                  (first | subst eo106 | (injection eo106 with f1_ f2_ f3_; have f4_ := f1_.symm; have f5_ := f3_.symm; clear f1_ f2_ f3_; subst f4_; subst f5_))
                  obtain ⟨Ao107, co107, eo107⟩ := Kd.V_slice HO_255003.out
                  (first | subst eo107 | (injection eo107 with f1_ f2_ f3_; have f4_ := f1_.symm; have f5_ := f3_.symm; clear f1_ f2_ f3_; subst f4_; subst f5_))
                  refine hK.out _ _ ⟨(blk_cell BK283.out 0).trans rfl, (blk_cell BK283.out 1).trans rfl, (blk_cell BK283.out 2).trans rfl, (blk_cell BK283.out 3).trans rfl, (blk_cell BK254.out 0).trans rfl, (blk_cell BK254.out 1).trans rfl, (blk_cell BK254.out 2).trans rfl, (blk_cell BK254.out 3).trans rfl⟩ (fun hHeld => ?_)
                  clear hK K
                  refine norm_ (a' := ?_) ?_ ?_
                  rotate_left
                  ·show Act.put _ (some 84) _ = _
                   simp only [Act.put, List.setIfInBounds_toArray, List.set_cons_zero, List.set_cons_succ, i64_w, i32_w]
                   rfl
                  refine one_ (i := 7) (N := some 86) #[true, true, true, true, true, true, true, true, false, false, false, false, false, false, false] rfl rfl (one_of HT_.out (by kernel_rfl)) (by decide) (fun K hK => ?_)
                  refine goes_ Tryd.func17 (by kernel_rfl) rfl #[.agg #[.int .i64 t294, .int .u64 t295, .slice Ao104 t296.length co104, .slice Ao105 t299.length co105], .agg #[.int .i64 x255000_2, .int .u64 x255001_2, .slice Ao106 x255002_2.length co106, .slice Ao107 x255003_2.length co107]] (by rfl) rfl rfl q43_ ?_
                  with_reducible refine (pyxref10_Same.calls kj52 t294 t295 _ _ t296 _ _ t299 x255000_2 x255001_2 _ _ x255002_2 _ _ x255003_2 true _ ?side1 ?side2 ?side3 ?side4 ?side5 ?side6 ?side7 ?side8 A85.out).mono ?_
                  (case side1 => repeat (first | exact (Kd.V_reads' HO298.out).2.2 | (with_reducible refine Kd.C_alloc ?_ _) | (with_reducible refine Kd.C_drewN ?_ _) | (with_reducible refine Kd.C_drew ?_)))
                  (case side2 => exact (Kd.V_reads' HO298.out).2.1)
                  (case side3 => repeat (first | exact (Kd.N_reads' HO301.out).2.2 | (with_reducible refine Kd.C_alloc ?_ _) | (with_reducible refine Kd.C_drewN ?_ _) | (with_reducible refine Kd.C_drew ?_)))
                  (case side4 => exact (Kd.N_reads' HO301.out).2.1)
                  (case side5 => repeat (first | exact (Kd.V_reads' HO_255002.out).2.2 | (with_reducible refine Kd.C_alloc ?_ _) | (with_reducible refine Kd.C_drewN ?_ _) | (with_reducible refine Kd.C_drew ?_)))
                  (case side6 => exact (Kd.V_reads' HO_255002.out).2.1)
                  (case side7 => repeat (first | exact (Kd.V_reads' HO_255003.out).2.2 | (with_reducible refine Kd.C_alloc ?_ _) | (with_reducible refine Kd.C_drewN ?_ _) | (with_reducible refine Kd.C_drew ?_)))
                  (case side8 => exact (Kd.V_reads' HO_255003.out).2.1)
                  rintro e w108 ⟨rfl, hb⟩
                  refine ⟨_, rfl, ?_⟩
                  have n0_ := Aside0.mk (Kd.V_below q61_ hb)
                  have n1_ := Aside0.mk (Kd.V_below q62_ hb)
                  have n2_ := Aside0.mk (Kd.V_below q63_ hb)
                  have n3_ := Aside0.mk (Kd.V_below q64_ hb)
                  have n4_ := Aside0.mk (Kd.V_below q65_ hb)
                  have n5_ := Aside0.mk (Kd.V_below q66_ hb)
                  have n6_ := Aside0.mk (Kd.V_below q92_ hb)
                  have n7_ := Aside0.mk (Kd.N_below q93_ hb)
                  have n8_ := Aside0.mk (blk_below (g := gb250) (o := .cells #[.int .i64 a0_0, .int .u64 a0_1, .slice A0_2 l0_2.length c0_2, .slice A0_3 l0_3.length c0_3] 34 (0, 0)) q54_ hb)
                  have n9_ := Aside0.mk (blk_below (g := gb254) (o := .cells #[.int .i64 x255000_2, .int .u64 x255001_2, .slice Ao106 x255002_2.length co106, .slice Ao107 x255003_2.length co107] 34 (0, 0)) q55_ hb)
                  have n10_ := Aside0.mk (blk_below (g := gb283) (o := .cells #[.int .i64 t274, .int .u64 t275, .slice Ao64 t276.length co64, .slice Ao65 t279.length co65] 27 (0, 0)) q56_ hb)
                  have n11_ := Aside0.mk (below_step q23_ hb)
                  clear HO_251002
                  clear HO_251003
                  clear HO_255002
                  clear HO_255003
                  clear HO_284002
                  clear HO_284003
                  clear HO298
                  clear HO301
                  clear BK250
                  clear BK254
                  clear BK283
                  clear HB
                  have HO_251002 := n0_
                  have HO_251003 := n1_
                  have HO_255002 := n2_
                  have HO_255003 := n3_
                  have HO_284002 := n4_
                  have HO_284003 := n5_
                  have HO298 := n6_
                  have HO301 := n7_
                  have BK250 := n8_
                  have BK254 := n9_
                  have BK283 := n10_
                  have HB := n11_
                  clear n0_ n1_ n2_ n3_ n4_ n5_ n6_ n7_ n8_ n9_ n10_ n11_
                  (try clear hb)
                  (try clear hb2)
                  (try clear hk)
                  (try clear hi)
                  refine hK.out _ _ ⟨(blk_cell BK283.out 0).trans rfl, (blk_cell BK283.out 1).trans rfl, (blk_cell BK283.out 2).trans rfl, (blk_cell BK283.out 3).trans rfl, (blk_cell BK254.out 0).trans rfl, (blk_cell BK254.out 1).trans rfl, (blk_cell BK254.out 2).trans rfl, (blk_cell BK254.out 3).trans rfl⟩ (fun hHeld => ?_)
                  clear hK K
                  refine norm_ (a' := ?_) ?_ ?_
                  rotate_left
                  ·show Act.put _ (some 86) _ = _
                   simp only [Act.put, List.setIfInBounds_toArray, List.set_cons_zero, List.set_cons_succ, i64_w, i32_w]
                   rfl
                  refine pure_ (i := 8) (N := some 87) (v := ?_) (a' := ?_) #[true, true, true, true, true, true, true, true, true, false, false, false, false, false, false] rfl rfl (any_of HT_.out (by kernel_rfl)) (fun _ _ _ h => h) (Or.inl ⟨by rfl, ?_⟩) ?_ ?_
                  rotate_left
                  ·intro w'
                   go_simp
                   with_reducible rfl
                  rotate_left
                  ·simp only [Act.put, List.setIfInBounds_toArray, List.set_cons_zero, List.set_cons_succ, i64_w, i32_w]
                   rfl
                  refine pure_ (i := 9) (N := some 88) (v := ?_) (a' := ?_) #[true, true, true, true, true, true, true, true, true, true, false, false, false, false, false] rfl rfl (any_of HT_.out (by kernel_rfl)) (fun _ _ _ h => h) (Or.inl ⟨by rfl, ?_⟩) ?_ ?_
                  rotate_left
                  ·intro w'
                   go_simp
                   with_reducible rfl
                  rotate_left
                  ·simp only [Act.put, List.setIfInBounds_toArray, List.set_cons_zero, List.set_cons_succ, i64_w, i32_w]
                   rfl
                  refine pure_ (i := 10) (N := some 89) (v := ?_) (a' := ?_) #[true, true, true, true, true, true, true, true, true, true, true, false, false, false, false] rfl rfl (any_of HT_.out (by kernel_rfl)) (fun _ _ _ h => h) (Or.inl ⟨by rfl, ?_⟩) ?_ ?_
                  rotate_left
                  ·intro w'
                   go_simp
                   with_reducible rfl
                  rotate_left
                  ·simp only [Act.put, List.setIfInBounds_toArray, List.set_cons_zero, List.set_cons_succ, i64_w, i32_w]
                   rfl
                  refine pure_ (i := 11) (N := some 90) (v := ?_) (a' := ?_) #[true, true, true, true, true, true, true, true, true, true, true, true, false, false, false] rfl rfl (any_of HT_.out (by kernel_rfl)) (fun _ _ _ h => h) (Or.inl ⟨by rfl, ?_⟩) ?_ ?_
                  rotate_left
                  ·intro w'
                   go_simp
                   with_reducible rfl
                  rotate_left
                  ·simp only [Act.put, List.setIfInBounds_toArray, List.set_cons_zero, List.set_cons_succ, i64_w, i32_w]
                   rfl
                  refine pure_ (i := 12) (N := some 91) (v := ?_) (a' := ?_) #[true, true, true, true, true, true, true, true, true, true, true, true, true, false, false] rfl rfl (any_of HT_.out (by kernel_rfl)) (fun _ _ _ h => h) (Or.inl ⟨by rfl, ?_⟩) ?_ ?_
                  rotate_left
                  ·intro w'
                   go_simp
                   with_reducible rfl
                  rotate_left
                  ·simp only [Act.put, List.setIfInBounds_toArray, List.set_cons_zero, List.set_cons_succ, i64_w, i32_w]
                   rfl
                  refine pure_ (i := 13) (N := some 92) (v := ?_) (a' := ?_) #[true, true, true, true, true, true, true, true, true, true, true, true, true, true, false] rfl rfl (any_of HT_.out (by kernel_rfl)) (fun _ _ _ h => h) (Or.inl ⟨by rfl, ?_⟩) ?_ ?_
                  rotate_left
                  ·intro w'
                   go_simp
                   with_reducible rfl
                  rotate_left
                  ·simp only [Act.put, List.setIfInBounds_toArray, List.set_cons_zero, List.set_cons_succ, i64_w, i32_w]
                   rfl
                  refine pure_ (i := 14) (N := some 93) (v := ?_) (a' := ?_) #[true, true, true, true, true, true, true, true, true, true, true, true, true, true, true] rfl rfl (any_of HT_.out (by kernel_rfl)) (fun _ _ _ h => h) (Or.inl ⟨by rfl, ?_⟩) ?_ ?_
                  rotate_left
                  ·intro w'
                   go_simp
                   with_reducible rfl
                  rotate_left
                  ·simp only [Act.put, List.setIfInBounds_toArray, List.set_cons_zero, List.set_cons_succ, i64_w, i32_w]
                   rfl
                  refine done_ (done_of HT_.out (by kernel_rfl)) ?_
                  have hnb109 := NB250_254.out
                  have hnc109 := NB254_250.out
                  have hnb110 := NB250_283.out
                  have hnc110 := NB283_250.out
                  have hcz111_0 : w108.cell? ⟨gb250, 0, none⟩ = some (.int .i64 a0_0) := (blk_cell BK250.out 0).trans rfl
                  have hcz111_1 : w108.cell? ⟨gb250, 1, none⟩ = some (.int .u64 a0_1) := (blk_cell BK250.out 1).trans rfl
                  have hcz111_2 : w108.cell? ⟨gb250, 2, none⟩ = some (.slice A0_2 l0_2.length c0_2) := (blk_cell BK250.out 2).trans rfl
                  have hcz111_3 : w108.cell? ⟨gb250, 3, none⟩ = some (.slice A0_3 l0_3.length c0_3) := (blk_cell BK250.out 3).trans rfl
                  have hfz111_0 := blk_frozen BK250.out 0
                  have hfz111_1 := blk_frozen BK250.out 1
                  have hfz111_2 := blk_frozen BK250.out 2
                  have hfz111_3 := blk_frozen BK250.out 3
                  try go_wp2
                  go_ret
                  exact ⟨by first | rfl | (simp [errW_none, errW_some] <;> rfl) | (simp [*, errW_none, errW_some] <;> rfl), by repeat (first | (with_reducible first | exact HB.out | apply below_alloc | apply pw_below_drewN | apply below_drew1 | refine below_set ?_ GE250.out | refine below_set ?_ GE254.out | refine below_set ?_ GE283.out) | exact HB.out)⟩
                 ·rw [if_neg c101] at H
                  have c101b0 : (a0_0 == 1) = false := beq_eq_false_iff_ne.mpr c101
                  have c101b1 : (a0_0 != 1) = true := bne_iff_ne.mpr c101
                  exact absurd ((Option.some.inj H).trans HT.out) (by decide)
               ·rw [if_neg c89] at H
                have c89b0 : (a0_0 == 0) = false := beq_eq_false_iff_ne.mpr c89
                have c89b1 : (a0_0 != 0) = true := bne_iff_ne.mpr c89
                by_cases c112 : a0_0 = 1
                ·rw [if_pos c112] at H
                 have c112b0 : (a0_0 == 1) = true := beq_iff_eq.mpr c112
                 have c112b1 : (a0_0 != 1) = false := bne_eq_false_iff_eq.mpr c112
                 clear c112
                 obtain rfl := Option.some.inj H
                 try go_wp2
                 have n0_ := Aside0.mk (Kd.V_drew HO_251002.out)
                 have n1_ := Aside0.mk (Kd.V_drew HO_251003.out)
                 have n2_ := Aside0.mk (Kd.V_drew HO_255002.out)
                 have n3_ := Aside0.mk (Kd.V_drew HO_255003.out)
                 have n4_ := Aside0.mk (Kd.V_drew HO_284002.out)
                 have n5_ := Aside0.mk (Kd.V_drew HO_284003.out)
                 have n6_ := Aside0.mk (blk_drew BK250.out)
                 have n7_ := Aside0.mk (blk_drew BK254.out)
                 have n8_ := Aside0.mk (blk_drew BK283.out)
                 have n9_ := Aside0.mk (below_drew1 HB.out)
                 clear HO_251002
                 clear HO_251003
                 clear HO_255002
                 clear HO_255003
                 clear HO_284002
                 clear HO_284003
                 clear BK250
                 clear BK254
                 clear BK283
                 clear HB
                 have HO_251002 := n0_
                 have HO_251003 := n1_
                 have HO_255002 := n2_
                 have HO_255003 := n3_
                 have HO_284002 := n4_
                 have HO_284003 := n5_
                 have BK250 := n6_
                 have BK254 := n7_
                 have BK283 := n8_
                 have HB := n9_
                 clear n0_ n1_ n2_ n3_ n4_ n5_ n6_ n7_ n8_ n9_
                 refine start_ (n := 15) (S := fun w' => w'.cell? ⟨gb283, 0, none⟩ = some (.int .i64 t274) ∧ w'.cell? ⟨gb283, 1, none⟩ = some (.int .u64 t275) ∧ w'.cell? ⟨gb283, 2, none⟩ = some (.slice Ao64 t276.length co64) ∧ w'.cell? ⟨gb283, 3, none⟩ = some (.slice Ao65 t279.length co65) ∧ w'.cell? ⟨gb254, 0, none⟩ = some (.int .i64 x255000_2) ∧ w'.cell? ⟨gb254, 1, none⟩ = some (.int .u64 x255001_2) ∧ w'.cell? ⟨gb254, 2, none⟩ = some (u255002) ∧ w'.cell? ⟨gb254, 3, none⟩ = some (u255003)) (ds := []) #[false, false, false, false, false, false, false, false, false, false, false, false, false, false, false] (by kernel_rfl) rfl rfl ⟨(blk_cell BK283.out 0).trans rfl, (blk_cell BK283.out 1).trans rfl, (blk_cell BK283.out 2).trans rfl, (blk_cell BK283.out 3).trans rfl, (blk_cell BK254.out 0).trans rfl, (blk_cell BK254.out 1).trans rfl, (blk_cell BK254.out 2).trans rfl, (blk_cell BK254.out 3).trans rfl⟩ (fun hHeld => ?_); refine with_tabW pyxlaw10_CborGets.tab14 pyxlaw10_CborGets.bits14 (fun HT_ HW_ => ?_)
                 generalize wc.drew = w113 at HO_251002 HO_251003 HO_255002 HO_255003 HO_284002 HO_284003 BK250 BK254 BK283 HB hHeld ⊢
                 refine pure_ (i := 0) (N := some 79) (v := ?_) (a' := ?_) #[true, false, false, false, false, false, false, false, false, false, false, false, false, false, false] rfl rfl (any_of HT_.out (by kernel_rfl)) (fun _ _ _ h => h) (Or.inl ⟨by rfl, ?_⟩) ?_ ?_
                 rotate_left
                 ·intro w'
                  go_simp
                  with_reducible rfl
                 rotate_left
                 ·simp only [Act.put, List.setIfInBounds_toArray, List.set_cons_zero, List.set_cons_succ, i64_w, i32_w]
                  rfl
                 refine pure_ (i := 1) (N := some 80) (v := ?_) (a' := ?_) #[true, true, false, false, false, false, false, false, false, false, false, false, false, false, false] rfl rfl (any_of HT_.out (by kernel_rfl)) (fun _ _ _ h => h) (Or.inl ⟨by rfl, ?_⟩) ?_ ?_
                 rotate_left
                 ·intro w'
                  go_simp
                  with_reducible rfl
                 rotate_left
                 ·simp only [Act.put, List.setIfInBounds_toArray, List.set_cons_zero, List.set_cons_succ, i64_w, i32_w]
                  rfl
                 refine pure_ (i := 2) (N := some 81) (v := ?_) (a' := ?_) #[true, true, true, false, false, false, false, false, false, false, false, false, false, false, false] rfl rfl (any_of HT_.out (by kernel_rfl)) (fun _ _ _ h => h) (Or.inl ⟨by rfl, ?_⟩) ?_ ?_
                 rotate_left
                 ·intro w'
                  go_simp
                  with_reducible rfl
                 rotate_left
                 ·simp only [Act.put, List.setIfInBounds_toArray, List.set_cons_zero, List.set_cons_succ, i64_w, i32_w]
                  rfl
                 refine pure_ (i := 3) (N := some 82) (v := ?_) (a' := ?_) #[true, true, true, true, false, false, false, false, false, false, false, false, false, false, false] rfl rfl (any_of HT_.out (by kernel_rfl)) (fun _ _ _ h => h) (Or.inl ⟨by rfl, ?_⟩) ?_ ?_
                 rotate_left
                 ·intro w'
                  go_simp
                  with_reducible rfl
                 rotate_left
                 ·simp only [Act.put, List.setIfInBounds_toArray, List.set_cons_zero, List.set_cons_succ, i64_w, i32_w]
                  rfl
                 refine take_ (i := 4) (N := some 83) (v := ?_) (a' := ?_) #[true, true, true, true, true, false, false, false, false, false, false, false, false, false, false] rfl rfl (take_ofW HT_.out HW_.out (by kernel_rfl)) (fun _ _ _ h => h) (Or.inl ⟨by rfl, ?_⟩) hHeld ?_ ?_
                 rotate_left
                 ·rintro w' ⟨s0, s1, s2, s3, s4, s5, s6, s7⟩
                  go_simp
                  with_reducible rfl
                 rotate_left
                 ·simp only [Act.put, List.setIfInBounds_toArray, List.set_cons_zero, List.set_cons_succ, i64_w, i32_w]
                  rfl
                 refine take_ (i := 6) (N := some 85) (v := ?_) (a' := ?_) #[true, true, true, true, true, false, true, false, false, false, false, false, false, false, false] rfl rfl (take_ofW HT_.out HW_.out (by kernel_rfl)) (fun _ _ _ h => h) (Or.inl ⟨by rfl, ?_⟩) hHeld ?_ ?_
                 rotate_left
                 ·rintro w' ⟨s0, s1, s2, s3, s4, s5, s6, s7⟩
                  go_simp
                  with_reducible rfl
                 rotate_left
                 ·simp only [Act.put, List.setIfInBounds_toArray, List.set_cons_zero, List.set_cons_succ, i64_w, i32_w]
                  rfl
                 refine one_ (i := 5) (N := some 84) #[true, true, true, true, true, true, true, false, false, false, false, false, false, false, false] rfl rfl (one_of HT_.out (by kernel_rfl)) (by decide) (fun K hK => ?_)
                 refine goes_ Tryd.func18 (by kernel_rfl) rfl #[.agg #[.int .i64 t274, .int .u64 t275, .slice Ao64 t276.length co64, .slice Ao65 t279.length co65]] (by rfl) rfl rfl q43_ ?_
                 with_reducible refine (pyxlaw10_back.calls kj52 t274 t275 (fun k_ => (((P0_2_ k_ ∨ P0_3_ k_) ∨ w.heap.size ≤ k_) ∧ (k_ ≠ gb250 ∧ (k_ ≠ gb254 ∧ k_ ≠ gb283)))) _ _ t276 (fun k_ => (((P0_2_ k_ ∨ P0_3_ k_) ∨ w.heap.size ≤ k_) ∧ (k_ ≠ gb250 ∧ (k_ ≠ gb254 ∧ k_ ≠ gb283)))) _ _ t279 t294 t295 t296 t299 _ ?side1 ?side2 A84.out).mono ?_
                 (case side1 => exact HO_284002.out)
                 (case side2 => exact HO_284003.out)
                 rintro e w114 ⟨v297, v300, rfl, ho0, ho1, hb⟩
                 refine ⟨_, rfl, ?_⟩
                 have n0_ := Aside0.mk (Kd.V_elder' q61_ q94_ hb)
                 have n1_ := Aside0.mk (Kd.V_elder' q62_ q94_ hb)
                 have n2_ := Aside0.mk (Kd.V_elder' q63_ q94_ hb)
                 have n3_ := Aside0.mk (Kd.V_elder' q64_ q94_ hb)
                 have n4_ := Aside0.mk (Kd.V_elder' q65_ q94_ hb)
                 have n5_ := Aside0.mk (Kd.V_elder' q66_ q94_ hb)
                 have n6_ := Aside0.mk (Kd.V_lower (Kd.V_mono (ok' := fun k_ => ((P0_2_ k_ ∨ P0_3_ k_) ∨ w.heap.size ≤ k_) ∧ some k_ ≠ (v300 : Value).ownBlock ∧ k_ ≠ gb250 ∧ k_ ≠ gb254 ∧ k_ ≠ gb283) ho0 (fun k_ hk_ => ⟨Or.elim hk_.1 (fun hs_ => Or.elim hs_ (fun hs_ => hs_.1) (fun hs_ => hs_.1)) (fun hn_ => (.inr (Nat.le_trans (below_size q23_) hn_))), hk_.2, Or.elim hk_.1 (fun hs_ => Or.elim hs_ (fun hs_ => hs_.2.1) (fun hs_ => hs_.2.1)) (fun hn_ => (Kd.freshB (g := gb250) (o := .cells #[.int .i64 a0_0, .int .u64 a0_1, .slice A0_2 l0_2.length c0_2, .slice A0_3 l0_3.length c0_3] 34 (0, 0)) q54_ k_ hn_)), Or.elim hk_.1 (fun hs_ => Or.elim hs_ (fun hs_ => hs_.2.2.1) (fun hs_ => hs_.2.2.1)) (fun hn_ => (Kd.freshB (g := gb254) (o := .cells #[.int .i64 x255000_2, .int .u64 x255001_2, u255002, u255003] 34 (0, 0)) q55_ k_ hn_)), Or.elim hk_.1 (fun hs_ => Or.elim hs_ (fun hs_ => hs_.2.2.2) (fun hs_ => hs_.2.2.2)) (fun hn_ => (Kd.freshB (g := gb283) (o := .cells #[.int .i64 t274, .int .u64 t275, .slice Ao64 t276.length co64, .slice Ao65 t279.length co65] 27 (0, 0)) q56_ k_ hn_))⟩)) (below_size q23_))
                 have n7_ := Aside0.mk (Kd.N_lower (Kd.N_mono (ok' := fun k_ => ((P0_2_ k_ ∨ P0_3_ k_) ∨ w.heap.size ≤ k_) ∧ k_ ≠ gb250 ∧ k_ ≠ gb254 ∧ k_ ≠ gb283) ho1 (fun k_ hk_ => ⟨Or.elim hk_ (fun hs_ => Or.elim hs_ (fun hs_ => hs_.1) (fun hs_ => hs_.1)) (fun hn_ => (.inr (Nat.le_trans (below_size q23_) hn_))), Or.elim hk_ (fun hs_ => Or.elim hs_ (fun hs_ => hs_.2.1) (fun hs_ => hs_.2.1)) (fun hn_ => (Kd.freshB (g := gb250) (o := .cells #[.int .i64 a0_0, .int .u64 a0_1, .slice A0_2 l0_2.length c0_2, .slice A0_3 l0_3.length c0_3] 34 (0, 0)) q54_ k_ hn_)), Or.elim hk_ (fun hs_ => Or.elim hs_ (fun hs_ => hs_.2.2.1) (fun hs_ => hs_.2.2.1)) (fun hn_ => (Kd.freshB (g := gb254) (o := .cells #[.int .i64 x255000_2, .int .u64 x255001_2, u255002, u255003] 34 (0, 0)) q55_ k_ hn_)), Or.elim hk_ (fun hs_ => Or.elim hs_ (fun hs_ => hs_.2.2.2) (fun hs_ => hs_.2.2.2)) (fun hn_ => (Kd.freshB (g := gb283) (o := .cells #[.int .i64 t274, .int .u64 t275, .slice Ao64 t276.length co64, .slice Ao65 t279.length co65] 27 (0, 0)) q56_ k_ hn_))⟩)) (below_size q23_))
                 have n8_ := Aside0.mk (blk_below (g := gb250) (o := .cells #[.int .i64 a0_0, .int .u64 a0_1, .slice A0_2 l0_2.length c0_2, .slice A0_3 l0_3.length c0_3] 34 (0, 0)) q54_ hb)
                 have n9_ := Aside0.mk (blk_below (g := gb254) (o := .cells #[.int .i64 x255000_2, .int .u64 x255001_2, u255002, u255003] 34 (0, 0)) q55_ hb)
                 have n10_ := Aside0.mk (blk_below (g := gb283) (o := .cells #[.int .i64 t274, .int .u64 t275, .slice Ao64 t276.length co64, .slice Ao65 t279.length co65] 27 (0, 0)) q56_ hb)
                 have n11_ := Aside0.mk (below_step q23_ hb)
                 clear HO_251002
                 clear HO_251003
                 clear HO_255002
                 clear HO_255003
                 clear HO_284002
                 clear HO_284003
                 clear BK250
                 clear BK254
                 clear BK283
                 clear HB
                 have HO_251002 := n0_
                 have HO_251003 := n1_
                 have HO_255002 := n2_
                 have HO_255003 := n3_
                 have HO_284002 := n4_
                 have HO_284003 := n5_
                 have HO298 := n6_
                 have HO301 := n7_
                 have BK250 := n8_
                 have BK254 := n9_
                 have BK283 := n10_
                 have HB := n11_
                 clear n0_ n1_ n2_ n3_ n4_ n5_ n6_ n7_ n8_ n9_ n10_ n11_
                 (try clear hb)
                 (try clear hb2)
                 (try clear hk)
                 (try clear hi)
                 (try clear ho0)
                 (try clear ho1)
                 obtain ⟨Ao115, co115, eo115⟩ := Kd.V_slice HO298.out
                 (first | subst eo115 | (injection eo115 with f1_ f2_ f3_; have f4_ := f1_.symm; have f5_ := f3_.symm; clear f1_ f2_ f3_; subst f4_; subst f5_))
                 obtain ⟨Ao116, co116, eo116⟩ := Kd.N_slice HO301.out
                 (first | subst eo116 | (injection eo116 with f1_ f2_ f3_; have f4_ := f1_.symm; have f5_ := f3_.symm; clear f1_ f2_ f3_; subst f4_; subst f5_))
                 obtain ⟨Ao117, co117, eo117⟩ := Kd.V_slice HO_255002.out
                 (first | subst eo117 | (injection eo117 with f1_ f2_ f3_; have f4_ := f1_.symm; have f5_ := f3_.symm; clear f1_ f2_ f3_; subst f4_; subst f5_))
                 obtain ⟨Ao118, co118, eo118⟩ := Kd.V_slice HO_255003.out
                 (first | subst eo118 | (injection eo118 with f1_ f2_ f3_; have f4_ := f1_.symm; have f5_ := f3_.symm; clear f1_ f2_ f3_; subst f4_; subst f5_))
                 refine hK.out _ _ ⟨(blk_cell BK283.out 0).trans rfl, (blk_cell BK283.out 1).trans rfl, (blk_cell BK283.out 2).trans rfl, (blk_cell BK283.out 3).trans rfl, (blk_cell BK254.out 0).trans rfl, (blk_cell BK254.out 1).trans rfl, (blk_cell BK254.out 2).trans rfl, (blk_cell BK254.out 3).trans rfl⟩ (fun hHeld => ?_)
                 clear hK K
                 refine norm_ (a' := ?_) ?_ ?_
                 rotate_left
                 ·show Act.put _ (some 84) _ = _
                  simp only [Act.put, List.setIfInBounds_toArray, List.set_cons_zero, List.set_cons_succ, i64_w, i32_w]
                  rfl
                 refine one_ (i := 7) (N := some 86) #[true, true, true, true, true, true, true, true, false, false, false, false, false, false, false] rfl rfl (one_of HT_.out (by kernel_rfl)) (by decide) (fun K hK => ?_)
                 refine goes_ Tryd.func17 (by kernel_rfl) rfl #[.agg #[.int .i64 t294, .int .u64 t295, .slice Ao115 t296.length co115, .slice Ao116 t299.length co116], .agg #[.int .i64 x255000_2, .int .u64 x255001_2, .slice Ao117 x255002_2.length co117, .slice Ao118 x255003_2.length co118]] (by rfl) rfl rfl q43_ ?_
                 with_reducible refine (pyxref10_Same.calls kj52 t294 t295 _ _ t296 _ _ t299 x255000_2 x255001_2 _ _ x255002_2 _ _ x255003_2 true _ ?side1 ?side2 ?side3 ?side4 ?side5 ?side6 ?side7 ?side8 A85.out).mono ?_
                 (case side1 => repeat (first | exact (Kd.V_reads' HO298.out).2.2 | (with_reducible refine Kd.C_alloc ?_ _) | (with_reducible refine Kd.C_drewN ?_ _) | (with_reducible refine Kd.C_drew ?_)))
                 (case side2 => exact (Kd.V_reads' HO298.out).2.1)
                 (case side3 => repeat (first | exact (Kd.N_reads' HO301.out).2.2 | (with_reducible refine Kd.C_alloc ?_ _) | (with_reducible refine Kd.C_drewN ?_ _) | (with_reducible refine Kd.C_drew ?_)))
                 (case side4 => exact (Kd.N_reads' HO301.out).2.1)
                 (case side5 => repeat (first | exact (Kd.V_reads' HO_255002.out).2.2 | (with_reducible refine Kd.C_alloc ?_ _) | (with_reducible refine Kd.C_drewN ?_ _) | (with_reducible refine Kd.C_drew ?_)))
                 (case side6 => exact (Kd.V_reads' HO_255002.out).2.1)
                 (case side7 => repeat (first | exact (Kd.V_reads' HO_255003.out).2.2 | (with_reducible refine Kd.C_alloc ?_ _) | (with_reducible refine Kd.C_drewN ?_ _) | (with_reducible refine Kd.C_drew ?_)))
                 (case side8 => exact (Kd.V_reads' HO_255003.out).2.1)
                 rintro e w119 ⟨rfl, hb⟩
                 refine ⟨_, rfl, ?_⟩
                 have n0_ := Aside0.mk (Kd.V_below q61_ hb)
                 have n1_ := Aside0.mk (Kd.V_below q62_ hb)
                 have n2_ := Aside0.mk (Kd.V_below q63_ hb)
                 have n3_ := Aside0.mk (Kd.V_below q64_ hb)
                 have n4_ := Aside0.mk (Kd.V_below q65_ hb)
                 have n5_ := Aside0.mk (Kd.V_below q66_ hb)
                 have n6_ := Aside0.mk (Kd.V_below q92_ hb)
                 have n7_ := Aside0.mk (Kd.N_below q93_ hb)
                 have n8_ := Aside0.mk (blk_below (g := gb250) (o := .cells #[.int .i64 a0_0, .int .u64 a0_1, .slice A0_2 l0_2.length c0_2, .slice A0_3 l0_3.length c0_3] 34 (0, 0)) q54_ hb)
                 have n9_ := Aside0.mk (blk_below (g := gb254) (o := .cells #[.int .i64 x255000_2, .int .u64 x255001_2, .slice Ao117 x255002_2.length co117, .slice Ao118 x255003_2.length co118] 34 (0, 0)) q55_ hb)
                 have n10_ := Aside0.mk (blk_below (g := gb283) (o := .cells #[.int .i64 t274, .int .u64 t275, .slice Ao64 t276.length co64, .slice Ao65 t279.length co65] 27 (0, 0)) q56_ hb)
                 have n11_ := Aside0.mk (below_step q23_ hb)
                 clear HO_251002
                 clear HO_251003
                 clear HO_255002
                 clear HO_255003
                 clear HO_284002
                 clear HO_284003
                 clear HO298
                 clear HO301
                 clear BK250
                 clear BK254
                 clear BK283
                 clear HB
                 have HO_251002 := n0_
                 have HO_251003 := n1_
                 have HO_255002 := n2_
                 have HO_255003 := n3_
                 have HO_284002 := n4_
                 have HO_284003 := n5_
                 have HO298 := n6_
                 have HO301 := n7_
                 have BK250 := n8_
                 have BK254 := n9_
                 have BK283 := n10_
                 have HB := n11_
                 clear n0_ n1_ n2_ n3_ n4_ n5_ n6_ n7_ n8_ n9_ n10_ n11_
                 (try clear hb)
                 (try clear hb2)
                 (try clear hk)
                 (try clear hi)
                 refine hK.out _ _ ⟨(blk_cell BK283.out 0).trans rfl, (blk_cell BK283.out 1).trans rfl, (blk_cell BK283.out 2).trans rfl, (blk_cell BK283.out 3).trans rfl, (blk_cell BK254.out 0).trans rfl, (blk_cell BK254.out 1).trans rfl, (blk_cell BK254.out 2).trans rfl, (blk_cell BK254.out 3).trans rfl⟩ (fun hHeld => ?_)
                 clear hK K
                 refine norm_ (a' := ?_) ?_ ?_
                 rotate_left
                 ·show Act.put _ (some 86) _ = _
                  simp only [Act.put, List.setIfInBounds_toArray, List.set_cons_zero, List.set_cons_succ, i64_w, i32_w]
                  rfl
                 refine pure_ (i := 8) (N := some 87) (v := ?_) (a' := ?_) #[true, true, true, true, true, true, true, true, true, false, false, false, false, false, false] rfl rfl (any_of HT_.out (by kernel_rfl)) (fun _ _ _ h => h) (Or.inl ⟨by rfl, ?_⟩) ?_ ?_
                 rotate_left
                 ·intro w'
                  go_simp
                  with_reducible rfl
                 rotate_left
                 ·simp only [Act.put, List.setIfInBounds_toArray, List.set_cons_zero, List.set_cons_succ, i64_w, i32_w]
                  rfl
                 refine pure_ (i := 9) (N := some 88) (v := ?_) (a' := ?_) #[true, true, true, true, true, true, true, true, true, true, false, false, false, false, false] rfl rfl (any_of HT_.out (by kernel_rfl)) (fun _ _ _ h => h) (Or.inl ⟨by rfl, ?_⟩) ?_ ?_
                 rotate_left
                 ·intro w'
                  go_simp
                  with_reducible rfl
                 rotate_left
                 ·simp only [Act.put, List.setIfInBounds_toArray, List.set_cons_zero, List.set_cons_succ, i64_w, i32_w]
                  rfl
                 refine pure_ (i := 10) (N := some 89) (v := ?_) (a' := ?_) #[true, true, true, true, true, true, true, true, true, true, true, false, false, false, false] rfl rfl (any_of HT_.out (by kernel_rfl)) (fun _ _ _ h => h) (Or.inl ⟨by rfl, ?_⟩) ?_ ?_
                 rotate_left
                 ·intro w'
                  go_simp
                  with_reducible rfl
                 rotate_left
                 ·simp only [Act.put, List.setIfInBounds_toArray, List.set_cons_zero, List.set_cons_succ, i64_w, i32_w]
                  rfl
                 refine pure_ (i := 11) (N := some 90) (v := ?_) (a' := ?_) #[true, true, true, true, true, true, true, true, true, true, true, true, false, false, false] rfl rfl (any_of HT_.out (by kernel_rfl)) (fun _ _ _ h => h) (Or.inl ⟨by rfl, ?_⟩) ?_ ?_
                 rotate_left
                 ·intro w'
                  go_simp
                  with_reducible rfl
                 rotate_left
                 ·simp only [Act.put, List.setIfInBounds_toArray, List.set_cons_zero, List.set_cons_succ, i64_w, i32_w]
                  rfl
                 refine pure_ (i := 12) (N := some 91) (v := ?_) (a' := ?_) #[true, true, true, true, true, true, true, true, true, true, true, true, true, false, false] rfl rfl (any_of HT_.out (by kernel_rfl)) (fun _ _ _ h => h) (Or.inl ⟨by rfl, ?_⟩) ?_ ?_
                 rotate_left
                 ·intro w'
                  go_simp
                  with_reducible rfl
                 rotate_left
                 ·simp only [Act.put, List.setIfInBounds_toArray, List.set_cons_zero, List.set_cons_succ, i64_w, i32_w]
                  rfl
                 refine pure_ (i := 13) (N := some 92) (v := ?_) (a' := ?_) #[true, true, true, true, true, true, true, true, true, true, true, true, true, true, false] rfl rfl (any_of HT_.out (by kernel_rfl)) (fun _ _ _ h => h) (Or.inl ⟨by rfl, ?_⟩) ?_ ?_
                 rotate_left
                 ·intro w'
                  go_simp
                  with_reducible rfl
                 rotate_left
                 ·simp only [Act.put, List.setIfInBounds_toArray, List.set_cons_zero, List.set_cons_succ, i64_w, i32_w]
                  rfl
                 refine pure_ (i := 14) (N := some 93) (v := ?_) (a' := ?_) #[true, true, true, true, true, true, true, true, true, true, true, true, true, true, true] rfl rfl (any_of HT_.out (by kernel_rfl)) (fun _ _ _ h => h) (Or.inl ⟨by rfl, ?_⟩) ?_ ?_
                 rotate_left
                 ·intro w'
                  go_simp
                  with_reducible rfl
                 rotate_left
                 ·simp only [Act.put, List.setIfInBounds_toArray, List.set_cons_zero, List.set_cons_succ, i64_w, i32_w]
                  rfl
                 refine done_ (done_of HT_.out (by kernel_rfl)) ?_
                 have hnb120 := NB250_254.out
                 have hnc120 := NB254_250.out
                 have hnb121 := NB250_283.out
                 have hnc121 := NB283_250.out
                 have hcz122_0 : w119.cell? ⟨gb250, 0, none⟩ = some (.int .i64 a0_0) := (blk_cell BK250.out 0).trans rfl
                 have hcz122_1 : w119.cell? ⟨gb250, 1, none⟩ = some (.int .u64 a0_1) := (blk_cell BK250.out 1).trans rfl
                 have hcz122_2 : w119.cell? ⟨gb250, 2, none⟩ = some (.slice A0_2 l0_2.length c0_2) := (blk_cell BK250.out 2).trans rfl
                 have hcz122_3 : w119.cell? ⟨gb250, 3, none⟩ = some (.slice A0_3 l0_3.length c0_3) := (blk_cell BK250.out 3).trans rfl
                 have hfz122_0 := blk_frozen BK250.out 0
                 have hfz122_1 := blk_frozen BK250.out 1
                 have hfz122_2 := blk_frozen BK250.out 2
                 have hfz122_3 := blk_frozen BK250.out 3
                 try go_wp2
                 go_ret
                 exact ⟨by first | rfl | (simp [errW_none, errW_some] <;> rfl) | (simp [*, errW_none, errW_some] <;> rfl), by repeat (first | (with_reducible first | exact HB.out | apply below_alloc | apply pw_below_drewN | apply below_drew1 | refine below_set ?_ GE250.out | refine below_set ?_ GE254.out | refine below_set ?_ GE283.out) | exact HB.out)⟩
                ·rw [if_neg c112] at H
                 have c112b0 : (a0_0 == 1) = false := beq_eq_false_iff_ne.mpr c112
                 have c112b1 : (a0_0 != 1) = true := bne_iff_ne.mpr c112
                 exact absurd ((Option.some.inj H).trans HT.out) (by decide)
              ·replace c88 := Bool.eq_false_iff.mpr c88
               subst c88
               have H1 : (if t292 = 0 then (some true) else (some false)) = some r := by rw [if_neg (show ¬ (false = true) by decide)] at H; exact H
               clear H
               have H := H1
               clear H1
               by_cases c123 : t292 = 0
               ·rw [if_pos c123] at H
                have c123b0 : (t292 == 0) = true := beq_iff_eq.mpr c123
                have c123b1 : (t292 != 0) = false := bne_eq_false_iff_eq.mpr c123
                clear c123
                obtain rfl := Option.some.inj H
                try go_wp2
                have n0_ := Aside0.mk (Kd.V_drew HO_251002.out)
                have n1_ := Aside0.mk (Kd.V_drew HO_251003.out)
                have n2_ := Aside0.mk (Kd.V_drew HO_255002.out)
                have n3_ := Aside0.mk (Kd.V_drew HO_255003.out)
                have n4_ := Aside0.mk (Kd.V_drew HO_284002.out)
                have n5_ := Aside0.mk (Kd.V_drew HO_284003.out)
                have n6_ := Aside0.mk (blk_drew BK250.out)
                have n7_ := Aside0.mk (blk_drew BK254.out)
                have n8_ := Aside0.mk (blk_drew BK283.out)
                have n9_ := Aside0.mk (below_drew1 HB.out)
                clear HO_251002
                clear HO_251003
                clear HO_255002
                clear HO_255003
                clear HO_284002
                clear HO_284003
                clear BK250
                clear BK254
                clear BK283
                clear HB
                have HO_251002 := n0_
                have HO_251003 := n1_
                have HO_255002 := n2_
                have HO_255003 := n3_
                have HO_284002 := n4_
                have HO_284003 := n5_
                have BK250 := n6_
                have BK254 := n7_
                have BK283 := n8_
                have HB := n9_
                clear n0_ n1_ n2_ n3_ n4_ n5_ n6_ n7_ n8_ n9_
                refine start_ (n := 15) (S := fun w' => w'.cell? ⟨gb283, 0, none⟩ = some (.int .i64 t274) ∧ w'.cell? ⟨gb283, 1, none⟩ = some (.int .u64 t275) ∧ w'.cell? ⟨gb283, 2, none⟩ = some (.slice Ao64 t276.length co64) ∧ w'.cell? ⟨gb283, 3, none⟩ = some (.slice Ao65 t279.length co65) ∧ w'.cell? ⟨gb254, 0, none⟩ = some (.int .i64 x255000_2) ∧ w'.cell? ⟨gb254, 1, none⟩ = some (.int .u64 x255001_2) ∧ w'.cell? ⟨gb254, 2, none⟩ = some (u255002) ∧ w'.cell? ⟨gb254, 3, none⟩ = some (u255003)) (ds := []) #[false, false, false, false, false, false, false, false, false, false, false, false, false, false, false] (by kernel_rfl) rfl rfl ⟨(blk_cell BK283.out 0).trans rfl, (blk_cell BK283.out 1).trans rfl, (blk_cell BK283.out 2).trans rfl, (blk_cell BK283.out 3).trans rfl, (blk_cell BK254.out 0).trans rfl, (blk_cell BK254.out 1).trans rfl, (blk_cell BK254.out 2).trans rfl, (blk_cell BK254.out 3).trans rfl⟩ (fun hHeld => ?_); refine with_tabW pyxlaw10_CborGets.tab14 pyxlaw10_CborGets.bits14 (fun HT_ HW_ => ?_)
                generalize wc.drew = w124 at HO_251002 HO_251003 HO_255002 HO_255003 HO_284002 HO_284003 BK250 BK254 BK283 HB hHeld ⊢
                refine pure_ (i := 0) (N := some 79) (v := ?_) (a' := ?_) #[true, false, false, false, false, false, false, false, false, false, false, false, false, false, false] rfl rfl (any_of HT_.out (by kernel_rfl)) (fun _ _ _ h => h) (Or.inl ⟨by rfl, ?_⟩) ?_ ?_
                rotate_left
                ·intro w'
                 go_simp
                 with_reducible rfl
                rotate_left
                ·simp only [Act.put, List.setIfInBounds_toArray, List.set_cons_zero, List.set_cons_succ, i64_w, i32_w]
                 rfl
                refine pure_ (i := 1) (N := some 80) (v := ?_) (a' := ?_) #[true, true, false, false, false, false, false, false, false, false, false, false, false, false, false] rfl rfl (any_of HT_.out (by kernel_rfl)) (fun _ _ _ h => h) (Or.inl ⟨by rfl, ?_⟩) ?_ ?_
                rotate_left
                ·intro w'
                 go_simp
                 with_reducible rfl
                rotate_left
                ·simp only [Act.put, List.setIfInBounds_toArray, List.set_cons_zero, List.set_cons_succ, i64_w, i32_w]
                 rfl
                refine pure_ (i := 2) (N := some 81) (v := ?_) (a' := ?_) #[true, true, true, false, false, false, false, false, false, false, false, false, false, false, false] rfl rfl (any_of HT_.out (by kernel_rfl)) (fun _ _ _ h => h) (Or.inl ⟨by rfl, ?_⟩) ?_ ?_
                rotate_left
                ·intro w'
                 go_simp
                 with_reducible rfl
                rotate_left
                ·simp only [Act.put, List.setIfInBounds_toArray, List.set_cons_zero, List.set_cons_succ, i64_w, i32_w]
                 rfl
                refine pure_ (i := 3) (N := some 82) (v := ?_) (a' := ?_) #[true, true, true, true, false, false, false, false, false, false, false, false, false, false, false] rfl rfl (any_of HT_.out (by kernel_rfl)) (fun _ _ _ h => h) (Or.inl ⟨by rfl, ?_⟩) ?_ ?_
                rotate_left
                ·intro w'
                 go_simp
                 with_reducible rfl
                rotate_left
                ·simp only [Act.put, List.setIfInBounds_toArray, List.set_cons_zero, List.set_cons_succ, i64_w, i32_w]
                 rfl
                refine take_ (i := 4) (N := some 83) (v := ?_) (a' := ?_) #[true, true, true, true, true, false, false, false, false, false, false, false, false, false, false] rfl rfl (take_ofW HT_.out HW_.out (by kernel_rfl)) (fun _ _ _ h => h) (Or.inl ⟨by rfl, ?_⟩) hHeld ?_ ?_
                rotate_left
                ·rintro w' ⟨s0, s1, s2, s3, s4, s5, s6, s7⟩
                 go_simp
                 with_reducible rfl
                rotate_left
                ·simp only [Act.put, List.setIfInBounds_toArray, List.set_cons_zero, List.set_cons_succ, i64_w, i32_w]
                 rfl
                refine take_ (i := 6) (N := some 85) (v := ?_) (a' := ?_) #[true, true, true, true, true, false, true, false, false, false, false, false, false, false, false] rfl rfl (take_ofW HT_.out HW_.out (by kernel_rfl)) (fun _ _ _ h => h) (Or.inl ⟨by rfl, ?_⟩) hHeld ?_ ?_
                rotate_left
                ·rintro w' ⟨s0, s1, s2, s3, s4, s5, s6, s7⟩
                 go_simp
                 with_reducible rfl
                rotate_left
                ·simp only [Act.put, List.setIfInBounds_toArray, List.set_cons_zero, List.set_cons_succ, i64_w, i32_w]
                 rfl
                refine one_ (i := 5) (N := some 84) #[true, true, true, true, true, true, true, false, false, false, false, false, false, false, false] rfl rfl (one_of HT_.out (by kernel_rfl)) (by decide) (fun K hK => ?_)
                refine goes_ Tryd.func18 (by kernel_rfl) rfl #[.agg #[.int .i64 t274, .int .u64 t275, .slice Ao64 t276.length co64, .slice Ao65 t279.length co65]] (by rfl) rfl rfl q43_ ?_
                with_reducible refine (pyxlaw10_back.calls kj52 t274 t275 (fun k_ => (((P0_2_ k_ ∨ P0_3_ k_) ∨ w.heap.size ≤ k_) ∧ (k_ ≠ gb250 ∧ (k_ ≠ gb254 ∧ k_ ≠ gb283)))) _ _ t276 (fun k_ => (((P0_2_ k_ ∨ P0_3_ k_) ∨ w.heap.size ≤ k_) ∧ (k_ ≠ gb250 ∧ (k_ ≠ gb254 ∧ k_ ≠ gb283)))) _ _ t279 t294 t295 t296 t299 _ ?side1 ?side2 A84.out).mono ?_
                (case side1 => exact HO_284002.out)
                (case side2 => exact HO_284003.out)
                rintro e w125 ⟨v297, v300, rfl, ho0, ho1, hb⟩
                refine ⟨_, rfl, ?_⟩
                have n0_ := Aside0.mk (Kd.V_elder' q61_ q94_ hb)
                have n1_ := Aside0.mk (Kd.V_elder' q62_ q94_ hb)
                have n2_ := Aside0.mk (Kd.V_elder' q63_ q94_ hb)
                have n3_ := Aside0.mk (Kd.V_elder' q64_ q94_ hb)
                have n4_ := Aside0.mk (Kd.V_elder' q65_ q94_ hb)
                have n5_ := Aside0.mk (Kd.V_elder' q66_ q94_ hb)
                have n6_ := Aside0.mk (Kd.V_lower (Kd.V_mono (ok' := fun k_ => ((P0_2_ k_ ∨ P0_3_ k_) ∨ w.heap.size ≤ k_) ∧ some k_ ≠ (v300 : Value).ownBlock ∧ k_ ≠ gb250 ∧ k_ ≠ gb254 ∧ k_ ≠ gb283) ho0 (fun k_ hk_ => ⟨Or.elim hk_.1 (fun hs_ => Or.elim hs_ (fun hs_ => hs_.1) (fun hs_ => hs_.1)) (fun hn_ => (.inr (Nat.le_trans (below_size q23_) hn_))), hk_.2, Or.elim hk_.1 (fun hs_ => Or.elim hs_ (fun hs_ => hs_.2.1) (fun hs_ => hs_.2.1)) (fun hn_ => (Kd.freshB (g := gb250) (o := .cells #[.int .i64 a0_0, .int .u64 a0_1, .slice A0_2 l0_2.length c0_2, .slice A0_3 l0_3.length c0_3] 34 (0, 0)) q54_ k_ hn_)), Or.elim hk_.1 (fun hs_ => Or.elim hs_ (fun hs_ => hs_.2.2.1) (fun hs_ => hs_.2.2.1)) (fun hn_ => (Kd.freshB (g := gb254) (o := .cells #[.int .i64 x255000_2, .int .u64 x255001_2, u255002, u255003] 34 (0, 0)) q55_ k_ hn_)), Or.elim hk_.1 (fun hs_ => Or.elim hs_ (fun hs_ => hs_.2.2.2) (fun hs_ => hs_.2.2.2)) (fun hn_ => (Kd.freshB (g := gb283) (o := .cells #[.int .i64 t274, .int .u64 t275, .slice Ao64 t276.length co64, .slice Ao65 t279.length co65] 27 (0, 0)) q56_ k_ hn_))⟩)) (below_size q23_))
                have n7_ := Aside0.mk (Kd.N_lower (Kd.N_mono (ok' := fun k_ => ((P0_2_ k_ ∨ P0_3_ k_) ∨ w.heap.size ≤ k_) ∧ k_ ≠ gb250 ∧ k_ ≠ gb254 ∧ k_ ≠ gb283) ho1 (fun k_ hk_ => ⟨Or.elim hk_ (fun hs_ => Or.elim hs_ (fun hs_ => hs_.1) (fun hs_ => hs_.1)) (fun hn_ => (.inr (Nat.le_trans (below_size q23_) hn_))), Or.elim hk_ (fun hs_ => Or.elim hs_ (fun hs_ => hs_.2.1) (fun hs_ => hs_.2.1)) (fun hn_ => (Kd.freshB (g := gb250) (o := .cells #[.int .i64 a0_0, .int .u64 a0_1, .slice A0_2 l0_2.length c0_2, .slice A0_3 l0_3.length c0_3] 34 (0, 0)) q54_ k_ hn_)), Or.elim hk_ (fun hs_ => Or.elim hs_ (fun hs_ => hs_.2.2.1) (fun hs_ => hs_.2.2.1)) (fun hn_ => (Kd.freshB (g := gb254) (o := .cells #[.int .i64 x255000_2, .int .u64 x255001_2, u255002, u255003] 34 (0, 0)) q55_ k_ hn_)), Or.elim hk_ (fun hs_ => Or.elim hs_ (fun hs_ => hs_.2.2.2) (fun hs_ => hs_.2.2.2)) (fun hn_ => (Kd.freshB (g := gb283) (o := .cells #[.int .i64 t274, .int .u64 t275, .slice Ao64 t276.length co64, .slice Ao65 t279.length co65] 27 (0, 0)) q56_ k_ hn_))⟩)) (below_size q23_))
                have n8_ := Aside0.mk (blk_below (g := gb250) (o := .cells #[.int .i64 a0_0, .int .u64 a0_1, .slice A0_2 l0_2.length c0_2, .slice A0_3 l0_3.length c0_3] 34 (0, 0)) q54_ hb)
                have n9_ := Aside0.mk (blk_below (g := gb254) (o := .cells #[.int .i64 x255000_2, .int .u64 x255001_2, u255002, u255003] 34 (0, 0)) q55_ hb)
                have n10_ := Aside0.mk (blk_below (g := gb283) (o := .cells #[.int .i64 t274, .int .u64 t275, .slice Ao64 t276.length co64, .slice Ao65 t279.length co65] 27 (0, 0)) q56_ hb)
                have n11_ := Aside0.mk (below_step q23_ hb)
                clear HO_251002
                clear HO_251003
                clear HO_255002
                clear HO_255003
                clear HO_284002
                clear HO_284003
                clear BK250
                clear BK254
                clear BK283
                clear HB
                have HO_251002 := n0_
                have HO_251003 := n1_
                have HO_255002 := n2_
                have HO_255003 := n3_
                have HO_284002 := n4_
                have HO_284003 := n5_
                have HO298 := n6_
                have HO301 := n7_
                have BK250 := n8_
                have BK254 := n9_
                have BK283 := n10_
                have HB := n11_
                clear n0_ n1_ n2_ n3_ n4_ n5_ n6_ n7_ n8_ n9_ n10_ n11_
                (try clear hb)
                (try clear hb2)
                (try clear hk)
                (try clear hi)
                (try clear ho0)
                (try clear ho1)
                obtain ⟨Ao126, co126, eo126⟩ := Kd.V_slice HO298.out
                (first | subst eo126 | (injection eo126 with f1_ f2_ f3_; have f4_ := f1_.symm; have f5_ := f3_.symm; clear f1_ f2_ f3_; subst f4_; subst f5_))
                obtain ⟨Ao127, co127, eo127⟩ := Kd.N_slice HO301.out
                (first | subst eo127 | (injection eo127 with f1_ f2_ f3_; have f4_ := f1_.symm; have f5_ := f3_.symm; clear f1_ f2_ f3_; subst f4_; subst f5_))
                obtain ⟨Ao128, co128, eo128⟩ := Kd.V_slice HO_255002.out
                (first | subst eo128 | (injection eo128 with f1_ f2_ f3_; have f4_ := f1_.symm; have f5_ := f3_.symm; clear f1_ f2_ f3_; subst f4_; subst f5_))
                obtain ⟨Ao129, co129, eo129⟩ := Kd.V_slice HO_255003.out
                (first | subst eo129 | (injection eo129 with f1_ f2_ f3_; have f4_ := f1_.symm; have f5_ := f3_.symm; clear f1_ f2_ f3_; subst f4_; subst f5_))
                refine hK.out _ _ ⟨(blk_cell BK283.out 0).trans rfl, (blk_cell BK283.out 1).trans rfl, (blk_cell BK283.out 2).trans rfl, (blk_cell BK283.out 3).trans rfl, (blk_cell BK254.out 0).trans rfl, (blk_cell BK254.out 1).trans rfl, (blk_cell BK254.out 2).trans rfl, (blk_cell BK254.out 3).trans rfl⟩ (fun hHeld => ?_)
                clear hK K
                refine norm_ (a' := ?_) ?_ ?_
                rotate_left
                ·show Act.put _ (some 84) _ = _
                 simp only [Act.put, List.setIfInBounds_toArray, List.set_cons_zero, List.set_cons_succ, i64_w, i32_w]
                 rfl
                refine one_ (i := 7) (N := some 86) #[true, true, true, true, true, true, true, true, false, false, false, false, false, false, false] rfl rfl (one_of HT_.out (by kernel_rfl)) (by decide) (fun K hK => ?_)
                refine goes_ Tryd.func17 (by kernel_rfl) rfl #[.agg #[.int .i64 t294, .int .u64 t295, .slice Ao126 t296.length co126, .slice Ao127 t299.length co127], .agg #[.int .i64 x255000_2, .int .u64 x255001_2, .slice Ao128 x255002_2.length co128, .slice Ao129 x255003_2.length co129]] (by rfl) rfl rfl q43_ ?_
                with_reducible refine (pyxref10_Same.calls kj52 t294 t295 _ _ t296 _ _ t299 x255000_2 x255001_2 _ _ x255002_2 _ _ x255003_2 true _ ?side1 ?side2 ?side3 ?side4 ?side5 ?side6 ?side7 ?side8 A85.out).mono ?_
                (case side1 => repeat (first | exact (Kd.V_reads' HO298.out).2.2 | (with_reducible refine Kd.C_alloc ?_ _) | (with_reducible refine Kd.C_drewN ?_ _) | (with_reducible refine Kd.C_drew ?_)))
                (case side2 => exact (Kd.V_reads' HO298.out).2.1)
                (case side3 => repeat (first | exact (Kd.N_reads' HO301.out).2.2 | (with_reducible refine Kd.C_alloc ?_ _) | (with_reducible refine Kd.C_drewN ?_ _) | (with_reducible refine Kd.C_drew ?_)))
                (case side4 => exact (Kd.N_reads' HO301.out).2.1)
                (case side5 => repeat (first | exact (Kd.V_reads' HO_255002.out).2.2 | (with_reducible refine Kd.C_alloc ?_ _) | (with_reducible refine Kd.C_drewN ?_ _) | (with_reducible refine Kd.C_drew ?_)))
                (case side6 => exact (Kd.V_reads' HO_255002.out).2.1)
                (case side7 => repeat (first | exact (Kd.V_reads' HO_255003.out).2.2 | (with_reducible refine Kd.C_alloc ?_ _) | (with_reducible refine Kd.C_drewN ?_ _) | (with_reducible refine Kd.C_drew ?_)))
                (case side8 => exact (Kd.V_reads' HO_255003.out).2.1)
                rintro e w130 ⟨rfl, hb⟩
                refine ⟨_, rfl, ?_⟩
                have n0_ := Aside0.mk (Kd.V_below q61_ hb)
                have n1_ := Aside0.mk (Kd.V_below q62_ hb)
                have n2_ := Aside0.mk (Kd.V_below q63_ hb)
                have n3_ := Aside0.mk (Kd.V_below q64_ hb)
                have n4_ := Aside0.mk (Kd.V_below q65_ hb)
                have n5_ := Aside0.mk (Kd.V_below q66_ hb)
                have n6_ := Aside0.mk (Kd.V_below q92_ hb)
                have n7_ := Aside0.mk (Kd.N_below q93_ hb)
                have n8_ := Aside0.mk (blk_below (g := gb250) (o := .cells #[.int .i64 a0_0, .int .u64 a0_1, .slice A0_2 l0_2.length c0_2, .slice A0_3 l0_3.length c0_3] 34 (0, 0)) q54_ hb)
                have n9_ := Aside0.mk (blk_below (g := gb254) (o := .cells #[.int .i64 x255000_2, .int .u64 x255001_2, .slice Ao128 x255002_2.length co128, .slice Ao129 x255003_2.length co129] 34 (0, 0)) q55_ hb)
                have n10_ := Aside0.mk (blk_below (g := gb283) (o := .cells #[.int .i64 t274, .int .u64 t275, .slice Ao64 t276.length co64, .slice Ao65 t279.length co65] 27 (0, 0)) q56_ hb)
                have n11_ := Aside0.mk (below_step q23_ hb)
                clear HO_251002
                clear HO_251003
                clear HO_255002
                clear HO_255003
                clear HO_284002
                clear HO_284003
                clear HO298
                clear HO301
                clear BK250
                clear BK254
                clear BK283
                clear HB
                have HO_251002 := n0_
                have HO_251003 := n1_
                have HO_255002 := n2_
                have HO_255003 := n3_
                have HO_284002 := n4_
                have HO_284003 := n5_
                have HO298 := n6_
                have HO301 := n7_
                have BK250 := n8_
                have BK254 := n9_
                have BK283 := n10_
                have HB := n11_
                clear n0_ n1_ n2_ n3_ n4_ n5_ n6_ n7_ n8_ n9_ n10_ n11_
                (try clear hb)
                (try clear hb2)
                (try clear hk)
                (try clear hi)
                refine hK.out _ _ ⟨(blk_cell BK283.out 0).trans rfl, (blk_cell BK283.out 1).trans rfl, (blk_cell BK283.out 2).trans rfl, (blk_cell BK283.out 3).trans rfl, (blk_cell BK254.out 0).trans rfl, (blk_cell BK254.out 1).trans rfl, (blk_cell BK254.out 2).trans rfl, (blk_cell BK254.out 3).trans rfl⟩ (fun hHeld => ?_)
                clear hK K
                refine norm_ (a' := ?_) ?_ ?_
                rotate_left
                ·show Act.put _ (some 86) _ = _
                 simp only [Act.put, List.setIfInBounds_toArray, List.set_cons_zero, List.set_cons_succ, i64_w, i32_w]
                 rfl
                refine pure_ (i := 8) (N := some 87) (v := ?_) (a' := ?_) #[true, true, true, true, true, true, true, true, true, false, false, false, false, false, false] rfl rfl (any_of HT_.out (by kernel_rfl)) (fun _ _ _ h => h) (Or.inl ⟨by rfl, ?_⟩) ?_ ?_
                rotate_left
                ·intro w'
                 go_simp
                 with_reducible rfl
                rotate_left
                ·simp only [Act.put, List.setIfInBounds_toArray, List.set_cons_zero, List.set_cons_succ, i64_w, i32_w]
                 rfl
                refine pure_ (i := 9) (N := some 88) (v := ?_) (a' := ?_) #[true, true, true, true, true, true, true, true, true, true, false, false, false, false, false] rfl rfl (any_of HT_.out (by kernel_rfl)) (fun _ _ _ h => h) (Or.inl ⟨by rfl, ?_⟩) ?_ ?_
                rotate_left
                ·intro w'
                 go_simp
                 with_reducible rfl
                rotate_left
                ·simp only [Act.put, List.setIfInBounds_toArray, List.set_cons_zero, List.set_cons_succ, i64_w, i32_w]
                 rfl
                refine pure_ (i := 10) (N := some 89) (v := ?_) (a' := ?_) #[true, true, true, true, true, true, true, true, true, true, true, false, false, false, false] rfl rfl (any_of HT_.out (by kernel_rfl)) (fun _ _ _ h => h) (Or.inl ⟨by rfl, ?_⟩) ?_ ?_
                rotate_left
                ·intro w'
                 go_simp
                 with_reducible rfl
                rotate_left
                ·simp only [Act.put, List.setIfInBounds_toArray, List.set_cons_zero, List.set_cons_succ, i64_w, i32_w]
                 rfl
                refine pure_ (i := 11) (N := some 90) (v := ?_) (a' := ?_) #[true, true, true, true, true, true, true, true, true, true, true, true, false, false, false] rfl rfl (any_of HT_.out (by kernel_rfl)) (fun _ _ _ h => h) (Or.inl ⟨by rfl, ?_⟩) ?_ ?_
                rotate_left
                ·intro w'
                 go_simp
                 with_reducible rfl
                rotate_left
                ·simp only [Act.put, List.setIfInBounds_toArray, List.set_cons_zero, List.set_cons_succ, i64_w, i32_w]
                 rfl
                refine pure_ (i := 12) (N := some 91) (v := ?_) (a' := ?_) #[true, true, true, true, true, true, true, true, true, true, true, true, true, false, false] rfl rfl (any_of HT_.out (by kernel_rfl)) (fun _ _ _ h => h) (Or.inl ⟨by rfl, ?_⟩) ?_ ?_
                rotate_left
                ·intro w'
                 go_simp
                 with_reducible rfl
                rotate_left
                ·simp only [Act.put, List.setIfInBounds_toArray, List.set_cons_zero, List.set_cons_succ, i64_w, i32_w]
                 rfl
                refine pure_ (i := 13) (N := some 92) (v := ?_) (a' := ?_) #[true, true, true, true, true, true, true, true, true, true, true, true, true, true, false] rfl rfl (any_of HT_.out (by kernel_rfl)) (fun _ _ _ h => h) (Or.inl ⟨by rfl, ?_⟩) ?_ ?_
                rotate_left
                ·intro w'
                 go_simp
                 with_reducible rfl
                rotate_left
                ·simp only [Act.put, List.setIfInBounds_toArray, List.set_cons_zero, List.set_cons_succ, i64_w, i32_w]
                 rfl
                refine pure_ (i := 14) (N := some 93) (v := ?_) (a' := ?_) #[true, true, true, true, true, true, true, true, true, true, true, true, true, true, true] rfl rfl (any_of HT_.out (by kernel_rfl)) (fun _ _ _ h => h) (Or.inl ⟨by rfl, ?_⟩) ?_ ?_
                rotate_left
                ·intro w'
                 go_simp
                 with_reducible rfl
                rotate_left
                ·simp only [Act.put, List.setIfInBounds_toArray, List.set_cons_zero, List.set_cons_succ, i64_w, i32_w]
                 rfl
                refine done_ (done_of HT_.out (by kernel_rfl)) ?_
                try go_wp2
                go_ret
                exact ⟨by first | rfl | (simp [errW_none, errW_some] <;> rfl) | (simp [*, errW_none, errW_some] <;> rfl), by repeat (first | (with_reducible first | exact HB.out | apply below_alloc | apply pw_below_drewN | apply below_drew1 | refine below_set ?_ GE250.out | refine below_set ?_ GE254.out | refine below_set ?_ GE283.out) | exact HB.out)⟩
               ·rw [if_neg c123] at H
                have c123b0 : (t292 == 0) = false := beq_eq_false_iff_ne.mpr c123
                have c123b1 : (t292 != 0) = true := bne_iff_ne.mpr c123
                exact absurd ((Option.some.inj H).trans HT.out) (by decide)
            ·replace c86 := Bool.eq_false_iff.mpr c86
             subst c86
             have H1 : (some false) = some r := by rw [if_neg (show ¬ (false = true) by decide)] at H; exact H
             clear H
             have H := H1
             clear H1
             exact absurd ((Option.some.inj H).trans HT.out) (by decide)
end Go.Proofs.YthdjmojpnimhjaaDoor.PCbg
