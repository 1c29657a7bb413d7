import Derived.Test.YtgmnknhfeoleaaaGreatDoorZQ
import Derived.Test.YtgmnknhfeoleaaaGreatDoorZSq
import Derived.Test.YtgmnknhfeoleaaaGreatDoorZPXmssx0
import Derived.Test.YtgmnknhfeoleaaaGreatDoorZPXmssx18
import Derived.Test.YtgmnknhfeoleaaaGreatDoorZPXmssx25
namespace Go.Proofs.YtgmnknhfeoleaaaGreatDoor.PXmss
open Go.RowKit Go.Proofs.YtgmnknhfeoleaaaGreatDoorW.PrintWords Go.Proofs.YtgmnknhfeoleaaaGreatDoorW.PrintLast Go.Proofs.YtgmnknhfeoleaaaGreatDoorW.PrintMore
attribute [local go_sem] max2_int min2_int max_two min_two max_three min_three max_four min_four
set_option linter.unusedVariables false
set_option linter.unusedSimpArgs false
theorem V_blk {W : World} {e base g n c : Nat} {ok : Nat → Prop} {ad : Addr} {xs : List Int} {kd : IntKind} (h : Kd.V (Kd.int kd) e W base ok (.slice (some ad) n c) xs) (hn : 0 < xs.length) (hok : ∀ k, ok k → k ≠ g) : ad.block ≠ g := by
 obtain ⟨_, _, hF⟩ := Kd.V_at h
 obtain ⟨ad', _, he, _, _, _, hk⟩ := Kd.F_get hF (0 : Int) 0 (by omega) (by omega)
 injection he with he
 rw [he]
 exact hok _ (hk (by show 0 < 1; omega))
def pyxref22_Split.l0 : Nat → List Int → List Int → Int → Int → Int → List Int → List (List Int) → List (List Int) → Option (Int × Int × List Int × (List (List Int)) × (List (List Int)))
 | 0, _, _, _, _, _, _, _, _ => none
 | k + 1, x0, x5, x7, x399000, x399001, x399002, x399003, x399004 => if 1 < (x5.length : Int) then (if 2 < (x5.length : Int) then (if x7 ≤ (wrap64 ((rd x5 1) + (rd x5 2))) then (if 0 < (x5.length : Int) then (if 0 ≤ (wrap64 (4 + (wrap64 ((rd x5 0) * x7)))) then (if (wrap64 (4 + (wrap64 ((rd x5 0) * x7)))) ≤ (wrap64 (4 + (wrap64 ((rd x5 0) * (wrap64 (x7 + 1)))))) then (if (wrap64 (4 + (wrap64 ((rd x5 0) * (wrap64 (x7 + 1)))))) ≤ (x0.length : Int) then ((some ((x0.take ((wrap64 (4 + (wrap64 ((rd x5 0) * (wrap64 (x7 + 1)))))) : Int).toNat).drop ((wrap64 (4 + (wrap64 ((rd x5 0) * x7)))) : Int).toNat : List Int)).bind fun y403 => (if x7 ≤ (rd x5 2) then (if x399003.length < 5864062014805 then (pyxref22_Split.l0 k x0 x5 (wrap64 (x7 + 1)) x399000 x399001 x399002 (x399003 ++ [y403]) x399004) else (none)) else (if x399004.length < 5864062014805 then (pyxref22_Split.l0 k x0 x5 (wrap64 (x7 + 1)) x399000 x399001 x399002 x399003 (x399004 ++ [y403])) else (none)))) else (none)) else (none)) else (none)) else (none)) else (some (x399000, x399001, x399002, x399003, x399004))) else (none)) else (none)
def pyxref22_Split.f (k : Nat) (l0 : List Int) : Option (Int × Int × List Int × (List (List Int)) × (List (List Int))) := (pyxref22_Signature.f k l0).bind fun bt384 => ((pyxref22_Numbers.f bt384.1).bind fun t388 => ((pyxref22_index.f l0).bind fun t391 => (if 0 < (t388.length : Int) then (if 4 ≤ (wrap64 (4 + (rd t388 0))) then (if (wrap64 (4 + (rd t388 0))) ≤ (l0.length : Int) then (pyxref22_Split.l0 k l0 t388 1 bt384.1 ((t391) % 4294967296) ((l0.take ((wrap64 (4 + (rd t388 0))) : Int).toNat).drop 4) ([] : List (List Int)) ([] : List (List Int))) else (none)) else (none)) else (none))))
def pyxref22_Split.T3 : Bool × List (List Nat × List Nat) := (true, [([], []), ([], []), ([1], [1]), ([2], [2]), ([], []), ([], []), ([5], [5]), ([6], [6]), ([7], [7]), ([4, 8], [4, 8]), ([0, 3, 9], [0, 3, 9]), ([], []), ([11, 10, 2, 0, 1, 2, 3, 4, 5, 6, 7, 8, 9, 10, 11], [10, 11])])
def pyxref22_Split.B3 : List Nat := [0, 0, 2, 6, 0, 0, 32, 96, 224, 496, 1023, 0, 4095]
theorem pyxref22_Split.tab3 : rtab .any (opsOf Tryz.f22 3) = pyxref22_Split.T3 := by kernel_rfl
theorem pyxref22_Split.bits3 : waitsOk pyxref22_Split.T3.2 pyxref22_Split.B3 = true := by kernel_rfl
def pyxref22_Split.T5 : Bool × List (List Nat × List Nat) := (true, [([], []), ([], []), ([1], [1]), ([2], [2]), ([], []), ([4], [4]), ([5], [5]), ([3, 6], [3, 6]), ([0, 7], [0, 7])])
def pyxref22_Split.B5 : List Nat := [0, 0, 2, 6, 0, 16, 48, 126, 255]
theorem pyxref22_Split.tab5 : rtab .any (opsOf Tryz.f22 5) = pyxref22_Split.T5 := by kernel_rfl
theorem pyxref22_Split.bits5 : waitsOk pyxref22_Split.T5.2 pyxref22_Split.B5 = true := by kernel_rfl
def pyxref22_Split.T7 : Bool × List (List Nat × List Nat) := (true, [([], []), ([], []), ([1], [1]), ([2], [2]), ([], []), ([3, 4], [3, 4]), ([5], [5]), ([], []), ([7], [7]), ([8], [8]), ([], []), ([10], [10]), ([9, 11], [9, 11]), ([12], [12]), ([0, 6, 13], [0, 6, 13]), ([14, 0, 1, 2, 3, 4, 5, 6, 7, 8, 9, 10, 11, 12, 13, 14], [14])])
def pyxref22_Split.B7 : List Nat := [0, 0, 2, 6, 0, 30, 62, 0, 128, 384, 0, 1024, 3968, 8064, 16383, 32767]
theorem pyxref22_Split.tab7 : rtab .any (opsOf Tryz.f22 7) = pyxref22_Split.T7 := by kernel_rfl
theorem pyxref22_Split.bits7 : waitsOk pyxref22_Split.T7.2 pyxref22_Split.B7 = true := by kernel_rfl
set_option maxHeartbeats 8000000 in
set_option maxRecDepth 100000 in
theorem pyxref22_Split.calls (k : Nat) (P0_ : Nat → Prop) (A0 : Option Addr) (c0 : Nat) (l0 : List Int) (r1 : Int) (r2 : Int) (r3 : List Int) (r4 : List (List Int)) (r5 : List (List Int)) (w : World) (hs0 : Kd.V (Kd.int .u8) 5 w w.heap.size (fun k_ => P0_ k_) (.slice A0 l0.length c0) l0) (h : pyxref22_Split.f k l0 = some (r1, r2, r3, r4, r5)) :
  Calls Tryz.prog 22 #[.slice A0 l0.length c0] w fun e w' => ∃ v2_ v3_ v4_ : Value, e = .returned (.agg #[.int .i64 r1, .int .u32 r2, v2_, v3_, v4_]) ∧ Kd.V (Kd.int .u8) 5 w' w.heap.size (fun k_ => (P0_ k_ ∨ w.heap.size ≤ k_) ∧ some k_ ≠ (v3_ : Value).ownBlock ∧ some k_ ≠ (v4_ : Value).ownBlock) v2_ r3 ∧ Kd.N (Kd.slice 5 (Kd.int .u8)) 25 w' w.heap.size (fun k_ => (P0_ k_ ∨ w.heap.size ≤ k_) ∧ some k_ ≠ (v4_ : Value).ownBlock) v3_ r4 ∧ Kd.N (Kd.slice 5 (Kd.int .u8)) 25 w' w.heap.size (fun k_ => (P0_ k_ ∨ w.heap.size ≤ k_) ∧ some k_ ≠ (v3_ : Value).ownBlock) v4_ r5 ∧ Below w.heap.size w w' := by
 have hu57 := Tryz.underlying57
 have hu34 := Tryz.underlying34
 have HO0 := Aside0.mk (show Kd.V (Kd.int .u8) 5 w w.heap.size (fun k_ => (P0_ k_ ∨ w.heap.size ≤ k_)) (.slice A0 l0.length c0) l0 from Kd.V_mono hs0 (fun k_ hk => .inl hk))
 have HB := Aside0.mk (Below.refl w.heap.size w)
 have H : ((pyxref22_Signature.f k l0).bind fun bt384 => ((pyxref22_Numbers.f bt384.1).bind fun t388 => ((pyxref22_index.f l0).bind fun t391 => (if 0 < (t388.length : Int) then (if 4 ≤ (wrap64 (4 + (rd t388 0))) then (if (wrap64 (4 + (rd t388 0))) ≤ (l0.length : Int) then (pyxref22_Split.l0 k l0 t388 1 bt384.1 ((t391) % 4294967296) ((l0.take ((wrap64 (4 + (rd t388 0))) : Int).toNat).drop 4) ([] : List (List Int)) ([] : List (List Int))) else (none)) else (none)) else (none))))) = some (r1, r2, r3, r4, r5) := h
 clear h
 replace H := Option.bind_eq_some_iff.mp H
 obtain ⟨⟨t384, t385, t386⟩, A20, H⟩ := H
 replace H : ((pyxref22_Numbers.f t384).bind fun t388 => ((pyxref22_index.f l0).bind fun t391 => (if 0 < (t388.length : Int) then (if 4 ≤ (wrap64 (4 + (rd t388 0))) then (if (wrap64 (4 + (rd t388 0))) ≤ (l0.length : Int) then (pyxref22_Split.l0 k l0 t388 1 t384 ((t391) % 4294967296) ((l0.take ((wrap64 (4 + (rd t388 0))) : Int).toNat).drop 4) ([] : List (List Int)) ([] : List (List Int))) else (none)) else (none)) else (none)))) = some (r1, r2, r3, r4, r5) := H
 have A2 := Aside0.mk A20
 clear A20
 replace H := Option.bind_eq_some_iff.mp H
 obtain ⟨t388, A30, H⟩ := H
 replace H : ((pyxref22_index.f l0).bind fun t391 => (if 0 < (t388.length : Int) then (if 4 ≤ (wrap64 (4 + (rd t388 0))) then (if (wrap64 (4 + (rd t388 0))) ≤ (l0.length : Int) then (pyxref22_Split.l0 k l0 t388 1 t384 ((t391) % 4294967296) ((l0.take ((wrap64 (4 + (rd t388 0))) : Int).toNat).drop 4) ([] : List (List Int)) ([] : List (List Int))) else (none)) else (none)) else (none))) = some (r1, r2, r3, r4, r5) := H
 have A3 := Aside0.mk A30
 clear A30
 replace H := Option.bind_eq_some_iff.mp H
 obtain ⟨t391, A40, H⟩ := H
 replace H : (if 0 < (t388.length : Int) then (if 4 ≤ (wrap64 (4 + (rd t388 0))) then (if (wrap64 (4 + (rd t388 0))) ≤ (l0.length : Int) then (pyxref22_Split.l0 k l0 t388 1 t384 ((t391) % 4294967296) ((l0.take ((wrap64 (4 + (rd t388 0))) : Int).toNat).drop 4) ([] : List (List Int)) ([] : List (List Int))) else (none)) else (none)) else (none)) = some (r1, r2, r3, r4, r5) := H
 have A4 := Aside0.mk A40
 clear A40
 by_cases c5 : 0 < (t388.length : Int)
 ·rw [if_pos c5] at H
  have c5b0 : decide (0 < (t388.length : Int)) = true := decide_eq_true c5
  have c5b1 : decide (0 < t388.length) = true := decide_eq_true (by omega)
  clear c5
  by_cases c6 : 4 ≤ (wrap64 (4 + (rd t388 0)))
  ·rw [if_pos c6] at H
   have c6b0 := eq_true c6
   have c6b1 : decide (4 ≤ (wrap64 (4 + (rd t388 0)))) = true := decide_eq_true c6
   by_cases c7 : (wrap64 (4 + (rd t388 0))) ≤ (l0.length : Int)
   ·rw [if_pos c7] at H
    have c7b0 := eq_true c7
    have c7b1 : decide ((wrap64 (4 + (rd t388 0))) ≤ (l0.length : Int)) = true := decide_eq_true c7
    obtain ⟨y393, hy393⟩ : ∃ y_ : List Int, y_ = ((l0.take ((wrap64 (4 + (rd t388 0))) : Int).toNat).drop 4) := ⟨_, rfl⟩
    replace H : (pyxref22_Split.l0 k l0 t388 1 t384 ((t391) % 4294967296) y393 ([] : List (List Int)) ([] : List (List Int))) = some (r1, r2, r3, r4, r5) := by first | (rw [hy393]; with_reducible exact H) | (have H2_ := (Option.bind_some _ _).symm.trans H; rw [hy393]; with_reducible exact H2_) | (have H2_ := (Option.bind_some _ _).symm.trans H; with_reducible exact H2_) | with_reducible exact H | (rw [hy393]; exact H) | exact H
    have Ny393 := Aside0.mk hy393
    clear hy393
    have H' := Aside0.mk H
    clear H
    go_enter Tryz.func22, Tryz.ntmps22
    try go_wp2_with (first | ((with_reducible refine gate_dst (N := 2) rfl ?_); refine box_event ?hg (N := 2) ?hd (cs := #[.int .i64 0, .int .u32 0, .slice none 0 0, .slice none 0 0, .slice none 0 0]) (t := 57) ?hr ?_; (case hd => rfl); (case hg => rfl); (case hr => first | (go_simp; done) | (go_simp; rfl)); intro gb383 hg w8 hbox hb; have n0_ := Aside0.mk (Kd.V_below (Kd.V_elderB q58_ gb383 (Nat.le_of_eq hg.symm)) hb); have n1_ := Aside0.mk (below_step q30_ hb); have n2_ := Aside0.mk (hbox); have n3_ := Aside0.mk ((by rw [hg]; exact (below_size q30_) : w.heap.size ≤ gb383)); have n4_ := Aside0.mk ((by rw [hg]; exact (below_size q30_) : w.heap.size ≤ gb383)); clear HO0; clear HB; have HO0 := n0_; have HB := n1_; have BK383 := n2_; have GW383 := n3_; have GE383 := n4_; clear n0_ n1_ n2_ n3_ n4_; clear hb hbox hg) | ((with_reducible refine gate_callee (f := 13) rfl ?_); refine goesL_ (some 11) rfl rfl Tryz.func13 (by kernel_rfl) rfl #[.slice A0 l0.length c0] rfl q29_ ?_; (with_reducible refine (pyxref22_Signature.calls k _ _ l0 t384 t385 t386 _ ?side1 ?side2 A2.out).mono ?_); (case side1 => repeat (first | exact (Kd.V_reads' HO0.out).2.2 | (with_reducible refine Kd.C_alloc ?_ _) | (with_reducible refine Kd.C_drewN ?_ _) | (with_reducible refine Kd.C_drew ?_))); (case side2 => exact (Kd.V_reads' HO0.out).2.1); rintro e w9 ⟨rfl, hb⟩; refine ⟨_, rfl, ?_⟩; have n0_ := Aside0.mk (Kd.V_below q58_ hb); have n1_ := Aside0.mk (blk_below (g := gb383) (o := .cells #[.int .i64 0, .int .u32 0, .slice none 0 0, .slice none 0 0, .slice none 0 0] 57 (0, 0)) q37_ hb); have n2_ := Aside0.mk (below_step q25_ hb); clear HO0; clear BK383; clear HB; have HO0 := n0_; have BK383 := n1_; have HB := n2_; clear n0_ n1_ n2_; (try clear hb); (try clear hb2); (try clear hk); (try clear hi)) | ((with_reducible refine gate_dst (N := 4) rfl ?_); refine box_event ?hg (N := 4) ?hd (cs := #[.int .i64 0, .int .i64 0]) (t := 34) ?hr ?_; (case hd => rfl); (case hg => rfl); (case hr => first | (go_simp; done) | (go_simp; rfl)); intro gb387 hg w10 hbox hb; have n0_ := Aside0.mk (Kd.V_below (Kd.V_elderB q58_ gb387 (Nat.le_of_eq hg.symm)) hb); have n1_ := Aside0.mk (blk_below (g := gb383) (o := .cells #[.int .i64 0, .int .u32 0, .slice none 0 0, .slice none 0 0, .slice none 0 0] 57 (0, 0)) q37_ hb); have n2_ := Aside0.mk (below_step q25_ hb); have n3_ := Aside0.mk (hbox); have n4_ := Aside0.mk ((by rw [hg]; exact (below_size q25_) : w.heap.size ≤ gb387)); have n5_ := Aside0.mk ((by rw [hg]; exact (below_size q25_) : w.heap.size ≤ gb387)); have n6_ := Aside0.mk ((by rw [hg]; exact Nat.ne_of_lt (blk_lt (g := gb383) (o := .cells #[.int .i64 0, .int .u32 0, .slice none 0 0, .slice none 0 0, .slice none 0 0] 57 (0, 0)) q37_) : gb383 ≠ gb387)); have n7_ := Aside0.mk ((by rw [hg]; exact Nat.ne_of_gt (blk_lt (g := gb383) (o := .cells #[.int .i64 0, .int .u32 0, .slice none 0 0, .slice none 0 0, .slice none 0 0] 57 (0, 0)) q37_) : gb387 ≠ gb383)); clear HO0; clear BK383; clear HB; have HO0 := n0_; have BK383 := n1_; have HB := n2_; have BK387 := n3_; have GW387 := n4_; have GE387 := n5_; have NB383_387 := n6_; have NB387_383 := n7_; clear n0_ n1_ n2_ n3_ n4_ n5_ n6_ n7_; clear hb hbox hg; have hnb11 := NB387_383.out; have hnc11 := NB383_387.out; obtain ⟨hcz12_0, hcz12_1⟩ := cells2_ BK387.out; obtain ⟨hfz12_0, hfz12_1⟩ := frz2_ BK387.out) | ((with_reducible refine gate_callee (f := 18) rfl ?_); refine goesL_ (some 15) rfl rfl Tryz.func18 (by kernel_rfl) rfl #[.int .i64 t384] rfl q29_ ?_; (with_reducible refine (pyxref22_Numbers.calls t384 t388 _ A3.out).mono ?_); rintro e w13 ⟨v389, rfl, ho0, hb⟩; refine ⟨_, rfl, ?_⟩; have n0_ := Aside0.mk (Kd.V_below (by (with_reducible repeat (first | apply Kd.V_alloc | apply Kd.V_drewN | apply Kd.V_drew)); exact (Kd.V_mono (Kd.V_far (p := ⟨gb387, 1, none⟩) (Kd.V_far (p := ⟨gb387, 0, none⟩) (Kd.V_mono HO0.out (fun k_ hk => (⟨hk, hk.2⟩ : _ ∧ k_ ≠ gb387))) (fun _ hk => hk.2) (.int .i64 t385)) (fun _ hk => hk.2) (.int .i64 t386)) (fun _ h_ => h_.1))) hb); have n1_ := Aside0.mk (Kd.V_lower (Kd.V_mono (ok' := fun k_ => (P0_ k_ ∨ w.heap.size ≤ k_) ∧ k_ ≠ gb383 ∧ k_ ≠ gb387) ho0 (fun k_ hk_ => ⟨(.inr (Nat.le_trans (below_size q13_) hk_)), (Kd.freshB (g := gb383) (o := .cells #[.int .i64 0, .int .u32 0, .slice none 0 0, .slice none 0 0, .slice none 0 0] 57 (0, 0)) q5_ k_ hk_), (Kd.freshB (g := gb387) (o := .cells #[.int .i64 t385, .int .i64 t386] 34 (0, 0)) (by (with_reducible repeat (first | refine blk_drewN ?_ _ | refine blk_drew ?_ | refine blk_alloc ?_ _)); exact set2_01_ BK387.out) k_ hk_)⟩)) (below_size q13_)); have n2_ := Aside0.mk (blk_below (g := gb383) (o := .cells #[.int .i64 0, .int .u32 0, .slice none 0 0, .slice none 0 0, .slice none 0 0] 57 (0, 0)) q5_ hb); have n3_ := Aside0.mk (blk_below (g := gb387) (o := .cells #[.int .i64 t385, .int .i64 t386] 34 (0, 0)) (by (with_reducible repeat (first | refine blk_drewN ?_ _ | refine blk_drew ?_ | refine blk_alloc ?_ _)); exact set2_01_ BK387.out) hb); have n4_ := Aside0.mk (below_step q13_ hb); clear HO0; clear BK383; clear BK387; clear HB; have HO0 := n0_; have HO390 := n1_; have BK383 := n2_; have BK387 := n3_; have HB := n4_; clear n0_ n1_ n2_ n3_ n4_; (try clear hb); (try clear hb2); (try clear hk); (try clear hi); (try clear ho0)))
    have n0_ := Aside0.mk (Kd.V_drew HO0.out)
    have n1_ := Aside0.mk (Kd.V_drew HO390.out)
    have n2_ := Aside0.mk (blk_drew BK383.out)
    have n3_ := Aside0.mk (blk_drew BK387.out)
    have n4_ := Aside0.mk (below_drew1 HB.out)
    clear HO0
    clear HO390
    clear BK383
    clear BK387
    clear HB
    have HO0 := n0_
    have HO390 := n1_
    have BK383 := n2_
    have BK387 := n3_
    have HB := n4_
    clear n0_ n1_ n2_ n3_ n4_
    obtain ⟨Ao15, co15, eo15⟩ := Kd.V_slice HO390.out
    (first | subst eo15 | (injection eo15 with f1_ f2_ f3_; have f4_ := f1_.symm; have f5_ := f3_.symm; clear f1_ f2_ f3_; subst f4_; subst f5_))
    have p392 : 0 ≤ (0 : Int) := (by omega)
    have q392 : 0 < (t388.length : Int) := of_decide_eq_true q63_
    obtain ⟨ad392, e392, hx392_0⟩ := Kd.at_int (Kd.V_reads' HO390.out).2.2 0 p392 q392
    cases e392
    have qi392 : (0 < t388.length) = True := eq_true (by omega)
    (try rw [show ((0 : Int)).toNat = 0 from rfl] at hx392_0)
    (try rw [Addr.add_zero'] at hx392_0)
    replace p392 := eq_true p392
    replace q392 := eq_true q392
    have q16 : ((wrap64 (4 + (rd t388 0))) : Int) ≤ ((l0.length : Int) : Int) := of_decide_eq_true q63_
    obtain ⟨i016, hi016, _, hsz16, _⟩ := info_parts info5
    have hroom16 : l0.length ≤ c0 := (Kd.V_reads' HO0.out).2.1
    have hC16 : Kd.F (Kd.int .u8) _ _ A0 l0.length l0 := (Kd.V_at (base := w.heap.size) HO0.out).2.2
    have ql16 : (4 : Int) ≤ ((wrap64 (4 + (rd t388 0))) : Int) := of_decide_eq_true q63_
    have hcut16 := cut_mid (P := Tryz.prog) 25 5 .i64 .i64 Tryz.underlying25 hi016 1 hsz16 A0 l0.length c0 4 (wrap64 (4 + (rd t388 0))) (by omega) ql16 q16 hroom16
    have hr16 := Kd.F_mid (lo := (4 : Int).toNat) (hi := ((wrap64 (4 + (rd t388 0))) : Int).toNat) (c := c0) hC16 (by omega) (by omega) hroom16
    obtain ⟨A16, hA16⟩ : ∃ A1, A1 = (if c0 = (4 : Int).toNat then A0 else (A0 : Option Addr).map (·.add ((4 : Int).toNat * 1))) := ⟨_, rfl⟩
    obtain ⟨c16, hc16⟩ : ∃ c1, c1 = c0 - (4 : Int).toNat := ⟨_, rfl⟩
    have hy16 : y393.length = ((wrap64 (4 + (rd t388 0))) : Int).toNat - (4 : Int).toNat := (by rw [Ny393.out, List.length_drop, List.length_take] <;> omega)
    rw [show ((l0).take ((wrap64 (4 + (rd t388 0))) : Int).toNat).drop (4 : Int).toNat = y393 from Ny393.out.symm] at hr16
    replace hr16 : Kd.F (Kd.int .u8) _ _ A16 y393.length y393 := (by rw [hA16]; exact hr16)
    rw [← hy16, ← hA16, ← hc16] at hcut16
    have HO397 := Aside0.mk (show Kd.V (Kd.int .u8) 5 _ w.heap.size _ (.slice A16 y393.length c16) y393 from Kd.V_mk (by rw [hy16, hc16]; exact Nat.sub_le_sub_right (Nat.le_trans (by omega) hroom16) _) hr16)
    have HC397 := Aside0.mk (show y393.length ≤ c16 from by rw [hy16, hc16]; exact Nat.sub_le_sub_right (Nat.le_trans (by omega) hroom16) _)
    clear hr16 hC16 hroom16 hi016 hsz16 hc16
    have KY16 := Aside0.mk hy16
    have KA16 := Aside0.mk hA16
    clear hy16 hA16
    replace q16 := eq_true q16
    refine start_ (n := 13) (S := fun w' => w'.cell? ad392 = some (.int .i64 (rd t388 0))) (ds := []) #[false, false, false, false, false, false, false, false, false, false, false, false, false] (by kernel_rfl) rfl rfl (hx392_0) (fun hHeld => ?_); refine with_tabW pyxref22_Split.tab3 pyxref22_Split.bits3 (fun HT_ HW_ => ?_)
    generalize w13.drew = w14 at HO0 HO390 BK383 BK387 HB HO397 hx392_0 hHeld ⊢
    refine pu_ 0 (N := some 16) #[true, false, false, false, false, false, false, false, false, false, false, false, false] rfl rfl ?_
    refine pu_ 1 (N := some 17) #[true, true, false, false, false, false, false, false, false, false, false, false, false] rfl rfl ?_
    refine pu_ 4 (N := some 20) #[true, true, false, false, true, false, false, false, false, false, false, false, false] rfl rfl ?_
    refine pu_ 5 (N := some 21) #[true, true, false, false, true, true, false, false, false, false, false, false, false] rfl rfl ?_
    refine pu_ 6 (N := some 22) #[true, true, false, false, true, true, true, false, false, false, false, false, false] rfl rfl ?_
    refine tk1_ 7 (N := some 23) #[true, true, false, false, true, true, true, true, false, false, false, false, false] rfl rfl hHeld ?_
    refine pu_ 8 (N := some 24) #[true, true, false, false, true, true, true, true, true, false, false, false, false] rfl rfl ?_
    refine pu_ 9 (N := some 25) #[true, true, false, false, true, true, true, true, true, true, false, false, false] rfl rfl ?_
    refine join_ (σ := Nat) 1 #[true, true, true, true, true, true, true, true, true, true, true, true, false] (fun s_ => [(18, .int .i64 t391), (6, .pointer (some ⟨s_, 0, none⟩)), (19, .int .u32 ((t391) % 4294967296)), (26, .agg #[.int .i64 t384, .int .u32 ((t391) % 4294967296), .slice A16 y393.length c16, .slice none 0 0, .slice none 0 0])]) (fun s_ w' => (w'.cell? ad392 = some (.int .i64 (rd t388 0))) ∧ (Kd.V (Kd.int .u8) 5 w' w.heap.size (fun k_ => (P0_ k_ ∨ w.heap.size ≤ k_) ∧ k_ ≠ gb383 ∧ k_ ≠ gb387 ∧ k_ ≠ s_) (.slice A0 l0.length c0) l0) ∧ (Kd.V (Kd.int .i64) 3 w' w.heap.size (fun k_ => (P0_ k_ ∨ w.heap.size ≤ k_) ∧ k_ ≠ gb383 ∧ k_ ≠ gb387 ∧ k_ ≠ s_) (.slice (some ad392) t388.length co15) t388) ∧ (Kd.V (Kd.int .u8) 5 w' w.heap.size (fun k_ => (P0_ k_ ∨ w.heap.size ≤ k_) ∧ k_ ≠ gb383 ∧ k_ ≠ gb387 ∧ k_ ≠ s_) (.slice A16 y393.length c16) y393) ∧ (w'.heap[gb383]? = some (.cells #[.int .i64 0, .int .u32 0, .slice none 0 0, .slice none 0 0, .slice none 0 0] 57 (0, 0))) ∧ (w'.heap[gb387]? = some (.cells #[.int .i64 t385, .int .i64 t386] 34 (0, 0))) ∧ (w'.heap[s_]? = some (.cells #[.int .i64 0, .int .u32 0, .slice none 0 0, .slice none 0 0, .slice none 0 0] 57 (0, 0))) ∧ (w.heap.size ≤ s_) ∧ (w.heap.size ≤ s_) ∧ (gb383 ≠ s_) ∧ (s_ ≠ gb383) ∧ (gb387 ≠ s_) ∧ (s_ ≠ gb387) ∧ (Below w.heap.size w w')) ?_ ?_
    rotate_left
    ·intro hCont
     refine two_ (i := 2) (j := 11) (Ni := some 18) (Nj := some 6) #[true, true, true, false, true, true, true, true, true, true, false, false, false] #[true, true, false, false, true, true, true, true, true, true, false, true, false] rfl rfl rfl rfl (two_of HT_.out (by kernel_rfl)) (by decide) (by decide) (fun K hK => ?_) (fun K hK => ?_)
     ·skip
      refine goes_ Tryz.func30 (by kernel_rfl) rfl #[.slice A0 l0.length c0] (by rfl) rfl rfl q29_ ?_
      with_reducible refine (pyxref22_index.calls _ _ l0 t391 _ ?side1 ?side2 A4.out).mono ?_
      (case side1 => repeat (first | exact (Kd.V_reads' HO0.out).2.2 | (with_reducible refine Kd.C_alloc ?_ _) | (with_reducible refine Kd.C_drewN ?_ _) | (with_reducible refine Kd.C_drew ?_)))
      (case side2 => exact (Kd.V_reads' HO0.out).2.1)
      rintro e w' ⟨rfl, ⟨nd, rfl⟩⟩
      refine ⟨_, rfl, ?_⟩
      refine hK.out _ _ (hHeld) (fun hHeld => ?_)
      clear hK K
      refine norm_ (a' := ?_) ?_ ?_
      rotate_left
      ·show Act.put _ (some 18) _ = _
       simp only [Act.put, List.setIfInBounds_toArray, List.set_cons_zero, List.set_cons_succ, i64_w, i32_w]
       rfl
      refine pu_ 3 (N := some 19) #[true, true, true, true, true, true, true, true, true, true, false, false, false] rfl rfl ?_
      refine pu_ 10 (N := some 26) #[true, true, true, true, true, true, true, true, true, true, true, false, false] rfl rfl ?_
      refine one_ (i := 11) (N := some 6) #[true, true, true, true, true, true, true, true, true, true, true, true, false] rfl rfl (one_of HT_.out (by kernel_rfl)) (by decide) (fun K hK => ?_)
      refine box_step ?hg (N := 6) ?hd (cs := #[.int .i64 0, .int .u32 0, .slice none 0 0, .slice none 0 0, .slice none 0 0]) (t := 57) ?hr ?_; (case hd => rfl); (case hg => rfl); (case hr => first | (go_simp; done) | (go_simp; rfl))
      intro gb398 hg w17 hbox hb
      have HS0_ := (hb.cell (World.block_lt_of_cell? _ _ (hHeld))).trans (hHeld)
      have n0_ := Aside0.mk (Kd.V_below (Kd.V_elderB q58_ gb398 (Nat.le_of_eq hg.symm)) hb)
      have n1_ := Aside0.mk (Kd.V_below (Kd.V_elderB (by (with_reducible repeat (first | apply Kd.V_alloc | apply Kd.V_drewN | apply Kd.V_drew)); exact HO390.out) gb398 (Nat.le_of_eq hg.symm)) hb)
      have n2_ := Aside0.mk (Kd.V_below (Kd.V_elderB (by (with_reducible repeat (first | apply Kd.V_alloc | apply Kd.V_drewN | apply Kd.V_drew)); exact HO397.out) gb398 (Nat.le_of_eq hg.symm)) hb)
      have n3_ := Aside0.mk (blk_below (g := gb383) (o := .cells #[.int .i64 0, .int .u32 0, .slice none 0 0, .slice none 0 0, .slice none 0 0] 57 (0, 0)) q37_ hb)
      have n4_ := Aside0.mk (blk_below (g := gb387) (o := .cells #[.int .i64 t385, .int .i64 t386] 34 (0, 0)) q38_ hb)
      have n5_ := Aside0.mk (below_step q13_ hb)
      have n6_ := Aside0.mk (hbox)
      have n7_ := Aside0.mk ((by rw [hg]; exact (below_size q13_) : w.heap.size ≤ gb398))
      have n8_ := Aside0.mk ((by rw [hg]; exact (below_size q13_) : w.heap.size ≤ gb398))
      have n9_ := Aside0.mk ((by rw [hg]; exact Nat.ne_of_lt (blk_lt (g := gb383) (o := .cells #[.int .i64 0, .int .u32 0, .slice none 0 0, .slice none 0 0, .slice none 0 0] 57 (0, 0)) q37_) : gb383 ≠ gb398))
      have n10_ := Aside0.mk ((by rw [hg]; exact Nat.ne_of_gt (blk_lt (g := gb383) (o := .cells #[.int .i64 0, .int .u32 0, .slice none 0 0, .slice none 0 0, .slice none 0 0] 57 (0, 0)) q37_) : gb398 ≠ gb383))
      have n11_ := Aside0.mk ((by rw [hg]; exact Nat.ne_of_lt (blk_lt (g := gb387) (o := .cells #[.int .i64 t385, .int .i64 t386] 34 (0, 0)) q38_) : gb387 ≠ gb398))
      have n12_ := Aside0.mk ((by rw [hg]; exact Nat.ne_of_gt (blk_lt (g := gb387) (o := .cells #[.int .i64 t385, .int .i64 t386] 34 (0, 0)) q38_) : gb398 ≠ gb387))
      clear HO0
      clear HO390
      clear HO397
      clear BK383
      clear BK387
      clear HB
      have HO0 := n0_
      have HO390 := n1_
      have HO397 := n2_
      have BK383 := n3_
      have BK387 := n4_
      have HB := n5_
      have BK398 := n6_
      have GW398 := n7_
      have GE398 := n8_
      have NB383_398 := n9_
      have NB398_383 := n10_
      have NB387_398 := n11_
      have NB398_387 := n12_
      clear n0_ n1_ n2_ n3_ n4_ n5_ n6_ n7_ n8_ n9_ n10_ n11_ n12_
      clear hb hbox hg
      refine hK.out _ _ (HS0_) (fun hHeld => ?_)
      clear hK K
      refine norm_ (a' := ?_) ?_ ?_
      rotate_left
      ·show Act.put _ (some 6) _ = _
       simp only [Act.put, List.setIfInBounds_toArray, List.set_cons_zero, List.set_cons_succ, i64_w, i32_w]
       rfl
      exact norm_ (by simp only [putAll, Act.put, List.setIfInBounds_toArray, List.set_cons_zero, List.set_cons_succ, IntKind.wrap_u32]) (hCont (gb398) _ ⟨hHeld, q21_, q19_, q20_, q37_, q38_, q39_, GW398.out, GE398.out, NB383_398.out, NB398_383.out, NB387_398.out, NB398_387.out, q10_⟩)
     ·skip
      refine box_step ?hg (N := 6) ?hd (cs := #[.int .i64 0, .int .u32 0, .slice none 0 0, .slice none 0 0, .slice none 0 0]) (t := 57) ?hr ?_; (case hd => rfl); (case hg => rfl); (case hr => first | (go_simp; done) | (go_simp; rfl))
      intro gb398 hg w17 hbox hb
      have HS0_ := (hb.cell (World.block_lt_of_cell? _ _ (hHeld))).trans (hHeld)
      have n0_ := Aside0.mk (Kd.V_below (Kd.V_elderB q58_ gb398 (Nat.le_of_eq hg.symm)) hb)
      have n1_ := Aside0.mk (Kd.V_below (Kd.V_elderB (by (with_reducible repeat (first | apply Kd.V_alloc | apply Kd.V_drewN | apply Kd.V_drew)); exact HO390.out) gb398 (Nat.le_of_eq hg.symm)) hb)
      have n2_ := Aside0.mk (Kd.V_below (Kd.V_elderB (by (with_reducible repeat (first | apply Kd.V_alloc | apply Kd.V_drewN | apply Kd.V_drew)); exact HO397.out) gb398 (Nat.le_of_eq hg.symm)) hb)
      have n3_ := Aside0.mk (blk_below (g := gb383) (o := .cells #[.int .i64 0, .int .u32 0, .slice none 0 0, .slice none 0 0, .slice none 0 0] 57 (0, 0)) q37_ hb)
      have n4_ := Aside0.mk (blk_below (g := gb387) (o := .cells #[.int .i64 t385, .int .i64 t386] 34 (0, 0)) q38_ hb)
      have n5_ := Aside0.mk (below_step q13_ hb)
      have n6_ := Aside0.mk (hbox)
      have n7_ := Aside0.mk ((by rw [hg]; exact (below_size q13_) : w.heap.size ≤ gb398))
      have n8_ := Aside0.mk ((by rw [hg]; exact (below_size q13_) : w.heap.size ≤ gb398))
      have n9_ := Aside0.mk ((by rw [hg]; exact Nat.ne_of_lt (blk_lt (g := gb383) (o := .cells #[.int .i64 0, .int .u32 0, .slice none 0 0, .slice none 0 0, .slice none 0 0] 57 (0, 0)) q37_) : gb383 ≠ gb398))
      have n10_ := Aside0.mk ((by rw [hg]; exact Nat.ne_of_gt (blk_lt (g := gb383) (o := .cells #[.int .i64 0, .int .u32 0, .slice none 0 0, .slice none 0 0, .slice none 0 0] 57 (0, 0)) q37_) : gb398 ≠ gb383))
      have n11_ := Aside0.mk ((by rw [hg]; exact Nat.ne_of_lt (blk_lt (g := gb387) (o := .cells #[.int .i64 t385, .int .i64 t386] 34 (0, 0)) q38_) : gb387 ≠ gb398))
      have n12_ := Aside0.mk ((by rw [hg]; exact Nat.ne_of_gt (blk_lt (g := gb387) (o := .cells #[.int .i64 t385, .int .i64 t386] 34 (0, 0)) q38_) : gb398 ≠ gb387))
      clear HO0
      clear HO390
      clear HO397
      clear BK383
      clear BK387
      clear HB
      have HO0 := n0_
      have HO390 := n1_
      have HO397 := n2_
      have BK383 := n3_
      have BK387 := n4_
      have HB := n5_
      have BK398 := n6_
      have GW398 := n7_
      have GE398 := n8_
      have NB383_398 := n9_
      have NB398_383 := n10_
      have NB387_398 := n11_
      have NB398_387 := n12_
      clear n0_ n1_ n2_ n3_ n4_ n5_ n6_ n7_ n8_ n9_ n10_ n11_ n12_
      clear hb hbox hg
      refine hK.out _ _ (HS0_) (fun hHeld => ?_)
      clear hK K
      refine norm_ (a' := ?_) ?_ ?_
      rotate_left
      ·show Act.put _ (some 6) _ = _
       simp only [Act.put, List.setIfInBounds_toArray, List.set_cons_zero, List.set_cons_succ, i64_w, i32_w]
       rfl
      refine one_ (i := 2) (N := some 18) #[true, true, true, false, true, true, true, true, true, true, false, true, false] rfl rfl (one_of HT_.out (by kernel_rfl)) (by decide) (fun K hK => ?_)
      refine goes_ Tryz.func30 (by kernel_rfl) rfl #[.slice A0 l0.length c0] (by rfl) rfl rfl q29_ ?_
      with_reducible refine (pyxref22_index.calls _ _ l0 t391 _ ?side1 ?side2 A4.out).mono ?_
      (case side1 => repeat (first | exact (Kd.V_reads' HO0.out).2.2 | (with_reducible refine Kd.C_alloc ?_ _) | (with_reducible refine Kd.C_drewN ?_ _) | (with_reducible refine Kd.C_drew ?_)))
      (case side2 => exact (Kd.V_reads' HO0.out).2.1)
      rintro e w' ⟨rfl, ⟨nd, rfl⟩⟩
      refine ⟨_, rfl, ?_⟩
      refine hK.out _ _ (hHeld) (fun hHeld => ?_)
      clear hK K
      refine norm_ (a' := ?_) ?_ ?_
      rotate_left
      ·show Act.put _ (some 18) _ = _
       simp only [Act.put, List.setIfInBounds_toArray, List.set_cons_zero, List.set_cons_succ, i64_w, i32_w]
       rfl
      refine pu_ 3 (N := some 19) #[true, true, true, true, true, true, true, true, true, true, false, true, false] rfl rfl ?_
      refine pu_ 10 (N := some 26) #[true, true, true, true, true, true, true, true, true, true, true, true, false] rfl rfl ?_
      exact norm_ (by simp only [putAll, Act.put, List.setIfInBounds_toArray, List.set_cons_zero, List.set_cons_succ, IntKind.wrap_u32]) (hCont (gb398) _ ⟨hHeld, q21_, q19_, q20_, q37_, q38_, q39_, GW398.out, GE398.out, NB383_398.out, NB398_383.out, NB387_398.out, NB398_387.out, q10_⟩)
    rintro gb398 w18 ⟨hS_, h0_, h1_, h2_, h3_, h4_, h5_, h6_, h7_, h8_, h9_, h10_, h11_, h12_⟩
    have n0_ : Aside0 (Kd.V (Kd.int .u8) 5 w18 w.heap.size (fun k_ => (P0_ k_ ∨ w.heap.size ≤ k_) ∧ k_ ≠ gb383 ∧ k_ ≠ gb387 ∧ k_ ≠ gb398) (.slice A0 l0.length c0) l0) := ⟨h0_⟩
    have n1_ : Aside0 (Kd.V (Kd.int .i64) 3 w18 w.heap.size (fun k_ => (P0_ k_ ∨ w.heap.size ≤ k_) ∧ k_ ≠ gb383 ∧ k_ ≠ gb387 ∧ k_ ≠ gb398) (.slice (some ad392) t388.length co15) t388) := ⟨h1_⟩
    have n2_ : Aside0 (Kd.V (Kd.int .u8) 5 w18 w.heap.size (fun k_ => (P0_ k_ ∨ w.heap.size ≤ k_) ∧ k_ ≠ gb383 ∧ k_ ≠ gb387 ∧ k_ ≠ gb398) (.slice A16 y393.length c16) y393) := ⟨h2_⟩
    have n3_ : Aside0 (w18.heap[gb383]? = some (.cells #[.int .i64 0, .int .u32 0, .slice none 0 0, .slice none 0 0, .slice none 0 0] 57 (0, 0))) := ⟨h3_⟩
    have n4_ : Aside0 (w18.heap[gb387]? = some (.cells #[.int .i64 t385, .int .i64 t386] 34 (0, 0))) := ⟨h4_⟩
    have n5_ : Aside0 (w18.heap[gb398]? = some (.cells #[.int .i64 0, .int .u32 0, .slice none 0 0, .slice none 0 0, .slice none 0 0] 57 (0, 0))) := ⟨h5_⟩
    have n6_ : Aside0 (w.heap.size ≤ gb398) := ⟨h6_⟩
    have n7_ : Aside0 (w.heap.size ≤ gb398) := ⟨h7_⟩
    have n8_ : Aside0 (gb383 ≠ gb398) := ⟨h8_⟩
    have n9_ : Aside0 (gb398 ≠ gb383) := ⟨h9_⟩
    have n10_ : Aside0 (gb387 ≠ gb398) := ⟨h10_⟩
    have n11_ : Aside0 (gb398 ≠ gb387) := ⟨h11_⟩
    have n12_ : Aside0 (Below w.heap.size w w18) := ⟨h12_⟩
    clear HO0
    clear HO390
    clear BK383
    clear BK387
    clear HB
    clear h0_ h1_ h2_ h3_ h4_ h5_ h6_ h7_ h8_ h9_ h10_ h11_ h12_
    have HO0 := n0_
    have HO390 := n1_
    have HO397 := n2_
    have BK383 := n3_
    have BK387 := n4_
    have BK398 := n5_
    have GW398 := n6_
    have GE398 := n7_
    have NB383_398 := n8_
    have NB398_383 := n9_
    have NB387_398 := n10_
    have NB398_387 := n11_
    have HB := n12_
    clear n0_ n1_ n2_ n3_ n4_ n5_ n6_ n7_ n8_ n9_ n10_ n11_ n12_
    have hHeld : w18.cell? ad392 = some (.int .i64 (rd t388 0)) := hS_
    refine norm_ (a' := ?_) ?_ ?_
    rotate_left
    ·simp only [putAll, Act.put, List.setIfInBounds_toArray, List.set_cons_zero, List.set_cons_succ]
     rfl
    refine one_ (i := 12) (N := none) #[true, true, true, true, true, true, true, true, true, true, true, true, true] rfl rfl (one_of HT_.out (by kernel_rfl)) (by decide) (fun K hK => ?_)
    have hs19 : w18.cell? ⟨gb398, 0, none⟩ = some (.int .i64 0) := (blk_cell BK398.out 0).trans rfl
    have hfs19 := blk_frozen BK398.out 0
    have hns19_0 := NB383_398.out
    have hns19_1 := NB387_398.out
    have hms19_0 := NB398_383.out
    have hms19_1 := NB398_387.out
    have hs20 : w18.cell? ⟨gb398, 1, none⟩ = some (.int .u32 0) := (blk_cell BK398.out 1).trans rfl
    have hfs20 := blk_frozen BK398.out 1
    have hns20_0 := NB383_398.out
    have hns20_1 := NB387_398.out
    have hms20_0 := NB398_383.out
    have hms20_1 := NB398_387.out
    have hs21 : w18.cell? ⟨gb398, 2, none⟩ = some (.slice none 0 0) := (blk_cell BK398.out 2).trans rfl
    have hfs21 := blk_frozen BK398.out 2
    have hns21_0 := NB383_398.out
    have hns21_1 := NB387_398.out
    have hms21_0 := NB398_383.out
    have hms21_1 := NB398_387.out
    have hs22 : w18.cell? ⟨gb398, 3, none⟩ = some (.slice none 0 0) := (blk_cell BK398.out 3).trans rfl
    have hfs22 := blk_frozen BK398.out 3
    have hns22_0 := NB383_398.out
    have hns22_1 := NB387_398.out
    have hms22_0 := NB398_383.out
    have hms22_1 := NB398_387.out
    have hs23 : w18.cell? ⟨gb398, 4, none⟩ = some (.slice none 0 0) := (blk_cell BK398.out 4).trans rfl
    have hfs23 := blk_frozen BK398.out 4
    have hns23_0 := NB383_398.out
    have hns23_1 := NB387_398.out
    have hms23_0 := NB398_383.out
    have hms23_1 := NB398_387.out
    refine skip_ (w1 := ?_) (by rfl) rfl ?_ ?_
    rotate_left
    ·go_simp
     rfl
    refine hK.out _ _ (((cell_far (p := ⟨gb398, _, none⟩) q3_ _).trans (((cell_far (p := ⟨gb398, _, none⟩) q3_ _).trans (((cell_far (p := ⟨gb398, _, none⟩) q3_ _).trans (((cell_far (p := ⟨gb398, _, none⟩) q3_ _).trans (((cell_far (p := ⟨gb398, _, none⟩) q3_ _).trans (hHeld))))))))))) (fun hHeld => ?_)
    clear hK K
    refine done_ (done_of HT_.out (by kernel_rfl)) ?_
    try go_wp2
    go_loopg [7] k (fun kq v7 w' => ∃ (x7_1 : Int) (x399003_1 : List (List Int)) (x399004_1 : List (List Int)) (u399003 : Value) (u399004 : Value), v7 = .int .i64 x7_1 ∧ Aside0 (pyxref22_Split.l0 kq l0 t388 x7_1 t384 ((t391) % 4294967296) y393 x399003_1 x399004_1 = some (r1, r2, r3, r4, r5)) ∧ Aside0 (kq ≤ k) ∧ Aside0 (Kd.V (Kd.int .u8) 5 w' w.heap.size (fun k_ => (P0_ k_ ∨ w.heap.size ≤ k_) ∧ some k_ ≠ (u399003 : Value).ownBlock ∧ some k_ ≠ (u399004 : Value).ownBlock ∧ k_ ≠ gb383 ∧ k_ ≠ gb387 ∧ k_ ≠ gb398) (.slice A0 l0.length c0) l0) ∧ Aside0 (Kd.V (Kd.int .i64) 3 w' w.heap.size (fun k_ => (P0_ k_ ∨ w.heap.size ≤ k_) ∧ some k_ ≠ (u399003 : Value).ownBlock ∧ some k_ ≠ (u399004 : Value).ownBlock ∧ k_ ≠ gb383 ∧ k_ ≠ gb387 ∧ k_ ≠ gb398) (.slice (some ad392) t388.length co15) t388) ∧ Aside0 (Kd.V (Kd.int .u8) 5 w' w.heap.size (fun k_ => (P0_ k_ ∨ w.heap.size ≤ k_) ∧ some k_ ≠ (u399003 : Value).ownBlock ∧ some k_ ≠ (u399004 : Value).ownBlock ∧ k_ ≠ gb383 ∧ k_ ≠ gb387 ∧ k_ ≠ gb398) (.slice A16 y393.length c16) y393) ∧ Aside0 (Kd.N (Kd.slice 5 (Kd.int .u8)) 25 w' w.heap.size (fun k_ => (P0_ k_ ∨ w.heap.size ≤ k_) ∧ some k_ ≠ (u399004 : Value).ownBlock ∧ k_ ≠ gb383 ∧ k_ ≠ gb387 ∧ k_ ≠ gb398) u399003 x399003_1) ∧ Aside0 (Kd.N (Kd.slice 5 (Kd.int .u8)) 25 w' w.heap.size (fun k_ => (P0_ k_ ∨ w.heap.size ≤ k_) ∧ some k_ ≠ (u399003 : Value).ownBlock ∧ k_ ≠ gb383 ∧ k_ ≠ gb387 ∧ k_ ≠ gb398) u399004 x399004_1) ∧ Aside0 (w'.heap[gb383]? = some (.cells #[.int .i64 0, .int .u32 0, (.slice none 0 0), (.slice none 0 0), (.slice none 0 0)] 57 (0, 0))) ∧ Aside0 (w'.heap[gb387]? = some (.cells #[.int .i64 t385, .int .i64 t386] 34 (0, 0))) ∧ Aside0 (w'.heap[gb398]? = some (.cells #[.int .i64 t384, .int .u32 ((t391) % 4294967296), (.slice A16 y393.length c16), u399003, u399004] 57 (0, 0))) ∧ Aside0 (Below w.heap.size w w'))
    case atStart => exact ⟨(1), (([] : List (List Int))), (([] : List (List Int))), (.slice none 0 0), (.slice none 0 0), q64_, H', ⟨Nat.le_refl _⟩, ⟨by (with_reducible repeat (first | apply Kd.V_alloc | apply Kd.V_drewN | apply Kd.V_drew)); exact Kd.V_mono (Kd.V_far (p := ⟨gb398, 4, none⟩) (Kd.V_far (p := ⟨gb398, 3, none⟩) (Kd.V_far (p := ⟨gb398, 2, none⟩) (Kd.V_far (p := ⟨gb398, 1, none⟩) (Kd.V_far (p := ⟨gb398, 0, none⟩) (Kd.V_mono HO0.out (fun k_ hk => (⟨hk, hk.2.2.2⟩ : _ ∧ k_ ≠ gb398))) (fun _ hk => hk.2) (.int .i64 t384)) (fun _ hk => hk.2) (.int .u32 ((t391) % 4294967296))) (fun _ hk => hk.2) (.slice A16 y393.length c16)) (fun _ hk => hk.2) (.slice none 0 0)) (fun _ hk => hk.2) (.slice none 0 0)) (fun _ hk => ⟨hk.1.1, ⟨(by simp [Value.ownBlock]), ⟨(by simp [Value.ownBlock]), ⟨hk.1.2.1, ⟨hk.1.2.2.1, hk.1.2.2.2⟩⟩⟩⟩⟩)⟩, ⟨by (with_reducible repeat (first | apply Kd.V_alloc | apply Kd.V_drewN | apply Kd.V_drew)); exact Kd.V_mono (Kd.V_far (p := ⟨gb398, 4, none⟩) (Kd.V_far (p := ⟨gb398, 3, none⟩) (Kd.V_far (p := ⟨gb398, 2, none⟩) (Kd.V_far (p := ⟨gb398, 1, none⟩) (Kd.V_far (p := ⟨gb398, 0, none⟩) (Kd.V_mono HO390.out (fun k_ hk => (⟨hk, hk.2.2.2⟩ : _ ∧ k_ ≠ gb398))) (fun _ hk => hk.2) (.int .i64 t384)) (fun _ hk => hk.2) (.int .u32 ((t391) % 4294967296))) (fun _ hk => hk.2) (.slice A16 y393.length c16)) (fun _ hk => hk.2) (.slice none 0 0)) (fun _ hk => hk.2) (.slice none 0 0)) (fun _ hk => ⟨hk.1.1, ⟨(by simp [Value.ownBlock]), ⟨(by simp [Value.ownBlock]), ⟨hk.1.2.1, ⟨hk.1.2.2.1, hk.1.2.2.2⟩⟩⟩⟩⟩)⟩, ⟨by (with_reducible repeat (first | apply Kd.V_alloc | apply Kd.V_drewN | apply Kd.V_drew)); exact Kd.V_mono (Kd.V_far (p := ⟨gb398, 4, none⟩) (Kd.V_far (p := ⟨gb398, 3, none⟩) (Kd.V_far (p := ⟨gb398, 2, none⟩) (Kd.V_far (p := ⟨gb398, 1, none⟩) (Kd.V_far (p := ⟨gb398, 0, none⟩) (Kd.V_mono HO397.out (fun k_ hk => (⟨hk, hk.2.2.2⟩ : _ ∧ k_ ≠ gb398))) (fun _ hk => hk.2) (.int .i64 t384)) (fun _ hk => hk.2) (.int .u32 ((t391) % 4294967296))) (fun _ hk => hk.2) (.slice A16 y393.length c16)) (fun _ hk => hk.2) (.slice none 0 0)) (fun _ hk => hk.2) (.slice none 0 0)) (fun _ hk => ⟨hk.1.1, ⟨(by simp [Value.ownBlock]), ⟨(by simp [Value.ownBlock]), ⟨hk.1.2.1, ⟨hk.1.2.2.1, hk.1.2.2.2⟩⟩⟩⟩⟩)⟩, ⟨by first | exact Kd.S_nil _ _ _ _ _ | exact Kd.N_nil _ _ _ _ _ | exact Kd.V_nil _ _ _ _ _ | exact Kd.Q_nil _ _ _ _ _ | exact Kd.R_nil _ _ _ _ _⟩, ⟨by first | exact Kd.S_nil _ _ _ _ _ | exact Kd.N_nil _ _ _ _ _ | exact Kd.V_nil _ _ _ _ _ | exact Kd.Q_nil _ _ _ _ _ | exact Kd.R_nil _ _ _ _ _⟩, ⟨by (with_reducible repeat (first | refine blk_drewN ?_ _ | refine blk_drew ?_ | refine blk_alloc ?_ _)); refine blk_far ?_ NB383_398.out _; (with_reducible repeat (first | refine blk_drewN ?_ _ | refine blk_drew ?_ | refine blk_alloc ?_ _)); refine blk_far ?_ NB383_398.out _; (with_reducible repeat (first | refine blk_drewN ?_ _ | refine blk_drew ?_ | refine blk_alloc ?_ _)); refine blk_far ?_ NB383_398.out _; (with_reducible repeat (first | refine blk_drewN ?_ _ | refine blk_drew ?_ | refine blk_alloc ?_ _)); refine blk_far ?_ NB383_398.out _; (with_reducible repeat (first | refine blk_drewN ?_ _ | refine blk_drew ?_ | refine blk_alloc ?_ _)); refine blk_far ?_ NB383_398.out _; (with_reducible repeat (first | refine blk_drewN ?_ _ | refine blk_drew ?_ | refine blk_alloc ?_ _)); exact BK383.out⟩, ⟨by (with_reducible repeat (first | refine blk_drewN ?_ _ | refine blk_drew ?_ | refine blk_alloc ?_ _)); refine blk_far ?_ NB387_398.out _; (with_reducible repeat (first | refine blk_drewN ?_ _ | refine blk_drew ?_ | refine blk_alloc ?_ _)); refine blk_far ?_ NB387_398.out _; (with_reducible repeat (first | refine blk_drewN ?_ _ | refine blk_drew ?_ | refine blk_alloc ?_ _)); refine blk_far ?_ NB387_398.out _; (with_reducible repeat (first | refine blk_drewN ?_ _ | refine blk_drew ?_ | refine blk_alloc ?_ _)); refine blk_far ?_ NB387_398.out _; (with_reducible repeat (first | refine blk_drewN ?_ _ | refine blk_drew ?_ | refine blk_alloc ?_ _)); refine blk_far ?_ NB387_398.out _; (with_reducible repeat (first | refine blk_drewN ?_ _ | refine blk_drew ?_ | refine blk_alloc ?_ _)); exact BK387.out⟩, ⟨by (with_reducible repeat (first | refine blk_drewN ?_ _ | refine blk_drew ?_ | refine blk_alloc ?_ _)); exact set5_01234_ BK398.out⟩, ⟨by repeat (first | (with_reducible first | exact HB.out | apply below_alloc | apply pw_below_drewN | apply below_drew1 | refine below_set ?_ GE383.out | refine below_set ?_ GE387.out | refine below_set ?_ GE398.out) | exact HB.out)⟩⟩
    case round =>
     clear H'
     try clear c1
     try clear q1
     try clear c2
     try clear p2
     try clear c3
     try clear p3
     try clear q3
     try clear hx3
     try clear qi3
     try clear c5
     try clear c5b0
     try clear c5b1
     try clear c6
     try clear c6b0
     try clear c6b1
     try clear p6
     try clear c7
     try clear c7b0
     try clear c7b1
     try clear c11
     try clear c13
     try clear c16
     try clear q16
     try clear c18
     try clear c22
     try clear hcz12_0
     try clear hcz12_1
     try clear hfz12_0
     try clear hfz12_1
     try clear hx392_0
     try clear p392
     try clear q16
     try clear q392
     obtain ⟨x7_1, x399003_1, x399004_1, u399003, u399004, rfl, HA, HK1, HO_0, HO_5, HO_399002, HO_399003, HO_399004, BK383, BK387, BK398, HB⟩ := hrel
     cases gk with
     | zero => exact absurd HA.out (by simp [pyxref22_Split.l0])
     | succ k1 =>
      have H := HA.out
      clear HA
      simp only [pyxref22_Split.l0] at H
      by_cases c24 : 1 < (t388.length : Int)
      ·rw [if_pos c24] at H
       have c24b0 : decide (1 < (t388.length : Int)) = true := decide_eq_true c24
       have c24b1 : decide (1 < t388.length) = true := decide_eq_true (by omega)
       clear c24
       by_cases c25 : 2 < (t388.length : Int)
       ·rw [if_pos c25] at H
        have c25b0 : decide (2 < (t388.length : Int)) = true := decide_eq_true c25
        have c25b1 : decide (2 < t388.length) = true := decide_eq_true (by omega)
        clear c25
        by_cases c26 : x7_1 ≤ (wrap64 ((rd t388 1) + (rd t388 2)))
        ·rw [if_pos c26] at H
         have c26b0 : decide (x7_1 ≤ (wrap64 ((rd t388 1) + (rd t388 2)))) = true := decide_eq_true c26
         clear c26
         by_cases c27 : 0 < (t388.length : Int)
         ·rw [if_pos c27] at H
          have c27b0 : decide (0 < (t388.length : Int)) = true := decide_eq_true c27
          have c27b1 : decide (0 < t388.length) = true := decide_eq_true (by omega)
          clear c27
          obtain ⟨ji28, hji28⟩ : ∃ j_ : Int, (wrap64 (4 + (wrap64 ((rd t388 0) * x7_1)))) = j_ := ⟨_, rfl⟩
          replace H : (if 0 ≤ (ji28) then (if (ji28) ≤ (wrap64 (4 + (wrap64 ((rd t388 0) * (wrap64 (x7_1 + 1)))))) then (if (wrap64 (4 + (wrap64 ((rd t388 0) * (wrap64 (x7_1 + 1)))))) ≤ (l0.length : Int) then ((some ((l0.take ((wrap64 (4 + (wrap64 ((rd t388 0) * (wrap64 (x7_1 + 1)))))) : Int).toNat).drop ((ji28) : Int).toNat : List Int)).bind fun y403 => (if x7_1 ≤ (rd t388 2) then (if x399003_1.length < 5864062014805 then (pyxref22_Split.l0 k1 l0 t388 (wrap64 (x7_1 + 1)) t384 ((t391) % 4294967296) y393 (x399003_1 ++ [y403]) x399004_1) else (none)) else (if x399004_1.length < 5864062014805 then (pyxref22_Split.l0 k1 l0 t388 (wrap64 (x7_1 + 1)) t384 ((t391) % 4294967296) y393 x399003_1 (x399004_1 ++ [y403])) else (none)))) else (none)) else (none)) else (none)) = some (r1, r2, r3, r4, r5) := by first | (rw [hji28] at H; exact H) | (simp only [hji28] at H ⊢; exact H)
          have hji28w : (IntKind.i64.wrap (4 + (wrap64 ((rd t388 0) * x7_1)))) = ji28 := (i64_w _).trans hji28
          by_cases c29 : 0 ≤ (ji28)
          ·rw [if_pos c29] at H
           have c29b0 := eq_true c29
           have c29b1 : decide (0 ≤ (ji28)) = true := decide_eq_true c29
           clear c29
           by_cases c30 : (ji28) ≤ (wrap64 (4 + (wrap64 ((rd t388 0) * (wrap64 (x7_1 + 1))))))
           ·rw [if_pos c30] at H
            have c30b0 := eq_true c30
            have c30b1 : decide ((ji28) ≤ (wrap64 (4 + (wrap64 ((rd t388 0) * (wrap64 (x7_1 + 1))))))) = true := decide_eq_true c30
            by_cases c31 : (wrap64 (4 + (wrap64 ((rd t388 0) * (wrap64 (x7_1 + 1)))))) ≤ (l0.length : Int)
            ·rw [if_pos c31] at H
             have c31b0 := eq_true c31
             have c31b1 : decide ((wrap64 (4 + (wrap64 ((rd t388 0) * (wrap64 (x7_1 + 1)))))) ≤ (l0.length : Int)) = true := decide_eq_true c31
             obtain ⟨y403, hy403⟩ : ∃ y_ : List Int, y_ = ((l0.take ((wrap64 (4 + (wrap64 ((rd t388 0) * (wrap64 (x7_1 + 1)))))) : Int).toNat).drop ((ji28) : Int).toNat) := ⟨_, rfl⟩
             replace H : (if x7_1 ≤ (rd t388 2) then (if x399003_1.length < 5864062014805 then (pyxref22_Split.l0 k1 l0 t388 (wrap64 (x7_1 + 1)) t384 ((t391) % 4294967296) y393 (x399003_1 ++ [y403]) x399004_1) else (none)) else (if x399004_1.length < 5864062014805 then (pyxref22_Split.l0 k1 l0 t388 (wrap64 (x7_1 + 1)) t384 ((t391) % 4294967296) y393 x399003_1 (x399004_1 ++ [y403])) else (none))) = some (r1, r2, r3, r4, r5) := by first | (rw [hy403]; with_reducible exact H) | (have H2_ := (Option.bind_some _ _).symm.trans H; rw [hy403]; with_reducible exact H2_) | (have H2_ := (Option.bind_some _ _).symm.trans H; with_reducible exact H2_) | with_reducible exact H | (rw [hy403]; exact H) | exact H
             have Ny403 := Aside0.mk hy403
             clear hy403
             by_cases c32 : x7_1 ≤ (rd t388 2)
             ·rw [if_pos c32] at H
              have c32b0 : decide (x7_1 ≤ (rd t388 2)) = true := decide_eq_true c32
              clear c32
              by_cases c33 : x399003_1.length < 5864062014805
              ·rw [if_pos c33] at H
               have LMc33 := Aside0.mk c33
               clear c33
               obtain ⟨y409, hy409⟩ : ∃ y_ : List (List Int), y_ = (x399003_1 ++ [y403]) := ⟨_, rfl⟩
               replace H : (pyxref22_Split.l0 k1 l0 t388 (wrap64 (x7_1 + 1)) t384 ((t391) % 4294967296) y393 y409 x399004_1) = some (r1, r2, r3, r4, r5) := by first | (rw [hy409]; with_reducible exact H) | (have H2_ := (Option.bind_some _ _).symm.trans H; rw [hy409]; with_reducible exact H2_) | (have H2_ := (Option.bind_some _ _).symm.trans H; with_reducible exact H2_) | with_reducible exact H | (rw [hy409]; exact H) | exact H
               have Ny409 := Aside0.mk hy409
               clear hy409
               have H' := Aside0.mk H
               clear H
               try go_wp2
               have n0_ := Aside0.mk (Kd.V_drew HO_0.out)
               have n1_ := Aside0.mk (Kd.V_drew HO_5.out)
               have n2_ := Aside0.mk (Kd.V_drew HO_399002.out)
               have n3_ := Aside0.mk (Kd.N_drew HO_399003.out)
               have n4_ := Aside0.mk (Kd.N_drew HO_399004.out)
               have n5_ := Aside0.mk (blk_drew BK383.out)
               have n6_ := Aside0.mk (blk_drew BK387.out)
               have n7_ := Aside0.mk (blk_drew BK398.out)
               have n8_ := Aside0.mk (below_drew1 HB.out)
               clear HO_0
               clear HO_5
               clear HO_399002
               clear HO_399003
               clear HO_399004
               clear BK383
               clear BK387
               clear BK398
               clear HB
               have HO_0 := n0_
               have HO_5 := n1_
               have HO_399002 := n2_
               have HO_399003 := n3_
               have HO_399004 := n4_
               have BK383 := n5_
               have BK387 := n6_
               have BK398 := n7_
               have HB := n8_
               clear n0_ n1_ n2_ n3_ n4_ n5_ n6_ n7_ n8_
               have p399 : 0 ≤ (1 : Int) := (by omega)
               have q399 : 1 < (t388.length : Int) := of_decide_eq_true q63_
               obtain ⟨ad399, e399, hx399_0⟩ := Kd.at_int (Kd.V_reads' HO_5.out).2.2 1 p399 q399
               obtain rfl : ad392 = ad399 := (by injection e399)
               (try simp only [show (1 : Int).toNat = 1 from rfl, Nat.reduceMul, Nat.reduceEqDiff, Go.Addr.add, ↓reduceIte] at hx399_0)
               have qi399 : (1 < t388.length) = True := eq_true (by omega)
               (try rw [show ((1 : Int)).toNat = 1 from rfl] at hx399_0)
               replace p399 := eq_true p399
               replace q399 := eq_true q399
               have p400 : 0 ≤ (2 : Int) := (by omega)
               have q400 : 2 < (t388.length : Int) := of_decide_eq_true q63_
               obtain ⟨ad400, e400, hx400_0⟩ := Kd.at_int (Kd.V_reads' HO_5.out).2.2 2 p400 q400
               obtain rfl : ad392 = ad400 := (by injection e400)
               (try simp only [show (2 : Int).toNat = 2 from rfl, Nat.reduceMul, Nat.reduceEqDiff, Go.Addr.add, ↓reduceIte] at hx400_0)
               have qi400 : (2 < t388.length) = True := eq_true (by omega)
               (try rw [show ((2 : Int)).toNat = 2 from rfl] at hx400_0)
               replace p400 := eq_true p400
               replace q400 := eq_true q400
               refine start_ (n := 9) (S := fun w' => w'.cell? ⟨ad392.block, ad392.off + 1, none⟩ = some (.int .i64 (rd t388 1)) ∧ w'.cell? ⟨ad392.block, ad392.off + 2, none⟩ = some (.int .i64 (rd t388 2))) (ds := []) #[false, false, false, false, false, false, false, false, false] (by kernel_rfl) rfl rfl ⟨hx399_0, hx400_0⟩ (fun hHeld => ?_); refine with_tabW pyxref22_Split.tab5 pyxref22_Split.bits5 (fun HT_ HW_ => ?_)
               generalize wr.drew = w34 at HO_0 HO_5 HO_399002 HO_399003 HO_399004 BK383 BK387 BK398 HB hx399_0 hx400_0 hHeld ⊢
               refine pu_ 0 (N := some 27) #[true, false, false, false, false, false, false, false, false] rfl rfl ?_
               refine pu_ 1 (N := some 28) #[true, true, false, false, false, false, false, false, false] rfl rfl ?_
               refine pu_ 2 (N := some 29) #[true, true, true, false, false, false, false, false, false] rfl rfl ?_
               refine pu_ 4 (N := some 31) #[true, true, true, false, true, false, false, false, false] rfl rfl ?_
               refine pu_ 5 (N := some 32) #[true, true, true, false, true, true, false, false, false] rfl rfl ?_
               refine tk2_ 3 (N := some 30) #[true, true, true, true, true, true, false, false, false] rfl rfl hHeld ?_
               refine tk2_ 6 (N := some 33) #[true, true, true, true, true, true, true, false, false] rfl rfl hHeld ?_
               refine pu_ 7 (N := some 34) #[true, true, true, true, true, true, true, true, false] rfl rfl ?_
               refine pu_ 8 (N := some 35) #[true, true, true, true, true, true, true, true, true] rfl rfl ?_
               refine done_ (done_of HT_.out (by kernel_rfl)) ?_
               try go_wp2
               have n0_ := Aside0.mk (Kd.V_drew HO_0.out)
               have n1_ := Aside0.mk (Kd.V_drew HO_5.out)
               have n2_ := Aside0.mk (Kd.V_drew HO_399002.out)
               have n3_ := Aside0.mk (Kd.N_drew HO_399003.out)
               have n4_ := Aside0.mk (Kd.N_drew HO_399004.out)
               have n5_ := Aside0.mk (blk_drew BK383.out)
               have n6_ := Aside0.mk (blk_drew BK387.out)
               have n7_ := Aside0.mk (blk_drew BK398.out)
               have n8_ := Aside0.mk (below_drew1 HB.out)
               clear HO_0
               clear HO_5
               clear HO_399002
               clear HO_399003
               clear HO_399004
               clear BK383
               clear BK387
               clear BK398
               clear HB
               have HO_0 := n0_
               have HO_5 := n1_
               have HO_399002 := n2_
               have HO_399003 := n3_
               have HO_399004 := n4_
               have BK383 := n5_
               have BK387 := n6_
               have BK398 := n7_
               have HB := n8_
               clear n0_ n1_ n2_ n3_ n4_ n5_ n6_ n7_ n8_
               have p401 : 0 ≤ (0 : Int) := (by omega)
               have q401 : 0 < (t388.length : Int) := of_decide_eq_true q63_
               obtain ⟨ad401, e401, hx401_0⟩ := Kd.at_int (Kd.V_reads' HO_5.out).2.2 0 p401 q401
               obtain rfl : ad392 = ad401 := (by injection e401)
               have qi401 : (0 < t388.length) = True := eq_true (by omega)
               (try rw [show ((0 : Int)).toNat = 0 from rfl] at hx401_0)
               (try rw [Addr.add_zero'] at hx401_0)
               replace p401 := eq_true p401
               replace q401 := eq_true q401
               have p402 : 0 ≤ (0 : Int) := (by omega)
               have q402 : 0 < (t388.length : Int) := of_decide_eq_true q63_
               obtain ⟨ad402, e402, hx402_0⟩ := Kd.at_int (Kd.V_reads' HO_5.out).2.2 0 p402 q402
               obtain rfl : ad392 = ad402 := (by injection e402)
               have qi402 : (0 < t388.length) = True := eq_true (by omega)
               (try rw [show ((0 : Int)).toNat = 0 from rfl] at hx402_0)
               (try rw [Addr.add_zero'] at hx402_0)
               replace p402 := eq_true p402
               replace q402 := eq_true q402
               have q36 : ((wrap64 (4 + (wrap64 ((rd t388 0) * (wrap64 (x7_1 + 1)))))) : Int) ≤ ((l0.length : Int) : Int) := of_decide_eq_true q63_
               obtain ⟨i036, hi036, _, hsz36, _⟩ := info_parts info5
               have hroom36 : l0.length ≤ c0 := (Kd.V_reads' HO_0.out).2.1
               have hC36 : Kd.F (Kd.int .u8) _ _ A0 l0.length l0 := (Kd.V_at (base := w.heap.size) HO_0.out).2.2
               have ql36 : ((ji28) : Int) ≤ ((wrap64 (4 + (wrap64 ((rd t388 0) * (wrap64 (x7_1 + 1)))))) : Int) := of_decide_eq_true q63_
               have q036 : (0 : Int) ≤ ((ji28) : Int) := of_decide_eq_true q63_
               have hcut36 := cut_mid (P := Tryz.prog) 25 5 .i64 .i64 Tryz.underlying25 hi036 1 hsz36 A0 l0.length c0 (ji28) (wrap64 (4 + (wrap64 ((rd t388 0) * (wrap64 (x7_1 + 1)))))) q036 ql36 q36 hroom36
               have hr36 := Kd.F_mid (lo := ((ji28) : Int).toNat) (hi := ((wrap64 (4 + (wrap64 ((rd t388 0) * (wrap64 (x7_1 + 1)))))) : Int).toNat) (c := c0) hC36 (by omega) (by omega) hroom36
               obtain ⟨A36, hA36⟩ : ∃ A1, A1 = (if c0 = ((ji28) : Int).toNat then A0 else (A0 : Option Addr).map (·.add (((ji28) : Int).toNat * 1))) := ⟨_, rfl⟩
               obtain ⟨c36, hc36⟩ : ∃ c1, c1 = c0 - ((ji28) : Int).toNat := ⟨_, rfl⟩
               have hy36 : y403.length = ((wrap64 (4 + (wrap64 ((rd t388 0) * (wrap64 (x7_1 + 1)))))) : Int).toNat - ((ji28) : Int).toNat := (by rw [Ny403.out, List.length_drop, List.length_take] <;> omega)
               rw [show ((l0).take ((wrap64 (4 + (wrap64 ((rd t388 0) * (wrap64 (x7_1 + 1)))))) : Int).toNat).drop ((ji28) : Int).toNat = y403 from Ny403.out.symm] at hr36
               replace hr36 : Kd.F (Kd.int .u8) _ _ A36 y403.length y403 := (by rw [hA36]; exact hr36)
               rw [← hy36, ← hA36, ← hc36] at hcut36
               have HO407 := Aside0.mk (show Kd.V (Kd.int .u8) 5 _ w.heap.size _ (.slice A36 y403.length c36) y403 from Kd.V_mk (by rw [hy36, hc36]; exact Nat.sub_le_sub_right (Nat.le_trans (by omega) hroom36) _) hr36)
               have HC407 := Aside0.mk (show y403.length ≤ c36 from by rw [hy36, hc36]; exact Nat.sub_le_sub_right (Nat.le_trans (by omega) hroom36) _)
               clear hr36 hC36 hroom36 hi036 hsz36 hc36
               have KY36 := Aside0.mk hy36
               have KA36 := Aside0.mk hA36
               clear hy36 hA36
               replace q36 := eq_true q36
               refine start_ (n := 16) (S := fun w' => w'.cell? ad392 = some (.int .i64 (rd t388 0)) ∧ w'.cell? ad392 = some (.int .i64 (rd t388 0))) (ds := []) #[false, false, false, false, false, false, false, false, false, false, false, false, false, false, false, false] (by kernel_rfl) rfl rfl ⟨hx401_0, hx402_0⟩ (fun hHeld => ?_); refine with_tabW pyxref22_Split.tab7 pyxref22_Split.bits7 (fun HT_ HW_ => ?_)
               generalize w34.drew = w35 at HO_0 HO_5 HO_399002 HO_399003 HO_399004 BK383 BK387 BK398 HB HO407 hx401_0 hx402_0 hHeld ⊢
               refine pu_ 0 (N := some 38) #[true, false, false, false, false, false, false, false, false, false, false, false, false, false, false, false] rfl rfl ?_
               refine pu_ 1 (N := some 39) #[true, true, false, false, false, false, false, false, false, false, false, false, false, false, false, false] rfl rfl ?_
               refine pu_ 2 (N := some 40) #[true, true, true, false, false, false, false, false, false, false, false, false, false, false, false, false] rfl rfl ?_
               refine pu_ 4 (N := some 42) #[true, true, true, false, true, false, false, false, false, false, false, false, false, false, false, false] rfl rfl ?_
               refine pu_ 7 (N := some 45) #[true, true, true, false, true, false, false, true, false, false, false, false, false, false, false, false] rfl rfl ?_
               refine pu_ 8 (N := some 46) #[true, true, true, false, true, false, false, true, true, false, false, false, false, false, false, false] rfl rfl ?_
               refine pu_ 10 (N := some 48) #[true, true, true, false, true, false, false, true, true, false, true, false, false, false, false, false] rfl rfl ?_
               refine pu_ 11 (N := some 49) #[true, true, true, false, true, false, false, true, true, false, true, true, false, false, false, false] rfl rfl ?_
               refine tk2_ 3 (N := some 41) #[true, true, true, true, true, false, false, true, true, false, true, true, false, false, false, false] rfl rfl hHeld ?_
               refine pu_ 5 (N := some 43) #[true, true, true, true, true, true, false, true, true, false, true, true, false, false, false, false] rfl rfl ?_
               refine pu_ 6 (N := some 44) #[true, true, true, true, true, true, true, true, true, false, true, true, false, false, false, false] rfl rfl ?_
               refine tk2_ 9 (N := some 47) #[true, true, true, true, true, true, true, true, true, true, true, true, false, false, false, false] rfl rfl hHeld ?_
               refine pu_ 12 (N := some 50) #[true, true, true, true, true, true, true, true, true, true, true, true, true, false, false, false] rfl rfl ?_
               refine pu_ 13 (N := some 51) #[true, true, true, true, true, true, true, true, true, true, true, true, true, true, false, false] rfl rfl ?_
               refine pu_ 14 (N := some 52) #[true, true, true, true, true, true, true, true, true, true, true, true, true, true, true, false] rfl rfl ?_
               refine pu_ 15 (N := some 8) #[true, true, true, true, true, true, true, true, true, true, true, true, true, true, true, true] rfl rfl ?_
               refine done_ (done_of HT_.out (by kernel_rfl)) ?_
               have p408 : 0 ≤ (2 : Int) := (by omega)
               have q408 : 2 < (t388.length : Int) := of_decide_eq_true q63_
               obtain ⟨ad408, e408, hx408_0⟩ := Kd.at_int (Kd.V_reads' HO_5.out).2.2 2 p408 q408
               obtain rfl : ad392 = ad408 := (by injection e408)
               (try simp only [show (2 : Int).toNat = 2 from rfl, Nat.reduceMul, Nat.reduceEqDiff, Go.Addr.add, ↓reduceIte] at hx408_0)
               have qi408 : (2 < t388.length) = True := eq_true (by omega)
               (try rw [show ((2 : Int)).toNat = 2 from rfl] at hx408_0)
               replace p408 := eq_true p408
               replace q408 := eq_true q408
               have hnb37 := NB398_383.out
               have hnc37 := NB383_398.out
               have hnb38 := NB398_387.out
               have hnc38 := NB387_398.out
               obtain ⟨hcz39_0, hcz39_1, hcz39_2, hcz39_3, hcz39_4⟩ := cells5_ BK398.out
               obtain ⟨hfz39_0, hfz39_1, hfz39_2, hfz39_3, hfz39_4⟩ := frz5_ BK398.out
               try go_wp2_with (first | ((with_reducible refine gate_builtin (b := .append) (xs := #[.tmp 59, .tmp 61]) rfl ?_); at_builtin; refine Kd.N_append (Kd.slice 5 (Kd.int .u8)) (w0 := w) w.heap.size rfl (.tmp 59) (.tmp 61) 52 25 (.slice none 0 0) 24 rfl Tryz.underlying52 info25 rfl (by decide) (by omega) u399003 x399003_1 y403 [.slice A36 y403.length c36] (fun k_ => (P0_ k_ ∨ w.heap.size ≤ k_) ∧ some k_ ≠ (u399004 : Value).ownBlock ∧ k_ ≠ gb383 ∧ k_ ≠ gb387 ∧ k_ ≠ gb398) (fun k_ => ((fun k_ => (P0_ k_ ∨ w.heap.size ≤ k_) ∧ some k_ ≠ (u399004 : Value).ownBlock ∧ k_ ≠ gb383 ∧ k_ ≠ gb387 ∧ k_ ≠ gb398)) k_ ∧ some k_ ≠ (u399003 : Value).ownBlock) rfl rfl ?aP (fun _ hk => hk) ?aF ?aO ?aB ?aS ?aL ?_; (case aP => exact (Kd.FK_slice_mk (Kd.V_reads' (Kd.V_mono (ok' := (fun k_ => ((fun k_ => (P0_ k_ ∨ w.heap.size ≤ k_) ∧ some k_ ≠ (u399004 : Value).ownBlock ∧ k_ ≠ gb383 ∧ k_ ≠ gb387 ∧ k_ ≠ gb398)) k_ ∧ some k_ ≠ (u399003 : Value).ownBlock)) (HO407.out) (fun k_ hk => ⟨⟨hk.1, ⟨hk.2.2.1, ⟨hk.2.2.2.1, ⟨hk.2.2.2.2.1, hk.2.2.2.2.2⟩⟩⟩⟩, hk.2.1⟩))).2.1 (Kd.V_F (Kd.V_mono (ok' := (fun k_ => ((fun k_ => (P0_ k_ ∨ w.heap.size ≤ k_) ∧ some k_ ≠ (u399004 : Value).ownBlock ∧ k_ ≠ gb383 ∧ k_ ≠ gb387 ∧ k_ ≠ gb398)) k_ ∧ some k_ ≠ (u399003 : Value).ownBlock)) (HO407.out) (fun k_ hk => ⟨⟨hk.1, ⟨hk.2.2.1, ⟨hk.2.2.2.1, ⟨hk.2.2.2.2.1, hk.2.2.2.2.2⟩⟩⟩⟩, hk.2.1⟩))))); (case aB => exact q10_); (case aF => exact (fun k_ hk => ⟨(.inr (Nat.le_trans (below_size q10_) hk)), Kd.fresh' (Kd.N_lt (by (with_reducible repeat (first | apply Kd.N_alloc | apply Kd.N_drewN | apply Kd.N_drew)); exact HO_399004.out)) k_ hk, Kd.freshB (g := gb383) (o := .cells #[.int .i64 0, .int .u32 0, .slice none 0 0, .slice none 0 0, .slice none 0 0] 57 (0, 0)) q37_ k_ hk, Kd.freshB (g := gb387) (o := .cells #[.int .i64 t385, .int .i64 t386] 34 (0, 0)) q38_ k_ hk, Kd.freshB (g := gb398) (o := .cells #[.int .i64 t384, .int .u32 ((t391) % 4294967296), .slice A16 y393.length c16, u399003, u399004] 57 (0, 0)) q39_ k_ hk⟩)); (case aO => exact (by (with_reducible repeat (first | apply Kd.N_alloc | apply Kd.N_drewN | apply Kd.N_drew)); exact HO_399003.out)); (case aS => exact (below_size q10_)); (case aL => have := LMc33.out; omega); intro v410 w40 ho hb hg hat; rw [← Ny409.out] at ho; have n0_ := Aside0.mk (Kd.V_afterv (ok := (fun k_ => (P0_ k_ ∨ w.heap.size ≤ k_) ∧ some k_ ≠ (u399004 : Value).ownBlock ∧ k_ ≠ gb383 ∧ k_ ≠ gb387 ∧ k_ ≠ gb398)) (by (with_reducible repeat (first | apply Kd.V_alloc | apply Kd.V_drewN | apply Kd.V_drew)); exact Kd.V_mono HO_0.out (fun _ hk => ⟨⟨hk.1, ⟨hk.2.2.1, ⟨hk.2.2.2.1, ⟨hk.2.2.2.2.1, hk.2.2.2.2.2⟩⟩⟩⟩, hk.2.1⟩)) hg hat); have n1_ := Aside0.mk (Kd.V_afterv (ok := (fun k_ => (P0_ k_ ∨ w.heap.size ≤ k_) ∧ some k_ ≠ (u399004 : Value).ownBlock ∧ k_ ≠ gb383 ∧ k_ ≠ gb387 ∧ k_ ≠ gb398)) (by (with_reducible repeat (first | apply Kd.V_alloc | apply Kd.V_drewN | apply Kd.V_drew)); exact Kd.V_mono HO_5.out (fun _ hk => ⟨⟨hk.1, ⟨hk.2.2.1, ⟨hk.2.2.2.1, ⟨hk.2.2.2.2.1, hk.2.2.2.2.2⟩⟩⟩⟩, hk.2.1⟩)) hg hat); have n2_ := Aside0.mk (Kd.V_afterv (ok := (fun k_ => (P0_ k_ ∨ w.heap.size ≤ k_) ∧ some k_ ≠ (u399004 : Value).ownBlock ∧ k_ ≠ gb383 ∧ k_ ≠ gb387 ∧ k_ ≠ gb398)) (by (with_reducible repeat (first | apply Kd.V_alloc | apply Kd.V_drewN | apply Kd.V_drew)); exact Kd.V_mono HO_399002.out (fun _ hk => ⟨⟨hk.1, ⟨hk.2.2.1, ⟨hk.2.2.2.1, ⟨hk.2.2.2.2.1, hk.2.2.2.2.2⟩⟩⟩⟩, hk.2.1⟩)) hg hat); have n3_ := Aside0.mk (Kd.N_afterv (ok := (fun k_ => (P0_ k_ ∨ w.heap.size ≤ k_) ∧ k_ ≠ gb383 ∧ k_ ≠ gb387 ∧ k_ ≠ gb398)) (by (with_reducible repeat (first | apply Kd.N_alloc | apply Kd.N_drewN | apply Kd.N_drew)); exact Kd.N_mono HO_399004.out (fun _ hk => ⟨⟨hk.1, ⟨hk.2.2.1, ⟨hk.2.2.2.1, hk.2.2.2.2⟩⟩⟩, hk.2.1⟩)) hg hat); have n4_ := Aside0.mk (blk_grown (g := gb383) (o := .cells #[.int .i64 0, .int .u32 0, .slice none 0 0, .slice none 0 0, .slice none 0 0] 57 (0, 0)) q37_ hg (Kd.N_ne HO_399003.out BK383.out (by decide))); have n5_ := Aside0.mk (blk_grown (g := gb387) (o := .cells #[.int .i64 t385, .int .i64 t386] 34 (0, 0)) q38_ hg (Kd.N_ne HO_399003.out BK387.out (by decide))); have n6_ := Aside0.mk (blk_grown (g := gb398) (o := .cells #[.int .i64 t384, .int .u32 ((t391) % 4294967296), .slice A16 y393.length c16, u399003, u399004] 57 (0, 0)) q39_ hg (Kd.N_ne HO_399003.out BK398.out (by decide))); have n7_ := Aside0.mk (Kd.V_afterv (ok := (fun k_ => (P0_ k_ ∨ w.heap.size ≤ k_) ∧ some k_ ≠ (u399004 : Value).ownBlock ∧ k_ ≠ gb383 ∧ k_ ≠ gb387 ∧ k_ ≠ gb398)) (by (with_reducible repeat (first | apply Kd.V_alloc | apply Kd.V_drewN | apply Kd.V_drew)); exact Kd.V_mono HO407.out (fun _ hk => ⟨⟨hk.1, ⟨hk.2.2.1, ⟨hk.2.2.2.1, ⟨hk.2.2.2.2.1, hk.2.2.2.2.2⟩⟩⟩⟩, hk.2.1⟩)) hg hat); have n8_ := Aside0.mk (hb); have n9_ := Aside0.mk (ho); clear HO_0; clear HO_5; clear HO_399002; clear HO_399004; clear BK383; clear BK387; clear BK398; clear HO407; clear HB; clear HO_399003; have HO_0 := n0_; have HO_5 := n1_; have HO_399002 := n2_; have HO_399004 := n3_; have BK383 := n4_; have BK387 := n5_; have BK398 := n6_; have HO407 := n7_; have HB := n8_; have HO411 := n9_; clear n0_ n1_ n2_ n3_ n4_ n5_ n6_ n7_ n8_ n9_; clear ho hb hg hat; obtain ⟨Ao41, co41, eo41⟩ := Kd.N_slice HO411.out; subst eo41; obtain ⟨hcz42_0, hcz42_1, hcz42_2, hcz42_3, hcz42_4⟩ := cells5_ BK398.out; obtain ⟨hfz42_0, hfz42_1, hfz42_2, hfz42_3, hfz42_4⟩ := frz5_ BK398.out))
               go_roundg k1
               case measure => have := HK1.out; omega
               case rel => exact ⟨(wrap64 (x7_1 + 1)), (y409), (x399004_1), (.slice Ao41 y409.length co41), (u399004), q64_, H', ⟨by have := HK1.out; omega⟩, ⟨by (with_reducible repeat (first | apply Kd.V_alloc | apply Kd.V_drewN | apply Kd.V_drew)); exact Kd.V_mono (Kd.V_far (p := ⟨gb398, 3, none⟩) (Kd.V_mono HO_0.out (fun k_ hk => (⟨hk, hk.1.2.2.2.2⟩ : _ ∧ k_ ≠ gb398))) (fun _ hk => hk.2) (.slice Ao41 y409.length co41)) (fun _ hk => ⟨hk.1.1.1, ⟨hk.1.2, ⟨hk.1.1.2.1, ⟨hk.1.1.2.2.1, ⟨hk.1.1.2.2.2.1, hk.1.1.2.2.2.2⟩⟩⟩⟩⟩)⟩, ⟨by (with_reducible repeat (first | apply Kd.V_alloc | apply Kd.V_drewN | apply Kd.V_drew)); exact Kd.V_mono (Kd.V_far (p := ⟨gb398, 3, none⟩) (Kd.V_mono HO_5.out (fun k_ hk => (⟨hk, hk.1.2.2.2.2⟩ : _ ∧ k_ ≠ gb398))) (fun _ hk => hk.2) (.slice Ao41 y409.length co41)) (fun _ hk => ⟨hk.1.1.1, ⟨hk.1.2, ⟨hk.1.1.2.1, ⟨hk.1.1.2.2.1, ⟨hk.1.1.2.2.2.1, hk.1.1.2.2.2.2⟩⟩⟩⟩⟩)⟩, ⟨by (with_reducible repeat (first | apply Kd.V_alloc | apply Kd.V_drewN | apply Kd.V_drew)); exact Kd.V_mono (Kd.V_far (p := ⟨gb398, 3, none⟩) (Kd.V_mono HO_399002.out (fun k_ hk => (⟨hk, hk.1.2.2.2.2⟩ : _ ∧ k_ ≠ gb398))) (fun _ hk => hk.2) (.slice Ao41 y409.length co41)) (fun _ hk => ⟨hk.1.1.1, ⟨hk.1.2, ⟨hk.1.1.2.1, ⟨hk.1.1.2.2.1, ⟨hk.1.1.2.2.2.1, hk.1.1.2.2.2.2⟩⟩⟩⟩⟩)⟩, ⟨by (with_reducible repeat (first | apply Kd.N_alloc | apply Kd.N_drewN | apply Kd.N_drew)); exact Kd.N_mono (Kd.N_far (p := ⟨gb398, 3, none⟩) (Kd.N_mono HO411.out (fun k_ hk => (⟨hk, hk.2.2.2.2⟩ : _ ∧ k_ ≠ gb398))) (fun _ hk => hk.2) (.slice Ao41 y409.length co41)) (fun _ hk => ⟨hk.1.1, ⟨hk.1.2.1, ⟨hk.1.2.2.1, ⟨hk.1.2.2.2.1, hk.1.2.2.2.2⟩⟩⟩⟩)⟩, ⟨by (with_reducible repeat (first | apply Kd.N_alloc | apply Kd.N_drewN | apply Kd.N_drew)); exact Kd.N_mono (Kd.N_far (p := ⟨gb398, 3, none⟩) (Kd.N_mono HO_399004.out (fun k_ hk => (⟨hk, hk.1.2.2.2⟩ : _ ∧ k_ ≠ gb398))) (fun _ hk => hk.2) (.slice Ao41 y409.length co41)) (fun _ hk => ⟨hk.1.1.1, ⟨hk.1.2, ⟨hk.1.1.2.1, ⟨hk.1.1.2.2.1, hk.1.1.2.2.2⟩⟩⟩⟩)⟩, ⟨by (with_reducible repeat (first | refine blk_drewN ?_ _ | refine blk_drew ?_ | refine blk_alloc ?_ _)); refine blk_far ?_ NB383_398.out _; (with_reducible repeat (first | refine blk_drewN ?_ _ | refine blk_drew ?_ | refine blk_alloc ?_ _)); exact BK383.out⟩, ⟨by (with_reducible repeat (first | refine blk_drewN ?_ _ | refine blk_drew ?_ | refine blk_alloc ?_ _)); refine blk_far ?_ NB387_398.out _; (with_reducible repeat (first | refine blk_drewN ?_ _ | refine blk_drew ?_ | refine blk_alloc ?_ _)); exact BK387.out⟩, ⟨by (with_reducible repeat (first | refine blk_drewN ?_ _ | refine blk_drew ?_ | refine blk_alloc ?_ _)); refine blk_put (cs := #[.int .i64 t384, .int .u32 ((t391) % 4294967296), .slice A16 y393.length c16, u399003, u399004]) ?_ 3 _ rfl; (with_reducible repeat (first | refine blk_drewN ?_ _ | refine blk_drew ?_ | refine blk_alloc ?_ _)); exact BK398.out⟩, ⟨by repeat (first | (with_reducible first | exact HB.out | apply below_alloc | apply pw_below_drewN | apply below_drew1 | refine below_set ?_ GE383.out | refine below_set ?_ GE387.out | refine below_set ?_ GE398.out) | exact HB.out)⟩⟩
              ·rw [if_neg c33] at H
               exact absurd H (by simp)
             ·rw [if_neg c32] at H
              have c32b0 : decide (x7_1 ≤ (rd t388 2)) = false := decide_eq_false c32
              clear c32
              by_cases c43 : x399004_1.length < 5864062014805
              ·rw [if_pos c43] at H
               have LMc43 := Aside0.mk c43
               clear c43
               obtain ⟨y412, hy412⟩ : ∃ y_ : List (List Int), y_ = (x399004_1 ++ [y403]) := ⟨_, rfl⟩
               replace H : (pyxref22_Split.l0 k1 l0 t388 (wrap64 (x7_1 + 1)) t384 ((t391) % 4294967296) y393 x399003_1 y412) = some (r1, r2, r3, r4, r5) := by first | (rw [hy412]; with_reducible exact H) | (have H2_ := (Option.bind_some _ _).symm.trans H; rw [hy412]; with_reducible exact H2_) | (have H2_ := (Option.bind_some _ _).symm.trans H; with_reducible exact H2_) | with_reducible exact H | (rw [hy412]; exact H) | exact H
               have Ny412 := Aside0.mk hy412
               clear hy412
               have H' := Aside0.mk H
               clear H
               try go_wp2
               have n0_ := Aside0.mk (Kd.V_drew HO_0.out)
               have n1_ := Aside0.mk (Kd.V_drew HO_5.out)
               have n2_ := Aside0.mk (Kd.V_drew HO_399002.out)
               have n3_ := Aside0.mk (Kd.N_drew HO_399003.out)
               have n4_ := Aside0.mk (Kd.N_drew HO_399004.out)
               have n5_ := Aside0.mk (blk_drew BK383.out)
               have n6_ := Aside0.mk (blk_drew BK387.out)
               have n7_ := Aside0.mk (blk_drew BK398.out)
               have n8_ := Aside0.mk (below_drew1 HB.out)
               clear HO_0
               clear HO_5
               clear HO_399002
               clear HO_399003
               clear HO_399004
               clear BK383
               clear BK387
               clear BK398
               clear HB
               have HO_0 := n0_
               have HO_5 := n1_
               have HO_399002 := n2_
               have HO_399003 := n3_
               have HO_399004 := n4_
               have BK383 := n5_
               have BK387 := n6_
               have BK398 := n7_
               have HB := n8_
               clear n0_ n1_ n2_ n3_ n4_ n5_ n6_ n7_ n8_
               have p399 : 0 ≤ (1 : Int) := (by omega)
               have q399 : 1 < (t388.length : Int) := of_decide_eq_true q63_
               obtain ⟨ad399, e399, hx399_0⟩ := Kd.at_int (Kd.V_reads' HO_5.out).2.2 1 p399 q399
               obtain rfl : ad392 = ad399 := (by injection e399)
               (try simp only [show (1 : Int).toNat = 1 from rfl, Nat.reduceMul, Nat.reduceEqDiff, Go.Addr.add, ↓reduceIte] at hx399_0)
               have qi399 : (1 < t388.length) = True := eq_true (by omega)
               (try rw [show ((1 : Int)).toNat = 1 from rfl] at hx399_0)
               replace p399 := eq_true p399
               replace q399 := eq_true q399
               have p400 : 0 ≤ (2 : Int) := (by omega)
               have q400 : 2 < (t388.length : Int) := of_decide_eq_true q63_
               obtain ⟨ad400, e400, hx400_0⟩ := Kd.at_int (Kd.V_reads' HO_5.out).2.2 2 p400 q400
               obtain rfl : ad392 = ad400 := (by injection e400)
               (try simp only [show (2 : Int).toNat = 2 from rfl, Nat.reduceMul, Nat.reduceEqDiff, Go.Addr.add, ↓reduceIte] at hx400_0)
               have qi400 : (2 < t388.length) = True := eq_true (by omega)
               (try rw [show ((2 : Int)).toNat = 2 from rfl] at hx400_0)
               replace p400 := eq_true p400
               replace q400 := eq_true q400
               refine start_ (n := 9) (S := fun w' => w'.cell? ⟨ad392.block, ad392.off + 1, none⟩ = some (.int .i64 (rd t388 1)) ∧ w'.cell? ⟨ad392.block, ad392.off + 2, none⟩ = some (.int .i64 (rd t388 2))) (ds := []) #[false, false, false, false, false, false, false, false, false] (by kernel_rfl) rfl rfl ⟨hx399_0, hx400_0⟩ (fun hHeld => ?_); refine with_tabW pyxref22_Split.tab5 pyxref22_Split.bits5 (fun HT_ HW_ => ?_)
               generalize wr.drew = w44 at HO_0 HO_5 HO_399002 HO_399003 HO_399004 BK383 BK387 BK398 HB hx399_0 hx400_0 hHeld ⊢
               refine pu_ 0 (N := some 27) #[true, false, false, false, false, false, false, false, false] rfl rfl ?_
               refine pu_ 1 (N := some 28) #[true, true, false, false, false, false, false, false, false] rfl rfl ?_
               refine pu_ 2 (N := some 29) #[true, true, true, false, false, false, false, false, false] rfl rfl ?_
               refine pu_ 4 (N := some 31) #[true, true, true, false, true, false, false, false, false] rfl rfl ?_
               refine pu_ 5 (N := some 32) #[true, true, true, false, true, true, false, false, false] rfl rfl ?_
               refine tk2_ 3 (N := some 30) #[true, true, true, true, true, true, false, false, false] rfl rfl hHeld ?_
               refine tk2_ 6 (N := some 33) #[true, true, true, true, true, true, true, false, false] rfl rfl hHeld ?_
               refine pu_ 7 (N := some 34) #[true, true, true, true, true, true, true, true, false] rfl rfl ?_
               refine pu_ 8 (N := some 35) #[true, true, true, true, true, true, true, true, true] rfl rfl ?_
               refine done_ (done_of HT_.out (by kernel_rfl)) ?_
               try go_wp2
               have n0_ := Aside0.mk (Kd.V_drew HO_0.out)
               have n1_ := Aside0.mk (Kd.V_drew HO_5.out)
               have n2_ := Aside0.mk (Kd.V_drew HO_399002.out)
               have n3_ := Aside0.mk (Kd.N_drew HO_399003.out)
               have n4_ := Aside0.mk (Kd.N_drew HO_399004.out)
               have n5_ := Aside0.mk (blk_drew BK383.out)
               have n6_ := Aside0.mk (blk_drew BK387.out)
               have n7_ := Aside0.mk (blk_drew BK398.out)
               have n8_ := Aside0.mk (below_drew1 HB.out)
               clear HO_0
               clear HO_5
               clear HO_399002
               clear HO_399003
               clear HO_399004
               clear BK383
               clear BK387
               clear BK398
               clear HB
               have HO_0 := n0_
               have HO_5 := n1_
               have HO_399002 := n2_
               have HO_399003 := n3_
               have HO_399004 := n4_
               have BK383 := n5_
               have BK387 := n6_
               have BK398 := n7_
               have HB := n8_
               clear n0_ n1_ n2_ n3_ n4_ n5_ n6_ n7_ n8_
               have p401 : 0 ≤ (0 : Int) := (by omega)
               have q401 : 0 < (t388.length : Int) := of_decide_eq_true q63_
               obtain ⟨ad401, e401, hx401_0⟩ := Kd.at_int (Kd.V_reads' HO_5.out).2.2 0 p401 q401
               obtain rfl : ad392 = ad401 := (by injection e401)
               have qi401 : (0 < t388.length) = True := eq_true (by omega)
               (try rw [show ((0 : Int)).toNat = 0 from rfl] at hx401_0)
               (try rw [Addr.add_zero'] at hx401_0)
               replace p401 := eq_true p401
               replace q401 := eq_true q401
               have p402 : 0 ≤ (0 : Int) := (by omega)
               have q402 : 0 < (t388.length : Int) := of_decide_eq_true q63_
               obtain ⟨ad402, e402, hx402_0⟩ := Kd.at_int (Kd.V_reads' HO_5.out).2.2 0 p402 q402
               obtain rfl : ad392 = ad402 := (by injection e402)
               have qi402 : (0 < t388.length) = True := eq_true (by omega)
               (try rw [show ((0 : Int)).toNat = 0 from rfl] at hx402_0)
               (try rw [Addr.add_zero'] at hx402_0)
               replace p402 := eq_true p402
               replace q402 := eq_true q402
               have q46 : ((wrap64 (4 + (wrap64 ((rd t388 0) * (wrap64 (x7_1 + 1)))))) : Int) ≤ ((l0.length : Int) : Int) := of_decide_eq_true q63_
               obtain ⟨i046, hi046, _, hsz46, _⟩ := info_parts info5
               have hroom46 : l0.length ≤ c0 := (Kd.V_reads' HO_0.out).2.1
               have hC46 : Kd.F (Kd.int .u8) _ _ A0 l0.length l0 := (Kd.V_at (base := w.heap.size) HO_0.out).2.2
               have ql46 : ((ji28) : Int) ≤ ((wrap64 (4 + (wrap64 ((rd t388 0) * (wrap64 (x7_1 + 1)))))) : Int) := of_decide_eq_true q63_
               have q046 : (0 : Int) ≤ ((ji28) : Int) := of_decide_eq_true q63_
               have hcut46 := cut_mid (P := Tryz.prog) 25 5 .i64 .i64 Tryz.underlying25 hi046 1 hsz46 A0 l0.length c0 (ji28) (wrap64 (4 + (wrap64 ((rd t388 0) * (wrap64 (x7_1 + 1)))))) q046 ql46 q46 hroom46
               have hr46 := Kd.F_mid (lo := ((ji28) : Int).toNat) (hi := ((wrap64 (4 + (wrap64 ((rd t388 0) * (wrap64 (x7_1 + 1)))))) : Int).toNat) (c := c0) hC46 (by omega) (by omega) hroom46
               obtain ⟨A46, hA46⟩ : ∃ A1, A1 = (if c0 = ((ji28) : Int).toNat then A0 else (A0 : Option Addr).map (·.add (((ji28) : Int).toNat * 1))) := ⟨_, rfl⟩
               obtain ⟨c46, hc46⟩ : ∃ c1, c1 = c0 - ((ji28) : Int).toNat := ⟨_, rfl⟩
               have hy46 : y403.length = ((wrap64 (4 + (wrap64 ((rd t388 0) * (wrap64 (x7_1 + 1)))))) : Int).toNat - ((ji28) : Int).toNat := (by rw [Ny403.out, List.length_drop, List.length_take] <;> omega)
               rw [show ((l0).take ((wrap64 (4 + (wrap64 ((rd t388 0) * (wrap64 (x7_1 + 1)))))) : Int).toNat).drop ((ji28) : Int).toNat = y403 from Ny403.out.symm] at hr46
               replace hr46 : Kd.F (Kd.int .u8) _ _ A46 y403.length y403 := (by rw [hA46]; exact hr46)
               rw [← hy46, ← hA46, ← hc46] at hcut46
               have HO407 := Aside0.mk (show Kd.V (Kd.int .u8) 5 _ w.heap.size _ (.slice A46 y403.length c46) y403 from Kd.V_mk (by rw [hy46, hc46]; exact Nat.sub_le_sub_right (Nat.le_trans (by omega) hroom46) _) hr46)
               have HC407 := Aside0.mk (show y403.length ≤ c46 from by rw [hy46, hc46]; exact Nat.sub_le_sub_right (Nat.le_trans (by omega) hroom46) _)
               clear hr46 hC46 hroom46 hi046 hsz46 hc46
               have KY46 := Aside0.mk hy46
               have KA46 := Aside0.mk hA46
               clear hy46 hA46
               replace q46 := eq_true q46
               refine start_ (n := 16) (S := fun w' => w'.cell? ad392 = some (.int .i64 (rd t388 0)) ∧ w'.cell? ad392 = some (.int .i64 (rd t388 0))) (ds := []) #[false, false, false, false, false, false, false, false, false, false, false, false, false, false, false, false] (by kernel_rfl) rfl rfl ⟨hx401_0, hx402_0⟩ (fun hHeld => ?_); refine with_tabW pyxref22_Split.tab7 pyxref22_Split.bits7 (fun HT_ HW_ => ?_)
               generalize w44.drew = w45 at HO_0 HO_5 HO_399002 HO_399003 HO_399004 BK383 BK387 BK398 HB HO407 hx401_0 hx402_0 hHeld ⊢
               refine pu_ 0 (N := some 38) #[true, false, false, false, false, false, false, false, false, false, false, false, false, false, false, false] rfl rfl ?_
               refine pu_ 1 (N := some 39) #[true, true, false, false, false, false, false, false, false, false, false, false, false, false, false, false] rfl rfl ?_
               refine pu_ 2 (N := some 40) #[true, true, true, false, false, false, false, false, false, false, false, false, false, false, false, false] rfl rfl ?_
               refine pu_ 4 (N := some 42) #[true, true, true, false, true, false, false, false, false, false, false, false, false, false, false, false] rfl rfl ?_
               refine pu_ 7 (N := some 45) #[true, true, true, false, true, false, false, true, false, false, false, false, false, false, false, false] rfl rfl ?_
               refine pu_ 8 (N := some 46) #[true, true, true, false, true, false, false, true, true, false, false, false, false, false, false, false] rfl rfl ?_
               refine pu_ 10 (N := some 48) #[true, true, true, false, true, false, false, true, true, false, true, false, false, false, false, false] rfl rfl ?_
               refine pu_ 11 (N := some 49) #[true, true, true, false, true, false, false, true, true, false, true, true, false, false, false, false] rfl rfl ?_
               refine tk2_ 3 (N := some 41) #[true, true, true, true, true, false, false, true, true, false, true, true, false, false, false, false] rfl rfl hHeld ?_
               refine pu_ 5 (N := some 43) #[true, true, true, true, true, true, false, true, true, false, true, true, false, false, false, false] rfl rfl ?_
               refine pu_ 6 (N := some 44) #[true, true, true, true, true, true, true, true, true, false, true, true, false, false, false, false] rfl rfl ?_
               refine tk2_ 9 (N := some 47) #[true, true, true, true, true, true, true, true, true, true, true, true, false, false, false, false] rfl rfl hHeld ?_
               refine pu_ 12 (N := some 50) #[true, true, true, true, true, true, true, true, true, true, true, true, true, false, false, false] rfl rfl ?_
               refine pu_ 13 (N := some 51) #[true, true, true, true, true, true, true, true, true, true, true, true, true, true, false, false] rfl rfl ?_
               refine pu_ 14 (N := some 52) #[true, true, true, true, true, true, true, true, true, true, true, true, true, true, true, false] rfl rfl ?_
               refine pu_ 15 (N := some 8) #[true, true, true, true, true, true, true, true, true, true, true, true, true, true, true, true] rfl rfl ?_
               refine done_ (done_of HT_.out (by kernel_rfl)) ?_
               have p408 : 0 ≤ (2 : Int) := (by omega)
               have q408 : 2 < (t388.length : Int) := of_decide_eq_true q63_
               obtain ⟨ad408, e408, hx408_0⟩ := Kd.at_int (Kd.V_reads' HO_5.out).2.2 2 p408 q408
               obtain rfl : ad392 = ad408 := (by injection e408)
               (try simp only [show (2 : Int).toNat = 2 from rfl, Nat.reduceMul, Nat.reduceEqDiff, Go.Addr.add, ↓reduceIte] at hx408_0)
               have qi408 : (2 < t388.length) = True := eq_true (by omega)
               (try rw [show ((2 : Int)).toNat = 2 from rfl] at hx408_0)
               replace p408 := eq_true p408
               replace q408 := eq_true q408
               have hnb47 := NB398_383.out
               have hnc47 := NB383_398.out
               have hnb48 := NB398_387.out
               have hnc48 := NB387_398.out
               obtain ⟨hcz49_0, hcz49_1, hcz49_2, hcz49_3, hcz49_4⟩ := cells5_ BK398.out
               obtain ⟨hfz49_0, hfz49_1, hfz49_2, hfz49_3, hfz49_4⟩ := frz5_ BK398.out
               try go_wp2_with (first | ((with_reducible refine gate_builtin (b := .append) (xs := #[.tmp 65, .tmp 67]) rfl ?_); at_builtin; refine Kd.N_append (Kd.slice 5 (Kd.int .u8)) (w0 := w) w.heap.size rfl (.tmp 65) (.tmp 67) 52 25 (.slice none 0 0) 24 rfl Tryz.underlying52 info25 rfl (by decide) (by omega) u399004 x399004_1 y403 [.slice A46 y403.length c46] (fun k_ => (P0_ k_ ∨ w.heap.size ≤ k_) ∧ some k_ ≠ (u399003 : Value).ownBlock ∧ k_ ≠ gb383 ∧ k_ ≠ gb387 ∧ k_ ≠ gb398) (fun k_ => ((fun k_ => (P0_ k_ ∨ w.heap.size ≤ k_) ∧ some k_ ≠ (u399003 : Value).ownBlock ∧ k_ ≠ gb383 ∧ k_ ≠ gb387 ∧ k_ ≠ gb398)) k_ ∧ some k_ ≠ (u399004 : Value).ownBlock) rfl rfl ?aP (fun _ hk => hk) ?aF ?aO ?aB ?aS ?aL ?_; (case aP => exact (Kd.FK_slice_mk (Kd.V_reads' (Kd.V_mono (ok' := (fun k_ => ((fun k_ => (P0_ k_ ∨ w.heap.size ≤ k_) ∧ some k_ ≠ (u399003 : Value).ownBlock ∧ k_ ≠ gb383 ∧ k_ ≠ gb387 ∧ k_ ≠ gb398)) k_ ∧ some k_ ≠ (u399004 : Value).ownBlock)) (HO407.out) (fun k_ hk => ⟨⟨hk.1, ⟨hk.2.1, ⟨hk.2.2.2.1, ⟨hk.2.2.2.2.1, hk.2.2.2.2.2⟩⟩⟩⟩, hk.2.2.1⟩))).2.1 (Kd.V_F (Kd.V_mono (ok' := (fun k_ => ((fun k_ => (P0_ k_ ∨ w.heap.size ≤ k_) ∧ some k_ ≠ (u399003 : Value).ownBlock ∧ k_ ≠ gb383 ∧ k_ ≠ gb387 ∧ k_ ≠ gb398)) k_ ∧ some k_ ≠ (u399004 : Value).ownBlock)) (HO407.out) (fun k_ hk => ⟨⟨hk.1, ⟨hk.2.1, ⟨hk.2.2.2.1, ⟨hk.2.2.2.2.1, hk.2.2.2.2.2⟩⟩⟩⟩, hk.2.2.1⟩))))); (case aB => exact q10_); (case aF => exact (fun k_ hk => ⟨(.inr (Nat.le_trans (below_size q10_) hk)), Kd.fresh' (Kd.N_lt (by (with_reducible repeat (first | apply Kd.N_alloc | apply Kd.N_drewN | apply Kd.N_drew)); exact HO_399003.out)) k_ hk, Kd.freshB (g := gb383) (o := .cells #[.int .i64 0, .int .u32 0, .slice none 0 0, .slice none 0 0, .slice none 0 0] 57 (0, 0)) q37_ k_ hk, Kd.freshB (g := gb387) (o := .cells #[.int .i64 t385, .int .i64 t386] 34 (0, 0)) q38_ k_ hk, Kd.freshB (g := gb398) (o := .cells #[.int .i64 t384, .int .u32 ((t391) % 4294967296), .slice A16 y393.length c16, u399003, u399004] 57 (0, 0)) q39_ k_ hk⟩)); (case aO => exact (by (with_reducible repeat (first | apply Kd.N_alloc | apply Kd.N_drewN | apply Kd.N_drew)); exact HO_399004.out)); (case aS => exact (below_size q10_)); (case aL => have := LMc43.out; omega); intro v413 w50 ho hb hg hat; rw [← Ny412.out] at ho; have n0_ := Aside0.mk (Kd.V_afterv (ok := (fun k_ => (P0_ k_ ∨ w.heap.size ≤ k_) ∧ some k_ ≠ (u399003 : Value).ownBlock ∧ k_ ≠ gb383 ∧ k_ ≠ gb387 ∧ k_ ≠ gb398)) (by (with_reducible repeat (first | apply Kd.V_alloc | apply Kd.V_drewN | apply Kd.V_drew)); exact Kd.V_mono HO_0.out (fun _ hk => ⟨⟨hk.1, ⟨hk.2.1, ⟨hk.2.2.2.1, ⟨hk.2.2.2.2.1, hk.2.2.2.2.2⟩⟩⟩⟩, hk.2.2.1⟩)) hg hat); have n1_ := Aside0.mk (Kd.V_afterv (ok := (fun k_ => (P0_ k_ ∨ w.heap.size ≤ k_) ∧ some k_ ≠ (u399003 : Value).ownBlock ∧ k_ ≠ gb383 ∧ k_ ≠ gb387 ∧ k_ ≠ gb398)) (by (with_reducible repeat (first | apply Kd.V_alloc | apply Kd.V_drewN | apply Kd.V_drew)); exact Kd.V_mono HO_5.out (fun _ hk => ⟨⟨hk.1, ⟨hk.2.1, ⟨hk.2.2.2.1, ⟨hk.2.2.2.2.1, hk.2.2.2.2.2⟩⟩⟩⟩, hk.2.2.1⟩)) hg hat); have n2_ := Aside0.mk (Kd.V_afterv (ok := (fun k_ => (P0_ k_ ∨ w.heap.size ≤ k_) ∧ some k_ ≠ (u399003 : Value).ownBlock ∧ k_ ≠ gb383 ∧ k_ ≠ gb387 ∧ k_ ≠ gb398)) (by (with_reducible repeat (first | apply Kd.V_alloc | apply Kd.V_drewN | apply Kd.V_drew)); exact Kd.V_mono HO_399002.out (fun _ hk => ⟨⟨hk.1, ⟨hk.2.1, ⟨hk.2.2.2.1, ⟨hk.2.2.2.2.1, hk.2.2.2.2.2⟩⟩⟩⟩, hk.2.2.1⟩)) hg hat); have n3_ := Aside0.mk (Kd.N_afterv (ok := (fun k_ => (P0_ k_ ∨ w.heap.size ≤ k_) ∧ k_ ≠ gb383 ∧ k_ ≠ gb387 ∧ k_ ≠ gb398)) (by (with_reducible repeat (first | apply Kd.N_alloc | apply Kd.N_drewN | apply Kd.N_drew)); exact Kd.N_mono HO_399003.out (fun _ hk => ⟨⟨hk.1, ⟨hk.2.2.1, ⟨hk.2.2.2.1, hk.2.2.2.2⟩⟩⟩, hk.2.1⟩)) hg hat); have n4_ := Aside0.mk (blk_grown (g := gb383) (o := .cells #[.int .i64 0, .int .u32 0, .slice none 0 0, .slice none 0 0, .slice none 0 0] 57 (0, 0)) q37_ hg (Kd.N_ne HO_399004.out BK383.out (by decide))); have n5_ := Aside0.mk (blk_grown (g := gb387) (o := .cells #[.int .i64 t385, .int .i64 t386] 34 (0, 0)) q38_ hg (Kd.N_ne HO_399004.out BK387.out (by decide))); have n6_ := Aside0.mk (blk_grown (g := gb398) (o := .cells #[.int .i64 t384, .int .u32 ((t391) % 4294967296), .slice A16 y393.length c16, u399003, u399004] 57 (0, 0)) q39_ hg (Kd.N_ne HO_399004.out BK398.out (by decide))); have n7_ := Aside0.mk (Kd.V_afterv (ok := (fun k_ => (P0_ k_ ∨ w.heap.size ≤ k_) ∧ some k_ ≠ (u399003 : Value).ownBlock ∧ k_ ≠ gb383 ∧ k_ ≠ gb387 ∧ k_ ≠ gb398)) (by (with_reducible repeat (first | apply Kd.V_alloc | apply Kd.V_drewN | apply Kd.V_drew)); exact Kd.V_mono HO407.out (fun _ hk => ⟨⟨hk.1, ⟨hk.2.1, ⟨hk.2.2.2.1, ⟨hk.2.2.2.2.1, hk.2.2.2.2.2⟩⟩⟩⟩, hk.2.2.1⟩)) hg hat); have n8_ := Aside0.mk (hb); have n9_ := Aside0.mk (ho); clear HO_0; clear HO_5; clear HO_399002; clear HO_399003; clear BK383; clear BK387; clear BK398; clear HO407; clear HB; clear HO_399004; have HO_0 := n0_; have HO_5 := n1_; have HO_399002 := n2_; have HO_399003 := n3_; have BK383 := n4_; have BK387 := n5_; have BK398 := n6_; have HO407 := n7_; have HB := n8_; have HO414 := n9_; clear n0_ n1_ n2_ n3_ n4_ n5_ n6_ n7_ n8_ n9_; clear ho hb hg hat; obtain ⟨Ao51, co51, eo51⟩ := Kd.N_slice HO414.out; subst eo51; obtain ⟨hcz52_0, hcz52_1, hcz52_2, hcz52_3, hcz52_4⟩ := cells5_ BK398.out; obtain ⟨hfz52_0, hfz52_1, hfz52_2, hfz52_3, hfz52_4⟩ := frz5_ BK398.out))
               go_roundg k1
               case measure => have := HK1.out; omega
               case rel => exact ⟨(wrap64 (x7_1 + 1)), (x399003_1), (y412), (u399003), (.slice Ao51 y412.length co51), q64_, H', ⟨by have := HK1.out; omega⟩, ⟨by (with_reducible repeat (first | apply Kd.V_alloc | apply Kd.V_drewN | apply Kd.V_drew)); exact Kd.V_mono (Kd.V_far (p := ⟨gb398, 4, none⟩) (Kd.V_mono HO_0.out (fun k_ hk => (⟨hk, hk.1.2.2.2.2⟩ : _ ∧ k_ ≠ gb398))) (fun _ hk => hk.2) (.slice Ao51 y412.length co51)) (fun _ hk => ⟨hk.1.1.1, ⟨hk.1.1.2.1, ⟨hk.1.2, ⟨hk.1.1.2.2.1, ⟨hk.1.1.2.2.2.1, hk.1.1.2.2.2.2⟩⟩⟩⟩⟩)⟩, ⟨by (with_reducible repeat (first | apply Kd.V_alloc | apply Kd.V_drewN | apply Kd.V_drew)); exact Kd.V_mono (Kd.V_far (p := ⟨gb398, 4, none⟩) (Kd.V_mono HO_5.out (fun k_ hk => (⟨hk, hk.1.2.2.2.2⟩ : _ ∧ k_ ≠ gb398))) (fun _ hk => hk.2) (.slice Ao51 y412.length co51)) (fun _ hk => ⟨hk.1.1.1, ⟨hk.1.1.2.1, ⟨hk.1.2, ⟨hk.1.1.2.2.1, ⟨hk.1.1.2.2.2.1, hk.1.1.2.2.2.2⟩⟩⟩⟩⟩)⟩, ⟨by (with_reducible repeat (first | apply Kd.V_alloc | apply Kd.V_drewN | apply Kd.V_drew)); exact Kd.V_mono (Kd.V_far (p := ⟨gb398, 4, none⟩) (Kd.V_mono HO_399002.out (fun k_ hk => (⟨hk, hk.1.2.2.2.2⟩ : _ ∧ k_ ≠ gb398))) (fun _ hk => hk.2) (.slice Ao51 y412.length co51)) (fun _ hk => ⟨hk.1.1.1, ⟨hk.1.1.2.1, ⟨hk.1.2, ⟨hk.1.1.2.2.1, ⟨hk.1.1.2.2.2.1, hk.1.1.2.2.2.2⟩⟩⟩⟩⟩)⟩, ⟨by (with_reducible repeat (first | apply Kd.N_alloc | apply Kd.N_drewN | apply Kd.N_drew)); exact Kd.N_mono (Kd.N_far (p := ⟨gb398, 4, none⟩) (Kd.N_mono HO_399003.out (fun k_ hk => (⟨hk, hk.1.2.2.2⟩ : _ ∧ k_ ≠ gb398))) (fun _ hk => hk.2) (.slice Ao51 y412.length co51)) (fun _ hk => ⟨hk.1.1.1, ⟨hk.1.2, ⟨hk.1.1.2.1, ⟨hk.1.1.2.2.1, hk.1.1.2.2.2⟩⟩⟩⟩)⟩, ⟨by (with_reducible repeat (first | apply Kd.N_alloc | apply Kd.N_drewN | apply Kd.N_drew)); exact Kd.N_mono (Kd.N_far (p := ⟨gb398, 4, none⟩) (Kd.N_mono HO414.out (fun k_ hk => (⟨hk, hk.2.2.2.2⟩ : _ ∧ k_ ≠ gb398))) (fun _ hk => hk.2) (.slice Ao51 y412.length co51)) (fun _ hk => ⟨hk.1.1, ⟨hk.1.2.1, ⟨hk.1.2.2.1, ⟨hk.1.2.2.2.1, hk.1.2.2.2.2⟩⟩⟩⟩)⟩, ⟨by (with_reducible repeat (first | refine blk_drewN ?_ _ | refine blk_drew ?_ | refine blk_alloc ?_ _)); refine blk_far ?_ NB383_398.out _; (with_reducible repeat (first | refine blk_drewN ?_ _ | refine blk_drew ?_ | refine blk_alloc ?_ _)); exact BK383.out⟩, ⟨by (with_reducible repeat (first | refine blk_drewN ?_ _ | refine blk_drew ?_ | refine blk_alloc ?_ _)); refine blk_far ?_ NB387_398.out _; (with_reducible repeat (first | refine blk_drewN ?_ _ | refine blk_drew ?_ | refine blk_alloc ?_ _)); exact BK387.out⟩, ⟨by (with_reducible repeat (first | refine blk_drewN ?_ _ | refine blk_drew ?_ | refine blk_alloc ?_ _)); refine blk_put (cs := #[.int .i64 t384, .int .u32 ((t391) % 4294967296), .slice A16 y393.length c16, u399003, u399004]) ?_ 4 _ rfl; (with_reducible repeat (first | refine blk_drewN ?_ _ | refine blk_drew ?_ | refine blk_alloc ?_ _)); exact BK398.out⟩, ⟨by repeat (first | (with_reducible first | exact HB.out | apply below_alloc | apply pw_below_drewN | apply below_drew1 | refine below_set ?_ GE383.out | refine below_set ?_ GE387.out | refine below_set ?_ GE398.out) | exact HB.out)⟩⟩
              ·rw [if_neg c43] at H
               exact absurd H (by simp)
            ·rw [if_neg c31] at H
             exact absurd H (by simp)
           ·rw [if_neg c30] at H
            exact absurd H (by simp)
          ·rw [if_neg c29] at H
           exact absurd H (by simp)
         ·rw [if_neg c27] at H
          exact absurd H (by simp)
        ·rw [if_neg c26] at H
         have c26b0 : decide (x7_1 ≤ (wrap64 ((rd t388 1) + (rd t388 2)))) = false := decide_eq_false c26
         clear c26
         simp only [Option.some.injEq, Prod.mk.injEq] at H
         obtain ⟨rfl, rfl, rfl, rfl, rfl⟩ := H
         try go_wp2
         have n0_ := Aside0.mk (Kd.V_drew HO_0.out)
         have n1_ := Aside0.mk (Kd.V_drew HO_5.out)
         have n2_ := Aside0.mk (Kd.V_drew HO_399002.out)
         have n3_ := Aside0.mk (Kd.N_drew HO_399003.out)
         have n4_ := Aside0.mk (Kd.N_drew HO_399004.out)
         have n5_ := Aside0.mk (blk_drew BK383.out)
         have n6_ := Aside0.mk (blk_drew BK387.out)
         have n7_ := Aside0.mk (blk_drew BK398.out)
         have n8_ := Aside0.mk (below_drew1 HB.out)
         clear HO_0
         clear HO_5
         clear HO_399002
         clear HO_399003
         clear HO_399004
         clear BK383
         clear BK387
         clear BK398
         clear HB
         have HO_0 := n0_
         have HO_5 := n1_
         have HO_399002 := n2_
         have HO_399003 := n3_
         have HO_399004 := n4_
         have BK383 := n5_
         have BK387 := n6_
         have BK398 := n7_
         have HB := n8_
         clear n0_ n1_ n2_ n3_ n4_ n5_ n6_ n7_ n8_
         have p399 : 0 ≤ (1 : Int) := (by omega)
         have q399 : 1 < (t388.length : Int) := of_decide_eq_true q63_
         obtain ⟨ad399, e399, hx399_0⟩ := Kd.at_int (Kd.V_reads' HO_5.out).2.2 1 p399 q399
         obtain rfl : ad392 = ad399 := (by injection e399)
         (try simp only [show (1 : Int).toNat = 1 from rfl, Nat.reduceMul, Nat.reduceEqDiff, Go.Addr.add, ↓reduceIte] at hx399_0)
         have qi399 : (1 < t388.length) = True := eq_true (by omega)
         (try rw [show ((1 : Int)).toNat = 1 from rfl] at hx399_0)
         replace p399 := eq_true p399
         replace q399 := eq_true q399
         have p400 : 0 ≤ (2 : Int) := (by omega)
         have q400 : 2 < (t388.length : Int) := of_decide_eq_true q63_
         obtain ⟨ad400, e400, hx400_0⟩ := Kd.at_int (Kd.V_reads' HO_5.out).2.2 2 p400 q400
         obtain rfl : ad392 = ad400 := (by injection e400)
         (try simp only [show (2 : Int).toNat = 2 from rfl, Nat.reduceMul, Nat.reduceEqDiff, Go.Addr.add, ↓reduceIte] at hx400_0)
         have qi400 : (2 < t388.length) = True := eq_true (by omega)
         (try rw [show ((2 : Int)).toNat = 2 from rfl] at hx400_0)
         replace p400 := eq_true p400
         replace q400 := eq_true q400
         refine start_ (n := 9) (S := fun w' => w'.cell? ⟨ad392.block, ad392.off + 1, none⟩ = some (.int .i64 (rd t388 1)) ∧ w'.cell? ⟨ad392.block, ad392.off + 2, none⟩ = some (.int .i64 (rd t388 2))) (ds := []) #[false, false, false, false, false, false, false, false, false] (by kernel_rfl) rfl rfl ⟨hx399_0, hx400_0⟩ (fun hHeld => ?_); refine with_tabW pyxref22_Split.tab5 pyxref22_Split.bits5 (fun HT_ HW_ => ?_)
         generalize wr.drew = w53 at HO_0 HO_5 HO_399002 HO_399003 HO_399004 BK383 BK387 BK398 HB hx399_0 hx400_0 hHeld ⊢
         refine pu_ 0 (N := some 27) #[true, false, false, false, false, false, false, false, false] rfl rfl ?_
         refine pu_ 1 (N := some 28) #[true, true, false, false, false, false, false, false, false] rfl rfl ?_
         refine pu_ 2 (N := some 29) #[true, true, true, false, false, false, false, false, false] rfl rfl ?_
         refine pu_ 4 (N := some 31) #[true, true, true, false, true, false, false, false, false] rfl rfl ?_
         refine pu_ 5 (N := some 32) #[true, true, true, false, true, true, false, false, false] rfl rfl ?_
         refine tk2_ 3 (N := some 30) #[true, true, true, true, true, true, false, false, false] rfl rfl hHeld ?_
         refine tk2_ 6 (N := some 33) #[true, true, true, true, true, true, true, false, false] rfl rfl hHeld ?_
         refine pu_ 7 (N := some 34) #[true, true, true, true, true, true, true, true, false] rfl rfl ?_
         refine pu_ 8 (N := some 35) #[true, true, true, true, true, true, true, true, true] rfl rfl ?_
         refine done_ (done_of HT_.out (by kernel_rfl)) ?_
         have hnb54 := NB398_383.out
         have hnc54 := NB383_398.out
         have hnb55 := NB398_387.out
         have hnc55 := NB387_398.out
         obtain ⟨hcz56_0, hcz56_1, hcz56_2, hcz56_3, hcz56_4⟩ := cells5_ BK398.out
         obtain ⟨hfz56_0, hfz56_1, hfz56_2, hfz56_3, hfz56_4⟩ := frz5_ BK398.out
         have hnb57 := NB383_387.out
         have hnc57 := NB387_383.out
         obtain ⟨hcz58_0, hcz58_1, hcz58_2, hcz58_3, hcz58_4⟩ := cells5_ BK383.out
         obtain ⟨hfz58_0, hfz58_1, hfz58_2, hfz58_3, hfz58_4⟩ := frz5_ BK383.out
         obtain ⟨Ao59, co59, eo59⟩ := Kd.N_slice HO_399003.out
         subst eo59
         obtain ⟨Ao60, co60, eo60⟩ := Kd.N_slice HO_399004.out
         subst eo60
         try go_wp2
         refine bodyPost_ret (results_cell_row rfl _ _ gb383 57 #[.int .i64 t384, .int .u32 ((t391) % 4294967296), .slice A16 y393.length c16, .slice Ao59 x399003_1.length co59, .slice Ao60 x399004_1.length co60] (0, 0) _ rfl (by (with_reducible repeat (first | refine blk_drewN ?_ _ | refine blk_drew ?_ | refine blk_alloc ?_ _)); exact set5_01234_ BK383.out) Tryz.underlying57 rfl (by kernel_rfl)) rfl ?_
         exact ⟨_, _, _, by first | rfl | (simp [errW_none, errW_some] <;> rfl) | (simp [*, errW_none, errW_some] <;> rfl), by (with_reducible repeat (first | apply Kd.V_alloc | apply Kd.V_drewN | apply Kd.V_drew)); exact Kd.V_mono (Kd.V_far (p := ⟨gb383, 4, none⟩) (Kd.V_far (p := ⟨gb383, 3, none⟩) (Kd.V_far (p := ⟨gb383, 2, none⟩) (Kd.V_far (p := ⟨gb383, 1, none⟩) (Kd.V_far (p := ⟨gb383, 0, none⟩) (Kd.V_mono HO_399002.out (fun k_ hk => (⟨hk, hk.2.2.2.1⟩ : _ ∧ k_ ≠ gb383))) (fun _ hk => hk.2) (.int .i64 t384)) (fun _ hk => hk.2) (.int .u32 ((t391) % 4294967296))) (fun _ hk => hk.2) (.slice A16 y393.length c16)) (fun _ hk => hk.2) (.slice Ao59 x399003_1.length co59)) (fun _ hk => hk.2) (.slice Ao60 x399004_1.length co60)) (fun _ hk => ⟨hk.1.1, ⟨hk.1.2.1, hk.1.2.2.1⟩⟩), by (with_reducible repeat (first | apply Kd.N_alloc | apply Kd.N_drewN | apply Kd.N_drew)); exact Kd.N_mono (Kd.N_far (p := ⟨gb383, 4, none⟩) (Kd.N_far (p := ⟨gb383, 3, none⟩) (Kd.N_far (p := ⟨gb383, 2, none⟩) (Kd.N_far (p := ⟨gb383, 1, none⟩) (Kd.N_far (p := ⟨gb383, 0, none⟩) (Kd.N_mono HO_399003.out (fun k_ hk => (⟨hk, hk.2.2.1⟩ : _ ∧ k_ ≠ gb383))) (fun _ hk => hk.2) (.int .i64 t384)) (fun _ hk => hk.2) (.int .u32 ((t391) % 4294967296))) (fun _ hk => hk.2) (.slice A16 y393.length c16)) (fun _ hk => hk.2) (.slice Ao59 x399003_1.length co59)) (fun _ hk => hk.2) (.slice Ao60 x399004_1.length co60)) (fun _ hk => ⟨hk.1.1, hk.1.2.1⟩), by (with_reducible repeat (first | apply Kd.N_alloc | apply Kd.N_drewN | apply Kd.N_drew)); exact Kd.N_mono (Kd.N_far (p := ⟨gb383, 4, none⟩) (Kd.N_far (p := ⟨gb383, 3, none⟩) (Kd.N_far (p := ⟨gb383, 2, none⟩) (Kd.N_far (p := ⟨gb383, 1, none⟩) (Kd.N_far (p := ⟨gb383, 0, none⟩) (Kd.N_mono HO_399004.out (fun k_ hk => (⟨hk, hk.2.2.1⟩ : _ ∧ k_ ≠ gb383))) (fun _ hk => hk.2) (.int .i64 t384)) (fun _ hk => hk.2) (.int .u32 ((t391) % 4294967296))) (fun _ hk => hk.2) (.slice A16 y393.length c16)) (fun _ hk => hk.2) (.slice Ao59 x399003_1.length co59)) (fun _ hk => hk.2) (.slice Ao60 x399004_1.length co60)) (fun _ hk => ⟨hk.1.1, hk.1.2.1⟩), by repeat (first | (with_reducible first | exact HB.out | apply below_alloc | apply pw_below_drewN | apply below_drew1 | refine below_set ?_ GE383.out | refine below_set ?_ GE387.out | refine below_set ?_ GE398.out) | exact HB.out)⟩
       ·rw [if_neg c25] at H
        exact absurd H (by simp)
      ·rw [if_neg c24] at H
       exact absurd H (by simp)
   ·rw [if_neg c7] at H
    exact absurd H (by simp)
  ·rw [if_neg c6] at H
   exact absurd H (by simp)
 ·rw [if_neg c5] at H
  exact absurd H (by simp)
end Go.Proofs.YtgmnknhfeoleaaaGreatDoor.PXmss
