import Derived.Test.YtgmnknhfeoleaaaGreatDoorZPXmssx0
import Derived.Test.YtgmnknhfeoleaaaGreatDoorZPXmssx1
import Derived.Test.YtgmnknhfeoleaaaGreatDoorZPXmssx13
import Derived.Test.YtgmnknhfeoleaaaGreatDoorZPXmssx17
import Derived.Test.YtgmnknhfeoleaaaGreatDoorZPXmssx18
import Derived.Test.YtgmnknhfeoleaaaGreatDoorZPXmssx19
import Derived.Test.YtgmnknhfeoleaaaGreatDoorZPXmssx21
import Derived.Test.YtgmnknhfeoleaaaGreatDoorZPXmssx23
import Derived.Test.YtgmnknhfeoleaaaGreatDoorZPXmssx26
namespace Go.Proofs.YtgmnknhfeoleaaaGreatDoor.PXmss
open Go.RowKit Go.Proofs.YtgmnknhfeoleaaaGreatDoorW.PrintWords Go.Proofs.YtgmnknhfeoleaaaGreatDoorW.PrintLast Go.Proofs.YtgmnknhfeoleaaaGreatDoorW.PrintMore
attribute [local go_sem] max2_int min2_int max_two min_two max_three min_three max_four min_four
set_option linter.unusedVariables false
set_option linter.unusedSimpArgs false
def pyxlaw22_XmssNumbers.f (k : Nat) (a0 : Int) : Option (Bool) := (pyxlaw22_awake.f).bind fun t341 => (if t341 = true then ((xmss_Numbers.f a0).bind fun bt342 => ((pyxref22_Numbers.f a0).bind fun t346 => (if 0 < (t346.length : Int) then (if bt342.1 = (rd t346 0) then (if 1 < (t346.length : Int) then (if bt342.2.1 = (rd t346 1) then (if 2 < (t346.length : Int) then (if bt342.2.2.1 = (rd t346 2) then (if (bt342.2.2.2 != (decide (bt342.1 > 0))) = true then (some false) else ((params_Get.f k a0).bind fun bt352 => (if bt342.2.2.2 = true then (if bt352.2.2.2.1 = (wrap64 (4 + (wrap64 (2 * bt342.1)))) then (some (bt352.2.2.2.2.2.2.1 == (wrap64 (4 + (wrap64 (bt342.1 * (wrap64 ((wrap64 (1 + bt342.2.1)) + bt342.2.2.1)))))))) else (some false)) else (some true)))) else (some false)) else (none)) else (some false)) else (none)) else (some false)) else (none)))) else (some false))
set_option maxHeartbeats 8000000 in
set_option maxRecDepth 100000 in
theorem pyxlaw22_XmssNumbers.calls (k : Nat) (a0 : Int) (r : Bool) (w : World) (h : pyxlaw22_XmssNumbers.f k a0 = some r) (hG : GOK w) (hr_ : r = true) :
    Calls Tryz.prog 4 #[.int .i64 a0] w fun e w' => e = .returned (.bool r) ∧ Below w.heap.size w w' := by
  have HG := Aside0.mk hG
  clear hG
  have HT := Aside0.mk hr_
  clear hr_
  have hu45 := Tryz.underlying45
  have HB := Aside0.mk (Below.refl w.heap.size w)
  have H : ((pyxlaw22_awake.f).bind fun t341 => (if t341 = true then ((xmss_Numbers.f a0).bind fun bt342 => ((pyxref22_Numbers.f a0).bind fun t346 => (if 0 < (t346.length : Int) then (if bt342.1 = (rd t346 0) then (if 1 < (t346.length : Int) then (if bt342.2.1 = (rd t346 1) then (if 2 < (t346.length : Int) then (if bt342.2.2.1 = (rd t346 2) then (if (bt342.2.2.2 != (decide (bt342.1 > 0))) = true then (some false) else ((params_Get.f k a0).bind fun bt352 => (if bt342.2.2.2 = true then (if bt352.2.2.2.1 = (wrap64 (4 + (wrap64 (2 * bt342.1)))) then (some (bt352.2.2.2.2.2.2.1 == (wrap64 (4 + (wrap64 (bt342.1 * (wrap64 ((wrap64 (1 + bt342.2.1)) + bt342.2.2.1)))))))) else (some false)) else (some true)))) else (some false)) else (none)) else (some false)) else (none)) else (some false)) else (none)))) else (some false))) = some r := h
  clear h
  replace H := Option.bind_eq_some_iff.mp H
  obtain ⟨t341, A20, H⟩ := H
  replace H : (if t341 = true then ((xmss_Numbers.f a0).bind fun bt342 => ((pyxref22_Numbers.f a0).bind fun t346 => (if 0 < (t346.length : Int) then (if bt342.1 = (rd t346 0) then (if 1 < (t346.length : Int) then (if bt342.2.1 = (rd t346 1) then (if 2 < (t346.length : Int) then (if bt342.2.2.1 = (rd t346 2) then (if (bt342.2.2.2 != (decide (bt342.1 > 0))) = true then (some false) else ((params_Get.f k a0).bind fun bt352 => (if bt342.2.2.2 = true then (if bt352.2.2.2.1 = (wrap64 (4 + (wrap64 (2 * bt342.1)))) then (some (bt352.2.2.2.2.2.2.1 == (wrap64 (4 + (wrap64 (bt342.1 * (wrap64 ((wrap64 (1 + bt342.2.1)) + bt342.2.2.1)))))))) else (some false)) else (some true)))) else (some false)) else (none)) else (some false)) else (none)) else (some false)) else (none)))) else (some false)) = some r := H
  have A2 := Aside0.mk A20
  clear A20
  by_cases c3 : t341 = true
  · subst c3
    have H1 : ((xmss_Numbers.f a0).bind fun bt342 => ((pyxref22_Numbers.f a0).bind fun t346 => (if 0 < (t346.length : Int) then (if bt342.1 = (rd t346 0) then (if 1 < (t346.length : Int) then (if bt342.2.1 = (rd t346 1) then (if 2 < (t346.length : Int) then (if bt342.2.2.1 = (rd t346 2) then (if (bt342.2.2.2 != (decide (bt342.1 > 0))) = true then (some false) else ((params_Get.f k a0).bind fun bt352 => (if bt342.2.2.2 = true then (if bt352.2.2.2.1 = (wrap64 (4 + (wrap64 (2 * bt342.1)))) then (some (bt352.2.2.2.2.2.2.1 == (wrap64 (4 + (wrap64 (bt342.1 * (wrap64 ((wrap64 (1 + bt342.2.1)) + bt342.2.2.1)))))))) else (some false)) else (some true)))) else (some false)) else (none)) else (some false)) else (none)) else (some false)) else (none)))) = some r := by rw [if_pos rfl] at H; exact H
    clear H
    have H := H1
    clear H1
    replace H := Option.bind_eq_some_iff.mp H
    obtain ⟨⟨t342, t343, t344, t345⟩, A40, H⟩ := H
    replace H : ((pyxref22_Numbers.f a0).bind fun t346 => (if 0 < (t346.length : Int) then (if t342 = (rd t346 0) then (if 1 < (t346.length : Int) then (if t343 = (rd t346 1) then (if 2 < (t346.length : Int) then (if t344 = (rd t346 2) then (if (t345 != (decide (t342 > 0))) = true then (some false) else ((params_Get.f k a0).bind fun bt352 => (if t345 = true then (if bt352.2.2.2.1 = (wrap64 (4 + (wrap64 (2 * t342)))) then (some (bt352.2.2.2.2.2.2.1 == (wrap64 (4 + (wrap64 (t342 * (wrap64 ((wrap64 (1 + t343)) + t344)))))))) else (some false)) else (some true)))) else (some false)) else (none)) else (some false)) else (none)) else (some false)) else (none))) = some r := H
    have A4 := Aside0.mk A40
    clear A40
    replace H := Option.bind_eq_some_iff.mp H
    obtain ⟨t346, A50, H⟩ := H
    replace H : (if 0 < (t346.length : Int) then (if t342 = (rd t346 0) then (if 1 < (t346.length : Int) then (if t343 = (rd t346 1) then (if 2 < (t346.length : Int) then (if t344 = (rd t346 2) then (if (t345 != (decide (t342 > 0))) = true then (some false) else ((params_Get.f k a0).bind fun bt352 => (if t345 = true then (if bt352.2.2.2.1 = (wrap64 (4 + (wrap64 (2 * t342)))) then (some (bt352.2.2.2.2.2.2.1 == (wrap64 (4 + (wrap64 (t342 * (wrap64 ((wrap64 (1 + t343)) + t344)))))))) else (some false)) else (some true)))) else (some false)) else (none)) else (some false)) else (none)) else (some false)) else (none)) = some r := H
    have A5 := Aside0.mk A50
    clear A50
    by_cases c6 : 0 < (t346.length : Int)
    · rw [if_pos c6] at H
      have c6b0 : decide (0 < (t346.length : Int)) = true := decide_eq_true c6
      have c6b1 : decide (0 < t346.length) = true := decide_eq_true (by omega)
      clear c6
      by_cases c7 : t342 = (rd t346 0)
      · rw [if_pos c7] at H
        have c7b0 : (t342 == (rd t346 0)) = true := beq_iff_eq.mpr c7
        have c7b1 : (t342 != (rd t346 0)) = false := bne_eq_false_iff_eq.mpr c7
        clear c7
        by_cases c8 : 1 < (t346.length : Int)
        · rw [if_pos c8] at H
          have c8b0 : decide (1 < (t346.length : Int)) = true := decide_eq_true c8
          have c8b1 : decide (1 < t346.length) = true := decide_eq_true (by omega)
          clear c8
          by_cases c9 : t343 = (rd t346 1)
          · rw [if_pos c9] at H
            have c9b0 : (t343 == (rd t346 1)) = true := beq_iff_eq.mpr c9
            have c9b1 : (t343 != (rd t346 1)) = false := bne_eq_false_iff_eq.mpr c9
            clear c9
            by_cases c10 : 2 < (t346.length : Int)
            · rw [if_pos c10] at H
              have c10b0 : decide (2 < (t346.length : Int)) = true := decide_eq_true c10
              have c10b1 : decide (2 < t346.length) = true := decide_eq_true (by omega)
              clear c10
              by_cases c11 : t344 = (rd t346 2)
              · rw [if_pos c11] at H
                have c11b0 : (t344 == (rd t346 2)) = true := beq_iff_eq.mpr c11
                have c11b1 : (t344 != (rd t346 2)) = false := bne_eq_false_iff_eq.mpr c11
                clear c11
                by_cases c12 : (t345 != (decide (t342 > 0))) = true
                · rw [if_pos c12] at H
                  have c12b0 : (t345 != (decide (t342 > 0))) = true := c12
                  (try (have c12b1 : decide (t345 = (decide (t342 > 0))) = false := by simpa using c12))
                  (try (have c12b2 : (t345 == (decide (t342 > 0))) = false := by simpa using c12))
                  (try (have c12b3 : ¬ (t345 = (decide (t342 > 0))) := by simpa using c12))
                  clear c12
                  exact absurd ((Option.some.inj H).trans HT.out) (by decide)
                · rw [if_neg c12] at H
                  have c12b0 : (t345 != (decide (t342 > 0))) = false := by simpa using c12
                  (try (have c12b1 : decide (t345 = (decide (t342 > 0))) = true := by simpa using c12))
                  (try (have c12b2 : (t345 == (decide (t342 > 0))) = true := by simpa using c12))
                  clear c12
                  replace H := Option.bind_eq_some_iff.mp H
                  obtain ⟨⟨t352, t353, t354, t355, t356, t357, t358, t359, t362, t363, t364⟩, A130, H⟩ := H
                  replace H : (if t345 = true then (if t355 = (wrap64 (4 + (wrap64 (2 * t342)))) then (some (t358 == (wrap64 (4 + (wrap64 (t342 * (wrap64 ((wrap64 (1 + t343)) + t344)))))))) else (some false)) else (some true)) = some r := H
                  have A13 := Aside0.mk A130
                  clear A130
                  by_cases c14 : t345 = true
                  · subst c14
                    have H1 : (if t355 = (wrap64 (4 + (wrap64 (2 * t342)))) then (some (t358 == (wrap64 (4 + (wrap64 (t342 * (wrap64 ((wrap64 (1 + t343)) + t344)))))))) else (some false)) = some r := by rw [if_pos rfl] at H; exact H
                    clear H
                    have H := H1
                    clear H1
                    by_cases c15 : t355 = (wrap64 (4 + (wrap64 (2 * t342))))
                    · rw [if_pos c15] at H
                      have c15b0 : (t355 == (wrap64 (4 + (wrap64 (2 * t342))))) = true := beq_iff_eq.mpr c15
                      have c15b1 : (t355 != (wrap64 (4 + (wrap64 (2 * t342))))) = false := bne_eq_false_iff_eq.mpr c15
                      clear c15
                      obtain rfl := Option.some.inj H
                      go_enter Tryz.func4, Tryz.ntmps4
                      go_wp2_with (first | ((with_reducible refine gate_callee (f := 8) rfl ?_); refine goesL_ (some 10) rfl rfl Tryz.func8 (by kernel_rfl) rfl #[] rfl (by (try simp only [List.map_toArray, List.map_cons, List.map_nil]); first | done | rfl | (simp only [List.length_drop, List.length_take]; rfl)) ?_; (with_reducible refine (pyxlaw22_awake.calls  true _ A2.out (by first | exact GOK.below HG.out (by repeat (first | (with_reducible first | exact HB.out | apply below_alloc | apply pw_below_drewN | apply below_drew1) | exact HB.out)) | (repeat (first | exact HG.out | apply GOK.drewN | apply GOK.drew)))).mono ?_); rintro e w16 ⟨rfl, hb⟩; refine ⟨_, rfl, ?_⟩; have n0_ := Aside0.mk (below_step (by repeat (first | (with_reducible first | exact HB.out | apply below_alloc | apply pw_below_drewN | apply below_drew1) | exact HB.out)) hb); clear HB; have HB := n0_; clear n0_; (try clear hb); (try clear hb2); (try clear hk); (try clear hi)) | ((with_reducible refine gate_callee (f := 17) rfl ?_); refine goesL_ (some 14) rfl rfl Tryz.func17 (by kernel_rfl) rfl #[.int .i64 a0] rfl (by (try simp only [List.map_toArray, List.map_cons, List.map_nil]); first | done | rfl | (simp only [List.length_drop, List.length_take]; rfl)) ?_; (with_reducible refine (xmss_Numbers.calls a0 t342 t343 t344 true _ A4.out).mono ?_); rintro e w' ⟨rfl, ⟨nd, rfl⟩⟩; refine ⟨_, rfl, ?_⟩; (try (rw [drewN_self w16]; generalize hq_ : World.drewN w16 _ = w16; have n0_ : Aside0 (Below w.heap.size w w16) := ⟨by rw [← hq_]; exact (by repeat (first | (with_reducible first | exact HB.out | apply below_alloc | apply pw_below_drewN | apply below_drew1) | exact HB.out))⟩; clear HB hq_; have HB := n0_; clear n0_))) | ((with_reducible refine gate_callee (f := 18) rfl ?_); refine goesL_ (some 20) rfl rfl Tryz.func18 (by kernel_rfl) rfl #[.int .i64 a0] rfl (by (try simp only [List.map_toArray, List.map_cons, List.map_nil]); first | done | rfl | (simp only [List.length_drop, List.length_take]; rfl)) ?_; (with_reducible refine (pyxref22_Numbers.calls a0 t346 _ A5.out).mono ?_); rintro e w17 ⟨v347, rfl, ho0, hb⟩; refine ⟨_, rfl, ?_⟩; have n0_ := Aside0.mk (Kd.V_lower (Kd.V_mono (ok' := fun k_ => True) ho0 (fun k_ hk_ => trivial)) (below_size (by repeat (first | (with_reducible first | exact HB.out | apply below_alloc | apply pw_below_drewN | apply below_drew1) | exact HB.out)))); have n1_ := Aside0.mk (below_step (by repeat (first | (with_reducible first | exact HB.out | apply below_alloc | apply pw_below_drewN | apply below_drew1) | exact HB.out)) hb); clear HB; have HO348 := n0_; have HB := n1_; clear n0_ n1_; (try clear hb); (try clear hb2); (try clear hk); (try clear hi); (try clear ho0); obtain ⟨Ao18, co18, eo18⟩ := Kd.V_slice HO348.out; subst eo18; have p349 : 0 ≤ (0 : Int) := (by omega); have q349 : 0 < (t346.length : Int) := of_decide_eq_true (by first | (with_reducible assumption) | assumption); obtain ⟨ad349, e349, hx349_0⟩ := Kd.at_int (Kd.V_reads' HO348.out).2.2 0 p349 q349; cases e349; have qi349 : (0 < t346.length) = True := eq_true (by omega); (try rw [show ((0 : Int)).toNat = 0 from rfl] at hx349_0); (try rw [Addr.add_zero'] at hx349_0); replace p349 := eq_true p349; replace q349 := eq_true q349; have p350 : 0 ≤ (1 : Int) := (by omega); have q350 : 1 < (t346.length : Int) := of_decide_eq_true (by first | (with_reducible assumption) | assumption); obtain ⟨ad350, e350, hx350_0⟩ := Kd.at_int (Kd.V_reads' HO348.out).2.2 1 p350 q350; obtain rfl : ad349 = ad350 := (by injection e350); (try simp only [show (1 : Int).toNat = 1 from rfl, Nat.reduceMul, Nat.reduceEqDiff, Go.Addr.add, ↓reduceIte] at hx350_0); have qi350 : (1 < t346.length) = True := eq_true (by omega); (try rw [show ((1 : Int)).toNat = 1 from rfl] at hx350_0); replace p350 := eq_true p350; replace q350 := eq_true q350; have p351 : 0 ≤ (2 : Int) := (by omega); have q351 : 2 < (t346.length : Int) := of_decide_eq_true (by first | (with_reducible assumption) | assumption); obtain ⟨ad351, e351, hx351_0⟩ := Kd.at_int (Kd.V_reads' HO348.out).2.2 2 p351 q351; obtain rfl : ad349 = ad351 := (by injection e351); (try simp only [show (2 : Int).toNat = 2 from rfl, Nat.reduceMul, Nat.reduceEqDiff, Go.Addr.add, ↓reduceIte] at hx351_0); have qi351 : (2 < t346.length) = True := eq_true (by omega); (try rw [show ((2 : Int)).toNat = 2 from rfl] at hx351_0); replace p351 := eq_true p351; replace q351 := eq_true q351) | ((with_reducible refine gate_callee (f := 19) rfl ?_); refine goesL_ (some 48) rfl rfl Tryz.func19 (by kernel_rfl) rfl #[.int .i64 a0] rfl (by (try simp only [List.map_toArray, List.map_cons, List.map_nil]); first | done | rfl | (simp only [List.length_drop, List.length_take]; rfl)) ?_; (with_reducible refine (params_Get.calls k a0 t352 t353 t354 t355 t356 t357 t358 t359 t362 t363 t364 _ A13.out (by first | exact GOK.below HG.out (by repeat (first | (with_reducible first | exact HB.out | apply below_alloc | apply pw_below_drewN | apply below_drew1) | exact HB.out)) | (repeat (first | exact HG.out | apply GOK.drewN | apply GOK.drew)))).mono ?_); rintro e w19 ⟨v360, rfl, ho0, hb⟩; refine ⟨_, rfl, ?_⟩; have n0_ := Aside0.mk (Kd.V_elder' (by (with_reducible repeat (first | apply Kd.V_alloc | apply Kd.V_drewN | apply Kd.V_drew)); exact HO348.out) (Kd.R_base ho0) hb); have n1_ := Aside0.mk (Kd.R_lower ho0 (below_size (by repeat (first | (with_reducible first | exact HB.out | apply below_alloc | apply pw_below_drewN | apply below_drew1) | exact HB.out)))); have n2_ := Aside0.mk (below_step (by repeat (first | (with_reducible first | exact HB.out | apply below_alloc | apply pw_below_drewN | apply below_drew1) | exact HB.out)) hb); clear HO348; clear HB; have HO348 := n0_; have HO361 := n1_; have HB := n2_; clear n0_ n1_ n2_; (try clear hb); (try clear hb2); (try clear hk); (try clear hi); (try clear ho0)) | ((with_reducible refine gate_dst (N := 8) rfl ?_); refine box_event ?hg (N := 8) ?hd (cs := #[.int .i64 0, .int .i64 0, .string (⟨#[]⟩ : ByteArray), .int .i64 0, .int .i64 0, .int .i64 0, .int .i64 0, .slice none 0 0, .int .i64 0, .int .u32 0]) (t := 45) ?hr ?_; (case hd => rfl); (case hg => rfl); (case hr => first | (go_simp; done) | (go_simp; rfl)); intro gb365 hg w20 hbox hb; have n0_ := Aside0.mk (Kd.V_below (Kd.V_elderB (by (with_reducible repeat (first | apply Kd.V_alloc | apply Kd.V_drewN | apply Kd.V_drew)); exact HO348.out) gb365 (Nat.le_of_eq hg.symm)) hb); have n1_ := Aside0.mk (Kd.R_below (by (with_reducible repeat (first | apply Kd.R_alloc | apply Kd.R_drewN | apply Kd.R_drew)); exact HO361.out) hb); have n2_ := Aside0.mk (below_step (by repeat (first | (with_reducible first | exact HB.out | apply below_alloc | apply pw_below_drewN | apply below_drew1) | exact HB.out)) hb); have n3_ := Aside0.mk (hbox); have n4_ := Aside0.mk ((by rw [hg]; exact (below_size (by repeat (first | (with_reducible first | exact HB.out | apply below_alloc | apply pw_below_drewN | apply below_drew1) | exact HB.out))) : w.heap.size ≤ gb365)); have n5_ := Aside0.mk ((by rw [hg]; exact (below_size (by repeat (first | (with_reducible first | exact HB.out | apply below_alloc | apply pw_below_drewN | apply below_drew1) | exact HB.out))) : w.heap.size ≤ gb365)); clear HO348; clear HO361; clear HB; have HO348 := n0_; have HO361 := n1_; have HB := n2_; have BK365 := n3_; have GW365 := n4_; have GE365 := n5_; clear n0_ n1_ n2_ n3_ n4_ n5_; clear hb hbox hg; have hcz21_0 : w20.cell? ⟨gb365, 0, none⟩ = some (.int .i64 0) := (blk_cell BK365.out 0).trans rfl; have hcz21_1 : w20.cell? ⟨gb365, 1, none⟩ = some (.int .i64 0) := (blk_cell BK365.out 1).trans rfl; have hcz21_2 : w20.cell? ⟨gb365, 2, none⟩ = some (.string (⟨#[]⟩ : ByteArray)) := (blk_cell BK365.out 2).trans rfl; have hcz21_3 : w20.cell? ⟨gb365, 3, none⟩ = some (.int .i64 0) := (blk_cell BK365.out 3).trans rfl; have hcz21_4 : w20.cell? ⟨gb365, 4, none⟩ = some (.int .i64 0) := (blk_cell BK365.out 4).trans rfl; have hcz21_5 : w20.cell? ⟨gb365, 5, none⟩ = some (.int .i64 0) := (blk_cell BK365.out 5).trans rfl; have hcz21_6 : w20.cell? ⟨gb365, 6, none⟩ = some (.int .i64 0) := (blk_cell BK365.out 6).trans rfl; have hcz21_7 : w20.cell? ⟨gb365, 7, none⟩ = some (.slice none 0 0) := (blk_cell BK365.out 7).trans rfl; have hcz21_8 : w20.cell? ⟨gb365, 8, none⟩ = some (.int .i64 0) := (blk_cell BK365.out 8).trans rfl; have hcz21_9 : w20.cell? ⟨gb365, 9, none⟩ = some (.int .u32 0) := (blk_cell BK365.out 9).trans rfl; have hfz21_0 := blk_frozen BK365.out 0; have hfz21_1 := blk_frozen BK365.out 1; have hfz21_2 := blk_frozen BK365.out 2; have hfz21_3 := blk_frozen BK365.out 3; have hfz21_4 := blk_frozen BK365.out 4; have hfz21_5 := blk_frozen BK365.out 5; have hfz21_6 := blk_frozen BK365.out 6; have hfz21_7 := blk_frozen BK365.out 7; have hfz21_8 := blk_frozen BK365.out 8; have hfz21_9 := blk_frozen BK365.out 9; obtain ⟨Ao22, co22, eo22⟩ := Kd.R_slice HO361.out; subst eo22))
                      go_ret
                      exact ⟨by first | rfl | (simp [errW_none, errW_some] <;> rfl) | (simp [*, errW_none, errW_some] <;> rfl), by repeat (first | (with_reducible first | exact HB.out | apply below_alloc | apply pw_below_drewN | apply below_drew1 | refine below_set ?_ GE365.out) | exact HB.out)⟩
                    · rw [if_neg c15] at H
                      have c15b0 : (t355 == (wrap64 (4 + (wrap64 (2 * t342))))) = false := beq_eq_false_iff_ne.mpr c15
                      have c15b1 : (t355 != (wrap64 (4 + (wrap64 (2 * t342))))) = true := bne_iff_ne.mpr c15
                      exact absurd ((Option.some.inj H).trans HT.out) (by decide)
                  · replace c14 := Bool.eq_false_iff.mpr c14
                    subst c14
                    have H1 : (some true) = some r := by rw [if_neg (show ¬ (false = true) by decide)] at H; exact H
                    clear H
                    have H := H1
                    clear H1
                    obtain rfl := Option.some.inj H
                    go_enter Tryz.func4, Tryz.ntmps4
                    go_wp2_with (first | ((with_reducible refine gate_callee (f := 8) rfl ?_); refine goesL_ (some 10) rfl rfl Tryz.func8 (by kernel_rfl) rfl #[] rfl (by (try simp only [List.map_toArray, List.map_cons, List.map_nil]); first | done | rfl | (simp only [List.length_drop, List.length_take]; rfl)) ?_; (with_reducible refine (pyxlaw22_awake.calls  true _ A2.out (by first | exact GOK.below HG.out (by repeat (first | (with_reducible first | exact HB.out | apply below_alloc | apply pw_below_drewN | apply below_drew1) | exact HB.out)) | (repeat (first | exact HG.out | apply GOK.drewN | apply GOK.drew)))).mono ?_); rintro e w23 ⟨rfl, hb⟩; refine ⟨_, rfl, ?_⟩; have n0_ := Aside0.mk (below_step (by repeat (first | (with_reducible first | exact HB.out | apply below_alloc | apply pw_below_drewN | apply below_drew1) | exact HB.out)) hb); clear HB; have HB := n0_; clear n0_; (try clear hb); (try clear hb2); (try clear hk); (try clear hi)) | ((with_reducible refine gate_callee (f := 17) rfl ?_); refine goesL_ (some 14) rfl rfl Tryz.func17 (by kernel_rfl) rfl #[.int .i64 a0] rfl (by (try simp only [List.map_toArray, List.map_cons, List.map_nil]); first | done | rfl | (simp only [List.length_drop, List.length_take]; rfl)) ?_; (with_reducible refine (xmss_Numbers.calls a0 t342 t343 t344 false _ A4.out).mono ?_); rintro e w' ⟨rfl, ⟨nd, rfl⟩⟩; refine ⟨_, rfl, ?_⟩; (try (rw [drewN_self w23]; generalize hq_ : World.drewN w23 _ = w23; have n0_ : Aside0 (Below w.heap.size w w23) := ⟨by rw [← hq_]; exact (by repeat (first | (with_reducible first | exact HB.out | apply below_alloc | apply pw_below_drewN | apply below_drew1) | exact HB.out))⟩; clear HB hq_; have HB := n0_; clear n0_))) | ((with_reducible refine gate_callee (f := 18) rfl ?_); refine goesL_ (some 20) rfl rfl Tryz.func18 (by kernel_rfl) rfl #[.int .i64 a0] rfl (by (try simp only [List.map_toArray, List.map_cons, List.map_nil]); first | done | rfl | (simp only [List.length_drop, List.length_take]; rfl)) ?_; (with_reducible refine (pyxref22_Numbers.calls a0 t346 _ A5.out).mono ?_); rintro e w24 ⟨v347, rfl, ho0, hb⟩; refine ⟨_, rfl, ?_⟩; have n0_ := Aside0.mk (Kd.V_lower (Kd.V_mono (ok' := fun k_ => True) ho0 (fun k_ hk_ => trivial)) (below_size (by repeat (first | (with_reducible first | exact HB.out | apply below_alloc | apply pw_below_drewN | apply below_drew1) | exact HB.out)))); have n1_ := Aside0.mk (below_step (by repeat (first | (with_reducible first | exact HB.out | apply below_alloc | apply pw_below_drewN | apply below_drew1) | exact HB.out)) hb); clear HB; have HO348 := n0_; have HB := n1_; clear n0_ n1_; (try clear hb); (try clear hb2); (try clear hk); (try clear hi); (try clear ho0); obtain ⟨Ao25, co25, eo25⟩ := Kd.V_slice HO348.out; subst eo25; have p349 : 0 ≤ (0 : Int) := (by omega); have q349 : 0 < (t346.length : Int) := of_decide_eq_true (by first | (with_reducible assumption) | assumption); obtain ⟨ad349, e349, hx349_0⟩ := Kd.at_int (Kd.V_reads' HO348.out).2.2 0 p349 q349; cases e349; have qi349 : (0 < t346.length) = True := eq_true (by omega); (try rw [show ((0 : Int)).toNat = 0 from rfl] at hx349_0); (try rw [Addr.add_zero'] at hx349_0); replace p349 := eq_true p349; replace q349 := eq_true q349; have p350 : 0 ≤ (1 : Int) := (by omega); have q350 : 1 < (t346.length : Int) := of_decide_eq_true (by first | (with_reducible assumption) | assumption); obtain ⟨ad350, e350, hx350_0⟩ := Kd.at_int (Kd.V_reads' HO348.out).2.2 1 p350 q350; obtain rfl : ad349 = ad350 := (by injection e350); (try simp only [show (1 : Int).toNat = 1 from rfl, Nat.reduceMul, Nat.reduceEqDiff, Go.Addr.add, ↓reduceIte] at hx350_0); have qi350 : (1 < t346.length) = True := eq_true (by omega); (try rw [show ((1 : Int)).toNat = 1 from rfl] at hx350_0); replace p350 := eq_true p350; replace q350 := eq_true q350; have p351 : 0 ≤ (2 : Int) := (by omega); have q351 : 2 < (t346.length : Int) := of_decide_eq_true (by first | (with_reducible assumption) | assumption); obtain ⟨ad351, e351, hx351_0⟩ := Kd.at_int (Kd.V_reads' HO348.out).2.2 2 p351 q351; obtain rfl : ad349 = ad351 := (by injection e351); (try simp only [show (2 : Int).toNat = 2 from rfl, Nat.reduceMul, Nat.reduceEqDiff, Go.Addr.add, ↓reduceIte] at hx351_0); have qi351 : (2 < t346.length) = True := eq_true (by omega); (try rw [show ((2 : Int)).toNat = 2 from rfl] at hx351_0); replace p351 := eq_true p351; replace q351 := eq_true q351) | ((with_reducible refine gate_callee (f := 19) rfl ?_); refine goesL_ (some 48) rfl rfl Tryz.func19 (by kernel_rfl) rfl #[.int .i64 a0] rfl (by (try simp only [List.map_toArray, List.map_cons, List.map_nil]); first | done | rfl | (simp only [List.length_drop, List.length_take]; rfl)) ?_; (with_reducible refine (params_Get.calls k a0 t352 t353 t354 t355 t356 t357 t358 t359 t362 t363 t364 _ A13.out (by first | exact GOK.below HG.out (by repeat (first | (with_reducible first | exact HB.out | apply below_alloc | apply pw_below_drewN | apply below_drew1) | exact HB.out)) | (repeat (first | exact HG.out | apply GOK.drewN | apply GOK.drew)))).mono ?_); rintro e w26 ⟨v360, rfl, ho0, hb⟩; refine ⟨_, rfl, ?_⟩; have n0_ := Aside0.mk (Kd.V_elder' (by (with_reducible repeat (first | apply Kd.V_alloc | apply Kd.V_drewN | apply Kd.V_drew)); exact HO348.out) (Kd.R_base ho0) hb); have n1_ := Aside0.mk (Kd.R_lower ho0 (below_size (by repeat (first | (with_reducible first | exact HB.out | apply below_alloc | apply pw_below_drewN | apply below_drew1) | exact HB.out)))); have n2_ := Aside0.mk (below_step (by repeat (first | (with_reducible first | exact HB.out | apply below_alloc | apply pw_below_drewN | apply below_drew1) | exact HB.out)) hb); clear HO348; clear HB; have HO348 := n0_; have HO361 := n1_; have HB := n2_; clear n0_ n1_ n2_; (try clear hb); (try clear hb2); (try clear hk); (try clear hi); (try clear ho0)) | ((with_reducible refine gate_dst (N := 8) rfl ?_); refine box_event ?hg (N := 8) ?hd (cs := #[.int .i64 0, .int .i64 0, .string (⟨#[]⟩ : ByteArray), .int .i64 0, .int .i64 0, .int .i64 0, .int .i64 0, .slice none 0 0, .int .i64 0, .int .u32 0]) (t := 45) ?hr ?_; (case hd => rfl); (case hg => rfl); (case hr => first | (go_simp; done) | (go_simp; rfl)); intro gb365 hg w27 hbox hb; have n0_ := Aside0.mk (Kd.V_below (Kd.V_elderB (by (with_reducible repeat (first | apply Kd.V_alloc | apply Kd.V_drewN | apply Kd.V_drew)); exact HO348.out) gb365 (Nat.le_of_eq hg.symm)) hb); have n1_ := Aside0.mk (Kd.R_below (by (with_reducible repeat (first | apply Kd.R_alloc | apply Kd.R_drewN | apply Kd.R_drew)); exact HO361.out) hb); have n2_ := Aside0.mk (below_step (by repeat (first | (with_reducible first | exact HB.out | apply below_alloc | apply pw_below_drewN | apply below_drew1) | exact HB.out)) hb); have n3_ := Aside0.mk (hbox); have n4_ := Aside0.mk ((by rw [hg]; exact (below_size (by repeat (first | (with_reducible first | exact HB.out | apply below_alloc | apply pw_below_drewN | apply below_drew1) | exact HB.out))) : w.heap.size ≤ gb365)); have n5_ := Aside0.mk ((by rw [hg]; exact (below_size (by repeat (first | (with_reducible first | exact HB.out | apply below_alloc | apply pw_below_drewN | apply below_drew1) | exact HB.out))) : w.heap.size ≤ gb365)); clear HO348; clear HO361; clear HB; have HO348 := n0_; have HO361 := n1_; have HB := n2_; have BK365 := n3_; have GW365 := n4_; have GE365 := n5_; clear n0_ n1_ n2_ n3_ n4_ n5_; clear hb hbox hg; have hcz28_0 : w27.cell? ⟨gb365, 0, none⟩ = some (.int .i64 0) := (blk_cell BK365.out 0).trans rfl; have hcz28_1 : w27.cell? ⟨gb365, 1, none⟩ = some (.int .i64 0) := (blk_cell BK365.out 1).trans rfl; have hcz28_2 : w27.cell? ⟨gb365, 2, none⟩ = some (.string (⟨#[]⟩ : ByteArray)) := (blk_cell BK365.out 2).trans rfl; have hcz28_3 : w27.cell? ⟨gb365, 3, none⟩ = some (.int .i64 0) := (blk_cell BK365.out 3).trans rfl; have hcz28_4 : w27.cell? ⟨gb365, 4, none⟩ = some (.int .i64 0) := (blk_cell BK365.out 4).trans rfl; have hcz28_5 : w27.cell? ⟨gb365, 5, none⟩ = some (.int .i64 0) := (blk_cell BK365.out 5).trans rfl; have hcz28_6 : w27.cell? ⟨gb365, 6, none⟩ = some (.int .i64 0) := (blk_cell BK365.out 6).trans rfl; have hcz28_7 : w27.cell? ⟨gb365, 7, none⟩ = some (.slice none 0 0) := (blk_cell BK365.out 7).trans rfl; have hcz28_8 : w27.cell? ⟨gb365, 8, none⟩ = some (.int .i64 0) := (blk_cell BK365.out 8).trans rfl; have hcz28_9 : w27.cell? ⟨gb365, 9, none⟩ = some (.int .u32 0) := (blk_cell BK365.out 9).trans rfl; have hfz28_0 := blk_frozen BK365.out 0; have hfz28_1 := blk_frozen BK365.out 1; have hfz28_2 := blk_frozen BK365.out 2; have hfz28_3 := blk_frozen BK365.out 3; have hfz28_4 := blk_frozen BK365.out 4; have hfz28_5 := blk_frozen BK365.out 5; have hfz28_6 := blk_frozen BK365.out 6; have hfz28_7 := blk_frozen BK365.out 7; have hfz28_8 := blk_frozen BK365.out 8; have hfz28_9 := blk_frozen BK365.out 9; obtain ⟨Ao29, co29, eo29⟩ := Kd.R_slice HO361.out; subst eo29))
                    go_ret
                    exact ⟨by first | rfl | (simp [errW_none, errW_some] <;> rfl) | (simp [*, errW_none, errW_some] <;> rfl), by repeat (first | (with_reducible first | exact HB.out | apply below_alloc | apply pw_below_drewN | apply below_drew1 | refine below_set ?_ GE365.out) | exact HB.out)⟩
              · rw [if_neg c11] at H
                have c11b0 : (t344 == (rd t346 2)) = false := beq_eq_false_iff_ne.mpr c11
                have c11b1 : (t344 != (rd t346 2)) = true := bne_iff_ne.mpr c11
                exact absurd ((Option.some.inj H).trans HT.out) (by decide)
            · rw [if_neg c10] at H
              exact absurd H (by simp)
          · rw [if_neg c9] at H
            have c9b0 : (t343 == (rd t346 1)) = false := beq_eq_false_iff_ne.mpr c9
            have c9b1 : (t343 != (rd t346 1)) = true := bne_iff_ne.mpr c9
            exact absurd ((Option.some.inj H).trans HT.out) (by decide)
        · rw [if_neg c8] at H
          exact absurd H (by simp)
      · rw [if_neg c7] at H
        have c7b0 : (t342 == (rd t346 0)) = false := beq_eq_false_iff_ne.mpr c7
        have c7b1 : (t342 != (rd t346 0)) = true := bne_iff_ne.mpr c7
        exact absurd ((Option.some.inj H).trans HT.out) (by decide)
    · rw [if_neg c6] at H
      exact absurd H (by simp)
  · replace c3 := Bool.eq_false_iff.mpr c3
    subst c3
    have H1 : (some false) = some r := by rw [if_neg (show ¬ (false = true) by decide)] at H; exact H
    clear H
    have H := H1
    clear H1
    exact absurd ((Option.some.inj H).trans HT.out) (by decide)
def pyxlaw22_XmssNumbers.Pure : Prop := ∀ (a0 : Int), (Lit.int .i64 a0).wf = true → ∃ k, pyxlaw22_XmssNumbers.f k a0 = some true
theorem pyxlaw22_XmssNumbers.walk (P : pyxlaw22_XmssNumbers.Pure) (a0 : Int) (w : World) (w0 : (Lit.int .i64 a0).wf = true) (hG : GOK w) :
    Calls Tryz.prog 4 #[.int .i64 a0] w fun e w' => e = .returned (.bool true) ∧ Below w.heap.size w w' := by
  obtain ⟨k, h⟩ := P a0 w0
  refine (pyxlaw22_XmssNumbers.calls k a0 true w h hG rfl).mono ?_
  rintro e w' ⟨rfl, hd⟩
  exact ⟨rfl, hd⟩
end Go.Proofs.YtgmnknhfeoleaaaGreatDoor.PXmss
