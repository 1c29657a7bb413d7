import Derived.Test.YtijmigapdcikpaaDoorZPLmsx0
import Derived.Test.YtijmigapdcikpaaDoorZPLmsx3
import Derived.Test.YtijmigapdcikpaaDoorZPLmsx6
import Derived.Test.YtijmigapdcikpaaDoorZPLmsx8
import Derived.Test.YtijmigapdcikpaaDoorZPLmsx10
import Derived.Test.YtijmigapdcikpaaDoorZPLmsx13
import Derived.Test.YtijmigapdcikpaaDoorZPLmsx15
import Derived.Test.YtijmigapdcikpaaDoorZPLmsx16
namespace Go.Proofs.YtijmigapdcikpaaDoor.PLms
open Go.RowKit Go.Proofs.YtijmigapdcikpaaDoorW.PrintWords Go.Proofs.YtijmigapdcikpaaDoorW.PrintLast Go.Proofs.YtijmigapdcikpaaDoorW.PrintMore
attribute [local go_sem] max2_int min2_int max_two min_two max_three min_three max_four min_four
set_option linter.unusedVariables false
set_option linter.unusedSimpArgs false
mutual
def pyxlaw21_LmsCuts.j0 : Nat → List (S87) → Int → Bool → Option (Bool)
  | 0, _, _, _ => none
  | k + 1, x0, x1, x17 => if x17 = true then ((pyxlaw21_awake.f k).bind fun t368 => (some t368)) else ((pyxref21_Make.f k x0).bind fun t369 => ((pyxref21_Parse.f k t369).bind fun bt372 => (if 0 < (x0.length : Int) then ((pyxref21_HSS.f k 1 ((rd_T87 x0 0).f2) ((rd_T87 x0 0).f1) ((rd_T87 x0 0).f3)).bind fun t381 => ((pyxref21_Key.f k t381).bind fun bt384 => (if bt384.1 = 0 then (if 0 ≤ (Int.tmod (wrap64 (x1)) 60) then (if (Int.tmod (wrap64 (x1)) 60) ≤ (t381.length : Int) then ((lms_CheckKey.f (t381.take ((Int.tmod (wrap64 (x1)) 60) : Int).toNat)).bind fun t390 => ((pyxlaw21_told.f t390 3 (Int.tmod (wrap64 (x1)) 60)).bind fun t391 => (pyxlaw21_LmsCuts.j1 k x1 t369 (!t391) bt372.2.1 bt372.2.2))) else (none)) else (none)) else (pyxlaw21_LmsCuts.j1 k x1 t369 false bt372.2.1 bt372.2.2)))) else (none))))
def pyxlaw21_LmsCuts.j1 : Nat → Int → List Int → Bool → Int → Int → Option (Bool)
  | 0, _, _, _, _, _ => none
  | k + 1, x1, x5, x55, x378000, x378001 => if x55 = true then (some false) else (if (x5.length : Int) = 0 then (none) else (if x378000 = 0 then (if 0 ≤ (Int.tmod (wrap64 (x1)) (x5.length : Int)) then (if (Int.tmod (wrap64 (x1)) (x5.length : Int)) ≤ (x5.length : Int) then ((lms_CheckSignature.f (x5.take ((Int.tmod (wrap64 (x1)) (x5.length : Int)) : Int).toNat)).bind fun t396 => ((pyxlaw21_told.f t396 3 (Int.tmod (wrap64 (x1)) (x5.length : Int))).bind fun t397 => (some t397))) else (none)) else (none)) else (some true)))
end
def pyxlaw21_LmsCuts.f (k : Nat) (l0 : List (S87)) (a1 : Int) : Option (Bool) := (pyxlaw21_awake.f k).bind fun t366 => (if t366 = true then ((pyxlaw21_few.f k l0).bind fun t367 => (pyxlaw21_LmsCuts.j0 k l0 a1 (!t367))) else (pyxlaw21_LmsCuts.j0 k l0 a1 true))
def pyxlaw21_LmsCuts.T5 : Bool × List (List Nat × List Nat) := (true, [([], []), ([0], [0]), ([1], [1]), ([2], [2]), ([], []), ([4], [4]), ([5], [5]), ([6], [6]), ([], []), ([8], [8]), ([9], [9]), ([10], [10]), ([3, 7, 11], [3, 7, 11]), ([12, 12, 0, 1, 2, 3, 4, 5, 6, 7, 8, 9, 10, 11, 12], [12])])
def pyxlaw21_LmsCuts.B5 : List Nat := [0, 1, 3, 7, 0, 16, 48, 112, 0, 256, 768, 1792, 4095, 8191]
theorem pyxlaw21_LmsCuts.tab5 : rtab .any (opsOf Tryd.f10 5) = pyxlaw21_LmsCuts.T5 := by kernel_rfl
theorem pyxlaw21_LmsCuts.bits5 : waitsOk pyxlaw21_LmsCuts.T5.2 pyxlaw21_LmsCuts.B5 = true := by kernel_rfl
set_option maxHeartbeats 8000000 in
set_option maxRecDepth 100000 in
theorem pyxlaw21_LmsCuts.calls (k : Nat) (A0 : Option Addr) (c0 : Nat) (l0 : List (S87)) (a1 : Int) (r : Bool) (w : World) (hr0 : Kd.C k87 w A0 l0.length l0) (hc0 : l0.length ≤ c0) (h : pyxlaw21_LmsCuts.f k l0 a1 = some r) (hG : GOK w) (hr_ : r = true) :
    Calls Tryd.prog 10 #[.slice A0 l0.length c0, .int .u32 a1] w fun e w' => e = .returned (.bool r) ∧ Below w.heap.size w w' := by
  have HG := Aside0.mk hG
  clear hG
  have HT := Aside0.mk hr_
  clear hr_
  have hu65 := Tryd.underlying65
  have hfi_ : ∀ a b W, Sem.run Tryd.prog (Instr.field 65 (Value.agg #[.int .i64 a, .int .i64 b]) 0) W = .ok (.int .i64 a) W := fun _ _ _ => by rfl
  have HR0 := Aside0.mk hr0
  have HC0 := Aside0.mk hc0
  clear hr0 hc0
  have HB := Aside0.mk (Below.refl w.heap.size w)
  have H : ((pyxlaw21_awake.f k).bind fun t366 => (if t366 = true then ((pyxlaw21_few.f k l0).bind fun t367 => (pyxlaw21_LmsCuts.j0 k l0 a1 (!t367))) else (pyxlaw21_LmsCuts.j0 k l0 a1 true))) = some r := h
  clear h
  have HC3 := Aside0.mk H
  clear H
  go_enter Tryd.func10, Tryd.ntmps10
  go_upto_region 1 with (fail)
  go_cut [17] (fun v17 wc => ∃ (kq : Nat) (x17_2 : Bool), v17 = .bool x17_2 ∧ Aside0 (pyxlaw21_LmsCuts.j0 kq l0 a1 x17_2 = some r) ∧ Aside0 (kq ≤ k) ∧ Aside0 (Below w.heap.size w wc))
  case first =>
    have H := HC3.out
    clear HC3
    replace H := Option.bind_eq_some_iff.mp H
    obtain ⟨t366, A40, H⟩ := H
    replace H : (if t366 = true then ((pyxlaw21_few.f k l0).bind fun t367 => (pyxlaw21_LmsCuts.j0 k l0 a1 (!t367))) else (pyxlaw21_LmsCuts.j0 k l0 a1 true)) = some r := H
    have A4 := Aside0.mk A40
    clear A40
    by_cases c5 : t366 = true
    · subst c5
      have H1 : ((pyxlaw21_few.f k l0).bind fun t367 => (pyxlaw21_LmsCuts.j0 k l0 a1 (!t367))) = some r := by rw [if_pos rfl] at H; exact H
      clear H
      have H := H1
      clear H1
      replace H := Option.bind_eq_some_iff.mp H
      obtain ⟨t367, A60, H⟩ := H
      replace H : (pyxlaw21_LmsCuts.j0 k l0 a1 (!t367)) = some r := H
      have A6 := Aside0.mk A60
      clear A60
      have H' := Aside0.mk H
      clear H
      go_wp2_with (first | ((with_reducible refine gate_callee (f := 26) rfl ?_); refine goesL_ (some 11) rfl rfl Tryd.func26 (by kernel_rfl) rfl #[] rfl (by (try simp only [List.map_toArray, List.map_cons, List.map_nil]); first | done | rfl | (simp only [List.length_drop, List.length_take]; rfl)) ?_; (with_reducible refine (pyxlaw21_awake.calls k  true _ A4.out (by first | exact GOK.below HG.out (by repeat (first | (with_reducible first | exact HB.out | apply below_alloc | apply pw_below_drewN | apply below_drew1) | exact HB.out)) | (repeat (first | exact HG.out | apply GOK.drewN | apply GOK.drew)))).mono ?_); rintro e w7 ⟨rfl, hb⟩; refine ⟨_, rfl, ?_⟩; have n0_ := Aside0.mk (below_step (by repeat (first | (with_reducible first | exact HB.out | apply below_alloc | apply pw_below_drewN | apply below_drew1) | exact HB.out)) hb); clear HB; have HB := n0_; clear n0_; (try clear hb); (try clear hb2); (try clear hk); (try clear hi)) | (go_at_call 27; (with_reducible refine (pyxlaw21_few.calls k _ _ l0 t367 _ ?side1 ?side2 A6.out).mono ?_); (case side1 => repeat (first | exact (Kd.C_below HR0.out HB.out) | (with_reducible refine Kd.C_alloc ?_ _) | (with_reducible refine Kd.C_drewN ?_ _) | (with_reducible refine Kd.C_drew ?_))); (case side2 => exact HC0.out); rintro e w' ⟨rfl, ⟨nd, rfl⟩⟩))
      go_meet
      case rel => exact ⟨_, (!t367), (by first | rfl | (simp; done) | (simp [*]; done)), H', ⟨by first | omega | exact Nat.le_refl _⟩, ⟨by repeat (first | (with_reducible first | exact HB.out | apply below_alloc | apply pw_below_drewN | apply below_drew1) | exact HB.out)⟩⟩
    · replace c5 := Bool.eq_false_iff.mpr c5
      subst c5
      have H1 : (pyxlaw21_LmsCuts.j0 k l0 a1 true) = some r := by rw [if_neg (show ¬ (false = true) by decide)] at H; exact H
      clear H
      have H := H1
      clear H1
      have H' := Aside0.mk H
      clear H
      go_wp2_with (first | ((with_reducible refine gate_callee (f := 26) rfl ?_); refine goesL_ (some 11) rfl rfl Tryd.func26 (by kernel_rfl) rfl #[] rfl (by (try simp only [List.map_toArray, List.map_cons, List.map_nil]); first | done | rfl | (simp only [List.length_drop, List.length_take]; rfl)) ?_; (with_reducible refine (pyxlaw21_awake.calls k  false _ A4.out (by first | exact GOK.below HG.out (by repeat (first | (with_reducible first | exact HB.out | apply below_alloc | apply pw_below_drewN | apply below_drew1) | exact HB.out)) | (repeat (first | exact HG.out | apply GOK.drewN | apply GOK.drew)))).mono ?_); rintro e w8 ⟨rfl, hb⟩; refine ⟨_, rfl, ?_⟩; have n0_ := Aside0.mk (below_step (by repeat (first | (with_reducible first | exact HB.out | apply below_alloc | apply pw_below_drewN | apply below_drew1) | exact HB.out)) hb); clear HB; have HB := n0_; clear n0_; (try clear hb); (try clear hb2); (try clear hk); (try clear hi)))
      go_meet
      case rel => exact ⟨_, (true), (by first | rfl | (simp; done) | (simp [*]; done)), H', ⟨by first | omega | exact Nat.le_refl _⟩, ⟨by repeat (first | (with_reducible first | exact HB.out | apply below_alloc | apply pw_below_drewN | apply below_drew1) | exact HB.out)⟩⟩
  case rest =>
    clear HC3
    try clear c1
    try clear c2
    try clear p2
    try clear c5
    obtain ⟨kq, x17_2, rfl, HA, HJ2, HB⟩ := hcut
    cases kq with
    | zero => exact absurd HA.out (by simp [pyxlaw21_LmsCuts.j0])
    | succ kj2 =>
      have H := HA.out
      clear HA
      simp only [pyxlaw21_LmsCuts.j0] at H
      by_cases c9 : x17_2 = true
      · subst c9
        have H1 : ((pyxlaw21_awake.f kj2).bind fun t368 => (some t368)) = some r := by rw [if_pos rfl] at H; exact H
        clear H
        have H := H1
        clear H1
        replace H := Option.bind_eq_some_iff.mp H
        obtain ⟨t368, A100, H⟩ := H
        replace H : (some t368) = some r := H
        have A10 := Aside0.mk A100
        clear A100
        obtain rfl := Option.some.inj H
        go_wp2_with (first | ((with_reducible refine gate_callee (f := 26) rfl ?_); refine goesL_ (some 18) rfl rfl Tryd.func26 (by kernel_rfl) rfl #[] rfl (by (try simp only [List.map_toArray, List.map_cons, List.map_nil]); first | done | rfl | (simp only [List.length_drop, List.length_take]; rfl)) ?_; (with_reducible refine (pyxlaw21_awake.calls kj2  t368 _ A10.out (by first | exact GOK.below HG.out (by repeat (first | (with_reducible first | exact HB.out | apply below_alloc | apply pw_below_drewN | apply below_drew1) | exact HB.out)) | (repeat (first | exact HG.out | apply GOK.drewN | apply GOK.drew)))).mono ?_); rintro e w11 ⟨rfl, hb⟩; refine ⟨_, rfl, ?_⟩; have n0_ := Aside0.mk (below_step (by repeat (first | (with_reducible first | exact HB.out | apply below_alloc | apply pw_below_drewN | apply below_drew1) | exact HB.out)) hb); clear HB; have HB := n0_; clear n0_; (try clear hb); (try clear hb2); (try clear hk); (try clear hi)))
        go_ret
        exact ⟨by first | rfl | (simp [errW_none, errW_some] <;> rfl) | (simp [*, errW_none, errW_some] <;> rfl), by repeat (first | (with_reducible first | exact HB.out | apply below_alloc | apply pw_below_drewN | apply below_drew1) | exact HB.out)⟩
      · replace c9 := Bool.eq_false_iff.mpr c9
        subst c9
        have H1 : ((pyxref21_Make.f kj2 l0).bind fun t369 => ((pyxref21_Parse.f kj2 t369).bind fun bt372 => (if 0 < (l0.length : Int) then ((pyxref21_HSS.f kj2 1 ((rd_T87 l0 0).f2) ((rd_T87 l0 0).f1) ((rd_T87 l0 0).f3)).bind fun t381 => ((pyxref21_Key.f kj2 t381).bind fun bt384 => (if bt384.1 = 0 then (if 0 ≤ (Int.tmod (wrap64 (a1)) 60) then (if (Int.tmod (wrap64 (a1)) 60) ≤ (t381.length : Int) then ((lms_CheckKey.f (t381.take ((Int.tmod (wrap64 (a1)) 60) : Int).toNat)).bind fun t390 => ((pyxlaw21_told.f t390 3 (Int.tmod (wrap64 (a1)) 60)).bind fun t391 => (pyxlaw21_LmsCuts.j1 kj2 a1 t369 (!t391) bt372.2.1 bt372.2.2))) else (none)) else (none)) else (pyxlaw21_LmsCuts.j1 kj2 a1 t369 false bt372.2.1 bt372.2.2)))) else (none)))) = some r := by rw [if_neg (show ¬ (false = true) by decide)] at H; exact H
        clear H
        have H := H1
        clear H1
        replace H := Option.bind_eq_some_iff.mp H
        obtain ⟨t369, A120, H⟩ := H
        replace H : ((pyxref21_Parse.f kj2 t369).bind fun bt372 => (if 0 < (l0.length : Int) then ((pyxref21_HSS.f kj2 1 ((rd_T87 l0 0).f2) ((rd_T87 l0 0).f1) ((rd_T87 l0 0).f3)).bind fun t381 => ((pyxref21_Key.f kj2 t381).bind fun bt384 => (if bt384.1 = 0 then (if 0 ≤ (Int.tmod (wrap64 (a1)) 60) then (if (Int.tmod (wrap64 (a1)) 60) ≤ (t381.length : Int) then ((lms_CheckKey.f (t381.take ((Int.tmod (wrap64 (a1)) 60) : Int).toNat)).bind fun t390 => ((pyxlaw21_told.f t390 3 (Int.tmod (wrap64 (a1)) 60)).bind fun t391 => (pyxlaw21_LmsCuts.j1 kj2 a1 t369 (!t391) bt372.2.1 bt372.2.2))) else (none)) else (none)) else (pyxlaw21_LmsCuts.j1 kj2 a1 t369 false bt372.2.1 bt372.2.2)))) else (none))) = some r := H
        have A12 := Aside0.mk A120
        clear A120
        replace H := Option.bind_eq_some_iff.mp H
        obtain ⟨⟨t372, t375, t376⟩, A130, H⟩ := H
        replace H : (if 0 < (l0.length : Int) then ((pyxref21_HSS.f kj2 1 ((rd_T87 l0 0).f2) ((rd_T87 l0 0).f1) ((rd_T87 l0 0).f3)).bind fun t381 => ((pyxref21_Key.f kj2 t381).bind fun bt384 => (if bt384.1 = 0 then (if 0 ≤ (Int.tmod (wrap64 (a1)) 60) then (if (Int.tmod (wrap64 (a1)) 60) ≤ (t381.length : Int) then ((lms_CheckKey.f (t381.take ((Int.tmod (wrap64 (a1)) 60) : Int).toNat)).bind fun t390 => ((pyxlaw21_told.f t390 3 (Int.tmod (wrap64 (a1)) 60)).bind fun t391 => (pyxlaw21_LmsCuts.j1 kj2 a1 t369 (!t391) t375 t376))) else (none)) else (none)) else (pyxlaw21_LmsCuts.j1 kj2 a1 t369 false t375 t376)))) else (none)) = some r := H
        have A13 := Aside0.mk A130
        clear A130
        by_cases c14 : 0 < (l0.length : Int)
        · rw [if_pos c14] at H
          have c14b0 : decide (0 < (l0.length : Int)) = true := decide_eq_true c14
          have c14b1 : decide (0 < l0.length) = true := decide_eq_true (by omega)
          clear c14
          replace H := Option.bind_eq_some_iff.mp H
          obtain ⟨t381, A150, H⟩ := H
          replace H : ((pyxref21_Key.f kj2 t381).bind fun bt384 => (if bt384.1 = 0 then (if 0 ≤ (Int.tmod (wrap64 (a1)) 60) then (if (Int.tmod (wrap64 (a1)) 60) ≤ (t381.length : Int) then ((lms_CheckKey.f (t381.take ((Int.tmod (wrap64 (a1)) 60) : Int).toNat)).bind fun t390 => ((pyxlaw21_told.f t390 3 (Int.tmod (wrap64 (a1)) 60)).bind fun t391 => (pyxlaw21_LmsCuts.j1 kj2 a1 t369 (!t391) t375 t376))) else (none)) else (none)) else (pyxlaw21_LmsCuts.j1 kj2 a1 t369 false t375 t376))) = some r := H
          have A15 := Aside0.mk A150
          clear A150
          have HC16 := Aside0.mk H
          clear H
          try go_wp2_with (first | ((with_reducible refine gate_callee (f := 29) rfl ?_); refine goesL_ (some 20) rfl rfl Tryd.func29 (by kernel_rfl) rfl #[.slice A0 l0.length c0] rfl (by (try simp only [List.map_toArray, List.map_cons, List.map_nil]); first | done | rfl | (simp only [List.length_drop, List.length_take]; rfl)) ?_; (with_reducible refine (pyxref21_Make.calls kj2 _ _ l0 t369 _ ?side1 ?side2 A12.out).mono ?_); (case side1 => repeat (first | exact (Kd.C_below HR0.out HB.out) | (with_reducible refine Kd.C_alloc ?_ _) | (with_reducible refine Kd.C_drewN ?_ _) | (with_reducible refine Kd.C_drew ?_))); (case side2 => exact HC0.out); rintro e w17 ⟨v370, rfl, ho0, hb⟩; refine ⟨_, rfl, ?_⟩; have n0_ := Aside0.mk (Kd.R_lower ho0 (below_size (by repeat (first | (with_reducible first | exact HB.out | apply below_alloc | apply pw_below_drewN | apply below_drew1) | exact HB.out)))); have n1_ := Aside0.mk (below_step (by repeat (first | (with_reducible first | exact HB.out | apply below_alloc | apply pw_below_drewN | apply below_drew1) | exact HB.out)) hb); clear HB; have HO371 := n0_; have HB := n1_; clear n0_ n1_; (try clear hb); (try clear hb2); (try clear hk); (try clear hi); (try clear ho0); obtain ⟨Ao18, co18, eo18⟩ := Kd.R_slice HO371.out; subst eo18) | ((with_reducible refine gate_callee (f := 31) rfl ?_); refine goesL_ (some 23) rfl rfl Tryd.func31 (by kernel_rfl) rfl #[.slice Ao18 t369.length co18] rfl (by (try simp only [List.map_toArray, List.map_cons, List.map_nil]); first | done | rfl | (simp only [List.length_drop, List.length_take]; rfl)) ?_; (with_reducible refine (pyxref21_Parse.calls kj2 _ _ t369 t372 t375 t376 _ ?side1 ?side2 A13.out).mono ?_); (case side1 => repeat (first | exact (Kd.R_reads' HO371.out).2.2 | (with_reducible refine Kd.C_alloc ?_ _) | (with_reducible refine Kd.C_drewN ?_ _) | (with_reducible refine Kd.C_drew ?_))); (case side2 => exact (Kd.R_reads' HO371.out).2.1); rintro e w19 ⟨v373, rfl, ho0, hb⟩; refine ⟨_, rfl, ?_⟩; have n0_ := Aside0.mk (Kd.R_below (by (with_reducible repeat (first | apply Kd.R_alloc | apply Kd.R_drewN | apply Kd.R_drew)); exact HO371.out) hb); have n1_ := Aside0.mk (Kd.R_lower ho0 (below_size (by repeat (first | (with_reducible first | exact HB.out | apply below_alloc | apply pw_below_drewN | apply below_drew1) | exact HB.out)))); have n2_ := Aside0.mk (below_step (by repeat (first | (with_reducible first | exact HB.out | apply below_alloc | apply pw_below_drewN | apply below_drew1) | exact HB.out)) hb); clear HO371; clear HB; have HO371 := n0_; have HO374 := n1_; have HB := n2_; clear n0_ n1_ n2_; (try clear hb); (try clear hb2); (try clear hk); (try clear hi); (try clear ho0)) | ((with_reducible refine gate_dst (N := 7) rfl ?_); refine box_event ?hg (N := 7) ?hd (cs := #[.int .i64 0, .int .i64 0]) (t := 65) ?hr ?_; (case hd => rfl); (case hg => rfl); (case hr => first | (go_simp; done) | (go_simp; rfl)); intro gb377 hg w20 hbox hb; have n0_ := Aside0.mk (Kd.R_below (by (with_reducible repeat (first | apply Kd.R_alloc | apply Kd.R_drewN | apply Kd.R_drew)); exact HO371.out) hb); have n1_ := Aside0.mk (Kd.R_below (by (with_reducible repeat (first | apply Kd.R_alloc | apply Kd.R_drewN | apply Kd.R_drew)); exact HO374.out) hb); have n2_ := Aside0.mk (below_step (by repeat (first | (with_reducible first | exact HB.out | apply below_alloc | apply pw_below_drewN | apply below_drew1) | exact HB.out)) hb); have n3_ := Aside0.mk (hbox); have n4_ := Aside0.mk ((by rw [hg]; exact (below_size (by repeat (first | (with_reducible first | exact HB.out | apply below_alloc | apply pw_below_drewN | apply below_drew1) | exact HB.out))) : w.heap.size ≤ gb377)); have n5_ := Aside0.mk ((by rw [hg]; exact (below_size (by repeat (first | (with_reducible first | exact HB.out | apply below_alloc | apply pw_below_drewN | apply below_drew1) | exact HB.out))) : w.heap.size ≤ gb377)); clear HO371; clear HO374; clear HB; have HO371 := n0_; have HO374 := n1_; have HB := n2_; have BK377 := n3_; have GW377 := n4_; have GE377 := n5_; clear n0_ n1_ n2_ n3_ n4_ n5_; clear hb hbox hg; have hcz21_0 : w20.cell? ⟨gb377, 0, none⟩ = some (.int .i64 0) := (blk_cell BK377.out 0).trans rfl; have hcz21_1 : w20.cell? ⟨gb377, 1, none⟩ = some (.int .i64 0) := (blk_cell BK377.out 1).trans rfl; have hfz21_0 := blk_frozen BK377.out 0; have hfz21_1 := blk_frozen BK377.out 1))
          have n0_ : Aside0 (Kd.R (Kd.int .u8) 5 ((w20.setCell ⟨gb377, 0, none⟩ (.int .i64 t375)).setCell ⟨gb377, 1, none⟩ (.int .i64 t376)) w.heap.size (fun _ => True) (.slice Ao18 t369.length co18) t369) := ⟨by (with_reducible repeat (first | apply Kd.R_alloc | apply Kd.R_drewN | apply Kd.R_drew)); exact Kd.R_mono (Kd.R_far (p := ⟨gb377, 1, none⟩) (Kd.R_far (p := ⟨gb377, 0, none⟩) (Kd.R_types HO371.out BK377.out (by decide)) (fun _ hk => hk.2) (.int .i64 t375)) (fun _ hk => hk.2) (.int .i64 t376)) (fun _ hk => trivial)⟩
          have n1_ : Aside0 (Kd.R k72 72 ((w20.setCell ⟨gb377, 0, none⟩ (.int .i64 t375)).setCell ⟨gb377, 1, none⟩ (.int .i64 t376)) w.heap.size (fun _ => True) v373 t372) := ⟨by (with_reducible repeat (first | apply Kd.R_alloc | apply Kd.R_drewN | apply Kd.R_drew)); exact Kd.R_mono (Kd.R_far (p := ⟨gb377, 1, none⟩) (Kd.R_far (p := ⟨gb377, 0, none⟩) (Kd.R_types HO374.out BK377.out (by decide)) (fun _ hk => hk.2) (.int .i64 t375)) (fun _ hk => hk.2) (.int .i64 t376)) (fun _ hk => trivial)⟩
          have n2_ : Aside0 (((w20.setCell ⟨gb377, 0, none⟩ (.int .i64 t375)).setCell ⟨gb377, 1, none⟩ (.int .i64 t376)).heap[gb377]? = some (.cells #[.int .i64 t375, .int .i64 t376] 65 (0, 0))) := ⟨by (with_reducible repeat (first | refine blk_drewN ?_ _ | refine blk_drew ?_ | refine blk_alloc ?_ _)); refine blk_put (cs := #[.int .i64 t375, .int .i64 0]) ?_ 1 _ rfl; (with_reducible repeat (first | refine blk_drewN ?_ _ | refine blk_drew ?_ | refine blk_alloc ?_ _)); refine blk_put (cs := #[.int .i64 0, .int .i64 0]) ?_ 0 _ rfl; (with_reducible repeat (first | refine blk_drewN ?_ _ | refine blk_drew ?_ | refine blk_alloc ?_ _)); exact BK377.out⟩
          have n3_ : Aside0 (Below w.heap.size w ((w20.setCell ⟨gb377, 0, none⟩ (.int .i64 t375)).setCell ⟨gb377, 1, none⟩ (.int .i64 t376))) := ⟨by repeat (first | (with_reducible first | exact HB.out | apply below_alloc | apply pw_below_drewN | apply below_drew1 | refine below_set ?_ GE377.out) | exact HB.out)⟩
          (try clear HO371)
          (try clear HO374)
          (try clear BK377)
          (try clear HB)
          generalize ((w20.setCell ⟨gb377, 0, none⟩ (.int .i64 t375)).setCell ⟨gb377, 1, none⟩ (.int .i64 t376)) = w22 at n0_ n1_ n2_ n3_ ⊢
          have HO371 := n0_
          have HO374 := n1_
          have BK377 := n2_
          have HB := n3_
          clear n0_ n1_ n2_ n3_
          have n0_ := Aside0.mk (Kd.R_drew HO371.out)
          have n1_ := Aside0.mk (Kd.R_drew HO374.out)
          have n2_ := Aside0.mk (blk_drew BK377.out)
          have n3_ := Aside0.mk (below_drew1 HB.out)
          clear HO371
          clear HO374
          clear BK377
          clear HB
          have HO371 := n0_
          have HO374 := n1_
          have BK377 := n2_
          have HB := n3_
          clear n0_ n1_ n2_ n3_
          have p378 : 0 ≤ (0 : Int) := (by omega)
          have q378 : 0 < (l0.length : Int) := of_decide_eq_true (by first | (with_reducible assumption) | assumption)
          obtain ⟨ad378, e378, hx378_0, hx378_1, hx378_2, hx378_3⟩ := at_T87 HR0.out 0 p378 q378
          have hw378_3 := hx378_3
          (try rw [show ((0 : Int)).toNat = 0 from rfl] at hw378_3)
          (try rw [show 0 * 4 = 0 from rfl] at hw378_3)
          (try rw [Addr.add_zero'] at hw378_3)
          have hw378_2 := hx378_2
          (try rw [show ((0 : Int)).toNat = 0 from rfl] at hw378_2)
          (try rw [show 0 * 4 = 0 from rfl] at hw378_2)
          (try rw [Addr.add_zero'] at hw378_2)
          have hw378_1 := hx378_1
          (try rw [show ((0 : Int)).toNat = 0 from rfl] at hw378_1)
          (try rw [show 0 * 4 = 0 from rfl] at hw378_1)
          (try rw [Addr.add_zero'] at hw378_1)
          have hw378_0 := hx378_0
          (try rw [show ((0 : Int)).toNat = 0 from rfl] at hw378_0)
          (try rw [show 0 * 4 = 0 from rfl] at hw378_0)
          (try rw [Addr.add_zero'] at hw378_0)
          cases e378
          have qi378 : (0 < l0.length) = True := eq_true (by omega)
          (try rw [show ((0 : Int)).toNat = 0 from rfl] at hx378_0)
          (try rw [show 0 * 4 = 0 from rfl] at hx378_0)
          (try rw [Addr.add_zero'] at hx378_0)
          (try rw [show ((0 : Int)).toNat = 0 from rfl] at hx378_1)
          (try rw [show 0 * 4 = 0 from rfl] at hx378_1)
          (try rw [Addr.add_zero'] at hx378_1)
          (try rw [show ((0 : Int)).toNat = 0 from rfl] at hx378_2)
          (try rw [show 0 * 4 = 0 from rfl] at hx378_2)
          (try rw [Addr.add_zero'] at hx378_2)
          (try rw [show ((0 : Int)).toNat = 0 from rfl] at hx378_3)
          (try rw [show 0 * 4 = 0 from rfl] at hx378_3)
          (try rw [Addr.add_zero'] at hx378_3)
          replace hx378_0 := (HB.out.cell (World.block_lt_of_cell? w _ hx378_0)).trans hx378_0
          replace hx378_1 := (HB.out.cell (World.block_lt_of_cell? w _ hx378_1)).trans hx378_1
          replace hx378_2 := (HB.out.cell (World.block_lt_of_cell? w _ hx378_2)).trans hx378_2
          replace hx378_3 := (HB.out.cell (World.block_lt_of_cell? w _ hx378_3)).trans hx378_3
          replace p378 := eq_true p378
          replace q378 := eq_true q378
          have p379 : 0 ≤ (0 : Int) := (by omega)
          have q379 : 0 < (l0.length : Int) := of_decide_eq_true (by first | (with_reducible assumption) | assumption)
          obtain ⟨ad379, e379, hx379_0, hx379_1, hx379_2, hx379_3⟩ := at_T87 HR0.out 0 p379 q379
          have hw379_3 := hx379_3
          (try rw [show ((0 : Int)).toNat = 0 from rfl] at hw379_3)
          (try rw [show 0 * 4 = 0 from rfl] at hw379_3)
          (try rw [Addr.add_zero'] at hw379_3)
          have hw379_2 := hx379_2
          (try rw [show ((0 : Int)).toNat = 0 from rfl] at hw379_2)
          (try rw [show 0 * 4 = 0 from rfl] at hw379_2)
          (try rw [Addr.add_zero'] at hw379_2)
          have hw379_1 := hx379_1
          (try rw [show ((0 : Int)).toNat = 0 from rfl] at hw379_1)
          (try rw [show 0 * 4 = 0 from rfl] at hw379_1)
          (try rw [Addr.add_zero'] at hw379_1)
          have hw379_0 := hx379_0
          (try rw [show ((0 : Int)).toNat = 0 from rfl] at hw379_0)
          (try rw [show 0 * 4 = 0 from rfl] at hw379_0)
          (try rw [Addr.add_zero'] at hw379_0)
          obtain rfl : ad378 = ad379 := (by injection e379)
          have qi379 : (0 < l0.length) = True := eq_true (by omega)
          (try rw [show ((0 : Int)).toNat = 0 from rfl] at hx379_0)
          (try rw [show 0 * 4 = 0 from rfl] at hx379_0)
          (try rw [Addr.add_zero'] at hx379_0)
          (try rw [show ((0 : Int)).toNat = 0 from rfl] at hx379_1)
          (try rw [show 0 * 4 = 0 from rfl] at hx379_1)
          (try rw [Addr.add_zero'] at hx379_1)
          (try rw [show ((0 : Int)).toNat = 0 from rfl] at hx379_2)
          (try rw [show 0 * 4 = 0 from rfl] at hx379_2)
          (try rw [Addr.add_zero'] at hx379_2)
          (try rw [show ((0 : Int)).toNat = 0 from rfl] at hx379_3)
          (try rw [show 0 * 4 = 0 from rfl] at hx379_3)
          (try rw [Addr.add_zero'] at hx379_3)
          replace hx379_0 := (HB.out.cell (World.block_lt_of_cell? w _ hx379_0)).trans hx379_0
          replace hx379_1 := (HB.out.cell (World.block_lt_of_cell? w _ hx379_1)).trans hx379_1
          replace hx379_2 := (HB.out.cell (World.block_lt_of_cell? w _ hx379_2)).trans hx379_2
          replace hx379_3 := (HB.out.cell (World.block_lt_of_cell? w _ hx379_3)).trans hx379_3
          replace p379 := eq_true p379
          replace q379 := eq_true q379
          have p380 : 0 ≤ (0 : Int) := (by omega)
          have q380 : 0 < (l0.length : Int) := of_decide_eq_true (by first | (with_reducible assumption) | assumption)
          obtain ⟨ad380, e380, hx380_0, hx380_1, hx380_2, hx380_3⟩ := at_T87 HR0.out 0 p380 q380
          have hw380_3 := hx380_3
          (try rw [show ((0 : Int)).toNat = 0 from rfl] at hw380_3)
          (try rw [show 0 * 4 = 0 from rfl] at hw380_3)
          (try rw [Addr.add_zero'] at hw380_3)
          have hw380_2 := hx380_2
          (try rw [show ((0 : Int)).toNat = 0 from rfl] at hw380_2)
          (try rw [show 0 * 4 = 0 from rfl] at hw380_2)
          (try rw [Addr.add_zero'] at hw380_2)
          have hw380_1 := hx380_1
          (try rw [show ((0 : Int)).toNat = 0 from rfl] at hw380_1)
          (try rw [show 0 * 4 = 0 from rfl] at hw380_1)
          (try rw [Addr.add_zero'] at hw380_1)
          have hw380_0 := hx380_0
          (try rw [show ((0 : Int)).toNat = 0 from rfl] at hw380_0)
          (try rw [show 0 * 4 = 0 from rfl] at hw380_0)
          (try rw [Addr.add_zero'] at hw380_0)
          obtain rfl : ad378 = ad380 := (by injection e380)
          have qi380 : (0 < l0.length) = True := eq_true (by omega)
          (try rw [show ((0 : Int)).toNat = 0 from rfl] at hx380_0)
          (try rw [show 0 * 4 = 0 from rfl] at hx380_0)
          (try rw [Addr.add_zero'] at hx380_0)
          (try rw [show ((0 : Int)).toNat = 0 from rfl] at hx380_1)
          (try rw [show 0 * 4 = 0 from rfl] at hx380_1)
          (try rw [Addr.add_zero'] at hx380_1)
          (try rw [show ((0 : Int)).toNat = 0 from rfl] at hx380_2)
          (try rw [show 0 * 4 = 0 from rfl] at hx380_2)
          (try rw [Addr.add_zero'] at hx380_2)
          (try rw [show ((0 : Int)).toNat = 0 from rfl] at hx380_3)
          (try rw [show 0 * 4 = 0 from rfl] at hx380_3)
          (try rw [Addr.add_zero'] at hx380_3)
          replace hx380_0 := (HB.out.cell (World.block_lt_of_cell? w _ hx380_0)).trans hx380_0
          replace hx380_1 := (HB.out.cell (World.block_lt_of_cell? w _ hx380_1)).trans hx380_1
          replace hx380_2 := (HB.out.cell (World.block_lt_of_cell? w _ hx380_2)).trans hx380_2
          replace hx380_3 := (HB.out.cell (World.block_lt_of_cell? w _ hx380_3)).trans hx380_3
          replace p380 := eq_true p380
          replace q380 := eq_true q380
          refine start_ (n := 14) (S := fun w' => w'.cell? ad378 = some (.int .i64 ((rd_T87 l0 0).f0)) ∧ w'.cell? ⟨ad378.block, ad378.off + 1, none⟩ = some (.int .i64 ((rd_T87 l0 0).f1)) ∧ w'.cell? ⟨ad378.block, ad378.off + 2, none⟩ = some (.int .i64 ((rd_T87 l0 0).f2)) ∧ w'.cell? ⟨ad378.block, ad378.off + 3, none⟩ = some (.int .u32 ((rd_T87 l0 0).f3)) ∧ w'.cell? ad378 = some (.int .i64 ((rd_T87 l0 0).f0)) ∧ w'.cell? ⟨ad378.block, ad378.off + 1, none⟩ = some (.int .i64 ((rd_T87 l0 0).f1)) ∧ w'.cell? ⟨ad378.block, ad378.off + 2, none⟩ = some (.int .i64 ((rd_T87 l0 0).f2)) ∧ w'.cell? ⟨ad378.block, ad378.off + 3, none⟩ = some (.int .u32 ((rd_T87 l0 0).f3)) ∧ w'.cell? ad378 = some (.int .i64 ((rd_T87 l0 0).f0)) ∧ w'.cell? ⟨ad378.block, ad378.off + 1, none⟩ = some (.int .i64 ((rd_T87 l0 0).f1)) ∧ w'.cell? ⟨ad378.block, ad378.off + 2, none⟩ = some (.int .i64 ((rd_T87 l0 0).f2)) ∧ w'.cell? ⟨ad378.block, ad378.off + 3, none⟩ = some (.int .u32 ((rd_T87 l0 0).f3))) (ds := []) #[false, false, false, false, false, false, false, false, false, false, false, false, false, false] (by kernel_rfl) rfl rfl ⟨((HB.out.cell (World.block_lt_of_cell? w _ hw378_0)).trans hw378_0), ((HB.out.cell (World.block_lt_of_cell? w _ hw378_1)).trans hw378_1), ((HB.out.cell (World.block_lt_of_cell? w _ hw378_2)).trans hw378_2), ((HB.out.cell (World.block_lt_of_cell? w _ hw378_3)).trans hw378_3), ((HB.out.cell (World.block_lt_of_cell? w _ hw379_0)).trans hw379_0), ((HB.out.cell (World.block_lt_of_cell? w _ hw379_1)).trans hw379_1), ((HB.out.cell (World.block_lt_of_cell? w _ hw379_2)).trans hw379_2), ((HB.out.cell (World.block_lt_of_cell? w _ hw379_3)).trans hw379_3), ((HB.out.cell (World.block_lt_of_cell? w _ hw380_0)).trans hw380_0), ((HB.out.cell (World.block_lt_of_cell? w _ hw380_1)).trans hw380_1), ((HB.out.cell (World.block_lt_of_cell? w _ hw380_2)).trans hw380_2), ((HB.out.cell (World.block_lt_of_cell? w _ hw380_3)).trans hw380_3)⟩ (fun hHeld => ?_); refine with_tabW pyxlaw21_LmsCuts.tab5 pyxlaw21_LmsCuts.bits5 (fun HT_ HW_ => ?_)
          generalize w22.drew = w23 at HO371 HO374 BK377 HB hx378_0 hx378_1 hx378_2 hx378_3 hx379_0 hx379_1 hx379_2 hx379_3 hx380_0 hx380_1 hx380_2 hx380_3 hHeld ⊢
          refine pure_ (i := 0) (N := some 26) (v := ?_) (a' := ?_) #[true, false, false, false, false, false, false, false, false, false, false, false, false, false] rfl rfl (any_of HT_.out (by kernel_rfl)) (fun _ _ _ h => h) (Or.inl ⟨by rfl, ?_⟩) ?_ ?_
          rotate_left
          · intro w'
            go_simp
            with_reducible rfl
          rotate_left
          · simp only [Act.put, List.setIfInBounds_toArray, List.set_cons_zero, List.set_cons_succ, i64_w, i32_w]
            rfl
          refine pure_ (i := 1) (N := some 27) (v := ?_) (a' := ?_) #[true, true, false, false, false, false, false, false, false, false, false, false, false, false] rfl rfl (any_of HT_.out (by kernel_rfl)) (fun _ _ _ h => h) (Or.inl ⟨by rfl, ?_⟩) ?_ ?_
          rotate_left
          · intro w'
            go_simp
            with_reducible rfl
          rotate_left
          · simp only [Act.put, List.setIfInBounds_toArray, List.set_cons_zero, List.set_cons_succ, i64_w, i32_w]
            rfl
          refine pure_ (i := 2) (N := some 28) (v := ?_) (a' := ?_) #[true, true, true, false, false, false, false, false, false, false, false, false, false, false] rfl rfl (any_of HT_.out (by kernel_rfl)) (fun _ _ _ h => h) (Or.inl ⟨by rfl, ?_⟩) ?_ ?_
          rotate_left
          · intro w'
            go_simp
            with_reducible rfl
          rotate_left
          · simp only [Act.put, List.setIfInBounds_toArray, List.set_cons_zero, List.set_cons_succ, i64_w, i32_w]
            rfl
          refine pure_ (i := 4) (N := some 30) (v := ?_) (a' := ?_) #[true, true, true, false, true, false, false, false, false, false, false, false, false, false] rfl rfl (any_of HT_.out (by kernel_rfl)) (fun _ _ _ h => h) (Or.inl ⟨by rfl, ?_⟩) ?_ ?_
          rotate_left
          · intro w'
            go_simp
            with_reducible rfl
          rotate_left
          · simp only [Act.put, List.setIfInBounds_toArray, List.set_cons_zero, List.set_cons_succ, i64_w, i32_w]
            rfl
          refine pure_ (i := 5) (N := some 31) (v := ?_) (a' := ?_) #[true, true, true, false, true, true, false, false, false, false, false, false, false, false] rfl rfl (any_of HT_.out (by kernel_rfl)) (fun _ _ _ h => h) (Or.inl ⟨by rfl, ?_⟩) ?_ ?_
          rotate_left
          · intro w'
            go_simp
            with_reducible rfl
          rotate_left
          · simp only [Act.put, List.setIfInBounds_toArray, List.set_cons_zero, List.set_cons_succ, i64_w, i32_w]
            rfl
          refine pure_ (i := 6) (N := some 32) (v := ?_) (a' := ?_) #[true, true, true, false, true, true, true, false, false, false, false, false, false, false] rfl rfl (any_of HT_.out (by kernel_rfl)) (fun _ _ _ h => h) (Or.inl ⟨by rfl, ?_⟩) ?_ ?_
          rotate_left
          · intro w'
            go_simp
            with_reducible rfl
          rotate_left
          · simp only [Act.put, List.setIfInBounds_toArray, List.set_cons_zero, List.set_cons_succ, i64_w, i32_w]
            rfl
          refine pure_ (i := 8) (N := some 34) (v := ?_) (a' := ?_) #[true, true, true, false, true, true, true, false, true, false, false, false, false, false] rfl rfl (any_of HT_.out (by kernel_rfl)) (fun _ _ _ h => h) (Or.inl ⟨by rfl, ?_⟩) ?_ ?_
          rotate_left
          · intro w'
            go_simp
            with_reducible rfl
          rotate_left
          · simp only [Act.put, List.setIfInBounds_toArray, List.set_cons_zero, List.set_cons_succ, i64_w, i32_w]
            rfl
          refine pure_ (i := 9) (N := some 35) (v := ?_) (a' := ?_) #[true, true, true, false, true, true, true, false, true, true, false, false, false, false] rfl rfl (any_of HT_.out (by kernel_rfl)) (fun _ _ _ h => h) (Or.inl ⟨by rfl, ?_⟩) ?_ ?_
          rotate_left
          · intro w'
            go_simp
            with_reducible rfl
          rotate_left
          · simp only [Act.put, List.setIfInBounds_toArray, List.set_cons_zero, List.set_cons_succ, i64_w, i32_w]
            rfl
          refine pure_ (i := 10) (N := some 36) (v := ?_) (a' := ?_) #[true, true, true, false, true, true, true, false, true, true, true, false, false, false] rfl rfl (any_of HT_.out (by kernel_rfl)) (fun _ _ _ h => h) (Or.inl ⟨by rfl, ?_⟩) ?_ ?_
          rotate_left
          · intro w'
            go_simp
            with_reducible rfl
          rotate_left
          · simp only [Act.put, List.setIfInBounds_toArray, List.set_cons_zero, List.set_cons_succ, i64_w, i32_w]
            rfl
          refine take_ (i := 3) (N := some 29) (v := ?_) (a' := ?_) #[true, true, true, true, true, true, true, false, true, true, true, false, false, false] rfl rfl (take_ofW HT_.out HW_.out (by kernel_rfl)) (fun _ _ _ h => h) (Or.inl ⟨by rfl, ?_⟩) hHeld ?_ ?_
          rotate_left
          · rintro w' ⟨s0, s1, s2, s3, s4, s5, s6, s7, s8, s9, s10, s11⟩
            go_simp
            with_reducible rfl
          rotate_left
          · simp only [Act.put, List.setIfInBounds_toArray, List.set_cons_zero, List.set_cons_succ, i64_w, i32_w]
            rfl
          refine take_ (i := 7) (N := some 33) (v := ?_) (a' := ?_) #[true, true, true, true, true, true, true, true, true, true, true, false, false, false] rfl rfl (take_ofW HT_.out HW_.out (by kernel_rfl)) (fun _ _ _ h => h) (Or.inl ⟨by rfl, ?_⟩) hHeld ?_ ?_
          rotate_left
          · rintro w' ⟨s0, s1, s2, s3, s4, s5, s6, s7, s8, s9, s10, s11⟩
            go_simp
            with_reducible rfl
          rotate_left
          · simp only [Act.put, List.setIfInBounds_toArray, List.set_cons_zero, List.set_cons_succ, i64_w, i32_w]
            rfl
          refine take_ (i := 11) (N := some 37) (v := ?_) (a' := ?_) #[true, true, true, true, true, true, true, true, true, true, true, true, false, false] rfl rfl (take_ofW HT_.out HW_.out (by kernel_rfl)) (fun _ _ _ h => h) (Or.inl ⟨by rfl, ?_⟩) hHeld ?_ ?_
          rotate_left
          · rintro w' ⟨s0, s1, s2, s3, s4, s5, s6, s7, s8, s9, s10, s11⟩
            go_simp
            with_reducible rfl
          rotate_left
          · simp only [Act.put, List.setIfInBounds_toArray, List.set_cons_zero, List.set_cons_succ, i64_w, i32_w]
            rfl
          refine one_ (i := 12) (N := some 38) #[true, true, true, true, true, true, true, true, true, true, true, true, true, false] rfl rfl (one_of HT_.out (by kernel_rfl)) (by decide) (fun K hK => ?_)
          refine goes_ Tryd.func41 (by kernel_rfl) rfl #[.int .i64 1, .int .i64 ((rd_T87 l0 0).f2), .int .i64 ((rd_T87 l0 0).f1), .int .u32 ((rd_T87 l0 0).f3)] (by rfl) rfl rfl (by (try simp only [List.map_toArray, List.map_cons, List.map_nil]); first | done | rfl | (simp only [List.length_drop, List.length_take]; rfl)) ?_
          with_reducible refine (pyxref21_HSS.calls kj2 1 ((rd_T87 l0 0).f2) ((rd_T87 l0 0).f1) ((rd_T87 l0 0).f3) t381 _ A15.out).mono ?_
          rintro e w24 ⟨v382, rfl, ho0, hb⟩
          refine ⟨_, rfl, ?_⟩
          have n0_ := Aside0.mk (Kd.R_elder' (by (with_reducible repeat (first | apply Kd.R_alloc | apply Kd.R_drewN | apply Kd.R_drew)); exact HO371.out) (Kd.R_base ho0) hb)
          have n1_ := Aside0.mk (Kd.R_below (by (with_reducible repeat (first | apply Kd.R_alloc | apply Kd.R_drewN | apply Kd.R_drew)); exact HO374.out) hb)
          have n2_ := Aside0.mk (Kd.R_lower (Kd.R_new' ho0 (Kd.R_lt (by (with_reducible repeat (first | apply Kd.R_alloc | apply Kd.R_drewN | apply Kd.R_drew)); exact HO371.out))) (below_size (by repeat (first | (with_reducible first | exact HB.out | apply below_alloc | apply pw_below_drewN | apply below_drew1 | refine below_set ?_ GE377.out) | exact HB.out))))
          have n3_ := Aside0.mk (blk_below (g := gb377) (o := .cells #[.int .i64 t375, .int .i64 t376] 65 (0, 0)) (by (with_reducible repeat (first | refine blk_drewN ?_ _ | refine blk_drew ?_ | refine blk_alloc ?_ _)); exact BK377.out) hb)
          have n4_ := Aside0.mk (below_step (by repeat (first | (with_reducible first | exact HB.out | apply below_alloc | apply pw_below_drewN | apply below_drew1 | refine below_set ?_ GE377.out) | exact HB.out)) hb)
          clear HO371
          clear HO374
          clear BK377
          clear HB
          have HO371 := n0_
          have HO374 := n1_
          have HO383 := n2_
          have BK377 := n3_
          have HB := n4_
          clear n0_ n1_ n2_ n3_ n4_
          (try clear hb)
          (try clear hb2)
          (try clear hk)
          (try clear hi)
          (try clear ho0)
          refine hK.out _ _ ⟨((HB.out.cell (World.block_lt_of_cell? w _ hw378_0)).trans hw378_0), ((HB.out.cell (World.block_lt_of_cell? w _ hw378_1)).trans hw378_1), ((HB.out.cell (World.block_lt_of_cell? w _ hw378_2)).trans hw378_2), ((HB.out.cell (World.block_lt_of_cell? w _ hw378_3)).trans hw378_3), ((HB.out.cell (World.block_lt_of_cell? w _ hw379_0)).trans hw379_0), ((HB.out.cell (World.block_lt_of_cell? w _ hw379_1)).trans hw379_1), ((HB.out.cell (World.block_lt_of_cell? w _ hw379_2)).trans hw379_2), ((HB.out.cell (World.block_lt_of_cell? w _ hw379_3)).trans hw379_3), ((HB.out.cell (World.block_lt_of_cell? w _ hw380_0)).trans hw380_0), ((HB.out.cell (World.block_lt_of_cell? w _ hw380_1)).trans hw380_1), ((HB.out.cell (World.block_lt_of_cell? w _ hw380_2)).trans hw380_2), ((HB.out.cell (World.block_lt_of_cell? w _ hw380_3)).trans hw380_3)⟩ (fun hHeld => ?_)
          clear hK K
          refine norm_ (a' := ?_) ?_ ?_
          rotate_left
          · show Act.put _ (some 38) _ = _
            simp only [Act.put, List.setIfInBounds_toArray, List.set_cons_zero, List.set_cons_succ, i64_w, i32_w]
            rfl
          refine pure_ (i := 13) (N := some 8) (v := ?_) (a' := ?_) #[true, true, true, true, true, true, true, true, true, true, true, true, true, true] rfl rfl (any_of HT_.out (by kernel_rfl)) (fun _ _ _ h => h) (Or.inl ⟨by rfl, ?_⟩) ?_ ?_
          rotate_left
          · intro w'
            go_simp
            with_reducible rfl
          rotate_left
          · simp only [Act.put, List.setIfInBounds_toArray, List.set_cons_zero, List.set_cons_succ, i64_w, i32_w]
            rfl
          refine done_ (done_of HT_.out (by kernel_rfl)) ?_
          go_upto_region 7 with (fail)
          go_cut [55] (fun v55 wc => ∃ (kq : Nat) (x55_15 : Bool), v55 = .bool x55_15 ∧ Aside0 (pyxlaw21_LmsCuts.j1 kq a1 t369 x55_15 t375 t376 = some r) ∧ Aside0 (kq ≤ kj2) ∧ Aside0 (Kd.R (Kd.int .u8) 5 wc w.heap.size (fun _ => True) (.slice Ao18 t369.length co18) t369) ∧ Aside0 (wc.heap[gb377]? = some (.cells #[.int .i64 t375, .int .i64 t376] 65 (0, 0))) ∧ Aside0 (Below w.heap.size w wc))
          case first =>
            have H := HC16.out
            clear HC16
            replace H := Option.bind_eq_some_iff.mp H
            obtain ⟨⟨t384, t385⟩, A250, H⟩ := H
            replace H : (if t384 = 0 then (if 0 ≤ (Int.tmod (wrap64 (a1)) 60) then (if (Int.tmod (wrap64 (a1)) 60) ≤ (t381.length : Int) then ((lms_CheckKey.f (t381.take ((Int.tmod (wrap64 (a1)) 60) : Int).toNat)).bind fun t390 => ((pyxlaw21_told.f t390 3 (Int.tmod (wrap64 (a1)) 60)).bind fun t391 => (pyxlaw21_LmsCuts.j1 kj2 a1 t369 (!t391) t375 t376))) else (none)) else (none)) else (pyxlaw21_LmsCuts.j1 kj2 a1 t369 false t375 t376)) = some r := H
            have A25 := Aside0.mk A250
            clear A250
            by_cases c26 : t384 = 0
            · rw [if_pos c26] at H
              have c26b0 : (t384 == 0) = true := beq_iff_eq.mpr c26
              have c26b1 : (t384 != 0) = false := bne_eq_false_iff_eq.mpr c26
              clear c26
              (first | rw [c26b0] | (simp only [i64_w, i32_w]; rw [c26b0]) | skip)
              obtain ⟨ji27, hji27⟩ : ∃ j_ : Int, (Int.tmod (wrap64 (a1)) 60) = j_ := ⟨_, rfl⟩
              replace H : (if 0 ≤ (ji27) then (if (ji27) ≤ (t381.length : Int) then ((lms_CheckKey.f (t381.take ((ji27) : Int).toNat)).bind fun t390 => ((pyxlaw21_told.f t390 3 (ji27)).bind fun t391 => (pyxlaw21_LmsCuts.j1 kj2 a1 t369 (!t391) t375 t376))) else (none)) else (none)) = some r := by first | (rw [hji27] at H; exact H) | (simp only [hji27] at H ⊢; exact H)
              (try rw [hji27] at A25)
              by_cases c28 : 0 ≤ (ji27)
              · rw [if_pos c28] at H
                have c28b0 := eq_true c28
                have c28b1 : decide (0 ≤ (ji27)) = true := decide_eq_true c28
                clear c28
                by_cases c29 : (ji27) ≤ (t381.length : Int)
                · rw [if_pos c29] at H
                  have c29b0 := eq_true c29
                  have c29b1 : decide ((ji27) ≤ (t381.length : Int)) = true := decide_eq_true c29
                  clear c29
                  obtain ⟨y386, hy386⟩ : ∃ y_ : List Int, y_ = (t381.take ((ji27) : Int).toNat) := ⟨_, rfl⟩
                  replace H : ((lms_CheckKey.f y386).bind fun t390 => ((pyxlaw21_told.f t390 3 (ji27)).bind fun t391 => (pyxlaw21_LmsCuts.j1 kj2 a1 t369 (!t391) t375 t376))) = some r := by first | (rw [hy386]; with_reducible exact H) | (have H2_ := (Option.bind_some _ _).symm.trans H; rw [hy386]; with_reducible exact H2_) | (have H2_ := (Option.bind_some _ _).symm.trans H; with_reducible exact H2_) | with_reducible exact H | (rw [hy386]; exact H) | exact H
                  have Ny386 := Aside0.mk hy386
                  clear hy386
                  replace H := Option.bind_eq_some_iff.mp H
                  obtain ⟨t390, A300, H⟩ := H
                  replace H : ((pyxlaw21_told.f t390 3 (ji27)).bind fun t391 => (pyxlaw21_LmsCuts.j1 kj2 a1 t369 (!t391) t375 t376)) = some r := H
                  have A30 := Aside0.mk A300
                  clear A300
                  replace H := Option.bind_eq_some_iff.mp H
                  obtain ⟨t391, A310, H⟩ := H
                  replace H : (pyxlaw21_LmsCuts.j1 kj2 a1 t369 (!t391) t375 t376) = some r := H
                  have A31 := Aside0.mk A310
                  clear A310
                  have H' := Aside0.mk H
                  clear H
                  obtain ⟨Ao32, co32, eo32⟩ := Kd.R_slice HO383.out
                  subst eo32
                  go_wp2_with (first | ((with_reducible refine gate_callee (f := 42) rfl ?_); refine goesL_ (some 43) rfl rfl Tryd.func42 (by kernel_rfl) rfl #[.slice Ao32 t381.length co32] rfl (by (try simp only [List.map_toArray, List.map_cons, List.map_nil]); first | done | rfl | (simp only [List.length_drop, List.length_take]; rfl)) ?_; (with_reducible refine (pyxref21_Key.calls kj2 _ _ t381 t384 t385 _ ?side1 ?side2 A25.out).mono ?_); (case side1 => repeat (first | exact (Kd.R_reads' HO383.out).2.2 | (with_reducible refine Kd.C_alloc ?_ _) | (with_reducible refine Kd.C_drewN ?_ _) | (with_reducible refine Kd.C_drew ?_))); (case side2 => exact (Kd.R_reads' HO383.out).2.1); rintro e w33 ⟨rfl, hb⟩; refine ⟨_, rfl, ?_⟩; have n0_ := Aside0.mk (Kd.R_below (by (with_reducible repeat (first | apply Kd.R_alloc | apply Kd.R_drewN | apply Kd.R_drew)); exact HO371.out) hb); have n1_ := Aside0.mk (Kd.R_below (by (with_reducible repeat (first | apply Kd.R_alloc | apply Kd.R_drewN | apply Kd.R_drew)); exact HO374.out) hb); have n2_ := Aside0.mk (Kd.R_below (by (with_reducible repeat (first | apply Kd.R_alloc | apply Kd.R_drewN | apply Kd.R_drew)); exact HO383.out) hb); have n3_ := Aside0.mk (blk_below (g := gb377) (o := .cells #[.int .i64 t375, .int .i64 t376] 65 (0, 0)) (by (with_reducible repeat (first | refine blk_drewN ?_ _ | refine blk_drew ?_ | refine blk_alloc ?_ _)); exact BK377.out) hb); have n4_ := Aside0.mk (below_step (by repeat (first | (with_reducible first | exact HB.out | apply below_alloc | apply pw_below_drewN | apply below_drew1 | refine below_set ?_ GE377.out) | exact HB.out)) hb); clear HO371; clear HO374; clear HO383; clear BK377; clear HB; have HO371 := n0_; have HO374 := n1_; have HO383 := n2_; have BK377 := n3_; have HB := n4_; clear n0_ n1_ n2_ n3_ n4_; (try clear hb); (try clear hb2); (try clear hk); (try clear hi); have q34 : ((ji27) : Int) ≤ ((t381.length : Int) : Int) := of_decide_eq_true (by first | (with_reducible assumption) | assumption); obtain ⟨i034, hi034, _, hsz34, _⟩ := info_parts info5; have hroom34 : t381.length ≤ co32 := (Kd.R_reads' HO383.out).2.1; have hC34 : Kd.C (Kd.int .u8) _ Ao32 t381.length t381 := (Kd.R_reads' HO383.out).2.2; have hcut34 := cut_to (P := Tryd.prog) 22 5 .i64 Tryd.underlying22 hi034 Ao32 t381.length co32 (ji27) (of_decide_eq_true (by first | (with_reducible assumption) | assumption)) q34 hroom34; have hr34 := Kd.C_take (m := ((ji27) : Int).toNat) hC34 (by omega); have hy34 : y386.length = ((ji27) : Int).toNat := (by rw [Ny386.out, List.length_take]; omega); rw [← Ny386.out] at hr34; rw [← hy34] at hcut34; have HR389 := Aside0.mk hr34; have HC389 := Aside0.mk (show y386.length ≤ co32 from by omega); clear hr34 hC34 hroom34 hi034 hsz34; have KY34 := Aside0.mk hy34; clear hy34; have KL34 := Aside0.mk (show ((ji27) : Int).toNat ≤ t381.length from by omega); replace q34 := eq_true q34) | (go_at_call 43; (with_reducible refine (lms_CheckKey.calls _ _ y386 t390 _ ?side1 ?side2 A30.out (by first | exact GOK.below HG.out (by repeat (first | (with_reducible first | exact HB.out | apply below_alloc | apply pw_below_drewN | apply below_drew1 | refine below_set ?_ GE377.out) | exact HB.out)) | (repeat (first | exact HG.out | apply GOK.drewN | apply GOK.drew)))).mono ?_); (case side1 => repeat (first | exact (by repeat (first | (with_reducible exact HR389.out) | (with_reducible refine Kd.C_alloc ?_ _) | (with_reducible refine Kd.C_drewN ?_ _) | (with_reducible refine Kd.C_drew ?_) | exact HR389.out)) | (with_reducible refine Kd.C_alloc ?_ _) | (with_reducible refine Kd.C_drewN ?_ _) | (with_reducible refine Kd.C_drew ?_))); (case side2 => exact HC389.out); rintro e w35 ⟨rfl, hb⟩; have n0_ := Aside0.mk (Kd.R_below (by (with_reducible repeat (first | apply Kd.R_alloc | apply Kd.R_drewN | apply Kd.R_drew)); exact HO371.out) hb); have n1_ := Aside0.mk (Kd.R_below (by (with_reducible repeat (first | apply Kd.R_alloc | apply Kd.R_drewN | apply Kd.R_drew)); exact HO374.out) hb); have n2_ := Aside0.mk (Kd.R_below (by (with_reducible repeat (first | apply Kd.R_alloc | apply Kd.R_drewN | apply Kd.R_drew)); exact HO383.out) hb); have n3_ := Aside0.mk (blk_below (g := gb377) (o := .cells #[.int .i64 t375, .int .i64 t376] 65 (0, 0)) (by (with_reducible repeat (first | refine blk_drewN ?_ _ | refine blk_drew ?_ | refine blk_alloc ?_ _)); exact BK377.out) hb); have n4_ := Aside0.mk (Kd.C_below (by repeat (first | (with_reducible exact HR389.out) | (with_reducible refine Kd.C_alloc ?_ _) | (with_reducible refine Kd.C_drewN ?_ _) | (with_reducible refine Kd.C_drew ?_) | exact HR389.out)) hb); have n5_ := Aside0.mk (below_step (by repeat (first | (with_reducible first | exact HB.out | apply below_alloc | apply pw_below_drewN | apply below_drew1 | refine below_set ?_ GE377.out) | exact HB.out)) hb); clear HO371; clear HO374; clear HO383; clear BK377; clear HR389; clear HB; have HO371 := n0_; have HO374 := n1_; have HO383 := n2_; have BK377 := n3_; have HR389 := n4_; have HB := n5_; clear n0_ n1_ n2_ n3_ n4_ n5_; (try clear hb); (try clear hb2); (try clear hk); (try clear hi); (try simp only [errW_none, errW_some]); have CA31 := fun W => pyxlaw21_told.calls t390 3 ji27 t391 W A31.out; try simp only [errW_none, errW_some] at CA31) | (go_at_call 32; (with_reducible refine (CA31 _ (by first | exact GOK.below HG.out (by repeat (first | (with_reducible first | exact HB.out | apply below_alloc | apply pw_below_drewN | apply below_drew1 | refine below_set ?_ GE377.out) | exact HB.out)) | (repeat (first | exact HG.out | apply GOK.drewN | apply GOK.drew)))).mono ?_); rintro e w36 ⟨rfl, hb⟩; have n0_ := Aside0.mk (Kd.R_below (by (with_reducible repeat (first | apply Kd.R_alloc | apply Kd.R_drewN | apply Kd.R_drew)); exact HO371.out) hb); have n1_ := Aside0.mk (Kd.R_below (by (with_reducible repeat (first | apply Kd.R_alloc | apply Kd.R_drewN | apply Kd.R_drew)); exact HO374.out) hb); have n2_ := Aside0.mk (Kd.R_below (by (with_reducible repeat (first | apply Kd.R_alloc | apply Kd.R_drewN | apply Kd.R_drew)); exact HO383.out) hb); have n3_ := Aside0.mk (blk_below (g := gb377) (o := .cells #[.int .i64 t375, .int .i64 t376] 65 (0, 0)) (by (with_reducible repeat (first | refine blk_drewN ?_ _ | refine blk_drew ?_ | refine blk_alloc ?_ _)); exact BK377.out) hb); have n4_ := Aside0.mk (Kd.C_below (by repeat (first | (with_reducible exact HR389.out) | (with_reducible refine Kd.C_alloc ?_ _) | (with_reducible refine Kd.C_drewN ?_ _) | (with_reducible refine Kd.C_drew ?_) | exact HR389.out)) hb); have n5_ := Aside0.mk (below_step (by repeat (first | (with_reducible first | exact HB.out | apply below_alloc | apply pw_below_drewN | apply below_drew1 | refine below_set ?_ GE377.out) | exact HB.out)) hb); clear HO371; clear HO374; clear HO383; clear BK377; clear HR389; clear HB; have HO371 := n0_; have HO374 := n1_; have HO383 := n2_; have BK377 := n3_; have HR389 := n4_; have HB := n5_; clear n0_ n1_ n2_ n3_ n4_ n5_; (try clear hb); (try clear hb2); (try clear hk); (try clear hi)))
                  subst hji27
                  go_meet
                  case rel => exact ⟨_, (!t391), (by first | rfl | (simp; done) | (simp [*]; done)), H', ⟨by have := HJ2.out; first | omega | exact Nat.le_refl _⟩, ⟨by (with_reducible repeat (first | apply Kd.R_alloc | apply Kd.R_drewN | apply Kd.R_drew)); exact Kd.R_mono HO371.out (fun _ hk => trivial)⟩, ⟨by (with_reducible repeat (first | refine blk_drewN ?_ _ | refine blk_drew ?_ | refine blk_alloc ?_ _)); exact BK377.out⟩, ⟨by repeat (first | (with_reducible first | exact HB.out | apply below_alloc | apply pw_below_drewN | apply below_drew1 | refine below_set ?_ GE377.out) | exact HB.out)⟩⟩
                · rw [if_neg c29] at H
                  exact absurd H (by simp)
              · rw [if_neg c28] at H
                exact absurd H (by simp)
            · rw [if_neg c26] at H
              have c26b0 : (t384 == 0) = false := beq_eq_false_iff_ne.mpr c26
              have c26b1 : (t384 != 0) = true := bne_iff_ne.mpr c26
              (first | rw [c26b0] | (simp only [i64_w, i32_w]; rw [c26b0]) | skip)
              have H' := Aside0.mk H
              clear H
              obtain ⟨Ao37, co37, eo37⟩ := Kd.R_slice HO383.out
              subst eo37
              go_wp2_with (first | ((with_reducible refine gate_callee (f := 42) rfl ?_); refine goesL_ (some 43) rfl rfl Tryd.func42 (by kernel_rfl) rfl #[.slice Ao37 t381.length co37] rfl (by (try simp only [List.map_toArray, List.map_cons, List.map_nil]); first | done | rfl | (simp only [List.length_drop, List.length_take]; rfl)) ?_; (with_reducible refine (pyxref21_Key.calls kj2 _ _ t381 t384 t385 _ ?side1 ?side2 A25.out).mono ?_); (case side1 => repeat (first | exact (Kd.R_reads' HO383.out).2.2 | (with_reducible refine Kd.C_alloc ?_ _) | (with_reducible refine Kd.C_drewN ?_ _) | (with_reducible refine Kd.C_drew ?_))); (case side2 => exact (Kd.R_reads' HO383.out).2.1); rintro e w38 ⟨rfl, hb⟩; refine ⟨_, rfl, ?_⟩; have n0_ := Aside0.mk (Kd.R_below (by (with_reducible repeat (first | apply Kd.R_alloc | apply Kd.R_drewN | apply Kd.R_drew)); exact HO371.out) hb); have n1_ := Aside0.mk (Kd.R_below (by (with_reducible repeat (first | apply Kd.R_alloc | apply Kd.R_drewN | apply Kd.R_drew)); exact HO374.out) hb); have n2_ := Aside0.mk (Kd.R_below (by (with_reducible repeat (first | apply Kd.R_alloc | apply Kd.R_drewN | apply Kd.R_drew)); exact HO383.out) hb); have n3_ := Aside0.mk (blk_below (g := gb377) (o := .cells #[.int .i64 t375, .int .i64 t376] 65 (0, 0)) (by (with_reducible repeat (first | refine blk_drewN ?_ _ | refine blk_drew ?_ | refine blk_alloc ?_ _)); exact BK377.out) hb); have n4_ := Aside0.mk (below_step (by repeat (first | (with_reducible first | exact HB.out | apply below_alloc | apply pw_below_drewN | apply below_drew1 | refine below_set ?_ GE377.out) | exact HB.out)) hb); clear HO371; clear HO374; clear HO383; clear BK377; clear HB; have HO371 := n0_; have HO374 := n1_; have HO383 := n2_; have BK377 := n3_; have HB := n4_; clear n0_ n1_ n2_ n3_ n4_; (try clear hb); (try clear hb2); (try clear hk); (try clear hi)))
              go_meet
              case rel => exact ⟨_, (false), (by first | rfl | (simp; done) | (simp [*]; done)), H', ⟨by have := HJ2.out; first | omega | exact Nat.le_refl _⟩, ⟨by (with_reducible repeat (first | apply Kd.R_alloc | apply Kd.R_drewN | apply Kd.R_drew)); exact Kd.R_mono HO371.out (fun _ hk => trivial)⟩, ⟨by (with_reducible repeat (first | refine blk_drewN ?_ _ | refine blk_drew ?_ | refine blk_alloc ?_ _)); exact BK377.out⟩, ⟨by repeat (first | (with_reducible first | exact HB.out | apply below_alloc | apply pw_below_drewN | apply below_drew1 | refine below_set ?_ GE377.out) | exact HB.out)⟩⟩
          case rest =>
            clear HC16
            try clear c1
            try clear c2
            try clear p2
            try clear c3
            try clear p3
            try clear q3
            try clear hx3
            try clear qi3
            try clear c4
            try clear c5
            try clear p6
            try clear c9
            try clear c10
            try clear c14
            try clear c14b0
            try clear c14b1
            try clear c26
            try clear c26b0
            try clear c26b1
            try clear c28
            try clear c28b0
            try clear c28b1
            try clear c29
            try clear c29b0
            try clear c29b1
            try clear c31
            try clear q34
            try clear p37
            try clear q37
            try clear hx37
            try clear qi37
            try clear p38
            try clear q38
            try clear hx38
            try clear qi38
            try clear hcz21_0
            try clear hcz21_1
            try clear hfz21_0
            try clear hfz21_1
            try clear hx378_0
            try clear hx378_1
            try clear hx378_2
            try clear hx378_3
            try clear hx379_0
            try clear hx379_1
            try clear hx379_2
            try clear hx379_3
            try clear hx380_0
            try clear hx380_1
            try clear hx380_2
            try clear hx380_3
            try clear p2
            try clear p378
            try clear p379
            try clear p380
            try clear q34
            try clear q378
            try clear q379
            try clear q380
            obtain ⟨kq, x55_15, rfl, HA, HJ15, HO_5, BK377, HB⟩ := hcut
            cases kq with
            | zero => exact absurd HA.out (by simp [pyxlaw21_LmsCuts.j1])
            | succ kj15 =>
              have H := HA.out
              clear HA
              simp only [pyxlaw21_LmsCuts.j1] at H
              by_cases c39 : x55_15 = true
              · subst c39
                have H1 : (some false) = some r := by rw [if_pos rfl] at H; exact H
                clear H
                have H := H1
                clear H1
                exact absurd ((Option.some.inj H).trans HT.out) (by decide)
              · replace c39 := Bool.eq_false_iff.mpr c39
                subst c39
                have H1 : (if (t369.length : Int) = 0 then (none) else (if t375 = 0 then (if 0 ≤ (Int.tmod (wrap64 (a1)) (t369.length : Int)) then (if (Int.tmod (wrap64 (a1)) (t369.length : Int)) ≤ (t369.length : Int) then ((lms_CheckSignature.f (t369.take ((Int.tmod (wrap64 (a1)) (t369.length : Int)) : Int).toNat)).bind fun t396 => ((pyxlaw21_told.f t396 3 (Int.tmod (wrap64 (a1)) (t369.length : Int))).bind fun t397 => (some t397))) else (none)) else (none)) else (some true))) = some r := by rw [if_neg (show ¬ (false = true) by decide)] at H; exact H
                clear H
                have H := H1
                clear H1
                by_cases c40 : (t369.length : Int) = 0
                · rw [if_pos c40] at H
                  exact absurd H (by simp)
                · rw [if_neg c40] at H
                  have c40b0 : ((t369.length : Int) == 0) = false := beq_eq_false_iff_ne.mpr c40
                  have c40b1 : ((t369.length : Int) != 0) = true := bne_iff_ne.mpr c40
                  have c40b2 : ¬ (t369 = []) := fun h_ => c40 (by rw [h_]; rfl)
                  by_cases c41 : t375 = 0
                  · rw [if_pos c41] at H
                    have c41b0 : (t375 == 0) = true := beq_iff_eq.mpr c41
                    have c41b1 : (t375 != 0) = false := bne_eq_false_iff_eq.mpr c41
                    clear c41
                    obtain ⟨ji42, hji42⟩ : ∃ j_ : Int, (Int.tmod (wrap64 (a1)) (t369.length : Int)) = j_ := ⟨_, rfl⟩
                    replace H : (if 0 ≤ (ji42) then (if (ji42) ≤ (t369.length : Int) then ((lms_CheckSignature.f (t369.take ((ji42) : Int).toNat)).bind fun t396 => ((pyxlaw21_told.f t396 3 (ji42)).bind fun t397 => (some t397))) else (none)) else (none)) = some r := by first | (rw [hji42] at H; exact H) | (simp only [hji42] at H ⊢; exact H)
                    by_cases c43 : 0 ≤ (ji42)
                    · rw [if_pos c43] at H
                      have c43b0 := eq_true c43
                      have c43b1 : decide (0 ≤ (ji42)) = true := decide_eq_true c43
                      clear c43
                      by_cases c44 : (ji42) ≤ (t369.length : Int)
                      · rw [if_pos c44] at H
                        have c44b0 := eq_true c44
                        have c44b1 : decide ((ji42) ≤ (t369.length : Int)) = true := decide_eq_true c44
                        clear c44
                        obtain ⟨y392, hy392⟩ : ∃ y_ : List Int, y_ = (t369.take ((ji42) : Int).toNat) := ⟨_, rfl⟩
                        replace H : ((lms_CheckSignature.f y392).bind fun t396 => ((pyxlaw21_told.f t396 3 (ji42)).bind fun t397 => (some t397))) = some r := by first | (rw [hy392]; with_reducible exact H) | (have H2_ := (Option.bind_some _ _).symm.trans H; rw [hy392]; with_reducible exact H2_) | (have H2_ := (Option.bind_some _ _).symm.trans H; with_reducible exact H2_) | with_reducible exact H | (rw [hy392]; exact H) | exact H
                        have Ny392 := Aside0.mk hy392
                        clear hy392
                        replace H := Option.bind_eq_some_iff.mp H
                        obtain ⟨t396, A450, H⟩ := H
                        replace H : ((pyxlaw21_told.f t396 3 (ji42)).bind fun t397 => (some t397)) = some r := H
                        have A45 := Aside0.mk A450
                        clear A450
                        replace H := Option.bind_eq_some_iff.mp H
                        obtain ⟨t397, A460, H⟩ := H
                        replace H : (some t397) = some r := H
                        have A46 := Aside0.mk A460
                        clear A460
                        obtain rfl := Option.some.inj H
                        have hcz47_0 : wc.cell? ⟨gb377, 0, none⟩ = some (.int .i64 t375) := (blk_cell BK377.out 0).trans rfl
                        have hcz47_1 : wc.cell? ⟨gb377, 1, none⟩ = some (.int .i64 t376) := (blk_cell BK377.out 1).trans rfl
                        have hfz47_0 := blk_frozen BK377.out 0
                        have hfz47_1 := blk_frozen BK377.out 1
                        have q48 : ((ji42) : Int) ≤ ((t369.length : Int) : Int) := of_decide_eq_true (by first | (with_reducible assumption) | assumption)
                        obtain ⟨i048, hi048, _, hsz48, _⟩ := info_parts info5
                        have hroom48 : t369.length ≤ co18 := (Kd.R_reads' HO_5.out).2.1
                        have hC48 : Kd.C (Kd.int .u8) _ Ao18 t369.length t369 := (Kd.R_reads' HO_5.out).2.2
                        have hcut48 := cut_to (P := Tryd.prog) 22 5 .i64 Tryd.underlying22 hi048 Ao18 t369.length co18 (ji42) (of_decide_eq_true (by first | (with_reducible assumption) | assumption)) q48 hroom48
                        have hr48 := Kd.C_take (m := ((ji42) : Int).toNat) hC48 (by omega)
                        have hy48 : y392.length = ((ji42) : Int).toNat := (by rw [Ny392.out, List.length_take]; omega)
                        rw [← Ny392.out] at hr48
                        rw [← hy48] at hcut48
                        have HR395 := Aside0.mk hr48
                        have HC395 := Aside0.mk (show y392.length ≤ co18 from by omega)
                        clear hr48 hC48 hroom48 hi048 hsz48
                        have KY48 := Aside0.mk hy48
                        clear hy48
                        have KL48 := Aside0.mk (show ((ji42) : Int).toNat ≤ t369.length from by omega)
                        replace q48 := eq_true q48
                        go_wp2_with (first | (go_at_call 40; (with_reducible refine (lms_CheckSignature.calls _ _ y392 t396 _ ?side1 ?side2 A45.out (by first | exact GOK.below HG.out (by repeat (first | (with_reducible first | exact HB.out | apply below_alloc | apply pw_below_drewN | apply below_drew1 | refine below_set ?_ GE377.out) | exact HB.out)) | (repeat (first | exact HG.out | apply GOK.drewN | apply GOK.drew)))).mono ?_); (case side1 => repeat (first | exact (by repeat (first | (with_reducible exact HR395.out) | (with_reducible refine Kd.C_alloc ?_ _) | (with_reducible refine Kd.C_drewN ?_ _) | (with_reducible refine Kd.C_drew ?_) | exact HR395.out)) | (with_reducible refine Kd.C_alloc ?_ _) | (with_reducible refine Kd.C_drewN ?_ _) | (with_reducible refine Kd.C_drew ?_))); (case side2 => exact HC395.out); rintro e w49 ⟨rfl, hb⟩; have n0_ := Aside0.mk (Kd.R_below (by (with_reducible repeat (first | apply Kd.R_alloc | apply Kd.R_drewN | apply Kd.R_drew)); exact HO_5.out) hb); have n1_ := Aside0.mk (blk_below (g := gb377) (o := .cells #[.int .i64 t375, .int .i64 t376] 65 (0, 0)) (by (with_reducible repeat (first | refine blk_drewN ?_ _ | refine blk_drew ?_ | refine blk_alloc ?_ _)); exact BK377.out) hb); have n2_ := Aside0.mk (Kd.C_below (by repeat (first | (with_reducible exact HR395.out) | (with_reducible refine Kd.C_alloc ?_ _) | (with_reducible refine Kd.C_drewN ?_ _) | (with_reducible refine Kd.C_drew ?_) | exact HR395.out)) hb); have n3_ := Aside0.mk (below_step (by repeat (first | (with_reducible first | exact HB.out | apply below_alloc | apply pw_below_drewN | apply below_drew1 | refine below_set ?_ GE377.out) | exact HB.out)) hb); clear HO_5; clear BK377; clear HR395; clear HB; have HO_5 := n0_; have BK377 := n1_; have HR395 := n2_; have HB := n3_; clear n0_ n1_ n2_ n3_; (try clear hb); (try clear hb2); (try clear hk); (try clear hi); (try simp only [errW_none, errW_some]); have CA46 := fun W => pyxlaw21_told.calls t396 3 ji42 t397 W A46.out; try simp only [errW_none, errW_some] at CA46) | (go_at_call 32; (with_reducible refine (CA46 _ (by first | exact GOK.below HG.out (by repeat (first | (with_reducible first | exact HB.out | apply below_alloc | apply pw_below_drewN | apply below_drew1 | refine below_set ?_ GE377.out) | exact HB.out)) | (repeat (first | exact HG.out | apply GOK.drewN | apply GOK.drew)))).mono ?_); rintro e w50 ⟨rfl, hb⟩; have n0_ := Aside0.mk (Kd.R_below (by (with_reducible repeat (first | apply Kd.R_alloc | apply Kd.R_drewN | apply Kd.R_drew)); exact HO_5.out) hb); have n1_ := Aside0.mk (blk_below (g := gb377) (o := .cells #[.int .i64 t375, .int .i64 t376] 65 (0, 0)) (by (with_reducible repeat (first | refine blk_drewN ?_ _ | refine blk_drew ?_ | refine blk_alloc ?_ _)); exact BK377.out) hb); have n2_ := Aside0.mk (Kd.C_below (by repeat (first | (with_reducible exact HR395.out) | (with_reducible refine Kd.C_alloc ?_ _) | (with_reducible refine Kd.C_drewN ?_ _) | (with_reducible refine Kd.C_drew ?_) | exact HR395.out)) hb); have n3_ := Aside0.mk (below_step (by repeat (first | (with_reducible first | exact HB.out | apply below_alloc | apply pw_below_drewN | apply below_drew1 | refine below_set ?_ GE377.out) | exact HB.out)) hb); clear HO_5; clear BK377; clear HR395; clear HB; have HO_5 := n0_; have BK377 := n1_; have HR395 := n2_; have HB := n3_; clear n0_ n1_ n2_ n3_; (try clear hb); (try clear hb2); (try clear hk); (try clear hi)))
                        go_ret
                        exact ⟨by first | rfl | (simp [errW_none, errW_some] <;> rfl) | (simp only [← hji42]; first | rfl | (simp [errW_none, errW_some] <;> rfl)) | (simp [*, errW_none, errW_some] <;> rfl), by repeat (first | (with_reducible first | exact HB.out | apply below_alloc | apply pw_below_drewN | apply below_drew1 | refine below_set ?_ GE377.out) | exact HB.out)⟩
                      · rw [if_neg c44] at H
                        exact absurd H (by simp)
                    · rw [if_neg c43] at H
                      exact absurd H (by simp)
                  · rw [if_neg c41] at H
                    have c41b0 : (t375 == 0) = false := beq_eq_false_iff_ne.mpr c41
                    have c41b1 : (t375 != 0) = true := bne_iff_ne.mpr c41
                    obtain rfl := Option.some.inj H
                    have hcz51_0 : wc.cell? ⟨gb377, 0, none⟩ = some (.int .i64 t375) := (blk_cell BK377.out 0).trans rfl
                    have hcz51_1 : wc.cell? ⟨gb377, 1, none⟩ = some (.int .i64 t376) := (blk_cell BK377.out 1).trans rfl
                    have hfz51_0 := blk_frozen BK377.out 0
                    have hfz51_1 := blk_frozen BK377.out 1
                    go_wp2
                    go_ret
                    exact ⟨by first | rfl | (simp [errW_none, errW_some] <;> rfl) | (simp [*, errW_none, errW_some] <;> rfl), by repeat (first | (with_reducible first | exact HB.out | apply below_alloc | apply pw_below_drewN | apply below_drew1 | refine below_set ?_ GE377.out) | exact HB.out)⟩
        · rw [if_neg c14] at H
          exact absurd H (by simp)
def pyxlaw21_LmsCuts.Pure : Prop := ∀ (l0 : List (S87)) (a1 : Int), l0.length ≤ maxLen → l0.length * 32 ≤ 140737488351232 → (∀ x ∈ l0, ((Lit.int .i64 x.f0).wf = true ∧ (Lit.int .i64 x.f1).wf = true ∧ (Lit.int .i64 x.f2).wf = true ∧ (Lit.int .u32 x.f3).wf = true)) → (Lit.int .u32 a1).wf = true → ∃ k, pyxlaw21_LmsCuts.f k l0 a1 = some true
theorem pyxlaw21_LmsCuts.walk (P : pyxlaw21_LmsCuts.Pure) (a0 : Option Addr) (cap0 : Nat) (l0 : List (S87)) (a1 : Int) (w : World) (w0 : Kd.C k87 w a0 l0.length l0) (hc0 : l0.length ≤ cap0) (y0 : l0.length * 32 ≤ 140737488351232) (q0 : ∀ x ∈ l0, ((Lit.int .i64 x.f0).wf = true ∧ (Lit.int .i64 x.f1).wf = true ∧ (Lit.int .i64 x.f2).wf = true ∧ (Lit.int .u32 x.f3).wf = true)) (w1 : (Lit.int .u32 a1).wf = true) (hG : GOK w) :
    Calls Tryd.prog 10 #[.slice a0 l0.length cap0, .int .u32 a1] w fun e w' => e = .returned (.bool true) ∧ Below w.heap.size w w' := by
  have hm0 : l0.length ≤ maxLen := w0.2.1
  obtain ⟨k, h⟩ := P l0 a1 hm0 y0 q0 w1
  refine (pyxlaw21_LmsCuts.calls k _ _ l0 a1 true w w0 hc0 h hG rfl).mono ?_
  rintro e w' ⟨rfl, hd⟩
  exact ⟨rfl, hd⟩
end Go.Proofs.YtijmigapdcikpaaDoor.PLms
