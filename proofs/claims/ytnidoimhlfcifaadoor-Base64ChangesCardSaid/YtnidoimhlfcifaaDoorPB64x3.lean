-- Written by a program: a copy of the kit's print, turned by this session (wip/xprint).
import Derived.Test.YtnidoimhlfcifaaDoorPB64x0
import Derived.Test.YtnidoimhlfcifaaDoorPB64x1
import Derived.Test.YtnidoimhlfcifaaDoorPB64x2
namespace Go.Proofs.YtnidoimhlfcifaaDoor.PB64
open Go.RowKit Go.Proofs.YtnidoimhlfcifaaDoorW.PrintWords Go.Proofs.YtnidoimhlfcifaaDoorW.PrintLast Go.Proofs.YtnidoimhlfcifaaDoorW.PrintMore
attribute [local go_sem] max2_int min2_int max_two min_two max_three min_three max_four min_four   -- for this text's walks alone
set_option linter.unusedVariables false
set_option linter.unusedSimpArgs false

/-! ### strings_IndexByte: function 34 -/
/-- strings.IndexByte, by the shelf's contract. -/
def strings_IndexByte.f (a0 : ByteArray) (a1 : Int) : Option Int := some (Lib.indexByte a0.data.toList a1.toNat.toUInt8)
theorem strings_IndexByte.calls (a0 : ByteArray) (a1 : Int) (r : Int) (w : World) (h : strings_IndexByte.f a0 a1 = some r) :
    Calls Tryd.prog 34 #[.string a0, .int .u8 a1] w fun e w' => e = .returned (.int .i64 r) ∧ Drawn0 w w' := by
  obtain rfl := Option.some.inj h
  exact (Tryd.strings_IndexByte a0 a1 w).mono fun e w' ⟨he, hw⟩ => ⟨he, by subst hw; exact Drawn0.refl _⟩

/-! ### base64_Value: function 17 -/
def base64_Value.f (a0 : Int) (a1 : Int) : Option (Int × Bool) := (base64_table.f a0).bind fun t101 => ((strings_IndexByte.f t101 a1).bind fun t102 => (some (mx t102 0, decide (t102 ≥ 0))))
set_option maxHeartbeats 8000000 in
set_option maxRecDepth 100000 in
theorem base64_Value.calls (a0 : Int) (a1 : Int) (r1 : Int) (r2 : Bool) (w : World) (h : base64_Value.f a0 a1 = some (r1, r2)) :
    Calls Tryd.prog 17 #[.int .i64 a0, .int .u8 a1] w fun e w' => e = .returned (.tuple #[.int .i64 r1, .bool r2]) ∧ Below w.heap.size w w' := by
  have HB := Aside0.mk (Below.refl w.heap.size w)
  have H : ((base64_table.f a0).bind fun t101 => ((strings_IndexByte.f t101 a1).bind fun t102 => (some (mx t102 0, decide (t102 ≥ 0))))) = some (r1, r2) := h
  clear h
  replace H := Option.bind_eq_some_iff.mp H
  obtain ⟨t101, A30, H⟩ := H
  replace H : ((strings_IndexByte.f t101 a1).bind fun t102 => (some (mx t102 0, decide (t102 ≥ 0)))) = some (r1, r2) := H
  have A3 := Aside0.mk A30
  clear A30
  replace H := Option.bind_eq_some_iff.mp H
  obtain ⟨t102, A40, H⟩ := H
  replace H : (some (mx t102 0, decide (t102 ≥ 0))) = some (r1, r2) := H
  have A4 := Aside0.mk A40
  clear A40
  obtain ⟨ji5, hji5⟩ : ∃ j_ : Int, (mx t102 0) = j_ := ⟨_, rfl⟩
  replace H : (some (ji5, decide (t102 ≥ 0))) = some (r1, r2) := by first | (rw [hji5] at H; exact H) | (simp only [hji5] at H ⊢; exact H)
  (try rw [hji5] at A3)
  (try rw [hji5] at A4)
  (try (have hji5l : 0 ≤ ji5 := by (rw [← hji5]; unfold mx; (repeat' split) <;> omega)))
  (try (have hji5m : 0 ≤ ji5 := by omega))
  have hji5_ : (if t102 < 0 then 0 else t102) = ji5 := hji5
  simp only [Option.some.injEq, Prod.mk.injEq] at H
  obtain ⟨rfl, rfl⟩ := H
  go_enter Tryd.func17, Tryd.ntmps17
  go_wp2_with (first | ((with_reducible refine gate_callee (f := 30) rfl ?_); refine goesL_ (some 8) rfl rfl Tryd.func30 (by kernel_rfl) rfl #[.int .i64 a0] rfl (by (try simp only [List.map_toArray, List.map_cons, List.map_nil]); first | done | rfl | (simp only [List.length_drop, List.length_take]; rfl)) ?_; (with_reducible refine (base64_table.calls a0 t101 _ A3.out).mono ?_); rintro e w' ⟨rfl, ⟨nd, rfl⟩⟩; refine ⟨_, rfl, ?_⟩) | ((with_reducible refine gate_callee (f := 34) rfl ?_); refine goesL_ (some 10) rfl rfl Tryd.func34 (by kernel_rfl) rfl #[.string t101, .int .u8 a1] rfl (by (try simp only [List.map_toArray, List.map_cons, List.map_nil]); first | done | rfl | (simp only [List.length_drop, List.length_take]; rfl)) ?_; (with_reducible refine (strings_IndexByte.calls t101 a1 t102 _ A4.out).mono ?_); rintro e w' ⟨rfl, ⟨nd, rfl⟩⟩; refine ⟨_, rfl, ?_⟩))
  go_ret2
  exact ⟨by first | rfl | (simp [errW_none, errW_some] <;> rfl) | (simp only [← hji5]; first | rfl | (simp [errW_none, errW_some] <;> rfl)) | (simp [*, errW_none, errW_some] <;> rfl), by repeat (first | (with_reducible first | exact HB.out | apply below_alloc | apply pw_below_drewN | apply below_drew1) | exact HB.out)⟩

/-! ### strings_TrimRight: function 29 -/
/-- strings.TrimRight at the cutset "=", by the shelf's contract. -/
def strings_TrimRight.f (a0 a1 : ByteArray) : Option ByteArray := if a1 = ⟨#[61]⟩ then (if a0.size ≤ 9223372036854775807 then some ⟨(Lib.trimRightB a0.data.toList 61).toArray⟩ else none) else none
theorem strings_TrimRight.calls (a0 a1 : ByteArray) (r : ByteArray) (w : World) (h : strings_TrimRight.f a0 a1 = some r) :
    Calls Tryd.prog 29 #[.string a0, .string a1] w fun e w' => e = .returned (.string r) ∧ Drawn0 w w' := by
  unfold strings_TrimRight.f at h
  by_cases c : a1 = ⟨#[61]⟩
  · rw [if_pos c] at h
    by_cases c2 : a0.size ≤ 9223372036854775807
    · rw [if_pos c2] at h
      obtain rfl := Option.some.inj h
      subst c
      exact (Tryd.strings_TrimRight_one a0 61 (by decide) w c2).mono fun e w' ⟨he, hw⟩ => ⟨he, by subst hw; exact Drawn0.refl _⟩
    · rw [if_neg c2] at h; cases h
  · rw [if_neg c] at h; cases h

/-! ### base64_Decode: function 10 -/
mutual
def base64_Decode.j0 : Nat → Int → ByteArray → ByteArray → Option (List Int × Bool)
  | 0, _, _, _ => none
  | k + 1, x0, x1, x6 => if 0 ≤ (wrap64 (Int.tdiv (wrap64 ((x6.size : Int) * 3)) 4)) then (if (wrap64 (Int.tdiv (wrap64 ((x6.size : Int) * 3)) 4) : Int).toNat ≤ 281474976710656 then (base64_Decode.l0 k x0 x1 x6 (([] : List Int)) 0 0 (x6.size : Int) 0) else (none)) else (none)
def base64_Decode.l0 : Nat → Int → ByteArray → ByteArray → List Int → Int → Int → Int → Int → Option (List Int × Bool)
  | 0, _, _, _, _, _, _, _, _ => none
  | k + 1, x0, x1, x6, x7, x8, x9, x24, x25 => if x25 < x24 then (if 0 ≤ x25 then (if x25 < (x6.size : Int) then ((base64_Value.f x0 (bt x6 x25)).bind fun bt107 => (if bt107.2 = true then (if (wrap64 (x9 + 6)) ≥ 8 then (if 0 ≤ (wrap64 ((wrap64 (x9 + 6)) - 8)) then (if x7.length < 140737488355328 then (base64_Decode.l0 k x0 x1 x6 (x7 ++ [(shr .i64 (Go.bits .or .i64 (wrap64 (x8 * 64)) bt107.1) (wrap64 ((wrap64 (x9 + 6)) - 8))) % 256]) (Go.bits .and .i64 (Go.bits .or .i64 (wrap64 (x8 * 64)) bt107.1) (wrap64 ((shl .i64 1 (wrap64 ((wrap64 (x9 + 6)) - 8))) - 1))) (wrap64 ((wrap64 (x9 + 6)) - 8)) x24 (wrap64 (x25 + 1))) else (none)) else (none)) else (base64_Decode.l0 k x0 x1 x6 x7 (Go.bits .or .i64 (wrap64 (x8 * 64)) bt107.1) (wrap64 (x9 + 6)) x24 (wrap64 (x25 + 1)))) else (some (([] : List Int), false)))) else (none)) else (none)) else ((base64_table.f x0).bind fun t112 => (if t112.toList = ([] : List UInt8) then (some (([] : List Int), false)) else ((base64_Encode.f x0 x7).bind fun t113 => (if t113.toList = x1.toList then (some (x7, true)) else (some (([] : List Int), false))))))
end
def base64_Decode.f (k : Nat) (a0 : Int) (a1 : ByteArray) : Option (List Int × Bool) := if a0 = 1 then ((strings_TrimRight.f a1 (⟨#[61]⟩ : ByteArray)).bind fun t103 => (base64_Decode.j0 k a0 a1 t103)) else (base64_Decode.j0 k a0 a1 a1)
theorem base64_Decode.mono_l : ∀ k, (∀ y0 y1 y2, LeO (base64_Decode.j0 k y0 y1 y2) (base64_Decode.j0 (k + 1) y0 y1 y2)) ∧ (∀ y0 y1 y2 y3 y4 y5 y6 y7, LeO (base64_Decode.l0 k y0 y1 y2 y3 y4 y5 y6 y7) (base64_Decode.l0 (k + 1) y0 y1 y2 y3 y4 y5 y6 y7))
  | 0 => ⟨fun _ _ _ r h => by simp [base64_Decode.j0] at h, fun _ _ _ _ _ _ _ _ r h => by simp [base64_Decode.l0] at h⟩
  | k + 1 => by
    obtain ⟨ih0, ih1⟩ := base64_Decode.mono_l k
    refine ⟨?_, ?_⟩
    · intro y0 y1 y2
      unfold base64_Decode.j0
      repeat' first
      | (with_reducible exact ih0 _ _ _)
      | (with_reducible exact ih1 _ _ _ _ _ _ _ _)
      | (with_reducible exact LeO.refl _)
      | (with_reducible exact LeO.none _)
      | (with_reducible refine LeO.ite ?_ ?_)
      | (with_reducible refine LeO.bind ?_ (fun _ => ?_))
      | exact ih0 _ _ _
      | exact ih1 _ _ _ _ _ _ _ _
      | exact LeO.none _
      | refine LeO.ite ?_ ?_
      | refine LeO.bind ?_ (fun _ => ?_)
    · intro y0 y1 y2 y3 y4 y5 y6 y7
      unfold base64_Decode.l0
      repeat' first
      | (with_reducible exact ih0 _ _ _)
      | (with_reducible exact ih1 _ _ _ _ _ _ _ _)
      | (with_reducible exact LeO.refl _)
      | (with_reducible exact LeO.none _)
      | (with_reducible refine LeO.ite ?_ ?_)
      | (with_reducible refine LeO.bind ?_ (fun _ => ?_))
      | exact ih0 _ _ _
      | exact ih1 _ _ _ _ _ _ _ _
      | exact LeO.none _
      | refine LeO.ite ?_ ?_
      | refine LeO.bind ?_ (fun _ => ?_)
theorem base64_Decode.mono : ∀ a0 a1 k, LeO (base64_Decode.f k a0 a1) (base64_Decode.f (k + 1) a0 a1) := by
  intro a0 a1 k
  obtain ⟨ih0, ih1⟩ := base64_Decode.mono_l k
  unfold base64_Decode.f
  repeat' first
      | (with_reducible exact ih0 _ _ _)
      | (with_reducible exact ih1 _ _ _ _ _ _ _ _)
      | (with_reducible exact LeO.refl _)
      | (with_reducible exact LeO.none _)
      | (with_reducible refine LeO.ite ?_ ?_)
      | (with_reducible refine LeO.bind ?_ (fun _ => ?_))
      | exact ih0 _ _ _
      | exact ih1 _ _ _ _ _ _ _ _
      | exact LeO.none _
      | refine LeO.ite ?_ ?_
      | refine LeO.bind ?_ (fun _ => ?_)
set_option maxHeartbeats 8000000 in
set_option maxRecDepth 100000 in
theorem base64_Decode.calls (k : Nat) (a0 : Int) (a1 : ByteArray) (r1 : List Int) (r2 : Bool) (w : World) (h : base64_Decode.f k a0 a1 = some (r1, r2)) :
    Calls Tryd.prog 10 #[.int .i64 a0, .string a1] w fun e w' => ∃ v0_ : Value, e = .returned (.tuple #[v0_, .bool r2]) ∧ Kd.R (Kd.int .u8) 5 w' w.heap.size (fun _ => True) v0_ r1 ∧ Below w.heap.size w w' := by
  have HB := Aside0.mk (Below.refl w.heap.size w)
  have H : (if a0 = 1 then ((strings_TrimRight.f a1 (⟨#[61]⟩ : ByteArray)).bind fun t103 => (base64_Decode.j0 k a0 a1 t103)) else (base64_Decode.j0 k a0 a1 a1)) = some (r1, r2) := h
  clear h
  have HC3 := Aside0.mk H
  clear H
  go_enter Tryd.func10, Tryd.ntmps10
  go_upto_if 15 with (fail)
  go_cut [6] (fun v6 wc => ∃ (kq : Nat) (x6_2 : ByteArray), v6 = .string x6_2 ∧ Aside0 (base64_Decode.j0 kq a0 a1 x6_2 = some (r1, r2)) ∧ Aside0 (kq ≤ k) ∧ Aside0 (Below w.heap.size w wc))
  case first =>
    have H := HC3.out
    clear HC3
    by_cases c4 : a0 = 1
    · rw [if_pos c4] at H
      have c4b0 : (a0 == 1) = true := beq_iff_eq.mpr c4
      have c4b1 : (a0 != 1) = false := bne_eq_false_iff_eq.mpr c4
      clear c4
      (first | rw [c4b0] | (simp only [i64_w, i32_w]; rw [c4b0]) | skip)
      replace H := Option.bind_eq_some_iff.mp H
      obtain ⟨t103, A50, H⟩ := H
      replace H : (base64_Decode.j0 k a0 a1 t103) = some (r1, r2) := H
      have A5 := Aside0.mk A50
      clear A50
      have H' := Aside0.mk H
      clear H
      go_wp2_with (first | ((with_reducible refine gate_callee (f := 29) rfl ?_); refine goesL_ (some 17) rfl rfl Tryd.func29 (by kernel_rfl) rfl #[.string a1, .string (⟨#[61]⟩ : ByteArray)] rfl (by (try simp only [List.map_toArray, List.map_cons, List.map_nil]); first | done | rfl | (simp only [List.length_drop, List.length_take]; rfl)) ?_; (with_reducible refine (strings_TrimRight.calls a1 (⟨#[61]⟩ : ByteArray) t103 _ A5.out).mono ?_); rintro e w' ⟨rfl, ⟨nd, rfl⟩⟩; refine ⟨_, rfl, ?_⟩))
      go_meet
      case rel => exact ⟨_, (t103), (by first | rfl | (simp; done) | (simp [*]; done)), H', ⟨by first | omega | exact Nat.le_refl _⟩, ⟨by repeat (first | (with_reducible first | exact HB.out | apply below_alloc | apply pw_below_drewN | apply below_drew1) | exact HB.out)⟩⟩
    · rw [if_neg c4] at H
      have c4b0 : (a0 == 1) = false := beq_eq_false_iff_ne.mpr c4
      have c4b1 : (a0 != 1) = true := bne_iff_ne.mpr c4
      (first | rw [c4b0] | (simp only [i64_w, i32_w]; rw [c4b0]) | skip)
      have H' := Aside0.mk H
      clear H
      go_wp2
      go_meet
      case rel => exact ⟨_, (a1), (by first | rfl | (simp; done) | (simp [*]; done)), H', ⟨by first | omega | exact Nat.le_refl _⟩, ⟨by repeat (first | (with_reducible first | exact HB.out | apply below_alloc | apply pw_below_drewN | apply below_drew1) | exact HB.out)⟩⟩
  case rest =>
    clear HC3
    try clear c1
    try clear c2
    try clear p2
    try clear c4
    try clear c4b0
    try clear c4b1
    obtain ⟨kq, x6_2, rfl, HA, HJ2, HB⟩ := hcut
    cases kq with
    | zero => exact absurd HA.out (by simp [base64_Decode.j0])
    | succ kj2 =>
      have H := HA.out
      clear HA
      simp only [base64_Decode.j0] at H
      obtain ⟨ji6, hji6⟩ : ∃ j_ : Int, (wrap64 (Int.tdiv (wrap64 ((x6_2.size : Int) * 3)) 4)) = j_ := ⟨_, rfl⟩
      replace H : (if 0 ≤ (ji6) then (if (ji6 : Int).toNat ≤ 281474976710656 then (base64_Decode.l0 kj2 a0 a1 x6_2 (([] : List Int)) 0 0 (x6_2.size : Int) 0) else (none)) else (none)) = some (r1, r2) := by first | (rw [hji6] at H; exact H) | (simp only [hji6] at H ⊢; exact H)
      have hji6w : (IntKind.i64.wrap (Int.tdiv (wrap64 ((x6_2.size : Int) * 3)) 4)) = ji6 := (i64_w _).trans hji6
      by_cases c7 : 0 ≤ (ji6)
      · rw [if_pos c7] at H
        have c7b0 := eq_true c7
        have c7b1 : decide (0 ≤ (ji6)) = true := decide_eq_true c7
        clear c7
        by_cases c8 : (ji6 : Int).toNat ≤ 281474976710656
        · rw [if_pos c8] at H
          have c8b0 := eq_true c8
          have c8b1 : decide ((ji6 : Int).toNat ≤ 281474976710656) = true := decide_eq_true c8
          clear c8
          obtain ⟨y104, hy104⟩ : ∃ y_ : List Int, y_ = (([] : List Int)) := ⟨_, rfl⟩
          replace H : (base64_Decode.l0 kj2 a0 a1 x6_2 y104 0 0 (x6_2.size : Int) 0) = some (r1, r2) := by first | (rw [hy104]; with_reducible exact H) | (have H2_ := (Option.bind_some _ _).symm.trans H; rw [hy104]; with_reducible exact H2_) | (have H2_ := (Option.bind_some _ _).symm.trans H; with_reducible exact H2_) | with_reducible exact H | (rw [hy104]; exact H) | exact H
          have Ny104 := Aside0.mk hy104
          clear hy104
          have H' := Aside0.mk H
          clear H
          go_wp2_with (first | ((with_reducible refine gate_dst (N := 22) rfl ?_); refine Kd.R_make0 (Kd.int .u8) _ 5 rfl (N := 22) rfl 23 _ _ rfl ji6 rfl rfl Tryd.underlying23 (.int .u8 0) 1 info5 (by omega) (ok := fun _ => True) trivial (of_decide_eq_true (by first | (with_reducible assumption) | assumption)) (Nat.le_trans (Nat.mul_le_mul_right _ (of_decide_eq_true (by first | (with_reducible assumption) | assumption) : ji6.toNat ≤ 281474976710656)) (by omega)) (Below.refl _ _) (Nat.le_refl _) ?_; intro v105 w9 ho10 hb hg_ hnew_; clear hg_ hnew_; (first | rw [← Ny104.out] at ho10 | (simp only [Int.reduceToNat] at ho10; rw [← Ny104.out] at ho10)); have n0_ := Aside0.mk (Kd.R_lower ho10 (below_size (by repeat (first | (with_reducible first | exact HB.out | apply below_alloc | apply pw_below_drewN | apply below_drew1) | exact HB.out)))); have n1_ := Aside0.mk (below_step (by repeat (first | (with_reducible first | exact HB.out | apply below_alloc | apply pw_below_drewN | apply below_drew1) | exact HB.out)) hb); clear HB; have HO106 := n0_; have HB := n1_; clear n0_ n1_; clear hb ho10))
          go_loopg [7, 8, 9, 25] kj2 (fun kq v7 v8 v9 v25 w' => ∃ (x7_2 : List Int) (x8_2 : Int) (x9_2 : Int) (x25_2 : Int), v8 = .int .i64 x8_2 ∧ v9 = .int .i64 x9_2 ∧ v25 = .int .i64 x25_2 ∧ Aside0 (base64_Decode.l0 kq a0 a1 x6_2 x7_2 x8_2 x9_2 (x6_2.size : Int) x25_2 = some (r1, r2)) ∧ Aside0 (kq ≤ kj2) ∧ Aside0 (Kd.R (Kd.int .u8) 5 w' w.heap.size (fun _ => True) v7 x7_2) ∧ Aside0 (Below w.heap.size w w'))
          case atStart => exact ⟨(y104), (0), (0), (0), (by first | rfl | (simp; done) | (simp [*]; done)), (by first | rfl | (simp; done) | (simp [*]; done)), (by first | rfl | (simp; done) | (simp [*]; done)), H', ⟨Nat.le_refl _⟩, ⟨by (with_reducible repeat (first | apply Kd.R_alloc | apply Kd.R_drewN | apply Kd.R_drew)); exact HO106.out⟩, ⟨by repeat (first | (with_reducible first | exact HB.out | apply below_alloc | apply pw_below_drewN | apply below_drew1) | exact HB.out)⟩⟩
          case round =>
            clear H'
            try clear c1
            try clear c2
            try clear p2
            try clear c4
            try clear c4b0
            try clear c4b1
            try clear p6
            try clear c7
            try clear c7b0
            try clear c7b1
            try clear c8
            try clear c8b0
            try clear c8b1
            try clear c10
            try clear p2
            obtain ⟨x7_2, x8_2, x9_2, x25_2, rfl, rfl, rfl, HA, HK2, HO_7, HB⟩ := hrel
            cases gk with
            | zero => exact absurd HA.out (by simp [base64_Decode.l0])
            | succ k2 =>
              have H := HA.out
              clear HA
              simp only [base64_Decode.l0] at H
              by_cases c11 : x25_2 < (x6_2.size : Int)
              · rw [if_pos c11] at H
                have c11b0 : decide (x25_2 < (x6_2.size : Int)) = true := decide_eq_true c11
                clear c11
                by_cases c12 : 0 ≤ x25_2
                · rw [if_pos c12] at H
                  have c12b0 : decide (0 ≤ x25_2) = true := decide_eq_true c12
                  clear c12
                  by_cases c13 : x25_2 < (x6_2.size : Int)
                  · rw [if_pos c13] at H
                    have c13b0 : decide (x25_2 < (x6_2.size : Int)) = true := decide_eq_true c13
                    clear c13
                    replace H := Option.bind_eq_some_iff.mp H
                    obtain ⟨⟨t107, t108⟩, A150, H⟩ := H
                    replace H : (if t108 = true then (if (wrap64 (x9_2 + 6)) ≥ 8 then (if 0 ≤ (wrap64 ((wrap64 (x9_2 + 6)) - 8)) then (if x7_2.length < 140737488355328 then (base64_Decode.l0 k2 a0 a1 x6_2 (x7_2 ++ [(shr .i64 (Go.bits .or .i64 (wrap64 (x8_2 * 64)) t107) (wrap64 ((wrap64 (x9_2 + 6)) - 8))) % 256]) (Go.bits .and .i64 (Go.bits .or .i64 (wrap64 (x8_2 * 64)) t107) (wrap64 ((shl .i64 1 (wrap64 ((wrap64 (x9_2 + 6)) - 8))) - 1))) (wrap64 ((wrap64 (x9_2 + 6)) - 8)) (x6_2.size : Int) (wrap64 (x25_2 + 1))) else (none)) else (none)) else (base64_Decode.l0 k2 a0 a1 x6_2 x7_2 (Go.bits .or .i64 (wrap64 (x8_2 * 64)) t107) (wrap64 (x9_2 + 6)) (x6_2.size : Int) (wrap64 (x25_2 + 1)))) else (some (([] : List Int), false))) = some (r1, r2) := H
                    have A15 := Aside0.mk A150
                    clear A150
                    by_cases c16 : t108 = true
                    · subst c16
                      have H1 : (if (wrap64 (x9_2 + 6)) ≥ 8 then (if 0 ≤ (wrap64 ((wrap64 (x9_2 + 6)) - 8)) then (if x7_2.length < 140737488355328 then (base64_Decode.l0 k2 a0 a1 x6_2 (x7_2 ++ [(shr .i64 (Go.bits .or .i64 (wrap64 (x8_2 * 64)) t107) (wrap64 ((wrap64 (x9_2 + 6)) - 8))) % 256]) (Go.bits .and .i64 (Go.bits .or .i64 (wrap64 (x8_2 * 64)) t107) (wrap64 ((shl .i64 1 (wrap64 ((wrap64 (x9_2 + 6)) - 8))) - 1))) (wrap64 ((wrap64 (x9_2 + 6)) - 8)) (x6_2.size : Int) (wrap64 (x25_2 + 1))) else (none)) else (none)) else (base64_Decode.l0 k2 a0 a1 x6_2 x7_2 (Go.bits .or .i64 (wrap64 (x8_2 * 64)) t107) (wrap64 (x9_2 + 6)) (x6_2.size : Int) (wrap64 (x25_2 + 1)))) = some (r1, r2) := by rw [if_pos rfl] at H; exact H
                      clear H
                      have H := H1
                      clear H1
                      by_cases c17 : (wrap64 (x9_2 + 6)) ≥ 8
                      · rw [if_pos c17] at H
                        have c17b0 : decide (8 ≤ (wrap64 (x9_2 + 6))) = true := decide_eq_true c17
                        clear c17
                        obtain ⟨ji18, hji18⟩ : ∃ j_ : Int, (wrap64 ((wrap64 (x9_2 + 6)) - 8)) = j_ := ⟨_, rfl⟩
                        replace H : (if 0 ≤ (ji18) then (if x7_2.length < 140737488355328 then (base64_Decode.l0 k2 a0 a1 x6_2 (x7_2 ++ [(shr .i64 (Go.bits .or .i64 (wrap64 (x8_2 * 64)) t107) (ji18)) % 256]) (Go.bits .and .i64 (Go.bits .or .i64 (wrap64 (x8_2 * 64)) t107) (wrap64 ((shl .i64 1 (ji18)) - 1))) ji18 (x6_2.size : Int) (wrap64 (x25_2 + 1))) else (none)) else (none)) = some (r1, r2) := by first | (rw [hji18] at H; exact H) | (simp only [hji18] at H ⊢; exact H)
                        (try rw [hji18] at A15)
                        have hji18w : (IntKind.i64.wrap ((wrap64 (x9_2 + 6)) - 8)) = ji18 := (i64_w _).trans hji18
                        by_cases c19 : 0 ≤ (ji18)
                        · rw [if_pos c19] at H
                          have c19b0 := eq_true c19
                          have c19b1 : decide (0 ≤ (ji18)) = true := decide_eq_true c19
                          clear c19
                          obtain ⟨ji20, hji20⟩ : ∃ j_ : Int, (shr .i64 (Go.bits .or .i64 (wrap64 (x8_2 * 64)) t107) (ji18)) = j_ := ⟨_, rfl⟩
                          replace H : (if x7_2.length < 140737488355328 then (base64_Decode.l0 k2 a0 a1 x6_2 (x7_2 ++ [(ji20) % 256]) (Go.bits .and .i64 (Go.bits .or .i64 (wrap64 (x8_2 * 64)) t107) (wrap64 ((shl .i64 1 (ji18)) - 1))) ji18 (x6_2.size : Int) (wrap64 (x25_2 + 1))) else (none)) = some (r1, r2) := by first | (rw [hji20] at H; exact H) | (simp only [hji20] at H ⊢; exact H)
                          (try rw [hji20] at A15)
                          have hji20_ : ((Go.bits .or .i64 (wrap64 (x8_2 * 64)) t107) / 2 ^ min (ji18).toNat 64) = ji20 := hji20
                          have hji20z : (ji18) ≤ 64 → ((Go.bits .or .i64 (wrap64 (x8_2 * 64)) t107) / 2 ^ (ji18).toNat) = ji20 := shr_small hji20
                          by_cases c21 : x7_2.length < 140737488355328
                          · rw [if_pos c21] at H
                            have LMc21 := Aside0.mk c21
                            clear c21
                            obtain ⟨y109, hy109⟩ : ∃ y_ : List Int, y_ = (x7_2 ++ [(ji20) % 256]) := ⟨_, rfl⟩
                            replace H : (base64_Decode.l0 k2 a0 a1 x6_2 y109 (Go.bits .and .i64 (Go.bits .or .i64 (wrap64 (x8_2 * 64)) t107) (wrap64 ((shl .i64 1 (ji18)) - 1))) ji18 (x6_2.size : Int) (wrap64 (x25_2 + 1))) = some (r1, r2) := by first | (rw [hy109]; with_reducible exact H) | (have H2_ := (Option.bind_some _ _).symm.trans H; rw [hy109]; with_reducible exact H2_) | (have H2_ := (Option.bind_some _ _).symm.trans H; with_reducible exact H2_) | with_reducible exact H | (rw [hy109]; exact H) | exact H
                            have Ny109 := Aside0.mk hy109
                            clear hy109
                            have c22b0 := eq_true (of_decide_eq_true (by first | (with_reducible assumption) | assumption) : 0 ≤ (ji18))
                            obtain ⟨ji23, hji23⟩ : ∃ j_ : Int, (shl .i64 1 (ji18)) = j_ := ⟨_, rfl⟩
                            replace H : (base64_Decode.l0 k2 a0 a1 x6_2 y109 (Go.bits .and .i64 (Go.bits .or .i64 (wrap64 (x8_2 * 64)) t107) (wrap64 ((ji23) - 1))) ji18 (x6_2.size : Int) (wrap64 (x25_2 + 1))) = some (r1, r2) := by first | (rw [hji23] at H; exact H) | (simp only [hji23] at H ⊢; exact H)
                            (try rw [hji23] at A15)
                            have hji23_ : (IntKind.i64.wrap (1 * 2 ^ min (ji18).toNat 64)) = ji23 := hji23
                            have hji23z : (ji18) ≤ 64 → (IntKind.i64.wrap (1 * 2 ^ (ji18).toNat)) = ji23 := shl_small hji23
                            have hji23u : (IntKind.i64.wrap (2 ^ min (ji18).toNat 64)) = ji23 := by have h_ := hji23_; rw [Int.one_mul] at h_; exact h_
                            have hji23v : (ji18) ≤ 64 → (IntKind.i64.wrap (2 ^ (ji18).toNat)) = ji23 := fun hle_ => by have h_ := hji23z hle_; rw [Int.one_mul] at h_; exact h_
                            have hji23y : (wrap64 (1 * 2 ^ min (ji18).toNat 64)) = ji23 := (i64_w _).symm.trans hji23_
                            have hji23x : (ji18) ≤ 64 → (wrap64 (1 * 2 ^ (ji18).toNat)) = ji23 := fun h_ => (i64_w _).symm.trans (hji23z h_)
                            have H' := Aside0.mk H
                            clear H
                            have p14 : 0 ≤ (x25_2 : Int) := of_decide_eq_true (by first | (with_reducible assumption) | assumption)
                            have q14 : x25_2 < (x6_2.size : Int) := of_decide_eq_true (by first | (with_reducible assumption) | assumption)
                            have hx14 := bt_at x6_2 x25_2
                            replace p14 := eq_true p14
                            replace q14 := eq_true q14
                            go_wp2_with (first | ((with_reducible refine gate_callee (f := 17) rfl ?_); refine goesL_ (some 33) rfl rfl Tryd.func17 (by kernel_rfl) rfl #[.int .i64 a0, .int .u8 (bt x6_2 x25_2)] rfl (by (try simp only [List.map_toArray, List.map_cons, List.map_nil]); first | done | rfl | (simp only [List.length_drop, List.length_take]; rfl)) ?_; (with_reducible refine (base64_Value.calls a0 (bt x6_2 x25_2) t107 true _ A15.out).mono ?_); rintro e w24 ⟨rfl, hb⟩; refine ⟨_, rfl, ?_⟩; have n0_ := Aside0.mk (Kd.R_below (by (with_reducible repeat (first | apply Kd.R_alloc | apply Kd.R_drewN | apply Kd.R_drew)); exact HO_7.out) hb); have n1_ := Aside0.mk (below_step (by repeat (first | (with_reducible first | exact HB.out | apply below_alloc | apply pw_below_drewN | apply below_drew1) | exact HB.out)) hb); clear HO_7; clear HB; have HO_7 := n0_; have HB := n1_; clear n0_ n1_; (try clear hb); (try clear hb2); (try clear hk); (try clear hi)) | ((with_reducible refine gate_builtin (b := .append) (xs := #[.tmp 48, .tmp 53]) rfl ?_); at_builtin; refine Kd.R_append (Kd.int .u8) (w0 := w) w.heap.size rfl (.tmp 48) (.tmp 53) 23 5 (.int .u8 0) 1 rfl Tryd.underlying23 info5 rfl (by decide) (by omega) u7 x7_2 ((ji20) % 256) [.int .u8 ((ji20) % 256)] (fun _ => True) (fun _ => False) rfl rfl ?aP (fun _ hk => hk.elim) ?aF ?aO ?aB ?aS ?aL ?_; (case aP => exact rfl); (case aB => exact (by repeat (first | (with_reducible first | exact HB.out | apply below_alloc | apply pw_below_drewN | apply below_drew1) | exact HB.out))); (case aF => exact (fun _ _ => trivial)); (case aO => exact (by (with_reducible repeat (first | apply Kd.R_alloc | apply Kd.R_drewN | apply Kd.R_drew)); exact HO_7.out)); (case aS => exact (below_size (by repeat (first | (with_reducible first | exact HB.out | apply below_alloc | apply pw_below_drewN | apply below_drew1) | exact HB.out)))); (case aL => have := LMc21.out; omega); intro v110 w25 ho hb hg hat; rw [← Ny109.out] at ho; have n0_ := Aside0.mk (hb); have n1_ := Aside0.mk (ho); clear HB; clear HO_7; have HB := n0_; have HO111 := n1_; clear n0_ n1_; clear ho hb hg hat))
                            go_roundg k2
                            case measure => have := HJ2.out; have := HK2.out; omega
                            case rel => exact ⟨(y109), (Go.bits .and .i64 (Go.bits .or .i64 (wrap64 (x8_2 * 64)) t107) (wrap64 ((ji23) - 1))), (ji18), (wrap64 (x25_2 + 1)), (by first | rfl | (simp; done) | (simp only [← hji23] <;> (first | rfl | simp)) | (simp [*]; done)), (by first | rfl | (simp; done) | (simp only [← hji18] <;> (first | rfl | simp)) | (simp [*]; done)), (by first | rfl | (simp; done) | (simp [*]; done)), H', ⟨by have := HJ2.out; have := HK2.out; omega⟩, ⟨by (with_reducible repeat (first | apply Kd.R_alloc | apply Kd.R_drewN | apply Kd.R_drew)); exact HO111.out⟩, ⟨by repeat (first | (with_reducible first | exact HB.out | apply below_alloc | apply pw_below_drewN | apply below_drew1) | exact HB.out)⟩⟩
                          · rw [if_neg c21] at H
                            exact absurd H (by simp)
                        · rw [if_neg c19] at H
                          exact absurd H (by simp)
                      · rw [if_neg c17] at H
                        have c17b0 : decide (8 ≤ (wrap64 (x9_2 + 6))) = false := decide_eq_false c17
                        clear c17
                        have H' := Aside0.mk H
                        clear H
                        have p14 : 0 ≤ (x25_2 : Int) := of_decide_eq_true (by first | (with_reducible assumption) | assumption)
                        have q14 : x25_2 < (x6_2.size : Int) := of_decide_eq_true (by first | (with_reducible assumption) | assumption)
                        have hx14 := bt_at x6_2 x25_2
                        replace p14 := eq_true p14
                        replace q14 := eq_true q14
                        go_wp2_with (first | ((with_reducible refine gate_callee (f := 17) rfl ?_); refine goesL_ (some 33) rfl rfl Tryd.func17 (by kernel_rfl) rfl #[.int .i64 a0, .int .u8 (bt x6_2 x25_2)] rfl (by (try simp only [List.map_toArray, List.map_cons, List.map_nil]); first | done | rfl | (simp only [List.length_drop, List.length_take]; rfl)) ?_; (with_reducible refine (base64_Value.calls a0 (bt x6_2 x25_2) t107 true _ A15.out).mono ?_); rintro e w26 ⟨rfl, hb⟩; refine ⟨_, rfl, ?_⟩; have n0_ := Aside0.mk (Kd.R_below (by (with_reducible repeat (first | apply Kd.R_alloc | apply Kd.R_drewN | apply Kd.R_drew)); exact HO_7.out) hb); have n1_ := Aside0.mk (below_step (by repeat (first | (with_reducible first | exact HB.out | apply below_alloc | apply pw_below_drewN | apply below_drew1) | exact HB.out)) hb); clear HO_7; clear HB; have HO_7 := n0_; have HB := n1_; clear n0_ n1_; (try clear hb); (try clear hb2); (try clear hk); (try clear hi)))
                        go_roundg k2
                        case measure => have := HJ2.out; have := HK2.out; omega
                        case rel => exact ⟨(x7_2), (Go.bits .or .i64 (wrap64 (x8_2 * 64)) t107), (wrap64 (x9_2 + 6)), (wrap64 (x25_2 + 1)), (by first | rfl | (simp; done) | (simp [*]; done)), (by first | rfl | (simp; done) | (simp [*]; done)), (by first | rfl | (simp; done) | (simp [*]; done)), H', ⟨by have := HJ2.out; have := HK2.out; omega⟩, ⟨by (with_reducible repeat (first | apply Kd.R_alloc | apply Kd.R_drewN | apply Kd.R_drew)); exact HO_7.out⟩, ⟨by repeat (first | (with_reducible first | exact HB.out | apply below_alloc | apply pw_below_drewN | apply below_drew1) | exact HB.out)⟩⟩
                    · replace c16 := Bool.eq_false_iff.mpr c16
                      subst c16
                      have H1 : (some (([] : List Int), false)) = some (r1, r2) := by rw [if_neg (show ¬ (false = true) by decide)] at H; exact H
                      clear H
                      have H := H1
                      clear H1
                      simp only [Option.some.injEq, Prod.mk.injEq] at H
                      obtain ⟨rfl, rfl⟩ := H
                      have p14 : 0 ≤ (x25_2 : Int) := of_decide_eq_true (by first | (with_reducible assumption) | assumption)
                      have q14 : x25_2 < (x6_2.size : Int) := of_decide_eq_true (by first | (with_reducible assumption) | assumption)
                      have hx14 := bt_at x6_2 x25_2
                      replace p14 := eq_true p14
                      replace q14 := eq_true q14
                      go_wp2_with (first | ((with_reducible refine gate_callee (f := 17) rfl ?_); refine goesL_ (some 33) rfl rfl Tryd.func17 (by kernel_rfl) rfl #[.int .i64 a0, .int .u8 (bt x6_2 x25_2)] rfl (by (try simp only [List.map_toArray, List.map_cons, List.map_nil]); first | done | rfl | (simp only [List.length_drop, List.length_take]; rfl)) ?_; (with_reducible refine (base64_Value.calls a0 (bt x6_2 x25_2) t107 false _ A15.out).mono ?_); rintro e w27 ⟨rfl, hb⟩; refine ⟨_, rfl, ?_⟩; have n0_ := Aside0.mk (Kd.R_below (by (with_reducible repeat (first | apply Kd.R_alloc | apply Kd.R_drewN | apply Kd.R_drew)); exact HO_7.out) hb); have n1_ := Aside0.mk (below_step (by repeat (first | (with_reducible first | exact HB.out | apply below_alloc | apply pw_below_drewN | apply below_drew1) | exact HB.out)) hb); clear HO_7; clear HB; have HO_7 := n0_; have HB := n1_; clear n0_ n1_; (try clear hb); (try clear hb2); (try clear hk); (try clear hi)))
                      go_ret2
                      exact ⟨_, by first | rfl | (simp [errW_none, errW_some] <;> rfl) | (simp only [← hji6]; first | rfl | (simp [errW_none, errW_some] <;> rfl)) | (simp [*, errW_none, errW_some] <;> rfl), by first | exact Kd.R_nil _ _ _ _ _ | exact Kd.N_nil _ _ _ _ _ | exact Kd.V_nil _ _ _ _ _ | exact Kd.Q_nil _ _ _ _ _ | exact Kd.S_nil _ _ _ _ _, by repeat (first | (with_reducible first | exact HB.out | apply below_alloc | apply pw_below_drewN | apply below_drew1) | exact HB.out)⟩
                  · rw [if_neg c13] at H
                    exact absurd H (by simp)
                · rw [if_neg c12] at H
                  exact absurd H (by simp)
              · rw [if_neg c11] at H
                have c11b0 : decide (x25_2 < (x6_2.size : Int)) = false := decide_eq_false c11
                clear c11
                replace H := Option.bind_eq_some_iff.mp H
                obtain ⟨t112, A280, H⟩ := H
                replace H : (if t112.toList = ([] : List UInt8) then (some (([] : List Int), false)) else ((base64_Encode.f a0 x7_2).bind fun t113 => (if t113.toList = a1.toList then (some (x7_2, true)) else (some (([] : List Int), false))))) = some (r1, r2) := H
                have A28 := Aside0.mk A280
                clear A280
                by_cases c29 : t112.toList = ([] : List UInt8)
                · rw [if_pos c29] at H
                  have c29b0 : (t112.toList == ([] : List UInt8)) = true := beq_iff_eq.mpr c29
                  have c29b1 : (t112.toList != ([] : List UInt8)) = false := bne_eq_false_iff_eq.mpr c29
                  clear c29
                  simp only [Option.some.injEq, Prod.mk.injEq] at H
                  obtain ⟨rfl, rfl⟩ := H
                  go_wp2_with (first | ((with_reducible refine gate_callee (f := 30) rfl ?_); refine goesL_ (some 62) rfl rfl Tryd.func30 (by kernel_rfl) rfl #[.int .i64 a0] rfl (by (try simp only [List.map_toArray, List.map_cons, List.map_nil]); first | done | rfl | (simp only [List.length_drop, List.length_take]; rfl)) ?_; (with_reducible refine (base64_table.calls a0 t112 _ A28.out).mono ?_); rintro e w' ⟨rfl, ⟨nd, rfl⟩⟩; refine ⟨_, rfl, ?_⟩))
                  go_ret2
                  exact ⟨_, by first | rfl | (simp [errW_none, errW_some] <;> rfl) | (simp only [← hji6]; first | rfl | (simp [errW_none, errW_some] <;> rfl)) | (simp [*, errW_none, errW_some] <;> rfl), by first | exact Kd.R_nil _ _ _ _ _ | exact Kd.N_nil _ _ _ _ _ | exact Kd.V_nil _ _ _ _ _ | exact Kd.Q_nil _ _ _ _ _ | exact Kd.S_nil _ _ _ _ _, by repeat (first | (with_reducible first | exact HB.out | apply below_alloc | apply pw_below_drewN | apply below_drew1) | exact HB.out)⟩
                · rw [if_neg c29] at H
                  have c29b0 : (t112.toList == ([] : List UInt8)) = false := beq_eq_false_iff_ne.mpr c29
                  have c29b1 : (t112.toList != ([] : List UInt8)) = true := bne_iff_ne.mpr c29
                  replace H := Option.bind_eq_some_iff.mp H
                  obtain ⟨t113, A300, H⟩ := H
                  replace H : (if t113.toList = a1.toList then (some (x7_2, true)) else (some (([] : List Int), false))) = some (r1, r2) := H
                  have A30 := Aside0.mk A300
                  clear A300
                  by_cases c31 : t113.toList = a1.toList
                  · rw [if_pos c31] at H
                    have c31b0 : (t113.toList == a1.toList) = true := beq_iff_eq.mpr c31
                    have c31b1 : (t113.toList != a1.toList) = false := bne_eq_false_iff_eq.mpr c31
                    clear c31
                    simp only [Option.some.injEq, Prod.mk.injEq] at H
                    obtain ⟨rfl, rfl⟩ := H
                    go_wp2_with (first | ((with_reducible refine gate_callee (f := 30) rfl ?_); refine goesL_ (some 62) rfl rfl Tryd.func30 (by kernel_rfl) rfl #[.int .i64 a0] rfl (by (try simp only [List.map_toArray, List.map_cons, List.map_nil]); first | done | rfl | (simp only [List.length_drop, List.length_take]; rfl)) ?_; (with_reducible refine (base64_table.calls a0 t112 _ A28.out).mono ?_); rintro e w' ⟨rfl, ⟨nd, rfl⟩⟩; refine ⟨_, rfl, ?_⟩; obtain ⟨Ao32, co32, eo32⟩ := Kd.R_slice HO_7.out; subst eo32) | (go_at_call 13; (with_reducible refine (base64_Encode.calls a0 _ _ x7_2 t113 _ ?side1 ?side2 A30.out).mono ?_); (case side1 => repeat (first | exact (Kd.R_reads' HO_7.out).2.2 | (with_reducible refine Kd.C_alloc ?_ _) | (with_reducible refine Kd.C_drewN ?_ _) | (with_reducible refine Kd.C_drew ?_))); (case side2 => exact (Kd.R_reads' HO_7.out).2.1); rintro e w33 ⟨rfl, hb⟩; have n0_ := Aside0.mk (Kd.R_below (by (with_reducible repeat (first | apply Kd.R_alloc | apply Kd.R_drewN | apply Kd.R_drew)); exact HO_7.out) hb); have n1_ := Aside0.mk (below_step (by repeat (first | (with_reducible first | exact HB.out | apply below_alloc | apply pw_below_drewN | apply below_drew1) | exact HB.out)) hb); clear HO_7; clear HB; have HO_7 := n0_; have HB := n1_; clear n0_ n1_; (try clear hb); (try clear hb2); (try clear hk); (try clear hi)))
                    go_ret2
                    exact ⟨_, by first | rfl | (simp [errW_none, errW_some] <;> rfl) | (simp only [← hji6]; first | rfl | (simp [errW_none, errW_some] <;> rfl)) | (simp [*, errW_none, errW_some] <;> rfl), by (with_reducible repeat (first | apply Kd.R_alloc | apply Kd.R_drewN | apply Kd.R_drew)); exact HO_7.out, by repeat (first | (with_reducible first | exact HB.out | apply below_alloc | apply pw_below_drewN | apply below_drew1) | exact HB.out)⟩
                  · rw [if_neg c31] at H
                    have c31b0 : (t113.toList == a1.toList) = false := beq_eq_false_iff_ne.mpr c31
                    have c31b1 : (t113.toList != a1.toList) = true := bne_iff_ne.mpr c31
                    simp only [Option.some.injEq, Prod.mk.injEq] at H
                    obtain ⟨rfl, rfl⟩ := H
                    go_wp2_with (first | ((with_reducible refine gate_callee (f := 30) rfl ?_); refine goesL_ (some 62) rfl rfl Tryd.func30 (by kernel_rfl) rfl #[.int .i64 a0] rfl (by (try simp only [List.map_toArray, List.map_cons, List.map_nil]); first | done | rfl | (simp only [List.length_drop, List.length_take]; rfl)) ?_; (with_reducible refine (base64_table.calls a0 t112 _ A28.out).mono ?_); rintro e w' ⟨rfl, ⟨nd, rfl⟩⟩; refine ⟨_, rfl, ?_⟩; obtain ⟨Ao34, co34, eo34⟩ := Kd.R_slice HO_7.out; subst eo34) | (go_at_call 13; (with_reducible refine (base64_Encode.calls a0 _ _ x7_2 t113 _ ?side1 ?side2 A30.out).mono ?_); (case side1 => repeat (first | exact (Kd.R_reads' HO_7.out).2.2 | (with_reducible refine Kd.C_alloc ?_ _) | (with_reducible refine Kd.C_drewN ?_ _) | (with_reducible refine Kd.C_drew ?_))); (case side2 => exact (Kd.R_reads' HO_7.out).2.1); rintro e w35 ⟨rfl, hb⟩; have n0_ := Aside0.mk (Kd.R_below (by (with_reducible repeat (first | apply Kd.R_alloc | apply Kd.R_drewN | apply Kd.R_drew)); exact HO_7.out) hb); have n1_ := Aside0.mk (below_step (by repeat (first | (with_reducible first | exact HB.out | apply below_alloc | apply pw_below_drewN | apply below_drew1) | exact HB.out)) hb); clear HO_7; clear HB; have HO_7 := n0_; have HB := n1_; clear n0_ n1_; (try clear hb); (try clear hb2); (try clear hk); (try clear hi)))
                    go_ret2
                    exact ⟨_, by first | rfl | (simp [errW_none, errW_some] <;> rfl) | (simp only [← hji6]; first | rfl | (simp [errW_none, errW_some] <;> rfl)) | (simp [*, errW_none, errW_some] <;> rfl), by first | exact Kd.R_nil _ _ _ _ _ | exact Kd.N_nil _ _ _ _ _ | exact Kd.V_nil _ _ _ _ _ | exact Kd.Q_nil _ _ _ _ _ | exact Kd.S_nil _ _ _ _ _, by repeat (first | (with_reducible first | exact HB.out | apply below_alloc | apply pw_below_drewN | apply below_drew1) | exact HB.out)⟩
        · rw [if_neg c8] at H
          exact absurd H (by simp)
      · rw [if_neg c7] at H
        exact absurd H (by simp)

/-! ### pyxref01_Same: function 12 -/
def pyxref01_Same.l0 : Nat → List Int → List Int → Int → Option (Bool)
  | 0, _, _, _ => none
  | k + 1, x0, x1, x5 => if x5 < (x0.length : Int) then (if 0 ≤ x5 then (if x5 < (x1.length : Int) then (if (rd x0 x5) = (rd x1 x5) then (pyxref01_Same.l0 k x0 x1 (wrap64 (x5 + 1))) else (some false)) else (none)) else (none)) else (some true)
def pyxref01_Same.f (k : Nat) (l0 : List Int) (l1 : List Int) : Option (Bool) := if (l0.length : Int) = (l1.length : Int) then (pyxref01_Same.l0 k l0 l1 0) else (some false)
theorem pyxref01_Same.mono_l : ∀ k, (∀ y0 y1 y2, LeO (pyxref01_Same.l0 k y0 y1 y2) (pyxref01_Same.l0 (k + 1) y0 y1 y2))
  | 0 => fun _ _ _ r h => by simp [pyxref01_Same.l0] at h
  | k + 1 => by
    have ih0 := pyxref01_Same.mono_l k
    · intro y0 y1 y2
      unfold pyxref01_Same.l0
      repeat' first
      | (with_reducible exact ih0 _ _ _)
      | (with_reducible exact LeO.refl _)
      | (with_reducible exact LeO.none _)
      | (with_reducible refine LeO.ite ?_ ?_)
      | (with_reducible refine LeO.bind ?_ (fun _ => ?_))
      | exact ih0 _ _ _
      | exact LeO.none _
      | refine LeO.ite ?_ ?_
      | refine LeO.bind ?_ (fun _ => ?_)
theorem pyxref01_Same.mono : ∀ a0 a1 k, LeO (pyxref01_Same.f k a0 a1) (pyxref01_Same.f (k + 1) a0 a1) := by
  intro a0 a1 k
  have ih0 := pyxref01_Same.mono_l k
  unfold pyxref01_Same.f
  repeat' first
      | (with_reducible exact ih0 _ _ _)
      | (with_reducible exact LeO.refl _)
      | (with_reducible exact LeO.none _)
      | (with_reducible refine LeO.ite ?_ ?_)
      | (with_reducible refine LeO.bind ?_ (fun _ => ?_))
      | exact ih0 _ _ _
      | exact LeO.none _
      | refine LeO.ite ?_ ?_
      | refine LeO.bind ?_ (fun _ => ?_)
set_option maxHeartbeats 8000000 in
set_option maxRecDepth 100000 in
theorem pyxref01_Same.calls (k : Nat) (A0 : Option Addr) (c0 : Nat) (l0 : List Int) (A1 : Option Addr) (c1 : Nat) (l1 : List Int) (r : Bool) (w : World) (hr0 : Kd.C (Kd.int .u8) w A0 l0.length l0) (hc0 : l0.length ≤ c0) (hr1 : Kd.C (Kd.int .u8) w A1 l1.length l1) (hc1 : l1.length ≤ c1) (h : pyxref01_Same.f k l0 l1 = some r) :
    Calls Tryd.prog 12 #[.slice A0 l0.length c0, .slice A1 l1.length c1] w fun e w' => e = .returned (.bool r) ∧ Drawn0 w w' := by
  have HR0 := Aside0.mk hr0
  have HC0 := Aside0.mk hc0
  clear hr0 hc0
  have HR1 := Aside0.mk hr1
  have HC1 := Aside0.mk hc1
  clear hr1 hc1
  have H : (if (l0.length : Int) = (l1.length : Int) then (pyxref01_Same.l0 k l0 l1 0) else (some false)) = some r := h
  clear h
  by_cases c3 : (l0.length : Int) = (l1.length : Int)
  · rw [if_pos c3] at H
    have c3b0 : ((l0.length : Int) == (l1.length : Int)) = true := beq_iff_eq.mpr c3
    have c3b1 : ((l0.length : Int) != (l1.length : Int)) = false := bne_eq_false_iff_eq.mpr c3
    have c3b2 : (l0.length == l1.length) = true := by first | simpa using c3 | (simp at c3 ⊢; omega)
    clear c3
    have H' := Aside0.mk H
    clear H
    go_enter Tryd.func12, Tryd.ntmps12
    go_wp2
    repeat (go_quiet (fail); try go_wp2)
    go_loopg [5] k (fun kq v5 w' => ∃ (x5_1 : Int), v5 = .int .i64 x5_1 ∧ Aside0 (pyxref01_Same.l0 kq l0 l1 x5_1 = some r) ∧ Aside0 (kq ≤ k) ∧ Drawn0 w w')
    case atStart => exact ⟨(0), (by first | rfl | (simp; done) | (simp [*]; done)), H', ⟨Nat.le_refl _⟩, by repeat (first | exact Drawn0.refl _ | apply Drawn0.step)⟩
    case round =>
      clear H'
      try clear c1
      try clear p2
      try clear c3
      try clear c3b0
      try clear c3b1
      try clear c3b2
      obtain ⟨x5_1, rfl, HA, HK1, ⟨m1, rfl⟩⟩ := hrel
      cases gk with
      | zero => exact absurd HA.out (by simp [pyxref01_Same.l0])
      | succ k1 =>
        have H := HA.out
        clear HA
        simp only [pyxref01_Same.l0] at H
        by_cases c4 : x5_1 < (l0.length : Int)
        · rw [if_pos c4] at H
          have c4b0 : decide (x5_1 < (l0.length : Int)) = true := decide_eq_true c4
          clear c4
          by_cases c5 : 0 ≤ x5_1
          · rw [if_pos c5] at H
            have c5b0 : decide (0 ≤ x5_1) = true := decide_eq_true c5
            clear c5
            by_cases c6 : x5_1 < (l1.length : Int)
            · rw [if_pos c6] at H
              have c6b0 : decide (x5_1 < (l1.length : Int)) = true := decide_eq_true c6
              clear c6
              by_cases c7 : (rd l0 x5_1) = (rd l1 x5_1)
              · rw [if_pos c7] at H
                have c7b0 : ((rd l0 x5_1) == (rd l1 x5_1)) = true := beq_iff_eq.mpr c7
                have c7b1 : ((rd l0 x5_1) != (rd l1 x5_1)) = false := bne_eq_false_iff_eq.mpr c7
                clear c7
                have H' := Aside0.mk H
                clear H
                have p114 : 0 ≤ (x5_1 : Int) := of_decide_eq_true (by first | (with_reducible assumption) | assumption)
                have q114 : x5_1 < (l0.length : Int) := of_decide_eq_true (by first | (with_reducible assumption) | assumption)
                obtain ⟨ad114, e114, hx114_0⟩ := Kd.at_int HR0.out x5_1 p114 q114
                cases e114
                replace p114 := eq_true p114
                replace q114 := eq_true q114
                have p115 : 0 ≤ (x5_1 : Int) := of_decide_eq_true (by first | (with_reducible assumption) | assumption)
                have q115 : x5_1 < (l1.length : Int) := of_decide_eq_true (by first | (with_reducible assumption) | assumption)
                obtain ⟨ad115, e115, hx115_0⟩ := Kd.at_int HR1.out x5_1 p115 q115
                cases e115
                replace p115 := eq_true p115
                replace q115 := eq_true q115
                go_wp2
                repeat (go_quiet (fail); try go_wp2)
                go_roundg k1
                case measure => have := HK1.out; omega
                case rel => exact ⟨(wrap64 (x5_1 + 1)), (by first | rfl | (simp; done) | (simp [*]; done)), H', ⟨by have := HK1.out; omega⟩, by repeat (first | exact Drawn0.refl _ | apply Drawn0.step)⟩
              · rw [if_neg c7] at H
                have c7b0 : ((rd l0 x5_1) == (rd l1 x5_1)) = false := beq_eq_false_iff_ne.mpr c7
                have c7b1 : ((rd l0 x5_1) != (rd l1 x5_1)) = true := bne_iff_ne.mpr c7
                obtain rfl := Option.some.inj H
                have p114 : 0 ≤ (x5_1 : Int) := of_decide_eq_true (by first | (with_reducible assumption) | assumption)
                have q114 : x5_1 < (l0.length : Int) := of_decide_eq_true (by first | (with_reducible assumption) | assumption)
                obtain ⟨ad114, e114, hx114_0⟩ := Kd.at_int HR0.out x5_1 p114 q114
                cases e114
                replace p114 := eq_true p114
                replace q114 := eq_true q114
                have p115 : 0 ≤ (x5_1 : Int) := of_decide_eq_true (by first | (with_reducible assumption) | assumption)
                have q115 : x5_1 < (l1.length : Int) := of_decide_eq_true (by first | (with_reducible assumption) | assumption)
                obtain ⟨ad115, e115, hx115_0⟩ := Kd.at_int HR1.out x5_1 p115 q115
                cases e115
                replace p115 := eq_true p115
                replace q115 := eq_true q115
                go_wp2
                repeat (go_quiet (fail); try go_wp2)
                go_ret
                exact ⟨by first | rfl | (simp; done) | (simp [*]; done), by repeat (first | exact Drawn0.refl _ | apply Drawn0.step)⟩
            · rw [if_neg c6] at H
              exact absurd H (by simp)
          · rw [if_neg c5] at H
            exact absurd H (by simp)
        · rw [if_neg c4] at H
          have c4b0 : decide (x5_1 < (l0.length : Int)) = false := decide_eq_false c4
          clear c4
          obtain rfl := Option.some.inj H
          go_wp2
          repeat (go_quiet (fail); try go_wp2)
          go_ret
          exact ⟨by first | rfl | (simp; done) | (simp [*]; done), by repeat (first | exact Drawn0.refl _ | apply Drawn0.step)⟩
  · rw [if_neg c3] at H
    have c3b0 : ((l0.length : Int) == (l1.length : Int)) = false := beq_eq_false_iff_ne.mpr c3
    have c3b1 : ((l0.length : Int) != (l1.length : Int)) = true := bne_iff_ne.mpr c3
    have c3b2 : (l0.length == l1.length) = false := by first | simpa using c3 | (simp at c3 ⊢; omega)
    obtain rfl := Option.some.inj H
    go_enter Tryd.func12, Tryd.ntmps12
    go_wp2
    repeat (go_quiet (fail); try go_wp2)
    go_ret
    exact ⟨by first | rfl | (simp; done) | (simp [*]; done), by repeat (first | exact Drawn0.refl _ | apply Drawn0.step)⟩

/-! ### base64_Length: function 15 -/
def base64_Length.f (a0 : Int) (a1 : Int) : Option (Int) := if a1 < 0 then (some 0) else (if a0 = 1 then (some (wrap64 ((wrap64 (Int.tdiv (wrap64 (a1 + 2)) 3)) * 4))) else (if a0 = 2 then (some (wrap64 (Int.tdiv (wrap64 ((wrap64 (a1 * 4)) + 2)) 3))) else (some 0)))
set_option maxHeartbeats 8000000 in
set_option maxRecDepth 100000 in
theorem base64_Length.calls (a0 : Int) (a1 : Int) (r : Int) (w : World) (h : base64_Length.f a0 a1 = some r) :
    Calls Tryd.prog 15 #[.int .i64 a0, .int .i64 a1] w fun e w' => e = .returned (.int .i64 r) ∧ Drawn0 w w' := by
  have H : (if a1 < 0 then (some 0) else (if a0 = 1 then (some (wrap64 ((wrap64 (Int.tdiv (wrap64 (a1 + 2)) 3)) * 4))) else (if a0 = 2 then (some (wrap64 (Int.tdiv (wrap64 ((wrap64 (a1 * 4)) + 2)) 3))) else (some 0)))) = some r := h
  clear h
  by_cases c3 : a1 < 0
  · rw [if_pos c3] at H
    have c3b0 : decide (a1 < 0) = true := decide_eq_true c3
    clear c3
    obtain rfl := Option.some.inj H
    go_enter Tryd.func15, Tryd.ntmps15
    go_wp2
    go_ret
    exact ⟨by first | rfl | (simp; done) | (simp [*]; done), by repeat (first | exact Drawn0.refl _ | apply Drawn0.step)⟩
  · rw [if_neg c3] at H
    have c3b0 : decide (a1 < 0) = false := decide_eq_false c3
    clear c3
    by_cases c4 : a0 = 1
    · rw [if_pos c4] at H
      have c4b0 : (a0 == 1) = true := beq_iff_eq.mpr c4
      have c4b1 : (a0 != 1) = false := bne_eq_false_iff_eq.mpr c4
      clear c4
      obtain rfl := Option.some.inj H
      go_enter Tryd.func15, Tryd.ntmps15
      go_wp2
      go_ret
      exact ⟨by first | rfl | (simp; done) | (simp [*]; done), by repeat (first | exact Drawn0.refl _ | apply Drawn0.step)⟩
    · rw [if_neg c4] at H
      have c4b0 : (a0 == 1) = false := beq_eq_false_iff_ne.mpr c4
      have c4b1 : (a0 != 1) = true := bne_iff_ne.mpr c4
      by_cases c5 : a0 = 2
      · rw [if_pos c5] at H
        have c5b0 : (a0 == 2) = true := beq_iff_eq.mpr c5
        have c5b1 : (a0 != 2) = false := bne_eq_false_iff_eq.mpr c5
        clear c5
        obtain rfl := Option.some.inj H
        go_enter Tryd.func15, Tryd.ntmps15
        go_wp2
        go_ret
        exact ⟨by first | rfl | (simp; done) | (simp [*]; done), by repeat (first | exact Drawn0.refl _ | apply Drawn0.step)⟩
      · rw [if_neg c5] at H
        have c5b0 : (a0 == 2) = false := beq_eq_false_iff_ne.mpr c5
        have c5b1 : (a0 != 2) = true := bne_iff_ne.mpr c5
        obtain rfl := Option.some.inj H
        go_enter Tryd.func15, Tryd.ntmps15
        go_wp2
        go_ret
        exact ⟨by first | rfl | (simp; done) | (simp [*]; done), by repeat (first | exact Drawn0.refl _ | apply Drawn0.step)⟩

/-! ### base64_Digit: function 16 -/
def base64_Digit.f (a0 : Int) (a1 : Int) : Option (Int × Bool) := (base64_table.f a0).bind fun t116 => (if a1 < 0 then (some (0, false)) else (if a1 ≥ (t116.size : Int) then (some (0, false)) else (if 0 ≤ a1 then (if a1 < (t116.size : Int) then (some (bt t116 a1, true)) else (none)) else (none))))
set_option maxHeartbeats 8000000 in
set_option maxRecDepth 100000 in
theorem base64_Digit.calls (a0 : Int) (a1 : Int) (r1 : Int) (r2 : Bool) (w : World) (h : base64_Digit.f a0 a1 = some (r1, r2)) :
    Calls Tryd.prog 16 #[.int .i64 a0, .int .i64 a1] w fun e w' => e = .returned (.tuple #[.int .u8 r1, .bool r2]) ∧ Drawn0 w w' := by
  have H : ((base64_table.f a0).bind fun t116 => (if a1 < 0 then (some (0, false)) else (if a1 ≥ (t116.size : Int) then (some (0, false)) else (if 0 ≤ a1 then (if a1 < (t116.size : Int) then (some (bt t116 a1, true)) else (none)) else (none))))) = some (r1, r2) := h
  clear h
  replace H := Option.bind_eq_some_iff.mp H
  obtain ⟨t116, A30, H⟩ := H
  replace H : (if a1 < 0 then (some (0, false)) else (if a1 ≥ (t116.size : Int) then (some (0, false)) else (if 0 ≤ a1 then (if a1 < (t116.size : Int) then (some (bt t116 a1, true)) else (none)) else (none)))) = some (r1, r2) := H
  have A3 := Aside0.mk A30
  clear A30
  by_cases c4 : a1 < 0
  · rw [if_pos c4] at H
    have c4b0 : decide (a1 < 0) = true := decide_eq_true c4
    clear c4
    simp only [Option.some.injEq, Prod.mk.injEq] at H
    obtain ⟨rfl, rfl⟩ := H
    go_enter Tryd.func16, Tryd.ntmps16
    go_wp2_with (first | ((with_reducible refine gate_callee (f := 30) rfl ?_); refine goesL_ (some 8) rfl rfl Tryd.func30 (by kernel_rfl) rfl #[.int .i64 a0] rfl (by (try simp only [List.map_toArray, List.map_cons, List.map_nil]); first | done | rfl | (simp only [List.length_drop, List.length_take]; rfl)) ?_; (with_reducible refine (base64_table.calls a0 t116 _ A3.out).mono ?_); rintro e w' ⟨rfl, ⟨nd, rfl⟩⟩; refine ⟨_, rfl, ?_⟩))
    go_ret2
    exact ⟨by first | rfl | (simp; done) | (simp [*]; done), by repeat (first | exact Drawn0.refl _ | apply Drawn0.step)⟩
  · rw [if_neg c4] at H
    have c4b0 : decide (a1 < 0) = false := decide_eq_false c4
    clear c4
    by_cases c5 : a1 ≥ (t116.size : Int)
    · rw [if_pos c5] at H
      have c5b0 : decide ((t116.size : Int) ≤ a1) = true := decide_eq_true c5
      clear c5
      simp only [Option.some.injEq, Prod.mk.injEq] at H
      obtain ⟨rfl, rfl⟩ := H
      go_enter Tryd.func16, Tryd.ntmps16
      go_wp2_with (first | ((with_reducible refine gate_callee (f := 30) rfl ?_); refine goesL_ (some 8) rfl rfl Tryd.func30 (by kernel_rfl) rfl #[.int .i64 a0] rfl (by (try simp only [List.map_toArray, List.map_cons, List.map_nil]); first | done | rfl | (simp only [List.length_drop, List.length_take]; rfl)) ?_; (with_reducible refine (base64_table.calls a0 t116 _ A3.out).mono ?_); rintro e w' ⟨rfl, ⟨nd, rfl⟩⟩; refine ⟨_, rfl, ?_⟩))
      go_ret2
      exact ⟨by first | rfl | (simp; done) | (simp [*]; done), by repeat (first | exact Drawn0.refl _ | apply Drawn0.step)⟩
    · rw [if_neg c5] at H
      have c5b0 : decide ((t116.size : Int) ≤ a1) = false := decide_eq_false c5
      clear c5
      by_cases c6 : 0 ≤ a1
      · rw [if_pos c6] at H
        have c6b0 : decide (0 ≤ a1) = true := decide_eq_true c6
        clear c6
        by_cases c7 : a1 < (t116.size : Int)
        · rw [if_pos c7] at H
          have c7b0 : decide (a1 < (t116.size : Int)) = true := decide_eq_true c7
          clear c7
          simp only [Option.some.injEq, Prod.mk.injEq] at H
          obtain ⟨rfl, rfl⟩ := H
          go_enter Tryd.func16, Tryd.ntmps16
          go_wp2_with (first | ((with_reducible refine gate_callee (f := 30) rfl ?_); refine goesL_ (some 8) rfl rfl Tryd.func30 (by kernel_rfl) rfl #[.int .i64 a0] rfl (by (try simp only [List.map_toArray, List.map_cons, List.map_nil]); first | done | rfl | (simp only [List.length_drop, List.length_take]; rfl)) ?_; (with_reducible refine (base64_table.calls a0 t116 _ A3.out).mono ?_); rintro e w' ⟨rfl, ⟨nd, rfl⟩⟩; refine ⟨_, rfl, ?_⟩; have p8 : 0 ≤ (a1 : Int) := of_decide_eq_true (by first | (with_reducible assumption) | assumption); have q8 : a1 < (t116.size : Int) := of_decide_eq_true (by first | (with_reducible assumption) | assumption); have hx8 := bt_at t116 a1; replace p8 := eq_true p8; replace q8 := eq_true q8))
          go_ret2
          exact ⟨by first | rfl | (simp; done) | (simp [*]; done), by repeat (first | exact Drawn0.refl _ | apply Drawn0.step)⟩
        · rw [if_neg c7] at H
          exact absurd H (by simp)
      · rw [if_neg c6] at H
        exact absurd H (by simp)

/-! ### pyxlaw04_awake: function 9 -/
def pyxlaw04_awake.f (k : Nat)  : Option (Bool) := (base64_Decode.f k 1 (⟨#[47, 119, 61, 61]⟩ : ByteArray)).bind fun bt117 => ((base64_Decode.f k 1 (⟨#[47, 120, 61, 61]⟩ : ByteArray)).bind fun bt121 => ((base64_Digit.f 2 63).bind fun bt125 => ((base64_Value.f 1 43).bind fun bt127 => ((base64_Encode.f 1 (([255] : List Int))).bind fun t132 => (if t132.toList = ([47, 119, 61, 61] : List UInt8) then ((base64_Encode.f 2 (([255] : List Int))).bind fun t136 => (if t136.toList = ([95, 119] : List UInt8) then ((pyxref01_Same.f k bt117.1 (([255] : List Int))).bind fun t140 => (if t140 = true then (if bt117.2 = true then (if bt121.2 = true then (some false) else (if bt125.1 = 95 then (if bt125.2 = true then (if bt127.1 = 62 then (if bt127.2 = true then ((base64_Length.f 1 1).bind fun t141 => (if t141 = 4 then ((base64_Length.f 2 1).bind fun t142 => (some (t142 == 2))) else (some false))) else (some false)) else (some false)) else (some false)) else (some false))) else (some false)) else (some false))) else (some false))) else (some false))))))
theorem pyxlaw04_awake.mono : ∀ k, LeO (pyxlaw04_awake.f k ) (pyxlaw04_awake.f (k + 1) ) := by
  intro  k
  unfold pyxlaw04_awake.f
  repeat' first
      | (with_reducible exact base64_Decode.mono _ _ _)
      | (with_reducible exact pyxref01_Same.mono _ _ _)
      | (with_reducible exact LeO.refl _)
      | (with_reducible exact LeO.none _)
      | (with_reducible refine LeO.ite ?_ ?_)
      | (with_reducible refine LeO.bind ?_ (fun _ => ?_))
      | exact base64_Decode.mono _ _ _
      | exact pyxref01_Same.mono _ _ _
      | exact LeO.none _
      | refine LeO.ite ?_ ?_
      | refine LeO.bind ?_ (fun _ => ?_)
theorem pyxlaw04_awake.eval : pyxlaw04_awake.f 64 = some true := by kernel_rfl
theorem pyxlaw04_awake.only {k : Nat} {r : Bool} (h : pyxlaw04_awake.f k = some r) : r = true := by
  obtain ⟨k', h1, h2⟩ := together pyxlaw04_awake.mono pyxlaw04_awake.mono ⟨k, h⟩ ⟨64, pyxlaw04_awake.eval⟩
  exact Option.some.inj (h1.symm.trans h2)
set_option maxHeartbeats 8000000 in
set_option maxRecDepth 100000 in
theorem pyxlaw04_awake.calls (k : Nat)  (r : Bool) (w : World) (h : pyxlaw04_awake.f k  = some r) :
    Calls Tryd.prog 9 #[] w fun e w' => e = .returned (.bool r) ∧ Below w.heap.size w w' := by
  have HT := Aside0.mk (pyxlaw04_awake.only h)
  have HB := Aside0.mk (Below.refl w.heap.size w)
  have H : ((base64_Decode.f k 1 (⟨#[47, 119, 61, 61]⟩ : ByteArray)).bind fun bt117 => ((base64_Decode.f k 1 (⟨#[47, 120, 61, 61]⟩ : ByteArray)).bind fun bt121 => ((base64_Digit.f 2 63).bind fun bt125 => ((base64_Value.f 1 43).bind fun bt127 => ((base64_Encode.f 1 (([255] : List Int))).bind fun t132 => (if t132.toList = ([47, 119, 61, 61] : List UInt8) then ((base64_Encode.f 2 (([255] : List Int))).bind fun t136 => (if t136.toList = ([95, 119] : List UInt8) then ((pyxref01_Same.f k bt117.1 (([255] : List Int))).bind fun t140 => (if t140 = true then (if bt117.2 = true then (if bt121.2 = true then (some false) else (if bt125.1 = 95 then (if bt125.2 = true then (if bt127.1 = 62 then (if bt127.2 = true then ((base64_Length.f 1 1).bind fun t141 => (if t141 = 4 then ((base64_Length.f 2 1).bind fun t142 => (some (t142 == 2))) else (some false))) else (some false)) else (some false)) else (some false)) else (some false))) else (some false)) else (some false))) else (some false))) else (some false))))))) = some r := h
  clear h
  replace H := Option.bind_eq_some_iff.mp H
  obtain ⟨⟨t117, t118⟩, A10, H⟩ := H
  replace H : ((base64_Decode.f k 1 (⟨#[47, 120, 61, 61]⟩ : ByteArray)).bind fun bt121 => ((base64_Digit.f 2 63).bind fun bt125 => ((base64_Value.f 1 43).bind fun bt127 => ((base64_Encode.f 1 (([255] : List Int))).bind fun t132 => (if t132.toList = ([47, 119, 61, 61] : List UInt8) then ((base64_Encode.f 2 (([255] : List Int))).bind fun t136 => (if t136.toList = ([95, 119] : List UInt8) then ((pyxref01_Same.f k t117 (([255] : List Int))).bind fun t140 => (if t140 = true then (if t118 = true then (if bt121.2 = true then (some false) else (if bt125.1 = 95 then (if bt125.2 = true then (if bt127.1 = 62 then (if bt127.2 = true then ((base64_Length.f 1 1).bind fun t141 => (if t141 = 4 then ((base64_Length.f 2 1).bind fun t142 => (some (t142 == 2))) else (some false))) else (some false)) else (some false)) else (some false)) else (some false))) else (some false)) else (some false))) else (some false))) else (some false)))))) = some r := H
  have A1 := Aside0.mk A10
  clear A10
  replace H := Option.bind_eq_some_iff.mp H
  obtain ⟨⟨t121, t122⟩, A20, H⟩ := H
  replace H : ((base64_Digit.f 2 63).bind fun bt125 => ((base64_Value.f 1 43).bind fun bt127 => ((base64_Encode.f 1 (([255] : List Int))).bind fun t132 => (if t132.toList = ([47, 119, 61, 61] : List UInt8) then ((base64_Encode.f 2 (([255] : List Int))).bind fun t136 => (if t136.toList = ([95, 119] : List UInt8) then ((pyxref01_Same.f k t117 (([255] : List Int))).bind fun t140 => (if t140 = true then (if t118 = true then (if t122 = true then (some false) else (if bt125.1 = 95 then (if bt125.2 = true then (if bt127.1 = 62 then (if bt127.2 = true then ((base64_Length.f 1 1).bind fun t141 => (if t141 = 4 then ((base64_Length.f 2 1).bind fun t142 => (some (t142 == 2))) else (some false))) else (some false)) else (some false)) else (some false)) else (some false))) else (some false)) else (some false))) else (some false))) else (some false))))) = some r := H
  have A2 := Aside0.mk A20
  clear A20
  replace H := Option.bind_eq_some_iff.mp H
  obtain ⟨⟨t125, t126⟩, A30, H⟩ := H
  replace H : ((base64_Value.f 1 43).bind fun bt127 => ((base64_Encode.f 1 (([255] : List Int))).bind fun t132 => (if t132.toList = ([47, 119, 61, 61] : List UInt8) then ((base64_Encode.f 2 (([255] : List Int))).bind fun t136 => (if t136.toList = ([95, 119] : List UInt8) then ((pyxref01_Same.f k t117 (([255] : List Int))).bind fun t140 => (if t140 = true then (if t118 = true then (if t122 = true then (some false) else (if t125 = 95 then (if t126 = true then (if bt127.1 = 62 then (if bt127.2 = true then ((base64_Length.f 1 1).bind fun t141 => (if t141 = 4 then ((base64_Length.f 2 1).bind fun t142 => (some (t142 == 2))) else (some false))) else (some false)) else (some false)) else (some false)) else (some false))) else (some false)) else (some false))) else (some false))) else (some false)))) = some r := H
  have A3 := Aside0.mk A30
  clear A30
  replace H := Option.bind_eq_some_iff.mp H
  obtain ⟨⟨t127, t128⟩, A40, H⟩ := H
  replace H : ((base64_Encode.f 1 (([255] : List Int))).bind fun t132 => (if t132.toList = ([47, 119, 61, 61] : List UInt8) then ((base64_Encode.f 2 (([255] : List Int))).bind fun t136 => (if t136.toList = ([95, 119] : List UInt8) then ((pyxref01_Same.f k t117 (([255] : List Int))).bind fun t140 => (if t140 = true then (if t118 = true then (if t122 = true then (some false) else (if t125 = 95 then (if t126 = true then (if t127 = 62 then (if t128 = true then ((base64_Length.f 1 1).bind fun t141 => (if t141 = 4 then ((base64_Length.f 2 1).bind fun t142 => (some (t142 == 2))) else (some false))) else (some false)) else (some false)) else (some false)) else (some false))) else (some false)) else (some false))) else (some false))) else (some false))) = some r := H
  have A4 := Aside0.mk A40
  clear A40
  obtain ⟨y129, hy129⟩ : ∃ y_ : List Int, y_ = (([255] : List Int)) := ⟨_, rfl⟩
  replace H : ((base64_Encode.f 1 y129).bind fun t132 => (if t132.toList = ([47, 119, 61, 61] : List UInt8) then ((base64_Encode.f 2 (([255] : List Int))).bind fun t136 => (if t136.toList = ([95, 119] : List UInt8) then ((pyxref01_Same.f k t117 (([255] : List Int))).bind fun t140 => (if t140 = true then (if t118 = true then (if t122 = true then (some false) else (if t125 = 95 then (if t126 = true then (if t127 = 62 then (if t128 = true then ((base64_Length.f 1 1).bind fun t141 => (if t141 = 4 then ((base64_Length.f 2 1).bind fun t142 => (some (t142 == 2))) else (some false))) else (some false)) else (some false)) else (some false)) else (some false))) else (some false)) else (some false))) else (some false))) else (some false))) = some r := by first | (rw [hy129]; with_reducible exact H) | (have H2_ := (Option.bind_some _ _).symm.trans H; rw [hy129]; with_reducible exact H2_) | (have H2_ := (Option.bind_some _ _).symm.trans H; with_reducible exact H2_) | with_reducible exact H | (rw [hy129]; exact H) | exact H
  have Ny129 := Aside0.mk hy129
  clear hy129
  replace H := Option.bind_eq_some_iff.mp H
  obtain ⟨t132, A50, H⟩ := H
  replace H : (if t132.toList = ([47, 119, 61, 61] : List UInt8) then ((base64_Encode.f 2 (([255] : List Int))).bind fun t136 => (if t136.toList = ([95, 119] : List UInt8) then ((pyxref01_Same.f k t117 (([255] : List Int))).bind fun t140 => (if t140 = true then (if t118 = true then (if t122 = true then (some false) else (if t125 = 95 then (if t126 = true then (if t127 = 62 then (if t128 = true then ((base64_Length.f 1 1).bind fun t141 => (if t141 = 4 then ((base64_Length.f 2 1).bind fun t142 => (some (t142 == 2))) else (some false))) else (some false)) else (some false)) else (some false)) else (some false))) else (some false)) else (some false))) else (some false))) else (some false)) = some r := H
  have A5 := Aside0.mk A50
  clear A50
  by_cases c6 : t132.toList = ([47, 119, 61, 61] : List UInt8)
  · rw [if_pos c6] at H
    have c6b0 : (t132.toList == ([47, 119, 61, 61] : List UInt8)) = true := beq_iff_eq.mpr c6
    have c6b1 : (t132.toList != ([47, 119, 61, 61] : List UInt8)) = false := bne_eq_false_iff_eq.mpr c6
    clear c6
    obtain ⟨y133, hy133⟩ : ∃ y_ : List Int, y_ = (([255] : List Int)) := ⟨_, rfl⟩
    replace H : ((base64_Encode.f 2 y133).bind fun t136 => (if t136.toList = ([95, 119] : List UInt8) then ((pyxref01_Same.f k t117 (([255] : List Int))).bind fun t140 => (if t140 = true then (if t118 = true then (if t122 = true then (some false) else (if t125 = 95 then (if t126 = true then (if t127 = 62 then (if t128 = true then ((base64_Length.f 1 1).bind fun t141 => (if t141 = 4 then ((base64_Length.f 2 1).bind fun t142 => (some (t142 == 2))) else (some false))) else (some false)) else (some false)) else (some false)) else (some false))) else (some false)) else (some false))) else (some false))) = some r := by first | (rw [hy133]; with_reducible exact H) | (have H2_ := (Option.bind_some _ _).symm.trans H; rw [hy133]; with_reducible exact H2_) | (have H2_ := (Option.bind_some _ _).symm.trans H; with_reducible exact H2_) | with_reducible exact H | (rw [hy133]; exact H) | exact H
    have Ny133 := Aside0.mk hy133
    clear hy133
    replace H := Option.bind_eq_some_iff.mp H
    obtain ⟨t136, A70, H⟩ := H
    replace H : (if t136.toList = ([95, 119] : List UInt8) then ((pyxref01_Same.f k t117 (([255] : List Int))).bind fun t140 => (if t140 = true then (if t118 = true then (if t122 = true then (some false) else (if t125 = 95 then (if t126 = true then (if t127 = 62 then (if t128 = true then ((base64_Length.f 1 1).bind fun t141 => (if t141 = 4 then ((base64_Length.f 2 1).bind fun t142 => (some (t142 == 2))) else (some false))) else (some false)) else (some false)) else (some false)) else (some false))) else (some false)) else (some false))) else (some false)) = some r := H
    have A7 := Aside0.mk A70
    clear A70
    by_cases c8 : t136.toList = ([95, 119] : List UInt8)
    · rw [if_pos c8] at H
      have c8b0 : (t136.toList == ([95, 119] : List UInt8)) = true := beq_iff_eq.mpr c8
      have c8b1 : (t136.toList != ([95, 119] : List UInt8)) = false := bne_eq_false_iff_eq.mpr c8
      clear c8
      obtain ⟨y137, hy137⟩ : ∃ y_ : List Int, y_ = (([255] : List Int)) := ⟨_, rfl⟩
      replace H : ((pyxref01_Same.f k t117 y137).bind fun t140 => (if t140 = true then (if t118 = true then (if t122 = true then (some false) else (if t125 = 95 then (if t126 = true then (if t127 = 62 then (if t128 = true then ((base64_Length.f 1 1).bind fun t141 => (if t141 = 4 then ((base64_Length.f 2 1).bind fun t142 => (some (t142 == 2))) else (some false))) else (some false)) else (some false)) else (some false)) else (some false))) else (some false)) else (some false))) = some r := by first | (rw [hy137]; with_reducible exact H) | (have H2_ := (Option.bind_some _ _).symm.trans H; rw [hy137]; with_reducible exact H2_) | (have H2_ := (Option.bind_some _ _).symm.trans H; with_reducible exact H2_) | with_reducible exact H | (rw [hy137]; exact H) | exact H
      have Ny137 := Aside0.mk hy137
      clear hy137
      replace H := Option.bind_eq_some_iff.mp H
      obtain ⟨t140, A90, H⟩ := H
      replace H : (if t140 = true then (if t118 = true then (if t122 = true then (some false) else (if t125 = 95 then (if t126 = true then (if t127 = 62 then (if t128 = true then ((base64_Length.f 1 1).bind fun t141 => (if t141 = 4 then ((base64_Length.f 2 1).bind fun t142 => (some (t142 == 2))) else (some false))) else (some false)) else (some false)) else (some false)) else (some false))) else (some false)) else (some false)) = some r := H
      have A9 := Aside0.mk A90
      clear A90
      by_cases c10 : t140 = true
      · subst c10
        have H1 : (if t118 = true then (if t122 = true then (some false) else (if t125 = 95 then (if t126 = true then (if t127 = 62 then (if t128 = true then ((base64_Length.f 1 1).bind fun t141 => (if t141 = 4 then ((base64_Length.f 2 1).bind fun t142 => (some (t142 == 2))) else (some false))) else (some false)) else (some false)) else (some false)) else (some false))) else (some false)) = some r := by rw [if_pos rfl] at H; exact H
        clear H
        have H := H1
        clear H1
        by_cases c11 : t118 = true
        · subst c11
          have H1 : (if t122 = true then (some false) else (if t125 = 95 then (if t126 = true then (if t127 = 62 then (if t128 = true then ((base64_Length.f 1 1).bind fun t141 => (if t141 = 4 then ((base64_Length.f 2 1).bind fun t142 => (some (t142 == 2))) else (some false))) else (some false)) else (some false)) else (some false)) else (some false))) = some r := by rw [if_pos rfl] at H; exact H
          clear H
          have H := H1
          clear H1
          by_cases c12 : t122 = true
          · subst c12
            have H1 : (some false) = some r := by rw [if_pos rfl] at H; exact H
            clear H
            have H := H1
            clear H1
            exact absurd ((Option.some.inj H).trans HT.out) (by decide)
          · replace c12 := Bool.eq_false_iff.mpr c12
            subst c12
            have H1 : (if t125 = 95 then (if t126 = true then (if t127 = 62 then (if t128 = true then ((base64_Length.f 1 1).bind fun t141 => (if t141 = 4 then ((base64_Length.f 2 1).bind fun t142 => (some (t142 == 2))) else (some false))) else (some false)) else (some false)) else (some false)) else (some false)) = some r := by rw [if_neg (show ¬ (false = true) by decide)] at H; exact H
            clear H
            have H := H1
            clear H1
            by_cases c13 : t125 = 95
            · rw [if_pos c13] at H
              have c13b0 : (t125 == 95) = true := beq_iff_eq.mpr c13
              have c13b1 : (t125 != 95) = false := bne_eq_false_iff_eq.mpr c13
              clear c13
              by_cases c14 : t126 = true
              · subst c14
                have H1 : (if t127 = 62 then (if t128 = true then ((base64_Length.f 1 1).bind fun t141 => (if t141 = 4 then ((base64_Length.f 2 1).bind fun t142 => (some (t142 == 2))) else (some false))) else (some false)) else (some false)) = some r := by rw [if_pos rfl] at H; exact H
                clear H
                have H := H1
                clear H1
                by_cases c15 : t127 = 62
                · rw [if_pos c15] at H
                  have c15b0 : (t127 == 62) = true := beq_iff_eq.mpr c15
                  have c15b1 : (t127 != 62) = false := bne_eq_false_iff_eq.mpr c15
                  clear c15
                  by_cases c16 : t128 = true
                  · subst c16
                    have H1 : ((base64_Length.f 1 1).bind fun t141 => (if t141 = 4 then ((base64_Length.f 2 1).bind fun t142 => (some (t142 == 2))) else (some false))) = some r := by rw [if_pos rfl] at H; exact H
                    clear H
                    have H := H1
                    clear H1
                    replace H := Option.bind_eq_some_iff.mp H
                    obtain ⟨t141, A170, H⟩ := H
                    replace H : (if t141 = 4 then ((base64_Length.f 2 1).bind fun t142 => (some (t142 == 2))) else (some false)) = some r := H
                    have A17 := Aside0.mk A170
                    clear A170
                    by_cases c18 : t141 = 4
                    · rw [if_pos c18] at H
                      have c18b0 : (t141 == 4) = true := beq_iff_eq.mpr c18
                      have c18b1 : (t141 != 4) = false := bne_eq_false_iff_eq.mpr c18
                      clear c18
                      replace H := Option.bind_eq_some_iff.mp H
                      obtain ⟨t142, A190, H⟩ := H
                      replace H : (some (t142 == 2)) = some r := H
                      have A19 := Aside0.mk A190
                      clear A190
                      obtain rfl := Option.some.inj H
                      go_enter Tryd.func9, Tryd.ntmps9
                      go_wp2_with (first | ((with_reducible refine gate_callee (f := 10) rfl ?_); refine goesL_ (some 10) rfl rfl Tryd.func10 (by kernel_rfl) rfl #[.int .i64 1, .string (⟨#[47, 119, 61, 61]⟩ : ByteArray)] rfl (by (try simp only [List.map_toArray, List.map_cons, List.map_nil]); first | done | rfl | (simp only [List.length_drop, List.length_take]; rfl)) ?_; (with_reducible refine (base64_Decode.calls k 1 (⟨#[47, 119, 61, 61]⟩ : ByteArray) t117 true _ A1.out).mono ?_); rintro e w20 ⟨v119, rfl, ho0, hb⟩; refine ⟨_, rfl, ?_⟩; have n0_ := Aside0.mk (Kd.R_lower ho0 (below_size (by repeat (first | (with_reducible first | exact HB.out | apply below_alloc | apply pw_below_drewN | apply below_drew1) | exact HB.out)))); have n1_ := Aside0.mk (below_step (by repeat (first | (with_reducible first | exact HB.out | apply below_alloc | apply pw_below_drewN | apply below_drew1) | exact HB.out)) hb); clear HB; have HO120 := n0_; have HB := n1_; clear n0_ n1_; (try clear hb); (try clear hb2); (try clear hk); (try clear hi); (try clear ho0)) | ((with_reducible refine gate_callee (f := 10) rfl ?_); refine goesL_ (some 14) rfl rfl Tryd.func10 (by kernel_rfl) rfl #[.int .i64 1, .string (⟨#[47, 120, 61, 61]⟩ : ByteArray)] rfl (by (try simp only [List.map_toArray, List.map_cons, List.map_nil]); first | done | rfl | (simp only [List.length_drop, List.length_take]; rfl)) ?_; (with_reducible refine (base64_Decode.calls k 1 (⟨#[47, 120, 61, 61]⟩ : ByteArray) t121 false _ A2.out).mono ?_); rintro e w21 ⟨v123, rfl, ho0, hb⟩; refine ⟨_, rfl, ?_⟩; have n0_ := Aside0.mk (Kd.R_elder' (by (with_reducible repeat (first | apply Kd.R_alloc | apply Kd.R_drewN | apply Kd.R_drew)); exact HO120.out) (Kd.R_base ho0) hb); have n1_ := Aside0.mk (Kd.R_lower (Kd.R_new' ho0 (Kd.R_lt (by (with_reducible repeat (first | apply Kd.R_alloc | apply Kd.R_drewN | apply Kd.R_drew)); exact HO120.out))) (below_size (by repeat (first | (with_reducible first | exact HB.out | apply below_alloc | apply pw_below_drewN | apply below_drew1) | exact HB.out)))); have n2_ := Aside0.mk (below_step (by repeat (first | (with_reducible first | exact HB.out | apply below_alloc | apply pw_below_drewN | apply below_drew1) | exact HB.out)) hb); clear HO120; clear HB; have HO120 := n0_; have HO124 := n1_; have HB := n2_; clear n0_ n1_ n2_; (try clear hb); (try clear hb2); (try clear hk); (try clear hi); (try clear ho0)) | ((with_reducible refine gate_callee (f := 16) rfl ?_); refine goesL_ (some 18) rfl rfl Tryd.func16 (by kernel_rfl) rfl #[.int .i64 2, .int .i64 63] rfl (by (try simp only [List.map_toArray, List.map_cons, List.map_nil]); first | done | rfl | (simp only [List.length_drop, List.length_take]; rfl)) ?_; (with_reducible refine (base64_Digit.calls 2 63 t125 true _ A3.out).mono ?_); rintro e w' ⟨rfl, ⟨nd, rfl⟩⟩; refine ⟨_, rfl, ?_⟩) | ((with_reducible refine gate_callee (f := 17) rfl ?_); refine goesL_ (some 22) rfl rfl Tryd.func17 (by kernel_rfl) rfl #[.int .i64 1, .int .u8 43] rfl (by (try simp only [List.map_toArray, List.map_cons, List.map_nil]); first | done | rfl | (simp only [List.length_drop, List.length_take]; rfl)) ?_; (with_reducible refine (base64_Value.calls 1 43 t127 true _ A4.out).mono ?_); rintro e w22 ⟨rfl, hb⟩; refine ⟨_, rfl, ?_⟩; have n0_ := Aside0.mk (Kd.R_below (by (with_reducible repeat (first | apply Kd.R_alloc | apply Kd.R_drewN | apply Kd.R_drew)); exact HO120.out) hb); have n1_ := Aside0.mk (Kd.R_below (by (with_reducible repeat (first | apply Kd.R_alloc | apply Kd.R_drewN | apply Kd.R_drew)); exact HO124.out) hb); have n2_ := Aside0.mk (below_step (by repeat (first | (with_reducible first | exact HB.out | apply below_alloc | apply pw_below_drewN | apply below_drew1) | exact HB.out)) hb); clear HO120; clear HO124; clear HB; have HO120 := n0_; have HO124 := n1_; have HB := n2_; clear n0_ n1_ n2_; (try clear hb); (try clear hb2); (try clear hk); (try clear hi)) | ((with_reducible refine gate_dst (N := 25) rfl ?_); (try (refine gate_guard (by rfl) ?_; dsimp only)); refine Kd.R_lit (Kd.int .u8) _ 5 ?hg (N := 25) ?hd (xs := ([255] : List Int)) (inner := [.int .u8 255]) (ok := fun _ => True) (okp := fun _ => True) ?hr ?hp (fun _ hk => hk) trivial (Below.refl _ _) (Nat.le_refl _) (by simp) ?_; (case hd => rfl); (case hg => rfl); (case hr => first | (go_simp; done) | (go_simp; rfl)); (case hp => exact (Reps.one (show Kd.M (Kd.int .u8) _ _ _ 255 [.int .u8 255] from rfl) (Reps.none _ _))); intro v130 w23 ho24 hb hg_ hnew_; clear hg_ hnew_; (first | rw [← Ny129.out] at ho24 | (simp only [Int.reduceToNat] at ho24; rw [← Ny129.out] at ho24)); have n0_ := Aside0.mk (Kd.R_elder' (by (with_reducible repeat (first | apply Kd.R_alloc | apply Kd.R_drewN | apply Kd.R_drew)); exact HO120.out) (Kd.R_base ho24) hb); have n1_ := Aside0.mk (Kd.R_elder' (by (with_reducible repeat (first | apply Kd.R_alloc | apply Kd.R_drewN | apply Kd.R_drew)); exact HO124.out) (Kd.R_base ho24) hb); have n2_ := Aside0.mk (Kd.R_lower (Kd.R_new' (Kd.R_new' ho24 (Kd.R_lt (by (with_reducible repeat (first | apply Kd.R_alloc | apply Kd.R_drewN | apply Kd.R_drew)); exact HO120.out))) (Kd.R_lt (by (with_reducible repeat (first | apply Kd.R_alloc | apply Kd.R_drewN | apply Kd.R_drew)); exact HO124.out))) (below_size (by repeat (first | (with_reducible first | exact HB.out | apply below_alloc | apply pw_below_drewN | apply below_drew1) | exact HB.out)))); have n3_ := Aside0.mk (below_step (by repeat (first | (with_reducible first | exact HB.out | apply below_alloc | apply pw_below_drewN | apply below_drew1) | exact HB.out)) hb); clear HO120; clear HO124; clear HB; have HO120 := n0_; have HO124 := n1_; have HO131 := n2_; have HB := n3_; clear n0_ n1_ n2_ n3_; clear hb ho24; obtain ⟨Ao25, co25, eo25⟩ := Kd.R_slice HO131.out; subst eo25) | ((with_reducible refine gate_callee (f := 13) rfl ?_); refine goesL_ (some 26) rfl rfl Tryd.func13 (by kernel_rfl) rfl #[.int .i64 1, .slice Ao25 y129.length co25] rfl (by (try simp only [List.map_toArray, List.map_cons, List.map_nil]); first | done | rfl | (simp only [List.length_drop, List.length_take]; rfl)) ?_; (with_reducible refine (base64_Encode.calls 1 _ _ y129 t132 _ ?side1 ?side2 A5.out).mono ?_); (case side1 => repeat (first | exact (Kd.R_reads' HO131.out).2.2 | (with_reducible refine Kd.C_alloc ?_ _) | (with_reducible refine Kd.C_drewN ?_ _) | (with_reducible refine Kd.C_drew ?_))); (case side2 => exact (Kd.R_reads' HO131.out).2.1); rintro e w26 ⟨rfl, hb⟩; refine ⟨_, rfl, ?_⟩; have n0_ := Aside0.mk (Kd.R_below (by (with_reducible repeat (first | apply Kd.R_alloc | apply Kd.R_drewN | apply Kd.R_drew)); exact HO120.out) hb); have n1_ := Aside0.mk (Kd.R_below (by (with_reducible repeat (first | apply Kd.R_alloc | apply Kd.R_drewN | apply Kd.R_drew)); exact HO124.out) hb); have n2_ := Aside0.mk (Kd.R_below (by (with_reducible repeat (first | apply Kd.R_alloc | apply Kd.R_drewN | apply Kd.R_drew)); exact HO131.out) hb); have n3_ := Aside0.mk (below_step (by repeat (first | (with_reducible first | exact HB.out | apply below_alloc | apply pw_below_drewN | apply below_drew1) | exact HB.out)) hb); clear HO120; clear HO124; clear HO131; clear HB; have HO120 := n0_; have HO124 := n1_; have HO131 := n2_; have HB := n3_; clear n0_ n1_ n2_ n3_; (try clear hb); (try clear hb2); (try clear hk); (try clear hi)) | ((with_reducible refine gate_dst (N := 29) rfl ?_); (try (refine gate_guard (by rfl) ?_; dsimp only)); refine Kd.R_lit (Kd.int .u8) _ 5 ?hg (N := 29) ?hd (xs := ([255] : List Int)) (inner := [.int .u8 255]) (ok := fun _ => True) (okp := fun _ => True) ?hr ?hp (fun _ hk => hk) trivial (Below.refl _ _) (Nat.le_refl _) (by simp) ?_; (case hd => rfl); (case hg => rfl); (case hr => first | (go_simp; done) | (go_simp; rfl)); (case hp => exact (Reps.one (show Kd.M (Kd.int .u8) _ _ _ 255 [.int .u8 255] from rfl) (Reps.none _ _))); intro v134 w27 ho28 hb hg_ hnew_; clear hg_ hnew_; (first | rw [← Ny133.out] at ho28 | (simp only [Int.reduceToNat] at ho28; rw [← Ny133.out] at ho28)); have n0_ := Aside0.mk (Kd.R_elder' (by (with_reducible repeat (first | apply Kd.R_alloc | apply Kd.R_drewN | apply Kd.R_drew)); exact HO120.out) (Kd.R_base ho28) hb); have n1_ := Aside0.mk (Kd.R_elder' (by (with_reducible repeat (first | apply Kd.R_alloc | apply Kd.R_drewN | apply Kd.R_drew)); exact HO124.out) (Kd.R_base ho28) hb); have n2_ := Aside0.mk (Kd.R_elder' (by (with_reducible repeat (first | apply Kd.R_alloc | apply Kd.R_drewN | apply Kd.R_drew)); exact HO131.out) (Kd.R_base ho28) hb); have n3_ := Aside0.mk (Kd.R_lower (Kd.R_new' (Kd.R_new' (Kd.R_new' ho28 (Kd.R_lt (by (with_reducible repeat (first | apply Kd.R_alloc | apply Kd.R_drewN | apply Kd.R_drew)); exact HO120.out))) (Kd.R_lt (by (with_reducible repeat (first | apply Kd.R_alloc | apply Kd.R_drewN | apply Kd.R_drew)); exact HO124.out))) (Kd.R_lt (by (with_reducible repeat (first | apply Kd.R_alloc | apply Kd.R_drewN | apply Kd.R_drew)); exact HO131.out))) (below_size (by repeat (first | (with_reducible first | exact HB.out | apply below_alloc | apply pw_below_drewN | apply below_drew1) | exact HB.out)))); have n4_ := Aside0.mk (below_step (by repeat (first | (with_reducible first | exact HB.out | apply below_alloc | apply pw_below_drewN | apply below_drew1) | exact HB.out)) hb); clear HO120; clear HO124; clear HO131; clear HB; have HO120 := n0_; have HO124 := n1_; have HO131 := n2_; have HO135 := n3_; have HB := n4_; clear n0_ n1_ n2_ n3_ n4_; clear hb ho28; obtain ⟨Ao29, co29, eo29⟩ := Kd.R_slice HO135.out; subst eo29) | (go_at_call 13; (with_reducible refine (base64_Encode.calls 2 _ _ y133 t136 _ ?side1 ?side2 A7.out).mono ?_); (case side1 => repeat (first | exact (Kd.R_reads' HO135.out).2.2 | (with_reducible refine Kd.C_alloc ?_ _) | (with_reducible refine Kd.C_drewN ?_ _) | (with_reducible refine Kd.C_drew ?_))); (case side2 => exact (Kd.R_reads' HO135.out).2.1); rintro e w30 ⟨rfl, hb⟩; have n0_ := Aside0.mk (Kd.R_below (by (with_reducible repeat (first | apply Kd.R_alloc | apply Kd.R_drewN | apply Kd.R_drew)); exact HO120.out) hb); have n1_ := Aside0.mk (Kd.R_below (by (with_reducible repeat (first | apply Kd.R_alloc | apply Kd.R_drewN | apply Kd.R_drew)); exact HO124.out) hb); have n2_ := Aside0.mk (Kd.R_below (by (with_reducible repeat (first | apply Kd.R_alloc | apply Kd.R_drewN | apply Kd.R_drew)); exact HO131.out) hb); have n3_ := Aside0.mk (Kd.R_below (by (with_reducible repeat (first | apply Kd.R_alloc | apply Kd.R_drewN | apply Kd.R_drew)); exact HO135.out) hb); have n4_ := Aside0.mk (below_step (by repeat (first | (with_reducible first | exact HB.out | apply below_alloc | apply pw_below_drewN | apply below_drew1) | exact HB.out)) hb); clear HO120; clear HO124; clear HO131; clear HO135; clear HB; have HO120 := n0_; have HO124 := n1_; have HO131 := n2_; have HO135 := n3_; have HB := n4_; clear n0_ n1_ n2_ n3_ n4_; (try clear hb); (try clear hb2); (try clear hk); (try clear hi)) | ((with_reducible refine gate_dst (N := 35) rfl ?_); (try (refine gate_guard (by rfl) ?_; dsimp only)); refine Kd.R_lit (Kd.int .u8) _ 5 ?hg (N := 35) ?hd (xs := ([255] : List Int)) (inner := [.int .u8 255]) (ok := fun _ => True) (okp := fun _ => True) ?hr ?hp (fun _ hk => hk) trivial (Below.refl _ _) (Nat.le_refl _) (by simp) ?_; (case hd => rfl); (case hg => rfl); (case hr => first | (go_simp; done) | (go_simp; rfl)); (case hp => exact (Reps.one (show Kd.M (Kd.int .u8) _ _ _ 255 [.int .u8 255] from rfl) (Reps.none _ _))); intro v138 w31 ho32 hb hg_ hnew_; clear hg_ hnew_; (first | rw [← Ny137.out] at ho32 | (simp only [Int.reduceToNat] at ho32; rw [← Ny137.out] at ho32)); have n0_ := Aside0.mk (Kd.R_elder' (by (with_reducible repeat (first | apply Kd.R_alloc | apply Kd.R_drewN | apply Kd.R_drew)); exact HO120.out) (Kd.R_base ho32) hb); have n1_ := Aside0.mk (Kd.R_elder' (by (with_reducible repeat (first | apply Kd.R_alloc | apply Kd.R_drewN | apply Kd.R_drew)); exact HO124.out) (Kd.R_base ho32) hb); have n2_ := Aside0.mk (Kd.R_elder' (by (with_reducible repeat (first | apply Kd.R_alloc | apply Kd.R_drewN | apply Kd.R_drew)); exact HO131.out) (Kd.R_base ho32) hb); have n3_ := Aside0.mk (Kd.R_elder' (by (with_reducible repeat (first | apply Kd.R_alloc | apply Kd.R_drewN | apply Kd.R_drew)); exact HO135.out) (Kd.R_base ho32) hb); have n4_ := Aside0.mk (Kd.R_lower (Kd.R_new' (Kd.R_new' (Kd.R_new' (Kd.R_new' ho32 (Kd.R_lt (by (with_reducible repeat (first | apply Kd.R_alloc | apply Kd.R_drewN | apply Kd.R_drew)); exact HO120.out))) (Kd.R_lt (by (with_reducible repeat (first | apply Kd.R_alloc | apply Kd.R_drewN | apply Kd.R_drew)); exact HO124.out))) (Kd.R_lt (by (with_reducible repeat (first | apply Kd.R_alloc | apply Kd.R_drewN | apply Kd.R_drew)); exact HO131.out))) (Kd.R_lt (by (with_reducible repeat (first | apply Kd.R_alloc | apply Kd.R_drewN | apply Kd.R_drew)); exact HO135.out))) (below_size (by repeat (first | (with_reducible first | exact HB.out | apply below_alloc | apply pw_below_drewN | apply below_drew1) | exact HB.out)))); have n5_ := Aside0.mk (below_step (by repeat (first | (with_reducible first | exact HB.out | apply below_alloc | apply pw_below_drewN | apply below_drew1) | exact HB.out)) hb); clear HO120; clear HO124; clear HO131; clear HO135; clear HB; have HO120 := n0_; have HO124 := n1_; have HO131 := n2_; have HO135 := n3_; have HO139 := n4_; have HB := n5_; clear n0_ n1_ n2_ n3_ n4_ n5_; clear hb ho32; obtain ⟨Ao33, co33, eo33⟩ := Kd.R_slice HO120.out; subst eo33; obtain ⟨Ao34, co34, eo34⟩ := Kd.R_slice HO139.out; subst eo34) | (go_at_call 12; (with_reducible refine (pyxref01_Same.calls k _ _ t117 _ _ y137 true _ ?side1 ?side2 ?side3 ?side4 A9.out).mono ?_); (case side1 => repeat (first | exact (Kd.R_reads' HO120.out).2.2 | (with_reducible refine Kd.C_alloc ?_ _) | (with_reducible refine Kd.C_drewN ?_ _) | (with_reducible refine Kd.C_drew ?_))); (case side2 => exact (Kd.R_reads' HO120.out).2.1); (case side3 => repeat (first | exact (Kd.R_reads' HO139.out).2.2 | (with_reducible refine Kd.C_alloc ?_ _) | (with_reducible refine Kd.C_drewN ?_ _) | (with_reducible refine Kd.C_drew ?_))); (case side4 => exact (Kd.R_reads' HO139.out).2.1); rintro e w' ⟨rfl, ⟨nd, rfl⟩⟩) | (go_at_call 15; (with_reducible refine (base64_Length.calls 1 1 t141 _ A17.out).mono ?_); rintro e w' ⟨rfl, ⟨nd, rfl⟩⟩) | (go_at_call 15; (with_reducible refine (base64_Length.calls 2 1 t142 _ A19.out).mono ?_); rintro e w' ⟨rfl, ⟨nd, rfl⟩⟩))
                      go_ret
                      exact ⟨by first | rfl | (simp [errW_none, errW_some] <;> rfl) | (simp [*, errW_none, errW_some] <;> rfl), by repeat (first | (with_reducible first | exact HB.out | apply below_alloc | apply pw_below_drewN | apply below_drew1) | exact HB.out)⟩
                    · rw [if_neg c18] at H
                      have c18b0 : (t141 == 4) = false := beq_eq_false_iff_ne.mpr c18
                      have c18b1 : (t141 != 4) = true := bne_iff_ne.mpr c18
                      exact absurd ((Option.some.inj H).trans HT.out) (by decide)
                  · replace c16 := Bool.eq_false_iff.mpr c16
                    subst c16
                    have H1 : (some false) = some r := by rw [if_neg (show ¬ (false = true) by decide)] at H; exact H
                    clear H
                    have H := H1
                    clear H1
                    exact absurd ((Option.some.inj H).trans HT.out) (by decide)
                · rw [if_neg c15] at H
                  have c15b0 : (t127 == 62) = false := beq_eq_false_iff_ne.mpr c15
                  have c15b1 : (t127 != 62) = true := bne_iff_ne.mpr c15
                  exact absurd ((Option.some.inj H).trans HT.out) (by decide)
              · replace c14 := Bool.eq_false_iff.mpr c14
                subst c14
                have H1 : (some false) = some r := by rw [if_neg (show ¬ (false = true) by decide)] at H; exact H
                clear H
                have H := H1
                clear H1
                exact absurd ((Option.some.inj H).trans HT.out) (by decide)
            · rw [if_neg c13] at H
              have c13b0 : (t125 == 95) = false := beq_eq_false_iff_ne.mpr c13
              have c13b1 : (t125 != 95) = true := bne_iff_ne.mpr c13
              exact absurd ((Option.some.inj H).trans HT.out) (by decide)
        · replace c11 := Bool.eq_false_iff.mpr c11
          subst c11
          have H1 : (some false) = some r := by rw [if_neg (show ¬ (false = true) by decide)] at H; exact H
          clear H
          have H := H1
          clear H1
          exact absurd ((Option.some.inj H).trans HT.out) (by decide)
      · replace c10 := Bool.eq_false_iff.mpr c10
        subst c10
        have H1 : (some false) = some r := by rw [if_neg (show ¬ (false = true) by decide)] at H; exact H
        clear H
        have H := H1
        clear H1
        exact absurd ((Option.some.inj H).trans HT.out) (by decide)
    · rw [if_neg c8] at H
      have c8b0 : (t136.toList == ([95, 119] : List UInt8)) = false := beq_eq_false_iff_ne.mpr c8
      have c8b1 : (t136.toList != ([95, 119] : List UInt8)) = true := bne_iff_ne.mpr c8
      exact absurd ((Option.some.inj H).trans HT.out) (by decide)
  · rw [if_neg c6] at H
    have c6b0 : (t132.toList == ([47, 119, 61, 61] : List UInt8)) = false := beq_eq_false_iff_ne.mpr c6
    have c6b1 : (t132.toList != ([47, 119, 61, 61] : List UInt8)) = true := bne_iff_ne.mpr c6
    exact absurd ((Option.some.inj H).trans HT.out) (by decide)

end Go.Proofs.YtnidoimhlfcifaaDoor.PB64
