import Derived.Test.YtgmnknhfeoleaaaGreatDoorZQ
import Derived.Test.YtgmnknhfeoleaaaGreatDoorZPXmssx0
import Derived.Test.YtgmnknhfeoleaaaGreatDoorZPXmssx18
namespace Go.Proofs.YtgmnknhfeoleaaaGreatDoor.PXmss
open Go.RowKit Go.Proofs.YtgmnknhfeoleaaaGreatDoorW.PrintWords Go.Proofs.YtgmnknhfeoleaaaGreatDoorW.PrintLast Go.Proofs.YtgmnknhfeoleaaaGreatDoorW.PrintMore
attribute [local go_sem] max2_int min2_int max_two min_two max_three min_three max_four min_four
set_option linter.unusedVariables false
set_option linter.unusedSimpArgs false
mutual
def pyxref15_Spread.l0 : Nat → Int → Int → List Int → Int → Int → Option (List Int)
 | 0, _, _, _, _, _ => none
 | k + 1, x0, x1, x5, x6, x7 => if x7 < (wrap64 ((wrap64 (Int.tdiv x1 3)) * 2)) then (if x5.length < 35184372088832 then (pyxref15_Spread.l0 k x0 x1 (x5 ++ [(((IntKind.u64.wrap ((IntKind.u64.wrap (x6 * 6364136223846793005)) + 1442695040888963407)) / 8589934592) % 4294967296) % 3329]) (IntKind.u64.wrap ((IntKind.u64.wrap (x6 * 6364136223846793005)) + 1442695040888963407)) (wrap64 (x7 + 1))) else (none)) else ((pyxref05_Pack.f k 12 x5).bind fun bt213 => (pyxref15_Spread.l1 k x0 x1 bt213.1))
def pyxref15_Spread.l1 : Nat → Int → Int → List Int → Option (List Int)
 | 0, _, _, _ => none
 | k + 1, x0, x1, x8 => if (x8.length : Int) < x1 then (if x8.length < 140737488355328 then (pyxref15_Spread.l1 k x0 x1 (x8 ++ [(((x0) % 256) + (((x8.length : Int)) % 256)) % 256])) else (none)) else (some x8)
end
def pyxref15_Spread.f (k : Nat) (a0 : Int) (a1 : Int) : Option (List Int) := pyxref15_Spread.l0 k a0 a1 ([] : List Int) (IntKind.u64.wrap (a0)) 0
set_option maxHeartbeats 8000000 in
set_option maxRecDepth 100000 in
theorem pyxref15_Spread.calls (k : Nat) (a0 : Int) (a1 : Int) (r : List Int) (w : World) (h : pyxref15_Spread.f k a0 a1 = some r) :
  Calls Tryz.prog 26 #[.int .u32 a0, .int .i64 a1] w fun e w' => ∃ v0_ : Value, e = .returned (v0_) ∧ Kd.R (Kd.int .u8) 5 w' w.heap.size (fun _ => True) v0_ r ∧ Below w.heap.size w w' := by
 have HB := Aside0.mk (Below.refl w.heap.size w)
 have H : (pyxref15_Spread.l0 k a0 a1 ([] : List Int) (IntKind.u64.wrap (a0)) 0) = some r := h
 clear h
 have H' := Aside0.mk H
 clear H
 go_enter Tryz.func26, Tryz.ntmps26
 go_wp2
 go_loopg [5, 6, 7] k (fun kq v5 v6 v7 w' => ∃ (x5_1 : List Int) (x6_1 : Int) (x7_1 : Int), v6 = .int .u64 x6_1 ∧ v7 = .int .i64 x7_1 ∧ Aside0 (pyxref15_Spread.l0 kq a0 a1 x5_1 x6_1 x7_1 = some r) ∧ Aside0 (kq ≤ k) ∧ Aside0 (Kd.R (Kd.int .u32) 22 w' w.heap.size (fun _ => True) v5 x5_1) ∧ Aside0 (Below w.heap.size w w'))
 case atStart => exact ⟨(([] : List Int)), (IntKind.u64.wrap (a0)), (0), q64_, q64_, H', ⟨Nat.le_refl _⟩, ⟨by first | exact Kd.R_nil _ _ _ _ _ | exact Kd.N_nil _ _ _ _ _ | exact Kd.V_nil _ _ _ _ _ | exact Kd.Q_nil _ _ _ _ _ | exact Kd.S_nil _ _ _ _ _⟩, ⟨by repeat (first | (with_reducible first | exact HB.out | apply below_alloc | apply pw_below_drewN | apply below_drew1) | exact HB.out)⟩⟩
 case round =>
  clear H'
  try clear c2
  try clear p2
  obtain ⟨x5_1, x6_1, x7_1, rfl, rfl, HA, HK1, HO_5, HB⟩ := hrel
  cases gk with
  | zero => exact absurd HA.out (by simp [pyxref15_Spread.l0])
  | succ k1 =>
   have H := HA.out
   clear HA
   simp only [pyxref15_Spread.l0] at H
   by_cases c3 : x7_1 < (wrap64 ((wrap64 (Int.tdiv a1 3)) * 2))
   ·rw [if_pos c3] at H
    have c3b0 : decide (x7_1 < (wrap64 ((wrap64 (Int.tdiv a1 3)) * 2))) = true := decide_eq_true c3
    clear c3
    by_cases c4 : x5_1.length < 35184372088832
    ·rw [if_pos c4] at H
     have LMc4 := Aside0.mk c4
     clear c4
     obtain ⟨y210, hy210⟩ : ∃ y_ : List Int, y_ = (x5_1 ++ [(((IntKind.u64.wrap ((IntKind.u64.wrap (x6_1 * 6364136223846793005)) + 1442695040888963407)) / 8589934592) % 4294967296) % 3329]) := ⟨_, rfl⟩
     replace H : (pyxref15_Spread.l0 k1 a0 a1 y210 (IntKind.u64.wrap ((IntKind.u64.wrap (x6_1 * 6364136223846793005)) + 1442695040888963407)) (wrap64 (x7_1 + 1))) = some r := by first | (rw [hy210]; with_reducible exact H) | (have H2_ := (Option.bind_some _ _).symm.trans H; rw [hy210]; with_reducible exact H2_) | (have H2_ := (Option.bind_some _ _).symm.trans H; with_reducible exact H2_) | with_reducible exact H | (rw [hy210]; exact H) | exact H
     have Ny210 := Aside0.mk hy210
     clear hy210
     have H' := Aside0.mk H
     clear H
     go_wp2_with (first | ((with_reducible refine gate_builtin (b := .append) (xs := #[.tmp 22, .tmp 27]) rfl ?_); at_builtin; refine Kd.R_append (Kd.int .u32) (w0 := w) w.heap.size rfl (.tmp 22) (.tmp 27) 43 22 (.int .u32 0) 4 rfl Tryz.underlying43 info22 rfl (by decide) (by omega) u5 x5_1 ((((IntKind.u64.wrap ((IntKind.u64.wrap (x6_1 * 6364136223846793005)) + 1442695040888963407)) / 8589934592) % 4294967296) % 3329) [.int .u32 ((((IntKind.u64.wrap ((IntKind.u64.wrap (x6_1 * 6364136223846793005)) + 1442695040888963407)) / 8589934592) % 4294967296) % 3329)] (fun _ => True) (fun _ => False) rfl rfl ?aP (fun _ hk => hk.elim) ?aF ?aO ?aB ?aS ?aL ?_; (case aP => exact rfl); (case aB => exact q30_); (case aF => exact (fun _ _ => trivial)); (case aO => exact q56_); (case aS => exact (below_size q30_)); (case aL => have := LMc4.out; omega); intro v211 w5 ho hb hg hat; rw [← Ny210.out] at ho; have n0_ := Aside0.mk (hb); have n1_ := Aside0.mk (ho); clear HB; clear HO_5; have HB := n0_; have HO212 := n1_; clear n0_ n1_; clear ho hb hg hat))
     go_roundg k1
     case measure => have := HK1.out; omega
     case rel => exact ⟨(y210), (IntKind.u64.wrap ((IntKind.u64.wrap (x6_1 * 6364136223846793005)) + 1442695040888963407)), (wrap64 (x7_1 + 1)), q64_, q64_, H', ⟨by have := HK1.out; omega⟩, ⟨by (with_reducible repeat (first | apply Kd.R_alloc | apply Kd.R_drewN | apply Kd.R_drew)); exact HO212.out⟩, ⟨by repeat (first | (with_reducible first | exact HB.out | apply below_alloc | apply pw_below_drewN | apply below_drew1) | exact HB.out)⟩⟩
    ·rw [if_neg c4] at H
     exact absurd H (by simp)
   ·rw [if_neg c3] at H
    have c3b0 : decide (x7_1 < (wrap64 ((wrap64 (Int.tdiv a1 3)) * 2))) = false := decide_eq_false c3
    clear c3
    replace H := Option.bind_eq_some_iff.mp H
    obtain ⟨⟨t213, t214⟩, A60, H⟩ := H
    replace H : (pyxref15_Spread.l1 k1 a0 a1 t213) = some r := H
    have A6 := Aside0.mk A60
    clear A60
    have H' := Aside0.mk H
    clear H
    obtain ⟨Ao7, co7, eo7⟩ := Kd.R_slice HO_5.out
    subst eo7
    go_wp2_with (first | ((with_reducible refine gate_callee (f := 51) rfl ?_); refine goesL_ (some 31) rfl rfl Tryz.func51 (by kernel_rfl) rfl #[.int .i64 12, .slice Ao7 x5_1.length co7] rfl q29_ ?_; (with_reducible refine (pyxref05_Pack.calls k1 12 _ _ x5_1 t213 t214 _ ?side1 ?side2 A6.out).mono ?_); (case side1 => repeat (first | exact (Kd.R_reads' HO_5.out).2.2 | (with_reducible refine Kd.C_alloc ?_ _) | (with_reducible refine Kd.C_drewN ?_ _) | (with_reducible refine Kd.C_drew ?_))); (case side2 => exact (Kd.R_reads' HO_5.out).2.1); rintro e w8 ⟨v215, rfl, ho0, hb⟩; refine ⟨_, rfl, ?_⟩; have n0_ := Aside0.mk (Kd.R_below q56_ hb); have n1_ := Aside0.mk (Kd.R_lower ho0 (below_size q30_)); have n2_ := Aside0.mk (below_step q30_ hb); clear HO_5; clear HB; have HO_5 := n0_; have HO216 := n1_; have HB := n2_; clear n0_ n1_ n2_; (try clear hb); (try clear hb2); (try clear hk); (try clear hi); (try clear ho0)))
    go_loopg [8] k1 (fun kq v8 w' => ∃ (x8_2 : List Int), Aside0 (pyxref15_Spread.l1 kq a0 a1 x8_2 = some r) ∧ Aside0 (kq ≤ k1) ∧ Aside0 (Kd.R (Kd.int .u8) 5 w' w.heap.size (fun _ => True) v8 x8_2) ∧ Aside0 (Below w.heap.size w w'))
    case atStart => exact ⟨(t213), H', ⟨Nat.le_refl _⟩, ⟨by (with_reducible repeat (first | apply Kd.R_alloc | apply Kd.R_drewN | apply Kd.R_drew)); exact HO216.out⟩, ⟨by repeat (first | (with_reducible first | exact HB.out | apply below_alloc | apply pw_below_drewN | apply below_drew1) | exact HB.out)⟩⟩
    case round =>
     clear H'
     try clear c2
     try clear p2
     try clear c3
     try clear c3b0
     try clear c4
     try clear c5
     try clear p6
     try clear p2
     obtain ⟨x8_2, HA, HK2, HO_8, HB⟩ := hrel
     cases gk with
     | zero => exact absurd HA.out (by simp [pyxref15_Spread.l1])
     | succ k2 =>
      have H := HA.out
      clear HA
      simp only [pyxref15_Spread.l1] at H
      by_cases c9 : (x8_2.length : Int) < a1
      ·rw [if_pos c9] at H
       have c9b0 : decide ((x8_2.length : Int) < a1) = true := decide_eq_true c9
       clear c9
       by_cases c10 : x8_2.length < 140737488355328
       ·rw [if_pos c10] at H
        have LMc10 := Aside0.mk c10
        clear c10
        obtain ⟨y217, hy217⟩ : ∃ y_ : List Int, y_ = (x8_2 ++ [(((a0) % 256) + (((x8_2.length : Int)) % 256)) % 256]) := ⟨_, rfl⟩
        replace H : (pyxref15_Spread.l1 k2 a0 a1 y217) = some r := by first | (rw [hy217]; with_reducible exact H) | (have H2_ := (Option.bind_some _ _).symm.trans H; rw [hy217]; with_reducible exact H2_) | (have H2_ := (Option.bind_some _ _).symm.trans H; with_reducible exact H2_) | with_reducible exact H | (rw [hy217]; exact H) | exact H
        rw [show ((((a0) % 256) + (((x8_2.length : Int)) % 256)) % 256 : Int) = (a0 + (x8_2.length : Int)) % 256 by omega] at hy217
        have Ny217 := Aside0.mk hy217
        clear hy217
        have H' := Aside0.mk H
        clear H
        obtain ⟨Ao11, co11, eo11⟩ := Kd.R_slice HO_8.out
        subst eo11
        go_wp2_with (first | ((with_reducible refine gate_builtin (b := .append) (xs := #[.tmp 38, .tmp 45]) rfl ?_); at_builtin; refine Kd.R_append (Kd.int .u8) (w0 := w) w.heap.size rfl (.tmp 38) (.tmp 45) 25 5 (.int .u8 0) 1 rfl Tryz.underlying25 info5 rfl (by decide) (by omega) (.slice Ao11 x8_2.length co11) x8_2 ((a0 + (x8_2.length : Int)) % 256) [.int .u8 ((a0 + (x8_2.length : Int)) % 256)] (fun _ => True) (fun _ => False) rfl rfl ?aP (fun _ hk => hk.elim) ?aF ?aO ?aB ?aS ?aL ?_; (case aP => exact rfl); (case aB => exact q30_); (case aF => exact (fun _ _ => trivial)); (case aO => exact (by (with_reducible repeat (first | apply Kd.R_alloc | apply Kd.R_drewN | apply Kd.R_drew)); exact HO_8.out)); (case aS => exact (below_size q30_)); (case aL => have := LMc10.out; omega); intro v218 w12 ho hb hg hat; rw [← Ny217.out] at ho; have n0_ := Aside0.mk (hb); have n1_ := Aside0.mk (ho); clear HB; clear HO_8; have HB := n0_; have HO219 := n1_; clear n0_ n1_; clear ho hb hg hat))
        go_roundg k2
        case measure => have := HK1.out; have := HK2.out; omega
        case rel => exact ⟨(y217), H', ⟨by have := HK1.out; have := HK2.out; omega⟩, ⟨by (with_reducible repeat (first | apply Kd.R_alloc | apply Kd.R_drewN | apply Kd.R_drew)); exact HO219.out⟩, ⟨by repeat (first | (with_reducible first | exact HB.out | apply below_alloc | apply pw_below_drewN | apply below_drew1) | exact HB.out)⟩⟩
       ·rw [if_neg c10] at H
        exact absurd H (by simp)
      ·rw [if_neg c9] at H
       have c9b0 : decide ((x8_2.length : Int) < a1) = false := decide_eq_false c9
       clear c9
       obtain rfl := Option.some.inj H
       obtain ⟨Ao13, co13, eo13⟩ := Kd.R_slice HO_8.out
       subst eo13
       go_wp2
       go_ret
       exact ⟨_, by first | rfl | (simp [errW_none, errW_some] <;> rfl) | (simp [*, errW_none, errW_some] <;> rfl), by (with_reducible repeat (first | apply Kd.R_alloc | apply Kd.R_drewN | apply Kd.R_drew)); exact HO_8.out, by repeat (first | (with_reducible first | exact HB.out | apply below_alloc | apply pw_below_drewN | apply below_drew1) | exact HB.out)⟩
def pyxref22_MakeKey.f (k : Nat) (a0 : Int) (a1 : Int) : Option (List Int) := (some (([0, 0, 0, (wrap64 (a0 - 19)) % 256] : List Int) : List Int)).bind fun y220 => ((pyxref22_Numbers.f a0).bind fun t223 => (if 0 < (t223.length : Int) then ((pyxref15_Spread.f k a1 (wrap64 (2 * (rd t223 0)))).bind fun t227 => (if y220.length + t227.length < 140737488355328 then (some (y220 ++ t227)) else (none))) else (none)))
set_option maxHeartbeats 8000000 in
set_option maxRecDepth 100000 in
theorem pyxref22_MakeKey.calls (k : Nat) (a0 : Int) (a1 : Int) (r : List Int) (w : World) (h : pyxref22_MakeKey.f k a0 a1 = some r) :
  Calls Tryz.prog 11 #[.int .i64 a0, .int .u32 a1] w fun e w' => ∃ v0_ : Value, e = .returned (v0_) ∧ Kd.R (Kd.int .u8) 5 w' w.heap.size (fun _ => True) v0_ r ∧ Below w.heap.size w w' := by
 have HB := Aside0.mk (Below.refl w.heap.size w)
 have H : ((some (([0, 0, 0, (wrap64 (a0 - 19)) % 256] : List Int) : List Int)).bind fun y220 => ((pyxref22_Numbers.f a0).bind fun t223 => (if 0 < (t223.length : Int) then ((pyxref15_Spread.f k a1 (wrap64 (2 * (rd t223 0)))).bind fun t227 => (if y220.length + t227.length < 140737488355328 then (some (y220 ++ t227)) else (none))) else (none)))) = some r := h
 clear h
 obtain ⟨y220, hy220⟩ : ∃ y_ : List Int, y_ = (([0, 0, 0, (wrap64 (a0 - 19)) % 256] : List Int)) := ⟨_, rfl⟩
 replace H : ((pyxref22_Numbers.f a0).bind fun t223 => (if 0 < (t223.length : Int) then ((pyxref15_Spread.f k a1 (wrap64 (2 * (rd t223 0)))).bind fun t227 => (if y220.length + t227.length < 140737488355328 then (some (y220 ++ t227)) else (none))) else (none))) = some r := by first | (rw [hy220]; with_reducible exact H) | (have H2_ := (Option.bind_some _ _).symm.trans H; rw [hy220]; with_reducible exact H2_) | (have H2_ := (Option.bind_some _ _).symm.trans H; with_reducible exact H2_) | with_reducible exact H | (rw [hy220]; exact H) | exact H
 have Ny220 := Aside0.mk hy220
 clear hy220
 replace H := Option.bind_eq_some_iff.mp H
 obtain ⟨t223, A30, H⟩ := H
 replace H : (if 0 < (t223.length : Int) then ((pyxref15_Spread.f k a1 (wrap64 (2 * (rd t223 0)))).bind fun t227 => (if y220.length + t227.length < 140737488355328 then (some (y220 ++ t227)) else (none))) else (none)) = some r := H
 have A3 := Aside0.mk A30
 clear A30
 by_cases c4 : 0 < (t223.length : Int)
 ·rw [if_pos c4] at H
  have c4b0 : decide (0 < (t223.length : Int)) = true := decide_eq_true c4
  have c4b1 : decide (0 < t223.length) = true := decide_eq_true (by omega)
  clear c4
  replace H := Option.bind_eq_some_iff.mp H
  obtain ⟨t227, A50, H⟩ := H
  replace H : (if y220.length + t227.length < 140737488355328 then (some (y220 ++ t227)) else (none)) = some r := H
  have A5 := Aside0.mk A50
  clear A50
  by_cases c6 : y220.length + t227.length < 140737488355328
  ·rw [if_pos c6] at H
   have LMc6 := Aside0.mk c6
   clear c6
   obtain ⟨y230, hy230⟩ : ∃ y_ : List Int, y_ = (y220 ++ t227) := ⟨_, rfl⟩
   replace H : (some y230) = some r := by first | (rw [hy230]; with_reducible exact H) | (have H2_ := (Option.bind_some _ _).symm.trans H; rw [hy230]; with_reducible exact H2_) | (have H2_ := (Option.bind_some _ _).symm.trans H; with_reducible exact H2_) | with_reducible exact H | (rw [hy230]; exact H) | exact H
   have Ny230 := Aside0.mk hy230
   clear hy230
   obtain rfl := Option.some.inj H
   go_enter Tryz.func11, Tryz.ntmps11
   go_wp2_with (first | ((with_reducible refine gate_dst (N := 8) rfl ?_); refine Kd.R_lit (Kd.int .u8) _ 5 ?hg (N := 8) ?hd (xs := ([0, 0, 0, (wrap64 (a0 - 19)) % 256] : List Int)) (inner := [.int .u8 0, .int .u8 0, .int .u8 0, .int .u8 ((wrap64 (a0 - 19)) % 256)]) (ok := fun _ => True) (okp := fun _ => True) ?hr ?hp (fun _ hk => hk) trivial (Below.refl _ _) (Nat.le_refl _) (by simp) ?_; (case hd => rfl); (case hg => rfl); (case hr => first | (go_simp; done) | (go_simp; rfl)); (case hp => exact (Reps.one (show Kd.M (Kd.int .u8) _ _ _ 0 [.int .u8 0] from rfl) (Reps.one (show Kd.M (Kd.int .u8) _ _ _ 0 [.int .u8 0] from rfl) (Reps.one (show Kd.M (Kd.int .u8) _ _ _ 0 [.int .u8 0] from rfl) (Reps.one (show Kd.M (Kd.int .u8) _ _ _ ((wrap64 (a0 - 19)) % 256) [.int .u8 ((wrap64 (a0 - 19)) % 256)] from rfl) (Reps.none _ _)))))); intro v221 w7 ho8 hb hg_ hnew_; clear hg_ hnew_; (first | rw [← Ny220.out] at ho8 | (simp only [Int.reduceToNat] at ho8; rw [← Ny220.out] at ho8)); have n0_ := Aside0.mk (Kd.R_lower ho8 (below_size q30_)); have n1_ := Aside0.mk (below_step q30_ hb); clear HB; have HO222 := n0_; have HB := n1_; clear n0_ n1_; clear hb ho8) | ((with_reducible refine gate_callee (f := 18) rfl ?_); refine goesL_ (some 11) rfl rfl Tryz.func18 (by kernel_rfl) rfl #[.int .i64 a0] rfl q29_ ?_; (with_reducible refine (pyxref22_Numbers.calls a0 t223 _ A3.out).mono ?_); rintro e w9 ⟨v224, rfl, ho0, hb⟩; refine ⟨_, rfl, ?_⟩; have n0_ := Aside0.mk (Kd.R_below q49_ hb); have n1_ := Aside0.mk (Kd.V_lower (Kd.V_mono (ok' := fun k_ => some k_ ≠ (v221 : Value).ownBlock) ho0 (fun k_ hk_ => (Kd.fresh' (Kd.R_lt q49_) k_ hk_))) (below_size q30_)); have n2_ := Aside0.mk (below_step q30_ hb); clear HO222; clear HB; have HO222 := n0_; have HO225 := n1_; have HB := n2_; clear n0_ n1_ n2_; (try clear hb); (try clear hb2); (try clear hk); (try clear hi); (try clear ho0); obtain ⟨Ao10, co10, eo10⟩ := Kd.V_slice HO225.out; subst eo10; have p226 : 0 ≤ (0 : Int) := (by omega); have q226 : 0 < (t223.length : Int) := of_decide_eq_true q63_; obtain ⟨ad226, e226, hx226_0⟩ := Kd.at_int (Kd.V_reads' HO225.out).2.2 0 p226 q226; cases e226; have qi226 : (0 < t223.length) = True := eq_true (by omega); (try rw [show ((0 : Int)).toNat = 0 from rfl] at hx226_0); (try rw [Addr.add_zero'] at hx226_0); replace p226 := eq_true p226; replace q226 := eq_true q226) | ((with_reducible refine gate_callee (f := 26) rfl ?_); refine goesL_ (some 15) rfl rfl Tryz.func26 (by kernel_rfl) rfl #[.int .u32 a1, .int .i64 (wrap64 (2 * (rd t223 0)))] rfl q29_ ?_; (with_reducible refine (pyxref15_Spread.calls k a1 (wrap64 (2 * (rd t223 0))) t227 _ A5.out).mono ?_); rintro e w11 ⟨v228, rfl, ho0, hb⟩; refine ⟨_, rfl, ?_⟩; have n0_ := Aside0.mk (Kd.R_elder' q49_ (Kd.R_base ho0) hb); have n1_ := Aside0.mk (Kd.V_elder' (by (with_reducible repeat (first | apply Kd.V_alloc | apply Kd.V_drewN | apply Kd.V_drew)); exact HO225.out) (Kd.R_base ho0) hb); have n2_ := Aside0.mk (Kd.R_lower (Kd.R_new' ho0 (Kd.R_lt q49_)) (below_size q30_)); have n3_ := Aside0.mk (below_step q30_ hb); clear HO222; clear HO225; clear HB; have HO222 := n0_; have HO225 := n1_; have HO229 := n2_; have HB := n3_; clear n0_ n1_ n2_ n3_; (try clear hb); (try clear hb2); (try clear hk); (try clear hi); (try clear ho0); obtain ⟨Ao13, co13, eo13⟩ := Kd.R_slice HO229.out; subst eo13) | ((with_reducible refine gate_builtin (b := .append) (xs := #[.tmp 8, .tmp 15]) rfl ?_); at_builtin; refine Kd.R_append_rows (Kd.int .u8) (w0 := w) w.heap.size rfl (.tmp 8) (.tmp 15) 25 5 (.int .u8 0) 1 rfl Tryz.underlying25 info5 rfl (by decide) (by omega) v221 y220 t227 _ _ _ (fun k_ => some k_ ≠ (.slice Ao13 t227.length co13 : Value).ownBlock) (fun _ => False) rfl rfl ?aO ?aR (fun _ _ h => h) (fun _ h => h.elim) ?aF ?aB ?aS ?aL ?_; (case aR => repeat (first | exact (Kd.R_reads' HO229.out).2.2 | (with_reducible refine Kd.C_alloc ?_ _) | (with_reducible refine Kd.C_drewN ?_ _) | (with_reducible refine Kd.C_drew ?_))); (case aB => exact q30_); (case aF => exact (fun k_ hk => Kd.fresh' (Kd.R_lt (by (with_reducible repeat (first | apply Kd.R_alloc | apply Kd.R_drewN | apply Kd.R_drew)); exact HO229.out)) k_ hk)); (case aO => exact (by (with_reducible repeat (first | apply Kd.R_alloc | apply Kd.R_drewN | apply Kd.R_drew)); exact Kd.R_mono HO222.out (fun _ hk => hk.2))); (case aS => exact (below_size q30_)); (case aL => have := LMc6.out; omega); intro v231 w12 ho hb hg hat; rw [← Ny230.out] at ho; have n0_ := Aside0.mk (Kd.V_afterv (ok := (fun k_ => some k_ ≠ (.slice Ao13 t227.length co13 : Value).ownBlock)) (by (with_reducible repeat (first | apply Kd.V_alloc | apply Kd.V_drewN | apply Kd.V_drew)); exact Kd.V_mono HO225.out (fun _ hk => ⟨hk.2, hk.1⟩)) hg hat); have n1_ := Aside0.mk (Kd.R_after (ok := (fun _ => True)) (by (with_reducible repeat (first | apply Kd.R_alloc | apply Kd.R_drewN | apply Kd.R_drew)); exact HO229.out) hg hat); have n2_ := Aside0.mk (hb); have n3_ := Aside0.mk (ho); clear HO225; clear HO229; clear HB; clear HO222; have HO225 := n0_; have HO229 := n1_; have HB := n2_; have HO232 := n3_; clear n0_ n1_ n2_ n3_; clear ho hb hg hat))
   go_ret
   exact ⟨_, by first | rfl | (simp [errW_none, errW_some] <;> rfl) | (simp [*, errW_none, errW_some] <;> rfl), by (with_reducible repeat (first | apply Kd.R_alloc | apply Kd.R_drewN | apply Kd.R_drew)); exact Kd.R_mono HO232.out (fun _ hk => trivial), by repeat (first | (with_reducible first | exact HB.out | apply below_alloc | apply pw_below_drewN | apply below_drew1) | exact HB.out)⟩
  ·rw [if_neg c6] at H
   exact absurd H (by simp)
 ·rw [if_neg c4] at H
  exact absurd H (by simp)
end Go.Proofs.YtgmnknhfeoleaaaGreatDoor.PXmss
