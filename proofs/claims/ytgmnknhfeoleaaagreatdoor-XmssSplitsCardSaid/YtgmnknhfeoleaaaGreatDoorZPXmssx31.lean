import Derived.Test.YtgmnknhfeoleaaaGreatDoorZPXmssx0
namespace Go.Proofs.YtgmnknhfeoleaaaGreatDoor.PXmss
open Go.RowKit Go.Proofs.YtgmnknhfeoleaaaGreatDoorW.PrintWords Go.Proofs.YtgmnknhfeoleaaaGreatDoorW.PrintLast Go.Proofs.YtgmnknhfeoleaaaGreatDoorW.PrintMore
set_option linter.unusedVariables false
set_option linter.unusedSimpArgs false
theorem grow_nil (n : Nat) (w : World) (h0 : 0 < n) (h1 : n ≤ 1000000000000) :
  Calls Tryz.prog 76 #[.slice none 0 0, .int .i64 (n : Int)] w fun e w' => ∃ v, e = .returned v ∧ Kd.R (Kd.int .u8) 5 w' w.heap.size (fun _ => True) v [] ∧ Below w.heap.size w w' := by
 obtain ⟨i0, hi0, hz⟩ := Option.map_eq_some_iff.1 (show (Tryz.prog.info? 5).map (fun i => (i.zero, i.size, i.bytes)) = some (some (.int .u8 0), 1, 1) by kernel_rfl)
 simp only [Prod.mk.injEq] at hz
 obtain ⟨hz0, hz1, hz2⟩ := hz
 have hb : decide ((n : Int) < 0) = false := decide_eq_false (by omega)
 have h4 : (n : Int) > 0 := by omega
 have hold : (Builtin.firstCells i0.size 0 (.slice none 0 0)).run Tryz.prog w.drew = .ok ([] : List Value).toArray w.drew := run_firstCells_none w.drew i0.size 0 0 0
 have hrz : ∀ ty, (Builtin.append_ #[25, 3] ty #[.slice none 0 0, .int .i64 (n : Int)]).run Tryz.prog w =
   .ok (.slice (some ⟨w.heap.size, 0, none⟩) n (grownCap w n 0 5)) (w.drew.alloc (.cells (([] : List Value).toArray ++ Builtin.zeroCells (Value.int .u8 0).cells n ++ Builtin.zeroCells (Value.int .u8 0).cells (grownCap w n 0 5 - n)) 5)) := fun ty => by
  have h := Lib.run_append_grow_zeros w 25 3 ty 5 i0 (.int .u8 0) .i64 .i64 Tryz.underlying25 Tryz.underlying3 hi0 hz0 none 0 0 [] hold n h0 (by omega) (by omega) (by omega) (by rw [hz2]; omega) (by rw [hz2]; exact growslice_fits (by omega) (by omega))
  simpa using h
 have hGn : n ≤ grownCap w n 0 5 := grownCap_ge w _ _ _
 have hGm : grownCap w n 0 5 ≤ maxLen := grownCap_le_maxLen w n 0 5 (by unfold maxLen; omega)
 obtain ⟨G, hG⟩ : ∃ G, G = grownCap w n 0 5 := ⟨_, rfl⟩
 rw [← hG] at hrz hGn hGm
 have hs : ((([] : List Value).toArray ++ Builtin.zeroCells (Value.int .u8 0).cells n ++ Builtin.zeroCells (Value.int .u8 0).cells (G - n)).size) = G * 1 := by
  have hc : (Value.int .u8 0).cells.size = 1 := rfl
  simp [size_zeroCells, hc]
  omega
 obtain ⟨cs, hcs⟩ : ∃ cs, cs = ([] : List Value).toArray ++ Builtin.zeroCells (Value.int .u8 0).cells n ++ Builtin.zeroCells (Value.int .u8 0).cells (G - n) := ⟨_, rfl⟩
 rw [← hcs] at hrz hs
 have HS := Aside0.mk hs
 have HM := Aside0.mk hGm
 have hG63 : G ≤ 9223372036854775807 := by unfold maxLen at hGm; omega
 clear hold hG hcs hi0 hz0 hz1 hz2 hs hGm
 go_enter Tryz.func76, Tryz.ntmps76
 go_wp2_with (at_builtin; refine Lib.wpList_append_run _ rfl _ _ _ _ rfl _ _ rfl rfl _ _ (hrz _) ?_)
 all_goals
  go_ret
  refine ⟨_, rfl, ⟨fun _ _ => trivial, [], ⟨rfl, .inr ⟨w.heap.size, G, cs, rfl, Nat.le_refl _, ?_, Nat.zero_le _, HM.out, HS.out, rfl⟩⟩, Reps.none _ _⟩, ?_⟩
  ·exact blk_drew (blk_new w (.cells cs 5))
  ·exact below_drew (below_alloc (Below.refl _ _) _)
theorem grow_zero (w : World) : Calls Tryz.prog 76 #[.slice none 0 0, .int .i64 0] w fun e w' => ∃ v, e = .returned v ∧ Kd.R (Kd.int .u8) 5 w' w.heap.size (fun _ => True) v [] ∧ Below w.heap.size w w' := by
 go_enter Tryz.func76, Tryz.ntmps76
 go_wp2
 go_ret
 exact ⟨_, rfl, Kd.R_nil _ _ _ _ _, Below.refl _ _⟩
theorem grow_any (n : Int) (w : World) (h0 : 0 ≤ n) (h1 : n ≤ 1000000000000) : Calls Tryz.prog 76 #[.slice none 0 0, .int .i64 n] w fun e w' => ∃ v, e = .returned v ∧ Kd.R (Kd.int .u8) 5 w' w.heap.size (fun _ => True) v [] ∧ Below w.heap.size w w' := by
 by_cases c : n = 0
 ·subst c; exact grow_zero w
 ·obtain ⟨m, rfl⟩ := Int.eq_ofNat_of_zero_le h0
  exact grow_nil m w (by omega) (by omega)
theorem sum_take_le (ps : List (List Int)) (i : Nat) : ((ps.take i).flatten).length ≤ ps.flatten.length := by
 conv => rhs; rw [← List.take_append_drop i ps, List.flatten_append, List.length_append]
 omega
theorem flat_snoc (ps : List (List Int)) (i : Nat) (h : i < ps.length) : (ps.take (i + 1)).flatten = (ps.take i).flatten ++ ps.getD i [] := by
 rw [List.take_succ_eq_append_getElem h, List.flatten_append]
 simp [List.getD_eq_getElem?_getD, List.getElem?_eq_getElem h]
theorem part_at {w : World} {A : Option Addr} {n : Nat} {ps : List (List Int)} (h : Kd.C (Kd.slice 5 (Kd.int .u8)) w A n ps) (i : Nat) (hi : i < n) :
  ∃ ad Ai ci, A = some ad ∧ w.cell? (ad.add i) = some (.slice Ai (ps.getD i []).length ci) ∧ (ps.getD i []).length ≤ ci ∧ Kd.C (Kd.int .u8) w Ai (ps.getD i []).length (ps.getD i []) := by
 obtain ⟨ad, c, e, _, ⟨Ai, ci, rfl, hl, hC⟩, hc⟩ := Kd.C_get h ([] : List Int) (i : Int) (by omega) (by omega)
 have h0 := hc 0 _ rfl
 rw [Nat.add_zero, Int.toNat_natCast, show i * (Kd.slice 5 (Kd.int .u8)).sz = i from Nat.mul_one i] at h0
 exact ⟨ad, Ai, ci, e, h0, hl, hC⟩
def slices_Concat.f (ps : List (List Int)) : Option (List Int) := if ps.length < 1000000 ∧ ps.flatten.length < 1000000000000 then some ps.flatten else none
set_option maxHeartbeats 4000000 in
set_option maxRecDepth 100000 in
theorem slices_Concat.calls (A0 : Option Addr) (c0 : Nat) (l0 : List (List Int)) (r : List Int) (w : World) (hr0 : Kd.C (Kd.slice 5 (Kd.int .u8)) w A0 l0.length l0) (hc0 : l0.length ≤ c0) (h : slices_Concat.f l0 = some r) :
  Calls Tryz.prog 65 #[.slice A0 l0.length c0] w fun e w' => ∃ v0_ : Value, e = .returned v0_ ∧ Kd.R (Kd.int .u8) 5 w' w.heap.size (fun _ => True) v0_ r ∧ Below w.heap.size w w' := by
 rw [slices_Concat.f] at h
 by_cases hc : l0.length < 1000000 ∧ l0.flatten.length < 1000000000000
 ·rw [if_pos hc] at h
  obtain rfl := Option.some.inj h
  obtain ⟨hc1, hc2⟩ := hc
  have HC := Aside0.mk hr0
  have HT := Aside0.mk hc2
  clear hr0 h hc2
  go_enter Tryz.func65, Tryz.ntmps65
  go_wp2
  go_loopg [3, 11] l0.length (fun kq v3 v11 w' => ∃ (i : Nat), v3 = .int .i64 (((l0.take i).flatten.length : Nat) : Int) ∧ v11 = .int .i64 (i : Int) ∧ Aside0 (i ≤ l0.length ∧ kq = l0.length - i) ∧ w' = w)
  case atStart => exact ⟨0, by simp, rfl, ⟨by omega⟩, rfl⟩
  case round =>
   obtain ⟨i, rfl, rfl, HI, hw1⟩ := hrel
   have hw2 := hw1.symm
   clear hw1
   subst hw2
   obtain ⟨hi, hk⟩ := HI.out
   clear HI
   by_cases ci : i < l0.length
   ·have ci' : decide ((i : Int) < (l0.length : Int)) = true := decide_eq_true (by omega)
    have ci2 : decide (i < l0.length) = true := decide_eq_true ci
    obtain ⟨ad, Ai, cc, ea, hx, hl, hC⟩ := part_at HC.out i ci
    cases ea
    have hfs := flat_snoc l0 i ci
    have hle := sum_take_le l0 (i + 1)
    rw [hfs, List.length_append] at hle
    have es : (((l0.take (i + 1)).flatten.length : Nat) : Int) = (((l0.take i).flatten.length : Nat) : Int) + (((l0.getD i []).length : Nat) : Int) := by rw [hfs, List.length_append]; omega
    have HE := Aside0.mk es
    have h12 := HT.out
    clear hfs es hC
    generalize (l0.getD i []).length = m at hx hl hle HE
    generalize (l0.take i).flatten.length = S at hle HE ⊢
    have hS1 : (S : Int) + (m : Int) < 1000000000000 := by omega
    have hS2 : decide ((S : Int) + (m : Int) < 0) = false := decide_eq_false (by omega)
    clear hle h12
    have hi0 : (0 ≤ (i : Int)) = True := eq_true (by omega)
    have hi1 : ((i : Int) < (l0.length : Int)) = True := eq_true (by omega)
    go_wp2
    go_roundg (gk - 1)
    case measure => omega
    case rel => exact ⟨i + 1, by rw [HE.out], by go_num, ⟨by omega⟩, rfl⟩
   ·have ci' : decide ((i : Int) < (l0.length : Int)) = false := decide_eq_false (by omega)
    have ci2 : decide (i < l0.length) = false := decide_eq_false ci
    have et : l0.take i = l0 := List.take_of_length_le (by omega)
    rw [et]
    have h12 := HT.out
    obtain ⟨Tt, hTt⟩ : ∃ Tt, Tt = l0.flatten.length := ⟨_, rfl⟩
    rw [← hTt] at h12 ⊢
    have HTt := Aside0.mk hTt
    clear et hTt ci
    go_wp2_with (go_at_call 76; ((with_reducible refine (grow_any _ _ (by omega) (by omega)).mono ?_); rintro ev w1 ⟨v, rfl, hR, hb⟩; have HR := Aside0.mk hR; have HB := Aside0.mk hb; clear hR hb))
    have HR0 := Aside0.mk (Kd.R_lower HR.out (Nat.le_refl _))
    clear HTt h12
    go_loopg [6, 27] l0.length (fun kq v6 v27 w' => ∃ (j : Nat), v27 = .int .i64 (j : Int) ∧ Aside0 (j ≤ l0.length ∧ kq = l0.length - j) ∧ Aside0 (Kd.R (Kd.int .u8) 5 w' w.heap.size (fun _ => True) v6 (l0.take j).flatten) ∧ Aside0 (Below w.heap.size w w'))
    case atStart => exact ⟨0, rfl, ⟨by omega⟩, ⟨HR0.out⟩, HB⟩
    case round =>
     clear HR HB HR0
     obtain ⟨j, rfl, HJ, HR, HB⟩ := hrel
     obtain ⟨hj, hk2⟩ := HJ.out
     clear HJ hi hk
     by_cases cj : j < l0.length
     ·have cj' : decide ((j : Int) < (l0.length : Int)) = true := decide_eq_true (by omega)
      have cj2 : decide (j < l0.length) = true := decide_eq_true cj
      obtain ⟨ad, Ai, cc, ea, hx0, hl, hC0⟩ := part_at HC.out j cj
      cases ea
      have hx := pw_cell_below HB.out hx0
      have HC1 := Aside0.mk (Kd.C_below hC0 HB.out)
      have hfs := flat_snoc l0 j cj
      have hle := sum_take_le l0 (j + 1)
      have h12 := HT.out
      rw [hfs, List.length_append] at hle
      have HF := Aside0.mk hfs
      clear hfs hx0 hC0
      generalize (l0.take j).flatten = X at HR HF hle
      generalize l0.getD j [] = Y at hx hl HC1 HF hle
      have hXY : (X.length + Y.length) * 1 ≤ 140737488355328 := by omega
      have HXY := Aside0.mk hXY
      clear hle hXY h12
      have hi0 : (0 ≤ (j : Int)) = True := eq_true (by omega)
      have hi1 : ((j : Int) < (l0.length : Int)) = True := eq_true (by omega)
      go_wp2_with ((with_reducible refine gate_builtin (b := .append) (xs := #[.tmp 31, .tmp 32]) rfl ?_); at_builtin; refine Kd.R_append_rows (Kd.int .u8) (w0 := w) w.heap.size rfl (.tmp 31) (.tmp 32) 25 5 (.int .u8 0) 1 rfl Tryz.underlying25 info5 rfl (by decide) (by omega) u6 X Y _ _ _ (fun _ => True) (fun _ => False) rfl rfl ?aO ?aR (fun _ _ h => h) (fun _ h => h.elim) ?aF ?aB ?aS ?aL ?_; (case aO => exact HR.out); (case aR => exact HC1.out); (case aF => exact fun _ _ => trivial); (case aB => exact HB.out); (case aS => exact HB.out.size); (case aL => exact HXY.out); intro v2 w2 ho hb _ _; have HO2 := Aside0.mk ho; have HB2 := Aside0.mk hb; clear ho hb)
      go_roundg (gk - 1)
      case measure => omega
      case rel => exact ⟨j + 1, by go_num, ⟨by omega⟩, ⟨by rw [HF.out]; exact HO2.out⟩, HB2⟩
     ·have cj' : decide ((j : Int) < (l0.length : Int)) = false := decide_eq_false (by omega)
      have cj2 : decide (j < l0.length) = false := decide_eq_false cj
      have et : l0.take j = l0 := List.take_of_length_le (by omega)
      have hr := HR.out
      rw [et] at hr
      have HR2 := Aside0.mk hr
      clear hr et
      go_wp2
      go_ret
      exact ⟨_, rfl, HR2.out, HB.out⟩
 ·rw [if_neg hc] at h
  cases h
end Go.Proofs.YtgmnknhfeoleaaaGreatDoor.PXmss
