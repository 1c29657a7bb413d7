import Derived.Test.YtgmnknhfeoleaaaGreatDoorZPXmssx0
import Derived.Test.YtgmnknhfeoleaaaGreatDoorZPXmssx1
import Derived.Test.YtgmnknhfeoleaaaGreatDoorZPXmssx15
import Derived.Test.YtgmnknhfeoleaaaGreatDoorZPXmssx30
import Derived.Test.YtgmnknhfeoleaaaGreatDoorZPXmssx31
namespace Go.Proofs.YtgmnknhfeoleaaaGreatDoor.PXmss
open Go.RowKit Go.Proofs.YtgmnknhfeoleaaaGreatDoorW.PrintWords Go.Proofs.YtgmnknhfeoleaaaGreatDoorW.PrintLast Go.Proofs.YtgmnknhfeoleaaaGreatDoorW.PrintMore
set_option linter.unusedVariables false
set_option linter.unusedSimpArgs false
theorem infoS : (Tryz.prog.info? 25).map (fun i => (i.zero, i.size, i.bytes)) = some (some (.slice none 0 0), 1, 24) := by kernel_rfl
theorem growS_nil (n : Nat) (w : World) (h0 : 0 < n) (h1 : n ≤ 1000000) :
  Calls Tryz.prog 63 #[.slice none 0 0, .int .i64 (n : Int)] w fun e w' => ∃ v, e = .returned v ∧ Kd.R (Kd.raw 1) 25 w' w.heap.size (fun _ => True) v [] ∧ Below w.heap.size w w' := by
 obtain ⟨i0, hi0, hz⟩ := Option.map_eq_some_iff.1 (show (Tryz.prog.info? 25).map (fun i => (i.zero, i.size, i.bytes)) = some (some (.slice none 0 0), 1, 24) by kernel_rfl)
 simp only [Prod.mk.injEq] at hz
 obtain ⟨hz0, hz1, hz2⟩ := hz
 have hb : decide ((n : Int) < 0) = false := decide_eq_false (by omega)
 have h4 : (n : Int) > 0 := by omega
 have hold : (Builtin.firstCells i0.size 0 (.slice none 0 0)).run Tryz.prog w.drew = .ok ([] : List Value).toArray w.drew := run_firstCells_none w.drew i0.size 0 0 0
 have hrz : ∀ ty, (Builtin.append_ #[52, 3] ty #[.slice none 0 0, .int .i64 (n : Int)]).run Tryz.prog w =
   .ok (.slice (some ⟨w.heap.size, 0, none⟩) n (grownCap w n 0 25)) (w.drew.alloc (.cells (([] : List Value).toArray ++ Builtin.zeroCells (Value.slice none 0 0).cells n ++ Builtin.zeroCells (Value.slice none 0 0).cells (grownCap w n 0 25 - n)) 25)) := fun ty => by
  have h := Lib.run_append_grow_zeros w 52 3 ty 25 i0 (.slice none 0 0) .i64 .i64 Tryz.underlying52 Tryz.underlying3 hi0 hz0 none 0 0 [] hold n h0 (by omega) (by omega) (by omega) (by rw [hz2]; omega) (by rw [hz2]; exact growslice_fits (by omega) (by omega))
  simpa using h
 have hGn : n ≤ grownCap w n 0 25 := grownCap_ge w _ _ _
 have hGm : grownCap w n 0 25 ≤ maxLen := grownCap_le_maxLen w n 0 25 (by unfold maxLen; omega)
 obtain ⟨G, hG⟩ : ∃ G, G = grownCap w n 0 25 := ⟨_, rfl⟩
 rw [← hG] at hrz hGn hGm
 have hs : ((([] : List Value).toArray ++ Builtin.zeroCells (Value.slice none 0 0).cells n ++ Builtin.zeroCells (Value.slice none 0 0).cells (G - n)).size) = G * 1 := by
  have hc : (Value.slice none 0 0).cells.size = 1 := rfl
  simp [size_zeroCells, hc]
  omega
 obtain ⟨cs, hcs⟩ : ∃ cs, cs = ([] : List Value).toArray ++ Builtin.zeroCells (Value.slice none 0 0).cells n ++ Builtin.zeroCells (Value.slice none 0 0).cells (G - n) := ⟨_, rfl⟩
 rw [← hcs] at hrz hs
 have HS := Aside0.mk hs
 have HM := Aside0.mk hGm
 have hG63 : G ≤ 9223372036854775807 := by unfold maxLen at hGm; omega
 clear hold hG hcs hi0 hz0 hz1 hz2 hs hGm
 go_enter Tryz.func63, Tryz.ntmps63
 go_wp2_with (at_builtin; refine Lib.wpList_append_run _ rfl _ _ _ _ rfl _ _ rfl rfl _ _ (hrz _) ?_)
 all_goals
  go_ret
  refine ⟨_, rfl, ⟨fun _ _ => trivial, [], ⟨rfl, .inr ⟨w.heap.size, G, cs, rfl, Nat.le_refl _, ?_, Nat.zero_le _, HM.out, HS.out, rfl⟩⟩, Reps.none _ _⟩, ?_⟩
  ·exact blk_drew (blk_new w (.cells cs 25))
  ·exact below_drew (below_alloc (Below.refl _ _) _)
theorem growS_zero (w : World) : Calls Tryz.prog 63 #[.slice none 0 0, .int .i64 0] w fun e w' => ∃ v, e = .returned v ∧ Kd.R (Kd.raw 1) 25 w' w.heap.size (fun _ => True) v [] ∧ Below w.heap.size w w' := by
 go_enter Tryz.func63, Tryz.ntmps63
 go_wp2
 go_ret
 exact ⟨_, rfl, Kd.R_nil _ _ _ _ _, Below.refl _ _⟩
theorem growS_any (n : Int) (w : World) (h0 : 0 ≤ n) (h1 : n ≤ 1000000) : Calls Tryz.prog 63 #[.slice none 0 0, .int .i64 n] w fun e w' => ∃ v, e = .returned v ∧ Kd.R (Kd.raw 1) 25 w' w.heap.size (fun _ => True) v [] ∧ Below w.heap.size w w' := by
 by_cases c : n = 0
 ·subst c; exact growS_zero w
 ·obtain ⟨m, rfl⟩ := Int.eq_ofNat_of_zero_le h0
  exact growS_nil m w (by omega) (by omega)
theorem sumS_take_le (ps : List (List (List Value))) (i : Nat) : ((ps.take i).flatten).length ≤ ps.flatten.length := by
 conv => rhs; rw [← List.take_append_drop i ps, List.flatten_append, List.length_append]
 omega
theorem flatS_snoc (ps : List (List (List Value))) (i : Nat) (h : i < ps.length) : (ps.take (i + 1)).flatten = (ps.take i).flatten ++ ps.getD i [] := by
 rw [List.take_succ_eq_append_getElem h, List.flatten_append]
 simp [List.getD_eq_getElem?_getD, List.getElem?_eq_getElem h]
theorem partS_at {w : World} {A : Option Addr} {n : Nat} {ps : List (List (List Value))} (h : Kd.C (Kd.slice 25 (Kd.raw 1)) w A n ps) (i : Nat) (hi : i < n) :
  ∃ ad Ai ci, A = some ad ∧ w.cell? (ad.add i) = some (.slice Ai (ps.getD i []).length ci) ∧ (ps.getD i []).length ≤ ci ∧ Kd.C (Kd.raw 1) w Ai (ps.getD i []).length (ps.getD i []) := by
 obtain ⟨ad, c, e, _, ⟨Ai, ci, rfl, hl, hC⟩, hc⟩ := Kd.C_get h ([] : List (List Value)) (i : Int) (by omega) (by omega)
 have h0 := hc 0 _ rfl
 rw [Nat.add_zero, Int.toNat_natCast, show i * (Kd.slice 25 (Kd.raw 1)).sz = i from Nat.mul_one i] at h0
 exact ⟨ad, Ai, ci, e, h0, hl, hC⟩
def slices_ConcS.f (ps : List (List (List Value))) : Option (List (List Value)) := if ps.length < 1000000 ∧ ps.flatten.length < 1000000 then some ps.flatten else none
set_option maxHeartbeats 4000000 in
set_option maxRecDepth 100000 in
theorem slices_ConcS.calls (A0 : Option Addr) (c0 : Nat) (l0 : List (List (List Value))) (r : List (List Value)) (w : World) (hr0 : Kd.C (Kd.slice 25 (Kd.raw 1)) w A0 l0.length l0) (hc0 : l0.length ≤ c0) (h : slices_ConcS.f l0 = some r) :
  Calls Tryz.prog 45 #[.slice A0 l0.length c0] w fun e w' => ∃ v0_ : Value, e = .returned v0_ ∧ Kd.R (Kd.raw 1) 25 w' w.heap.size (fun _ => True) v0_ r ∧ Below w.heap.size w w' := by
 rw [slices_ConcS.f] at h
 by_cases hc : l0.length < 1000000 ∧ l0.flatten.length < 1000000
 ·rw [if_pos hc] at h
  obtain rfl := Option.some.inj h
  obtain ⟨hc1, hc2⟩ := hc
  have HC := Aside0.mk hr0
  have HT := Aside0.mk hc2
  clear hr0 h hc2
  go_enter Tryz.func45, Tryz.ntmps45
  go_wp2
  go_loopg [3, 11] l0.length (fun kq v3 v11 w' => ∃ (i : Nat), v3 = .int .i64 (((l0.take i).flatten.length : Nat) : Int) ∧ v11 = .int .i64 (i : Int) ∧ Aside0 (i ≤ l0.length ∧ kq = l0.length - i) ∧ w' = w)
  case atStart => exact ⟨0, by simp, rfl, ⟨by omega⟩, rfl⟩
  case round =>
   obtain ⟨i, rfl, rfl, HI, hw1⟩ := hrel
   have hw2 := hw1.symm
   clear hw1
   subst hw2
   obtain ⟨hi, hk⟩ := HI.out
   clear HI
   by_cases ci : i < l0.length
   ·have ci' : decide ((i : Int) < (l0.length : Int)) = true := decide_eq_true (by omega)
    have ci2 : decide (i < l0.length) = true := decide_eq_true ci
    obtain ⟨ad, Ai, cc, ea, hx, hl, hC⟩ := partS_at HC.out i ci
    cases ea
    have hfs := flatS_snoc l0 i ci
    have hle := sumS_take_le l0 (i + 1)
    rw [hfs, List.length_append] at hle
    have es : (((l0.take (i + 1)).flatten.length : Nat) : Int) = (((l0.take i).flatten.length : Nat) : Int) + (((l0.getD i []).length : Nat) : Int) := by rw [hfs, List.length_append]; omega
    have HE := Aside0.mk es
    have h12 := HT.out
    clear hfs es hC
    generalize (l0.getD i []).length = m at hx hl hle HE
    generalize (l0.take i).flatten.length = S at hle HE ⊢
    have hS1 : (S : Int) + (m : Int) < 1000000 := by omega
    have hS2 : decide ((S : Int) + (m : Int) < 0) = false := decide_eq_false (by omega)
    clear hle h12
    have hi0 : (0 ≤ (i : Int)) = True := eq_true (by omega)
    have hi1 : ((i : Int) < (l0.length : Int)) = True := eq_true (by omega)
    go_wp2
    go_roundg (gk - 1)
    case measure => omega
    case rel => exact ⟨i + 1, by rw [HE.out], by go_num, ⟨by omega⟩, rfl⟩
   ·have ci' : decide ((i : Int) < (l0.length : Int)) = false := decide_eq_false (by omega)
    have ci2 : decide (i < l0.length) = false := decide_eq_false ci
    have et : l0.take i = l0 := List.take_of_length_le (by omega)
    rw [et]
    have h12 := HT.out
    obtain ⟨Tt, hTt⟩ : ∃ Tt, Tt = l0.flatten.length := ⟨_, rfl⟩
    rw [← hTt] at h12 ⊢
    have HTt := Aside0.mk hTt
    clear et hTt ci
    go_wp2_with (go_at_call 63; ((with_reducible refine (growS_any _ _ (by omega) (by omega)).mono ?_); rintro ev w1 ⟨v, rfl, hR, hb⟩; have HR := Aside0.mk hR; have HB := Aside0.mk hb; clear hR hb))
    have HR0 := Aside0.mk (Kd.R_lower HR.out (Nat.le_refl _))
    clear HTt h12
    go_loopg [6, 27] l0.length (fun kq v6 v27 w' => ∃ (j : Nat), v27 = .int .i64 (j : Int) ∧ Aside0 (j ≤ l0.length ∧ kq = l0.length - j) ∧ Aside0 (Kd.R (Kd.raw 1) 25 w' w.heap.size (fun _ => True) v6 (l0.take j).flatten) ∧ Aside0 (Below w.heap.size w w'))
    case atStart => exact ⟨0, rfl, ⟨by omega⟩, ⟨HR0.out⟩, HB⟩
    case round =>
     clear HR HB HR0
     obtain ⟨j, rfl, HJ, HR, HB⟩ := hrel
     obtain ⟨hj, hk2⟩ := HJ.out
     clear HJ hi hk
     by_cases cj : j < l0.length
     ·have cj' : decide ((j : Int) < (l0.length : Int)) = true := decide_eq_true (by omega)
      have cj2 : decide (j < l0.length) = true := decide_eq_true cj
      obtain ⟨ad, Ai, cc, ea, hx0, hl, hC0⟩ := partS_at HC.out j cj
      cases ea
      have hx := pw_cell_below HB.out hx0
      have HC1 := Aside0.mk (Kd.C_below hC0 HB.out)
      have hfs := flatS_snoc l0 j cj
      have hle := sumS_take_le l0 (j + 1)
      have h12 := HT.out
      rw [hfs, List.length_append] at hle
      have HF := Aside0.mk hfs
      clear hfs hx0 hC0
      generalize (l0.take j).flatten = X at HR HF hle
      generalize l0.getD j [] = Y at hx hl HC1 HF hle
      have hXY : (X.length + Y.length) * 24 ≤ 140737488355328 := by omega
      have HXY := Aside0.mk hXY
      clear hle hXY h12
      have hi0 : (0 ≤ (j : Int)) = True := eq_true (by omega)
      have hi1 : ((j : Int) < (l0.length : Int)) = True := eq_true (by omega)
      go_wp2_with ((with_reducible refine gate_builtin (b := .append) (xs := #[.tmp 31, .tmp 32]) rfl ?_); at_builtin; refine Kd.R_append_rows (Kd.raw 1) (w0 := w) w.heap.size rfl (.tmp 31) (.tmp 32) 52 25 (.slice none 0 0) 24 rfl Tryz.underlying52 infoS rfl (by decide) (by omega) u6 X Y _ _ _ (fun _ => True) (fun _ => False) rfl rfl ?aO ?aR (fun _ _ h => h) (fun _ h => h.elim) ?aF ?aB ?aS ?aL ?_; (case aO => exact HR.out); (case aR => exact HC1.out); (case aF => exact fun _ _ => trivial); (case aB => exact HB.out); (case aS => exact HB.out.size); (case aL => exact HXY.out); intro v2 w2 ho hb _ _; have HO2 := Aside0.mk ho; have HB2 := Aside0.mk hb; clear ho hb)
      go_roundg (gk - 1)
      case measure => omega
      case rel => exact ⟨j + 1, by go_num, ⟨by omega⟩, ⟨by rw [HF.out]; exact HO2.out⟩, HB2⟩
     ·have cj' : decide ((j : Int) < (l0.length : Int)) = false := decide_eq_false (by omega)
      have cj2 : decide (j < l0.length) = false := decide_eq_false cj
      have et : l0.take j = l0 := List.take_of_length_le (by omega)
      have hr := HR.out
      rw [et] at hr
      have HR2 := Aside0.mk hr
      clear hr et
      go_wp2
      go_ret
      exact ⟨_, rfl, HR2.out, HB.out⟩
 ·rw [if_neg hc] at h
  cases h
theorem rows_of {W : World} {A : Option Addr} {n : Nat} {xs : List (List Int)} (h : Kd.C (Kd.slice 5 (Kd.int .u8)) W A n xs) :
  ∃ rows : List (List Value), rows.length = n ∧ Kd.C (Kd.raw 1) W A n rows ∧ ∀ (j : Nat) (x : List Int) (c : List Value), xs[j]? = some x → rows[j]? = some c → (Kd.slice 5 (Kd.int .u8)).K W x c := by
 obtain ⟨hl, hm, hn⟩ := h
 by_cases h0 : 0 < n
 ·obtain ⟨ad, rfl, hx⟩ := hn h0
  have hone : ∀ j x, xs[j]? = some x → ∃ v, W.cell? (ad.add j) = some v ∧ v.oneCell' = true ∧ (Kd.slice 5 (Kd.int .u8)).K W x [v] := by
   intro j x hj
   obtain ⟨c, hcl, ⟨A', c', rfl, hle, hC⟩, hcc⟩ := hx j x hj
   have h1 := hcc 0 _ rfl
   rw [Nat.add_zero, show j * (Kd.slice 5 (Kd.int .u8)).sz = j from Nat.mul_one j] at h1
   exact ⟨_, h1, rfl, A', c', rfl, hle, hC⟩
  refine ⟨(List.range n).map fun j => [(W.cell? (ad.add j)).getD undef], by simp, ⟨by simp, hm, fun _ => ⟨ad, rfl, fun j p hj => ?_⟩⟩, fun j x c hj hc => ?_⟩
  ·obtain ⟨hjl, hjp⟩ := List.getElem?_eq_some_iff.1 hj
   have hjn : j < n := by simpa using hjl
   obtain ⟨v, hv, h1, hK⟩ := hone j xs[j] (List.getElem?_eq_getElem (by omega))
   have hp : p = [v] := by rw [← hjp]; simp [hv]
   subst hp
   refine ⟨[v], rfl, ⟨rfl, rfl, fun u hu => by rw [List.mem_singleton.1 hu]; exact h1⟩, fun i u hu => ?_⟩
   cases i with
   | zero =>
    simp only [List.getElem?_cons_zero, Option.some.injEq] at hu
    subst hu
    rw [Nat.add_zero, show j * (Kd.raw 1).sz = j from Nat.mul_one j]
    exact hv
   | succ i => simp at hu
  ·obtain ⟨hjl, hjp⟩ := List.getElem?_eq_some_iff.1 hc
   obtain ⟨v, hv, h1, hK⟩ := hone j x hj
   have hp : c = [v] := by rw [← hjp]; simp [hv]
   rw [hp]
   exact hK
 ·obtain rfl : n = 0 := by omega
  refine ⟨[], rfl, ⟨rfl, by decide, fun h => absurd h (Nat.lt_irrefl _)⟩, fun j x c _ hc => by simp at hc⟩
theorem rows_to {W : World} {A : Option Addr} {n : Nat} {xs : List (List Int)} {rows : List (List Value)} (hl : xs.length = n) (h : Kd.C (Kd.raw 1) W A n rows) (hK : ∀ (j : Nat) (x : List Int) (c : List Value), xs[j]? = some x → rows[j]? = some c → (Kd.slice 5 (Kd.int .u8)).K W x c) :
  Kd.C (Kd.slice 5 (Kd.int .u8)) W A n xs := by
 obtain ⟨hr, hm, hn⟩ := h
 refine ⟨hl, hm, fun h0 => ?_⟩
 obtain ⟨ad, rfl, hx⟩ := hn h0
 refine ⟨ad, rfl, fun j p hj => ?_⟩
 have hjl := (List.getElem?_eq_some_iff.1 hj).1
 have hc : rows[j]? = some rows[j] := List.getElem?_eq_getElem (by omega)
 obtain ⟨c, hcl, ⟨rfl, _, _⟩, hcc⟩ := hx j _ hc
 exact ⟨_, hcl, hK j p _ hj hc, hcc⟩
theorem triple_C {W : World} {b : Nat} {A2 A3 A4 : Option Addr} {c2 c3 c4 : Nat} {r2 r3 r4 : List (List Value)} (h2 : W.cell? ⟨b, 0, none⟩ = some (.slice A2 r2.length c2)) (h3 : W.cell? ⟨b, 1, none⟩ = some (.slice A3 r3.length c3)) (h4 : W.cell? ⟨b, 2, none⟩ = some (.slice A4 r4.length c4))
  (l2 : r2.length ≤ c2) (l3 : r3.length ≤ c3) (l4 : r4.length ≤ c4) (C2 : Kd.C (Kd.raw 1) W A2 r2.length r2) (C3 : Kd.C (Kd.raw 1) W A3 r3.length r3) (C4 : Kd.C (Kd.raw 1) W A4 r4.length r4) :
  Kd.C (Kd.slice 25 (Kd.raw 1)) W (some ⟨b, 0, none⟩) 3 [r2, r3, r4] := by
 have hpl : ∀ j, (⟨b, 0, none⟩ : Addr).add j = ⟨b, j, none⟩ := fun j => by unfold Addr.add; split <;> simp_all
 refine ⟨rfl, by decide, fun _ => ⟨_, rfl, fun j p hj => ?_⟩⟩
 match j, hj with
 | 0, hj =>
  cases hj
  refine ⟨[_], rfl, ⟨A2, c2, rfl, l2, C2⟩, fun i u hu => ?_⟩
  cases i with
  | zero => cases hu; exact h2
  | succ i => simp at hu
 | 1, hj =>
  cases hj
  refine ⟨[_], rfl, ⟨A3, c3, rfl, l3, C3⟩, fun i u hu => ?_⟩
  cases i with
  | zero => cases hu; exact h3
  | succ i => simp at hu
 | 2, hj =>
  cases hj
  refine ⟨[_], rfl, ⟨A4, c4, rfl, l4, C4⟩, fun i u hu => ?_⟩
  cases i with
  | zero => cases hu; exact h4
  | succ i => simp at hu
theorem part_at' {w : World} {A : Option Addr} {n : Nat} {ps : List (List Int)} (h : Kd.C (Kd.slice 5 (Kd.int .u8)) w A n ps) (i : Nat) (hi : i < n) :
  ∃ ad Ai ci, A = some ad ∧ w.cell? (ad.add i) = some (.slice Ai (ps.getD i []).length ci) := by
 obtain ⟨ad, c, e, _, ⟨Ai, ci, rfl, hl, hC⟩, hc⟩ := Kd.C_get h ([] : List Int) (i : Int) (by omega) (by omega)
 have h0 := hc 0 _ rfl
 rw [Nat.add_zero, Int.toNat_natCast, show i * (Kd.slice 5 (Kd.int .u8)).sz = i from Nat.mul_one i] at h0
 exact ⟨ad, Ai, ci, e, h0⟩
theorem join_clo (W : World) (bn : Nat) (n : Int) (hn : W.cell? ⟨bn, 0, none⟩ = some (.int .i64 n)) (A : Option Addr) (l c : Nat) :
  Calls Tryz.prog 47 #[.slice A l c, .pointer (some ⟨bn, 0, none⟩)] W fun e w' => e = .returned (.bool ((l : Int) != n)) ∧ w' = W := by
 go_enter Tryz.func47, Tryz.ntmps47
 go_wp2
 go_ret
 exact ⟨rfl, rfl⟩
set_option maxHeartbeats 4000000 in
theorem index_lens (W : World) (bn : Nat) (n : Int) (hn : W.cell? ⟨bn, 0, none⟩ = some (.int .i64 n)) (A : Option Addr) (c : Nat) (ps : List (List Int)) (hC : Kd.C (Kd.slice 5 (Kd.int .u8)) W A ps.length ps) (hl : ps.length < 1000000) :
  Calls Tryz.prog 64 #[.slice A ps.length c, .func (.func 47) #[] #[.pointer (some ⟨bn, 0, none⟩)]] W fun e w' => (∃ x, e = .returned (.int .i64 x) ∧ decide (0 ≤ x) = ps.any (fun p => (p.length : Int) != n)) ∧ w' = W := by
 have HC := Aside0.mk hC
 have HL := Aside0.mk hl
 clear hC hl
 go_enter Tryz.func64, Tryz.ntmps64
 go_wp2
 go_loopg [8] ps.length (fun kq v8 w' => ∃ (i : Nat), v8 = .int .i64 (i : Int) ∧ Aside0 (i ≤ ps.length ∧ kq = ps.length - i ∧ (ps.take i).any (fun p => (p.length : Int) != n) = false) ∧ w' = W)
 case atStart => exact ⟨0, rfl, ⟨by omega, by omega, rfl⟩, rfl⟩
 case round =>
  obtain ⟨i, rfl, HI, hw1⟩ := hrel
  have hw2 := hw1.symm
  clear hw1
  subst hw2
  by_cases ci : i < ps.length
  ·have ci' : decide ((i : Int) < (ps.length : Int)) = true := decide_eq_true (by omega)
   have ci2 : decide (i < ps.length) = true := decide_eq_true ci
   obtain ⟨ad, Ai, cc, ea, hx⟩ := part_at' HC.out i ci
   cases ea
   have hi0 : (0 ≤ (i : Int)) = True := eq_true (by omega)
   have hi1 : ((i : Int) < (ps.length : Int)) = True := eq_true (by omega)
   have hsn : (ps.take (i + 1)).any (fun p => (p.length : Int) != n) = (((ps.getD i []).length : Int) != n) := by
    rw [List.take_succ_eq_append_getElem ci, List.any_append, HI.out.2.2, Bool.false_or]
    simp [List.getD_eq_getElem?_getD, List.getElem?_eq_getElem ci]
   have hall : (((ps.getD i []).length : Int) != n) = true → ps.any (fun p => (p.length : Int) != n) = true := fun h => by
    rw [← List.take_append_drop (i + 1) ps, List.any_append, hsn, h, Bool.true_or]
   have HS := Aside0.mk hsn
   have HA := Aside0.mk hall
   have HII := Aside0.mk ci
   clear hsn hall ci
   generalize hm : (ps.getD i []).length = m at hx HS HA
   clear hm
   by_cases cm : (m : Int) = n
   ·have cmb : ((m : Int) != n) = false := bne_eq_false_iff_eq.mpr cm
    go_wp2_with (go_at_call 47; ((with_reducible refine (join_clo _ bn n hn Ai m cc).mono ?_); rintro ev w' ⟨rfl, rfl⟩))
    have h_ := HII.out
    have hl_ := HL.out
    have hk_ := HI.out.2.1
    go_roundg (gk - 1)
    case measure => omega
    case rel => exact ⟨i + 1, by rw [show wrap64 ((i : Int) + 1) = ((i + 1 : Nat) : Int) by unfold wrap64; omega], ⟨by omega, by omega, by rw [HS.out, cmb]⟩, rfl⟩
   ·have cmb : ((m : Int) != n) = true := bne_iff_ne.mpr cm
    go_wp2_with (go_at_call 47; ((with_reducible refine (join_clo _ bn n hn Ai m cc).mono ?_); rintro ev w' ⟨rfl, rfl⟩))
    go_ret
    exact ⟨⟨_, rfl, by rw [HA.out cmb]; exact decide_eq_true (by omega)⟩, rfl⟩
  ·have ci' : decide ((i : Int) < (ps.length : Int)) = false := decide_eq_false (by omega)
   have ci2 : decide (i < ps.length) = false := decide_eq_false ci
   have hfin : ps.any (fun p => (p.length : Int) != n) = false := by
    have := HI.out.2.2
    rwa [List.take_of_length_le (by omega)] at this
   go_wp2
   go_ret
   exact ⟨⟨_, rfl, by rw [hfin]; rfl⟩, rfl⟩
theorem contains_lens (W : World) (bn : Nat) (n : Int) (hn : W.cell? ⟨bn, 0, none⟩ = some (.int .i64 n)) (A : Option Addr) (c : Nat) (ps : List (List Int)) (hC : Kd.C (Kd.slice 5 (Kd.int .u8)) W A ps.length ps) (hl : ps.length < 1000000) (b : Bool) (hb : ps.any (fun p => (p.length : Int) != n) = b) :
  Calls Tryz.prog 46 #[.slice A ps.length c, .func (.func 47) #[] #[.pointer (some ⟨bn, 0, none⟩)]] W fun e w' => e = .returned (.bool b) ∧ w' = W := by
 have HI := Aside0.mk (index_lens W bn n hn A c ps hC hl)
 clear hC
 go_enter Tryz.func46, Tryz.ntmps46
 go_wp2_with (go_at_call 64; ((with_reducible refine (HI.out).mono ?_); rintro ev w' ⟨⟨x, rfl, hx⟩, rfl⟩; rw [hb] at hx))
 go_ret
 exact ⟨rfl, rfl⟩
theorem put4 (x : Int) (h0 : 0 ≤ x) (h1 : x < 4294967296) : wire_Put.f 20 4 x = some ([x / 16777216 % 256, x / 65536 % 256, x / 256 % 256, x % 256], true) := by
 have e : x / 4294967296 = 0 := Int.ediv_eq_zero_of_lt h0 (by omega)
 simp [wire_Put.f, wire_width.f, wire_Put.j0, wire_Put.l0, wrap64, shr, IntKind.bits, e]
theorem wire_Join.calls (A0 : Option Addr) (c0 : Nat) (l0 : List (List Int)) (r : List Int) (w : World) (hr0 : Kd.C (Kd.slice 5 (Kd.int .u8)) w A0 l0.length l0) (hc0 : l0.length ≤ c0) (h : slices_Concat.f l0 = some r) :
  Calls Tryz.prog 49 #[.slice A0 l0.length c0] w fun e w' => ∃ v0_ : Value, e = .returned v0_ ∧ Kd.R (Kd.int .u8) 5 w' w.heap.size (fun _ => True) v0_ r ∧ Below w.heap.size w w' := by
 have HC := Aside0.mk (slices_Concat.calls A0 c0 l0 r w hr0 hc0 h)
 clear hr0 h
 go_enter Tryz.func49, Tryz.ntmps49
 go_wp2_with (go_at_call 65; ((with_reducible refine (HC.out).mono ?_); rintro ev w' ⟨v, rfl, hR, hb⟩))
 go_ret
 exact ⟨_, rfl, hR, hb⟩
def partsOf (l2 : List Int) (l3 l4 : List (List Int)) : List (List Int) := l2 :: (l3 ++ l4)
theorem concat3 (W : World) (b : Nat) (A2 A3 A4 : Option Addr) (c2 c3 c4 : Nat) (l2 : List Int) (l3 l4 : List (List Int)) (b2 : Nat) (h20 : W.cell? ⟨b2, 0, none⟩ = some (.slice A2 l2.length c2))
  (h2 : W.cell? ⟨b, 0, none⟩ = some (.slice (some ⟨b2, 0, none⟩) 1 1)) (h3 : W.cell? ⟨b, 1, none⟩ = some (.slice A3 l3.length c3)) (h4 : W.cell? ⟨b, 2, none⟩ = some (.slice A4 l4.length c4))
  (e2 : l2.length ≤ c2) (e3 : l3.length ≤ c3) (e4 : l4.length ≤ c4) (C2 : Kd.C (Kd.int .u8) W A2 l2.length l2) (C3 : Kd.C (Kd.slice 5 (Kd.int .u8)) W A3 l3.length l3) (C4 : Kd.C (Kd.slice 5 (Kd.int .u8)) W A4 l4.length l4) (n3 : l3.length < 1000) (n4 : l4.length < 1000) :
  Calls Tryz.prog 45 #[.slice (some ⟨b, 0, none⟩) 3 3] W fun e w' => ∃ A c, e = .returned (.slice A (partsOf l2 l3 l4).length c) ∧ (partsOf l2 l3 l4).length ≤ c ∧ Kd.C (Kd.slice 5 (Kd.int .u8)) w' A (partsOf l2 l3 l4).length (partsOf l2 l3 l4) ∧ Below W.heap.size W w' := by
 have hpl : (⟨b2, 0, none⟩ : Addr).add 0 = ⟨b2, 0, none⟩ := by simp [Addr.add]
 have CR2 : Kd.C (Kd.raw 1) W (some ⟨b2, 0, none⟩) ([[Value.slice A2 l2.length c2]] : List (List Value)).length [[Value.slice A2 l2.length c2]] := by
  refine ⟨rfl, by simp, fun _ => ⟨_, rfl, fun j p hj => ?_⟩⟩
  match j, hj with
  | 0, hj =>
   cases hj
   refine ⟨[_], rfl, ⟨rfl, rfl, fun u hu => by rw [List.mem_singleton.1 hu]; rfl⟩, fun i u hu => ?_⟩
   cases i with
   | zero => cases hu; exact h20
   | succ i => simp at hu
 obtain ⟨R3, hr3, C3', K3⟩ := rows_of C3
 obtain ⟨R4, hr4, C4', K4⟩ := rows_of C4
 rw [← hr3] at C3' h3 e3
 rw [← hr4] at C4' h4 e4
 have hT := triple_C (r2 := [[Value.slice A2 l2.length c2]]) h2 h3 h4 (Nat.le_refl _) e3 e4 CR2 C3' C4'
 refine (slices_ConcS.calls (some ⟨b, 0, none⟩) 3 [[[Value.slice A2 l2.length c2]], R3, R4] ([[Value.slice A2 l2.length c2]] ++ (R3 ++ R4)) W hT (by simp) (by
  rw [slices_ConcS.f, if_pos ⟨by simp, by simp; omega⟩]
  simp)).mono ?_
 rintro e w' ⟨v, rfl, hR, hb⟩
 obtain ⟨A, c, rfl, hl, hC⟩ := Kd.R_reads hR
 have hn : ([[Value.slice A2 l2.length c2]] ++ (R3 ++ R4)).length = (partsOf l2 l3 l4).length := by simp [partsOf, hr3, hr4]
 rw [hn] at hl hC ⊢
 refine ⟨A, c, rfl, hl, rows_to rfl hC (fun j x cs hx hcs => ?_), hb⟩
 refine (Kd.slice 5 (Kd.int .u8)).K_below hb ?_
 cases j with
 | zero =>
  simp only [partsOf, List.getElem?_cons_zero, Option.some.injEq] at hx
  simp only [List.cons_append, List.getElem?_cons_zero, Option.some.injEq] at hcs
  subst hx hcs
  exact ⟨A2, c2, rfl, e2, C2⟩
 | succ j =>
  simp only [partsOf, List.getElem?_cons_succ] at hx
  simp only [List.cons_append, List.nil_append, List.getElem?_cons_succ] at hcs
  by_cases hj : j < l3.length
  ·rw [List.getElem?_append_left hj] at hx
   rw [List.getElem?_append_left (by omega)] at hcs
   exact K3 j x cs hx hcs
  ·rw [List.getElem?_append_right (by omega)] at hx
   rw [List.getElem?_append_right (by omega), hr3] at hcs
   exact K4 _ x cs hx hcs
def xmss_Join.f (a1 a2 : Int) (l2 : List Int) (l3 l4 : List (List Int)) : Option (List Int × Bool) :=
 if 0 ≤ a2 ∧ a2 < 4294967296 ∧ l3.length < 1000 ∧ l4.length < 1000 ∧ (partsOf l2 l3 l4).flatten.length < 1000000000 then
  (xmss_Numbers.f a1).bind fun q =>
   if q.2.2.2 = true then (if 0 ≤ q.2.1 ∧ q.2.1 ≤ 31 then
    (if (l3.length : Int) = q.2.2.1 then (if (l4.length : Int) = q.2.1 then (if 0 < a2 / 2 ^ q.2.1.toNat then some ([], false) else
     (if (partsOf l2 l3 l4).any (fun p => (p.length : Int) != q.1) = true then some ([], false) else some ([a2 / 16777216 % 256, a2 / 65536 % 256, a2 / 256 % 256, a2 % 256] ++ (partsOf l2 l3 l4).flatten, true))) else some ([], false)) else some ([], false)) else none)
   else some ([], false)
 else none
theorem join_cat (a1 a2 : Int) (A2 : Option Addr) (c2 : Nat) (l2 : List Int) (A3 : Option Addr) (c3 : Nat) (l3 : List (List Int)) (A4 : Option Addr) (c4 : Nat) (l4 : List (List Int)) (q1 : Int) (m : Nat) (w : World) (C2 : Kd.C (Kd.int .u8) w A2 l2.length l2) (e2 : l2.length ≤ c2) (C3 : Kd.C (Kd.slice 5 (Kd.int .u8)) w A3 l3.length l3) (e3 : l3.length ≤ c3) (C4 : Kd.C (Kd.slice 5 (Kd.int .u8)) w A4 l4.length l4) (e4 : l4.length ≤ c4) (n3 : l3.length < 1000) (n4 : l4.length < 1000) :
  Calls Tryz.prog 45 #[.slice (some ⟨w.heap.size + 1 + 1 + 1, 0, none⟩) 3 3] (((((w.alloc (.cells #[.int .i64 a1, .int .u32 a2, .slice A2 l2.length c2, .slice A3 l3.length c3, .slice A4 l4.length c4] 54)).drewN m).alloc (.cells #[.int .i64 q1] 3)).alloc (.cells #[.slice A2 l2.length c2] 25)).alloc (.cells #[.slice (some ⟨w.heap.size + 1 + 1, 0, none⟩) 1 1, .slice A3 l3.length c3, .slice A4 l4.length c4] 52)) fun e w' => ∃ A c, e = .returned (.slice A (partsOf l2 l3 l4).length c) ∧ ((partsOf l2 l3 l4).length ≤ c ∧ Kd.C (Kd.slice 5 (Kd.int .u8)) w' A (partsOf l2 l3 l4).length (partsOf l2 l3 l4)) ∧
   w'.cell? ⟨w.heap.size, 1, none⟩ = some (.int .u32 a2) ∧ w'.cell? ⟨w.heap.size, 3, none⟩ = some (.slice A3 l3.length c3) ∧ w'.cell? ⟨w.heap.size, 4, none⟩ = some (.slice A4 l4.length c4) ∧ w'.cell? ⟨w.heap.size + 1, 0, none⟩ = some (.int .i64 q1) ∧ Below w.heap.size w w' := by
 have b0 := blk_drewN (blk_new w (.cells #[.int .i64 a1, .int .u32 a2, .slice A2 l2.length c2, .slice A3 l3.length c3, .slice A4 l4.length c4] 54)) m
 have h0 : Below w.heap.size w ((w.alloc (.cells #[.int .i64 a1, .int .u32 a2, .slice A2 l2.length c2, .slice A3 l3.length c3, .slice A4 l4.length c4] 54)).drewN m) := pw_below_drewN (below_alloc (Below.refl _ _) _) m
 have z0 : ((w.alloc (.cells #[.int .i64 a1, .int .u32 a2, .slice A2 l2.length c2, .slice A3 l3.length c3, .slice A4 l4.length c4] 54)).drewN m).heap.size = w.heap.size + 1 := World.size_alloc w _
 generalize (w.alloc (.cells #[.int .i64 a1, .int .u32 a2, .slice A2 l2.length c2, .slice A3 l3.length c3, .slice A4 l4.length c4] 54)).drewN m = V0 at *
 have b1 := blk_new V0 (.cells #[.int .i64 q1] 3)
 have b0' := blk_alloc b0 (.cells #[.int .i64 q1] 3)
 have h1 := below_alloc h0 (.cells #[.int .i64 q1] 3)
 have z1 : (V0.alloc (.cells #[.int .i64 q1] 3)).heap.size = w.heap.size + 1 + 1 := by rw [World.size_alloc, z0]
 rw [z0] at b1
 generalize V0.alloc (.cells #[.int .i64 q1] 3) = V1 at *
 have b2 := blk_new V1 (.cells #[.slice A2 l2.length c2] 25)
 have b1' := blk_alloc b1 (.cells #[.slice A2 l2.length c2] 25)
 have b0'' := blk_alloc b0' (.cells #[.slice A2 l2.length c2] 25)
 have h2 := below_alloc h1 (.cells #[.slice A2 l2.length c2] 25)
 have z2 : (V1.alloc (.cells #[.slice A2 l2.length c2] 25)).heap.size = w.heap.size + 1 + 1 + 1 := by rw [World.size_alloc, z1]
 rw [z1] at b2
 generalize V1.alloc (.cells #[.slice A2 l2.length c2] 25) = V2 at *
 have b3 := blk_new V2 (.cells #[.slice (some ⟨w.heap.size + 1 + 1, 0, none⟩) 1 1, .slice A3 l3.length c3, .slice A4 l4.length c4] 52)
 have b2' := blk_alloc b2 (.cells #[.slice (some ⟨w.heap.size + 1 + 1, 0, none⟩) 1 1, .slice A3 l3.length c3, .slice A4 l4.length c4] 52)
 have b1'' := blk_alloc b1' (.cells #[.slice (some ⟨w.heap.size + 1 + 1, 0, none⟩) 1 1, .slice A3 l3.length c3, .slice A4 l4.length c4] 52)
 have b0x := blk_alloc b0'' (.cells #[.slice (some ⟨w.heap.size + 1 + 1, 0, none⟩) 1 1, .slice A3 l3.length c3, .slice A4 l4.length c4] 52)
 have h3 := below_alloc h2 (.cells #[.slice (some ⟨w.heap.size + 1 + 1, 0, none⟩) 1 1, .slice A3 l3.length c3, .slice A4 l4.length c4] 52)
 rw [z2] at b3
 generalize V2.alloc (.cells #[.slice (some ⟨w.heap.size + 1 + 1, 0, none⟩) 1 1, .slice A3 l3.length c3, .slice A4 l4.length c4] 52) = V3 at *
 refine (concat3 V3 (w.heap.size + 1 + 1 + 1) A2 A3 A4 c2 c3 c4 l2 l3 l4 (w.heap.size + 1 + 1) ((blk_cell b2' 0).trans rfl) ((blk_cell b3 0).trans rfl) ((blk_cell b3 1).trans rfl) ((blk_cell b3 2).trans rfl) e2 e3 e4 (Kd.C_below C2 h3) (Kd.C_below C3 h3) (Kd.C_below C4 h3) n3 n4).mono ?_
 rintro e w' ⟨A, c, rfl, hl, hC, hb⟩
 have b5 := blk_below b0x hb
 exact ⟨A, c, rfl, ⟨hl, hC⟩, (blk_cell b5 1).trans rfl, (blk_cell b5 3).trans rfl, (blk_cell b5 4).trans rfl, (blk_cell (blk_below b1'' hb) 0).trans rfl, below_step h3 hb⟩
set_option maxRecDepth 100000 in
set_option maxHeartbeats 8000000 in
theorem join_f1 (a1 a2 : Int) (A2 : Option Addr) (c2 : Nat) (l2 : List Int) (A3 : Option Addr) (c3 : Nat) (l3 : List (List Int)) (A4 : Option Addr) (c4 : Nat) (l4 : List (List Int)) (q1 q2 q3 : Int) (w : World) (HC2 : Aside0 (Kd.C (Kd.int .u8) w A2 l2.length l2 ∧ l2.length ≤ c2)) (HC3 : Aside0 (Kd.C (Kd.slice 5 (Kd.int .u8)) w A3 l3.length l3 ∧ l3.length ≤ c3)) (HC4 : Aside0 (Kd.C (Kd.slice 5 (Kd.int .u8)) w A4 l4.length l4 ∧ l4.length ≤ c4)) (HN : Aside0 (l3.length < 1000 ∧ l4.length < 1000)) (HQ : Aside0 (xmss_Numbers.f a1 = some (q1, q2, q3, false)))  :
  Calls Tryz.prog 24 #[.agg #[.int .i64 a1, .int .u32 a2, .slice A2 l2.length c2, .slice A3 l3.length c3, .slice A4 l4.length c4]] w fun e w' => e = .returned (.tuple #[.slice none 0 0, .bool false]) ∧ Below w.heap.size w w' := by
 go_enter Tryz.func24, Tryz.ntmps24
 go_wp2_with (first
  | (go_at_call 17; ((with_reducible refine (xmss_Numbers.calls a1 q1 q2 q3 false _ HQ.out).mono ?_); rintro e w1 ⟨rfl, ⟨m, rfl⟩⟩))
  | (go_at_call 45; ((with_reducible refine (join_cat a1 a2 A2 c2 l2 A3 c3 l3 A4 c4 l4 q1 m w HC2.out.1 HC2.out.2 HC3.out.1 HC3.out.2 HC4.out.1 HC4.out.2 HN.out.1 HN.out.2).mono ?_); rintro e w2 ⟨A, c, rfl, hK, f1, f3, f4, fn, hb⟩; have HK := Aside0.mk hK; have HB := Aside0.mk hb; have HP := Aside0.mk (show (partsOf l2 l3 l4).length < 1000000 by have := HN.out; simp [partsOf]; omega); clear hK hb)))
 go_ret2
 exact ⟨rfl, HB.out⟩
set_option maxRecDepth 100000 in
set_option maxHeartbeats 8000000 in
theorem join_f2 (a1 a2 : Int) (A2 : Option Addr) (c2 : Nat) (l2 : List Int) (A3 : Option Addr) (c3 : Nat) (l3 : List (List Int)) (A4 : Option Addr) (c4 : Nat) (l4 : List (List Int)) (q1 q2 q3 : Int) (w : World) (HC2 : Aside0 (Kd.C (Kd.int .u8) w A2 l2.length l2 ∧ l2.length ≤ c2)) (HC3 : Aside0 (Kd.C (Kd.slice 5 (Kd.int .u8)) w A3 l3.length l3 ∧ l3.length ≤ c3)) (HC4 : Aside0 (Kd.C (Kd.slice 5 (Kd.int .u8)) w A4 l4.length l4 ∧ l4.length ≤ c4)) (HN : Aside0 (l3.length < 1000 ∧ l4.length < 1000)) (HQ : Aside0 (xmss_Numbers.f a1 = some (q1, q2, q3, true))) (k3 : ((l3.length : Int) != q3) = true) :
  Calls Tryz.prog 24 #[.agg #[.int .i64 a1, .int .u32 a2, .slice A2 l2.length c2, .slice A3 l3.length c3, .slice A4 l4.length c4]] w fun e w' => e = .returned (.tuple #[.slice none 0 0, .bool false]) ∧ Below w.heap.size w w' := by
 go_enter Tryz.func24, Tryz.ntmps24
 go_wp2_with (first
  | (go_at_call 17; ((with_reducible refine (xmss_Numbers.calls a1 q1 q2 q3 true _ HQ.out).mono ?_); rintro e w1 ⟨rfl, ⟨m, rfl⟩⟩))
  | (go_at_call 45; ((with_reducible refine (join_cat a1 a2 A2 c2 l2 A3 c3 l3 A4 c4 l4 q1 m w HC2.out.1 HC2.out.2 HC3.out.1 HC3.out.2 HC4.out.1 HC4.out.2 HN.out.1 HN.out.2).mono ?_); rintro e w2 ⟨A, c, rfl, hK, f1, f3, f4, fn, hb⟩; have HK := Aside0.mk hK; have HB := Aside0.mk hb; have HP := Aside0.mk (show (partsOf l2 l3 l4).length < 1000000 by have := HN.out; simp [partsOf]; omega); clear hK hb)))
 go_ret2
 exact ⟨rfl, HB.out⟩
set_option maxRecDepth 100000 in
set_option maxHeartbeats 8000000 in
theorem join_f3 (a1 a2 : Int) (A2 : Option Addr) (c2 : Nat) (l2 : List Int) (A3 : Option Addr) (c3 : Nat) (l3 : List (List Int)) (A4 : Option Addr) (c4 : Nat) (l4 : List (List Int)) (q1 q2 q3 : Int) (w : World) (HC2 : Aside0 (Kd.C (Kd.int .u8) w A2 l2.length l2 ∧ l2.length ≤ c2)) (HC3 : Aside0 (Kd.C (Kd.slice 5 (Kd.int .u8)) w A3 l3.length l3 ∧ l3.length ≤ c3)) (HC4 : Aside0 (Kd.C (Kd.slice 5 (Kd.int .u8)) w A4 l4.length l4 ∧ l4.length ≤ c4)) (HN : Aside0 (l3.length < 1000 ∧ l4.length < 1000)) (HQ : Aside0 (xmss_Numbers.f a1 = some (q1, q2, q3, true))) (k3 : ((l3.length : Int) != q3) = false) (k4 : ((l4.length : Int) != q2) = true) :
  Calls Tryz.prog 24 #[.agg #[.int .i64 a1, .int .u32 a2, .slice A2 l2.length c2, .slice A3 l3.length c3, .slice A4 l4.length c4]] w fun e w' => e = .returned (.tuple #[.slice none 0 0, .bool false]) ∧ Below w.heap.size w w' := by
 go_enter Tryz.func24, Tryz.ntmps24
 go_wp2_with (first
  | (go_at_call 17; ((with_reducible refine (xmss_Numbers.calls a1 q1 q2 q3 true _ HQ.out).mono ?_); rintro e w1 ⟨rfl, ⟨m, rfl⟩⟩))
  | (go_at_call 45; ((with_reducible refine (join_cat a1 a2 A2 c2 l2 A3 c3 l3 A4 c4 l4 q1 m w HC2.out.1 HC2.out.2 HC3.out.1 HC3.out.2 HC4.out.1 HC4.out.2 HN.out.1 HN.out.2).mono ?_); rintro e w2 ⟨A, c, rfl, hK, f1, f3, f4, fn, hb⟩; have HK := Aside0.mk hK; have HB := Aside0.mk hb; have HP := Aside0.mk (show (partsOf l2 l3 l4).length < 1000000 by have := HN.out; simp [partsOf]; omega); clear hK hb)))
 go_ret2
 exact ⟨rfl, HB.out⟩
set_option maxRecDepth 100000 in
set_option maxHeartbeats 8000000 in
theorem join_f4 (a1 a2 : Int) (A2 : Option Addr) (c2 : Nat) (l2 : List Int) (A3 : Option Addr) (c3 : Nat) (l3 : List (List Int)) (A4 : Option Addr) (c4 : Nat) (l4 : List (List Int)) (q1 q2 q3 : Int) (w : World) (HC2 : Aside0 (Kd.C (Kd.int .u8) w A2 l2.length l2 ∧ l2.length ≤ c2)) (HC3 : Aside0 (Kd.C (Kd.slice 5 (Kd.int .u8)) w A3 l3.length l3 ∧ l3.length ≤ c3)) (HC4 : Aside0 (Kd.C (Kd.slice 5 (Kd.int .u8)) w A4 l4.length l4 ∧ l4.length ≤ c4)) (HN : Aside0 (l3.length < 1000 ∧ l4.length < 1000)) (HQ : Aside0 (xmss_Numbers.f a1 = some (q1, q2, q3, true))) (k3 : ((l3.length : Int) != q3) = false) (k4 : ((l4.length : Int) != q2) = false) (h0 : (0 ≤ q2) = True) (h0b : decide (0 ≤ q2) = true) (d : Int) (hd : a2 / 2 ^ min q2.toNat 32 = d) (k5 : decide (0 < d) = true) :
  Calls Tryz.prog 24 #[.agg #[.int .i64 a1, .int .u32 a2, .slice A2 l2.length c2, .slice A3 l3.length c3, .slice A4 l4.length c4]] w fun e w' => e = .returned (.tuple #[.slice none 0 0, .bool false]) ∧ Below w.heap.size w w' := by
 go_enter Tryz.func24, Tryz.ntmps24
 go_wp2_with (first
  | (go_at_call 17; ((with_reducible refine (xmss_Numbers.calls a1 q1 q2 q3 true _ HQ.out).mono ?_); rintro e w1 ⟨rfl, ⟨m, rfl⟩⟩))
  | (go_at_call 45; ((with_reducible refine (join_cat a1 a2 A2 c2 l2 A3 c3 l3 A4 c4 l4 q1 m w HC2.out.1 HC2.out.2 HC3.out.1 HC3.out.2 HC4.out.1 HC4.out.2 HN.out.1 HN.out.2).mono ?_); rintro e w2 ⟨A, c, rfl, hK, f1, f3, f4, fn, hb⟩; have HK := Aside0.mk hK; have HB := Aside0.mk hb; have HP := Aside0.mk (show (partsOf l2 l3 l4).length < 1000000 by have := HN.out; simp [partsOf]; omega); clear hK hb)))
 go_ret2
 exact ⟨rfl, HB.out⟩
set_option maxRecDepth 100000 in
set_option maxHeartbeats 8000000 in
theorem join_f5 (a1 a2 : Int) (A2 : Option Addr) (c2 : Nat) (l2 : List Int) (A3 : Option Addr) (c3 : Nat) (l3 : List (List Int)) (A4 : Option Addr) (c4 : Nat) (l4 : List (List Int)) (q1 q2 q3 : Int) (w : World) (HC2 : Aside0 (Kd.C (Kd.int .u8) w A2 l2.length l2 ∧ l2.length ≤ c2)) (HC3 : Aside0 (Kd.C (Kd.slice 5 (Kd.int .u8)) w A3 l3.length l3 ∧ l3.length ≤ c3)) (HC4 : Aside0 (Kd.C (Kd.slice 5 (Kd.int .u8)) w A4 l4.length l4 ∧ l4.length ≤ c4)) (HN : Aside0 (l3.length < 1000 ∧ l4.length < 1000)) (HQ : Aside0 (xmss_Numbers.f a1 = some (q1, q2, q3, true))) (k3 : ((l3.length : Int) != q3) = false) (k4 : ((l4.length : Int) != q2) = false) (h0 : (0 ≤ q2) = True) (h0b : decide (0 ≤ q2) = true) (d : Int) (hd : a2 / 2 ^ min q2.toNat 32 = d) (k5 : decide (0 < d) = false) (HA : Aside0 ((partsOf l2 l3 l4).any (fun p => (p.length : Int) != q1) = true)) :
  Calls Tryz.prog 24 #[.agg #[.int .i64 a1, .int .u32 a2, .slice A2 l2.length c2, .slice A3 l3.length c3, .slice A4 l4.length c4]] w fun e w' => e = .returned (.tuple #[.slice none 0 0, .bool false]) ∧ Below w.heap.size w w' := by
 go_enter Tryz.func24, Tryz.ntmps24
 go_wp2_with (first
  | (go_at_call 17; ((with_reducible refine (xmss_Numbers.calls a1 q1 q2 q3 true _ HQ.out).mono ?_); rintro e w1 ⟨rfl, ⟨m, rfl⟩⟩))
  | (go_at_call 45; ((with_reducible refine (join_cat a1 a2 A2 c2 l2 A3 c3 l3 A4 c4 l4 q1 m w HC2.out.1 HC2.out.2 HC3.out.1 HC3.out.2 HC4.out.1 HC4.out.2 HN.out.1 HN.out.2).mono ?_); rintro e w2 ⟨A, c, rfl, hK, f1, f3, f4, fn, hb⟩; have HK := Aside0.mk hK; have HB := Aside0.mk hb; have HP := Aside0.mk (show (partsOf l2 l3 l4).length < 1000000 by have := HN.out; simp [partsOf]; omega); clear hK hb))
  | (go_at_call 46; ((with_reducible refine (contains_lens _ (w.heap.size + 1) q1 fn A c (partsOf l2 l3 l4) HK.out.2 HP.out true HA.out).mono ?_); rintro e w3 ⟨rfl, rfl⟩)))
 go_ret2
 exact ⟨rfl, HB.out⟩
set_option maxRecDepth 100000 in
set_option maxHeartbeats 8000000 in
theorem join_ok (a1 a2 : Int) (A2 : Option Addr) (c2 : Nat) (l2 : List Int) (A3 : Option Addr) (c3 : Nat) (l3 : List (List Int)) (A4 : Option Addr) (c4 : Nat) (l4 : List (List Int)) (q1 q2 q3 : Int) (w : World) (HC2 : Aside0 (Kd.C (Kd.int .u8) w A2 l2.length l2 ∧ l2.length ≤ c2)) (HC3 : Aside0 (Kd.C (Kd.slice 5 (Kd.int .u8)) w A3 l3.length l3 ∧ l3.length ≤ c3)) (HC4 : Aside0 (Kd.C (Kd.slice 5 (Kd.int .u8)) w A4 l4.length l4 ∧ l4.length ≤ c4)) (HN : Aside0 (l3.length < 1000 ∧ l4.length < 1000)) (HQ : Aside0 (xmss_Numbers.f a1 = some (q1, q2, q3, true))) (k3 : ((l3.length : Int) != q3) = false) (k4 : ((l4.length : Int) != q2) = false) (h0 : (0 ≤ q2) = True) (h0b : decide (0 ≤ q2) = true) (d : Int) (hd : a2 / 2 ^ min q2.toNat 32 = d) (k5 : decide (0 < d) = false) (HA : Aside0 ((partsOf l2 l3 l4).any (fun p => (p.length : Int) != q1) = false)) (B4 Fl : List Int) (HPUT : Aside0 (wire_Put.f 20 4 a2 = some (B4, true))) (HFL : Aside0 (slices_Concat.f (partsOf l2 l3 l4) = some Fl)) (HLEN : Aside0 ((B4.length + Fl.length) * 1 ≤ 140737488355328)) (hw64 : IntKind.u64.wrap a2 = a2) :
  Calls Tryz.prog 24 #[.agg #[.int .i64 a1, .int .u32 a2, .slice A2 l2.length c2, .slice A3 l3.length c3, .slice A4 l4.length c4]] w fun e w' => ∃ v, e = .returned (.tuple #[v, .bool true]) ∧ Kd.R (Kd.int .u8) 5 w' w.heap.size (fun _ => True) v (B4 ++ Fl) ∧ Below w.heap.size w w' := by
 go_enter Tryz.func24, Tryz.ntmps24
 go_wp2_with (first
  | (go_at_call 17; ((with_reducible refine (xmss_Numbers.calls a1 q1 q2 q3 true _ HQ.out).mono ?_); rintro e w1 ⟨rfl, ⟨m, rfl⟩⟩))
  | (go_at_call 45; ((with_reducible refine (join_cat a1 a2 A2 c2 l2 A3 c3 l3 A4 c4 l4 q1 m w HC2.out.1 HC2.out.2 HC3.out.1 HC3.out.2 HC4.out.1 HC4.out.2 HN.out.1 HN.out.2).mono ?_); rintro e w2 ⟨A, c, rfl, hK, f1, f3, f4, fn, hb⟩; have HK := Aside0.mk hK; have HB := Aside0.mk hb; have HP := Aside0.mk (show (partsOf l2 l3 l4).length < 1000000 by have := HN.out; simp [partsOf]; omega); clear hK hb))
  | (go_at_call 46; ((with_reducible refine (contains_lens _ (w.heap.size + 1) q1 fn A c (partsOf l2 l3 l4) HK.out.2 HP.out false HA.out).mono ?_); rintro e w3 ⟨rfl, rfl⟩))
  | (go_at_call 48; ((with_reducible refine (wire_Put.calls 20 4 a2 B4 true _ HPUT.out).mono ?_); rintro e w4 ⟨v4, rfl, hR, hb⟩; obtain ⟨Ap, cp, rfl⟩ := Kd.R_slice hR; have HR4 := Aside0.mk (Kd.R_lower hR (Nat.le_trans HB.out.size (Nat.le_refl _))); have HB4 := Aside0.mk (below_step HB.out hb); have HK4 := Aside0.mk (And.intro HK.out.1 (Kd.C_below HK.out.2 hb)); clear hR hb))
  | (go_at_call 49; ((with_reducible refine (wire_Join.calls A c (partsOf l2 l3 l4) Fl _ HK4.out.2 HK4.out.1 HFL.out).mono ?_); rintro e w5 ⟨v5, rfl, hR, hb⟩; obtain ⟨Aj, cj, rfl⟩ := Kd.R_slice hR; have HR5 := Aside0.mk hR; have HB5 := Aside0.mk (below_step HB4.out hb); have HR45 := Aside0.mk (Kd.R_below HR4.out hb); clear hR hb))
  | ((with_reducible refine gate_builtin (b := .append) (xs := #[.tmp 63, .tmp 65]) rfl ?_); at_builtin; refine Kd.R_append_rows (Kd.int .u8) (w0 := w) w.heap.size rfl (.tmp 63) (.tmp 65) 25 5 (.int .u8 0) 1 rfl Tryz.underlying25 info5 rfl (by decide) (by omega) _ B4 Fl _ _ _ (fun _ => True) (fun _ => False) rfl rfl ?aO ?aR (fun _ _ h => h) (fun _ h => h.elim) ?aF ?aB ?aS ?aL ?_; (case aO => exact HR45.out); (case aR => exact (Kd.R_reads' HR5.out).2.2); (case aF => exact fun _ _ => trivial); (case aB => exact HB5.out); (case aS => exact HB5.out.size); (case aL => exact HLEN.out); intro v6 w6 ho hb _ _; have HO6 := Aside0.mk ho; have HB6 := Aside0.mk hb; clear ho hb))
 go_ret2
 exact ⟨_, rfl, HO6.out, HB6.out⟩
theorem xmss_Join.calls (a1 a2 : Int) (A2 : Option Addr) (c2 : Nat) (l2 : List Int) (A3 : Option Addr) (c3 : Nat) (l3 : List (List Int)) (A4 : Option Addr) (c4 : Nat) (l4 : List (List Int)) (r1 : List Int) (r2 : Bool) (w : World)
  (C2 : Kd.C (Kd.int .u8) w A2 l2.length l2) (e2 : l2.length ≤ c2) (C3 : Kd.C (Kd.slice 5 (Kd.int .u8)) w A3 l3.length l3) (e3 : l3.length ≤ c3) (C4 : Kd.C (Kd.slice 5 (Kd.int .u8)) w A4 l4.length l4) (e4 : l4.length ≤ c4) (h : xmss_Join.f a1 a2 l2 l3 l4 = some (r1, r2)) :
  Calls Tryz.prog 24 #[.agg #[.int .i64 a1, .int .u32 a2, .slice A2 l2.length c2, .slice A3 l3.length c3, .slice A4 l4.length c4]] w fun e w' => ∃ v0_ : Value, e = .returned (.tuple #[v0_, .bool r2]) ∧ Kd.R (Kd.int .u8) 5 w' w.heap.size (fun _ => True) v0_ r1 ∧ Below w.heap.size w w' := by
 have HC2 := Aside0.mk (And.intro C2 e2)
 have HC3 := Aside0.mk (And.intro C3 e3)
 have HC4 := Aside0.mk (And.intro C4 e4)
 rw [xmss_Join.f] at h
 by_cases hg : 0 ≤ a2 ∧ a2 < 4294967296 ∧ l3.length < 1000 ∧ l4.length < 1000 ∧ (partsOf l2 l3 l4).flatten.length < 1000000000
 ·rw [if_pos hg] at h
  obtain ⟨g1, g2, g3, g4, g5⟩ := hg
  have HN := Aside0.mk (And.intro g3 g4)
  replace h := Option.bind_eq_some_iff.mp h
  obtain ⟨⟨q1, q2, q3, q4⟩, hq, h⟩ := h
  dsimp only at h
  have HQ := Aside0.mk hq
  have nope : ∀ {r1 : List Int} {r2 : Bool}, (some (([] : List Int), false) : Option (List Int × Bool)) = some (r1, r2) → Calls Tryz.prog 24 #[.agg #[.int .i64 a1, .int .u32 a2, .slice A2 l2.length c2, .slice A3 l3.length c3, .slice A4 l4.length c4]] w (fun e w' => e = .returned (.tuple #[.slice none 0 0, .bool false]) ∧ Below w.heap.size w w') →
    Calls Tryz.prog 24 #[.agg #[.int .i64 a1, .int .u32 a2, .slice A2 l2.length c2, .slice A3 l3.length c3, .slice A4 l4.length c4]] w (fun e w' => ∃ v0_ : Value, e = .returned (.tuple #[v0_, .bool r2]) ∧ Kd.R (Kd.int .u8) 5 w' w.heap.size (fun _ => True) v0_ r1 ∧ Below w.heap.size w w') := by
   intro r1 r2 hr hc
   simp only [Option.some.injEq, Prod.mk.injEq] at hr
   obtain ⟨rfl, rfl⟩ := hr
   refine hc.mono ?_
   rintro e w' ⟨rfl, hb⟩
   exact ⟨_, rfl, Kd.R_nil _ _ _ _ _, hb⟩
  by_cases k1 : q4 = true
  ·rw [if_pos k1] at h
   subst k1
   by_cases k2 : 0 ≤ q2 ∧ q2 ≤ 31
   ·rw [if_pos k2] at h
    have hmin : min q2.toNat 32 = q2.toNat := by omega
    have z0 : (0 ≤ q2) = True := eq_true k2.1
    have z1 : decide (0 ≤ q2) = true := decide_eq_true k2.1
    by_cases k3 : (l3.length : Int) = q3
    ·rw [if_pos k3] at h
     have k3' : ((l3.length : Int) != q3) = false := bne_eq_false_iff_eq.mpr k3
     by_cases k4 : (l4.length : Int) = q2
     ·rw [if_pos k4] at h
      have k4' : ((l4.length : Int) != q2) = false := bne_eq_false_iff_eq.mpr k4
      obtain ⟨d, hd⟩ : ∃ d, a2 / 2 ^ min q2.toNat 32 = d := ⟨_, rfl⟩
      rw [← hmin, hd] at h
      by_cases k5 : 0 < d
      ·rw [if_pos k5] at h
       exact nope h (join_f4 a1 a2 A2 c2 l2 A3 c3 l3 A4 c4 l4 q1 q2 q3 w HC2 HC3 HC4 HN HQ k3' k4' z0 z1 d hd (decide_eq_true k5))
      ·rw [if_neg k5] at h
       have k5' := decide_eq_false k5
       by_cases k6 : (partsOf l2 l3 l4).any (fun p => (p.length : Int) != q1) = true
       ·rw [if_pos k6] at h
        exact nope h (join_f5 a1 a2 A2 c2 l2 A3 c3 l3 A4 c4 l4 q1 q2 q3 w HC2 HC3 HC4 HN HQ k3' k4' z0 z1 d hd k5' ⟨k6⟩)
       ·rw [if_neg k6] at h
        simp only [Option.some.injEq, Prod.mk.injEq] at h
        obtain ⟨rfl, rfl⟩ := h
        exact join_ok a1 a2 A2 c2 l2 A3 c3 l3 A4 c4 l4 q1 q2 q3 w HC2 HC3 HC4 HN HQ k3' k4' z0 z1 d hd k5' ⟨Bool.eq_false_iff.mpr k6⟩ _ _ ⟨put4 a2 g1 g2⟩ ⟨by rw [slices_Concat.f, if_pos ⟨by simp [partsOf]; omega, by omega⟩]⟩ ⟨by simp only [List.length_cons, List.length_nil]; omega⟩ (by rw [IntKind.wrap_u64]; omega)
     ·rw [if_neg k4] at h
      exact nope h (join_f3 a1 a2 A2 c2 l2 A3 c3 l3 A4 c4 l4 q1 q2 q3 w HC2 HC3 HC4 HN HQ k3' (bne_iff_ne.mpr k4))
    ·rw [if_neg k3] at h
     exact nope h (join_f2 a1 a2 A2 c2 l2 A3 c3 l3 A4 c4 l4 q1 q2 q3 w HC2 HC3 HC4 HN HQ (bne_iff_ne.mpr k3))
   ·rw [if_neg k2] at h
    cases h
  ·rw [if_neg k1] at h
   obtain rfl := Bool.eq_false_iff.mpr k1
   exact nope h (join_f1 a1 a2 A2 c2 l2 A3 c3 l3 A4 c4 l4 q1 q2 q3 w HC2 HC3 HC4 HN HQ)
 ·rw [if_neg hg] at h
  cases h
end Go.Proofs.YtgmnknhfeoleaaaGreatDoor.PXmss
