/- xmss: a signature's parts, in the program and in the reference; the signature with some parts: no condition. -/
import Derived.Test.YtgmnknhfeoleaaaGreatDoorZPXmssx29
import Derived.Test.YtgmnknhfeoleaaaGreatDoorZPXmssx27
import Derived.Test.YtgmnknhfeoleaaaGreatDoorZPXmssx32
import Derived.Test.YtgmnknhfeoleaaaGreatDoorZPXmssx22
import Derived.Test.YtgmnknhfeoleaaaGreatDoorZXXm1
import Derived.Test.YtgmnknhfeoleaaaGreatDoorZXmssSame
namespace Go.Proofs.YtgmnknhfeoleaaaGreatDoor.PXmss
open Go.RowKit Go.Proofs.YtgmnknhfeoleaaaGreatDoorW.PrintWords Go.Proofs.YtgmnknhfeoleaaaGreatDoorW.PrintLast Go.Proofs.YtgmnknhfeoleaaaGreatDoorW.PrintMore Go.Proofs.YtgmnknhfeoleaaaGreatDoorW.Pu
set_option linter.unusedVariables false
theorem rdX_get {l : List (List Int)} {i : Nat} (h : i < l.length) : rd_L10 l (i : Int) = l[i] := by
 unfold rd_L10
 rw [Int.toNat_natCast, List.getD_eq_getElem?_getD, List.getElem?_eq_getElem h]
 rfl
theorem len3 (a b c : Int) : 0 < (([a, b, c].length : Nat) : Int) ∧ 1 < (([a, b, c].length : Nat) : Int) ∧ 2 < (([a, b, c].length : Nat) : Int) := by simp
theorem sig_inv (l : List Int) (hb : IsBytes l) (hl : l.length < 1000000000) (a : Int) (hs : xmss_Signature.f l = some (a, none)) :
  ∃ n h w : Nat, xmss_Numbers.f a = some ((n : Int), (h : Int), (w : Int), true) ∧ pyxref22_Numbers.f a = some [(n : Int), (h : Int), (w : Int)] ∧ (1 ≤ n ∧ n ≤ 64 ∧ 10 ≤ h ∧ h ≤ 20 ∧ 67 ≤ w ∧ w ≤ 131) ∧ l.length = 4 + (1 + w + h) * n ∧ ¬ 0 < v256 (l.take 4) / 2 ^ h ∧ 20 ≤ a ∧ a ≤ 25 := by
 have hsz : bytesOk l = true ∧ l.length < 1000000000000 := ⟨bytesOk_of hb, by omega⟩
 rw [xmss_Signature.f, if_pos hsz] at hs
 by_cases hn : (l.length : Int) ≠ 2500 ∧ (l.length : Int) ≠ 2692 ∧ (l.length : Int) ≠ 2820 ∧ (l.length : Int) ≠ 9092 ∧ (l.length : Int) ≠ 9476 ∧ (l.length : Int) ≠ 9732
 ·rw [bysize_none _ hn, Option.bind_some] at hs
  simp at hs
 ·have h4 : 4 ≤ l.length := by omega
  rcases (show (l.length : Int) = 2500 ∨ (l.length : Int) = 2692 ∨ (l.length : Int) = 2820 ∨ (l.length : Int) = 9092 ∨ (l.length : Int) = 9476 ∨ (l.length : Int) = 9732 by omega) with hx | hx | hx | hx | hx | hx
  ·rw [hx, bysize_20, Option.bind_some] at hs
   dsimp only at hs
   rw [show xmss_Numbers.f 20 = some (32, 10, 67, true) from by kernel_rfl, Option.bind_some] at hs
   dsimp only at hs
   rw [if_pos ⟨h4, by decide, by decide⟩] at hs
   by_cases hd : 0 < v256 (l.take 4) / 2 ^ (10 : Int).toNat
   ·rw [if_pos hd] at hs
    simp at hs
   ·rw [if_neg hd] at hs
    simp only [Option.some.injEq, Prod.mk.injEq, and_true] at hs
    subst hs
    exact ⟨32, 10, 67, by kernel_rfl, by kernel_rfl, by decide, by omega, hd, by decide, by decide⟩
  ·rw [hx, bysize_21, Option.bind_some] at hs
   dsimp only at hs
   rw [show xmss_Numbers.f 21 = some (32, 16, 67, true) from by kernel_rfl, Option.bind_some] at hs
   dsimp only at hs
   rw [if_pos ⟨h4, by decide, by decide⟩] at hs
   by_cases hd : 0 < v256 (l.take 4) / 2 ^ (16 : Int).toNat
   ·rw [if_pos hd] at hs
    simp at hs
   ·rw [if_neg hd] at hs
    simp only [Option.some.injEq, Prod.mk.injEq, and_true] at hs
    subst hs
    exact ⟨32, 16, 67, by kernel_rfl, by kernel_rfl, by decide, by omega, hd, by decide, by decide⟩
  ·rw [hx, bysize_22, Option.bind_some] at hs
   dsimp only at hs
   rw [show xmss_Numbers.f 22 = some (32, 20, 67, true) from by kernel_rfl, Option.bind_some] at hs
   dsimp only at hs
   rw [if_pos ⟨h4, by decide, by decide⟩] at hs
   by_cases hd : 0 < v256 (l.take 4) / 2 ^ (20 : Int).toNat
   ·rw [if_pos hd] at hs
    simp at hs
   ·rw [if_neg hd] at hs
    simp only [Option.some.injEq, Prod.mk.injEq, and_true] at hs
    subst hs
    exact ⟨32, 20, 67, by kernel_rfl, by kernel_rfl, by decide, by omega, hd, by decide, by decide⟩
  ·rw [hx, bysize_23, Option.bind_some] at hs
   dsimp only at hs
   rw [show xmss_Numbers.f 23 = some (64, 10, 131, true) from by kernel_rfl, Option.bind_some] at hs
   dsimp only at hs
   rw [if_pos ⟨h4, by decide, by decide⟩] at hs
   by_cases hd : 0 < v256 (l.take 4) / 2 ^ (10 : Int).toNat
   ·rw [if_pos hd] at hs
    simp at hs
   ·rw [if_neg hd] at hs
    simp only [Option.some.injEq, Prod.mk.injEq, and_true] at hs
    subst hs
    exact ⟨64, 10, 131, by kernel_rfl, by kernel_rfl, by decide, by omega, hd, by decide, by decide⟩
  ·rw [hx, bysize_24, Option.bind_some] at hs
   dsimp only at hs
   rw [show xmss_Numbers.f 24 = some (64, 16, 131, true) from by kernel_rfl, Option.bind_some] at hs
   dsimp only at hs
   rw [if_pos ⟨h4, by decide, by decide⟩] at hs
   by_cases hd : 0 < v256 (l.take 4) / 2 ^ (16 : Int).toNat
   ·rw [if_pos hd] at hs
    simp at hs
   ·rw [if_neg hd] at hs
    simp only [Option.some.injEq, Prod.mk.injEq, and_true] at hs
    subst hs
    exact ⟨64, 16, 131, by kernel_rfl, by kernel_rfl, by decide, by omega, hd, by decide, by decide⟩
  ·rw [hx, bysize_25, Option.bind_some] at hs
   dsimp only at hs
   rw [show xmss_Numbers.f 25 = some (64, 20, 131, true) from by kernel_rfl, Option.bind_some] at hs
   dsimp only at hs
   rw [if_pos ⟨h4, by decide, by decide⟩] at hs
   by_cases hd : 0 < v256 (l.take 4) / 2 ^ (20 : Int).toNat
   ·rw [if_pos hd] at hs
    simp at hs
   ·rw [if_neg hd] at hs
    simp only [Option.some.injEq, Prod.mk.injEq, and_true] at hs
    subst hs
    exact ⟨64, 20, 131, by kernel_rfl, by kernel_rfl, by decide, by omega, hd, by decide, by decide⟩
theorem chk_cut (ys : List Int) (N i : Nat) (h : (i + 1) * N ≤ ys.length) : chkR ys N i = (ys.drop (i * N)).take N := by
 have h' : i * N + N ≤ ys.length := by rw [Nat.add_mul, Nat.one_mul] at h; exact h
 apply List.ext_getElem
 ·rw [chkR_length, List.length_take, List.length_drop]; omega
 ·intro j h1 h2
  rw [chkR_length] at h1
  simp only [chkR, List.getElem_map, List.getElem_range, List.getElem_take, List.getElem_drop]
  rw [List.getD_eq_getElem?_getD, List.getElem?_eq_getElem (by omega)]
  rfl
theorem part_cut (l : List Int) (n i : Nat) (h : 4 + (i + 1) * n ≤ l.length) : (l.take (4 + n * (i + 1))).drop (4 + n * i) = chkR (l.drop 4) n i := by
 rw [chk_cut _ _ _ (by rw [List.length_drop]; omega), List.drop_drop, List.drop_take]
 have e : 4 + n * (i + 1) - (4 + n * i) = n := by rw [Nat.mul_add, Nat.mul_one]; omega
 rw [e, Nat.mul_comm i n]
theorem flat_chk (ys : List Int) (N : Nat) : ∀ m, m * N ≤ ys.length → ((List.range m).map (chkR ys N)).flatten = ys.take (m * N) := by
 intro m
 induction m with
 | zero => intro _; simp
 | succ m ih =>
  intro h
  have h' : m * N + N ≤ ys.length := by rw [Nat.add_mul, Nat.one_mul] at h; exact h
  rw [List.range_succ, List.map_append, List.flatten_append, ih (by omega)]
  simp only [List.map_cons, List.map_nil, List.flatten_cons, List.flatten_nil, List.append_nil]
  rw [chk_cut ys N m h, Nat.add_mul, Nat.one_mul, List.take_add]
theorem rsplit_step (k : Nat) (l T : List Int) (i i' a x S : Int) (R : List Int) (O P : List (List Int)) (lo hi : Nat) (h0 : 0 < (T.length : Int)) (h1 : 1 < (T.length : Int)) (h2 : 2 < (T.length : Int)) (e1 : wrap64 (rd T 1 + rd T 2) = S) (hS : i ≤ S) (i1 : wrap64 (i + 1) = i') (a2 : wrap64 (4 + wrap64 (rd T 0 * i)) = (lo : Int)) (a4 : wrap64 (4 + wrap64 (rd T 0 * i')) = (hi : Int)) (p1 : 0 ≤ (lo : Int)) (p2 : (lo : Int) ≤ (hi : Int)) (p3 : (hi : Int) ≤ (l.length : Int)) (hO : O.length < 5864062014805) (hP : P.length < 5864062014805) :
  pyxref22_Split.l0 (k + 1) l T i a x R O P = if i ≤ rd T 2 then pyxref22_Split.l0 k l T i' a x R (O ++ [(l.take hi).drop lo]) P else pyxref22_Split.l0 k l T i' a x R O (P ++ [(l.take hi).drop lo]) := by
 rw [pyxref22_Split.l0, if_pos h1, if_pos h2, e1, if_pos hS, if_pos h0, i1, a2, a4, if_pos p1, if_pos p2, if_pos p3, Option.bind_some, if_pos hO, if_pos hP, Int.toNat_natCast, Int.toNat_natCast]
theorem rsplit_end (k : Nat) (l T : List Int) (i a x S : Int) (R : List Int) (O P : List (List Int)) (h1 : 1 < (T.length : Int)) (h2 : 2 < (T.length : Int)) (e1 : wrap64 (rd T 1 + rd T 2) = S) (hS : ¬ i ≤ S) : pyxref22_Split.l0 (k + 1) l T i a x R O P = some (a, x, R, O, P) := by
 rw [pyxref22_Split.l0, if_pos h1, if_pos h2, e1, if_neg hS]
theorem rsplit_f (k : Nat) (l T : List Int) (a c t v : Int) (m : Nat) (hs : pyxref22_Signature.f k l = some (a, c, t)) (hT : pyxref22_Numbers.f a = some T) (hx : pyxref22_index.f l = some v) (h0 : 0 < (T.length : Int)) (e : wrap64 (4 + rd T 0) = (m : Int)) (p1 : 4 ≤ (m : Int)) (p2 : (m : Int) ≤ (l.length : Int)) :
  pyxref22_Split.f k l = pyxref22_Split.l0 k l T 1 a (v % 4294967296) ((l.take m).drop 4) [] [] := by
 rw [pyxref22_Split.f, hs, Option.bind_some]
 dsimp only
 rw [hT, Option.bind_some, hx, Option.bind_some, if_pos h0, e, if_pos p1, if_pos p2, Int.toNat_natCast]
theorem wcast (X : Nat) (h : X ≤ 9728) : wrap64 (4 + wrap64 (X : Int)) = ((4 + X : Nat) : Int) := by
 rw [w64 (x := (X : Int)) (by omega) (by omega), w64 (by omega) (by omega)]; omega
theorem rsplit_body (k : Nat) (l : List Int) (n h w i : Nat) (a x : Int) (R : List Int) (O P : List (List Int)) (e1 : wrap64 ((h : Int) + (w : Int)) = ((h + w : Nat) : Int)) (hiS : (i : Int) ≤ ((h + w : Nat) : Int)) (hO5 : O.length < 5864062014805) (hP5 : P.length < 5864062014805) (hi6 : i < 4611686018427387904) (b1 : n * i ≤ 9728) (b2 : n * (i + 1) ≤ 9728) (hmul0 : n * i ≤ n * (i + 1)) (hle : 4 + (i + 1) * n ≤ l.length) :
  pyxref22_Split.l0 (k + 1) l [(n : Int), (h : Int), (w : Int)] (i : Int) a x R O P = if (i : Int) ≤ (w : Int) then pyxref22_Split.l0 k l [(n : Int), (h : Int), (w : Int)] ((i + 1 : Nat) : Int) a x R (O ++ [chkR (l.drop 4) n i]) P else pyxref22_Split.l0 k l [(n : Int), (h : Int), (w : Int)] ((i + 1 : Nat) : Int) a x R O (P ++ [chkR (l.drop 4) n i]) := by
 have hcut := part_cut l n i hle
 have a2 : wrap64 (4 + wrap64 ((n : Int) * (i : Int))) = ((4 + n * i : Nat) : Int) := by
  rw [← Int.natCast_mul]
  exact wcast _ b1
 have a4 : wrap64 (4 + wrap64 ((n : Int) * ((i + 1 : Nat) : Int))) = ((4 + n * (i + 1) : Nat) : Int) := by
  rw [← Int.natCast_mul]
  exact wcast _ b2
 have p3 : ((4 + n * (i + 1) : Nat) : Int) ≤ (l.length : Int) := Int.ofNat_le.2 (by rw [Nat.mul_comm n]; exact hle)
 have H := rsplit_step k l [(n : Int), (h : Int), (w : Int)] (i : Int) ((i + 1 : Nat) : Int) a x ((h + w : Nat) : Int) R O P (4 + n * i) (4 + n * (i + 1)) (len3 _ _ _).1 (len3 _ _ _).2.1 (len3 _ _ _).2.2 e1 hiS (wsucc hi6) a2 a4 (Int.natCast_nonneg _) (Int.ofNat_le.2 (Nat.add_le_add_left hmul0 4)) p3 hO5 hP5
 rw [hcut] at H
 exact H
theorem rsplit_l0 (l : List Int) (n h w : Nat) (hn : n ≤ 64) (hh : h ≤ 20) (hw : w ≤ 131) (hl : l.length = 4 + (1 + w + h) * n) (a x : Int) (R : List Int) : ∀ (d i : Nat) (O P : List (List Int)), w + h + 1 - i = d → 1 ≤ i → i ≤ w + h + 1 → O.length ≤ i → P.length ≤ i →
  Ev (fun k => pyxref22_Split.l0 k l [(n : Int), (h : Int), (w : Int)] (i : Int) a x R O P) (a, x, R, O ++ (List.range (w + 1 - i)).map (fun j => chkR (l.drop 4) n (i + j)), P ++ (List.range (w + h + 1 - max i (w + 1))).map (fun j => chkR (l.drop 4) n (max i (w + 1) + j))) := by
 have q0 : rd [(n : Int), (h : Int), (w : Int)] 0 = n := rfl
 have q1 : rd [(n : Int), (h : Int), (w : Int)] 1 = h := rfl
 have q2 : rd [(n : Int), (h : Int), (w : Int)] 2 = w := rfl
 have e1 : wrap64 ((h : Int) + (w : Int)) = ((h + w : Nat) : Int) := by rw [w64 (by omega) (by omega)]; omega
 intro d
 induction d with
 | zero =>
  intro i O P e h1 h2 _ _
  have z1 : w + 1 - i = 0 := by omega
  have z2 : w + h + 1 - max i (w + 1) = 0 := by omega
  rw [z1, z2, List.range_zero, List.map_nil, List.map_nil, List.append_nil, List.append_nil]
  exact Ev.last fun k => rsplit_end k l _ _ a x _ R O P (len3 _ _ _).2.1 (len3 _ _ _).2.2 e1 (by omega)
 | succ d ih =>
  intro i O P e h1 h2 hO hP
  have hmul : n * (i + 1) ≤ (1 + w + h) * n := by rw [Nat.mul_comm]; exact Nat.mul_le_mul_right n (by omega)
  have hmul0 : n * i ≤ n * (i + 1) := Nat.mul_le_mul_left n (by omega)
  have hbig : (1 + w + h) * n ≤ 152 * 64 := Nat.mul_le_mul (by omega) hn
  have B : ∀ k, pyxref22_Split.l0 (k + 1) l [(n : Int), (h : Int), (w : Int)] (i : Int) a x R O P = if (i : Int) ≤ (w : Int) then pyxref22_Split.l0 k l [(n : Int), (h : Int), (w : Int)] ((i + 1 : Nat) : Int) a x R (O ++ [chkR (l.drop 4) n i]) P else pyxref22_Split.l0 k l [(n : Int), (h : Int), (w : Int)] ((i + 1 : Nat) : Int) a x R O (P ++ [chkR (l.drop 4) n i]) := by
   have hiS : (i : Int) ≤ ((h + w : Nat) : Int) := Int.ofNat_le.2 (by omega)
   have hO5 : O.length < 5864062014805 := by omega
   have hP5 : P.length < 5864062014805 := by omega
   have hi6 : i < 4611686018427387904 := by omega
   have b1 : n * i ≤ 9728 := by omega
   have b2 : n * (i + 1) ≤ 9728 := by omega
   have hle : 4 + (i + 1) * n ≤ l.length := by
    rw [Nat.mul_comm (i + 1) n, hl]
    exact Nat.add_le_add_left hmul 4
   clear ih
   exact fun k => rsplit_body k l n h w i a x R O P e1 hiS hO5 hP5 hi6 b1 b2 hmul0 hle
  by_cases c : i ≤ w
  ·have s1 : w + 1 - i = (w + 1 - (i + 1)) + 1 := by omega
   have s2 : max i (w + 1) = w + 1 := by omega
   have s3 : max (i + 1) (w + 1) = w + 1 := by omega
   have H := ih (i + 1) (O ++ [chkR (l.drop 4) n i]) P (by omega) (by omega) (by omega) (by rw [List.length_append, List.length_singleton]; omega) (by omega)
   rw [s3] at H
   rw [s1, s2, List.range_succ_eq_map, List.map_cons, List.map_map, Nat.add_zero]
   rw [List.append_assoc] at H
   have s4 : (List.range (w + 1 - (i + 1))).map ((fun j => chkR (l.drop 4) n (i + j)) ∘ Nat.succ) = (List.range (w + 1 - (i + 1))).map (fun j => chkR (l.drop 4) n (i + 1 + j)) := List.map_congr_left fun j _ => by
    show chkR (l.drop 4) n (i + (j + 1)) = _
    congr 1
    omega
   rw [s4]
   exact Ev.step' H fun k => by rw [B, if_pos (by omega)]
  ·have s1 : w + 1 - i = 0 := by omega
   have s1' : w + 1 - (i + 1) = 0 := by omega
   have s2 : max i (w + 1) = i := by omega
   have s3 : max (i + 1) (w + 1) = i + 1 := by omega
   have s5 : w + h + 1 - i = (w + h + 1 - (i + 1)) + 1 := by omega
   have H := ih (i + 1) O (P ++ [chkR (l.drop 4) n i]) (by omega) (by omega) (by omega) (by omega) (by rw [List.length_append, List.length_singleton]; omega)
   rw [s3, s1'] at H
   rw [s1, s2, s5, List.range_succ_eq_map, List.map_cons, List.map_map, Nat.add_zero]
   rw [List.append_assoc] at H
   have s4 : (List.range (w + h + 1 - (i + 1))).map ((fun j => chkR (l.drop 4) n (i + j)) ∘ Nat.succ) = (List.range (w + h + 1 - (i + 1))).map (fun j => chkR (l.drop 4) n (i + 1 + j)) := List.map_congr_left fun j _ => by
    show chkR (l.drop 4) n (i + (j + 1)) = _
    congr 1
    omega
   rw [s4]
   exact Ev.step' H fun k => by rw [B, if_neg (by omega)]
theorem rows_cut (f : Nat → List Int) (w h : Nat) : (((List.range (1 + w + h)).map f).take (1 + w)).drop 1 = (List.range w).map (fun j => f (1 + j)) ∧ ((List.range (1 + w + h)).map f).drop (1 + w) = (List.range h).map (fun j => f (w + 1 + j)) := by
 constructor
 ·apply List.ext_getElem
  ·simp only [List.length_drop, List.length_take, List.length_map, List.length_range]; omega
  ·intro j h1 h2
   simp only [List.getElem_drop, List.getElem_take, List.getElem_map, List.getElem_range]
 ·apply List.ext_getElem
  ·simp only [List.length_drop, List.length_map, List.length_range]; omega
  ·intro j h1 h2
   simp only [List.getElem_drop, List.getElem_map, List.getElem_range]
   rw [Nat.add_comm 1 w]
theorem rows_all (f : Nat → List Int) (w h : Nat) : partsOf (f 0) ((List.range w).map (fun j => f (1 + j))) ((List.range h).map (fun j => f (w + 1 + j))) = (List.range (1 + w + h)).map f := by
 obtain ⟨e1, e2⟩ := rows_cut f w h
 rw [partsOf, ← e1, ← e2]
 have h0 : ((List.range (1 + w + h)).map f).take (1 + w) = f 0 :: (((List.range (1 + w + h)).map f).take (1 + w)).drop 1 := by
  rw [show 1 + w + h = (w + h) + 1 by omega, List.range_succ_eq_map, List.map_cons, show 1 + w = w + 1 by omega, List.take_succ_cons, List.drop_succ_cons, List.drop_zero]
 rw [← List.cons_append, ← h0, List.take_append_drop]
section
variable (l : List Int) (n h w : Nat) (a v : Int)
theorem split_ours (hb : IsBytes l) (hs : xmss_Signature.f l = some (a, none)) (e1 : xmss_Numbers.f a = some ((n : Int), (h : Int), (w : Int), true)) (hn : 1 ≤ n ∧ n ≤ 64) (hh : 10 ≤ h ∧ h ≤ 20) (hw : 67 ≤ w ∧ w ≤ 131) (hlen : l.length = 4 + (1 + w + h) * n) (hv : v256 (l.take 4) % 4294967296 = v) :
  xmss_Split.f l = some (a, v, chkR (l.drop 4) n 0, (List.range w).map (fun j => chkR (l.drop 4) n (1 + j)), (List.range h).map (fun j => chkR (l.drop 4) n (w + 1 + j)), none) := by
 obtain ⟨c1, c2⟩ := rows_cut (chkR (l.drop 4) n) w h
 have hc : true = true ∧ 1 ≤ (n : Int) ∧ (n : Int) ≤ 64 ∧ 1 ≤ (h : Int) ∧ (h : Int) ≤ 20 ∧ 1 ≤ (w : Int) ∧ (w : Int) ≤ 131 ∧ bytesOk l = true ∧ l.length = 4 + (1 + (w : Int).toNat + (h : Int).toNat) * (n : Int).toNat := ⟨rfl, by omega, by omega, by omega, by omega, by omega, by omega, bytesOk_of hb, by simp only [Int.toNat_natCast]; exact hlen⟩
 rw [xmss_Split.f, hs, Option.bind_some]
 dsimp only
 rw [if_neg (show ¬ (none : Option E).isSome = true from fun h => by cases h), e1, Option.bind_some]
 dsimp only
 rw [if_pos hc]
 simp only [Int.toNat_natCast]
 rw [c1, c2, hv]
theorem split_ref (hr : Ev (fun k => pyxref22_Signature.f k l) (a, 0, 0)) (e2 : pyxref22_Numbers.f a = some [(n : Int), (h : Int), (w : Int)]) (hx : pyxref22_index.f l = some v) (hv : v % 4294967296 = v) (hn : 1 ≤ n ∧ n ≤ 64) (hh : h ≤ 20) (hw : w ≤ 131) (hlen : l.length = 4 + (1 + w + h) * n) :
  Ev (fun k => pyxref22_Split.f k l) (a, v, chkR (l.drop 4) n 0, (List.range w).map (fun j => chkR (l.drop 4) n (1 + j)), (List.range h).map (fun j => chkR (l.drop 4) n (w + 1 + j))) := by
 have hn1 : 1 * n ≤ (1 + w + h) * n := Nat.mul_le_mul_right n (by omega)
 have H := rsplit_l0 l n h w hn.2 hh hw hlen a v (chkR (l.drop 4) n 0) (w + h + 1 - 1) 1 [] [] rfl (Nat.le_refl _) (by omega) (by simp) (by simp)
 have z1 : max 1 (w + 1) = w + 1 := by omega
 have z2 : w + h + 1 - (w + 1) = h := by omega
 have z3 : w + 1 - 1 = w := by omega
 rw [z1, z2, z3, List.nil_append, List.nil_append] at H
 obtain ⟨K, hK⟩ := hr
 obtain ⟨K2, hK2⟩ := H
 have hc0 : (l.take (4 + n)).drop 4 = chkR (l.drop 4) n 0 := by
  have := part_cut l n 0 (by rw [Nat.zero_add, Nat.one_mul]; omega)
  rw [Nat.zero_add, Nat.mul_one, Nat.mul_zero, Nat.add_zero] at this
  exact this
 have a4 : wrap64 (4 + (n : Int)) = ((4 + n : Nat) : Int) := by rw [w64 (by omega) (by omega)]; omega
 have p1 : (4 : Int) ≤ ((4 + n : Nat) : Int) := Int.ofNat_le.2 (Nat.le_add_right 4 n)
 have p2 : ((4 + n : Nat) : Int) ≤ (l.length : Int) := Int.ofNat_le.2 (by rw [hlen]; exact Nat.add_le_add_left (Nat.le_trans (Nat.le_of_eq (Nat.one_mul n).symm) hn1) 4)
 have h1 : ∀ k, K ≤ k → pyxref22_Split.f k l = pyxref22_Split.l0 k l [(n : Int), (h : Int), (w : Int)] 1 a v (chkR (l.drop 4) n 0) [] [] := fun k hk => by
  have h1 := rsplit_f k l [(n : Int), (h : Int), (w : Int)] a 0 0 v (4 + n) (hK k hk) e2 hx (len3 _ _ _).1 a4 p1 p2
  rw [hv, hc0] at h1
  exact h1
 exact ⟨max K K2, fun k hk => (h1 k (Nat.le_trans (Nat.le_max_left _ _) hk)).trans (hK2 k (Nat.le_trans (Nat.le_max_right _ _) hk))⟩
theorem split_back (hb : IsBytes l) (hx : v256 (l.take 4) = v) (hx0 : 0 ≤ v ∧ v < 4294967296) (e1 : xmss_Numbers.f a = some ((n : Int), (h : Int), (w : Int), true)) (hn : 1 ≤ n ∧ n ≤ 64) (hh : 10 ≤ h ∧ h ≤ 20) (hw : 67 ≤ w ∧ w ≤ 131) (hlen : l.length = 4 + (1 + w + h) * n) (hd : ¬ 0 < v / 2 ^ h) :
  xmss_Join.f a v (chkR (l.drop 4) n 0) ((List.range w).map (fun j => chkR (l.drop 4) n (1 + j))) ((List.range h).map (fun j => chkR (l.drop 4) n (w + 1 + j))) = some (l, true) := by
 have hbig : (1 + w + h) * n ≤ 152 * 64 := Nat.mul_le_mul (by omega) hn.2
 have hall := rows_all (chkR (l.drop 4) n) w h
 have hl4 : (l.drop 4).length = (1 + w + h) * n := by rw [List.length_drop]; omega
 have hf : ((List.range (1 + w + h)).map (chkR (l.drop 4) n)).flatten = l.drop 4 := by
  rw [flat_chk _ _ _ (by omega), List.take_of_length_le (by omega)]
 have hO : ((List.range w).map (fun j => chkR (l.drop 4) n (1 + j))).length = w := by rw [List.length_map, List.length_range]
 have hP : ((List.range h).map (fun j => chkR (l.drop 4) n (w + 1 + j))).length = h := by rw [List.length_map, List.length_range]
 have hany : ((List.range (1 + w + h)).map (chkR (l.drop 4) n)).any (fun p => (p.length : Int) != (n : Int)) = false := by
  rw [List.any_eq_false]
  intro y hy
  obtain ⟨j, _, rfl⟩ := List.mem_map.1 hy
  rw [chkR_length]
  simp
 have h4 : [v / 16777216 % 256, v / 65536 % 256, v / 256 % 256, v % 256] ++ l.drop 4 = l := by
  match l, hlen, hb, hx with
  | b0 :: b1 :: b2 :: b3 :: t, _, hb, hx =>
   have g0 := hb b0 (by simp)
   have g1 := hb b1 (by simp)
   have g2 := hb b2 (by simp)
   have g3 := hb b3 (by simp)
   have e : v256 ((b0 :: b1 :: b2 :: b3 :: t).take 4) = ((b0 * 256 + b1) * 256 + b2) * 256 + b3 := by
    show ((((0 * 256 + b0) * 256 + b1) * 256 + b2) * 256 + b3) = _
    omega
   rw [e] at hx
   rw [show v / 16777216 % 256 = b0 by omega, show v / 65536 % 256 = b1 by omega, show v / 256 % 256 = b2 by omega, show v % 256 = b3 by omega]
   rfl
  | [], hlen, _, _ => simp at hlen; omega
  | [_], hlen, _, _ => simp at hlen; omega
  | [_, _], hlen, _, _ => simp at hlen; omega
  | [_, _, _], hlen, _, _ => simp at hlen; omega
 generalize hRv : chkR (l.drop 4) n 0 = R at hall ⊢
 generalize (List.range w).map (fun j => chkR (l.drop 4) n (1 + j)) = O at hall hO ⊢
 generalize (List.range h).map (fun j => chkR (l.drop 4) n (w + 1 + j)) = P at hall hP ⊢
 rw [xmss_Join.f, hall, hf]
 have hg : 0 ≤ v ∧ v < 4294967296 ∧ O.length < 1000 ∧ P.length < 1000 ∧ (l.drop 4).length < 1000000000 := ⟨hx0.1, hx0.2, by omega, by omega, by omega⟩
 rw [if_pos hg, e1, Option.bind_some]
 dsimp only
 have c2 : 0 ≤ (h : Int) ∧ (h : Int) ≤ 31 := ⟨by omega, by omega⟩
 have c3 : (O.length : Int) = (w : Int) := by rw [hO]
 have c4 : (P.length : Int) = (h : Int) := by rw [hP]
 have c6 : ¬ ((List.range (1 + w + h)).map (chkR (l.drop 4) n)).any (fun p => (p.length : Int) != (n : Int)) = true := by rw [hany]; decide
 rw [if_pos rfl, if_pos c2, if_pos c3, if_pos c4, Int.toNat_natCast, if_neg hd, if_neg c6, h4]
end
theorem split_agree (l : List Int) (hb : IsBytes l) (hl : l.length < 1000000000) (a : Int) (hs : xmss_Signature.f l = some (a, none)) (hr : Ev (fun k => pyxref22_Signature.f k l) (a, 0, 0)) :
  ∃ (x : Int) (R : List Int) (O P : List (List Int)), xmss_Split.f l = some (a, x, R, O, P, none) ∧ Ev (fun k => pyxref22_Split.f k l) (a, x, R, O, P) ∧ xmss_Join.f a x R O P = some (l, true) ∧ R.length ≤ 64 ∧ 1 ≤ R.length ∧ (67 ≤ O.length ∧ O.length ≤ 131) ∧ (10 ≤ P.length ∧ P.length ≤ 20) ∧ (∀ y ∈ O, y.length = R.length) ∧ (∀ y ∈ P, y.length = R.length) := by
 obtain ⟨n, h, w, e1, e2, ⟨n1, n2, h1, h2, w1, w2⟩, hlen, hd, ha1, ha2⟩ := sig_inv l hb hl a hs
 have hn1 : 1 * n ≤ (1 + w + h) * n := Nat.mul_le_mul_right n (by omega)
 obtain ⟨hx, hx0, hx1⟩ := index_eq hb (show 4 ≤ l.length by omega)
 have hv : v256 (l.take 4) % 4294967296 = v256 (l.take 4) := by omega
 refine ⟨_, _, _, _, split_ours l n h w a _ hb hs e1 ⟨n1, n2⟩ ⟨h1, h2⟩ ⟨w1, w2⟩ hlen hv, split_ref l n h w a _ hr e2 hx hv ⟨n1, n2⟩ h2 w2 hlen, split_back l n h w a _ hb rfl ⟨hx0, hx1⟩ e1 ⟨n1, n2⟩ ⟨h1, h2⟩ ⟨w1, w2⟩ hlen hd, by rw [chkR_length]; exact n2, by rw [chkR_length]; exact n1, by rw [List.length_map, List.length_range]; exact ⟨w1, w2⟩, by rw [List.length_map, List.length_range]; exact ⟨h1, h2⟩, ?_, ?_⟩
 ·intro y hy
  obtain ⟨j, _, rfl⟩ := List.mem_map.1 hy
  rw [chkR_length, chkR_length]
 ·intro y hy
  obtain ⟨j, _, rfl⟩ := List.mem_map.1 hy
  rw [chkR_length, chkR_length]
end Go.Proofs.YtgmnknhfeoleaaaGreatDoor.PXmss
