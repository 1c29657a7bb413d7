import Derived.Test.YtgmnknhfeoleaaaGreatDoorZXmSpl
import Derived.Test.YtgmnknhfeoleaaaGreatDoorZPXmssx0
import Derived.Test.YtgmnknhfeoleaaaGreatDoorZPXmssx1
import Derived.Test.YtgmnknhfeoleaaaGreatDoorZPXmssx15
import Derived.Test.YtgmnknhfeoleaaaGreatDoorZPXmssx17
import Derived.Test.YtgmnknhfeoleaaaGreatDoorZPXmssx21
namespace Go.Proofs.YtgmnknhfeoleaaaGreatDoor.PXmss
open Go.RowKit Go.Proofs.YtgmnknhfeoleaaaGreatDoorW.PrintWords Go.Proofs.YtgmnknhfeoleaaaGreatDoorW.PrintLast Go.Proofs.YtgmnknhfeoleaaaGreatDoorW.PrintMore
set_option linter.unusedVariables false
set_option linter.unusedSimpArgs false
theorem RD.lt {w0 W : World} {g : Nat} {l : List Int} {p : Nat} (h : RD w0 W g l p) : g < W.heap.size := by
 obtain ⟨_, _, h1, _⟩ := h
 exact blk_lt h1
theorem RD.ge {w0 W : World} {g : Nat} {l : List Int} {p : Nat} (h : RD w0 W g l p) : w0.heap.size ≤ g := by
 obtain ⟨_, _, _, _, _, _, h5, _⟩ := h
 exact h5
theorem rest_row {w0 w : World} {g : Nat} {l : List Int} (h : RD w0 w g l 4) {L : Nat} (hL : l.length = 4 + L) (h1 : 1 ≤ L) :
  Calls Tryz.prog 43 #[.pointer (some ⟨g, 0, none⟩)] w fun e w' => ∃ b cc, e = .returned (.slice (some ⟨b, 0, none⟩) L cc) ∧ L ≤ cc ∧ Kd.R (Kd.int .u8) 5 w' w.heap.size (fun _ => True) (.slice (some ⟨b, 0, none⟩) L cc) (l.drop 4) ∧ RD w0 w' g l (4 + L) ∧ KeepBut w w' g none := by
 refine (rest_ok h).mono ?_
 rintro e w' ⟨v, rfl, hR, hd, hk⟩
 have hl : (l.drop 4).length = (L - 1) + 1 := by simp; omega
 obtain ⟨inner, ho⟩ := Kd.R_own hR
 rw [hl] at ho
 obtain ⟨b, cc, rfl⟩ : ∃ b cc, v = .slice (some ⟨b, 0, none⟩) ((L - 1) + 1) cc := by
  rcases ho.2 with ⟨_, h0⟩ | ⟨b, cap, _, rfl, _⟩
  ·omega
  ·exact ⟨b, cap, rfl⟩
 have e1 : L - 1 + 1 = L := by omega
 rw [e1] at hR ⊢
 have hc := (Kd.R_reads' hR).2.1
 exact ⟨b, cc, rfl, hc, hR, by rw [← hL]; exact hd, hk⟩
theorem clone_row (W : World) (b o N : Nat) (hN : N < 140737488355328) (zs : List Int) (h : Kd.C (Kd.int .u8) W (some ⟨b, o, none⟩) N zs) :
  Calls Tryz.prog 44 #[.slice (some ⟨b, o, none⟩) N N] W fun e w' => ∃ A0 c0, e = .returned (.slice A0 N c0) ∧ Kd.R (Kd.int .u8) 5 w' W.heap.size (fun _ => True) (.slice A0 N c0) zs ∧ Below W.heap.size W w' := by
 have hz : zs.length = N := h.1
 subst hz
 refine (slices_Clone.calls (some ⟨b, o, none⟩) zs.length zs zs W h (Nat.le_refl _) (by rw [slices_Clone.f, if_pos hN])).mono ?_
 rintro e w' ⟨v, rfl, hR, hb⟩
 obtain ⟨A0, c0, rfl⟩ := Kd.R_slice hR
 exact ⟨A0, c0, rfl, hR, hb⟩
theorem xmss_Split.ok (A0 : Option Addr) (c0 : Nat) (l0 : List Int) (w : World) (alg : Int) (N h wn : Nat) (hr0 : Kd.C (Kd.int .u8) w A0 l0.length l0) (hc0 : l0.length ≤ c0)
  (hs : xmss_Signature.f l0 = some (alg, none)) (hn : xmss_Numbers.f alg = some ((N : Int), (h : Int), (wn : Int), true)) (hN : 1 ≤ N) (hwn : 1 ≤ wn) (hh : 1 ≤ h) (hb : bytesOk l0 = true) (hm : 1 + wn + h ≤ 1000000) (hmN : (1 + wn + h) * N ≤ 1000000) (hN6 : N ≤ 1000000) (hl : l0.length = 4 + (1 + wn + h) * N) (hG : GOK w) :
  Calls Tryz.prog 21 #[.slice A0 l0.length c0] w fun e w' => ∃ A1 c1 gl cl, e = .returned (.tuple #[.agg #[.int .i64 alg, .int .u32 (v256 (l0.take 4) % 4294967296), .slice A1 N c1, .slice (some ⟨gl, 1, none⟩) wn (cl - 1), .slice (some ⟨gl, 1 + wn, none⟩) h (cl - (1 + wn))], .nilIface]) ∧ 1 + wn + h ≤ cl ∧ N ≤ c1 ∧ Kd.C (Kd.int .u8) w' A1 N (chkR (l0.drop 4) N 0) ∧ Kd.C (Kd.slice 5 (Kd.int .u8)) w' (some ⟨gl, 0, none⟩) (1 + wn + h) ((List.range (1 + wn + h)).map (chkR (l0.drop 4) N)) ∧ Below w.heap.size w w' ∧ Kd.R (Kd.slice 5 (Kd.int .u8)) 25 w' w.heap.size (fun _ => True) (.slice (some ⟨gl, 0, none⟩) (1 + wn + h) cl) ((List.range (1 + wn + h)).map (chkR (l0.drop 4) N)) ∧ w'.cell? ⟨gl, 0, none⟩ = some (.slice A1 N c1) := by
 have h1 : 1 ≤ (1 + wn + h) * N := Nat.mul_pos (by omega) hN
 have hlt : l0.length < 1000000000000 := by omega
 have hlx : (((l0.drop 4).length : Nat) : Int) = (((1 + wn + h) * N : Nat) : Int) := by
  have e : (l0.drop 4).length = (1 + wn + h) * N := by rw [List.length_drop, hl, Nat.add_sub_cancel_left]
  rw [e]
 exact split_g (fun w0 W g p => RD w0 W g l0 p) (fun hd => ⟨hd.all, hd.lt⟩) (fun hd hb => hd.below hb) A0 c0 l0.length w alg (v256 (l0.take 4)) N h wn (1 + wn + h) ((1 + wn + h) * N) (l0.drop 4) hN hwn hh rfl hmN hm hN6 rfl hlx
  (fun W hW => (xmss_Signature.calls A0 c0 l0 alg none W (Kd.C_below hr0 hW) hc0 hs (hG.below hW)).mono (by rintro e w' ⟨rfl, hb⟩; exact ⟨rfl, hb⟩))
  (fun W => xmss_Numbers.calls alg _ _ _ _ W hn)
  (fun W hW => (wire_New.calls A0 c0 l0 W W (Below.refl _ _) (Kd.C_below hr0 hW) hc0 hlt).mono (by rintro e w' ⟨g, rfl, hd, _⟩; exact ⟨g, rfl, hd, hd.ge⟩))
  (fun w0 W g hd => (word4 hd (bytesOk_all hb) (by omega) rfl).mono (by rintro e w' ⟨rfl, hd, _⟩; exact ⟨rfl, hd⟩))
  (fun w0 W g hd => rest_row hd hl h1)
  (fun W b o zs hz => clone_row W b o N (by omega) zs hz)
theorem split_views {W : World} {base gl m cl N c1 wn h : Nat} {A1 : Option Addr} {xs : List (List Int)} (hR : Kd.R (Kd.slice 5 (Kd.int .u8)) 25 W base (fun _ => True) (.slice (some ⟨gl, 0, none⟩) m cl) xs) (hm : m = 1 + wn + h) (hwn : 1 ≤ wn) (hh : 1 ≤ h)
  (hN : (xs.getD 0 []).length = N) (hcl : m ≤ cl) (hcell : W.cell? ⟨gl, 0, none⟩ = some (.slice A1 N c1)) :
  Kd.V (Kd.int .u8) 5 W base (fun k => True ∧ base ≤ k ∧ True) (.slice A1 N c1) (xs.getD 0 []) ∧
  Kd.V (Kd.slice 5 (Kd.int .u8)) 25 W base (fun k => True ∧ base ≤ k ∧ True) (.slice (some ⟨gl, 1, none⟩) wn (cl - 1)) ((xs.take (1 + wn)).drop 1) ∧
  Kd.V (Kd.slice 5 (Kd.int .u8)) 25 W base (fun k => True ∧ base ≤ k ∧ True) (.slice (some ⟨gl, 1 + wn, none⟩) h (cl - (1 + wn))) (xs.drop (1 + wn)) := by
 have hpl : ∀ j, (⟨gl, 0, none⟩ : Addr).add j = ⟨gl, j, none⟩ := fun j => by unfold Addr.add; split <;> simp_all
 have hV := Kd.V_mono (Kd.R_V (base' := base) (Kd.R_bound hR)) (ok' := fun k => True ∧ base ≤ k ∧ True) (fun k hk => ⟨trivial, hk.2.1, trivial⟩)
 obtain ⟨hl, _, hF⟩ := Kd.V_at hV
 refine ⟨?_, ?_, ?_⟩
 ·obtain ⟨ad, c, ea, _, hK, hc, _⟩ := Kd.F_get hF ([] : List Int) 0 (by omega) (by omega)
  cases ea
  obtain ⟨A', c', rfl, hle, hF'⟩ := Kd.FK_slice_open hK
  have h0 := hc 0 _ rfl
  have e0 : (⟨gl, 0, none⟩ : Addr).add ((0 : Int).toNat * (Kd.slice 5 (Kd.int .u8)).sz + 0) = ⟨gl, 0, none⟩ := by rw [hpl]; rfl
  rw [e0, hcell] at h0
  have e1 : xs.getD (0 : Int).toNat [] = xs.getD 0 [] := rfl
  rw [e1] at h0 hF' hle
  injection h0 with h0
  obtain ⟨rfl, hb, rfl⟩ : A1 = A' ∧ N = (xs.getD 0 []).length ∧ c1 = c' := by
   injection h0 with ha hb hc
   exact ⟨ha, hb, hc⟩
  rw [hb]
  exact Kd.V_mk hle hF'
 ·have h2 : ((xs.take (1 + wn)).drop 1).length = wn := by rw [List.length_drop, List.length_take]; omega
  have h3 := Kd.F_imp (d' := Kd.slice 5 (Kd.int .u8)) (A' := some ⟨gl, 1, none⟩) (n' := ((xs.take (1 + wn)).drop 1).length) (xs' := (xs.take (1 + wn)).drop 1) hF (fun W' hC => by
   have h4 := Kd.C_mid (lo := 1) (hi := 1 + wn) (c := cl) hC (by omega) (by omega) (by omega)
   rw [if_neg (show ¬ cl = 1 by omega), Option.map_some, hpl] at h4
   exact h4)
  have h5 := Kd.V_mk (c := cl - 1) (e := 25) (base := base) (by omega) h3
  rw [h2] at h5
  exact h5
 ·have h2 : (xs.drop (1 + wn)).length = h := by rw [List.length_drop]; omega
  have h3 := Kd.F_imp (d' := Kd.slice 5 (Kd.int .u8)) (A' := some ⟨gl, 1 + wn, none⟩) (n' := (xs.drop (1 + wn)).length) (xs' := xs.drop (1 + wn)) hF (fun W' hC => by
   have h4 := Kd.C_drop (m := 1 + wn) (c := cl) hC (by omega) (by omega)
   rw [if_neg (show ¬ cl = 1 + wn by omega), Option.map_some, hpl, show (1 + wn) * (Kd.slice 5 (Kd.int .u8)).sz = 1 + wn from Nat.mul_one _] at h4
   exact h4)
  have h5 := Kd.V_mk (c := cl - (1 + wn)) (e := 25) (base := base) (by omega) h3
  rw [h2] at h5
  exact h5
set_option maxRecDepth 100000 in
set_option maxHeartbeats 4000000 in
theorem xmss_Split.err (A0 : Option Addr) (c0 : Nat) (l0 : List Int) (w : World) (a : Int) (x : E) (hr0 : Kd.C (Kd.int .u8) w A0 l0.length l0) (hc0 : l0.length ≤ c0)
  (hs : xmss_Signature.f l0 = some (a, some x)) (hG : GOK w) :
  Calls Tryz.prog 21 #[.slice A0 l0.length c0] w fun e w' => e = .returned (.tuple #[.agg #[.int .i64 0, .int .u32 0, .slice none 0 0, .slice none 0 0, .slice none 0 0], errW (some x)]) ∧ Below w.heap.size w w' := by
 have HR0 := Aside0.mk hr0
 have HC0 := Aside0.mk hc0
 have HS := Aside0.mk hs
 have HG := Aside0.mk hG
 clear hr0 hc0 hs hG
 refine (callsIn_wide (n := 5)).1 ?_
 refine callsIn_of_wp_marks Tryz.func21 rfl trivial ?_ rfl
 rw [wpIn_wide]
 simp only [Tryz.ntmps21, List.size_toArray, List.length_cons, List.length_nil, Nat.reduceAdd, Nat.reduceSub, Array.replicate_succ, Array.replicate_zero, List.push_toArray, List.append_toArray, List.nil_append, List.cons_append]
 have bR := blk_new w (.cells #[.int .i64 0, .int .u32 0, .slice none 0 0, .slice none 0 0, .slice none 0 0] 54)
 have BR := Aside0.mk bR
 clear bR
 go_wp2_with (go_at_call 12; ((with_reducible refine (xmss_Signature.calls A0 c0 l0 a (some x) _ (Kd.C_below HR0.out (below_alloc (Below.refl _ _) _)) HC0.out HS.out (HG.out.below (below_alloc (Below.refl _ _) _))).mono ?_); rintro e w1 ⟨rfl, hb⟩; have HB := Aside0.mk (below_step (below_alloc (Below.refl w.heap.size w) _) hb); have b1 := blk_below BR.out hb; have B1 := Aside0.mk b1; have d0 := (blk_cell b1 0).trans rfl; have d1 := (blk_cell b1 1).trans rfl; have d2 := (blk_cell b1 2).trans rfl; have d3 := (blk_cell b1 3).trans rfl; have d4 := (blk_cell b1 4).trans rfl; have f0 := fun j => blk_frozen b1 j; clear hb b1; simp only [errW_some]))
 obtain ⟨s1, s2, s3, s4⟩ := set5 w1 w.heap.size 54 (.int .i64 0) (.int .u32 0) (.slice none 0 0) (.slice none 0 0) (.slice none 0 0) (Value.int IntKind.i64 0) (Value.int IntKind.u32 0) (Value.slice none 0 0) (Value.slice none 0 0) (Value.slice none 0 0) B1.out
 revert s1 s2 s3 s4
 generalize (((((w1.setCell { block := w.heap.size, off := 0 } (Value.int IntKind.i64 0)).setCell { block := w.heap.size, off := 1 } (Value.int IntKind.u32 0)).setCell { block := w.heap.size, off := 2 } (Value.slice none 0 0)).setCell { block := w.heap.size, off := 3 } (Value.slice none 0 0)).setCell { block := w.heap.size, off := 4 } (Value.slice none 0 0)) = W5
 intro s1 s2 s3 s4
 have g0 := (blk_cell s1 0).trans rfl
 have g1 := (blk_cell s1 1).trans rfl
 have g2 := (blk_cell s1 2).trans rfl
 have g3 := (blk_cell s1 3).trans rfl
 have g4 := (blk_cell s1 4).trans rfl
 have hB5 : Below w.heap.size w W5 := HB.out.trans s4
 refine ⟨.tuple #[.agg #[.int .i64 0, .int .u32 0, .slice none 0 0, .slice none 0 0, .slice none 0 0], .iface x.ty x.val], ?_, rfl, hB5⟩
 simp [results, Tryz.results21, go_sem, g0, g1, g2, g3, g4]
def xmss_Split.f (l0 : List Int) : Option (Int × Int × List Int × (List (List Int)) × (List (List Int)) × Option E) :=
 (xmss_Signature.f l0).bind fun s =>
  if s.2.isSome = true then some (0, 0, [], [], [], s.2) else
   (xmss_Numbers.f s.1).bind fun q =>
    if q.2.2.2 = true ∧ 1 ≤ q.1 ∧ q.1 ≤ 64 ∧ 1 ≤ q.2.1 ∧ q.2.1 ≤ 20 ∧ 1 ≤ q.2.2.1 ∧ q.2.2.1 ≤ 131 ∧ bytesOk l0 = true ∧ l0.length = 4 + (1 + q.2.2.1.toNat + q.2.1.toNat) * q.1.toNat then
     some (s.1, v256 (l0.take 4) % 4294967296, chkR (l0.drop 4) q.1.toNat 0, (((List.range (1 + q.2.2.1.toNat + q.2.1.toNat)).map (chkR (l0.drop 4) q.1.toNat)).take (1 + q.2.2.1.toNat)).drop 1, ((List.range (1 + q.2.2.1.toNat + q.2.1.toNat)).map (chkR (l0.drop 4) q.1.toNat)).drop (1 + q.2.2.1.toNat), none)
    else none
theorem xmss_Split.calls (A0 : Option Addr) (c0 : Nat) (l0 : List Int) (r1 r2 : Int) (r3 : List Int) (r4 r5 : List (List Int)) (r6 : Option E) (w : World) (hr0 : Kd.C (Kd.int .u8) w A0 l0.length l0) (hc0 : l0.length ≤ c0) (h : xmss_Split.f l0 = some (r1, r2, r3, r4, r5, r6)) (hG : GOK w) :
  Calls Tryz.prog 21 #[.slice A0 l0.length c0] w fun e w' => ∃ v2_ v3_ v4_ : Value, e = .returned (.tuple #[.agg #[.int .i64 r1, .int .u32 r2, v2_, v3_, v4_], errW r6]) ∧ Kd.V (Kd.int .u8) 5 w' w.heap.size (fun k => True ∧ w.heap.size ≤ k ∧ True) v2_ r3 ∧ Kd.V (Kd.slice 5 (Kd.int .u8)) 25 w' w.heap.size (fun k => True ∧ w.heap.size ≤ k ∧ True) v3_ r4 ∧ Kd.V (Kd.slice 5 (Kd.int .u8)) 25 w' w.heap.size (fun k => True ∧ w.heap.size ≤ k ∧ True) v4_ r5 ∧ Below w.heap.size w w' := by
 rw [xmss_Split.f] at h
 replace h := Option.bind_eq_some_iff.mp h
 obtain ⟨⟨a, e⟩, hs, h⟩ := h
 dsimp only at h
 cases e with
 | some x =>
  rw [if_pos (show (some x).isSome = true from rfl)] at h
  simp only [Option.some.injEq, Prod.mk.injEq] at h
  obtain ⟨rfl, rfl, rfl, rfl, rfl, rfl⟩ := h
  refine (xmss_Split.err A0 c0 l0 w a x hr0 hc0 hs hG).mono ?_
  rintro e w' ⟨rfl, hb⟩
  exact ⟨_, _, _, rfl, Kd.V_nil _ _ _ _ _, Kd.V_nil _ _ _ _ _, Kd.V_nil _ _ _ _ _, hb⟩
 | none =>
  rw [if_neg (show ¬ (none : Option E).isSome = true from fun h => by cases h)] at h
  replace h := Option.bind_eq_some_iff.mp h
  obtain ⟨⟨q1, q2, q3, q4⟩, hn, h⟩ := h
  dsimp only at h
  by_cases hc : q4 = true ∧ 1 ≤ q1 ∧ q1 ≤ 64 ∧ 1 ≤ q2 ∧ q2 ≤ 20 ∧ 1 ≤ q3 ∧ q3 ≤ 131 ∧ bytesOk l0 = true ∧ l0.length = 4 + (1 + q3.toNat + q2.toNat) * q1.toNat
  ·rw [if_pos hc] at h
   obtain ⟨rfl, n1, n2, h1, h2, w1, w2, hb, hl⟩ := hc
   obtain ⟨N, rfl⟩ := Int.eq_ofNat_of_zero_le (show 0 ≤ q1 by omega)
   obtain ⟨hh, rfl⟩ := Int.eq_ofNat_of_zero_le (show 0 ≤ q2 by omega)
   obtain ⟨wn, rfl⟩ := Int.eq_ofNat_of_zero_le (show 0 ≤ q3 by omega)
   simp only [Int.toNat_natCast] at h hl
   simp only [Option.some.injEq, Prod.mk.injEq] at h
   obtain ⟨rfl, rfl, rfl, rfl, rfl, rfl⟩ := h
   have hmN : (1 + wn + hh) * N ≤ 152 * 64 := Nat.mul_le_mul (by omega) (by omega)
   refine (xmss_Split.ok A0 c0 l0 w a N hh wn hr0 hc0 hs hn (by omega) (by omega) (by omega) hb (by omega) (by omega) (by omega) hl hG).mono ?_
   rintro e w' ⟨A1, c1, gl, cl, rfl, hcl, hN1, _, _, hbw, hR, hcell⟩
   have hm0 : 0 < 1 + wn + hh := by omega
   have e0 : (((List.range (1 + wn + hh)).map (chkR (l0.drop 4) N)).getD 0 []) = chkR (l0.drop 4) N 0 := by
    simp [List.getD_eq_getElem?_getD, hm0]
   obtain ⟨v1, v2, v3⟩ := split_views hR rfl (by omega) (by omega) (by rw [e0]; exact chkR_length _ _ _) hcl hcell
   rw [e0] at v1
   exact ⟨_, _, _, rfl, v1, v2, v3, hbw⟩
  ·rw [if_neg hc] at h
   cases h
end Go.Proofs.YtgmnknhfeoleaaaGreatDoor.PXmss
