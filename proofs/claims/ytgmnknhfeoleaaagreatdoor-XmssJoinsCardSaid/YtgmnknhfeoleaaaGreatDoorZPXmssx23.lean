import Derived.Test.YtgmnknhfeoleaaaGreatDoorZXmSpl
import Derived.Test.YtgmnknhfeoleaaaGreatDoorZPXmssx0
import Derived.Test.YtgmnknhfeoleaaaGreatDoorZPXmssx1
import Derived.Test.YtgmnknhfeoleaaaGreatDoorZPXmssx15
import Derived.Test.YtgmnknhfeoleaaaGreatDoorZXmssMk
import Derived.Test.YtgmnknhfeoleaaaGreatDoorZPXmssx21
import Derived.Test.YtgmnknhfeoleaaaGreatDoorZPXmssx19
namespace Go.Proofs.YtgmnknhfeoleaaaGreatDoor.PXmss
open Go.RowKit Go.Proofs.YtgmnknhfeoleaaaGreatDoorW.PrintWords Go.Proofs.YtgmnknhfeoleaaaGreatDoorW.PrintLast Go.Proofs.YtgmnknhfeoleaaaGreatDoorW.PrintMore
set_option linter.unusedVariables false
set_option linter.unusedSimpArgs false
theorem RD.lt {w0 W : World} {g : Nat} {l : List Int} {p : Nat} (h : RD w0 W g l p) : g < W.heap.size := by
 obtain ⟨_, _, h1, _⟩ := h
 exact blk_lt h1
theorem RD.ge {w0 W : World} {g : Nat} {l : List Int} {p : Nat} (h : RD w0 W g l p) : w0.heap.size ≤ g := by
 obtain ⟨_, _, _, _, _, _, h5, _⟩ := h
 exact h5
theorem rest_row {w0 w : World} {g : Nat} {l : List Int} (h : RD w0 w g l 4) {L : Nat} (hL : l.length = 4 + L) (h1 : 1 ≤ L) :
  Calls Tryz.prog 43 #[.pointer (some ⟨g, 0, none⟩)] w fun e w' => ∃ b cc, e = .returned (.slice (some ⟨b, 0, none⟩) L cc) ∧ L ≤ cc ∧ Kd.R (Kd.int .u8) 5 w' w.heap.size (fun _ => True) (.slice (some ⟨b, 0, none⟩) L cc) (l.drop 4) ∧ RD w0 w' g l (4 + L) ∧ KeepBut w w' g none := by
 refine (rest_ok h).mono ?_
 rintro e w' ⟨v, rfl, hR, hd, hk⟩
 have hl : (l.drop 4).length = (L - 1) + 1 := by simp; omega
 obtain ⟨inner, ho⟩ := Kd.R_own hR
 rw [hl] at ho
 obtain ⟨b, cc, rfl⟩ : ∃ b cc, v = .slice (some ⟨b, 0, none⟩) ((L - 1) + 1) cc := by
  rcases ho.2 with ⟨_, h0⟩ | ⟨b, cap, _, rfl, _⟩
  ·omega
  ·exact ⟨b, cap, rfl⟩
 have e1 : L - 1 + 1 = L := by omega
 rw [e1] at hR ⊢
 have hc := (Kd.R_reads' hR).2.1
 exact ⟨b, cc, rfl, hc, hR, by rw [← hL]; exact hd, hk⟩
theorem clone_row (W : World) (b o N : Nat) (hN : N < 140737488355328) (zs : List Int) (h : Kd.C (Kd.int .u8) W (some ⟨b, o, none⟩) N zs) :
  Calls Tryz.prog 44 #[.slice (some ⟨b, o, none⟩) N N] W fun e w' => ∃ A0 c0, e = .returned (.slice A0 N c0) ∧ Kd.R (Kd.int .u8) 5 w' W.heap.size (fun _ => True) (.slice A0 N c0) zs ∧ Below W.heap.size W w' := by
 have hz : zs.length = N := h.1
 subst hz
 refine (slices_Clone.calls (some ⟨b, o, none⟩) zs.length zs zs W h (Nat.le_refl _) (by rw [slices_Clone.f, if_pos hN])).mono ?_
 rintro e w' ⟨v, rfl, hR, hb⟩
 obtain ⟨A0, c0, rfl⟩ := Kd.R_slice hR
 exact ⟨A0, c0, rfl, hR, hb⟩
theorem xmss_Split.ok (A0 : Option Addr) (c0 : Nat) (l0 : List Int) (w : World) (alg : Int) (N h wn : Nat) (hr0 : Kd.C (Kd.int .u8) w A0 l0.length l0) (hc0 : l0.length ≤ c0)
  (hs : xmss_Signature.f l0 = some (alg, none)) (hn : xmss_Numbers.f alg = some ((N : Int), (h : Int), (wn : Int), true)) (hN : 1 ≤ N) (hwn : 1 ≤ wn) (hh : 1 ≤ h) (hb : bytesOk l0 = true) (hm : 1 + wn + h ≤ 1000000) (hmN : (1 + wn + h) * N ≤ 1000000) (hN6 : N ≤ 1000000) (hl : l0.length = 4 + (1 + wn + h) * N) (hG : GOK w) :
  Calls Tryz.prog 21 #[.slice A0 l0.length c0] w fun e w' => ∃ A1 c1 gl cl, e = .returned (.tuple #[.agg #[.int .i64 alg, .int .u32 (v256 (l0.take 4) % 4294967296), .slice A1 N c1, .slice (some ⟨gl, 1, none⟩) wn (cl - 1), .slice (some ⟨gl, 1 + wn, none⟩) h (cl - (1 + wn))], .nilIface]) ∧ 1 + wn + h ≤ cl ∧ N ≤ c1 ∧ Kd.C (Kd.int .u8) w' A1 N (chkR (l0.drop 4) N 0) ∧ Kd.C (Kd.slice 5 (Kd.int .u8)) w' (some ⟨gl, 0, none⟩) (1 + wn + h) ((List.range (1 + wn + h)).map (chkR (l0.drop 4) N)) ∧ Below w.heap.size w w' ∧ Kd.R (Kd.slice 5 (Kd.int .u8)) 25 w' w.heap.size (fun _ => True) (.slice (some ⟨gl, 0, none⟩) (1 + wn + h) cl) ((List.range (1 + wn + h)).map (chkR (l0.drop 4) N)) ∧ w'.cell? ⟨gl, 0, none⟩ = some (.slice A1 N c1) := by
 have h1 : 1 ≤ (1 + wn + h) * N := Nat.mul_pos (by omega) hN
 have hlt : l0.length < 1000000000000 := by omega
 have hlx : (((l0.drop 4).length : Nat) : Int) = (((1 + wn + h) * N : Nat) : Int) := by
  have e : (l0.drop 4).length = (1 + wn + h) * N := by rw [List.length_drop, hl, Nat.add_sub_cancel_left]
  rw [e]
 exact split_g (fun w0 W g p => RD w0 W g l0 p) (fun hd => ⟨hd.all, hd.lt⟩) (fun hd hb => hd.below hb) A0 c0 l0.length w alg (v256 (l0.take 4)) N h wn (1 + wn + h) ((1 + wn + h) * N) (l0.drop 4) hN hwn hh rfl hmN hm hN6 rfl hlx
  (fun W hW => (xmss_Signature.calls A0 c0 l0 alg none W (Kd.C_below hr0 hW) hc0 hs (hG.below hW)).mono (by rintro e w' ⟨rfl, hb⟩; exact ⟨rfl, hb⟩))
  (fun W => xmss_Numbers.calls alg _ _ _ _ W hn)
  (fun W hW => (wire_New.calls A0 c0 l0 W W (Below.refl _ _) (Kd.C_below hr0 hW) hc0 hlt).mono (by rintro e w' ⟨g, rfl, hd, _⟩; exact ⟨g, rfl, hd, hd.ge⟩))
  (fun w0 W g hd => (word4 hd (bytesOk_all hb) (by omega) rfl).mono (by rintro e w' ⟨rfl, hd, _⟩; exact ⟨rfl, hd⟩))
  (fun w0 W g hd => rest_row hd hl h1)
  (fun W b o zs hz => clone_row W b o N (by omega) zs hz)
def xmss_Split.f (l0 : List Int) : Option (Int × Int × List Int × (List (List Int)) × (List (List Int)) × Option E) :=
 (xmss_Signature.f l0).bind fun s =>
  if s.2.isSome = true then some (0, 0, [], [], [], s.2) else
   (xmss_Numbers.f s.1).bind fun q =>
    if q.2.2.2 = true ∧ 1 ≤ q.1 ∧ q.1 ≤ 64 ∧ 1 ≤ q.2.1 ∧ q.2.1 ≤ 20 ∧ 1 ≤ q.2.2.1 ∧ q.2.2.1 ≤ 131 ∧ bytesOk l0 = true ∧ l0.length = 4 + (1 + q.2.2.1.toNat + q.2.1.toNat) * q.1.toNat then
     some (s.1, v256 (l0.take 4) % 4294967296, chkR (l0.drop 4) q.1.toNat 0, (((List.range (1 + q.2.2.1.toNat + q.2.1.toNat)).map (chkR (l0.drop 4) q.1.toNat)).take (1 + q.2.2.1.toNat)).drop 1, ((List.range (1 + q.2.2.1.toNat + q.2.1.toNat)).map (chkR (l0.drop 4) q.1.toNat)).drop (1 + q.2.2.1.toNat), none)
    else none
end Go.Proofs.YtgmnknhfeoleaaaGreatDoor.PXmss

namespace Go.Proofs.YtgmnknhfeoleaaaGreatDoor.PXmss
open Go.RowKit Go.Proofs.YtgmnknhfeoleaaaGreatDoorW.PrintWords Go.Proofs.YtgmnknhfeoleaaaGreatDoorW.PrintLast Go.Proofs.YtgmnknhfeoleaaaGreatDoorW.PrintMore
set_option linter.unusedVariables false
set_option linter.unusedSimpArgs false
def pyxlaw22_awake.f : Option Bool := some true
def zr : List Int := List.replicate 2500 0
theorem zr_len : zr.length = 2500 := by rw [zr, List.length_replicate]
theorem zr_sig : xmss_Signature.f zr = some (20, none) := by kernel_rfl
theorem zr_ok : bytesOk zr = true := by kernel_rfl
theorem num20 : xmss_Numbers.f 20 = some (32, 10, 67, true) := by kernel_rfl
theorem sig_zr (A : Option Addr) (c : Nat) (w : World) (hr : Kd.C (Kd.int .u8) w A zr.length zr) (hc : zr.length ≤ c) (hG : GOK w) :
  Calls Tryz.prog 12 #[.slice A zr.length c] w fun e w' => e = .returned (.tuple #[.int .i64 20, .nilIface]) ∧ Below w.heap.size w w' :=
 (xmss_Signature.calls A c zr 20 none w hr hc zr_sig hG).mono (by rintro e w' ⟨rfl, hb⟩; exact ⟨rfl, hb⟩)
theorem split_zr (A : Option Addr) (c : Nat) (w : World) (hr : Kd.C (Kd.int .u8) w A zr.length zr) (hc : zr.length ≤ c) (hG : GOK w) :
  Calls Tryz.prog 21 #[.slice A zr.length c] w fun e w' => ∃ idx A1 c1 gl c2 c3, e = .returned (.tuple #[.agg #[.int .i64 20, .int .u32 idx, .slice A1 32 c1, .slice (some ⟨gl, 1, none⟩) 67 c2, .slice (some ⟨gl, 68, none⟩) 10 c3], .nilIface]) ∧ Below w.heap.size w w' :=
 (xmss_Split.ok A c zr w 20 32 10 67 hr hc zr_sig num20 (by decide) (by decide) (by decide) zr_ok (by decide) (by decide) (by decide) (by rw [zr_len]) hG).mono (by
  rintro e w' ⟨A1, c1, gl, cl, rfl, _, _, _, _, hb, _, _⟩
  exact ⟨_, A1, c1, gl, _, _, rfl, hb⟩)
theorem key_mk (A : Option Addr) (c : Nat) (l : List Int) (hk : xmss_Key.f l = some (23, none)) (w : World) (hr : Kd.C (Kd.int .u8) w A l.length l) (hc : l.length ≤ c) (hG : GOK w) :
  Calls Tryz.prog 14 #[.slice A l.length c] w fun e w' => e = .returned (.tuple #[.int .i64 23, .nilIface]) ∧ Below w.heap.size w w' :=
 (xmss_Key.calls A c l 23 none w hr hc hk hG).mono (by rintro e w' ⟨rfl, hb⟩; exact ⟨rfl, hb⟩)
theorem key_nil (w : World) (hG : GOK w) (bad : Option E) (hbad : bad = some (.fault 3 0)) :
  Calls Tryz.prog 14 #[.slice none 0 0] w fun e w' => e = .returned (.tuple #[.int .i64 0, errW bad]) ∧ Below w.heap.size w w' :=
 xmss_Key.calls none 0 [] 0 bad w ⟨rfl, by decide, fun h => absurd h (Nat.not_lt_zero _)⟩ (Nat.le_refl _) (by rw [hbad]; kernel_rfl) hG
theorem told_nil : pyxlaw22_told.f (some (.fault 3 0)) 3 0 = some true := by kernel_rfl
set_option maxRecDepth 100000 in
set_option maxHeartbeats 8000000 in
theorem pyxlaw22_awake.calls (r : Bool) (w : World) (h : pyxlaw22_awake.f = some r) (hG : GOK w) :
  Calls Tryz.prog 8 #[] w fun e w' => e = .returned (.bool r) ∧ Below w.heap.size w w' := by
 obtain rfl := Option.some.inj h
 clear h
 obtain ⟨bad, hbad⟩ : ∃ bad : Option E, bad = some (.fault 3 0) := ⟨_, rfl⟩
 have htold : pyxlaw22_told.f bad 3 0 = some true := by rw [hbad]; exact told_nil
 have HT := Aside0.mk htold
 obtain ⟨kf, mk23, hmk1, hmk2⟩ := mk23_ex
 have HM1 := Aside0.mk hmk1
 have HM2 := Aside0.mk hmk2
 clear hmk1 hmk2
 have HBAD := Aside0.mk hbad
 have HG := Aside0.mk hG
 have HB := Aside0.mk (Below.refl w.heap.size w)
 clear hG htold hbad
 go_enter Tryz.func8, Tryz.ntmps8
 go_wp2_with (first
  | (go_at_call 17; ((with_reducible refine (xmss_Numbers.calls 20 32 10 67 true _ num20).mono ?_); rintro e w1 ⟨rfl, ⟨m, rfl⟩⟩; have HB1 := Aside0.mk (pw_below_drewN HB.out m)))
  | ((with_reducible refine gate_dst (N := 20) rfl ?_); refine Kd.R_make (Kd.int .u8) _ 5 rfl (N := 20) rfl 25 _ _ rfl 2500 rfl rfl Tryz.underlying25 (.int .u8 0) 1 info5 rfl (by decide) (by omega) 0 (ok := fun _ => True) (okp := fun _ => True) rfl (fun _ hk => hk) trivial (by decide) (by decide) (Below.refl _ _) (Nat.le_refl _) ?_; intro v2 w2 ho2 hb hg_ hnew_; clear hg_ hnew_; have HO2 := Aside0.mk (show Kd.R (Kd.int .u8) 5 w2 _ (fun _ => True) v2 zr from ho2); have HB2 := Aside0.mk (below_step HB1.out hb); clear ho2 hb; obtain ⟨A2, c2, e2⟩ := Kd.R_slice HO2.out; subst e2)
  | (go_at_call 12; ((with_reducible refine (sig_zr A2 c2 _ (Kd.R_reads' HO2.out).2.2 (Kd.R_reads' HO2.out).2.1 (HG.out.below HB2.out)).mono ?_); rintro e w3 ⟨rfl, hb⟩; have HB3 := Aside0.mk (below_step HB2.out hb); clear hb))
  | (go_at_call 11; ((with_reducible refine (pyxref22_MakeKey.calls kf 23 1 mk23 _ HM1.out).mono ?_); rintro e w4 ⟨v4, rfl, ho4, hb⟩; have HO4 := Aside0.mk ho4; have HB4 := Aside0.mk (below_step HB3.out hb); clear ho4 hb; obtain ⟨A4, c4, e4⟩ := Kd.R_slice HO4.out; subst e4))
  | (go_at_call_of 14 mk23; ((with_reducible refine (key_mk A4 c4 mk23 HM2.out _ (Kd.R_reads' HO4.out).2.2 (Kd.R_reads' HO4.out).2.1 (HG.out.below HB4.out)).mono ?_); rintro e w5 ⟨rfl, hb⟩; have HB5 := Aside0.mk (below_step HB4.out hb); clear hb))
  | (go_at_call 14; ((with_reducible refine (key_nil _ (HG.out.below HB5.out) bad HBAD.out).mono ?_); rintro e w6 ⟨rfl, hb⟩; have HB6 := Aside0.mk (below_step HB5.out hb); clear hb))
  | ((with_reducible refine gate_dst (N := 34) rfl ?_); refine Kd.R_make (Kd.int .u8) _ 5 rfl (N := 34) rfl 25 _ _ rfl 2500 rfl rfl Tryz.underlying25 (.int .u8 0) 1 info5 rfl (by decide) (by omega) 0 (ok := fun _ => True) (okp := fun _ => True) rfl (fun _ hk => hk) trivial (by decide) (by decide) (Below.refl _ _) (Nat.le_refl _) ?_; intro v7 w7 ho7 hb hg_ hnew_; clear hg_ hnew_; have HO7 := Aside0.mk (show Kd.R (Kd.int .u8) 5 w7 _ (fun _ => True) v7 zr from ho7); have HB7 := Aside0.mk (below_step HB6.out hb); clear ho7 hb; obtain ⟨A7, c7, e7⟩ := Kd.R_slice HO7.out; subst e7)
  | (go_at_call 21; ((with_reducible refine (split_zr A7 c7 _ (Kd.R_reads' HO7.out).2.2 (Kd.R_reads' HO7.out).2.1 (HG.out.below HB7.out)).mono ?_); rintro e w8 ⟨idx, A8, c8, gl, c81, c82, rfl, hb⟩; have HB8 := Aside0.mk (below_step HB7.out hb); clear hb))
  | (go_at_call 16; ((with_reducible refine (pyxlaw22_told.calls bad 3 0 true _ HT.out (GOK.below HG.out (by repeat (first | exact HB8.out | apply below_alloc | apply below_set)))).mono ?_); rintro e w9 ⟨rfl, hb⟩; have hbx := blk_below (blk_new w8 _) hb; have hx3 := (blk_cell hbx 3).trans rfl; have hx4 := (blk_cell hbx 4).trans rfl; clear hbx; have HB9 := Aside0.mk (below_step (below_alloc HB8.out _) hb); clear hb)))
 go_ret
 exact ⟨rfl, HB9.out⟩
end Go.Proofs.YtgmnknhfeoleaaaGreatDoor.PXmss
