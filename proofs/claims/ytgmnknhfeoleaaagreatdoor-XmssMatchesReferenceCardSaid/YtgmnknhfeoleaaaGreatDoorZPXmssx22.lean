import Derived.Test.YtgmnknhfeoleaaaGreatDoorZXmSpl
import Derived.Test.YtgmnknhfeoleaaaGreatDoorZPXmssx0
import Derived.Test.YtgmnknhfeoleaaaGreatDoorZPXmssx1
import Derived.Test.YtgmnknhfeoleaaaGreatDoorZPXmssx15
import Derived.Test.YtgmnknhfeoleaaaGreatDoorZPXmssx17
import Derived.Test.YtgmnknhfeoleaaaGreatDoorZPXmssx21
namespace Go.Proofs.YtgmnknhfeoleaaaGreatDoor.PXmss
open Go.RowKit Go.Proofs.YtgmnknhfeoleaaaGreatDoorW.PrintWords Go.Proofs.YtgmnknhfeoleaaaGreatDoorW.PrintLast Go.Proofs.YtgmnknhfeoleaaaGreatDoorW.PrintMore
set_option linter.unusedVariables false
set_option linter.unusedSimpArgs false
theorem RD.lt {w0 W : World} {g : Nat} {l : List Int} {p : Nat} (h : RD w0 W g l p) : g < W.heap.size := by
  obtain ⟨_, _, h1, _⟩ := h
  exact blk_lt h1
theorem RD.ge {w0 W : World} {g : Nat} {l : List Int} {p : Nat} (h : RD w0 W g l p) : w0.heap.size ≤ g := by
  obtain ⟨_, _, _, _, _, _, h5, _⟩ := h
  exact h5
theorem rest_row {w0 w : World} {g : Nat} {l : List Int} (h : RD w0 w g l 4) {L : Nat} (hL : l.length = 4 + L) (h1 : 1 ≤ L) :
    Calls Tryz.prog 43 #[.pointer (some ⟨g, 0, none⟩)] w fun e w' => ∃ b cc, e = .returned (.slice (some ⟨b, 0, none⟩) L cc) ∧ L ≤ cc ∧ Kd.R (Kd.int .u8) 5 w' w.heap.size (fun _ => True) (.slice (some ⟨b, 0, none⟩) L cc) (l.drop 4) ∧ RD w0 w' g l (4 + L) ∧ KeepBut w w' g none := by
  refine (rest_ok h).mono ?_
  rintro e w' ⟨v, rfl, hR, hd, hk⟩
  have hl : (l.drop 4).length = (L - 1) + 1 := by simp; omega
  obtain ⟨inner, ho⟩ := Kd.R_own hR
  rw [hl] at ho
  obtain ⟨b, cc, rfl⟩ : ∃ b cc, v = .slice (some ⟨b, 0, none⟩) ((L - 1) + 1) cc := by
    rcases ho.2 with ⟨_, h0⟩ | ⟨b, cap, _, rfl, _⟩
    · omega
    · exact ⟨b, cap, rfl⟩
  have e1 : L - 1 + 1 = L := by omega
  rw [e1] at hR ⊢
  have hc := (Kd.R_reads' hR).2.1
  exact ⟨b, cc, rfl, hc, hR, by rw [← hL]; exact hd, hk⟩
theorem clone_row (W : World) (b o N : Nat) (hN : N < 140737488355328) (zs : List Int) (h : Kd.C (Kd.int .u8) W (some ⟨b, o, none⟩) N zs) :
    Calls Tryz.prog 44 #[.slice (some ⟨b, o, none⟩) N N] W fun e w' => ∃ A0 c0, e = .returned (.slice A0 N c0) ∧ Kd.R (Kd.int .u8) 5 w' W.heap.size (fun _ => True) (.slice A0 N c0) zs ∧ Below W.heap.size W w' := by
  have hz : zs.length = N := h.1
  subst hz
  refine (slices_Clone.calls (some ⟨b, o, none⟩) zs.length zs zs W h (Nat.le_refl _) (by rw [slices_Clone.f, if_pos hN])).mono ?_
  rintro e w' ⟨v, rfl, hR, hb⟩
  obtain ⟨A0, c0, rfl⟩ := Kd.R_slice hR
  exact ⟨A0, c0, rfl, hR, hb⟩
theorem xmss_Split.ok (A0 : Option Addr) (c0 : Nat) (l0 : List Int) (w : World) (alg : Int) (N h wn : Nat) (hr0 : Kd.C (Kd.int .u8) w A0 l0.length l0) (hc0 : l0.length ≤ c0)
    (hs : xmss_Signature.f l0 = some (alg, none)) (hn : xmss_Numbers.f alg = some ((N : Int), (h : Int), (wn : Int), true)) (hN : 1 ≤ N) (hwn : 1 ≤ wn) (hh : 1 ≤ h) (hb : bytesOk l0 = true) (hm : 1 + wn + h ≤ 1000000) (hmN : (1 + wn + h) * N ≤ 1000000) (hN6 : N ≤ 1000000) (hl : l0.length = 4 + (1 + wn + h) * N) (hG : GOK w) :
    Calls Tryz.prog 21 #[.slice A0 l0.length c0] w fun e w' => ∃ A1 c1 gl cl, e = .returned (.tuple #[.agg #[.int .i64 alg, .int .u32 (v256 (l0.take 4) % 4294967296), .slice A1 N c1, .slice (some ⟨gl, 1, none⟩) wn (cl - 1), .slice (some ⟨gl, 1 + wn, none⟩) h (cl - (1 + wn))], .nilIface]) ∧ 1 + wn + h ≤ cl ∧ N ≤ c1 ∧ Kd.C (Kd.int .u8) w' A1 N (chkR (l0.drop 4) N 0) ∧ Kd.C (Kd.slice 5 (Kd.int .u8)) w' (some ⟨gl, 0, none⟩) (1 + wn + h) ((List.range (1 + wn + h)).map (chkR (l0.drop 4) N)) ∧ Below w.heap.size w w' ∧ Kd.R (Kd.slice 5 (Kd.int .u8)) 25 w' w.heap.size (fun _ => True) (.slice (some ⟨gl, 0, none⟩) (1 + wn + h) cl) ((List.range (1 + wn + h)).map (chkR (l0.drop 4) N)) ∧ w'.cell? ⟨gl, 0, none⟩ = some (.slice A1 N c1) := by
  have h1 : 1 ≤ (1 + wn + h) * N := Nat.mul_pos (by omega) hN
  have hlt : l0.length < 1000000000000 := by omega
  have hlx : (((l0.drop 4).length : Nat) : Int) = (((1 + wn + h) * N : Nat) : Int) := by
    have e : (l0.drop 4).length = (1 + wn + h) * N := by rw [List.length_drop, hl, Nat.add_sub_cancel_left]
    rw [e]
  exact split_g (fun w0 W g p => RD w0 W g l0 p) (fun hd => ⟨hd.all, hd.lt⟩) (fun hd hb => hd.below hb) A0 c0 l0.length w alg (v256 (l0.take 4)) N h wn (1 + wn + h) ((1 + wn + h) * N) (l0.drop 4) hN hwn hh rfl hmN hm hN6 rfl hlx
    (fun W hW => (xmss_Signature.calls A0 c0 l0 alg none W (Kd.C_below hr0 hW) hc0 hs (hG.below hW)).mono (by rintro e w' ⟨rfl, hb⟩; exact ⟨rfl, hb⟩))
    (fun W => xmss_Numbers.calls alg _ _ _ _ W hn)
    (fun W hW => (wire_New.calls A0 c0 l0 W W (Below.refl _ _) (Kd.C_below hr0 hW) hc0 hlt).mono (by rintro e w' ⟨g, rfl, hd, _⟩; exact ⟨g, rfl, hd, hd.ge⟩))
    (fun w0 W g hd => (word4 hd (bytesOk_all hb) (by omega) rfl).mono (by rintro e w' ⟨rfl, hd, _⟩; exact ⟨rfl, hd⟩))
    (fun w0 W g hd => rest_row hd hl h1)
    (fun W b o zs hz => clone_row W b o N (by omega) zs hz)
end Go.Proofs.YtgmnknhfeoleaaaGreatDoor.PXmss
