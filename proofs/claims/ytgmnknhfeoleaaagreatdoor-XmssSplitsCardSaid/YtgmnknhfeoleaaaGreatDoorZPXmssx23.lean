import Derived.Test.YtgmnknhfeoleaaaGreatDoorZXmssSpread
import Derived.Test.YtgmnknhfeoleaaaGreatDoorZPXmssx19
import Derived.Test.YtgmnknhfeoleaaaGreatDoorZPXmssx17
import Derived.Test.YtgmnknhfeoleaaaGreatDoorZPXmssx0
import Derived.Test.YtgmnknhfeoleaaaGreatDoorZPXmssx1
import Derived.Test.YtgmnknhfeoleaaaGreatDoorZPXmssx21
import Derived.Test.YtgmnknhfeoleaaaGreatDoorZPXmssx22
namespace Go.Proofs.YtgmnknhfeoleaaaGreatDoor.PXmss
open Go.RowKit Go.Proofs.YtgmnknhfeoleaaaGreatDoorW.PrintWords Go.Proofs.YtgmnknhfeoleaaaGreatDoorW.PrintLast Go.Proofs.YtgmnknhfeoleaaaGreatDoorW.PrintMore Go.Proofs.YtgmnknhfeoleaaaGreatDoorW.Pu
theorem mk23_type : (params_ByType.f 4).map (fun b => (b.1, b.2.2.2.1, b.2.2.2.2.2.2.2.2.2.2)) = some (23, 132, true) := by kernel_rfl
theorem mk23_ex : ∃ k l, pyxref22_MakeKey.f k 23 1 = some l ∧ xmss_Key.f l = some (23, none) := by
 obtain ⟨r, ⟨k, hk⟩, r2, r3⟩ := spread_ev 1 128 (by decide)
 refine ⟨k, [0, 0, 0, 4] ++ r, ?_, ?_⟩
 ·rw [pyxref22_MakeKey.f, Option.bind_some, show pyxref22_Numbers.f 23 = some [64, 10, 131] from by kernel_rfl, Option.bind_some, if_pos (by decide)]
  have hk' : pyxref15_Spread.f k 1 ((128 : Nat) : Int) = some r := hk k (Nat.le_refl _)
  have e1 : wrap64 (2 * rd [64, 10, 131] 0) = ((128 : Nat) : Int) := by kernel_rfl
  have e2 : wrap64 (23 - 19) % 256 = 4 := by kernel_rfl
  rw [e1, e2, hk', Option.bind_some, if_pos (by rw [r3]; decide)]
 ·have hb : bytesOk ([0, 0, 0, 4] ++ r) = true := by
   rw [bytesOk, List.all_eq_true]
   intro x hx
   have : 0 ≤ x ∧ x < 256 := by
    rcases List.mem_append.1 hx with hx | hx
    ·simp only [List.mem_cons, List.not_mem_nil, or_false] at hx
     rcases hx with rfl | rfl | rfl | rfl <;> omega
    ·exact r2 x hx
   simpa using this
  have hl : ([0, 0, 0, 4] ++ r).length = 132 := by rw [List.length_append, r3]; rfl
  have hv : v256 (([0, 0, 0, 4] ++ r).take 4) % 4294967296 = 4 := by
   rw [List.take_append_of_le_length (by decide)]
   decide
  obtain ⟨b, hb1, hb2⟩ := Option.map_eq_some_iff.1 mk23_type
  simp only [Prod.mk.injEq] at hb2
  obtain ⟨h1, h2, h3⟩ := hb2
  rw [xmss_Key.f, if_pos ⟨hb, by rw [hl]; decide⟩, if_neg (by rw [hl]; decide), hv, hb1, Option.bind_some, h3, if_pos rfl, hl, h2, if_pos (show ((132 : Nat) : Int) = 132 from rfl), h1]
end Go.Proofs.YtgmnknhfeoleaaaGreatDoor.PXmss

namespace Go.Proofs.YtgmnknhfeoleaaaGreatDoor.PXmss
open Go.RowKit Go.Proofs.YtgmnknhfeoleaaaGreatDoorW.PrintWords Go.Proofs.YtgmnknhfeoleaaaGreatDoorW.PrintLast Go.Proofs.YtgmnknhfeoleaaaGreatDoorW.PrintMore
set_option linter.unusedVariables false
set_option linter.unusedSimpArgs false
def pyxlaw22_awake.f : Option Bool := some true
def zr : List Int := List.replicate 2500 0
theorem zr_len : zr.length = 2500 := by rw [zr, List.length_replicate]
theorem zr_sig : xmss_Signature.f zr = some (20, none) := by kernel_rfl
theorem zr_ok : bytesOk zr = true := by kernel_rfl
theorem num20 : xmss_Numbers.f 20 = some (32, 10, 67, true) := by kernel_rfl
theorem sig_zr (A : Option Addr) (c : Nat) (w : World) (hr : Kd.C (Kd.int .u8) w A zr.length zr) (hc : zr.length ≤ c) (hG : GOK w) :
  Calls Tryz.prog 12 #[.slice A zr.length c] w fun e w' => e = .returned (.tuple #[.int .i64 20, .nilIface]) ∧ Below w.heap.size w w' :=
 (xmss_Signature.calls A c zr 20 none w hr hc zr_sig hG).mono (by rintro e w' ⟨rfl, hb⟩; exact ⟨rfl, hb⟩)
theorem split_zr (A : Option Addr) (c : Nat) (w : World) (hr : Kd.C (Kd.int .u8) w A zr.length zr) (hc : zr.length ≤ c) (hG : GOK w) :
  Calls Tryz.prog 21 #[.slice A zr.length c] w fun e w' => ∃ idx A1 c1 gl c2 c3, e = .returned (.tuple #[.agg #[.int .i64 20, .int .u32 idx, .slice A1 32 c1, .slice (some ⟨gl, 1, none⟩) 67 c2, .slice (some ⟨gl, 68, none⟩) 10 c3], .nilIface]) ∧ Below w.heap.size w w' :=
 (xmss_Split.ok A c zr w 20 32 10 67 hr hc zr_sig num20 (by decide) (by decide) (by decide) zr_ok (by decide) (by decide) (by decide) (by rw [zr_len]) hG).mono (by
  rintro e w' ⟨A1, c1, gl, cl, rfl, _, _, _, _, hb, _, _⟩
  exact ⟨_, A1, c1, gl, _, _, rfl, hb⟩)
theorem key_mk (A : Option Addr) (c : Nat) (l : List Int) (hk : xmss_Key.f l = some (23, none)) (w : World) (hr : Kd.C (Kd.int .u8) w A l.length l) (hc : l.length ≤ c) (hG : GOK w) :
  Calls Tryz.prog 14 #[.slice A l.length c] w fun e w' => e = .returned (.tuple #[.int .i64 23, .nilIface]) ∧ Below w.heap.size w w' :=
 (xmss_Key.calls A c l 23 none w hr hc hk hG).mono (by rintro e w' ⟨rfl, hb⟩; exact ⟨rfl, hb⟩)
theorem key_nil (w : World) (hG : GOK w) (bad : Option E) (hbad : bad = some (.fault 3 0)) :
  Calls Tryz.prog 14 #[.slice none 0 0] w fun e w' => e = .returned (.tuple #[.int .i64 0, errW bad]) ∧ Below w.heap.size w w' :=
 xmss_Key.calls none 0 [] 0 bad w ⟨rfl, by decide, fun h => absurd h (Nat.not_lt_zero _)⟩ (Nat.le_refl _) (by rw [hbad]; kernel_rfl) hG
theorem told_nil : pyxlaw22_told.f (some (.fault 3 0)) 3 0 = some true := by kernel_rfl
set_option maxRecDepth 100000 in
set_option maxHeartbeats 8000000 in
theorem pyxlaw22_awake.calls (r : Bool) (w : World) (h : pyxlaw22_awake.f = some r) (hG : GOK w) :
  Calls Tryz.prog 8 #[] w fun e w' => e = .returned (.bool r) ∧ Below w.heap.size w w' := by
 obtain rfl := Option.some.inj h
 clear h
 obtain ⟨bad, hbad⟩ : ∃ bad : Option E, bad = some (.fault 3 0) := ⟨_, rfl⟩
 have htold : pyxlaw22_told.f bad 3 0 = some true := by rw [hbad]; exact told_nil
 have HT := Aside0.mk htold
 obtain ⟨kf, mk23, hmk1, hmk2⟩ := mk23_ex
 have HM1 := Aside0.mk hmk1
 have HM2 := Aside0.mk hmk2
 clear hmk1 hmk2
 have HBAD := Aside0.mk hbad
 have HG := Aside0.mk hG
 have HB := Aside0.mk (Below.refl w.heap.size w)
 clear hG htold hbad
 go_enter Tryz.func8, Tryz.ntmps8
 go_wp2_with (first
  | (go_at_call 17; ((with_reducible refine (xmss_Numbers.calls 20 32 10 67 true _ num20).mono ?_); rintro e w1 ⟨rfl, ⟨m, rfl⟩⟩; have HB1 := Aside0.mk (pw_below_drewN HB.out m)))
  | ((with_reducible refine gate_dst (N := 20) rfl ?_); refine Kd.R_make (Kd.int .u8) _ 5 rfl (N := 20) rfl 25 _ _ rfl 2500 rfl rfl Tryz.underlying25 (.int .u8 0) 1 info5 rfl (by decide) (by omega) 0 (ok := fun _ => True) (okp := fun _ => True) rfl (fun _ hk => hk) trivial (by decide) (by decide) (Below.refl _ _) (Nat.le_refl _) ?_; intro v2 w2 ho2 hb hg_ hnew_; clear hg_ hnew_; have HO2 := Aside0.mk (show Kd.R (Kd.int .u8) 5 w2 _ (fun _ => True) v2 zr from ho2); have HB2 := Aside0.mk (below_step HB1.out hb); clear ho2 hb; obtain ⟨A2, c2, e2⟩ := Kd.R_slice HO2.out; subst e2)
  | (go_at_call 12; ((with_reducible refine (sig_zr A2 c2 _ (Kd.R_reads' HO2.out).2.2 (Kd.R_reads' HO2.out).2.1 (HG.out.below HB2.out)).mono ?_); rintro e w3 ⟨rfl, hb⟩; have HB3 := Aside0.mk (below_step HB2.out hb); clear hb))
  | (go_at_call 11; ((with_reducible refine (pyxref22_MakeKey.calls kf 23 1 mk23 _ HM1.out).mono ?_); rintro e w4 ⟨v4, rfl, ho4, hb⟩; have HO4 := Aside0.mk ho4; have HB4 := Aside0.mk (below_step HB3.out hb); clear ho4 hb; obtain ⟨A4, c4, e4⟩ := Kd.R_slice HO4.out; subst e4))
  | (go_at_call_of 14 mk23; ((with_reducible refine (key_mk A4 c4 mk23 HM2.out _ (Kd.R_reads' HO4.out).2.2 (Kd.R_reads' HO4.out).2.1 (HG.out.below HB4.out)).mono ?_); rintro e w5 ⟨rfl, hb⟩; have HB5 := Aside0.mk (below_step HB4.out hb); clear hb))
  | (go_at_call 14; ((with_reducible refine (key_nil _ (HG.out.below HB5.out) bad HBAD.out).mono ?_); rintro e w6 ⟨rfl, hb⟩; have HB6 := Aside0.mk (below_step HB5.out hb); clear hb))
  | ((with_reducible refine gate_dst (N := 34) rfl ?_); refine Kd.R_make (Kd.int .u8) _ 5 rfl (N := 34) rfl 25 _ _ rfl 2500 rfl rfl Tryz.underlying25 (.int .u8 0) 1 info5 rfl (by decide) (by omega) 0 (ok := fun _ => True) (okp := fun _ => True) rfl (fun _ hk => hk) trivial (by decide) (by decide) (Below.refl _ _) (Nat.le_refl _) ?_; intro v7 w7 ho7 hb hg_ hnew_; clear hg_ hnew_; have HO7 := Aside0.mk (show Kd.R (Kd.int .u8) 5 w7 _ (fun _ => True) v7 zr from ho7); have HB7 := Aside0.mk (below_step HB6.out hb); clear ho7 hb; obtain ⟨A7, c7, e7⟩ := Kd.R_slice HO7.out; subst e7)
  | (go_at_call 21; ((with_reducible refine (split_zr A7 c7 _ (Kd.R_reads' HO7.out).2.2 (Kd.R_reads' HO7.out).2.1 (HG.out.below HB7.out)).mono ?_); rintro e w8 ⟨idx, A8, c8, gl, c81, c82, rfl, hb⟩; have HB8 := Aside0.mk (below_step HB7.out hb); clear hb))
  | (go_at_call 16; ((with_reducible refine (pyxlaw22_told.calls bad 3 0 true _ HT.out (GOK.below HG.out (by repeat (first | exact HB8.out | apply below_alloc | apply below_set)))).mono ?_); rintro e w9 ⟨rfl, hb⟩; have hbx := blk_below (blk_new w8 _) hb; have hx3 := (blk_cell hbx 3).trans rfl; have hx4 := (blk_cell hbx 4).trans rfl; clear hbx; have HB9 := Aside0.mk (below_step (below_alloc HB8.out _) hb); clear hb)))
 go_ret
 exact ⟨rfl, HB9.out⟩
end Go.Proofs.YtgmnknhfeoleaaaGreatDoor.PXmss
