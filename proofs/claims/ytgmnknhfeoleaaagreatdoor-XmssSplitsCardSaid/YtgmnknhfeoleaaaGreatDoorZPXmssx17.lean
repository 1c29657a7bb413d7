import Derived.Test.YtgmnknhfeoleaaaGreatDoorZPXmssx0
import Derived.Test.YtgmnknhfeoleaaaGreatDoorZPXmssx1
import Derived.Test.YtgmnknhfeoleaaaGreatDoorZPXmssx14
import Derived.Test.YtgmnknhfeoleaaaGreatDoorZPXmssx15
import Derived.Test.YtgmnknhfeoleaaaGreatDoorZPXmssx16
namespace Go.Proofs.YtgmnknhfeoleaaaGreatDoor.PXmss
open Go.RowKit Go.Proofs.YtgmnknhfeoleaaaGreatDoorW.PrintWords Go.Proofs.YtgmnknhfeoleaaaGreatDoorW.PrintLast Go.Proofs.YtgmnknhfeoleaaaGreatDoorW.PrintMore
set_option linter.unusedVariables false
set_option linter.unusedSimpArgs false
def bytesOk (l : List Int) : Bool := l.all fun x => decide (0 ≤ x) && decide (x < 256)
theorem bytesOk_all {l : List Int} (h : bytesOk l = true) : ∀ x ∈ l, 0 ≤ x ∧ x < 256 := by
 intro x hx
 have := List.all_eq_true.1 h x hx
 simpa using this
theorem head_cell {W : World} {v : Value} {e base : Nat} {ok : Nat → Prop} {x : Int} {t : List Int} (hR : Kd.R (Kd.int .i64) e W base ok v (x :: t)) : ∃ ad c, v = .slice (some ad) (t.length + 1) c ∧ W.cell? ad = some (.int .i64 x) := by
 obtain ⟨A, c, rfl, _, hC⟩ := Kd.R_reads hR
 obtain ⟨ad, rfl, hx⟩ := Kd.at_int hC 0 (by omega) (by simp)
 refine ⟨ad, c, rfl, ?_⟩
 have e : ad.add (0 : Int).toNat = ad := by simp [Addr.add]
 rw [e] at hx
 simpa [rd] using hx
theorem word4 {w0 w : World} {g : Nat} {l : List Int} (h : RD w0 w g l 0) (hby : ∀ x ∈ l, 0 ≤ x ∧ x < 256) (hn : 4 ≤ l.length) {v : Int} (hv : v256 (l.take 4) = v) :
  Calls Tryz.prog 29 #[.pointer (some ⟨g, 0, none⟩), .int .i64 4] w fun e w' => e = .returned (.tuple #[.int .u64 v, .bool true]) ∧ RD w0 w' g l 4 ∧ KeepBut w w' g none := by
 have h1 := word_ok h hby 4 (by decide) rfl (by omega)
 rw [List.drop_zero, hv] at h1
 exact h1
theorem kept_cell {w1 w3 w4 : World} {m g : Nat} {l : List Int} {ad : Addr} {v : Value} (hx : w1.cell? ad = some v) (hd : RD (w1.drewN m) w3 g l 0) (hb : Below (w1.drewN m).heap.size (w1.drewN m) w3) (hk : KeepBut w3 w4 g none) : w4.cell? ad = some v := by
 have h1 : ad.block < (w1.drewN m).heap.size := World.block_lt_of_cell? w1 _ hx
 obtain ⟨_, _, _, _, _, _, h5, _⟩ := hd
 have h2 : ad.block < w3.heap.size := Nat.lt_of_lt_of_le h1 hb.size
 have h3 : w4.cell? ad = w3.cell? ad := World.cell?_of_block (w := w3) (hk.2 ad.block h2 (by omega) (by simp))
 rw [h3, hb.cell h1]
 exact hx
def xmss_Signature.f (l0 : List Int) : Option (Int × Option E) :=
 if bytesOk l0 = true ∧ l0.length < 1000000000000 then
  (params_BySize.f 5 (l0.length : Int)).bind fun t =>
   match t with
   | [] => some (0, some (.fault 6 0))
   | a :: _ => (xmss_Numbers.f a).bind fun q => if 4 ≤ l0.length ∧ 0 ≤ q.2.1 ∧ q.2.1 ≤ 63 then (if 0 < v256 (l0.take 4) / 2 ^ q.2.1.toNat then some (0, some (.fault 9 0)) else some (a, none)) else none
 else none
set_option maxRecDepth 100000 in
set_option maxHeartbeats 4000000 in
theorem xmss_Signature.calls (A0 : Option Addr) (c0 : Nat) (l0 : List Int) (r1 : Int) (r2 : Option E) (w : World) (hr0 : Kd.C (Kd.int .u8) w A0 l0.length l0) (hc0 : l0.length ≤ c0) (h : xmss_Signature.f l0 = some (r1, r2)) (hG : GOK w) :
  Calls Tryz.prog 12 #[.slice A0 l0.length c0] w fun e w' => e = .returned (.tuple #[.int .i64 r1, errW r2]) ∧ Below w.heap.size w w' := by
 rw [xmss_Signature.f] at h
 by_cases ch : bytesOk l0 = true ∧ l0.length < 1000000000000
 ·rw [if_pos ch] at h
  obtain ⟨hby, hlt⟩ := ch
  replace h := Option.bind_eq_some_iff.mp h
  obtain ⟨t, ht, h⟩ := h
  have HBY := Aside0.mk (bytesOk_all hby)
  have HLT := Aside0.mk hlt
  have HR0 := Aside0.mk hr0
  have HC0 := Aside0.mk hc0
  have HG := Aside0.mk hG
  clear hby hlt hr0 hG hc0
  cases t with
  | nil =>
   simp only [Option.some.injEq, Prod.mk.injEq] at h
   obtain ⟨rfl, rfl⟩ := h
   go_enter Tryz.func12, Tryz.ntmps12
   go_wp2_with (first
    | (go_at_call 20; ((with_reducible refine (params_BySize.calls 5 (l0.length : Int) _ w ht HG.out).mono ?_); rintro e w1 ⟨v, rfl, hR, hb⟩; obtain ⟨A, c, rfl⟩ := Kd.R_slice hR; have HB := Aside0.mk hb; clear hb hR))
    | (go_at_call 27; ((with_reducible refine (fault_New.calls 6 0 _ _ rfl).mono ?_); rintro e w2 ⟨rfl, hb⟩; have HB2 := Aside0.mk hb; clear hb)))
   go_ret2
   exact ⟨rfl, below_step HB.out HB2.out⟩
  | cons a t =>
   replace h := Option.bind_eq_some_iff.mp h
   obtain ⟨⟨q1, q2, q3, q4⟩, hq, h⟩ := h
   dsimp only at h
   by_cases cc : 4 ≤ l0.length ∧ 0 ≤ q2 ∧ q2 ≤ 63
   ·rw [if_pos cc] at h
    obtain ⟨c4, c0', c63⟩ := cc
    generalize hv : v256 (l0.take 4) = v at h
    have HV := Aside0.mk hv
    have hmin : min q2.toNat 64 = q2.toNat := by omega
    have hmin2 : min q2.toNat IntKind.u64.bits = q2.toNat := hmin
    have hq0 : decide (0 ≤ q2) = true := decide_eq_true c0'
    have hq1 : (0 ≤ q2) = True := eq_true c0'
    have H4 := Aside0.mk c4
    have H63 := Aside0.mk c63
    clear c4 c63 c0' hv
    generalize hd : v / 2 ^ q2.toNat = d at h
    have hd2 : v / 2 ^ min q2.toNat 64 = d := by rw [hmin]; exact hd
    have HE := Aside0.mk hmin
    clear hmin hmin2 hd
    by_cases cd : 0 < d
    ·rw [if_pos cd] at h
     have cdb : decide (0 < d) = true := decide_eq_true cd
     simp only [Option.some.injEq, Prod.mk.injEq] at h
     obtain ⟨rfl, rfl⟩ := h
     clear cd
     go_enter Tryz.func12, Tryz.ntmps12
     go_wp2_with (first
      | (go_at_call 20; ((with_reducible refine (params_BySize.calls 5 (l0.length : Int) (a :: t) w ht HG.out).mono ?_); rintro e w1 ⟨vv, rfl, hR, hb⟩; obtain ⟨ad, c, rfl, hx⟩ := head_cell hR; have HB := Aside0.mk hb; clear hb hR))
      | (go_at_call 17; ((with_reducible refine (xmss_Numbers.calls a q1 q2 q3 q4 _ hq).mono ?_); rintro e w2 ⟨rfl, ⟨m, rfl⟩⟩))
      | (go_at_call 28; ((with_reducible refine (wire_New.calls A0 c0 l0 (w1.drewN m) _ (Below.refl _ _) (Kd.C_below HR0.out (pw_below_drewN HB.out _)) HC0.out HLT.out).mono ?_); rintro e w3 ⟨g, rfl, hd3, hb3⟩; have HD3 := Aside0.mk hd3; have HB3 := Aside0.mk hb3; clear hd3 hb3))
      | (go_at_call 29; ((with_reducible refine (word4 HD3.out HBY.out H4.out HV.out).mono ?_); rintro e w4 ⟨rfl, hd4, hk4⟩; have HD4 := Aside0.mk hd4; clear hd4 hk4))
      | (go_at_call 27; ((with_reducible refine (fault_New.calls 9 0 _ _ rfl).mono ?_); rintro e w5 ⟨rfl, hb⟩; have HB5 := Aside0.mk hb; clear hb)))
     go_ret2
     exact ⟨rfl, below_step (below_step (pw_below_drewN HB.out m) HD4.out.all) HB5.out⟩
    ·rw [if_neg cd] at h
     have cdb : decide (0 < d) = false := decide_eq_false cd
     simp only [Option.some.injEq, Prod.mk.injEq] at h
     obtain ⟨rfl, rfl⟩ := h
     clear cd
     go_enter Tryz.func12, Tryz.ntmps12
     go_wp2_with (first
      | (go_at_call 20; ((with_reducible refine (params_BySize.calls 5 (l0.length : Int) (a :: t) w ht HG.out).mono ?_); rintro e w1 ⟨vv, rfl, hR, hb⟩; obtain ⟨ad, c, rfl, hx⟩ := head_cell hR; have HB := Aside0.mk hb; clear hb hR))
      | (go_at_call 17; ((with_reducible refine (xmss_Numbers.calls a q1 q2 q3 q4 _ hq).mono ?_); rintro e w2 ⟨rfl, ⟨m, rfl⟩⟩))
      | (go_at_call 28; ((with_reducible refine (wire_New.calls A0 c0 l0 (w1.drewN m) _ (Below.refl _ _) (Kd.C_below HR0.out (pw_below_drewN HB.out _)) HC0.out HLT.out).mono ?_); rintro e w3 ⟨g, rfl, hd3, hb3⟩; have HD3 := Aside0.mk hd3; have HB3 := Aside0.mk hb3; clear hd3 hb3))
      | (go_at_call 29; ((with_reducible refine (word4 HD3.out HBY.out H4.out HV.out).mono ?_); rintro e w4 ⟨rfl, hd4, hk4⟩; have HD4 := Aside0.mk hd4; have hx4 := kept_cell hx HD3.out HB3.out hk4; clear hd4 hk4)))
     go_ret2
     exact ⟨rfl, below_step (pw_below_drewN HB.out m) HD4.out.all⟩
   ·rw [if_neg cc] at h
    cases h
 ·rw [if_neg ch] at h
  cases h
theorem word4_no {w0 w : World} {g : Nat} {l : List Int} (h : RD w0 w g l 0) (hn : l.length < 4) :
  Calls Tryz.prog 29 #[.pointer (some ⟨g, 0, none⟩), .int .i64 4] w fun e w' => e = .returned (.tuple #[.int .u64 0, .bool false]) ∧ ∃ m, w' = w.drewN m :=
 word_no h 4 rfl (by omega)
def xmss_Key.f (l0 : List Int) : Option (Int × Option E) :=
 if bytesOk l0 = true ∧ l0.length < 1000000000000 then
  if l0.length < 4 then some (0, some (.fault 3 (l0.length : Int))) else
   (params_ByType.f (v256 (l0.take 4) % 4294967296)).bind fun b => if b.2.2.2.2.2.2.2.2.2.2 = true then (if (l0.length : Int) = b.2.2.2.1 then some (b.1, none) else some (0, some (.fault 6 4))) else some (0, some (.fault 8 0))
 else none
set_option maxRecDepth 100000 in
set_option maxHeartbeats 4000000 in
theorem xmss_Key.calls (A0 : Option Addr) (c0 : Nat) (l0 : List Int) (r1 : Int) (r2 : Option E) (w : World) (hr0 : Kd.C (Kd.int .u8) w A0 l0.length l0) (hc0 : l0.length ≤ c0) (h : xmss_Key.f l0 = some (r1, r2)) (hG : GOK w) :
  Calls Tryz.prog 14 #[.slice A0 l0.length c0] w fun e w' => e = .returned (.tuple #[.int .i64 r1, errW r2]) ∧ Below w.heap.size w w' := by
 rw [xmss_Key.f] at h
 have hut := Tryz.underlying45
 by_cases ch : bytesOk l0 = true ∧ l0.length < 1000000000000
 ·rw [if_pos ch] at h
  obtain ⟨hby, hlt⟩ := ch
  have HBY := Aside0.mk (bytesOk_all hby)
  have HLT := Aside0.mk hlt
  have HR0 := Aside0.mk hr0
  have HC0 := Aside0.mk hc0
  have HG := Aside0.mk hG
  clear hby hlt hr0 hG hc0
  by_cases c4 : l0.length < 4
  ·rw [if_pos c4] at h
   simp only [Option.some.injEq, Prod.mk.injEq] at h
   obtain ⟨rfl, rfl⟩ := h
   have H4 := Aside0.mk c4
   clear c4
   go_enter Tryz.func14, Tryz.ntmps14
   go_wp2_with (first
    | (go_at_call 28; ((with_reducible refine (wire_New.calls A0 c0 l0 w _ (Below.refl _ _) HR0.out HC0.out HLT.out).mono ?_); rintro e w3 ⟨g, rfl, hd3, hb3⟩; have HD3 := Aside0.mk hd3; have HB3 := Aside0.mk hb3; clear hd3 hb3))
    | (go_at_call 29; ((with_reducible refine (word4_no HD3.out H4.out).mono ?_); rintro e w4 ⟨rfl, ⟨m, rfl⟩⟩))
    | (go_at_call 27; ((with_reducible refine (fault_New.calls 3 (l0.length : Int) _ _ rfl).mono ?_); rintro e w5 ⟨rfl, hb⟩; have HB5 := Aside0.mk hb; clear hb)))
   go_ret2
   exact ⟨rfl, below_step (pw_below_drewN HB3.out m) HB5.out⟩
  ·rw [if_neg c4] at h
   replace h := Option.bind_eq_some_iff.mp h
   obtain ⟨⟨b1, b2, b3, b4, b5, b6, b7, b8, b9, b10, b11⟩, hq, h⟩ := h
   dsimp only at h
   generalize hv : v256 (l0.take 4) = v at hq
   have HV := Aside0.mk hv
   have HQ := Aside0.mk hq
   have H4 := Aside0.mk (Nat.le_of_not_lt c4)
   clear hv hq c4
   by_cases c1 : b11 = true
   ·rw [if_pos c1] at h
    subst c1
    by_cases c2 : (l0.length : Int) = b4
    ·rw [if_pos c2] at h
     have c2b : ((l0.length : Int) == b4) = true := beq_iff_eq.mpr c2
     have c2c : ((l0.length : Int) != b4) = false := bne_eq_false_iff_eq.mpr c2
     simp only [Option.some.injEq, Prod.mk.injEq] at h
     obtain ⟨rfl, rfl⟩ := h
     clear c2
     go_enter Tryz.func14, Tryz.ntmps14
     go_wp2_with (first
      | (go_at_call 28; ((with_reducible refine (wire_New.calls A0 c0 l0 w _ (Below.refl _ _) HR0.out HC0.out HLT.out).mono ?_); rintro e w3 ⟨g, rfl, hd3, hb3⟩; have HD3 := Aside0.mk hd3; have HB3 := Aside0.mk hb3; clear hd3 hb3))
      | (go_at_call 29; ((with_reducible refine (word4 HD3.out HBY.out H4.out HV.out).mono ?_); rintro e w4 ⟨rfl, hd4, hk4⟩; have HD4 := Aside0.mk hd4; clear hd4 hk4))
      | (go_at_call 31; ((with_reducible refine (params_ByType.calls _ _ _ _ _ _ _ _ _ _ _ _ _ HQ.out (HG.out.below HD4.out.all)).mono ?_); rintro e w5 ⟨vv, rfl, hR, hb⟩; obtain ⟨A, c, rfl⟩ := Kd.R_slice hR; have HB5 := Aside0.mk hb; clear hb hR)))
     go_ret2
     exact ⟨rfl, below_alloc (below_step HD4.out.all HB5.out) _⟩
    ·rw [if_neg c2] at h
     have c2b : ((l0.length : Int) == b4) = false := beq_eq_false_iff_ne.mpr c2
     have c2c : ((l0.length : Int) != b4) = true := bne_iff_ne.mpr c2
     simp only [Option.some.injEq, Prod.mk.injEq] at h
     obtain ⟨rfl, rfl⟩ := h
     clear c2
     go_enter Tryz.func14, Tryz.ntmps14
     go_wp2_with (first
      | (go_at_call 28; ((with_reducible refine (wire_New.calls A0 c0 l0 w _ (Below.refl _ _) HR0.out HC0.out HLT.out).mono ?_); rintro e w3 ⟨g, rfl, hd3, hb3⟩; have HD3 := Aside0.mk hd3; have HB3 := Aside0.mk hb3; clear hd3 hb3))
      | (go_at_call 29; ((with_reducible refine (word4 HD3.out HBY.out H4.out HV.out).mono ?_); rintro e w4 ⟨rfl, hd4, hk4⟩; have HD4 := Aside0.mk hd4; clear hd4 hk4))
      | (go_at_call 31; ((with_reducible refine (params_ByType.calls _ _ _ _ _ _ _ _ _ _ _ _ _ HQ.out (HG.out.below HD4.out.all)).mono ?_); rintro e w5 ⟨vv, rfl, hR, hb⟩; obtain ⟨A, c, rfl⟩ := Kd.R_slice hR; have HB5 := Aside0.mk hb; clear hb hR))
      | (go_at_call 27; ((with_reducible refine (fault_New.calls 6 4 _ _ rfl).mono ?_); rintro e w6 ⟨rfl, hb⟩; have HB6 := Aside0.mk hb; clear hb)))
     go_ret2
     exact ⟨rfl, below_step (below_alloc (below_step HD4.out.all HB5.out) _) HB6.out⟩
   ·rw [if_neg c1] at h
    obtain rfl := Bool.eq_false_iff.mpr c1
    clear c1
    simp only [Option.some.injEq, Prod.mk.injEq] at h
    obtain ⟨rfl, rfl⟩ := h
    go_enter Tryz.func14, Tryz.ntmps14
    go_wp2_with (first
     | (go_at_call 28; ((with_reducible refine (wire_New.calls A0 c0 l0 w _ (Below.refl _ _) HR0.out HC0.out HLT.out).mono ?_); rintro e w3 ⟨g, rfl, hd3, hb3⟩; have HD3 := Aside0.mk hd3; have HB3 := Aside0.mk hb3; clear hd3 hb3))
     | (go_at_call 29; ((with_reducible refine (word4 HD3.out HBY.out H4.out HV.out).mono ?_); rintro e w4 ⟨rfl, hd4, hk4⟩; have HD4 := Aside0.mk hd4; clear hd4 hk4))
     | (go_at_call 31; ((with_reducible refine (params_ByType.calls _ _ _ _ _ _ _ _ _ _ _ _ _ HQ.out (HG.out.below HD4.out.all)).mono ?_); rintro e w5 ⟨vv, rfl, hR, hb⟩; obtain ⟨A, c, rfl⟩ := Kd.R_slice hR; have HB5 := Aside0.mk hb; clear hb hR))
     | (go_at_call 27; ((with_reducible refine (fault_New.calls 8 0 _ _ rfl).mono ?_); rintro e w6 ⟨rfl, hb⟩; have HB6 := Aside0.mk hb; clear hb)))
    go_ret2
    exact ⟨rfl, below_step (below_alloc (below_step HD4.out.all HB5.out) _) HB6.out⟩
 ·rw [if_neg ch] at h
  cases h
end Go.Proofs.YtgmnknhfeoleaaaGreatDoor.PXmss
