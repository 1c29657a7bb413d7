import Derived.Test.YtijmigapdcikpaaDoorZPDsmx0
import Derived.Test.YtijmigapdcikpaaDoorZPDsmx1
import Derived.Test.YtijmigapdcikpaaDoorZPDsmx2
namespace Go.Proofs.YtijmigapdcikpaaDoor.PDsm
open Go.RowKit Go.Proofs.YtijmigapdcikpaaDoorW.PrintWords Go.Proofs.YtijmigapdcikpaaDoorW.PrintLast Go.Proofs.YtijmigapdcikpaaDoorW.PrintMore
set_option linter.unusedVariables false
set_option linter.unusedSimpArgs false
def allO (p : S26 → Option Bool) : List (S26) → Option Bool
  | [] => some true
  | x :: xs => (p x).bind fun r => if r = true then allO p xs else some false
theorem allO_drop {p : S26 → Option Bool} {l : List (S26)} {i : Nat} (h : i < l.length) : allO p (l.drop i) = (p (rd_T26 l (i : Int))).bind fun r => if r = true then allO p (l.drop (i + 1)) else some false := by
  rw [List.drop_eq_getElem_cons h]
  have e : rd_T26 l (i : Int) = l[i] := by
    unfold rd_T26
    rw [Int.toNat_natCast, List.getD_eq_getElem?_getD, List.getElem?_eq_getElem h]
    rfl
  rw [e]
  rfl
set_option maxHeartbeats 4000000 in
set_option maxRecDepth 100000 in
theorem index_shaped (w : World) (A : Option Addr) (c : Nat) (l : List (S26)) (p : S26 → Option Bool) (hC : Kd.C k26 w A l.length l) (hl : l.length < 1000000000)
    (HF : ∀ (W : World) (x : S26) (r : Bool) (A1 : Option Addr) (c1 : Nat) (A2 : Option Addr) (c2 : Nat), Below w.heap.size w W → p x = some r → Kd.C (Kd.int .u8) W A1 x.f1.length x.f1 → x.f1.length ≤ c1 → Kd.C k26 W A2 x.f2.length x.f2 → x.f2.length ≤ c2 →
      Calls Tryd.prog 84 #[.agg #[.int .u8 x.f0, .slice A1 x.f1.length c1, .slice A2 x.f2.length c2]] W fun e w' => e = .returned (.bool (!r)) ∧ Below W.heap.size W w') (b : Bool) (hb : allO p l = some b) :
    Calls Tryd.prog 97 #[.slice A l.length c, .func (.func 84) #[] #[]] w fun e w' => (∃ x, e = .returned (.int .i64 x) ∧ decide (0 ≤ x) = !b) ∧ Below w.heap.size w w' := by
  have HC := Aside0.mk hC
  have HL := Aside0.mk hl
  have HB0 := Aside0.mk hb
  have HFF := Aside0.mk HF
  have hu := Tryd.underlying26
  clear hC hl hb HF
  go_enter Tryd.func97, Tryd.ntmps97
  go_wp2
  go_loopg [8] l.length (fun kq v8 w' => ∃ (i : Nat), v8 = .int .i64 (i : Int) ∧ Aside0 (i ≤ l.length ∧ kq = l.length - i ∧ allO p (l.drop i) = some b) ∧ Aside0 (Below w.heap.size w w'))
  case atStart => exact ⟨0, rfl, ⟨by omega, by omega, HB0.out⟩, ⟨Below.refl _ _⟩⟩
  case round =>
    obtain ⟨i, rfl, HI, HB⟩ := hrel
    by_cases ci : i < l.length
    · have ci' : decide ((i : Int) < (l.length : Int)) = true := decide_eq_true (by omega)
      have ci2 : decide (i < l.length) = true := decide_eq_true ci
      obtain ⟨ad, A1, c1, A2, c2, ea, x0, x1, x2, l1, k1, l2, k2⟩ := at_T26 HC.out (i : Int) (by omega) (by omega)
      cases ea
      have hstep := HI.out.2.2
      rw [allO_drop ci] at hstep
      obtain ⟨r, hr, hstep⟩ := Option.bind_eq_some_iff.mp hstep
      have HS := Aside0.mk hstep
      have HR := Aside0.mk hr
      have HII := Aside0.mk ci
      generalize rd_T26 l (i : Int) = x at *
      replace x0 := (HB.out.cell (World.block_lt_of_cell? w _ x0)).trans x0
      replace x1 := (HB.out.cell (World.block_lt_of_cell? w _ x1)).trans x1
      replace x2 := (HB.out.cell (World.block_lt_of_cell? w _ x2)).trans x2
      have K1 := Aside0.mk (And.intro (Kd.C_below k1 HB.out) l1)
      have K2 := Aside0.mk (And.intro (Kd.C_below k2 HB.out) l2)
      have hi0 : (0 ≤ (i : Int)) = True := eq_true (by omega)
      have hi1 : ((i : Int) < (l.length : Int)) = True := eq_true (by omega)
      clear k1 l1 k2 l2 hstep hr ci
      rw [Int.toNat_natCast] at x0 x1 x2
      cases r with
      | true =>
        go_wp2_with (go_at_call 84; ((with_reducible refine (HFF.out _ x true A1 c1 A2 c2 HB.out HR.out K1.out.1 K1.out.2 K2.out.1 K2.out.2).mono ?_); rintro ev w' ⟨rfl, hb'⟩; have HB2 := Aside0.mk (below_step HB.out hb'); clear hb'))
        have h_ := HII.out
        have hl_ := HL.out
        have hk_ := HI.out.2.1
        have hs_ : allO p (l.drop (i + 1)) = some b := by have h_ := HS.out; simpa using h_
        go_roundg (gk - 1)
        case measure => omega
        case rel => exact ⟨i + 1, by rw [show wrap64 ((i : Int) + 1) = ((i + 1 : Nat) : Int) by unfold wrap64; omega], ⟨by omega, by omega, hs_⟩, HB2⟩
      | false =>
        have hs_ := HS.out
        rw [if_neg (by decide)] at hs_
        obtain rfl := Option.some.inj hs_
        clear hs_
        go_wp2_with (go_at_call 84; ((with_reducible refine (HFF.out _ x false A1 c1 A2 c2 HB.out HR.out K1.out.1 K1.out.2 K2.out.1 K2.out.2).mono ?_); rintro ev w' ⟨rfl, hb'⟩; have HB2 := Aside0.mk (below_step HB.out hb'); clear hb'))
        go_ret
        exact ⟨⟨_, rfl, decide_eq_true (by omega)⟩, HB2.out⟩
    · have ci' : decide ((i : Int) < (l.length : Int)) = false := decide_eq_false (by omega)
      have ci2 : decide (i < l.length) = false := decide_eq_false ci
      have hfin := HI.out.2.2
      rw [List.drop_eq_nil_of_le (by omega)] at hfin
      obtain rfl : true = b := Option.some.inj hfin
      clear hfin
      go_wp2
      go_ret
      exact ⟨⟨_, rfl, rfl⟩, HB.out⟩
theorem contains_shaped (w : World) (A : Option Addr) (c : Nat) (l : List (S26)) (p : S26 → Option Bool) (hC : Kd.C k26 w A l.length l) (hl : l.length < 1000000000)
    (HF : ∀ (W : World) (x : S26) (r : Bool) (A1 : Option Addr) (c1 : Nat) (A2 : Option Addr) (c2 : Nat), Below w.heap.size w W → p x = some r → Kd.C (Kd.int .u8) W A1 x.f1.length x.f1 → x.f1.length ≤ c1 → Kd.C k26 W A2 x.f2.length x.f2 → x.f2.length ≤ c2 →
      Calls Tryd.prog 84 #[.agg #[.int .u8 x.f0, .slice A1 x.f1.length c1, .slice A2 x.f2.length c2]] W fun e w' => e = .returned (.bool (!r)) ∧ Below W.heap.size W w') (b : Bool) (hb : allO p l = some b) :
    Calls Tryd.prog 83 #[.slice A l.length c, .func (.func 84) #[] #[]] w fun e w' => e = .returned (.bool (!b)) ∧ Below w.heap.size w w' := by
  have HI := Aside0.mk (index_shaped w A c l p hC hl HF b hb)
  clear hC HF hb
  go_enter Tryd.func83, Tryd.ntmps83
  go_wp2_with (go_at_call 97; ((with_reducible refine (HI.out).mono ?_); rintro ev w' ⟨⟨x, rfl, hx⟩, hb'⟩; have HB := Aside0.mk hb'; clear hb'))
  go_ret
  exact ⟨rfl, HB.out⟩
def der_shaped.f : Nat → Int → List Int → List (S26) → Option Bool
  | 0, _, _, _ => none
  | k + 1, t, b, l => if l.length < 1000000000 then ((der_right.f t).bind fun r => if r = true then ((der_composed.f t).bind fun c => if c = true then (if 0 < b.length then some false else allO (fun x => der_shaped.f k x.f0 x.f1 x.f2) l) else (if 0 < l.length then some false else allO (fun x => der_shaped.f k x.f0 x.f1 x.f2) l)) else some false) else none
theorem allO_mono {p q : S26 → Option Bool} (h : ∀ x, LeO (p x) (q x)) : ∀ l, LeO (allO p l) (allO q l)
  | [] => LeO.refl _
  | x :: xs => LeO.bind (h x) (fun r => LeO.ite (allO_mono h xs) (LeO.refl _))
theorem der_shaped.mono : ∀ a0 a1 a2 k, LeO (der_shaped.f k a0 a1 a2) (der_shaped.f (k + 1) a0 a1 a2) := by
  intro a0 a1 a2 k
  induction k generalizing a0 a1 a2 with
  | zero => intro r h; simp [der_shaped.f] at h
  | succ k ih =>
    unfold der_shaped.f
    repeat' first
        | (with_reducible exact allO_mono (fun x => ih x.f0 x.f1 x.f2) _)
        | (with_reducible exact LeO.refl _)
        | (with_reducible exact LeO.none _)
        | (with_reducible refine LeO.ite ?_ ?_)
        | (with_reducible refine LeO.bind ?_ (fun _ => ?_))
        | exact allO_mono (fun x => ih x.f0 x.f1 x.f2) _
        | exact LeO.refl _
        | refine LeO.ite ?_ ?_
        | refine LeO.bind ?_ (fun _ => ?_)
set_option maxHeartbeats 8000000 in
set_option maxRecDepth 100000 in
theorem der_shaped.calls (k : Nat) : ∀ (a0_0 : Int) (A0_1 : Option Addr) (c0_1 : Nat) (l0_1 : List Int) (A0_2 : Option Addr) (c0_2 : Nat) (l0_2 : List (S26)) (r : Bool) (w : World) (hr0_1 : Kd.C (Kd.int .u8) w A0_1 l0_1.length l0_1) (hc0_1 : l0_1.length ≤ c0_1) (hr0_2 : Kd.C k26 w A0_2 l0_2.length l0_2) (hc0_2 : l0_2.length ≤ c0_2) (h : der_shaped.f k a0_0 l0_1 l0_2 = some r),
    Calls Tryd.prog 55 #[.agg #[.int .u8 a0_0, .slice A0_1 l0_1.length c0_1, .slice A0_2 l0_2.length c0_2]] w fun e w' => e = .returned (.bool r) ∧ Below w.heap.size w w' := by
  induction k with
  | zero => intro _ _ _ _ _ _ _ _ _ _ _ _ _ h; cases h
  | succ k ih =>
    intro t A1 c1 b A2 c2 l r w hr1 hc1 hr2 hc2 h
    rw [der_shaped.f] at h
    by_cases hl : l.length < 1000000000
    · rw [if_pos hl] at h
      have hu := Tryd.underlying26
      have hclo : ∀ (W : World) (x : S26) (r : Bool) (A1 : Option Addr) (c1 : Nat) (A2 : Option Addr) (c2 : Nat), Below w.heap.size w W → der_shaped.f k x.f0 x.f1 x.f2 = some r → Kd.C (Kd.int .u8) W A1 x.f1.length x.f1 → x.f1.length ≤ c1 → Kd.C k26 W A2 x.f2.length x.f2 → x.f2.length ≤ c2 →
          Calls Tryd.prog 84 #[.agg #[.int .u8 x.f0, .slice A1 x.f1.length c1, .slice A2 x.f2.length c2]] W fun e w' => e = .returned (.bool (!r)) ∧ Below W.heap.size W w' := by
        intro W x r A1 c1 A2 c2 _ hx h1 l1 h2 l2
        have HI := Aside0.mk (fun (W' : World) (hb : Below W.heap.size W W') => ih x.f0 A1 c1 x.f1 A2 c2 x.f2 r W' (Kd.C_below h1 hb) l1 (Kd.C_below h2 hb) l2 hx)
        clear ih h1 h2 hr1 hr2
        go_enter Tryd.func84, Tryd.ntmps84
        go_wp2_with (go_at_call 55; ((with_reducible refine (HI.out _ (by repeat (first | exact Below.refl _ _ | apply below_alloc))).mono ?_); rintro ev w' ⟨rfl, hb'⟩; have HB := Aside0.mk (below_step (below_alloc (Below.refl _ _) _) hb'); clear hb'))
        go_ret
        exact ⟨rfl, HB.out⟩
      have HCLO := Aside0.mk hclo
      clear hclo ih
      have HR1 := Aside0.mk hr1
      have HR2 := Aside0.mk (And.intro hr2 hl)
      clear hr1 hr2 hl
      replace h := Option.bind_eq_some_iff.mp h
      obtain ⟨q, hq, h⟩ := h
      have HQ := Aside0.mk hq
      clear hq
      by_cases c0 : q = true
      · rw [if_pos c0] at h
        subst c0
        replace h := Option.bind_eq_some_iff.mp h
        obtain ⟨c, hc, h⟩ := h
        have HC := Aside0.mk hc
        clear hc
        by_cases c1' : c = true
        · rw [if_pos c1'] at h
          subst c1'
          by_cases c3 : 0 < b.length
          · rw [if_pos c3] at h
            obtain rfl := Option.some.inj h
            have z1 : decide (0 < (b.length : Int)) = true := decide_eq_true (by omega)
            have z2 : decide (0 < b.length) = true := decide_eq_true c3
            clear h c3
            go_enter Tryd.func55, Tryd.ntmps55
            go_wp2_with (first
              | (go_at_call 73; ((with_reducible refine (der_right.calls t true _ HQ.out).mono ?_); rintro ev w' ⟨rfl, ⟨m, rfl⟩⟩))
              | (go_at_call 75; ((with_reducible refine (der_composed.calls t true _ HC.out).mono ?_); rintro ev w' ⟨rfl, ⟨m2, rfl⟩⟩)))
            go_ret
            exact ⟨rfl, pw_below_drewN (below_alloc (Below.refl _ _) _) _⟩
          · rw [if_neg c3] at h
            have HH := Aside0.mk h
            have z1 : decide (0 < (b.length : Int)) = false := decide_eq_false (by omega)
            have z2 : decide (0 < b.length) = false := decide_eq_false c3
            clear h c3
            go_enter Tryd.func55, Tryd.ntmps55
            go_wp2_with (first
              | (go_at_call 73; ((with_reducible refine (der_right.calls t true _ HQ.out).mono ?_); rintro ev w' ⟨rfl, ⟨m, rfl⟩⟩))
              | (go_at_call 75; ((with_reducible refine (der_composed.calls t true _ HC.out).mono ?_); rintro ev w' ⟨rfl, ⟨m2, rfl⟩⟩))
              | (go_at_call 83; ((with_reducible refine (contains_shaped _ A2 c2 l (fun x => der_shaped.f k x.f0 x.f1 x.f2) (Kd.C_below HR2.out.1 (pw_below_drewN (below_alloc (Below.refl _ _) _) _)) HR2.out.2 (fun W x r A1 c1 A2 c2 hb => HCLO.out W x r A1 c1 A2 c2 (below_step (pw_below_drewN (below_alloc (Below.refl _ _) _) _) hb)) r HH.out).mono ?_); rintro ev w' ⟨rfl, hb'⟩; have HB := Aside0.mk (below_step (pw_below_drewN (below_alloc (Below.refl _ _) _) _) hb'); clear hb')))
            go_ret
            exact ⟨by simp, HB.out⟩
        · rw [if_neg c1'] at h
          obtain rfl := Bool.eq_false_iff.mpr c1'
          by_cases c3 : 0 < l.length
          · rw [if_pos c3] at h
            obtain rfl := Option.some.inj h
            have z1 : decide (0 < (l.length : Int)) = true := decide_eq_true (by omega)
            have z2 : decide (0 < l.length) = true := decide_eq_true c3
            clear h c3
            go_enter Tryd.func55, Tryd.ntmps55
            go_wp2_with (first
              | (go_at_call 73; ((with_reducible refine (der_right.calls t true _ HQ.out).mono ?_); rintro ev w' ⟨rfl, ⟨m, rfl⟩⟩))
              | (go_at_call 75; ((with_reducible refine (der_composed.calls t false _ HC.out).mono ?_); rintro ev w' ⟨rfl, ⟨m2, rfl⟩⟩)))
            go_ret
            exact ⟨rfl, pw_below_drewN (below_alloc (Below.refl _ _) _) _⟩
          · rw [if_neg c3] at h
            have HH := Aside0.mk h
            have z1 : decide (0 < (l.length : Int)) = false := decide_eq_false (by omega)
            have z2 : decide (0 < l.length) = false := decide_eq_false c3
            clear h c3
            go_enter Tryd.func55, Tryd.ntmps55
            go_wp2_with (first
              | (go_at_call 73; ((with_reducible refine (der_right.calls t true _ HQ.out).mono ?_); rintro ev w' ⟨rfl, ⟨m, rfl⟩⟩))
              | (go_at_call 75; ((with_reducible refine (der_composed.calls t false _ HC.out).mono ?_); rintro ev w' ⟨rfl, ⟨m2, rfl⟩⟩))
              | (go_at_call 83; ((with_reducible refine (contains_shaped _ A2 c2 l (fun x => der_shaped.f k x.f0 x.f1 x.f2) (Kd.C_below HR2.out.1 (pw_below_drewN (below_alloc (Below.refl _ _) _) _)) HR2.out.2 (fun W x r A1 c1 A2 c2 hb => HCLO.out W x r A1 c1 A2 c2 (below_step (pw_below_drewN (below_alloc (Below.refl _ _) _) _) hb)) r HH.out).mono ?_); rintro ev w' ⟨rfl, hb'⟩; have HB := Aside0.mk (below_step (pw_below_drewN (below_alloc (Below.refl _ _) _) _) hb'); clear hb')))
            go_ret
            exact ⟨by simp, HB.out⟩
      · rw [if_neg c0] at h
        obtain rfl := Bool.eq_false_iff.mpr c0
        obtain rfl := Option.some.inj h
        clear h
        go_enter Tryd.func55, Tryd.ntmps55
        go_wp2_with (first
          | (go_at_call 73; ((with_reducible refine (der_right.calls t false _ HQ.out).mono ?_); rintro ev w' ⟨rfl, ⟨m, rfl⟩⟩)))
        go_ret
        exact ⟨rfl, pw_below_drewN (below_alloc (Below.refl _ _) _) _⟩
    · rw [if_neg hl] at h
      cases h
end Go.Proofs.YtijmigapdcikpaaDoor.PDsm
