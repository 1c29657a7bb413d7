import Derived.Test.YthdjmojpnimhjaaDoorZPCbgx0
import Derived.Test.YthdjmojpnimhjaaDoorZPCbgx10
namespace Go.Proofs.YthdjmojpnimhjaaDoor.PCbg
open Go.RowKit Go.Proofs.YthdjmojpnimhjaaDoorW.PrintWords Go.Proofs.YthdjmojpnimhjaaDoorW.PrintLast Go.Proofs.YthdjmojpnimhjaaDoorW.PrintMore
set_option linter.unusedVariables false
set_option linter.unusedSimpArgs false
def eqO (p : S27 → S27 → Option Bool) : List (S27) → List (S27) → Option Bool
 | x :: xs, y :: ys => (p x y).bind fun r => if r = true then eqO p xs ys else some false
 | _, _ => some true
theorem rd_drop {l : List (S27)} {i : Nat} (h : i < l.length) : l.drop i = rd_T27 l (i : Int) :: l.drop (i + 1) := by
 rw [List.drop_eq_getElem_cons h]
 have e : rd_T27 l (i : Int) = l[i] := by
  unfold rd_T27
  rw [Int.toNat_natCast, List.getD_eq_getElem?_getD, List.getElem?_eq_getElem h]
  rfl
 rw [e]
set_option maxHeartbeats 4000000 in
set_option maxRecDepth 100000 in
theorem equal_nodes (w : World) (A : Option Addr) (c : Nat) (l : List (S27)) (A' : Option Addr) (c' : Nat) (l' : List (S27)) (p : S27 → S27 → Option Bool) (hC : Kd.C k27 w A l.length l) (hC' : Kd.C k27 w A' l'.length l') (hl : l.length < 10000000000000) (hll : l.length = l'.length)
  (HF : ∀ (W : World) (x y : S27) (r : Bool) (A1 : Option Addr) (c1 : Nat) (A2 : Option Addr) (c2 : Nat) (B1 : Option Addr) (d1 : Nat) (B2 : Option Addr) (d2 : Nat), Below w.heap.size w W → p x y = some r → Kd.C (Kd.int .u8) W A1 x.f2.length x.f2 → x.f2.length ≤ c1 → Kd.C k27 W A2 x.f3.length x.f3 → x.f3.length ≤ c2 → Kd.C (Kd.int .u8) W B1 y.f2.length y.f2 → y.f2.length ≤ d1 → Kd.C k27 W B2 y.f3.length y.f3 → y.f3.length ≤ d2 →
   Calls Tryd.prog 84 #[.agg #[.int .i64 x.f0, .int .u64 x.f1, .slice A1 x.f2.length c1, .slice A2 x.f3.length c2], .agg #[.int .i64 y.f0, .int .u64 y.f1, .slice B1 y.f2.length d1, .slice B2 y.f3.length d2]] W fun e w' => e = .returned (.bool r) ∧ Below W.heap.size W w') (b : Bool) (hb : eqO p l l' = some b) :
  Calls Tryd.prog 114 #[.slice A l.length c, .slice A' l'.length c', .func (.func 84) #[] #[]] w fun e w' => e = .returned (.bool b) ∧ Below w.heap.size w w' := by
 have HC := Aside0.mk hC
 have HC' := Aside0.mk hC'
 have HL := Aside0.mk (And.intro hl hll)
 have HB0 := Aside0.mk hb
 have HFF := Aside0.mk HF
 have hu := Tryd.underlying27
 rw [← hll]
 clear hC hC' hl hb HF hll
 go_enter Tryd.func114, Tryd.ntmps114
 go_wp2
 go_loopg [17] l.length (fun kq v17 w' => ∃ (i : Nat), v17 = .int .i64 (i : Int) ∧ Aside0 (i ≤ l.length ∧ kq = l.length - i ∧ eqO p (l.drop i) (l'.drop i) = some b) ∧ Aside0 (Below w.heap.size w w'))
 case atStart => exact ⟨0, rfl, ⟨by omega, by omega, HB0.out⟩, ⟨Below.refl _ _⟩⟩
 case round =>
  obtain ⟨i, rfl, HI, HB⟩ := hrel
  by_cases ci : i < l.length
  ·have ci' : decide ((i : Int) < (l.length : Int)) = true := decide_eq_true (by omega)
   have ci2 : decide (i < l.length) = true := decide_eq_true ci
   have ci3 : i < l'.length := by have := HL.out.2; omega
   obtain ⟨ad, A1, c1, A2, c2, ea, x0, x1, x2, x3, l1, k1, l2, k2⟩ := at_T27 HC.out (i : Int) (by omega) (by omega)
   obtain ⟨ad', B1, d1, B2, d2, ea', y0, y1, y2, y3, m1, j1, m2, j2⟩ := at_T27 HC'.out (i : Int) (by omega) (by omega)
   cases ea
   cases ea'
   have hstep := HI.out.2.2
   rw [rd_drop ci, rd_drop ci3, eqO] at hstep
   obtain ⟨r, hr, hstep⟩ := Option.bind_eq_some_iff.mp hstep
   have HS := Aside0.mk hstep
   have HR := Aside0.mk hr
   have HII := Aside0.mk ci
   generalize rd_T27 l (i : Int) = x at *
   generalize rd_T27 l' (i : Int) = y at *
   replace x0 := (HB.out.cell (World.block_lt_of_cell? w _ x0)).trans x0
   replace x1 := (HB.out.cell (World.block_lt_of_cell? w _ x1)).trans x1
   replace x2 := (HB.out.cell (World.block_lt_of_cell? w _ x2)).trans x2
   replace x3 := (HB.out.cell (World.block_lt_of_cell? w _ x3)).trans x3
   replace y0 := (HB.out.cell (World.block_lt_of_cell? w _ y0)).trans y0
   replace y1 := (HB.out.cell (World.block_lt_of_cell? w _ y1)).trans y1
   replace y2 := (HB.out.cell (World.block_lt_of_cell? w _ y2)).trans y2
   replace y3 := (HB.out.cell (World.block_lt_of_cell? w _ y3)).trans y3
   have K1 := Aside0.mk (And.intro k1 l1)
   have K2 := Aside0.mk (And.intro k2 l2)
   have J1 := Aside0.mk (And.intro j1 m1)
   have J2 := Aside0.mk (And.intro j2 m2)
   have hi0 : (0 ≤ (i : Int)) = True := eq_true (by omega)
   have hi1 : ((i : Int) < (l.length : Int)) = True := eq_true (by omega)
   clear k1 l1 k2 l2 j1 m1 j2 m2 hstep hr ci ci3
   rw [Int.toNat_natCast] at x0 x1 x2 x3 y0 y1 y2 y3
   have ya0 := pw_cell_below (below_alloc (Below.refl wr.heap.size wr) (.cells #[.int .i64 x.f0, .int .u64 x.f1, .slice A1 x.f2.length c1, .slice A2 x.f3.length c2] 27)) y0
   have ya1 := pw_cell_below (below_alloc (Below.refl wr.heap.size wr) (.cells #[.int .i64 x.f0, .int .u64 x.f1, .slice A1 x.f2.length c1, .slice A2 x.f3.length c2] 27)) y1
   have ya2 := pw_cell_below (below_alloc (Below.refl wr.heap.size wr) (.cells #[.int .i64 x.f0, .int .u64 x.f1, .slice A1 x.f2.length c1, .slice A2 x.f3.length c2] 27)) y2
   have ya3 := pw_cell_below (below_alloc (Below.refl wr.heap.size wr) (.cells #[.int .i64 x.f0, .int .u64 x.f1, .slice A1 x.f2.length c1, .slice A2 x.f3.length c2] 27)) y3
   cases r with
   | true =>
    go_wp2_with (go_at_call 84; ((with_reducible refine (HFF.out _ x y true A1 c1 A2 c2 B1 d1 B2 d2 (below_alloc (below_alloc HB.out _) _) HR.out (Kd.C_below K1.out.1 (below_alloc (below_alloc HB.out _) _)) K1.out.2 (Kd.C_below K2.out.1 (below_alloc (below_alloc HB.out _) _)) K2.out.2 (Kd.C_below J1.out.1 (below_alloc (below_alloc HB.out _) _)) J1.out.2 (Kd.C_below J2.out.1 (below_alloc (below_alloc HB.out _) _)) J2.out.2).mono ?_); rintro ev w' ⟨rfl, hb'⟩; have HB2 := Aside0.mk (below_step (below_alloc (below_alloc HB.out _) _) hb'); clear hb'))
    have h_ := HII.out
    have hl_ := HL.out.1
    have hk_ := HI.out.2.1
    have hs_ : eqO p (l.drop (i + 1)) (l'.drop (i + 1)) = some b := by have h_ := HS.out; simpa using h_
    go_roundg (gk - 1)
    case measure => omega
    case rel => exact ⟨i + 1, by rw [show wrap64 ((i : Int) + 1) = ((i + 1 : Nat) : Int) by unfold wrap64; omega], ⟨by omega, by omega, hs_⟩, HB2⟩
   | false =>
    have hs_ := HS.out
    rw [if_neg (by decide)] at hs_
    obtain rfl := Option.some.inj hs_
    clear hs_
    go_wp2_with (go_at_call 84; ((with_reducible refine (HFF.out _ x y false A1 c1 A2 c2 B1 d1 B2 d2 (below_alloc (below_alloc HB.out _) _) HR.out (Kd.C_below K1.out.1 (below_alloc (below_alloc HB.out _) _)) K1.out.2 (Kd.C_below K2.out.1 (below_alloc (below_alloc HB.out _) _)) K2.out.2 (Kd.C_below J1.out.1 (below_alloc (below_alloc HB.out _) _)) J1.out.2 (Kd.C_below J2.out.1 (below_alloc (below_alloc HB.out _) _)) J2.out.2).mono ?_); rintro ev w' ⟨rfl, hb'⟩; have HB2 := Aside0.mk (below_step (below_alloc (below_alloc HB.out _) _) hb'); clear hb'))
    go_ret
    exact ⟨rfl, HB2.out⟩
  ·have ci' : decide ((i : Int) < (l.length : Int)) = false := decide_eq_false (by omega)
   have ci2 : decide (i < l.length) = false := decide_eq_false ci
   have hfin := HI.out.2.2
   rw [List.drop_eq_nil_of_le (by omega), List.drop_eq_nil_of_le (by have := HL.out.2; omega)] at hfin
   obtain rfl : true = b := Option.some.inj hfin
   clear hfin
   go_wp2
   go_ret
   exact ⟨rfl, HB.out⟩
theorem equal_ne (w : World) (A : Option Addr) (c n : Nat) (A' : Option Addr) (c' n' : Nat) (F : Value) (h : n ≠ n') :
  Calls Tryd.prog 114 #[.slice A n c, .slice A' n' c', F] w fun e w' => e = .returned (.bool false) ∧ Below w.heap.size w w' := by
 have h1 : ((n : Int) != (n' : Int)) = true := bne_iff_ne.mpr (by omega)
 have h2 : (n != n') = true := bne_iff_ne.mpr h
 go_enter Tryd.func114, Tryd.ntmps114
 go_wp2
 go_ret
 exact ⟨rfl, Below.refl _ _⟩
def cbor_Item_same.f : Nat → Int → Int → List Int → List (S27) → Int → Int → List Int → List (S27) → Option Bool
 | 0, _, _, _, _, _, _, _, _ => none
 | k + 1, t, n, b, l, t', n', b', l' => if l.length < 10000000000000 then (if t = t' then (if n = n' then ((bytes_Equal.f b b').bind fun r => if r = true then (if l.length = l'.length then eqO (fun x y => cbor_Item_same.f k x.f0 x.f1 x.f2 x.f3 y.f0 y.f1 y.f2 y.f3) l l' else some false) else some false) else some false) else some false) else none
theorem eqO_mono {p q : S27 → S27 → Option Bool} (h : ∀ x y, LeO (p x y) (q x y)) : ∀ l m, LeO (eqO p l m) (eqO q l m)
 | [], [] => LeO.refl _
 | [], _ :: _ => LeO.refl _
 | _ :: _, [] => LeO.refl _
 | x :: xs, y :: ys => LeO.bind (h x y) (fun r => LeO.ite (eqO_mono h xs ys) (LeO.refl _))
theorem cbor_Item_same.mono : ∀ a0 a1 a2 a3 a4 a5 a6 a7 k, LeO (cbor_Item_same.f k a0 a1 a2 a3 a4 a5 a6 a7) (cbor_Item_same.f (k + 1) a0 a1 a2 a3 a4 a5 a6 a7) := by
 intro a0 a1 a2 a3 a4 a5 a6 a7 k
 induction k generalizing a0 a1 a2 a3 a4 a5 a6 a7 with
 | zero => intro r h; simp [cbor_Item_same.f] at h
 | succ k ih =>
  unfold cbor_Item_same.f
  repeat' first
    | (with_reducible exact eqO_mono (fun x y => ih x.f0 x.f1 x.f2 x.f3 y.f0 y.f1 y.f2 y.f3) _ _)
    | (with_reducible exact LeO.refl _)
    | (with_reducible exact LeO.none _)
    | (with_reducible refine LeO.ite ?_ ?_)
    | (with_reducible refine LeO.bind ?_ (fun _ => ?_))
    | exact eqO_mono (fun x y => ih x.f0 x.f1 x.f2 x.f3 y.f0 y.f1 y.f2 y.f3) _ _
    | exact LeO.refl _
    | refine LeO.ite ?_ ?_
    | refine LeO.bind ?_ (fun _ => ?_)
set_option maxHeartbeats 8000000 in
set_option maxRecDepth 100000 in
theorem cbor_Item_same.calls (k : Nat) : ∀ (a0_0 : Int) (a0_1 : Int) (A0_2 : Option Addr) (c0_2 : Nat) (l0_2 : List Int) (A0_3 : Option Addr) (c0_3 : Nat) (l0_3 : List (S27)) (a1_0 : Int) (a1_1 : Int) (A1_2 : Option Addr) (c1_2 : Nat) (l1_2 : List Int) (A1_3 : Option Addr) (c1_3 : Nat) (l1_3 : List (S27)) (r : Bool) (w : World)
  (hr0_2 : Kd.C (Kd.int .u8) w A0_2 l0_2.length l0_2) (hc0_2 : l0_2.length ≤ c0_2) (hr0_3 : Kd.C k27 w A0_3 l0_3.length l0_3) (hc0_3 : l0_3.length ≤ c0_3) (hr1_2 : Kd.C (Kd.int .u8) w A1_2 l1_2.length l1_2) (hc1_2 : l1_2.length ≤ c1_2) (hr1_3 : Kd.C k27 w A1_3 l1_3.length l1_3) (hc1_3 : l1_3.length ≤ c1_3) (h : cbor_Item_same.f k a0_0 a0_1 l0_2 l0_3 a1_0 a1_1 l1_2 l1_3 = some r),
  Calls Tryd.prog 84 #[.agg #[.int .i64 a0_0, .int .u64 a0_1, .slice A0_2 l0_2.length c0_2, .slice A0_3 l0_3.length c0_3], .agg #[.int .i64 a1_0, .int .u64 a1_1, .slice A1_2 l1_2.length c1_2, .slice A1_3 l1_3.length c1_3]] w fun e w' => e = .returned (.bool r) ∧ Below w.heap.size w w' := by
 induction k with
 | zero => intro _ _ _ _ _ _ _ _ _ _ _ _ _ _ _ _ _ _ _ _ _ _ _ _ _ _ h; cases h
 | succ k ih =>
  intro t n A1 c1 b A2 c2 l t' n' B1 d1 b' B2 d2 l' r w hr1 hc1 hr2 hc2 hs1 hd1 hs2 hd2 h
  rw [cbor_Item_same.f] at h
  by_cases hl : l.length < 10000000000000
  ·rw [if_pos hl] at h
   have hu := Tryd.underlying27
   have HF := Aside0.mk (fun (W : World) (x y : S27) (r : Bool) (A1 : Option Addr) (c1 : Nat) (A2 : Option Addr) (c2 : Nat) (B1 : Option Addr) (d1 : Nat) (B2 : Option Addr) (d2 : Nat) (hx : cbor_Item_same.f k x.f0 x.f1 x.f2 x.f3 y.f0 y.f1 y.f2 y.f3 = some r) h1 l1 h2 l2 g1 m1 g2 m2 => ih x.f0 x.f1 A1 c1 x.f2 A2 c2 x.f3 y.f0 y.f1 B1 d1 y.f2 B2 d2 y.f3 r W h1 l1 h2 l2 g1 m1 g2 m2 hx)
   have R1 := Aside0.mk (And.intro hr1 hc1)
   have R2 := Aside0.mk (And.intro hr2 hl)
   have Q1 := Aside0.mk (And.intro hs1 hd1)
   have Q2 := Aside0.mk hs2
   clear ih hr1 hr2 hs1 hs2 hl hc1 hd1
   by_cases ct : t = t'
   ·rw [if_pos ct] at h
    have z1 : (t == t') = true := beq_iff_eq.mpr ct
    clear ct
    by_cases cn : n = n'
    ·rw [if_pos cn] at h
     have z2 : (n == n') = true := beq_iff_eq.mpr cn
     clear cn
     replace h := Option.bind_eq_some_iff.mp h
     obtain ⟨q, hq, h⟩ := h
     have HQ := Aside0.mk hq
     clear hq
     by_cases cq : q = true
     ·rw [if_pos cq] at h
      subst cq
      by_cases cl : l.length = l'.length
      ·rw [if_pos cl] at h
       have HH := Aside0.mk h
       have CL := Aside0.mk cl
       clear h cl
       go_enter Tryd.func84, Tryd.ntmps84
       go_wp2_with (first
        | (go_at_call 113; ((with_reducible refine (bytes_Equal.calls A1 c1 b B1 d1 b' true _ (Kd.C_below R1.out.1 (below_alloc (below_alloc (Below.refl _ _) _) _)) R1.out.2 (Kd.C_below Q1.out.1 (below_alloc (below_alloc (Below.refl _ _) _) _)) Q1.out.2 HQ.out).mono ?_); rintro ev w' ⟨rfl, ⟨m, rfl⟩⟩))
        | (go_at_call 114; ((with_reducible refine (equal_nodes _ A2 c2 l B2 d2 l' (fun x y => cbor_Item_same.f k x.f0 x.f1 x.f2 x.f3 y.f0 y.f1 y.f2 y.f3) (Kd.C_below R2.out.1 (pw_below_drewN (below_alloc (below_alloc (Below.refl _ _) _) _) _)) (Kd.C_below Q2.out (pw_below_drewN (below_alloc (below_alloc (Below.refl _ _) _) _) _)) R2.out.2 CL.out (fun W x y r A1 c1 A2 c2 B1 d1 B2 d2 _ hx h1 l1 h2 l2 g1 m1 g2 m2 => HF.out W x y r A1 c1 A2 c2 B1 d1 B2 d2 hx h1 l1 h2 l2 g1 m1 g2 m2) r HH.out).mono ?_); rintro ev w' ⟨rfl, hb'⟩; have HB := Aside0.mk (below_step (pw_below_drewN (below_alloc (below_alloc (Below.refl _ _) _) _) _) hb'); clear hb')))
       go_ret
       exact ⟨rfl, HB.out⟩
      ·rw [if_neg cl] at h
       obtain rfl := Option.some.inj h
       have CL := Aside0.mk cl
       clear h cl
       go_enter Tryd.func84, Tryd.ntmps84
       go_wp2_with (first
        | (go_at_call 113; ((with_reducible refine (bytes_Equal.calls A1 c1 b B1 d1 b' true _ (Kd.C_below R1.out.1 (below_alloc (below_alloc (Below.refl _ _) _) _)) R1.out.2 (Kd.C_below Q1.out.1 (below_alloc (below_alloc (Below.refl _ _) _) _)) Q1.out.2 HQ.out).mono ?_); rintro ev w' ⟨rfl, ⟨m, rfl⟩⟩))
        | (go_at_call 114; ((with_reducible refine (equal_ne _ A2 c2 l.length B2 d2 l'.length _ CL.out).mono ?_); rintro ev w' ⟨rfl, hb'⟩; have HB := Aside0.mk (below_step (pw_below_drewN (below_alloc (below_alloc (Below.refl _ _) _) _) _) hb'); clear hb')))
       go_ret
       exact ⟨rfl, HB.out⟩
     ·rw [if_neg cq] at h
      obtain rfl := Bool.eq_false_iff.mpr cq
      obtain rfl := Option.some.inj h
      clear h
      go_enter Tryd.func84, Tryd.ntmps84
      go_wp2_with (go_at_call 113; ((with_reducible refine (bytes_Equal.calls A1 c1 b B1 d1 b' false _ (Kd.C_below R1.out.1 (below_alloc (below_alloc (Below.refl _ _) _) _)) R1.out.2 (Kd.C_below Q1.out.1 (below_alloc (below_alloc (Below.refl _ _) _) _)) Q1.out.2 HQ.out).mono ?_); rintro ev w' ⟨rfl, ⟨m, rfl⟩⟩))
      go_ret
      exact ⟨rfl, pw_below_drewN (below_alloc (below_alloc (Below.refl _ _) _) _) _⟩
    ·rw [if_neg cn] at h
     have z2 : (n == n') = false := beq_eq_false_iff_ne.mpr cn
     obtain rfl := Option.some.inj h
     clear h cn
     go_enter Tryd.func84, Tryd.ntmps84
     go_wp2
     go_ret
     exact ⟨rfl, below_alloc (below_alloc (Below.refl _ _) _) _⟩
   ·rw [if_neg ct] at h
    have z1 : (t == t') = false := beq_eq_false_iff_ne.mpr ct
    obtain rfl := Option.some.inj h
    clear h ct
    go_enter Tryd.func84, Tryd.ntmps84
    go_wp2
    go_ret
    exact ⟨rfl, below_alloc (below_alloc (Below.refl _ _) _) _⟩
  ·rw [if_neg hl] at h
   cases h
end Go.Proofs.YthdjmojpnimhjaaDoor.PCbg
