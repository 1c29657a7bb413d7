import Derived.Test.YtgmnknhfeoleaaaGreatDoorZPXmssx0
namespace Go.Proofs.YtgmnknhfeoleaaaGreatDoor.PXmss
open Go.RowKit Go.Proofs.YtgmnknhfeoleaaaGreatDoorW.PrintWords Go.Proofs.YtgmnknhfeoleaaaGreatDoorW.PrintLast Go.Proofs.YtgmnknhfeoleaaaGreatDoorW.PrintMore
set_option linter.unusedVariables false
set_option linter.unusedSimpArgs false
theorem add_plain' (b o j : Nat) : (⟨b, o, none⟩ : Addr).add j = ⟨b, o + j, none⟩ := by unfold Addr.add; split <;> simp_all
theorem plain_of_cell {w : World} {ad : Addr} {v : Value} (h : w.cell? ad = some v) : ad = ⟨ad.block, ad.off, none⟩ := by
 obtain ⟨b, o, s⟩ := ad
 cases s with
 | none => rfl
 | some s =>
  exfalso
  unfold World.cell? at h
  revert h
  dsimp only
  split <;> simp
theorem block_of_cell {w : World} {ad : Addr} {v : Value} (h : w.cell? ad = some v) : ad.block < w.heap.size := World.block_lt_of_cell? w ad h
theorem row_plain {k : IntKind} {w : World} {A : Option Addr} {n : Nat} {xs : List Int} (h : Kd.C (Kd.int k) w A n xs) (hn : 0 < n) :
  ∃ b o, A = some ⟨b, o, none⟩ ∧ xs.length = n ∧ n ≤ 9223372036854775807 ∧ b < w.heap.size ∧ ∀ j, j < xs.length → w.cell? ⟨b, o + j, none⟩ = some (.int k xs[j]!) := by
 have hr := Kd.reads_of_C (d := (0 : Int)) h
 obtain ⟨ad, ea, hc⟩ := hr.2.2 hn
 have h0 := hc 0 hn
 rw [show ad.add 0 = ad from rfl] at h0
 have hp := plain_of_cell h0
 refine ⟨ad.block, ad.off, by rw [ea, ← hp], hr.1, hr.2.1, block_of_cell h0, fun j hj => ?_⟩
 have h1 := hc j (by rw [← hr.1]; exact hj)
 rw [hp, add_plain'] at h1
 rw [h1]
 simp [List.getD_eq_getElem?_getD, List.getElem?_eq_getElem hj, List.getElem!_eq_getElem?_getD]
def validB (l : List Int) : Bool := decide (2 ≤ l.length) && (decide (l.length ≤ 20) && (decide (rd l 0 ≤ 2) && ((!(decide (rd l 0 < 2) && decide (40 ≤ rd l 1))) && !(l.any fun n => decide (n ≥ 4294967216)))))
def oid_Valid.f (l0 : List Int) : Option Bool := some (validB l0)
theorem pred_most (w : World) : PredAt Tryz.prog 87 #[] (fun n : Int => Value.int .u32 n) (fun n => decide (n ≥ 4294967216)) w := fun W r _ => by
 unfold FnGives
 go_enter Tryz.func87, Tryz.ntmps87
 go_wp2
 go_ret
 exact ⟨rfl, 0, rfl⟩
set_option maxHeartbeats 4000000 in
theorem oid_Valid.calls (A0 : Option Addr) (c0 : Nat) (l0 : List Int) (r : Bool) (w : World) (hr0 : Kd.C (Kd.int .u32) w A0 l0.length l0) (hc0 : l0.length ≤ c0) (h : oid_Valid.f l0 = some r) :
  Calls Tryz.prog 75 #[.slice A0 l0.length c0] w fun e w' => e = .returned (.bool r) ∧ Drawn0 w w' := by
 obtain rfl : validB l0 = r := Option.some.inj h
 clear h
 have e42 : ∀ args w, (callFunc 87 args).run Tryz.prog w = .ok (.enter 87 args) w := enters_of Tryz.func87 (by kernel_rfl) rfl
 by_cases c1 : l0.length < 2
 ·have b1 : decide ((l0.length : Int) < 2) = true := decide_eq_true (by omega)
  have hv : validB l0 = false := by rw [validB, decide_eq_false (by omega)]; rfl
  rw [hv]
  go_enter Tryz.func75, Tryz.ntmps75
  go_wp2
  go_ret
  exact ⟨rfl, Drawn0.refl _⟩
 ·have b1 : decide ((l0.length : Int) < 2) = false := decide_eq_false (by omega)
  by_cases c2 : 20 < l0.length
  ·have b2 : decide ((l0.length : Int) > 20) = true := decide_eq_true (by omega)
   have hv : validB l0 = false := by rw [validB, decide_eq_false (show ¬ l0.length ≤ 20 by omega), Bool.false_and, Bool.and_false]
   rw [hv]
   go_enter Tryz.func75, Tryz.ntmps75
   go_wp2
   go_ret
   exact ⟨rfl, Drawn0.refl _⟩
  ·have b2 : decide ((l0.length : Int) > 20) = false := decide_eq_false (by omega)
   obtain ⟨b, o, rfl, _, hmx, hblk, hcell⟩ := row_plain hr0 (by omega)
   have x0 : w.cell? ⟨b, o, none⟩ = some (.int .u32 (rd l0 0)) := by
    have := hcell 0 (by omega)
    rw [Nat.add_zero] at this
    rw [this]; simp [rd, List.getD_eq_getElem?_getD, List.getElem!_eq_getElem?_getD]
   have x1 : w.cell? ⟨b, o + 1, none⟩ = some (.int .u32 (rd l0 1)) := by
    have := hcell 1 (by omega)
    rw [this]; simp [rd, List.getD_eq_getElem?_getD, List.getElem!_eq_getElem?_getD]
   have hcon := Tryz.slices_ContainsFunc (fun n : Int => Value.int .u32 n) (fun n => decide (n ≥ 4294967216)) 87 #[] e42 b o l0.length c0 l0 w (pred_most w) (Nat.le_refl _) hmx hcell
   rw [List.take_length] at hcon
   have i0 : (0 < l0.length) = True := eq_true (by omega)
   have i1 : (1 < l0.length) = True := eq_true (by omega)
   have j0 : ((0 : Int) < (l0.length : Int)) = True := eq_true (by omega)
   have j1 : ((1 : Int) < (l0.length : Int)) = True := eq_true (by omega)
   have HC := Aside0.mk hcon
   have v1 : decide (2 ≤ l0.length) = true := decide_eq_true (by omega)
   have v2 : decide (l0.length ≤ 20) = true := decide_eq_true (by omega)
   have V : validB l0 = (decide (rd l0 0 ≤ 2) && ((!(decide (rd l0 0 < 2) && decide (40 ≤ rd l0 1))) && !(l0.any fun n => decide (n ≥ 4294967216)))) := by rw [validB, v1, v2, Bool.true_and, Bool.true_and]
   rw [V]
   clear V v1 v2 hcon hcell hr0
   generalize (l0.any fun n => decide (n ≥ 4294967216)) = B at HC
   generalize rd l0 0 = X at *
   generalize rd l0 1 = Y at *
   by_cases c3 : X > 2
   ·have b3 : decide (X > 2) = true := decide_eq_true c3
    have b4 : decide (X ≤ 2) = false := decide_eq_false (by omega)
    rw [b4, Bool.false_and]
    go_enter Tryz.func75, Tryz.ntmps75
    go_wp2
    go_ret
    exact ⟨rfl, Drawn0.refl _⟩
   ·have b3 : decide (X > 2) = false := decide_eq_false c3
    have b4 : decide (X ≤ 2) = true := decide_eq_true (by omega)
    rw [b4, Bool.true_and]
    by_cases c4 : X < 2
    ·have b5 : decide (X < 2) = true := decide_eq_true c4
     by_cases c5 : Y ≥ 40
     ·have b6 : decide (Y ≥ 40) = true := decide_eq_true c5
      have b7 : decide (40 ≤ Y) = true := decide_eq_true c5
      rw [b5, b7]
      go_enter Tryz.func75, Tryz.ntmps75
      go_wp2
      go_ret
      exact ⟨rfl, Drawn0.refl _⟩
     ·have b6 : decide (Y ≥ 40) = false := decide_eq_false c5
      have b7 : decide (40 ≤ Y) = false := decide_eq_false c5
      rw [b5, b7]
      go_enter Tryz.func75, Tryz.ntmps75
      go_wp2_with (go_at_call 86; ((with_reducible refine (HC.out).mono ?_); rintro e w' ⟨rfl, q, rfl⟩))
      go_ret
      exact ⟨by simp, ⟨_, rfl⟩⟩
    ·have b5 : decide (X < 2) = false := decide_eq_false c4
     rw [b5]
     go_enter Tryz.func75, Tryz.ntmps75
     go_wp2_with (go_at_call 86; ((with_reducible refine (HC.out).mono ?_); rintro e w' ⟨rfl, q, rfl⟩))
     go_ret
     exact ⟨by simp, ⟨_, rfl⟩⟩
end Go.Proofs.YtgmnknhfeoleaaaGreatDoor.PXmss

namespace Go.Proofs.YtgmnknhfeoleaaaGreatDoor.PXmss
open Go.RowKit Go.Proofs.YtgmnknhfeoleaaaGreatDoorW.PrintWords Go.Proofs.YtgmnknhfeoleaaaGreatDoorW.PrintLast Go.Proofs.YtgmnknhfeoleaaaGreatDoorW.PrintMore
set_option linter.unusedVariables false
set_option linter.unusedSimpArgs false
def joinG (sep : List UInt8) : List (List UInt8) → List UInt8
 | [] => []
 | [x] => x
 | x :: y :: r => x ++ (sep ++ joinG sep (y :: r))
theorem joinG_eq (sep : List UInt8) : ∀ l : List (List UInt8), joinG sep l = Lib.join l sep
 | [] => rfl
 | [x] => by rw [joinG, Lib.join_one]
 | x :: y :: r => by
  rw [joinG, joinG_eq sep (y :: r), Lib.join_cons, Lib.join_cons]
  simp [Lib.joinTail]
def strings_Join.f (l0 : List ByteArray) (a1 : ByteArray) : Option ByteArray := if l0.length ≤ 1000000 ∧ (joinG a1.data.toList (l0.map (·.data.toList))).length ≤ 1000000000 then some ⟨(joinG a1.data.toList (l0.map (·.data.toList))).toArray⟩ else none
theorem strings_plain {w : World} {A : Option Addr} {n : Nat} {xs : List ByteArray} (h : Kd.C Kd.string w A n xs) (hn : 0 < n) :
  ∃ b o, A = some ⟨b, o, none⟩ ∧ b < w.heap.size ∧ ∀ (j : Nat) x, xs[j]? = some x → w.cell? ⟨b, o + j, none⟩ = some (.string x) := by
 have hlen : xs.length = n := h.1
 have each : ∀ i : Nat, i < n → ∃ ad, A = some ad ∧ w.cell? (ad.add i) = some (.string (xs.getD i ⟨#[]⟩)) := by
  intro i hi
  obtain ⟨ad, c, ea, _, hK, hcc⟩ := Kd.C_get h (⟨#[]⟩ : ByteArray) (i : Int) (by omega) (by omega)
  obtain rfl : c = [.string (xs.getD (i : Int).toNat ⟨#[]⟩)] := hK
  have h0 := hcc 0 _ rfl
  rw [Int.toNat_natCast, show i * Kd.string.sz + 0 = i from Nat.mul_one i] at h0
  exact ⟨ad, ea, h0⟩
 obtain ⟨ad, ea, h0⟩ := each 0 hn
 have hp := plain_of_cell h0
 rw [show ad.add 0 = ad from rfl] at hp h0
 refine ⟨ad.block, ad.off, by rw [ea, ← hp], block_of_cell h0, fun j x hx => ?_⟩
 have hj : j < xs.length := (List.getElem?_eq_some_iff.1 hx).1
 obtain ⟨ad2, ea2, h1⟩ := each j (by omega)
 rw [ea] at ea2
 obtain rfl := Option.some.inj ea2
 rw [hp, add_plain'] at h1
 rw [h1, List.getD_eq_getElem?_getD, hx]
 rfl
theorem strings_Join.calls (A0 : Option Addr) (c0 : Nat) (l0 : List ByteArray) (a1 r : ByteArray) (w : World) (hr0 : Kd.C Kd.string w A0 l0.length l0) (hc0 : l0.length ≤ c0) (h : strings_Join.f l0 a1 = some r) :
  Calls Tryz.prog 85 #[.slice A0 l0.length c0, .string a1] w fun e w' => e = .returned (.string r) ∧ Below w.heap.size w w' := by
 rw [strings_Join.f] at h
 split at h
 case isFalse => cases h
 rename_i c
 obtain rfl := Option.some.inj h
 clear h
 rw [joinG_eq] at c ⊢
 rcases Nat.eq_zero_or_pos l0.length with h0 | h0
 ·obtain rfl := List.eq_nil_of_length_eq_zero h0
  refine (Tryz.strings_Join_none A0 c0 a1 w).mono ?_
  rintro e w' ⟨rfl, rfl⟩
  exact ⟨rfl, Below.refl _ _⟩
 ·obtain ⟨b, o, rfl, hb, hcell⟩ := strings_plain hr0 h0
  exact Tryz.strings_Join b o c0 l0 a1 w hcell hb (by omega) hc0 (by omega)
end Go.Proofs.YtgmnknhfeoleaaaGreatDoor.PXmss
