import Derived.Test.YtgmnknhfeoleaaaGreatDoorZPXmssx0
import Derived.Test.YtgmnknhfeoleaaaGreatDoorZPXmssx6
namespace Go.Proofs.YtgmnknhfeoleaaaGreatDoor.PXmss
open Go.RowKit Go.Proofs.YtgmnknhfeoleaaaGreatDoorW.PrintWords Go.Proofs.YtgmnknhfeoleaaaGreatDoorW.PrintLast Go.Proofs.YtgmnknhfeoleaaaGreatDoorW.PrintMore
set_option linter.unusedVariables false
set_option linter.unusedSimpArgs false
def joinG (sep : List UInt8) : List (List UInt8) → List UInt8
  | [] => []
  | [x] => x
  | x :: y :: r => x ++ (sep ++ joinG sep (y :: r))
theorem joinG_eq (sep : List UInt8) : ∀ l : List (List UInt8), joinG sep l = Lib.join l sep
  | [] => rfl
  | [x] => by rw [joinG, Lib.join_one]
  | x :: y :: r => by
    rw [joinG, joinG_eq sep (y :: r), Lib.join_cons, Lib.join_cons]
    simp [Lib.joinTail]
def strings_Join.f (l0 : List ByteArray) (a1 : ByteArray) : Option ByteArray := if l0.length ≤ 1000000 ∧ (joinG a1.data.toList (l0.map (·.data.toList))).length ≤ 1000000000 then some ⟨(joinG a1.data.toList (l0.map (·.data.toList))).toArray⟩ else none
theorem strings_plain {w : World} {A : Option Addr} {n : Nat} {xs : List ByteArray} (h : Kd.C Kd.string w A n xs) (hn : 0 < n) :
    ∃ b o, A = some ⟨b, o, none⟩ ∧ b < w.heap.size ∧ ∀ (j : Nat) x, xs[j]? = some x → w.cell? ⟨b, o + j, none⟩ = some (.string x) := by
  have hlen : xs.length = n := h.1
  have each : ∀ i : Nat, i < n → ∃ ad, A = some ad ∧ w.cell? (ad.add i) = some (.string (xs.getD i ⟨#[]⟩)) := by
    intro i hi
    obtain ⟨ad, c, ea, _, hK, hcc⟩ := Kd.C_get h (⟨#[]⟩ : ByteArray) (i : Int) (by omega) (by omega)
    obtain rfl : c = [.string (xs.getD (i : Int).toNat ⟨#[]⟩)] := hK
    have h0 := hcc 0 _ rfl
    rw [Int.toNat_natCast, show i * Kd.string.sz + 0 = i from Nat.mul_one i] at h0
    exact ⟨ad, ea, h0⟩
  obtain ⟨ad, ea, h0⟩ := each 0 hn
  have hp := plain_of_cell h0
  rw [show ad.add 0 = ad from rfl] at hp h0
  refine ⟨ad.block, ad.off, by rw [ea, ← hp], block_of_cell h0, fun j x hx => ?_⟩
  have hj : j < xs.length := (List.getElem?_eq_some_iff.1 hx).1
  obtain ⟨ad2, ea2, h1⟩ := each j (by omega)
  rw [ea] at ea2
  obtain rfl := Option.some.inj ea2
  rw [hp, add_plain'] at h1
  rw [h1, List.getD_eq_getElem?_getD, hx]
  rfl
theorem strings_Join.calls (A0 : Option Addr) (c0 : Nat) (l0 : List ByteArray) (a1 r : ByteArray) (w : World) (hr0 : Kd.C Kd.string w A0 l0.length l0) (hc0 : l0.length ≤ c0) (h : strings_Join.f l0 a1 = some r) :
    Calls Tryz.prog 85 #[.slice A0 l0.length c0, .string a1] w fun e w' => e = .returned (.string r) ∧ Below w.heap.size w w' := by
  rw [strings_Join.f] at h
  split at h
  case isFalse => cases h
  rename_i c
  obtain rfl := Option.some.inj h
  clear h
  rw [joinG_eq] at c ⊢
  rcases Nat.eq_zero_or_pos l0.length with h0 | h0
  · obtain rfl := List.eq_nil_of_length_eq_zero h0
    refine (Tryz.strings_Join_none A0 c0 a1 w).mono ?_
    rintro e w' ⟨rfl, rfl⟩
    exact ⟨rfl, Below.refl _ _⟩
  · obtain ⟨b, o, rfl, hb, hcell⟩ := strings_plain hr0 h0
    exact Tryz.strings_Join b o c0 l0 a1 w hcell hb (by omega) hc0 (by omega)
end Go.Proofs.YtgmnknhfeoleaaaGreatDoor.PXmss
