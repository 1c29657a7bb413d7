import Derived.Test.YtgmnknhfeoleaaaGreatDoorZPXmssx0
import Derived.Test.YtgmnknhfeoleaaaGreatDoorZPXmssx7
namespace Go.Proofs.YtgmnknhfeoleaaaGreatDoor.PXmss
open Go.RowKit Go.Proofs.YtgmnknhfeoleaaaGreatDoorW.PrintWords Go.Proofs.YtgmnknhfeoleaaaGreatDoorW.PrintLast Go.Proofs.YtgmnknhfeoleaaaGreatDoorW.PrintMore
set_option linter.unusedVariables false
set_option linter.unusedSimpArgs false
def strconv_Itoa.f (a0 : Int) : Option ByteArray := if 0 ≤ a0 ∧ a0 < 1000000000 then some (dec a0.toNat) else none
theorem strconv_Itoa.calls (a0 : Int) (r : ByteArray) (w : World) (h : strconv_Itoa.f a0 = some r) (hG : GOK w) :
    Calls Tryz.prog 59 #[.int .i64 a0] w fun e w' => e = .returned (.string r) ∧ Below w.heap.size w w' := by
  rw [strconv_Itoa.f] at h
  by_cases c : 0 ≤ a0 ∧ a0 < 1000000000
  · rw [if_pos c] at h
    obtain rfl := Option.some.inj h
    obtain ⟨h0, h1⟩ := c
    obtain ⟨u, rfl⟩ := Int.eq_ofNat_of_zero_le h0
    have e : Lib.itoa (u : Int) = Lib.decDigits u := Lib.itoa_nonneg u
    rw [Int.toNat_natCast, dec_eq (by omega), ← e]
    refine (Tryz.strconv_Itoa (u : Int) (by omega) (by omega) w hG.tab).mono ?_
    rintro ev w' ⟨rfl, k, os, rfl⟩
    exact ⟨rfl, Lib.below_grow _ _ (Nat.le_refl _) _ _⟩
  · rw [if_neg c] at h
    cases h
end Go.Proofs.YtgmnknhfeoleaaaGreatDoor.PXmss
