/- Decimal numbers, and what stands between dots. -/
import Derived.Test.YtohmnlmeamkmjaaDoorZXPure
import Derived.Test.YtohmnlmeamkmjaaDoorZPParamsx7
import Derived.Test.YtohmnlmeamkmjaaDoorZPParamsx9
namespace Go.Proofs.YtohmnlmeamkmjaaDoor.PParams
open Go.RowKit Go.Proofs.YtohmnlmeamkmjaaDoorW.PrintWords Go.Proofs.YtohmnlmeamkmjaaDoorW.PrintLast Go.Proofs.YtohmnlmeamkmjaaDoorW.PrintMore Go.Proofs.YtohmnlmeamkmjaaDoorW.Pu
def isDig (c : UInt8) : Prop := 48 ≤ c.toNat ∧ c.toNat ≤ 57
instance (c : UInt8) : Decidable (isDig c) := by unfold isDig; infer_instance
theorem dd_small {u : Nat} (h : u < 10) : Lib.decDigits u = [UInt8.ofNat (48 + u)] := by rw [Lib.decDigits, dif_pos h]
theorem dd_big {u : Nat} (h : ¬ u < 10) : Lib.decDigits u = Lib.decDigits (u / 10) ++ [UInt8.ofNat (48 + u % 10)] := by rw [Lib.decDigits, dif_neg h]
theorem dd_len : ∀ (k u : Nat), u < 10 ^ (k + 1) → (Lib.decDigits u).length ≤ k + 1 := by
  intro k
  induction k with
  | zero => intro u h; rw [dd_small (by omega)]; simp
  | succ k ih =>
    intro u h
    by_cases h1 : u < 10
    · rw [dd_small h1]; simp
    · rw [dd_big h1, List.length_append]
      have := ih (u / 10) (by rw [Nat.pow_succ] at h; omega)
      simp only [List.length_cons, List.length_nil]
      omega
theorem joinG_cons2 (sep a : List UInt8) {r : List (List UInt8)} (h : r ≠ []) : joinG sep (a :: r) = a ++ sep ++ joinG sep r := by
  obtain ⟨b, s, rfl⟩ := List.exists_cons_of_ne_nil h
  simp [joinG]
theorem joinG_append (sep : List UInt8) : ∀ a b : List (List UInt8), a ≠ [] → b ≠ [] → joinG sep (a ++ b) = joinG sep a ++ sep ++ joinG sep b := by
  intro a
  induction a with
  | nil => intro b h; exact absurd rfl h
  | cons x r ih =>
    intro b _ hb
    by_cases hr : r = []
    · subst hr
      show joinG sep (x :: b) = joinG sep [x] ++ sep ++ joinG sep b
      rw [joinG_cons2 _ _ hb]
      rfl
    · show joinG sep (x :: (r ++ b)) = _
      rw [joinG_cons2 _ _ (by simp [hr]), ih b hr hb, joinG_cons2 _ _ hr]
      simp
end Go.Proofs.YtohmnlmeamkmjaaDoor.PParams
