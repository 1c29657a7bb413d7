/- Decimal numbers, and what stands between dots. -/
import Derived.Test.YtohmnlmeamkmjaaDoorZXPure
import Derived.Test.YtohmnlmeamkmjaaDoorZPParamsx7
import Derived.Test.YtohmnlmeamkmjaaDoorZPParamsx9
namespace Go.Proofs.YtohmnlmeamkmjaaDoor.PParams
open Go.RowKit Go.Proofs.YtohmnlmeamkmjaaDoorW.PrintWords Go.Proofs.YtohmnlmeamkmjaaDoorW.PrintLast Go.Proofs.YtohmnlmeamkmjaaDoorW.PrintMore Go.Proofs.YtohmnlmeamkmjaaDoorW.Pu
def dval : Nat → List UInt8 → Nat
  | acc, [] => acc
  | acc, c :: r => dval (acc * 10 + (c.toNat - 48)) r
def isDig (c : UInt8) : Prop := 48 ≤ c.toNat ∧ c.toNat ≤ 57
instance (c : UInt8) : Decidable (isDig c) := by unfold isDig; infer_instance
theorem dval_append : ∀ (a b : List UInt8) (acc : Nat), dval acc (a ++ b) = dval (dval acc a) b := by
  intro a
  induction a with
  | nil => intro b acc; rfl
  | cons c r ih => intro b acc; exact ih b _
theorem ofNat_dig {d : Nat} (h : d < 10) : (UInt8.ofNat (48 + d)).toNat = 48 + d := by
  rw [UInt8.toNat_ofNat']; omega
theorem dd_small {u : Nat} (h : u < 10) : Lib.decDigits u = [UInt8.ofNat (48 + u)] := by rw [Lib.decDigits, dif_pos h]
theorem dd_big {u : Nat} (h : ¬ u < 10) : Lib.decDigits u = Lib.decDigits (u / 10) ++ [UInt8.ofNat (48 + u % 10)] := by rw [Lib.decDigits, dif_neg h]
theorem dd_val (u : Nat) : dval 0 (Lib.decDigits u) = u := by
  induction u using Nat.strongRecOn with
  | ind u ih =>
    by_cases h : u < 10
    · rw [dd_small h]
      show 0 * 10 + ((UInt8.ofNat (48 + u)).toNat - 48) = u
      rw [ofNat_dig h]
      omega
    · rw [dd_big h, dval_append, ih (u / 10) (by omega)]
      show u / 10 * 10 + ((UInt8.ofNat (48 + u % 10)).toNat - 48) = u
      rw [ofNat_dig (by omega)]
      omega
theorem dd_dig (u : Nat) : ∀ c ∈ Lib.decDigits u, isDig c := by
  induction u using Nat.strongRecOn with
  | ind u ih =>
    intro c hc
    by_cases h : u < 10
    · rw [dd_small h, List.mem_singleton] at hc
      subst hc
      unfold isDig
      rw [ofNat_dig h]
      omega
    · rw [dd_big h, List.mem_append, List.mem_singleton] at hc
      rcases hc with hc | rfl
      · exact ih _ (by omega) c hc
      · unfold isDig
        rw [ofNat_dig (by omega)]
        omega
theorem dd_len : ∀ (k u : Nat), u < 10 ^ (k + 1) → (Lib.decDigits u).length ≤ k + 1 := by
  intro k
  induction k with
  | zero => intro u h; rw [dd_small (by omega)]; simp
  | succ k ih =>
    intro u h
    by_cases h1 : u < 10
    · rw [dd_small h1]; simp
    · rw [dd_big h1, List.length_append]
      have := ih (u / 10) (by rw [Nat.pow_succ] at h; omega)
      simp only [List.length_cons, List.length_nil]
      omega
theorem joinG_cons2 (sep a : List UInt8) {r : List (List UInt8)} (h : r ≠ []) : joinG sep (a :: r) = a ++ sep ++ joinG sep r := by
  obtain ⟨b, s, rfl⟩ := List.exists_cons_of_ne_nil h
  simp [joinG]
theorem spl_dot : ∀ (a r cur : List UInt8), (∀ x ∈ a, x ≠ 46) → spl cur (a ++ 46 :: r) = (cur ++ a) :: spl [] r := by
  intro a r cur h
  rw [spl_skip a cur _ h, spl, if_pos rfl]
theorem spl_join : ∀ ws : List (List UInt8), ws ≠ [] → (∀ w ∈ ws, ∀ x ∈ w, x ≠ 46) → spl [] (joinG [46] ws) = ws := by
  intro ws
  induction ws with
  | nil => intro h; exact absurd rfl h
  | cons a r ih =>
    intro _ h
    by_cases hr : r = []
    · subst hr
      have := spl_skip a [] [] (h a (by simp))
      simp only [List.append_nil, List.nil_append] at this
      show spl [] a = [a]
      rw [this]
      rfl
    · rw [joinG_cons2 _ _ hr, List.append_assoc]
      show spl [] (a ++ 46 :: joinG [46] r) = a :: r
      rw [spl_dot a _ [] (h a (by simp)), ih hr (fun w hw => h w (List.mem_cons_of_mem _ hw))]
      rfl
theorem joinG_append (sep : List UInt8) : ∀ a b : List (List UInt8), a ≠ [] → b ≠ [] → joinG sep (a ++ b) = joinG sep a ++ sep ++ joinG sep b := by
  intro a
  induction a with
  | nil => intro b h; exact absurd rfl h
  | cons x r ih =>
    intro b _ hb
    by_cases hr : r = []
    · subst hr
      show joinG sep (x :: b) = joinG sep [x] ++ sep ++ joinG sep b
      rw [joinG_cons2 _ _ hb]
      rfl
    · show joinG sep (x :: (r ++ b)) = _
      rw [joinG_cons2 _ _ (by simp [hr]), ih b hr hb, joinG_cons2 _ _ hr]
      simp
theorem dd_dot (u : Nat) : ∀ x ∈ Lib.decDigits u, x ≠ 46 := by
  intro x hx h
  subst h
  have := (dd_dig u _ hx).1
  revert this
  decide
end Go.Proofs.YtohmnlmeamkmjaaDoor.PParams
