/- Decimal numbers, and what stands between dots. -/
import Derived.Test.YtohmnlmeamkmjaaDoorZXPure
import Derived.Test.YtohmnlmeamkmjaaDoorZPOidx17
import Derived.Test.YtohmnlmeamkmjaaDoorZPOidx7
namespace Go.Proofs.YtohmnlmeamkmjaaDoor.POid
open Go.RowKit Go.Proofs.YtohmnlmeamkmjaaDoorW.PrintWords Go.Proofs.YtohmnlmeamkmjaaDoorW.PrintLast Go.Proofs.YtohmnlmeamkmjaaDoorW.PrintMore Go.Proofs.YtohmnlmeamkmjaaDoorW.Pu
def dval : Nat → List UInt8 → Nat
  | acc, [] => acc
  | acc, c :: r => dval (acc * 10 + (c.toNat - 48)) r
def isDig (c : UInt8) : Prop := 48 ≤ c.toNat ∧ c.toNat ≤ 57
instance (c : UInt8) : Decidable (isDig c) := by unfold isDig; infer_instance
theorem dval_append : ∀ (a b : List UInt8) (acc : Nat), dval acc (a ++ b) = dval (dval acc a) b := by
  intro a
  induction a with
  | nil => intro b acc; rfl
  | cons c r ih => intro b acc; exact ih b _
theorem ofNat_dig {d : Nat} (h : d < 10) : (UInt8.ofNat (48 + d)).toNat = 48 + d := by
  rw [UInt8.toNat_ofNat']; omega
theorem dd_small {u : Nat} (h : u < 10) : Lib.decDigits u = [UInt8.ofNat (48 + u)] := by rw [Lib.decDigits, dif_pos h]
theorem dd_big {u : Nat} (h : ¬ u < 10) : Lib.decDigits u = Lib.decDigits (u / 10) ++ [UInt8.ofNat (48 + u % 10)] := by rw [Lib.decDigits, dif_neg h]
theorem dd_val (u : Nat) : dval 0 (Lib.decDigits u) = u := by
  induction u using Nat.strongRecOn with
  | ind u ih =>
    by_cases h : u < 10
    · rw [dd_small h]
      show 0 * 10 + ((UInt8.ofNat (48 + u)).toNat - 48) = u
      rw [ofNat_dig h]
      omega
    · rw [dd_big h, dval_append, ih (u / 10) (by omega)]
      show u / 10 * 10 + ((UInt8.ofNat (48 + u % 10)).toNat - 48) = u
      rw [ofNat_dig (by omega)]
      omega
theorem dd_dig (u : Nat) : ∀ c ∈ Lib.decDigits u, isDig c := by
  induction u using Nat.strongRecOn with
  | ind u ih =>
    intro c hc
    by_cases h : u < 10
    · rw [dd_small h, List.mem_singleton] at hc
      subst hc
      unfold isDig
      rw [ofNat_dig h]
      omega
    · rw [dd_big h, List.mem_append, List.mem_singleton] at hc
      rcases hc with hc | rfl
      · exact ih _ (by omega) c hc
      · unfold isDig
        rw [ofNat_dig (by omega)]
        omega
theorem dd_ne (u : Nat) : Lib.decDigits u ≠ [] := by
  by_cases h : u < 10
  · rw [dd_small h]; simp
  · rw [dd_big h]; simp
theorem dd_head : ∀ u : Nat, 1 ≤ u → ∀ c, (Lib.decDigits u).head? = some c → c.toNat ≠ 48 := by
  intro u
  induction u using Nat.strongRecOn with
  | ind u ih =>
    intro h1 c hc
    by_cases h : u < 10
    · rw [dd_small h] at hc
      simp only [List.head?_cons, Option.some.injEq] at hc
      subst hc
      rw [ofNat_dig h]
      omega
    · rw [dd_big h, List.head?_append] at hc
      obtain ⟨x, r, e⟩ := List.exists_cons_of_ne_nil (dd_ne (u / 10))
      have hx : (Lib.decDigits (u / 10)).head? = some x := by rw [e]; rfl
      rw [hx] at hc
      simp only [Option.some_or, Option.some.injEq] at hc
      subst hc
      exact ih (u / 10) (by omega) (by omega) x hx
theorem dd_len : ∀ (k u : Nat), u < 10 ^ (k + 1) → (Lib.decDigits u).length ≤ k + 1 := by
  intro k
  induction k with
  | zero => intro u h; rw [dd_small (by omega)]; simp
  | succ k ih =>
    intro u h
    by_cases h1 : u < 10
    · rw [dd_small h1]; simp
    · rw [dd_big h1, List.length_append]
      have := ih (u / 10) (by rw [Nat.pow_succ] at h; omega)
      simp only [List.length_cons, List.length_nil]
      omega
def canon (w : List UInt8) : Prop := w ≠ [] ∧ (∀ c ∈ w, isDig c) ∧ (1 < w.length → ∀ c, w.head? = some c → c.toNat ≠ 48)
theorem dd_canon (u : Nat) : canon (Lib.decDigits u) := by
  refine ⟨dd_ne u, dd_dig u, fun hl c hc => ?_⟩
  by_cases h : u < 10
  · rw [dd_small h] at hl; simp at hl
  · exact dd_head u (by omega) c hc
theorem dval_ge : ∀ (l : List UInt8) (acc : Nat), acc ≤ dval acc l := by
  intro l
  induction l with
  | nil => intro acc; exact Nat.le_refl _
  | cons c r ih => intro acc; exact Nat.le_trans (show acc ≤ acc * 10 + (c.toNat - 48) by omega) (ih _)
theorem canon_dd : ∀ (k : Nat) (w : List UInt8), w.length = k → canon w → w = Lib.decDigits (dval 0 w) := by
  intro k
  induction k with
  | zero => intro w hk h; exact absurd (List.eq_nil_of_length_eq_zero hk) h.1
  | succ k ih =>
    intro w hk h
    have e := (List.dropLast_concat_getLast h.1)
    generalize hc : w.getLast h.1 = c at e
    generalize ha : w.dropLast = a at e
    subst e
    have hd : isDig c := h.2.1 c (by simp)
    obtain ⟨d0, d1⟩ := hd
    have hof : UInt8.ofNat (48 + (c.toNat - 48)) = c := by rw [show 48 + (c.toNat - 48) = c.toNat by omega]; exact UInt8.ofNat_toNat
    rcases List.eq_nil_or_concat a with rfl | _
    · rw [List.nil_append]
      show [c] = Lib.decDigits (0 * 10 + (c.toNat - 48))
      rw [dd_small (by omega), show 0 * 10 + (c.toNat - 48) = c.toNat - 48 by omega, hof]
    · by_cases hne : a = []
      · subst hne
        rw [List.nil_append]
        show [c] = Lib.decDigits (0 * 10 + (c.toNat - 48))
        rw [dd_small (by omega), show 0 * 10 + (c.toNat - 48) = c.toNat - 48 by omega, hof]
      · obtain ⟨x, r, rfl⟩ := List.exists_cons_of_ne_nil hne
        have hx0 : x.toNat ≠ 48 := h.2.2 (by simp) x (by simp)
        have hxd : isDig x := h.2.1 x (by simp)
        have hca : canon (x :: r) := ⟨hne, fun y hy => h.2.1 y (by simp only [List.mem_append]; exact .inl hy), fun _ y hy => by
          simp only [List.head?_cons, Option.some.injEq] at hy
          subst hy
          exact hx0⟩
        have hi := ih (x :: r) (by simp at hk ⊢; omega) hca
        have hv : 1 ≤ dval 0 (x :: r) := by
          obtain ⟨p, q⟩ := hxd
          exact Nat.le_trans (show 1 ≤ 0 * 10 + (x.toNat - 48) by omega) (dval_ge r (0 * 10 + (x.toNat - 48)))
        rw [dval_append]
        generalize hvv : dval 0 (x :: r) = v at hv hi
        show x :: r ++ [c] = Lib.decDigits (v * 10 + (c.toNat - 48))
        rw [dd_big (by omega), show (v * 10 + (c.toNat - 48)) / 10 = v by omega, show (v * 10 + (c.toNat - 48)) % 10 = c.toNat - 48 by omega, ← hi, hof]
theorem pm_append (M : Nat) : ∀ (a b : List UInt8) (acc v : Nat), Lib.parseUintM M acc a = .ok v → Lib.parseUintM M acc (a ++ b) = Lib.parseUintM M v b := by
  intro a
  induction a with
  | nil => intro b acc v h; simp only [Lib.parseUintM, Lib.NumEnd.ok.injEq] at h; subst h; rfl
  | cons c r ih =>
    intro b acc v h
    simp only [Lib.parseUintM, List.cons_append] at h ⊢
    split at h
    · rename_i h1
      rw [if_pos h1]
      split at h
      · cases h
      · rename_i h2
        rw [if_neg h2]
        split at h
        · cases h
        · rename_i h3
          rw [if_neg h3]
          exact ih b _ v h
    · cases h
theorem pm_dd (M : Nat) (hM : M < 18446744073709551616) : ∀ u : Nat, u ≤ M → Lib.parseUintM M 0 (Lib.decDigits u) = .ok u := by
  intro u
  induction u using Nat.strongRecOn with
  | ind u ih =>
    intro hu
    by_cases h : u < 10
    · rw [dd_small h]
      simp only [Lib.parseUintM, ofNat_dig h]
      rw [if_pos (by omega), if_neg (by omega), if_neg (by omega)]
      congr 1
      omega
    · rw [dd_big h, pm_append M _ _ _ _ (ih (u / 10) (by omega) (by omega))]
      simp only [Lib.parseUintM, ofNat_dig (show u % 10 < 10 by omega)]
      rw [if_pos (by omega), if_neg (by omega), if_neg (by omega)]
      congr 1
      omega
theorem pu_dd {u : Nat} (h : u < 4294967296) : Lib.parseUintB 32 (Lib.decDigits u) = .ok u := by
  rw [Lib.parseUintB, if_neg (dd_ne u)]
  exact pm_dd _ (by decide) u (by omega)
theorem pm_le (M : Nat) : ∀ (l : List UInt8) (acc u : Nat), acc ≤ M → Lib.parseUintM M acc l = .ok u → u ≤ M := by
  intro l
  induction l with
  | nil => intro acc u ha h; simp only [Lib.parseUintM, Lib.NumEnd.ok.injEq] at h; omega
  | cons c r ih =>
    intro acc u ha h
    simp only [Lib.parseUintM] at h
    split at h
    · split at h
      · cases h
      · split at h
        · cases h
        · exact ih _ u (by omega) h
    · cases h
theorem pu_lt {l : List UInt8} {u : Nat} (h : Lib.parseUintB 32 l = .ok u) : u < 4294967296 := by
  rw [Lib.parseUintB] at h
  split at h
  · cases h
  · have := pm_le _ l 0 u (by omega) h
    omega
theorem spl_ne : ∀ (l cur : List UInt8), spl cur l ≠ [] := by
  intro l
  induction l with
  | nil => intro cur; simp [spl]
  | cons c r ih =>
    intro cur
    rw [spl]
    split
    · simp
    · exact ih _
theorem joinG_cons2 (sep a : List UInt8) {r : List (List UInt8)} (h : r ≠ []) : joinG sep (a :: r) = a ++ sep ++ joinG sep r := by
  obtain ⟨b, s, rfl⟩ := List.exists_cons_of_ne_nil h
  simp [joinG]
theorem join_spl : ∀ (l cur : List UInt8), joinG [46] (spl cur l) = cur ++ l := by
  intro l
  induction l with
  | nil => intro cur; simp [spl, joinG]
  | cons c r ih =>
    intro cur
    rw [spl]
    split
    · rename_i h
      subst h
      rw [joinG_cons2 _ _ (spl_ne r []), ih]
      simp
    · rw [ih]
      simp
theorem spl_dot : ∀ (a r cur : List UInt8), (∀ x ∈ a, x ≠ 46) → spl cur (a ++ 46 :: r) = (cur ++ a) :: spl [] r := by
  intro a r cur h
  rw [spl_skip a cur _ h, spl, if_pos rfl]
theorem spl_join : ∀ ws : List (List UInt8), ws ≠ [] → (∀ w ∈ ws, ∀ x ∈ w, x ≠ 46) → spl [] (joinG [46] ws) = ws := by
  intro ws
  induction ws with
  | nil => intro h; exact absurd rfl h
  | cons a r ih =>
    intro _ h
    by_cases hr : r = []
    · subst hr
      have := spl_skip a [] [] (h a (by simp))
      simp only [List.append_nil, List.nil_append] at this
      show spl [] a = [a]
      rw [this]
      rfl
    · rw [joinG_cons2 _ _ hr, List.append_assoc]
      show spl [] (a ++ 46 :: joinG [46] r) = a :: r
      rw [spl_dot a _ [] (h a (by simp)), ih hr (fun w hw => h w (List.mem_cons_of_mem _ hw))]
      rfl
theorem joinG_append (sep : List UInt8) : ∀ a b : List (List UInt8), a ≠ [] → b ≠ [] → joinG sep (a ++ b) = joinG sep a ++ sep ++ joinG sep b := by
  intro a
  induction a with
  | nil => intro b h; exact absurd rfl h
  | cons x r ih =>
    intro b _ hb
    by_cases hr : r = []
    · subst hr
      show joinG sep (x :: b) = joinG sep [x] ++ sep ++ joinG sep b
      rw [joinG_cons2 _ _ hb]
      rfl
    · show joinG sep (x :: (r ++ b)) = _
      rw [joinG_cons2 _ _ (by simp [hr]), ih b hr hb, joinG_cons2 _ _ hr]
      simp
theorem dd_dot (u : Nat) : ∀ x ∈ Lib.decDigits u, x ≠ 46 := by
  intro x hx h
  subst h
  have := (dd_dig u _ hx).1
  revert this
  decide
end Go.Proofs.YtohmnlmeamkmjaaDoor.POid
