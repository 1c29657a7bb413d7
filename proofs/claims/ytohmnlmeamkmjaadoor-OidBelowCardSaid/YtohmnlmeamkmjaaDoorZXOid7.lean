/- Texts that begin alike. -/
import Derived.Test.YtohmnlmeamkmjaaDoorZXOid4
namespace Go.Proofs.YtohmnlmeamkmjaaDoor.POid
open Go.RowKit Go.Proofs.YtohmnlmeamkmjaaDoorW.PrintWords Go.Proofs.YtohmnlmeamkmjaaDoorW.PrintLast Go.Proofs.YtohmnlmeamkmjaaDoorW.PrintMore Go.Proofs.YtohmnlmeamkmjaaDoorW.Pu
theorem tx_sz {l : List Int} (hu : IsU32 l) : (txl l).length ≤ 220 := by
  unfold txl
  split
  · rename_i hv
    have hl := valid_len hv
    have hj := joinG_len 10 (l.map DD) (map_len hu)
    rw [List.length_map] at hj
    omega
  · simp
theorem txl_ne {l : List Int} (hv : validB l = true) : txl l ≠ [] := by
  have hl := valid_len hv
  obtain ⟨a, b, r, rfl⟩ : ∃ a b r, l = a :: b :: r := by
    match l, hl.1 with
    | a :: b :: r, _ => exact ⟨a, b, r, rfl⟩
  unfold txl
  rw [if_pos hv]
  show joinG [46] (DD a :: DD b :: r.map DD) ≠ []
  rw [joinG_cons2 _ _ (by simp)]
  simp
theorem txl_no {l : List Int} (hv : validB l = false) : txl l = [] := by unfold txl; rw [if_neg (by rw [hv]; decide)]
theorem DD_inj {a b : Int} (ha : 0 ≤ a) (hb : 0 ≤ b) (h : DD a = DD b) : a = b := by
  have := congrArg (dval 0) h
  unfold DD at this
  rw [dd_val, dd_val] at this
  omega
theorem map_DD_inj : ∀ (a b : List Int), IsU32 a → IsU32 b → a.map DD = b.map DD → a = b := by
  intro a
  induction a with
  | nil => intro b _ _ h; cases b with
    | nil => rfl
    | cons _ _ => simp at h
  | cons x a ih =>
    intro b ha hb h
    cases b with
    | nil => simp at h
    | cons y b =>
      simp only [List.map_cons, List.cons.injEq] at h
      rw [DD_inj (ha x (by simp)).1 (hb y (by simp)).1 h.1, ih b (fun n hn => ha n (List.mem_cons_of_mem _ hn)) (fun n hn => hb n (List.mem_cons_of_mem _ hn)) h.2]
theorem spl_at : ∀ (l cur r : List UInt8), spl cur (l ++ 46 :: r) = spl cur l ++ spl [] r := by
  intro l
  induction l with
  | nil => intro cur r; simp [spl]
  | cons c l ih =>
    intro cur r
    rw [List.cons_append, spl, spl]
    split
    · rw [ih]; rfl
    · exact ih _ _
theorem below_iff {a b : List Int} (ha : IsU32 a) (hb : IsU32 b) (va : validB a = true) (vb : validB b = true) :
    ((txl b).length + 1 < (txl a).length ∧ (txl a).take ((txl b).length + 1) = txl b ++ [46]) ↔ (b.length < a.length ∧ a.take b.length = b) := by
  have la := valid_len va
  have lb := valid_len vb
  have na : a ≠ [] := by intro h; subst h; simp at la
  have nb : b ≠ [] := by intro h; subst h; simp at lb
  have ea : txl a = joinG [46] (a.map DD) := by unfold txl; rw [if_pos va]
  have eb : txl b = joinG [46] (b.map DD) := by unfold txl; rw [if_pos vb]
  constructor
  · rintro ⟨h1, h2⟩
    have h3 := List.take_append_drop ((txl b).length + 1) (txl a)
    rw [h2, List.append_assoc] at h3
    have h4 := congrArg (spl []) h3
    rw [show txl b ++ ([46] ++ (txl a).drop ((txl b).length + 1)) = txl b ++ 46 :: (txl a).drop ((txl b).length + 1) from rfl, spl_at, eb, spl_tx nb] at h4
    rw [ea, spl_tx na] at h4
    have hne := spl_ne ((joinG [46] (a.map DD)).drop ((joinG [46] (b.map DD)).length + 1)) []
    generalize spl [] ((joinG [46] (a.map DD)).drop ((joinG [46] (b.map DD)).length + 1)) = W at h4 hne
    have hl := congrArg List.length h4
    rw [List.length_append, List.length_map, List.length_map] at hl
    have hw : 0 < W.length := List.length_pos_iff.2 hne
    refine ⟨by omega, ?_⟩
    refine map_DD_inj _ _ (fun n hn => ha n (List.mem_of_mem_take hn)) hb ?_
    rw [List.map_take, ← h4, List.take_append_of_le_length (by rw [List.length_map]; exact Nat.le_refl _), List.take_of_length_le (by rw [List.length_map]; exact Nat.le_refl _)]
  · rintro ⟨h1, h2⟩
    have h3 := List.take_append_drop b.length a
    rw [h2] at h3
    generalize hr : a.drop b.length = r at h3
    have hrl := congrArg List.length hr
    rw [List.length_drop] at hrl
    have nr : r ≠ [] := by intro h; subst h; simp at hrl; omega
    have e : txl a = txl b ++ [46] ++ joinG [46] (r.map DD) := by
      rw [ea, eb, ← h3, List.map_append]
      exact joinG_append [46] _ _ (by simpa using nb) (by simpa using nr)
    have hj : 0 < (joinG [46] (r.map DD)).length := by
      obtain ⟨x, s, rfl⟩ := List.exists_cons_of_ne_nil nr
      have hx : 0 < (DD x).length := List.length_pos_iff.2 (dd_ne _)
      by_cases hs : s = []
      · subst hs; exact hx
      · rw [List.map_cons, joinG_cons2 _ _ (by simpa using hs)]
        simp only [List.length_append]
        omega
    rw [e]
    refine ⟨by simp only [List.length_append, List.length_cons, List.length_nil]; omega, ?_⟩
    rw [List.take_append_of_le_length (by simp), List.take_of_length_le (by simp)]
end Go.Proofs.YtohmnlmeamkmjaaDoor.POid
