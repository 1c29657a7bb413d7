/- der: the length behind a tag, as the program reads it; plain lemmas, no condition. -/
import Derived.Test.YtijmigapdcikpaaDoorZXDer1
import Derived.Laws.BitsLemmas
namespace Go.Proofs.YtijmigapdcikpaaDoor.PDer
open Go.RowKit Go.Proofs.YtijmigapdcikpaaDoorW.PrintWords Go.Proofs.YtijmigapdcikpaaDoorW.PrintLast Go.Proofs.YtijmigapdcikpaaDoorW.PrintMore Go.Proofs.YtijmigapdcikpaaDoorW.Pu
set_option linter.unusedVariables false
set_option linter.unusedSimpArgs false
theorem rdB {l : List Int} (hb : ∀ x ∈ l, 0 ≤ x ∧ x < 256) (i : Int) : 0 ≤ rd l i ∧ rd l i < 256 := by
  unfold rd
  rw [List.getD_eq_getElem?_getD]
  cases h : l[i.toNat]? with
  | none => simp
  | some x => exact hb x (List.mem_of_getElem? h)
theorem or8i {x c : Int} (h0 : 0 ≤ x) (h1 : x < 16777216) (c0 : 0 ≤ c) (c1 : c < 256) : Go.bits .or .i64 (wrap64 (x * 256)) (wrap64 c) = x * 256 + c := by
  rw [w64 (by omega) (by omega), w64 (by omega) (by omega)]
  exact bits_join .i64 32 (by decide) (fun n a b => by rw [IntKind.wrap_i64]; omega) 8 (x * 256) c (by omega) (by omega) (by omega) c0 (by omega) (by omega)
theorem l0_step (k : Nat) (x1 x6 x7 x8 w i q : Int) (l : List Int) (hb : ∀ x ∈ l, 0 ≤ x ∧ x < 256) (hi : i < w) (hi0 : 0 ≤ i ∧ i < 10) (hq : q < x1) (hq0 : 0 ≤ q) (hql : q < (l.length : Int)) (hl : l.length ≤ 1048576) (h8 : 0 ≤ x8 ∧ x8 < 16777216) :
    der_reader_length.l0 (k + 1) x1 x6 x7 x8 w i l q = der_reader_length.l0 k x1 x6 x7 (x8 * 256 + rd l q) w (i + 1) l (q + 1) := by
  have h := rdB hb q
  rw [der_reader_length.l0, if_pos hi, if_neg (show ¬ q ≥ x1 by omega), if_pos hq0, if_pos hql, or8i h8.1 h8.2 h.1 h.2, w64 (x := i + 1) (by omega) (by omega), w64 (x := q + 1) (by omega) (by omega)]
theorem l0_trunc (k : Nat) (x1 x6 x7 x8 w i q : Int) (l : List Int) (hi : i < w) (hq : x1 ≤ q) :
    der_reader_length.l0 (k + 1) x1 x6 x7 x8 w i l q = some (0, some (.fault 3 x1), q) := by
  rw [der_reader_length.l0, if_pos hi, if_pos (show q ≥ x1 by omega)]
  rfl
theorem l0_end (k : Nat) (x1 x6 x7 x8 w i q : Int) (l : List Int) (hk : 3 ≤ k) (hi : ¬ i < w) (h8 : 0 ≤ x8 ∧ x8 < 16777216) (h6 : 128 < x6 ∧ x6 < 256) :
    der_reader_length.l0 (k + 1) x1 x6 x7 x8 w i l q = if x8 < 128 ∨ wid x8 ≠ x6 - 128 then some (0, some (.fault 6 x7), q) else some (x8, none, q) := by
  rw [der_reader_length.l0, if_neg hi]
  by_cases c : x8 < 128
  · rw [if_pos c, if_pos (.inl c)]
    rfl
  · rw [if_neg c, width_at x8 (by omega) h8.2 hk, Option.bind_some, w64 (x := x6 - 128) (by omega) (by omega)]
    by_cases c2 : wid x8 = x6 - 128
    · rw [if_pos c2, if_neg (by omega)]
    · rw [if_neg c2, if_pos (.inr c2)]
      rfl
def lenR (l : List Int) (p e : Int) : Sum (Int × Int) (Int × Int) :=
  if e ≤ p then .inl (3, e) else if rd l p < 128 then .inr (rd l p, p + 1) else if rd l p = 128 ∨ 131 < rd l p then .inl (6, p)
  else if rd l p = 129 then (if e ≤ p + 1 then .inl (3, e) else if rd l (p + 1) < 128 then .inl (6, p) else .inr (rd l (p + 1), p + 2))
  else if rd l p = 130 then (if e ≤ p + 2 then .inl (3, e) else if rd l (p + 1) * 256 + rd l (p + 2) < 256 then .inl (6, p) else .inr (rd l (p + 1) * 256 + rd l (p + 2), p + 3))
  else (if e ≤ p + 3 then .inl (3, e) else if (rd l (p + 1) * 256 + rd l (p + 2)) * 256 + rd l (p + 3) < 65536 then .inl (6, p) else .inr ((rd l (p + 1) * 256 + rd l (p + 2)) * 256 + rd l (p + 3), p + 4))
def lenY (q : Int) : Sum (Int × Int) (Int × Int) → Int × Option E × Int
  | .inl (c, n) => (0, some (.fault c n), q)
  | .inr (v, q') => (v, none, q')
theorem prog_len (l : List Int) (p e : Int) (hb : ∀ x ∈ l, 0 ≤ x ∧ x < 256) (h0 : 0 ≤ p) (h1 : e ≤ (l.length : Int)) (h2 : l.length ≤ 1048576) (m : Nat) : ∃ q, der_reader_length.f (m + 9) l p e = some (lenY q (lenR l p e)) := by
  unfold lenR
  by_cases c0 : e ≤ p
  · rw [if_pos c0]
    refine ⟨p, ?_⟩
    rw [der_reader_length.f, if_pos (show p ≥ e by omega)]
    rfl
  have b0 := rdB hb p
  have b1 := rdB hb (p + 1)
  have b2 := rdB hb (p + 2)
  have b3 := rdB hb (p + 3)
  rw [if_neg c0]
  have hf : der_reader_length.f (m + 9) l p e = if rd l p < 128 then some (rd l p, none, p + 1) else if rd l p = 128 then der_reader_length.j0 (m + 9) e (rd l p) p true l (p + 1) else der_reader_length.j0 (m + 9) e (rd l p) p (decide (rd l p > 131)) l (p + 1) := by
    rw [der_reader_length.f, if_neg (show ¬ p ≥ e by omega), if_pos h0, if_pos (show p < (l.length : Int) by omega), w64 (x := rd l p) (by omega) (by omega), w64 (x := p + 1) (by omega) (by omega)]
  rw [hf]
  by_cases c1 : rd l p < 128
  · rw [if_pos c1, if_pos c1]
    exact ⟨0, rfl⟩
  rw [if_neg c1, if_neg c1]
  by_cases c2 : rd l p = 128
  · rw [if_pos c2, if_pos (.inl c2)]
    exact ⟨p + 1, by rw [der_reader_length.j0, if_pos rfl]; rfl⟩
  rw [if_neg c2]
  by_cases c3 : 131 < rd l p
  · rw [if_pos (.inr c3), show decide (rd l p > 131) = true from decide_eq_true c3]
    exact ⟨p + 1, by rw [der_reader_length.j0, if_pos rfl]; rfl⟩
  rw [if_neg (show ¬ (rd l p = 128 ∨ 131 < rd l p) by omega), show decide (rd l p > 131) = false from decide_eq_false (by omega), der_reader_length.j0, if_neg (by decide), w64 (x := rd l p - 128) (by omega) (by omega)]
  by_cases c4 : rd l p = 129
  · rw [if_pos c4, c4]
    by_cases d1 : e ≤ p + 1
    · rw [if_pos d1]
      exact ⟨_, l0_trunc _ _ _ _ _ _ _ _ _ (by omega) d1⟩
    rw [if_neg d1, l0_step _ _ _ _ _ _ _ _ _ hb (by omega) (by omega) (by omega) (by omega) (by omega) h2 (by omega), l0_end _ _ _ _ _ _ _ _ _ (by omega) (by omega) (by omega) (by omega)]
    simp only [Int.zero_mul, Int.zero_add]
    refine ⟨p + 2, ?_⟩
    by_cases d2 : rd l (p + 1) < 128
    · rw [if_pos (.inl d2), if_pos d2]
      show some _ = some _
      rw [show p + 1 + 1 = p + 2 by omega]
      rfl
    · rw [if_neg d2, if_neg (by unfold wid; rw [if_pos (by omega)]; omega), show p + 1 + 1 = p + 2 by omega]
      rfl
  rw [if_neg c4]
  by_cases c5 : rd l p = 130
  · rw [if_pos c5, c5]
    by_cases d0 : e ≤ p + 1
    · rw [if_pos (show e ≤ p + 2 by omega)]
      exact ⟨_, l0_trunc _ _ _ _ _ _ _ _ _ (by omega) d0⟩
    rw [l0_step _ _ _ _ _ _ _ _ _ hb (by omega) (by omega) (by omega) (by omega) (by omega) h2 (by omega)]
    by_cases d1 : e ≤ p + 2
    · rw [if_pos d1]
      exact ⟨_, l0_trunc _ _ _ _ _ _ _ _ _ (by omega) (by omega)⟩
    have e2 : p + 1 + 1 = p + 2 := by omega
    rw [if_neg d1, l0_step _ _ _ _ _ _ _ _ _ hb (by omega) (by omega) (by omega) (by omega) (by omega) h2 (by omega), e2, l0_end _ _ _ _ _ _ _ _ _ (by omega) (by omega) (by omega) (by omega)]
    simp only [Int.zero_mul, Int.zero_add]
    refine ⟨p + 3, ?_⟩
    rw [show p + 2 + 1 = p + 3 by omega]
    by_cases d2 : rd l (p + 1) * 256 + rd l (p + 2) < 256
    · rw [if_pos d2, if_pos (by unfold wid; rw [if_pos d2]; omega)]
      rfl
    · rw [if_neg d2, if_neg (by unfold wid; rw [if_neg d2, if_pos (by omega)]; omega)]
      rfl
  rw [if_neg c5]
  have c6 : rd l p = 131 := by omega
  rw [c6]
  by_cases d0 : e ≤ p + 1
  · rw [if_pos (show e ≤ p + 3 by omega)]
    exact ⟨_, l0_trunc _ _ _ _ _ _ _ _ _ (by omega) d0⟩
  rw [l0_step _ _ _ _ _ _ _ _ _ hb (by omega) (by omega) (by omega) (by omega) (by omega) h2 (by omega), show p + 1 + 1 = p + 2 by omega]
  by_cases d1 : e ≤ p + 2
  · rw [if_pos (show e ≤ p + 3 by omega)]
    exact ⟨_, l0_trunc _ _ _ _ _ _ _ _ _ (by omega) (by omega)⟩
  rw [l0_step _ _ _ _ _ _ _ _ _ hb (by omega) (by omega) (by omega) (by omega) (by omega) h2 (by omega), show p + 2 + 1 = p + 3 by omega]
  by_cases d2 : e ≤ p + 3
  · rw [if_pos d2]
    exact ⟨_, l0_trunc _ _ _ _ _ _ _ _ _ (by omega) (by omega)⟩
  rw [if_neg d2, l0_step _ _ _ _ _ _ _ _ _ hb (by omega) (by omega) (by omega) (by omega) (by omega) h2 (by omega), show p + 3 + 1 = p + 4 by omega, l0_end _ _ _ _ _ _ _ _ _ (by omega) (by omega) (by omega) (by omega)]
  simp only [Int.zero_mul, Int.zero_add]
  refine ⟨p + 4, ?_⟩
  by_cases d3 : (rd l (p + 1) * 256 + rd l (p + 2)) * 256 + rd l (p + 3) < 65536
  · rw [if_pos d3, if_pos (by unfold wid; by_cases x : (rd l (p + 1) * 256 + rd l (p + 2)) * 256 + rd l (p + 3) < 256; (· rw [if_pos x]; omega); (· rw [if_neg x, if_pos d3]; omega))]
    rfl
  · rw [if_neg d3, if_neg (by unfold wid; rw [if_neg (by omega), if_neg d3]; omega)]
    rfl
end Go.Proofs.YtijmigapdcikpaaDoor.PDer
