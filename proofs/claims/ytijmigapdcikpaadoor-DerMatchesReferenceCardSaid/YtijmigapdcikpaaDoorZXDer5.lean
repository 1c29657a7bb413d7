/- der: the reference's reading, up to the contents; plain lemmas, no condition. -/
import Derived.Test.YtijmigapdcikpaaDoorZPDerx13
import Derived.Test.YtijmigapdcikpaaDoorZXDer4
namespace Go.Proofs.YtijmigapdcikpaaDoor.PDer
open Go.RowKit Go.Proofs.YtijmigapdcikpaaDoorW.PrintWords Go.Proofs.YtijmigapdcikpaaDoorW.PrintLast Go.Proofs.YtijmigapdcikpaaDoorW.PrintMore Go.Proofs.YtijmigapdcikpaaDoorW.Pu
set_option linter.unusedVariables false
set_option linter.unusedSimpArgs false
theorem r0_step (k : Nat) (l : List Int) (x1 x2 x3 x9 x10 x11 i : Int) (hb : ∀ x ∈ l, 0 ≤ x ∧ x < 256) (hi : i < x11) (hi0 : 0 ≤ i ∧ i < 10) (h10 : 0 ≤ x10) (hq : x10 + i < (l.length : Int)) (hl : l.length ≤ 1048576) (h9 : 0 ≤ x9 ∧ x9 < 16777216) :
    pyxref08_read.l0 (k + 1) l x1 x2 x3 x9 x10 x11 i = pyxref08_read.l0 k l x1 x2 x3 (x9 * 256 + rd l (x10 + i)) x10 x11 (i + 1) := by
  have h := rdB hb (x10 + i)
  rw [pyxref08_read.l0, if_pos hi, w64 (x := x10 + i) (by omega) (by omega), if_pos (by omega), if_pos hq, w64 (x := x9 * 256) (by omega) (by omega), w64 (x := rd l (x10 + i)) (by omega) (by omega), w64 (x := x9 * 256 + rd l (x10 + i)) (by omega) (by omega), w64 (x := i + 1) (by omega) (by omega)]
theorem r0_end (l : List Int) (x1 x2 x3 x9 x10 x11 i : Int) (hi : ¬ i < x11) (h1 : 0 ≤ x1 ∧ x1 < 2000000) (h10 : 0 ≤ x10 ∧ x10 < 2000000) (h11 : 0 ≤ x11 ∧ x11 < 10) (h9 : 0 ≤ x9 ∧ x9 < 16777216) (r : Int × List Int × List (S33) × Int × Int × Int) :
    (x9 < 128 ∨ wid x9 ≠ x11 → r = (0, [], [], 0, 6, x1 + 1)) → (¬ (x9 < 128 ∨ wid x9 ≠ x11) → Ev (fun k => pyxref08_read.j2 k l x1 x2 x3 x9 (x10 + x11)) r) → Ev (fun k => pyxref08_read.l0 k l x1 x2 x3 x9 x10 x11 i) r := by
  intro ha hb
  by_cases c : x9 < 128
  · rw [ha (.inl c)]
    exact Ev.last fun k => by rw [pyxref08_read.l0, if_neg hi, if_pos c, w64 (x := x1 + 1) (by omega) (by omega)]
  have hn : Ev (fun k => pyxref08_Number.f k x9) (digs x9) := Ev.of (fun k => pyxref08_Number.mono _ _) (num_eq 0 x9 (by omega) h9.2)
  have hd := digs_len x9 (by omega)
  refine Ev.step (f := fun k => (pyxref08_Number.f k x9).bind fun t203 => (if (t203.length : Int) = x11 then (pyxref08_read.j2 k l x1 x2 x3 x9 (wrap64 (x10 + x11))) else (some (0, ([] : List Int), ([] : List (S33)), 0, 6, wrap64 (x1 + 1))))) (fun k => by rw [pyxref08_read.l0, if_neg hi, if_neg c]) ?_
  refine Ev.bind hn ?_
  by_cases c2 : wid x9 = x11
  · refine Ev.congr (fun k => by rw [if_pos (by omega), w64 (x := x10 + x11) (by omega) (by omega)]) (hb (by omega))
  · rw [ha (.inr c2)]
    exact Ev.const' fun k => by rw [if_neg (by omega), w64 (x := x1 + 1) (by omega) (by omega)]
theorem ref_head (l : List Int) (p e a : Int) (hb : ∀ x ∈ l, 0 ≤ x ∧ x < 256) (h0 : 0 ≤ p) (hpe : p < e) (h1 : e ≤ (l.length : Int)) (h2 : l.length ≤ 1048576) (ht : pyxref08_Tag.f (rd l p) = some true) (ha : a < 8) (r : Int × List Int × List (S33) × Int × Int × Int)
    (hl : ∀ c n, lenR l (p + 1) e = .inl (c, n) → r = (0, [], [], 0, c, n)) (hr : ∀ v q, lenR l (p + 1) e = .inr (v, q) → Ev (fun k => pyxref08_read.j2 k l p e a v q) r) : Ev (fun k => pyxref08_read.f k l p e a) r := by
  have bp := rdB hb p
  have b0 := rdB hb (p + 1)
  have b1 := rdB hb (p + 1 + 1)
  have b2 := rdB hb (p + 1 + 2)
  have b3 := rdB hb (p + 1 + 3)
  have hf : ∀ k, pyxref08_read.f (k + 1) l p e a = if p + 1 ≥ e then some (0, [], [], 0, 3, e) else if rd l (p + 1) = 128 then pyxref08_read.j0 k l p e a (rd l (p + 1)) (p + 2) true else pyxref08_read.j0 k l p e a (rd l (p + 1)) (p + 2) (decide (rd l (p + 1) > 131)) := fun k => by
    rw [pyxref08_read.f, if_neg (by omega), if_pos h0, if_pos (by omega), w64 (x := rd l p) (by omega) (by omega), ht, Option.bind_some, if_pos rfl, if_neg (by omega), w64 (x := p + 1) (by omega) (by omega)]
    by_cases c : p + 1 ≥ e
    · rw [if_pos c, if_pos c]
    · rw [if_neg c, if_neg c, if_pos (by omega), if_pos (by omega), w64 (x := rd l (p + 1)) (by omega) (by omega), w64 (x := p + 2) (by omega) (by omega)]
  unfold lenR at hl hr
  by_cases c0 : e ≤ p + 1
  · rw [hl 3 e (by rw [if_pos c0])]
    exact Ev.last fun k => by rw [hf, if_pos (by omega)]
  rw [if_neg c0] at hl hr
  by_cases c1 : rd l (p + 1) < 128
  · rw [if_pos c1] at hr
    have := hr _ _ rfl
    rw [show p + 1 + 1 = p + 2 by omega] at this
    refine Ev.step (fun k => by rw [hf, if_neg (by omega), if_neg (by omega)]) ?_
    exact Ev.step (fun k => by rw [pyxref08_read.j0, show decide (rd l (p + 1) > 131) = false from decide_eq_false (by omega), if_neg (by decide), if_neg (by omega)]) this
  rw [if_neg c1] at hl hr
  by_cases c2 : rd l (p + 1) = 128 ∨ 131 < rd l (p + 1)
  · rw [hl 6 (p + 1) (by rw [if_pos c2])]
    by_cases c3 : rd l (p + 1) = 128
    · refine Ev.step (fun k => by rw [hf, if_neg (by omega), if_pos c3]) ?_
      exact Ev.last fun k => by rw [pyxref08_read.j0, if_pos rfl, w64 (x := p + 1) (by omega) (by omega)]
    · refine Ev.step (fun k => by rw [hf, if_neg (by omega), if_neg c3, show decide (rd l (p + 1) > 131) = true from decide_eq_true (by omega)]) ?_
      exact Ev.last fun k => by rw [pyxref08_read.j0, if_pos rfl, w64 (x := p + 1) (by omega) (by omega)]
  rw [if_neg c2] at hl hr
  refine Ev.step (fun k => by rw [hf, if_neg (by omega), if_neg (by omega), show decide (rd l (p + 1) > 131) = false from decide_eq_false (by omega)]) ?_
  have hj : ∀ k, pyxref08_read.j0 (k + 1) l p e a (rd l (p + 1)) (p + 2) false = if p + 2 + (rd l (p + 1) - 128) > e then some (0, [], [], 0, 3, e) else pyxref08_read.l0 k l p e a 0 (p + 2) (rd l (p + 1) - 128) 0 := fun k => by
    rw [pyxref08_read.j0, if_neg (by decide), if_pos (by omega), w64 (x := rd l (p + 1) - 128) (by omega) (by omega), w64 (x := p + 2 + (rd l (p + 1) - 128)) (by omega) (by omega)]
  by_cases c4 : rd l (p + 1) = 129
  · rw [if_pos c4] at hl hr
    rw [c4] at hj ⊢
    by_cases d1 : e ≤ p + 1 + 1
    · rw [hl 3 e (by rw [if_pos d1])]
      exact Ev.last fun k => by rw [hj, if_pos (by omega)]
    rw [if_neg d1] at hl hr
    refine Ev.step (fun k => by rw [hj, if_neg (by omega)]) ?_
    refine Ev.step (fun k => by rw [r0_step _ _ _ _ _ _ _ _ _ hb (by omega) (by omega) (by omega) (by omega) h2 (by omega)]) ?_
    rw [show p + 2 + 0 = p + 1 + 1 by omega]
    simp only [Int.zero_mul, Int.zero_add]
    refine r0_end _ _ _ _ _ _ _ _ (by omega) (by omega) (by omega) (by omega) (by omega) r (fun h => ?_) (fun h => ?_)
    · exact hl 6 (p + 1) (by rw [if_pos (by unfold wid at h; rcases h with h | h; (· exact h); (· rw [if_pos (by omega)] at h; omega))])
    · have := hr (rd l (p + 1 + 1)) (p + 1 + 2) (by rw [if_neg (by omega)])
      rw [show p + 2 + (129 - 128) = p + 1 + 2 by omega]
      exact this
  rw [if_neg c4] at hl hr
  by_cases c5 : rd l (p + 1) = 130
  · rw [if_pos c5] at hl hr
    rw [c5] at hj ⊢
    by_cases d1 : e ≤ p + 1 + 2
    · rw [hl 3 e (by rw [if_pos d1])]
      exact Ev.last fun k => by rw [hj, if_pos (by omega)]
    rw [if_neg d1] at hl hr
    refine Ev.step (fun k => by rw [hj, if_neg (by omega)]) ?_
    refine Ev.step (fun k => by rw [r0_step _ _ _ _ _ _ _ _ _ hb (by omega) (by omega) (by omega) (by omega) h2 (by omega)]) ?_
    rw [show p + 2 + 0 = p + 1 + 1 by omega]
    simp only [Int.zero_mul, Int.zero_add]
    refine Ev.step (fun k => by rw [r0_step _ _ _ _ _ _ _ _ _ hb (by omega) (by omega) (by omega) (by omega) h2 (by omega)]) ?_
    rw [show p + 2 + 1 = p + 1 + 2 by omega]
    refine r0_end _ _ _ _ _ _ _ _ (by omega) (by omega) (by omega) (by omega) (by omega) r (fun h => ?_) (fun h => ?_)
    · have hx : rd l (p + 1 + 1) * 256 + rd l (p + 1 + 2) < 256 := by
        unfold wid at h
        rcases h with h | h
        · omega
        · by_cases x : rd l (p + 1 + 1) * 256 + rd l (p + 1 + 2) < 256
          · exact x
          · rw [if_neg x, if_pos (by omega)] at h; omega
      exact hl 6 (p + 1) (by rw [if_pos hx])
    · have hx : ¬ rd l (p + 1 + 1) * 256 + rd l (p + 1 + 2) < 256 := by
        intro x
        exact h (.inr (by unfold wid; rw [if_pos x]; omega))
      have := hr _ (p + 1 + 3) (by rw [if_neg hx])
      rw [show p + 2 + (130 - 128) = p + 1 + 3 by omega]
      exact this
  rw [if_neg c5] at hl hr
  have c6 : rd l (p + 1) = 131 := by omega
  rw [c6] at hj ⊢
  by_cases d1 : e ≤ p + 1 + 3
  · rw [hl 3 e (by rw [if_pos d1])]
    exact Ev.last fun k => by rw [hj, if_pos (by omega)]
  rw [if_neg d1] at hl hr
  refine Ev.step (fun k => by rw [hj, if_neg (by omega)]) ?_
  refine Ev.step (fun k => by rw [r0_step _ _ _ _ _ _ _ _ _ hb (by omega) (by omega) (by omega) (by omega) h2 (by omega)]) ?_
  rw [show p + 2 + 0 = p + 1 + 1 by omega]
  simp only [Int.zero_mul, Int.zero_add]
  refine Ev.step (fun k => by rw [r0_step _ _ _ _ _ _ _ _ _ hb (by omega) (by omega) (by omega) (by omega) h2 (by omega)]) ?_
  rw [show p + 2 + 1 = p + 1 + 2 by omega]
  refine Ev.step (fun k => by rw [r0_step _ _ _ _ _ _ _ _ _ hb (by omega) (by omega) (by omega) (by omega) h2 (by omega)]) ?_
  rw [show p + 2 + (1 + 1) = p + 1 + 3 by omega]
  refine r0_end _ _ _ _ _ _ _ _ (by omega) (by omega) (by omega) (by omega) (by omega) r (fun h => ?_) (fun h => ?_)
  · have hx : (rd l (p + 1 + 1) * 256 + rd l (p + 1 + 2)) * 256 + rd l (p + 1 + 3) < 65536 := by
      unfold wid at h
      rcases h with h | h
      · omega
      · by_cases x : (rd l (p + 1 + 1) * 256 + rd l (p + 1 + 2)) * 256 + rd l (p + 1 + 3) < 65536
        · exact x
        · rw [if_neg (by omega), if_neg x] at h; omega
    exact hl 6 (p + 1) (by rw [if_pos hx])
  · have hx : ¬ (rd l (p + 1 + 1) * 256 + rd l (p + 1 + 2)) * 256 + rd l (p + 1 + 3) < 65536 := by
      intro x
      refine h (.inr ?_)
      unfold wid
      by_cases y : (rd l (p + 1 + 1) * 256 + rd l (p + 1 + 2)) * 256 + rd l (p + 1 + 3) < 256
      · rw [if_pos y]; omega
      · rw [if_neg y, if_pos x]; omega
    have := hr _ (p + 1 + 4) (by rw [if_neg hx])
    rw [show p + 2 + (131 - 128) = p + 1 + 4 by omega]
    exact this
end Go.Proofs.YtijmigapdcikpaaDoor.PDer
