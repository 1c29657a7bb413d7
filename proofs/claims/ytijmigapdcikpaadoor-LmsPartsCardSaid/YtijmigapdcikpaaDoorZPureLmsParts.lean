/- LmsParts: no condition. -/
import Derived.Test.YtijmigapdcikpaaDoorZPLmsx16
import Derived.Test.YtijmigapdcikpaaDoorZXLms5
namespace Go.Proofs.YtijmigapdcikpaaDoor.Pure
open Go.RowKit Go.Proofs.YtijmigapdcikpaaDoor.PLms Go.Proofs.YtijmigapdcikpaaDoorW.PrintWords Go.Proofs.YtijmigapdcikpaaDoorW.PrintLast Go.Proofs.YtijmigapdcikpaaDoorW.PrintMore Go.Proofs.YtijmigapdcikpaaDoorW.Pu
theorem rd_cv (xs : List S70) (i : Nat) (h : i < xs.length) : rd_T72 (xs.map cv) (i : Int) = cv (rd_T70 xs (i : Int)) := by
  unfold rd_T72 rd_T70
  rw [Int.toNat_natCast, List.getD_eq_getElem?_getD, List.getD_eq_getElem?_getD, List.getElem?_map, List.getElem?_eq_getElem h]
  rfl
theorem drop_rd70 (l : List S70) {i : Nat} (h : i < l.length) : l.drop i = rd_T70 l (i : Int) :: l.drop (i + 1) := by
  rw [List.drop_eq_getElem_cons h]
  unfold rd_T70
  rw [Int.toNat_natCast, List.getD_eq_getElem?_getD, List.getElem?_eq_getElem h]
  rfl
theorem parts_l0 (b : List Int) (xs : List S70) (hq : ∀ x ∈ xs, wrap64 x.f2 = x.f2 ∧ 0 ≤ x.f4 ∧ x.f4 ≤ 10000000) (hn : xs.length ≤ 100000) (h1 : 1 ≤ xs.length) (hb : (b.length : Int) = 4 + sizes xs + 56 * ((xs.length : Int) - 1)) :
    ∀ (d i : Nat) (s : Int), xs.length - i = d → i ≤ xs.length → 0 ≤ s → s ≤ 4 + 10000000 * i → s + sizes (xs.drop i) = 4 + sizes xs →
    Ev (fun k => pyxlaw21_LmsParts.l0 k b xs none (xs.map cv) s (i : Int)) true := by
  intro d
  induction d with
  | zero =>
    intro i s e h h0 hs hsum
    rw [List.drop_eq_nil_of_le (by omega)] at hsum
    have hsum2 : s = 4 + sizes xs := by simpa [sizes] using hsum
    have hf : (wrap64 (s + (wrap64 (56 * (wrap64 ((xs.length : Int) - 1))))) == (b.length : Int)) = true := by
      rw [w64 (x := (xs.length : Int) - 1) (by omega) (by omega), w64 (x := 56 * ((xs.length : Int) - 1)) (by omega) (by omega), w64 (by omega) (by omega)]
      exact beq_iff_eq.2 (by omega)
    exact Ev.last fun k => by rw [pyxlaw21_LmsParts.l0, if_neg (by omega), if_pos (show (none : Option E).isNone = true from rfl), hf]
  | succ d ih =>
    intro i s e h h0 hs hsum
    have hlt : i < xs.length := by omega
    have hm : rd_T70 xs (i : Int) ∈ xs := by
      unfold rd_T70
      rw [Int.toNat_natCast, List.getD_eq_getElem?_getD, List.getElem?_eq_getElem hlt]
      exact List.getElem_mem hlt
    obtain ⟨a1, a2, a3⟩ := hq _ hm
    rw [drop_rd70 xs hlt] at hsum
    have hs2 : s + (rd_T70 xs (i : Int)).f4 + sizes (xs.drop (i + 1)) = 4 + sizes xs := by
      have : sizes (rd_T70 xs (i : Int) :: xs.drop (i + 1)) = (rd_T70 xs (i : Int)).f4 + sizes (xs.drop (i + 1)) := by simp [sizes]
      rw [this] at hsum
      clear a1
      omega
    have q1 : (i : Int) < (xs.length : Int) := by omega
    have q2 : 0 ≤ (i : Int) := by omega
    have q3 : (i : Int) < ((xs.map cv).length : Int) := by rw [List.length_map]; exact q1
    have h2 := ih (i + 1) (s + (rd_T70 xs (i : Int)).f4) (by omega) hlt (by clear a1; omega) (by clear a1; omega) hs2
    have e5 : wrap64 (s + (rd_T70 xs (i : Int)).f4) = s + (rd_T70 xs (i : Int)).f4 := w64 (by clear a1; omega) (by clear a1; omega)
    refine Ev.step (fun k => ?_) h2
    rw [pyxlaw21_LmsParts.l0, if_pos q1, if_pos q2, if_pos q3, rd_cv xs i hlt, if_pos (show (rd_T70 xs (i : Int)).f0 = (cv (rd_T70 xs (i : Int))).f0 from rfl), if_pos (show (rd_T70 xs (i : Int)).f1 = (cv (rd_T70 xs (i : Int))).f1 from rfl), if_pos (show wrap64 (rd_T70 xs (i : Int)).f2 = (cv (rd_T70 xs (i : Int))).f2 from a1), if_pos (show (rd_T70 xs (i : Int)).f3 = (cv (rd_T70 xs (i : Int))).f3 from rfl), if_pos (show (rd_T70 xs (i : Int)).f4 = (cv (rd_T70 xs (i : Int))).f4 from rfl), e5, wsucc (by clear a1 e5; omega)]
theorem LmsParts : pyxlaw21_LmsParts.Pure := by
  intro l c _ hl hq _ hc hw
  apply Ev.rounds
  have hc' : c.length < 4611686018427387904 := by omega
  have hw' : ∀ x ∈ c, Wf105 x := fun x hx => ⟨(hw x hx).1, (hw x hx).2.1, (hw x hx).2.2.1, fun y hy => wf_u8 ((hw x hx).2.2.2.2 y hy)⟩
  obtain ⟨fb, f1, f2⟩ := few_ev l (by omega)
  refine Ev.congr (fun k => by rw [pyxlaw21_LmsParts.f]) ?_
  refine Ev.bind awake_ev ?_
  refine Ev.congr (fun k => by rw [if_pos rfl]) ?_
  refine Ev.bind f1 ?_
  have no : Ev (fun k => pyxlaw21_LmsParts.j0 k l c true) true := Ev.step (fun k => by rw [pyxlaw21_LmsParts.j0, if_pos rfl]) (Ev.bind awake_ev (Ev.now _))
  cases fb with
  | false => exact Ev.congr (fun k => by rw [if_neg (by decide)]) no
  | true =>
    have hf := f2 rfl
    refine Ev.congr (fun k => by rw [if_pos rfl]) ?_
    by_cases hcl : (c.length : Int) > 20
    · rw [decide_eq_true hcl]
      exact no
    · rw [decide_eq_false hcl]
      obtain ⟨m, m1, m2, m3, m4⟩ := make_ev l hf
      obtain ⟨b, b1, b2, b3⟩ := changed_ev m m2 m4 c (by omega) hw'
      refine Ev.step (fun k => by rw [pyxlaw21_LmsParts.j0, if_neg (by decide)]) ?_
      refine Ev.bind m1 ?_
      refine Ev.bind b1 ?_
      have hbB : bytesB b = true := List.all_eq_true.2 (fun x hx => decide_eq_true (b2 x hx))
      have hpi : lms_Parse.f b = some (lparse b) := by rw [lms_Parse.f, if_pos ⟨hbB, by omega⟩]
      have hpe := fun K hK => parse_eq b (by omega) b2 K hK
      refine Ev.congr (fun k => by rw [hpi, Option.bind_some]) ?_
      rcases hpe 20 (Nat.le_refl _) with ⟨xs, p1, p2, p3, p4⟩ | ⟨cc, a, p1, p2, p3⟩
      · have ep : Ev (fun k => pyxref21_Parse.f k b) (xs.map cv, 0, 0) := Ev.of (fun k => pyxref21_Parse.mono b k) p1
        refine Ev.bind ep ?_
        rw [p2]
        refine Ev.congr (fun k => by rw [told_none, Option.bind_some, if_pos rfl]) ?_
        have e1 : ((xs.length : Int) != ((xs.map cv).length : Int)) = false := by simp
        refine Ev.congr (fun k => by rw [e1]) ?_
        refine Ev.step (fun k => by rw [pyxlaw21_LmsParts.j1, if_neg (by decide)]) ?_
        have g1 := parse_facts b b3 b2 p2
        have g2 := sizes_good g1
        exact parts_l0 b xs (fun x hx => ⟨w64 (by have := (g1 x hx).1; omega) (by have := (g1 x hx).1; omega), (g1 x hx).2⟩) (by omega) p3 p4 xs.length 0 4 (by omega) (by omega) (by decide) (by omega) (by simp)
      · have ep : Ev (fun k => pyxref21_Parse.f k b) ([], cc, a) := Ev.of (fun k => pyxref21_Parse.mono b k) p1
        refine Ev.bind ep ?_
        rw [p3]
        refine Ev.congr (fun k => by rw [told_some cc a p2.1 p2.2.1 p2.2.2, Option.bind_some, if_pos rfl]) ?_
        refine Ev.congr (fun k => by rw [show ((([] : List S70).length : Int) != (([] : List S72).length : Int)) = false from rfl]) ?_
        refine Ev.step (fun k => by rw [pyxlaw21_LmsParts.j1, if_neg (by decide)]) ?_
        exact Ev.last fun k => by rw [pyxlaw21_LmsParts.l0, if_neg (show ¬ (0 : Int) < (([] : List S70).length : Int) from by decide), if_neg (show ¬ (some (E.fault cc a)).isNone = true from by simp)]
end Go.Proofs.YtijmigapdcikpaaDoor.Pure
