/- What a signature is made of, and its changes: totals, as plain lists: no condition. -/
import Derived.Test.YtijmigapdcikpaaDoorZPLmsx13
import Derived.Test.YtijmigapdcikpaaDoorZPLmsx10
import Derived.Test.YtijmigapdcikpaaDoorZPLmsx10
import Derived.Test.YtijmigapdcikpaaDoorZPLmsx7
import Derived.Test.YtijmigapdcikpaaDoorZXLms3
import Derived.Test.YtijmigapdcikpaaDoorZLmsSpread
namespace Go.Proofs.YtijmigapdcikpaaDoor.PLms
open Go.RowKit Go.Proofs.YtijmigapdcikpaaDoorW.PrintWords Go.Proofs.YtijmigapdcikpaaDoorW.PrintLast Go.Proofs.YtijmigapdcikpaaDoorW.PrintMore Go.Proofs.YtijmigapdcikpaaDoorW.Pu
set_option linter.unusedVariables false
theorem be4_bytes (x : Int) : IsBytes (be4 x) := by
  intro y hy
  simp [be4] at hy
  rcases hy with rfl | rfl | rfl | rfl <;> omega
theorem bytes_app {a b : List Int} (ha : IsBytes a) (hb : IsBytes b) : IsBytes (a ++ b) := fun y hy => (List.mem_append.1 hy).elim (ha y) (hb y)
theorem words_l0 (L : List Int) (hL : L.length ≤ 8) : ∀ (d : Nat) (acc : List Int) (i : Nat), L.length - i = d → i ≤ L.length → acc.length ≤ 4 * i →
    Ev (fun k => pyxref21_words.l0 k L acc (i : Int)) (acc ++ (L.drop i).flatMap be4) := by
  intro d
  induction d with
  | zero =>
    intro acc i e h ha
    rw [List.drop_eq_nil_of_le (by omega), List.flatMap_nil, List.append_nil]
    exact Ev.last fun k => by rw [pyxref21_words.l0, if_neg (by omega)]
  | succ d ih =>
    intro acc i e h ha
    have hlt : i < L.length := by omega
    have h1 := ih (acc ++ be4 (rd L (i : Int))) (i + 1) (by omega) (by omega) (by simp [be4]; omega)
    rw [drop_rd L hlt, List.flatMap_cons, ← List.append_assoc]
    refine Ev.step' h1 fun k => ?_
    rw [pyxref21_words.l0, if_pos (by omega), if_pos (by omega), Option.bind_some, if_pos (by simp; omega), wsucc (by omega)]
    rfl
theorem words_ev (L : List Int) (hL : L.length ≤ 8) : Ev (fun k => pyxref21_words.f k L) (L.flatMap be4) := by
  have h := words_l0 L hL L.length [] 0 (by omega) (by omega) (by simp)
  simpa [pyxref21_words.f] using h
theorem lms_ev (t o s : Int) : ∃ r, Ev (fun k => pyxref21_LMS.f k t o s) r ∧ IsBytes r ∧ r.length = 56 := by
  obtain ⟨r, h1, h2, h3⟩ := spread_ev s 48 (by omega)
  have hw := words_ev [t, o] (by simp)
  refine ⟨[t, o].flatMap be4 ++ r, ?_, bytes_app (by simp only [List.flatMap_cons, List.flatMap_nil, List.append_nil]; exact bytes_app (be4_bytes t) (be4_bytes o)) h2, by simp [be4, h3]⟩
  refine Ev.congr (fun k => by rw [pyxref21_LMS.f]) (Ev.bind hw (Ev.bind h1 (Ev.const' fun k => ?_)))
  rw [if_pos (by simp [be4, h3])]
theorem hss_ev (n t o s : Int) : ∃ r, Ev (fun k => pyxref21_HSS.f k n t o s) (be4 n ++ r) ∧ IsBytes r ∧ r.length = 56 := by
  obtain ⟨r, h1, h2, h3⟩ := lms_ev t o s
  have hw := words_ev [n] (by simp)
  refine ⟨r, ?_, h2, h3⟩
  refine Ev.congr (fun k => by rw [pyxref21_HSS.f]) (Ev.bind hw (Ev.bind h1 (Ev.const' fun k => ?_)))
  rw [if_pos (by simp [be4, h3])]
  simp
def Few21 (l : List S87) : Prop := (∀ x ∈ l, (0 ≤ x.f0 ∧ x.f0 < 4294967296) ∧ (0 ≤ x.f1 ∧ x.f1 < 4294967296) ∧ 0 ≤ x.f2 ∧ x.f2 < 4294967296) ∧ 1 ≤ l.length ∧ l.length ≤ 10
theorem drop_rd87 (l : List S87) {i : Nat} (h : i < l.length) : l.drop i = rd_T87 l (i : Int) :: l.drop (i + 1) := by
  rw [List.drop_eq_getElem_cons h]
  unfold rd_T87
  rw [Int.toNat_natCast, List.getD_eq_getElem?_getD, List.getElem?_eq_getElem h]
  rfl
theorem few_l0 (l : List S87) (hl : l.length < 4611686018427387904) : ∀ (d i : Nat), l.length - i = d → i ≤ l.length →
    ∃ b, Ev (fun k => pyxlaw21_few.l0 k l (i : Int)) b ∧ (b = true → (∀ x ∈ l.drop i, (0 ≤ x.f0 ∧ x.f0 < 4294967296) ∧ (0 ≤ x.f1 ∧ x.f1 < 4294967296) ∧ 0 ≤ x.f2 ∧ x.f2 < 4294967296) ∧ 1 ≤ l.length ∧ l.length ≤ 10) := by
  intro d
  induction d with
  | zero =>
    intro i e h
    rw [List.drop_eq_nil_of_le (by omega)]
    by_cases c : (l.length : Int) ≥ 1
    · refine ⟨decide ((l.length : Int) ≤ 10), Ev.last fun k => by rw [pyxlaw21_few.l0, if_neg (by omega), if_pos c], fun hb => ⟨by simp, by omega, ?_⟩⟩
      have := of_decide_eq_true hb
      omega
    · exact ⟨false, Ev.last fun k => by rw [pyxlaw21_few.l0, if_neg (by omega), if_neg c], fun hb => by cases hb⟩
  | succ d ih =>
    intro i e h
    have hlt : i < l.length := by omega
    by_cases c : (0 ≤ (rd_T87 l (i : Int)).f0 ∧ (rd_T87 l (i : Int)).f0 < 4294967296) ∧ (0 ≤ (rd_T87 l (i : Int)).f1 ∧ (rd_T87 l (i : Int)).f1 < 4294967296) ∧ 0 ≤ (rd_T87 l (i : Int)).f2 ∧ (rd_T87 l (i : Int)).f2 < 4294967296
    · obtain ⟨b, h1, h2⟩ := ih (i + 1) (by omega) (by omega)
      refine ⟨b, Ev.step' h1 fun k => ?_, fun hb => ?_⟩
      · rw [pyxlaw21_few.l0, if_pos (by omega), if_pos (by omega), if_neg (by omega), if_neg (by omega), if_neg (by omega), if_neg (by omega), if_neg (by omega), if_neg (by omega), wsucc (by omega)]
      · obtain ⟨a, a2⟩ := h2 hb
        refine ⟨?_, a2⟩
        rw [drop_rd87 l hlt]
        intro x hx
        rcases List.mem_cons.1 hx with rfl | hx
        · exact c
        · exact a x hx
    · refine ⟨false, Ev.last fun k => ?_, fun hb => by cases hb⟩
      rw [pyxlaw21_few.l0, if_pos (by omega), if_pos (by omega)]
      by_cases a1 : (rd_T87 l (i : Int)).f0 < 0
      · rw [if_pos a1]
      rw [if_neg a1]
      by_cases a2 : (rd_T87 l (i : Int)).f0 ≥ 4294967296
      · rw [if_pos a2]
      rw [if_neg a2]
      by_cases a3 : (rd_T87 l (i : Int)).f1 < 0
      · rw [if_pos a3]
      rw [if_neg a3]
      by_cases a4 : (rd_T87 l (i : Int)).f1 ≥ 4294967296
      · rw [if_pos a4]
      rw [if_neg a4]
      by_cases a5 : (rd_T87 l (i : Int)).f2 < 0
      · rw [if_pos a5]
      rw [if_neg a5, if_pos (by omega)]
theorem few_ev (l : List S87) (hl : l.length < 4611686018427387904) : ∃ b, Ev (fun k => pyxlaw21_few.f k l) b ∧ (b = true → Few21 l) := by
  obtain ⟨b, h1, h2⟩ := few_l0 l hl l.length 0 (by omega) (by omega)
  exact ⟨b, by simpa [pyxlaw21_few.f] using h1, by simpa [Few21] using h2⟩
theorem make_fin (l : List S87) (hl2 : l.length ≤ 10) (i : Nat) (s : Int) (B : List Int) (hB : IsBytes B) (hBl : 4 ≤ B.length) (hBu : B.length ≤ 100000) (hlt : i < l.length)
    (ih : ∀ L : List Int, IsBytes L → L.length ≤ 56 → ∃ r, Ev (fun k => pyxref21_Make.l0 k l (B ++ L) ((i + 1 : Nat) : Int)) r ∧ IsBytes r ∧ 4 ≤ r.length ∧ r.length ≤ 200000) :
    ∃ r, Ev (fun k => if (i : Int) < wrap64 ((l.length : Int) - 1) then (if 0 ≤ wrap64 ((i : Int) + 1) then (if wrap64 ((i : Int) + 1) < (l.length : Int) then ((pyxref21_LMS.f k ((rd_T87 l (wrap64 ((i : Int) + 1))).f2) ((rd_T87 l (wrap64 ((i : Int) + 1))).f1) s).bind fun t282 => (if B.length + t282.length < 140737488355328 then (pyxref21_Make.l0 k l (B ++ t282) (wrap64 ((i : Int) + 1))) else none)) else none) else none) else pyxref21_Make.l0 k l B (wrap64 ((i : Int) + 1))) r ∧ IsBytes r ∧ 4 ≤ r.length ∧ r.length ≤ 200000 := by
  have e3 : wrap64 ((l.length : Int) - 1) = (l.length : Int) - 1 := w64 (by omega) (by omega)
  have e4 := wsucc (j := i) (by omega)
  by_cases c1 : i + 1 < l.length
  · obtain ⟨L, L1, L2, L3⟩ := lms_ev ((rd_T87 l (wrap64 ((i : Int) + 1))).f2) ((rd_T87 l (wrap64 ((i : Int) + 1))).f1) s
    obtain ⟨r, r1, r2, r3, r4⟩ := ih L L2 (Nat.le_of_eq L3)
    have hlen : B.length + L.length < 140737488355328 := by omega
    clear ih
    refine ⟨r, ?_, r2, r3, r4⟩
    refine Ev.congr (fun k => by rw [if_pos (by omega), if_pos (by omega), if_pos (by omega)]) ?_
    refine Ev.bind L1 ?_
    refine Ev.congr (fun k => by rw [if_pos hlen, e4]) ?_
    exact r1
  · obtain ⟨r, r1, r2, r3, r4⟩ := ih [] (fun y hy => by simp at hy) (Nat.zero_le _)
    rw [List.append_nil] at r1
    clear ih
    refine ⟨r, ?_, r2, r3, r4⟩
    refine Ev.congr (fun k => by rw [if_neg (by omega), e4]) ?_
    exact r1
theorem make_l0 (l : List S87) (hf : Few21 l) : ∀ (d : Nat) (acc : List Int) (i : Nat), l.length - i = d → i ≤ l.length → IsBytes acc → 4 ≤ acc.length → acc.length ≤ 4 + 10000 * i →
    ∃ r, Ev (fun k => pyxref21_Make.l0 k l acc (i : Int)) r ∧ IsBytes r ∧ 4 ≤ r.length ∧ r.length ≤ 200000 := by
  obtain ⟨hq, hl1, hl2⟩ := hf
  intro d
  induction d with
  | zero =>
    intro acc i e h hb h4 ha
    exact ⟨acc, Ev.last fun k => by rw [pyxref21_Make.l0, if_neg (by omega)], hb, h4, by omega⟩
  | succ d ih =>
    intro acc i e h hb h4 ha
    have hlt : i < l.length := by omega
    have hd1 : l.length - (i + 1) = d := by omega
    have hd2 : i + 1 ≤ l.length := hlt
    obtain ⟨x, hxe⟩ : ∃ x, x = rd_T87 l (i : Int) := ⟨_, rfl⟩
    have hc := chn_le x.f1
    have hh := hgt_le x.f2
    have w1 := words_ev [x.f0, x.f1] (by simp)
    have w2 := words_ev [x.f2] (by simp)
    have b1 : IsBytes ([x.f0, x.f1].flatMap be4) := by simp only [List.flatMap_cons, List.flatMap_nil, List.append_nil]; exact bytes_app (be4_bytes _) (be4_bytes _)
    have b2 : IsBytes ([x.f2].flatMap be4) := by simp only [List.flatMap_cons, List.flatMap_nil, List.append_nil]; exact be4_bytes _
    have n1 : ([x.f0, x.f1].flatMap be4).length = 8 := by simp [be4]
    have n2 : ([x.f2].flatMap be4).length = 4 := by simp [be4]
    generalize [x.f0, x.f1].flatMap be4 = A1 at w1 b1 n1
    generalize [x.f2].flatMap be4 = A2 at w2 b2 n2
    obtain ⟨c, hce⟩ := Int.eq_ofNat_of_zero_le hc.1
    obtain ⟨g, hge⟩ := Int.eq_ofNat_of_zero_le hh.1
    obtain ⟨S1, s1, sb1, sl1⟩ := spread_ev x.f3 (32 + 32 * c) (by omega)
    obtain ⟨S2, s2, sb2, sl2⟩ := spread_ev ((x.f3 + 1) % 4294967296) (32 * g) (by omega)
    obtain ⟨B, hB⟩ : ∃ B, B = acc ++ A1 ++ S1 ++ A2 ++ S2 := ⟨_, rfl⟩
    have hBb : IsBytes B := by rw [hB]; exact bytes_app (bytes_app (bytes_app (bytes_app hb b1) sb1) b2) sb2
    have hBl : B.length = acc.length + 8 + (32 + 32 * c) + 4 + 32 * g := by rw [hB]; simp only [List.length_append]; omega
    have hc' : c ≤ 265 := by omega
    have hg' : g ≤ 25 := by omega
    have fin := make_fin l hl2 i x.f3 B hBb (by omega) (by omega) hlt (fun L L1 L2 => ih (B ++ L) (i + 1) hd1 hd2 (bytes_app hBb L1) (by simp; omega) (by rw [List.length_append, hBl]; omega))
    obtain ⟨r, r1, r2, r3, r4⟩ := fin
    refine ⟨r, ?_, r2, r3, r4⟩
    have q1 : (i : Int) < (l.length : Int) := by omega
    have q2 : 0 ≤ (i : Int) := by omega
    have p1 : acc.length + A1.length < 140737488355328 := by omega
    have p2 : (acc ++ A1).length + S1.length < 140737488355328 := by rw [List.length_append]; omega
    have p3 : (acc ++ A1 ++ S1).length + A2.length < 140737488355328 := by rw [List.length_append, List.length_append]; omega
    have p4 : (acc ++ A1 ++ S1 ++ A2).length + S2.length < 140737488355328 := by rw [List.length_append, List.length_append, List.length_append]; omega
    have e1 : wrap64 (32 + wrap64 (32 * (chn x.f1).1)) = ((32 + 32 * c : Nat) : Int) := by rw [hce, w64 (x := 32 * (c : Int)) (by omega) (by omega), w64 (by omega) (by omega)]; omega
    have e2 : wrap64 (32 * (hgt x.f2).1) = ((32 * g : Nat) : Int) := by clear e1; rw [hge, w64 (by omega) (by omega)]; omega
    refine Ev.step (fun k => by rw [pyxref21_Make.l0, if_pos q1, if_pos q2, ← hxe]) ?_
    refine Ev.bind w1 ?_
    refine Ev.congr (fun k => by rw [if_pos p1, Option.bind_some, rchains, Option.bind_some, e1]) ?_
    refine Ev.bind s1 ?_
    refine Ev.congr (fun k => by rw [if_pos p2, Option.bind_some]) ?_
    refine Ev.bind w2 ?_
    refine Ev.congr (fun k => by rw [if_pos p3, Option.bind_some, rheight, Option.bind_some, e2]) ?_
    refine Ev.bind s2 ?_
    refine Ev.congr (fun k => by rw [if_pos p4, Option.bind_some, ← hB]) r1
theorem make_ev (l : List S87) (hf : Few21 l) : ∃ r, Ev (fun k => pyxref21_Make.f k l) r ∧ IsBytes r ∧ 4 ≤ r.length ∧ r.length ≤ 200000 := by
  have w1 := words_ev [wrap64 ((l.length : Int) - 1)] (by simp)
  obtain ⟨r, r1, r2⟩ := make_l0 l hf l.length ([wrap64 ((l.length : Int) - 1)].flatMap be4) 0 (by omega) (by omega) (by simp only [List.flatMap_cons, List.flatMap_nil, List.append_nil]; exact be4_bytes _) (by simp [be4]) (by simp [be4])
  exact ⟨r, Ev.congr (fun k => by rw [pyxref21_Make.f]) (Ev.bind w1 r1), r2⟩
end Go.Proofs.YtijmigapdcikpaaDoor.PLms
