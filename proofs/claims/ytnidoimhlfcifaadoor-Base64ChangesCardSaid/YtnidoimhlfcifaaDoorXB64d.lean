/- Equal lists, sizes, joins: what the laws of base 64 ask beside the two ways. -/
import Derived.Test.YtnidoimhlfcifaaDoorXB64c
namespace Go.Proofs.YtnidoimhlfcifaaDoor.PB64
open Go.RowKit Go.Proofs.YtnidoimhlfcifaaDoorW.PrintWords Go.Proofs.YtnidoimhlfcifaaDoorW.PrintMore Go.Proofs.YtnidoimhlfcifaaDoorW.Pu
set_option linter.unusedVariables false

theorem same_l (a b : List Int) (hlen : a.length = b.length) (hn : a.length < 4611686018427387904) : ∀ d i : Nat, a.length - i = d → i ≤ a.length →
    Ev (fun k => pyxref01_Same.l0 k a b (i : Int)) (decide (a.drop i = b.drop i)) := by
  intro d
  induction d with
  | zero =>
    intro i hd hi
    have e1 : a.drop i = [] := List.drop_eq_nil_of_le (by omega)
    have e2 : b.drop i = [] := List.drop_eq_nil_of_le (by omega)
    rw [e1, e2]
    exact Ev.last fun k => by rw [pyxref01_Same.l0, if_neg (by omega)]; rfl
  | succ d ih =>
    intro i hd hi
    have h1 : i < a.length := by omega
    have h2 : i < b.length := by omega
    rw [drop_rd a h1, drop_rd b h2]
    by_cases hr : rd a i = rd b i
    · rw [hr]
      have e : decide (rd b ↑i :: List.drop (i + 1) a = rd b ↑i :: List.drop (i + 1) b) = decide (a.drop (i + 1) = b.drop (i + 1)) := by simp
      rw [e]
      exact Ev.step' (ih (i + 1) (by omega) (by omega)) fun k => by rw [pyxref01_Same.l0, if_pos (by omega), if_pos (by omega), if_pos (by omega), if_pos hr, wsucc (by omega)]
    · have e : decide (rd a ↑i :: List.drop (i + 1) a = rd b ↑i :: List.drop (i + 1) b) = false := by simp [hr]
      rw [e]
      exact Ev.last fun k => by rw [pyxref01_Same.l0, if_pos (by omega), if_pos (by omega), if_pos (by omega), if_neg hr]
theorem same_ev (a b : List Int) (hn : a.length < 4611686018427387904) : Ev (fun k => pyxref01_Same.f k a b) (decide (a = b)) := by
  by_cases h : a.length = b.length
  · have := same_l a b h hn a.length 0 (by omega) (by omega)
    simp only [List.drop_zero] at this
    refine Ev.congr (fun k => ?_) this
    rw [pyxref01_Same.f, if_pos (by omega)]
    rfl
  · have e : decide (a = b) = false := by simp; intro h'; exact h (by rw [h'])
    rw [e]
    exact Ev.const' fun k => by rw [pyxref01_Same.f, if_neg (by omega)]



theorem str_len (l : List Int) : (strOfNums l).size = l.length := by rw [← size_list, strOfNums_data, List.length_map]
theorem bytes_ext {s t : ByteArray} (h : s.data.toList = t.data.toList) : s = t := by
  cases s; cases t
  congr 1
  exact Array.ext' h
theorem data_append (s t : ByteArray) : (s ++ t).data.toList = s.data.toList ++ t.data.toList := by
  rw [ByteArray.data_append, Array.toList_append]
theorem str_append (l m : List Int) : strOfNums (l ++ m) = strOfNums l ++ strOfNums m := by
  apply bytes_ext
  rw [data_append, strOfNums_data, strOfNums_data, strOfNums_data, List.map_append]
theorem encI_append (a : Int) : ∀ (n : Nat) (l m : List Int), l.length = 3 * n → encI a (l ++ m) = encI a l ++ encI a m := by
  intro n
  induction n with
  | zero =>
    intro l m h
    have : l = [] := List.eq_nil_of_length_eq_zero (by omega)
    subst this
    rfl
  | succ n ih =>
    intro l m h
    match l, h with
    | [], h => simp at h
    | [x], h => simp at h; omega
    | [x, y], h => simp at h; omega
    | x :: y :: z :: r, h =>
      have h4 := ih r m (by simp at h; omega)
      simp only [List.cons_append, encI, h4]
theorem encN_len {a : Int} (ha : a = 1 ∨ a = 2) {l : List Int} (hb : IsBytes l) : (encN a l).length = if a = 1 then (l.length + 2) / 3 * 4 else (l.length * 4 + 2) / 3 := by
  rw [encN_eq a l hb, List.length_append, encI_len_mod a l.length l (Nat.le_refl _)]
  unfold padN
  rcases ha with rfl | rfl
  · rw [if_pos (show (1 : Int) = 1 from rfl), if_pos (show (1 : Int) = 1 from rfl), List.length_replicate]
    split <;> omega
  · rw [if_neg (show ¬ (2 : Int) = 1 by decide), if_neg (show ¬ (2 : Int) = 1 by decide), List.length_nil]
    split <;> omega
theorem encN_append {a : Int} {l m : List Int} (hl : IsBytes l) (hm : IsBytes m) (h : l.length % 3 = 0) : encN a (l ++ m) = encN a l ++ encN a m := by
  have hlm : IsBytes (l ++ m) := fun b hb => by
    rcases List.mem_append.1 hb with h | h
    · exact hl b h
    · exact hm b h
  rw [encN_eq a _ hlm, encN_eq a l hl, encN_eq a m hm, encI_append a (l.length / 3) l m (by omega)]
  have e1 : padN a l.length = [] := by
    unfold padN
    rw [h]
    split <;> rfl
  have e2 : padN a (l ++ m).length = padN a m.length := by
    unfold padN
    rw [List.length_append, show (l.length + m.length) % 3 = m.length % 3 by omega]
  rw [e1, e2, List.append_nil, List.append_assoc]
theorem ne_of_append {s t : ByteArray} (h : t.size ≠ 0) : s ++ t ≠ s := by
  intro e
  have := congrArg ByteArray.size e
  rw [ByteArray.size_append] at this
  omega
/-- A text that is not the encoding of l is not decoded to l. -/
theorem decS_other {a : Int} {s : ByteArray} {l : List Int} (h : s ≠ strOfNums (encN a l)) (hd : (decS a s).2 = true) : (decS a s).1 ≠ l := by
  intro e
  have := (decS_ok hd).2.1
  rw [e] at this
  exact h this.symm
theorem awake_ev : Ev (fun k => pyxlaw04_awake.f k) true := Ev.of pyxlaw04_awake.mono pyxlaw04_awake.eval
end Go.Proofs.YtnidoimhlfcifaaDoor.PB64
