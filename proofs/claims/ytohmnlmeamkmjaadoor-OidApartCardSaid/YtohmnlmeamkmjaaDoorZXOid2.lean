/- Valid, Text and the reference's number. -/
import Derived.Test.YtohmnlmeamkmjaaDoorZXOid1
namespace Go.Proofs.YtohmnlmeamkmjaaDoor.POid
open Go.RowKit Go.Proofs.YtohmnlmeamkmjaaDoorW.PrintWords Go.Proofs.YtohmnlmeamkmjaaDoorW.PrintLast Go.Proofs.YtohmnlmeamkmjaaDoorW.PrintMore Go.Proofs.YtohmnlmeamkmjaaDoorW.Pu
def IsU32 (l : List Int) : Prop := ∀ n ∈ l, 0 ≤ n ∧ n < 4294967296
abbrev B (l : List UInt8) : ByteArray := ⟨l.toArray⟩
theorem B_toList (a : List UInt8) : (B a).toList = a := by rw [ByteArray.toList_eq]
def DD (n : Int) : List UInt8 := Lib.decDigits n.toNat
def txl (l : List Int) : List UInt8 := if validB l = true then joinG [46] (l.map DD) else []
def tx (l : List Int) : ByteArray := B (txl l)
theorem rvalid_l (l : List Int) (hn : l.length < 4611686018427387904) : ∀ d i : Nat, l.length - i = d → i ≤ l.length →
    Ev (fun k => pyxref09_Valid.l0 k l (i : Int)) (!((l.drop i).any fun n => decide (n ≥ 4294967216))) := by
  intro d
  induction d with
  | zero =>
    intro i hd hi
    rw [List.drop_eq_nil_of_le (by omega)]
    exact Ev.last fun k => by rw [pyxref09_Valid.l0, if_neg (by omega)]; rfl
  | succ d ih =>
    intro i hd hi
    have h1 : i < l.length := by omega
    rw [drop_rd l h1, List.any_cons]
    by_cases hr : rd l i ≥ 4294967216
    · rw [decide_eq_true hr]
      exact Ev.last fun k => by rw [pyxref09_Valid.l0, if_pos (by omega), if_pos (by omega), if_pos hr]; rfl
    · rw [decide_eq_false hr, Bool.false_or]
      exact Ev.step' (ih (i + 1) (by omega) (by omega)) fun k => by rw [pyxref09_Valid.l0, if_pos (by omega), if_pos (by omega), if_neg hr, wsucc (by omega)]
theorem rvalid (l : List Int) : Ev (fun k => pyxref09_Valid.f k l) (validB l) := by
  have ht : Ev (fun k => pyxref09_Valid.j0 k l true) false := Ev.last fun k => by rw [pyxref09_Valid.j0, if_pos rfl]
  by_cases h1 : l.length < 2
  · have e : validB l = false := by unfold validB; rw [decide_eq_false (by omega)]; rfl
    rw [e]
    exact Ev.congr (fun k => by rw [pyxref09_Valid.f, if_pos (by omega)]) ht
  · by_cases h2 : 20 < l.length
    · have e : validB l = false := by unfold validB; rw [decide_eq_false (show ¬ l.length ≤ 20 by omega)]; simp
      rw [e]
      exact Ev.congr (fun k => by rw [pyxref09_Valid.f, if_neg (by omega), if_pos (by omega)]) ht
    · have hf : Ev (fun k => pyxref09_Valid.j0 k l false) (!(l.any fun n => decide (n ≥ 4294967216))) :=
        Ev.step' (rvalid_l l (by omega) l.length 0 (by omega) (by omega)) fun k => by rw [pyxref09_Valid.j0, if_neg (by decide)]; rfl
      have e0 : validB l = (decide (rd l 0 ≤ 2) && ((!(decide (rd l 0 < 2) && decide (40 ≤ rd l 1))) && !(l.any fun n => decide (n ≥ 4294967216)))) := by
        unfold validB
        rw [decide_eq_true (show 2 ≤ l.length by omega), decide_eq_true (show l.length ≤ 20 by omega), Bool.true_and, Bool.true_and]
      by_cases h3 : rd l 0 > 2
      · have e : validB l = false := by rw [e0, decide_eq_false (by omega), Bool.false_and]
        rw [e]
        exact Ev.congr (fun k => by rw [pyxref09_Valid.f, if_neg (by omega), if_neg (by omega), if_pos (by omega), if_pos h3]) ht
      · rw [decide_eq_true (show rd l 0 ≤ 2 by omega), Bool.true_and] at e0
        by_cases h4 : rd l 0 < 2
        · rw [decide_eq_true h4, Bool.true_and] at e0
          by_cases h5 : rd l 1 > 39
          · have e : validB l = false := by rw [e0, decide_eq_true (show 40 ≤ rd l 1 by omega)]; rfl
            rw [e]
            exact Ev.congr (fun k => by rw [pyxref09_Valid.f, if_neg (by omega), if_neg (by omega), if_pos (by omega), if_neg h3, if_pos h4, if_pos (by omega), decide_eq_true h5]) ht
          · rw [decide_eq_false (show ¬ 40 ≤ rd l 1 by omega), Bool.not_false, Bool.true_and] at e0
            rw [e0]
            exact Ev.congr (fun k => by rw [pyxref09_Valid.f, if_neg (by omega), if_neg (by omega), if_pos (by omega), if_neg h3, if_pos h4, if_pos (by omega), decide_eq_false h5]) hf
        · rw [decide_eq_false h4, Bool.false_and, Bool.not_false, Bool.true_and] at e0
          rw [e0]
          exact Ev.congr (fun k => by rw [pyxref09_Valid.f, if_neg (by omega), if_neg (by omega), if_pos (by omega), if_neg h3, if_neg h4]) hf
theorem valid_len {l : List Int} (h : validB l = true) : 2 ≤ l.length ∧ l.length ≤ 20 := by
  unfold validB at h
  simp only [Bool.and_eq_true, decide_eq_true_eq] at h
  exact ⟨h.1, h.2.1⟩
theorem valid_two {l : List Int} (h : validB l = true) : rd l 0 ≤ 2 ∧ (rd l 0 < 2 → rd l 1 < 40) ∧ ∀ n ∈ l, n < 4294967216 := by
  unfold validB at h
  simp only [Bool.and_eq_true, decide_eq_true_eq, Bool.not_eq_true', Bool.and_eq_false_imp, decide_eq_false_iff_not, List.any_eq_false] at h
  exact ⟨h.2.2.1, fun h1 => by have := h.2.2.2.1 h1; omega, fun n hn => by have := h.2.2.2.2 n hn; omega⟩
theorem DD_len {n : Int} (h : 0 ≤ n ∧ n < 4294967296) : (DD n).length ≤ 10 := dd_len 9 _ (by have := h.2; omega)
theorem joinG_len (m : Nat) : ∀ ws : List (List UInt8), (∀ w ∈ ws, w.length ≤ m) → (joinG [46] ws).length ≤ ws.length * (m + 1) := by
  intro ws
  induction ws with
  | nil => intro _; simp [joinG]
  | cons a r ih =>
    intro h
    have h1 := h a (by simp)
    have h2 := ih (fun w hw => h w (List.mem_cons_of_mem _ hw))
    rw [List.length_cons, Nat.add_mul]
    by_cases hr : r = []
    · subst hr
      show a.length ≤ _
      omega
    · rw [joinG_cons2 _ _ hr]
      simp only [List.length_append, List.length_cons, List.length_nil]
      omega
theorem map_len {l : List Int} (h : IsU32 l) : ∀ w ∈ l.map DD, w.length ≤ 10 := by
  intro w hw
  obtain ⟨n, hn, rfl⟩ := List.mem_map.1 hw
  exact DD_len (h n hn)
theorem dec_B {n : Int} (h : 0 ≤ n ∧ n < 4294967296) : dec n.toNat = B (DD n) := dec_eq (by omega)
theorem text_l (l : List Int) (h : IsU32 l) (hl : l.length ≤ 20) : ∀ d i : Nat, l.length - i = d → i ≤ l.length →
    Ev (fun k => oid_Text.l0 k ((l.take i).map fun n => B (DD n)) l (l.length : Int) (i : Int)) (B (joinG [46] (l.map DD))) := by
  intro d
  induction d with
  | zero =>
    intro i hd hi
    rw [List.take_of_length_le (by omega)]
    refine Ev.last fun k => ?_
    rw [oid_Text.l0, if_neg (by omega)]
    have hj := joinG_len 10 (l.map DD) (map_len h)
    have hm : (l.map fun n => B (DD n)).map (fun x : ByteArray => x.data.toList) = l.map DD := by
      rw [List.map_map]
      rfl
    rw [List.length_map] at hj
    rw [strings_Join.f, if_pos ⟨by rw [List.length_map]; omega, by rw [hm]; show (joinG [46] _).length ≤ _; omega⟩, hm]
    rfl
  | succ d ih =>
    intro i hd hi
    have h1 : i < l.length := by omega
    have hr := h _ (rd_mem h1)
    refine Ev.step' (ih (i + 1) (by omega) (by omega)) fun k => ?_
    have hf : strconv_FormatUint.f (IntKind.u64.wrap (rd l (i : Int))) 10 = some (B (DD (rd l i))) := by
      rw [wu64 hr.1 (by omega), strconv_FormatUint.f, if_pos ⟨⟨hr.1, by omega⟩, rfl⟩, dec_B hr]
    have ht : (l.take (i + 1)).map (fun n => B (DD n)) = (l.take i).map (fun n => B (DD n)) ++ [B (DD (rd l i))] := by
      rw [List.take_add_one, List.getElem?_eq_getElem h1, List.map_append, ← rd_get h1]
      rfl
    rw [oid_Text.l0, if_pos (by omega), if_pos (by omega), if_pos (by omega), hf, Option.bind_some, if_pos (by rw [List.length_map, List.length_take]; omega), wsucc (by omega), ht]
theorem text_ev {l : List Int} (h : IsU32 l) : Ev (fun k => oid_Text.f k l) (tx l) := by
  unfold tx txl
  cases hv : validB l with
  | false =>
    rw [if_neg (by decide)]
    exact Ev.const' fun k => by rw [oid_Text.f, oid_Valid.f, hv]; rfl
  | true =>
    have hl := valid_len hv
    rw [if_pos rfl]
    exact Ev.congr (fun k => by rw [oid_Text.f, oid_Valid.f, hv, Option.bind_some, if_pos rfl]; rfl) (text_l l h hl.2 l.length 0 (by omega) (by omega))
end Go.Proofs.YtohmnlmeamkmjaaDoor.POid
