/- Valid, Text and the reference's number. -/
import Derived.Test.YtohmnlmeamkmjaaDoorZXOid1
namespace Go.Proofs.YtohmnlmeamkmjaaDoor.POid
open Go.RowKit Go.Proofs.YtohmnlmeamkmjaaDoorW.PrintWords Go.Proofs.YtohmnlmeamkmjaaDoorW.PrintLast Go.Proofs.YtohmnlmeamkmjaaDoorW.PrintMore Go.Proofs.YtohmnlmeamkmjaaDoorW.Pu
def IsU32 (l : List Int) : Prop := ∀ n ∈ l, 0 ≤ n ∧ n < 4294967296
abbrev B (l : List UInt8) : ByteArray := ⟨l.toArray⟩
theorem rvalid_l (l : List Int) (hn : l.length < 4611686018427387904) : ∀ d i : Nat, l.length - i = d → i ≤ l.length →
    Ev (fun k => pyxref09_Valid.l0 k l (i : Int)) (!((l.drop i).any fun n => decide (n ≥ 4294967216))) := by
  intro d
  induction d with
  | zero =>
    intro i hd hi
    rw [List.drop_eq_nil_of_le (by omega)]
    exact Ev.last fun k => by rw [pyxref09_Valid.l0, if_neg (by omega)]; rfl
  | succ d ih =>
    intro i hd hi
    have h1 : i < l.length := by omega
    rw [drop_rd l h1, List.any_cons]
    by_cases hr : rd l i ≥ 4294967216
    · rw [decide_eq_true hr]
      exact Ev.last fun k => by rw [pyxref09_Valid.l0, if_pos (by omega), if_pos (by omega), if_pos hr]; rfl
    · rw [decide_eq_false hr, Bool.false_or]
      exact Ev.step' (ih (i + 1) (by omega) (by omega)) fun k => by rw [pyxref09_Valid.l0, if_pos (by omega), if_pos (by omega), if_neg hr, wsucc (by omega)]
theorem rvalid (l : List Int) : Ev (fun k => pyxref09_Valid.f k l) (validB l) := by
  have ht : Ev (fun k => pyxref09_Valid.j0 k l true) false := Ev.last fun k => by rw [pyxref09_Valid.j0, if_pos rfl]
  by_cases h1 : l.length < 2
  · have e : validB l = false := by unfold validB; rw [decide_eq_false (by omega)]; rfl
    rw [e]
    exact Ev.congr (fun k => by rw [pyxref09_Valid.f, if_pos (by omega)]) ht
  · by_cases h2 : 20 < l.length
    · have e : validB l = false := by unfold validB; rw [decide_eq_false (show ¬ l.length ≤ 20 by omega)]; simp
      rw [e]
      exact Ev.congr (fun k => by rw [pyxref09_Valid.f, if_neg (by omega), if_pos (by omega)]) ht
    · have hf : Ev (fun k => pyxref09_Valid.j0 k l false) (!(l.any fun n => decide (n ≥ 4294967216))) :=
        Ev.step' (rvalid_l l (by omega) l.length 0 (by omega) (by omega)) fun k => by rw [pyxref09_Valid.j0, if_neg (by decide)]; rfl
      have e0 : validB l = (decide (rd l 0 ≤ 2) && ((!(decide (rd l 0 < 2) && decide (40 ≤ rd l 1))) && !(l.any fun n => decide (n ≥ 4294967216)))) := by
        unfold validB
        rw [decide_eq_true (show 2 ≤ l.length by omega), decide_eq_true (show l.length ≤ 20 by omega), Bool.true_and, Bool.true_and]
      by_cases h3 : rd l 0 > 2
      · have e : validB l = false := by rw [e0, decide_eq_false (by omega), Bool.false_and]
        rw [e]
        exact Ev.congr (fun k => by rw [pyxref09_Valid.f, if_neg (by omega), if_neg (by omega), if_pos (by omega), if_pos h3]) ht
      · rw [decide_eq_true (show rd l 0 ≤ 2 by omega), Bool.true_and] at e0
        by_cases h4 : rd l 0 < 2
        · rw [decide_eq_true h4, Bool.true_and] at e0
          by_cases h5 : rd l 1 > 39
          · have e : validB l = false := by rw [e0, decide_eq_true (show 40 ≤ rd l 1 by omega)]; rfl
            rw [e]
            exact Ev.congr (fun k => by rw [pyxref09_Valid.f, if_neg (by omega), if_neg (by omega), if_pos (by omega), if_neg h3, if_pos h4, if_pos (by omega), decide_eq_true h5]) ht
          · rw [decide_eq_false (show ¬ 40 ≤ rd l 1 by omega), Bool.not_false, Bool.true_and] at e0
            rw [e0]
            exact Ev.congr (fun k => by rw [pyxref09_Valid.f, if_neg (by omega), if_neg (by omega), if_pos (by omega), if_neg h3, if_pos h4, if_pos (by omega), decide_eq_false h5]) hf
        · rw [decide_eq_false h4, Bool.false_and, Bool.not_false, Bool.true_and] at e0
          rw [e0]
          exact Ev.congr (fun k => by rw [pyxref09_Valid.f, if_neg (by omega), if_neg (by omega), if_pos (by omega), if_neg h3, if_neg h4]) hf
theorem valid_len {l : List Int} (h : validB l = true) : 2 ≤ l.length ∧ l.length ≤ 20 := by
  unfold validB at h
  simp only [Bool.and_eq_true, decide_eq_true_eq] at h
  exact ⟨h.1, h.2.1⟩
theorem valid_two {l : List Int} (h : validB l = true) : rd l 0 ≤ 2 ∧ (rd l 0 < 2 → rd l 1 < 40) ∧ ∀ n ∈ l, n < 4294967216 := by
  unfold validB at h
  simp only [Bool.and_eq_true, decide_eq_true_eq, Bool.not_eq_true', Bool.and_eq_false_imp, decide_eq_false_iff_not, List.any_eq_false] at h
  exact ⟨h.2.2.1, fun h1 => by have := h.2.2.2.1 h1; omega, fun n hn => by have := h.2.2.2.2 n hn; omega⟩
end Go.Proofs.YtohmnlmeamkmjaaDoor.POid
