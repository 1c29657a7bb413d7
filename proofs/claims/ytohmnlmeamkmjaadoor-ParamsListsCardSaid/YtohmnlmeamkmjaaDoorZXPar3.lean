/- The table's rows and what the program's own table tells; comparing lists of whole numbers. -/
import Derived.Test.YtohmnlmeamkmjaaDoorZXPar2
import Derived.Test.YtohmnlmeamkmjaaDoorZPParamsx21
import Derived.Test.YtohmnlmeamkmjaaDoorZPParamsx15
import Derived.Test.YtohmnlmeamkmjaaDoorZPParamsx12
namespace Go.Proofs.YtohmnlmeamkmjaaDoor.PParams
open Go.RowKit Go.Proofs.YtohmnlmeamkmjaaDoorW.PrintWords Go.Proofs.YtohmnlmeamkmjaaDoorW.PrintLast Go.Proofs.YtohmnlmeamkmjaaDoorW.PrintMore Go.Proofs.YtohmnlmeamkmjaaDoorW.Pu
theorem eqi_l (a b : List Int) (hlen : a.length = b.length) (hn : a.length < 4611686018427387904) : ∀ d i : Nat, a.length - i = d → i ≤ a.length →
    Ev (fun k => slices_Equal_int_int.l0 k a b (a.length : Int) (i : Int)) (decide (a.drop i = b.drop i)) := by
  intro d
  induction d with
  | zero =>
    intro i hd hi
    have e1 : a.drop i = [] := List.drop_eq_nil_of_le (by omega)
    have e2 : b.drop i = [] := List.drop_eq_nil_of_le (by omega)
    rw [e1, e2]
    exact Ev.last fun k => by rw [slices_Equal_int_int.l0, if_neg (by omega)]; rfl
  | succ d ih =>
    intro i hd hi
    have h1 : i < a.length := by omega
    have h2 : i < b.length := by omega
    rw [drop_rd1 a h1, drop_rd1 b h2]
    by_cases hr : rd a i = rd b i
    · rw [hr]
      have e : decide (rd b ↑i :: List.drop (i + 1) a = rd b ↑i :: List.drop (i + 1) b) = decide (a.drop (i + 1) = b.drop (i + 1)) := by simp
      rw [e]
      exact Ev.step' (ih (i + 1) (by omega) (by omega)) fun k => by rw [slices_Equal_int_int.l0, if_pos (by omega), if_pos (by omega), if_pos (by omega), if_pos (by omega), if_pos hr, wsucc (by omega)]
    · have e : decide (rd a ↑i :: List.drop (i + 1) a = rd b ↑i :: List.drop (i + 1) b) = false := by simp [hr]
      rw [e]
      exact Ev.last fun k => by rw [slices_Equal_int_int.l0, if_pos (by omega), if_pos (by omega), if_pos (by omega), if_pos (by omega), if_neg hr]
theorem eqi_ev (a b : List Int) (hn : a.length < 4611686018427387904) : Ev (fun k => slices_Equal_int_int.f k a b) (decide (a = b)) := by
  by_cases h : a.length = b.length
  · have := eqi_l a b h hn a.length 0 (by omega) (by omega)
    simp only [List.drop_zero] at this
    refine Ev.congr (fun k => ?_) this
    rw [slices_Equal_int_int.f, if_pos (by omega)]
    rfl
  · have e : decide (a = b) = false := by simp; intro h'; exact h (by rw [h'])
    rw [e]
    exact Ev.const' fun k => by rw [slices_Equal_int_int.f, if_neg (by omega)]
def u32A (l : List Int) : Bool := l.all fun n => decide (0 ≤ n ∧ n < 4294967296)
theorem u32A_of {l : List Int} (h : u32A l = true) : IsU32 l := fun n hn => of_decide_eq_true (List.all_eq_true.1 h n hn)
def agree (i : Nat) : Bool :=
  let r := rd_T42 tabR (i : Int)
  let p := prow (i + 1)
  decide (r.f0 = ((i + 1 : Nat) : Int)) && (decide (p.1 = ((i + 1 : Nat) : Int)) && (decide (r.f1 = p.2.1) && (decide (r.f2.data.toList = p.2.2.1.data.toList) && (decide (r.f3 = p.2.2.2.1) && (decide (r.f4 = p.2.2.2.2.1) && (decide (r.f5 = p.2.2.2.2.2.1) && (decide (r.f6 = p.2.2.2.2.2.2.1) && ((match pyxref09_Text.f 64 p.2.2.2.2.2.2.2.1 with | some t => decide (t.data.toList = r.f7.data.toList) | none => false) && (decide (r.f8 = p.2.2.2.2.2.2.2.2.1) && (decide (r.f9 = p.2.2.2.2.2.2.2.2.2) && (validB p.2.2.2.2.2.2.2.1 && u32A p.2.2.2.2.2.2.2.1)))))))))))
theorem agree_all (i : Nat) (h : i < 25) : agree i = true := by
  rcases (show i = 0 ∨ i = 1 ∨ i = 2 ∨ i = 3 ∨ i = 4 ∨ i = 5 ∨ i = 6 ∨ i = 7 ∨ i = 8 ∨ i = 9 ∨ i = 10 ∨ i = 11 ∨ i = 12 ∨ i = 13 ∨ i = 14 ∨ i = 15 ∨ i = 16 ∨ i = 17 ∨ i = 18 ∨ i = 19 ∨ i = 20 ∨ i = 21 ∨ i = 22 ∨ i = 23 ∨ i = 24 by omega) with rfl | rfl | rfl | rfl | rfl | rfl | rfl | rfl | rfl | rfl | rfl | rfl | rfl | rfl | rfl | rfl | rfl | rfl | rfl | rfl | rfl | rfl | rfl | rfl | rfl
  all_goals
    show _ = true
    kernel_rfl
theorem ba_eq {a b : ByteArray} (h : a.data.toList = b.data.toList) : a = b := by
  obtain ⟨a⟩ := a
  obtain ⟨b⟩ := b
  congr 1
  exact Array.toList_inj.1 h
structure RowOk (i : Nat) : Prop where
  f0 : (rd_T42 tabR (i : Int)).f0 = ((i + 1 : Nat) : Int)
  p1 : (prow (i + 1)).1 = ((i + 1 : Nat) : Int)
  f1 : (rd_T42 tabR (i : Int)).f1 = (prow (i + 1)).2.1
  f2 : (rd_T42 tabR (i : Int)).f2 = (prow (i + 1)).2.2.1
  f3 : (rd_T42 tabR (i : Int)).f3 = (prow (i + 1)).2.2.2.1
  f4 : (rd_T42 tabR (i : Int)).f4 = (prow (i + 1)).2.2.2.2.1
  f5 : (rd_T42 tabR (i : Int)).f5 = (prow (i + 1)).2.2.2.2.2.1
  f6 : (rd_T42 tabR (i : Int)).f6 = (prow (i + 1)).2.2.2.2.2.2.1
  f7 : (rd_T42 tabR (i : Int)).f7 = tx (prow (i + 1)).2.2.2.2.2.2.2.1
  f8 : (rd_T42 tabR (i : Int)).f8 = (prow (i + 1)).2.2.2.2.2.2.2.2.1
  f9 : (rd_T42 tabR (i : Int)).f9 = (prow (i + 1)).2.2.2.2.2.2.2.2.2
  va : validB (prow (i + 1)).2.2.2.2.2.2.2.1 = true
  us : IsU32 (prow (i + 1)).2.2.2.2.2.2.2.1
theorem row_ok (i : Nat) (h : i < 25) : RowOk i := by
  have h1 := agree_all i h
  unfold agree at h1
  simp only [Bool.and_eq_true, decide_eq_true_eq] at h1
  obtain ⟨a0, a1, a2, a3, a4, a5, a6, a7, a8, a9, a10, a11, a12⟩ := h1
  have hu := u32A_of a12
  refine ⟨a0, a1, a2, ba_eq a3, a4, a5, a6, a7, ?_, a9, a10, a11, hu⟩
  split at a8
  · rename_i t ht
    rw [decide_eq_true_eq] at a8
    obtain ⟨k, h2, h3⟩ := together (pyxref09_Text.mono _) (pyxref09_Text.mono _) (rtext_ev hu).rounds ⟨64, ht⟩
    rw [← ba_eq a8]
    exact Option.some.inj (h3.symm.trans h2)
  · cases a8
theorem tx_eq {a b : List Int} (ha : IsU32 a) (hb : IsU32 b) (va : validB a = true) : ((tx a).toList == (tx b).toList) = decide (a = b) := by
  unfold tx
  rw [B_toList, B_toList]
  by_cases h : a = b
  · rw [h, decide_eq_true rfl, beq_self_eq_true]
  · rw [decide_eq_false h]
    refine beq_eq_false_iff_ne.2 (fun h3 => ?_)
    cases vb : validB b with
    | true => exact h (txl_inj ha hb va vb h3)
    | false => rw [txl_no vb] at h3; exact txl_ne va h3
end Go.Proofs.YtohmnlmeamkmjaaDoor.PParams
