/- Valid, Text and the reference's number. -/
import Derived.Test.YtohmnlmeamkmjaaDoorZXPar1
import Derived.Test.YtohmnlmeamkmjaaDoorZPParamsx19
namespace Go.Proofs.YtohmnlmeamkmjaaDoor.PParams
open Go.RowKit Go.Proofs.YtohmnlmeamkmjaaDoorW.PrintWords Go.Proofs.YtohmnlmeamkmjaaDoorW.PrintLast Go.Proofs.YtohmnlmeamkmjaaDoorW.PrintMore Go.Proofs.YtohmnlmeamkmjaaDoorW.Pu
def IsU32 (l : List Int) : Prop := ∀ n ∈ l, 0 ≤ n ∧ n < 4294967296
abbrev B (l : List UInt8) : ByteArray := ⟨l.toArray⟩
theorem B_append (a b : List UInt8) : B a ++ B b = B (a ++ b) := by
  apply ByteArray.ext
  rw [ByteArray.data_append]
  simp
theorem B_size (a : List UInt8) : (B a).size = a.length := by simp [ByteArray.size]
theorem B_toList (a : List UInt8) : (B a).toList = a := by rw [ByteArray.toList_eq]
def DD (n : Int) : List UInt8 := Lib.decDigits n.toNat
def txl (l : List Int) : List UInt8 := if validB l = true then joinG [46] (l.map DD) else []
def tx (l : List Int) : ByteArray := B (txl l)
theorem rvalid_l (l : List Int) (hn : l.length < 4611686018427387904) : ∀ d i : Nat, l.length - i = d → i ≤ l.length →
    Ev (fun k => pyxref09_Valid.l0 k l (i : Int)) (!((l.drop i).any fun n => decide (n ≥ 4294967216))) := by
  intro d
  induction d with
  | zero =>
    intro i hd hi
    rw [List.drop_eq_nil_of_le (by omega)]
    exact Ev.last fun k => by rw [pyxref09_Valid.l0, if_neg (by omega)]; rfl
  | succ d ih =>
    intro i hd hi
    have h1 : i < l.length := by omega
    rw [drop_rd l h1, List.any_cons]
    by_cases hr : rd l i ≥ 4294967216
    · rw [decide_eq_true hr]
      exact Ev.last fun k => by rw [pyxref09_Valid.l0, if_pos (by omega), if_pos (by omega), if_pos hr]; rfl
    · rw [decide_eq_false hr, Bool.false_or]
      exact Ev.step' (ih (i + 1) (by omega) (by omega)) fun k => by rw [pyxref09_Valid.l0, if_pos (by omega), if_pos (by omega), if_neg hr, wsucc (by omega)]
theorem rvalid (l : List Int) : Ev (fun k => pyxref09_Valid.f k l) (validB l) := by
  have ht : Ev (fun k => pyxref09_Valid.j0 k l true) false := Ev.last fun k => by rw [pyxref09_Valid.j0, if_pos rfl]
  by_cases h1 : l.length < 2
  · have e : validB l = false := by unfold validB; rw [decide_eq_false (by omega)]; rfl
    rw [e]
    exact Ev.congr (fun k => by rw [pyxref09_Valid.f, if_pos (by omega)]) ht
  · by_cases h2 : 20 < l.length
    · have e : validB l = false := by unfold validB; rw [decide_eq_false (show ¬ l.length ≤ 20 by omega)]; simp
      rw [e]
      exact Ev.congr (fun k => by rw [pyxref09_Valid.f, if_neg (by omega), if_pos (by omega)]) ht
    · have hf : Ev (fun k => pyxref09_Valid.j0 k l false) (!(l.any fun n => decide (n ≥ 4294967216))) :=
        Ev.step' (rvalid_l l (by omega) l.length 0 (by omega) (by omega)) fun k => by rw [pyxref09_Valid.j0, if_neg (by decide)]; rfl
      have e0 : validB l = (decide (rd l 0 ≤ 2) && ((!(decide (rd l 0 < 2) && decide (40 ≤ rd l 1))) && !(l.any fun n => decide (n ≥ 4294967216)))) := by
        unfold validB
        rw [decide_eq_true (show 2 ≤ l.length by omega), decide_eq_true (show l.length ≤ 20 by omega), Bool.true_and, Bool.true_and]
      by_cases h3 : rd l 0 > 2
      · have e : validB l = false := by rw [e0, decide_eq_false (by omega), Bool.false_and]
        rw [e]
        exact Ev.congr (fun k => by rw [pyxref09_Valid.f, if_neg (by omega), if_neg (by omega), if_pos (by omega), if_pos h3]) ht
      · rw [decide_eq_true (show rd l 0 ≤ 2 by omega), Bool.true_and] at e0
        by_cases h4 : rd l 0 < 2
        · rw [decide_eq_true h4, Bool.true_and] at e0
          by_cases h5 : rd l 1 > 39
          · have e : validB l = false := by rw [e0, decide_eq_true (show 40 ≤ rd l 1 by omega)]; rfl
            rw [e]
            exact Ev.congr (fun k => by rw [pyxref09_Valid.f, if_neg (by omega), if_neg (by omega), if_pos (by omega), if_neg h3, if_pos h4, if_pos (by omega), decide_eq_true h5]) ht
          · rw [decide_eq_false (show ¬ 40 ≤ rd l 1 by omega), Bool.not_false, Bool.true_and] at e0
            rw [e0]
            exact Ev.congr (fun k => by rw [pyxref09_Valid.f, if_neg (by omega), if_neg (by omega), if_pos (by omega), if_neg h3, if_pos h4, if_pos (by omega), decide_eq_false h5]) hf
        · rw [decide_eq_false h4, Bool.false_and, Bool.not_false, Bool.true_and] at e0
          rw [e0]
          exact Ev.congr (fun k => by rw [pyxref09_Valid.f, if_neg (by omega), if_neg (by omega), if_pos (by omega), if_neg h3, if_neg h4]) hf
theorem valid_len {l : List Int} (h : validB l = true) : 2 ≤ l.length ∧ l.length ≤ 20 := by
  unfold validB at h
  simp only [Bool.and_eq_true, decide_eq_true_eq] at h
  exact ⟨h.1, h.2.1⟩
theorem DD_len {n : Int} (h : 0 ≤ n ∧ n < 4294967296) : (DD n).length ≤ 10 := dd_len 9 _ (by have := h.2; omega)
theorem joinG_len (m : Nat) : ∀ ws : List (List UInt8), (∀ w ∈ ws, w.length ≤ m) → (joinG [46] ws).length ≤ ws.length * (m + 1) := by
  intro ws
  induction ws with
  | nil => intro _; simp [joinG]
  | cons a r ih =>
    intro h
    have h1 := h a (by simp)
    have h2 := ih (fun w hw => h w (List.mem_cons_of_mem _ hw))
    rw [List.length_cons, Nat.add_mul]
    by_cases hr : r = []
    · subst hr
      show a.length ≤ _
      omega
    · rw [joinG_cons2 _ _ hr]
      simp only [List.length_append, List.length_cons, List.length_nil]
      omega
theorem map_len {l : List Int} (h : IsU32 l) : ∀ w ∈ l.map DD, w.length ≤ 10 := by
  intro w hw
  obtain ⟨n, hn, rfl⟩ := List.mem_map.1 hw
  exact DD_len (h n hn)
theorem dec_B {n : Int} (h : 0 ≤ n ∧ n < 4294967296) : dec n.toNat = B (DD n) := dec_eq (by omega)
theorem rtext_l (l : List Int) (h : IsU32 l) (hl : l.length ≤ 20) : ∀ d i : Nat, l.length - i = d → 1 ≤ i → i ≤ l.length →
    Ev (fun k => pyxref09_Text.l0 k l (B (joinG [46] ((l.take i).map DD))) (i : Int)) (B (joinG [46] (l.map DD))) := by
  intro d
  induction d with
  | zero =>
    intro i hd _ hi
    rw [List.take_of_length_le (by omega)]
    exact Ev.last fun k => by rw [pyxref09_Text.l0, if_neg (by omega)]
  | succ d ih =>
    intro i hd hp hi
    have h1 : i < l.length := by omega
    have hr := h _ (rd_mem h1)
    refine Ev.step' (ih (i + 1) (by omega) (by omega) (by omega)) fun k => ?_
    have hf : pyxref02_Decimal.f (wrap64 (rd l (i : Int))) = some (B (DD (rd l i))) := by
      rw [w64 (by omega) (by omega), pyxref02_Decimal.f, if_pos ⟨hr.1, by omega⟩, dec_B hr]
    have ht : joinG [46] ((l.take (i + 1)).map DD) = joinG [46] ((l.take i).map DD) ++ [46] ++ DD (rd l i) := by
      rw [List.take_add_one, List.getElem?_eq_getElem h1, List.map_append, ← rd_get h1]
      have hne : (l.take i).map DD ≠ [] := by
        intro he
        have := congrArg List.length he
        rw [List.length_map, List.length_take] at this
        simp only [List.length_nil] at this
        omega
      exact joinG_append [46] _ [DD (rd l i)] hne (by simp)
    have hj := joinG_len 10 ((l.take i).map DD) (fun w hw => map_len h w (by
      obtain ⟨n, hn, rfl⟩ := List.mem_map.1 hw
      exact List.mem_map.2 ⟨n, List.mem_of_mem_take hn, rfl⟩))
    rw [List.length_map, List.length_take] at hj
    have hd10 := DD_len hr
    rw [pyxref09_Text.l0, if_pos (by omega), if_pos (by rw [B_size]; omega), if_pos (by omega), hf, Option.bind_some, show (⟨#[46]⟩ : ByteArray) = B [46] from rfl, B_append, if_pos (by rw [B_size, B_size, List.length_append]; simp only [List.length_cons, List.length_nil]; omega), B_append, wsucc (by omega), ht]
theorem rtext_ev {l : List Int} (h : IsU32 l) : Ev (fun k => pyxref09_Text.f k l) (tx l) := by
  unfold tx txl
  have hv0 := rvalid l
  cases hv : validB l with
  | false =>
    rw [hv] at hv0
    rw [if_neg (by decide)]
    exact Ev.bind hv0 (Ev.const' fun k => by rw [if_neg (by decide)])
  | true =>
    rw [hv] at hv0
    have hl := valid_len hv
    rw [if_pos rfl]
    have h0 : 0 < l.length := by omega
    have hr : 0 ≤ rd l 0 ∧ rd l 0 < 4294967296 := h _ (rd_mem h0)
    have ht : joinG [46] ((l.take 1).map DD) = DD (rd l 0) := by
      rw [show (1 : Nat) = 0 + 1 from rfl, List.take_add_one, List.getElem?_eq_getElem h0, ← rd_get h0]
      rfl
    refine Ev.bind hv0 (Ev.congr (fun k => ?_) (rtext_l l h hl.2 (l.length - 1) 1 rfl (by omega) (by omega)))
    have hf : pyxref02_Decimal.f (wrap64 (rd l 0)) = some (B (DD (rd l 0))) := by
      rw [w64 (by omega) (by omega), pyxref02_Decimal.f, if_pos ⟨hr.1, by omega⟩, dec_B hr]
    rw [if_pos rfl, if_pos (by omega), hf, Option.bind_some, ht]
    rfl
theorem spl_tx {l : List Int} (h : l ≠ []) : spl [] (joinG [46] (l.map DD)) = l.map DD :=
  spl_join _ (by simpa using h) (fun w hw x hx => by
    obtain ⟨n, _, rfl⟩ := List.mem_map.1 hw
    exact dd_dot _ x hx)
theorem txl_ne {l : List Int} (hv : validB l = true) : txl l ≠ [] := by
  have hl := valid_len hv
  obtain ⟨a, b, r, rfl⟩ : ∃ a b r, l = a :: b :: r := by
    match l, hl.1 with
    | a :: b :: r, _ => exact ⟨a, b, r, rfl⟩
  unfold txl
  rw [if_pos hv]
  show joinG [46] (DD a :: DD b :: r.map DD) ≠ []
  rw [joinG_cons2 _ _ (by simp)]
  simp
theorem txl_no {l : List Int} (hv : validB l = false) : txl l = [] := by unfold txl; rw [if_neg (by rw [hv]; decide)]
theorem DD_inj {a b : Int} (ha : 0 ≤ a) (hb : 0 ≤ b) (h : DD a = DD b) : a = b := by
  have := congrArg (dval 0) h
  unfold DD at this
  rw [dd_val, dd_val] at this
  omega
theorem map_DD_inj : ∀ (a b : List Int), IsU32 a → IsU32 b → a.map DD = b.map DD → a = b := by
  intro a
  induction a with
  | nil => intro b _ _ h; cases b with
    | nil => rfl
    | cons _ _ => simp at h
  | cons x a ih =>
    intro b ha hb h
    cases b with
    | nil => simp at h
    | cons y b =>
      simp only [List.map_cons, List.cons.injEq] at h
      rw [DD_inj (ha x (by simp)).1 (hb y (by simp)).1 h.1, ih b (fun n hn => ha n (List.mem_cons_of_mem _ hn)) (fun n hn => hb n (List.mem_cons_of_mem _ hn)) h.2]
theorem txl_inj {a b : List Int} (ha : IsU32 a) (hb : IsU32 b) (va : validB a = true) (vb : validB b = true) (h : txl a = txl b) : a = b := by
  unfold txl at h
  rw [if_pos va, if_pos vb] at h
  have h2 := congrArg (spl []) h
  have la := valid_len va
  have lb := valid_len vb
  rw [spl_tx (by intro h; subst h; simp at la), spl_tx (by intro h; subst h; simp at lb)] at h2
  exact map_DD_inj a b ha hb h2
end Go.Proofs.YtohmnlmeamkmjaaDoor.PParams
