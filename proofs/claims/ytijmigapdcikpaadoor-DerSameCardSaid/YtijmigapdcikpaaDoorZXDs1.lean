/- der: any two nodes are compared alike, and their copies too: plain lemmas, no condition. -/
import Derived.Test.YtijmigapdcikpaaDoorZXPure
import Derived.Test.YtijmigapdcikpaaDoorZDsmSame
import Derived.Test.YtijmigapdcikpaaDoorZDsmGv
import Derived.Test.YtijmigapdcikpaaDoorZPDsmx12
import Derived.Test.YtijmigapdcikpaaDoorZPDsmx13
import Derived.Test.YtijmigapdcikpaaDoorZPDsmx11
namespace Go.Proofs.YtijmigapdcikpaaDoor.PDsm
open Go.RowKit Go.Proofs.YtijmigapdcikpaaDoorW.PrintWords Go.Proofs.YtijmigapdcikpaaDoorW.PrintLast Go.Proofs.YtijmigapdcikpaaDoorW.PrintMore Go.Proofs.YtijmigapdcikpaaDoorW.Pu
set_option linter.unusedVariables false
set_option linter.unusedSimpArgs false
inductive Fit : S33 → Prop
  | mk (x : S33) (h1 : x.f1.length < 1000000000000000) (hb : ∀ y ∈ x.f1, 0 ≤ y ∧ y < 256) (h2 : x.f2.length * 56 ≤ 140737488351232) (h3 : ∀ y ∈ x.f2, Fit y) : Fit x
mutual
def gT : S33 → S26
  | ⟨a, b, l⟩ => ⟨a, b, gTL l⟩
def gTL : List S33 → List S26
  | [] => []
  | x :: xs => gT x :: gTL xs
end
theorem gTL_len : ∀ l, (gTL l).length = l.length
  | [] => rfl
  | x :: xs => by rw [gTL, List.length_cons, List.length_cons, gTL_len xs]
theorem rd33_get {l : List S33} {i : Nat} (h : i < l.length) : rd_T33 l (i : Int) = l[i] := by
  unfold rd_T33
  rw [Int.toNat_natCast, List.getD_eq_getElem?_getD, List.getElem?_eq_getElem h]
  rfl
theorem rd33_drop {l : List S33} {i : Nat} (h : i < l.length) : l.drop i = rd_T33 l (i : Int) :: l.drop (i + 1) := by rw [List.drop_eq_getElem_cons h, rd33_get h]
theorem rd33_mem {l : List S33} {i : Nat} (h : i < l.length) : rd_T33 l (i : Int) ∈ l := by rw [rd33_get h]; exact List.getElem_mem h
theorem g_list : ∀ l : List S33, (∀ y ∈ l, y.f2.length * 56 ≤ 140737488351232 ∧ Ev (fun k => pyxlaw08_given.g k y.f2) (gTL y.f2)) → Ev (fun k => pyxlaw08_given.g k l) (gTL l)
  | [], _ => Ev.last fun k => rfl
  | x :: xs, h => by
    obtain ⟨h1, h2⟩ := h x (by simp)
    refine Ev.step (f := fun k => (pyxlaw08_given.g k x.f2).bind fun a => (pyxlaw08_given.g k xs).bind fun b => some ((⟨x.f0, x.f1, a⟩ : S26) :: b)) (fun k => ?_) (Ev.bind h2 (Ev.bind (g_list xs (fun y hy => h y (by simp [hy]))) (Ev.const' fun k => ?_)))
    · rw [pyxlaw08_given.g, if_pos (by omega)]
    · obtain ⟨a, b, c⟩ := x
      rfl
theorem given_g {x : S33} (h : Fit x) : Ev (fun k => pyxlaw08_given.g k x.f2) (gTL x.f2) := by
  induction h with
  | mk x h1 hb h2 h3 ih => exact g_list _ (fun y hy => ⟨by cases h3 y hy; assumption, ih y hy⟩)
theorem given_ev {x : S33} (h : Fit x) : Ev (fun k => pyxlaw08_given.f k x.f2) (gTL x.f2) := by
  have := given_g h
  cases h with
  | mk _ h1 hb h2 h3 => exact Ev.congr (fun k => by rw [pyxlaw08_given.f, if_pos (by omega)]) this
theorem depth_l {l : List S33} (t : Int) (b : List Int) (hl : l.length < 4611686018427387904) (h : ∀ y ∈ l, ∃ r, Ev (fun k => pyxref08_Depth.f k y.f0 y.f1 y.f2) r) : ∀ d i : Nat, l.length - i = d → i ≤ l.length → ∀ acc : Int, ∃ r, Ev (fun k => pyxref08_Depth.l0 k acc (i : Int) t b l) r := by
  intro d
  induction d with
  | zero => intro i hd hi acc; exact ⟨acc, Ev.last fun k => by rw [pyxref08_Depth.l0, if_neg (by omega)]⟩
  | succ d ih =>
    intro i hd hi acc
    have hlt : i < l.length := by omega
    obtain ⟨r1, h1⟩ := h _ (rd33_mem hlt)
    by_cases c : wrap64 (1 + r1) > acc
    · obtain ⟨r, hr⟩ := ih (i + 1) (by omega) (by omega) (wrap64 (1 + r1))
      refine ⟨r, Ev.step (f := fun k => (pyxref08_Depth.f k ((rd_T33 l (i : Int)).f0) ((rd_T33 l (i : Int)).f1) ((rd_T33 l (i : Int)).f2)).bind fun t193 => (if (wrap64 (1 + t193)) > acc then (pyxref08_Depth.l0 k (wrap64 (1 + t193)) ((i + 1 : Nat) : Int) t b l) else (pyxref08_Depth.l0 k acc ((i + 1 : Nat) : Int) t b l))) (fun k => ?_) (Ev.bind h1 (Ev.congr (fun k => by rw [if_pos c]) hr))⟩
      rw [pyxref08_Depth.l0, if_pos (by omega), if_pos (by omega), wsucc (by omega)]
    · obtain ⟨r, hr⟩ := ih (i + 1) (by omega) (by omega) acc
      refine ⟨r, Ev.step (f := fun k => (pyxref08_Depth.f k ((rd_T33 l (i : Int)).f0) ((rd_T33 l (i : Int)).f1) ((rd_T33 l (i : Int)).f2)).bind fun t193 => (if (wrap64 (1 + t193)) > acc then (pyxref08_Depth.l0 k (wrap64 (1 + t193)) ((i + 1 : Nat) : Int) t b l) else (pyxref08_Depth.l0 k acc ((i + 1 : Nat) : Int) t b l))) (fun k => ?_) (Ev.bind h1 (Ev.congr (fun k => by rw [if_neg c]) hr))⟩
      rw [pyxref08_Depth.l0, if_pos (by omega), if_pos (by omega), wsucc (by omega)]
theorem count_l {l : List S33} (t : Int) (b : List Int) (hl : l.length < 4611686018427387904) (h : ∀ y ∈ l, ∃ r, Ev (fun k => pyxref08_Count.f k y.f0 y.f1 y.f2) r) : ∀ d i : Nat, l.length - i = d → i ≤ l.length → ∀ acc : Int, ∃ r, Ev (fun k => pyxref08_Count.l0 k acc (i : Int) t b l) r := by
  intro d
  induction d with
  | zero => intro i hd hi acc; exact ⟨acc, Ev.last fun k => by rw [pyxref08_Count.l0, if_neg (by omega)]⟩
  | succ d ih =>
    intro i hd hi acc
    have hlt : i < l.length := by omega
    obtain ⟨r1, h1⟩ := h _ (rd33_mem hlt)
    obtain ⟨r, hr⟩ := ih (i + 1) (by omega) (by omega) (wrap64 (acc + r1))
    refine ⟨r, Ev.step (f := fun k => (pyxref08_Count.f k ((rd_T33 l (i : Int)).f0) ((rd_T33 l (i : Int)).f1) ((rd_T33 l (i : Int)).f2)).bind fun t193 => (pyxref08_Count.l0 k (wrap64 (acc + t193)) ((i + 1 : Nat) : Int) t b l)) (fun k => ?_) (Ev.bind h1 hr)⟩
    rw [pyxref08_Count.l0, if_pos (by omega), if_pos (by omega), wsucc (by omega)]
theorem weight_l {l : List S33} (t : Int) (b : List Int) (hl : l.length < 4611686018427387904) (h : ∀ y ∈ l, ∃ r, Ev (fun k => pyxref08_Weight.f k y.f0 y.f1 y.f2) r) : ∀ d i : Nat, l.length - i = d → i ≤ l.length → ∀ acc : Int, ∃ r, Ev (fun k => pyxref08_Weight.l0 k acc (i : Int) t b l) r := by
  intro d
  induction d with
  | zero => intro i hd hi acc; exact ⟨acc, Ev.last fun k => by rw [pyxref08_Weight.l0, if_neg (by omega)]⟩
  | succ d ih =>
    intro i hd hi acc
    have hlt : i < l.length := by omega
    obtain ⟨r1, h1⟩ := h _ (rd33_mem hlt)
    obtain ⟨r, hr⟩ := ih (i + 1) (by omega) (by omega) (wrap64 (acc + r1))
    refine ⟨r, Ev.step (f := fun k => (pyxref08_Weight.f k ((rd_T33 l (i : Int)).f0) ((rd_T33 l (i : Int)).f1) ((rd_T33 l (i : Int)).f2)).bind fun t193 => (pyxref08_Weight.l0 k (wrap64 (acc + t193)) ((i + 1 : Nat) : Int) t b l)) (fun k => ?_) (Ev.bind h1 hr)⟩
    rw [pyxref08_Weight.l0, if_pos (by omega), if_pos (by omega), wsucc (by omega)]
theorem dep_ev {x : S33} (h : Fit x) : ∃ r, Ev (fun k => pyxref08_Depth.f k x.f0 x.f1 x.f2) r := by
  induction h with
  | mk x h1 hb h2 h3 ih =>
    obtain ⟨r, hr⟩ := depth_l x.f0 x.f1 (by omega) ih x.f2.length 0 (by omega) (by omega) 1
    exact ⟨r, Ev.step' hr fun k => by rw [pyxref08_Depth.f]; rfl⟩
theorem cnt_ev {x : S33} (h : Fit x) : ∃ r, Ev (fun k => pyxref08_Count.f k x.f0 x.f1 x.f2) r := by
  induction h with
  | mk x h1 hb h2 h3 ih =>
    obtain ⟨r, hr⟩ := count_l x.f0 x.f1 (by omega) ih x.f2.length 0 (by omega) (by omega) 1
    exact ⟨r, Ev.step' hr fun k => by rw [pyxref08_Count.f]; rfl⟩
theorem wgt_ev {x : S33} (h : Fit x) : ∃ r, Ev (fun k => pyxref08_Weight.f k x.f0 x.f1 x.f2) r := by
  induction h with
  | mk x h1 hb h2 h3 ih =>
    obtain ⟨r, hr⟩ := weight_l x.f0 x.f1 (by omega) ih x.f2.length 0 (by omega) (by omega) (x.f1.length : Int)
    exact ⟨r, Ev.step' hr fun k => by rw [pyxref08_Weight.f]; rfl⟩
theorem few_ev {x : S33} (h : Fit x) : ∃ r, Ev (fun k => pyxref08_Few.f k x.f0 x.f1 x.f2) r := by
  obtain ⟨r1, h1⟩ := dep_ev h
  obtain ⟨r2, h2⟩ := cnt_ev h
  obtain ⟨r3, h3⟩ := wgt_ev h
  by_cases c1 : r1 ≤ 20
  · by_cases c2 : r2 ≤ 200
    · exact ⟨decide (r3 ≤ 5000), Ev.bind h1 (Ev.congr (fun k => by rw [if_pos c1]) (Ev.bind h2 (Ev.congr (fun k => by rw [if_pos c2]) (Ev.bind h3 (Ev.const' fun k => rfl)))))⟩
    · exact ⟨false, Ev.bind h1 (Ev.congr (fun k => by rw [if_pos c1]) (Ev.bind h2 (Ev.const' fun k => by rw [if_neg c2])))⟩
  · exact ⟨false, Ev.bind h1 (Ev.const' fun k => by rw [if_neg c1])⟩
open Classical in
theorem kids_l {l m : List S33} (t t' : Int) (b b' : List Int) (hlm : l.length = m.length) (hl : l.length < 4611686018427387904) (h : ∀ y ∈ l, ∀ z, Ev (fun k => pyxref08_Same.f k y.f0 y.f1 y.f2 z.f0 z.f1 z.f2) (decide (y = z))) :
    ∀ d i : Nat, l.length - i = d → i ≤ l.length → Ev (fun k => pyxref08_Same.l1 k (i : Int) t b l t' b' m) (decide (l.drop i = m.drop i)) := by
  intro d
  induction d with
  | zero =>
    intro i hd hi
    rw [List.drop_eq_nil_of_le (by omega), List.drop_eq_nil_of_le (by omega)]
    exact Ev.last fun k => by rw [pyxref08_Same.l1, if_neg (by omega)]; simp
  | succ d ih =>
    intro i hd hi
    have hlt : i < l.length := by omega
    have hlt' : i < m.length := by omega
    rw [rd33_drop hlt, rd33_drop hlt']
    refine Ev.step (f := fun k => (pyxref08_Same.f k ((rd_T33 l (i : Int)).f0) ((rd_T33 l (i : Int)).f1) ((rd_T33 l (i : Int)).f2) ((rd_T33 m (i : Int)).f0) ((rd_T33 m (i : Int)).f1) ((rd_T33 m (i : Int)).f2)).bind fun t214 => (if t214 = true then (pyxref08_Same.l1 k ((i + 1 : Nat) : Int) t b l t' b' m) else (some false))) (fun k => ?_) (Ev.bind (h _ (rd33_mem hlt) (rd_T33 m (i : Int))) ?_)
    · rw [pyxref08_Same.l1, if_pos (by omega), if_pos (by omega), if_pos (by omega), wsucc (by omega)]
    · by_cases c : rd_T33 l (i : Int) = rd_T33 m (i : Int)
      · have e : decide (rd_T33 l (i : Int) :: l.drop (i + 1) = rd_T33 m (i : Int) :: m.drop (i + 1)) = decide (l.drop (i + 1) = m.drop (i + 1)) := by rw [c]; simp
        rw [e]
        exact Ev.congr (fun k => by rw [if_pos (by simp [c])]) (ih (i + 1) (by omega) (by omega))
      · have e : decide (rd_T33 l (i : Int) :: l.drop (i + 1) = rd_T33 m (i : Int) :: m.drop (i + 1)) = false := by simp [c]
        rw [e]
        exact Ev.const' fun k => by rw [if_neg (by simp [c])]
theorem bytes_l {l m : List Int} (t t' : Int) (kl km : List S33) (hlm : l.length = m.length) (hl : l.length < 4611686018427387904) {r : Bool} (h : l = m → Ev (fun k => pyxref08_Same.l1 k 0 t l kl t' m km) r) (h' : l ≠ m → r = false) :
    ∀ d i : Nat, l.length - i = d → i ≤ l.length → l.take i = m.take i → Ev (fun k => pyxref08_Same.l0 k (i : Int) t l kl t' m km) r := by
  intro d
  induction d with
  | zero =>
    intro i hd hi ht
    rw [List.take_of_length_le (by omega), List.take_of_length_le (by omega)] at ht
    exact Ev.step' (h ht) fun k => by rw [pyxref08_Same.l0, if_neg (by omega)]
  | succ d ih =>
    intro i hd hi ht
    have hlt : i < l.length := by omega
    have hlt' : i < m.length := by omega
    by_cases c : rd l (i : Int) = rd m (i : Int)
    · refine Ev.step' (ih (i + 1) (by omega) (by omega) ?_) fun k => by rw [pyxref08_Same.l0, if_pos (by omega), if_pos (by omega), if_pos (by omega), if_pos c, wsucc (by omega)]
      rw [List.take_succ_eq_append_getElem hlt, List.take_succ_eq_append_getElem hlt', ht]
      rw [rd_get hlt, rd_get hlt'] at c
      rw [c]
    · rw [h' (fun e => c (by rw [e]))]
      exact Ev.last fun k => by rw [pyxref08_Same.l0, if_pos (by omega), if_pos (by omega), if_pos (by omega), if_neg c]
open Classical in
theorem same33_ev {x : S33} (h : Fit x) : ∀ y : S33, Ev (fun k => pyxref08_Same.f k x.f0 x.f1 x.f2 y.f0 y.f1 y.f2) (decide (x = y)) := by
  induction h with
  | mk x h1 hb h2 h3 ih =>
    intro y
    obtain ⟨a, b, l⟩ := x
    obtain ⟨a', b', l'⟩ := y
    dsimp only at *
    have no : (a = a' ∧ b = b' ∧ l = l') = ((⟨a, b, l⟩ : S33) = ⟨a', b', l'⟩) := by simp
    rw [← decide_eq_decide.mpr (Eq.to_iff no)]
    have jt : Ev (fun k => pyxref08_Same.j0 k true a b l a' b' l') false := Ev.last fun k => by rw [pyxref08_Same.j0, if_pos rfl]
    by_cases c0 : a = a'
    · by_cases c1 : b.length = b'.length
      · have ej : Ev (fun k => pyxref08_Same.j0 k ((l.length : Int) != (l'.length : Int)) a b l a' b' l') (decide (a = a' ∧ b = b' ∧ l = l')) := by
          by_cases c2 : l.length = l'.length
          · have e2 : ((l.length : Int) != (l'.length : Int)) = false := by simp [c2]
            rw [e2]
            refine Ev.step' (g := fun k => pyxref08_Same.j0 k false a b l a' b' l') (bytes_l (r := decide (a = a' ∧ b = b' ∧ l = l')) a a' l l' c1 (by omega) (fun e => ?_) (fun e => by simp [e]) b.length 0 (by omega) (by omega) rfl) fun k => by rw [pyxref08_Same.j0, if_neg (by simp)]; rfl
            have e3 : decide (a = a' ∧ b = b' ∧ l = l') = decide (l.drop 0 = l'.drop 0) := by simp [c0, e]
            rw [e3]
            exact kids_l a a' b b' c2 (by omega) ih l.length 0 (by omega) (by omega)
          · have e2 : ((l.length : Int) != (l'.length : Int)) = true := by simp; omega
            rw [e2, show decide (a = a' ∧ b = b' ∧ l = l') = false by simp; intro _ _ e; exact c2 (by rw [e])]
            exact jt
        exact Ev.step' ej fun k => by rw [pyxref08_Same.f, if_pos c0, if_pos (by omega)]
      · rw [show decide (a = a' ∧ b = b' ∧ l = l') = false by simp; intro _ e; exact absurd (by rw [e]) c1]
        exact Ev.step' jt fun k => by rw [pyxref08_Same.f, if_pos c0, if_neg (by omega)]
    · rw [show decide (a = a' ∧ b = b' ∧ l = l') = false by simp [c0]]
      exact Ev.step' jt fun k => by rw [pyxref08_Same.f, if_neg c0]
open Classical in
theorem eqO_ev : ∀ (l m : List S33), l.length = m.length → (∀ y ∈ l, ∀ z ∈ m, Ev (fun k => der_Node_same.f k (gT y).f0 (gT y).f1 (gT y).f2 (gT z).f0 (gT z).f1 (gT z).f2) (decide (y = z))) →
    Ev (fun k => eqO (fun x y => der_Node_same.f k x.f0 x.f1 x.f2 y.f0 y.f1 y.f2) (gTL l) (gTL m)) (decide (l = m))
  | [], [], _, _ => Ev.const' fun k => by simp [gTL, eqO]
  | [], _ :: _, h, _ => by simp at h
  | _ :: _, [], h, _ => by simp at h
  | x :: xs, y :: ys, h, hh => by
    refine Ev.congr (f := fun k => (der_Node_same.f k (gT x).f0 (gT x).f1 (gT x).f2 (gT y).f0 (gT y).f1 (gT y).f2).bind fun r => if r = true then eqO (fun x y => der_Node_same.f k x.f0 x.f1 x.f2 y.f0 y.f1 y.f2) (gTL xs) (gTL ys) else some false) (fun k => rfl) ?_
    refine Ev.bind (hh x (by simp) y (by simp)) ?_
    by_cases c : x = y
    · have e : decide (x :: xs = y :: ys) = decide (xs = ys) := by simp [c]
      rw [e]
      exact Ev.congr (fun k => by rw [if_pos (by simp [c])]) (eqO_ev xs ys (by simpa using h) (fun y hy z hz => hh y (by simp [hy]) z (by simp [hz])))
    · have e : decide (x :: xs = y :: ys) = false := by simp [c]
      rw [e]
      exact Ev.const' fun k => by rw [if_neg (by simp [c])]
open Classical in
theorem nodes_ev {x : S33} (h : Fit x) : ∀ y : S33, Fit y → Ev (fun k => der_Node_same.f k x.f0 x.f1 (gTL x.f2) y.f0 y.f1 (gTL y.f2)) (decide (x = y)) := by
  induction h with
  | mk x h1 hb h2 h3 ih =>
    intro y hy
    cases hy with
    | mk y k1 kb k2 k3 =>
    obtain ⟨a, b, l⟩ := x
    obtain ⟨a', b', l'⟩ := y
    dsimp only at *
    have no : (a = a' ∧ b = b' ∧ l = l') = ((⟨a, b, l⟩ : S33) = ⟨a', b', l'⟩) := by simp
    rw [← decide_eq_decide.mpr (Eq.to_iff no)]
    have hLn : (gTL l).length < 10000000000000 := by rw [gTL_len]; omega
    have hB : bytes_Equal.f b b' = some (decide (b = b')) := by
      unfold bytes_Equal.f
      congr 1
      have := str_inj (a := b) (b := b') hb kb
      by_cases c : b = b'
      · simp [c]
      · have c' : ¬ (strOfNums b).toList = (strOfNums b').toList := fun e => c (this.mp e)
        rw [beq_eq_false_iff_ne.mpr c']
        simp [c]
    by_cases c0 : a = a'
    · by_cases c1 : b = b'
      · by_cases c2 : l.length = l'.length
        · have e : decide (a = a' ∧ b = b' ∧ l = l') = decide (l = l') := by simp [c0, c1]
          rw [e]
          refine Ev.step' (eqO_ev l l' c2 (fun y hy z hz => ?_)) fun k => by rw [der_Node_same.f, if_pos hLn, if_pos c0, hB, Option.bind_some, if_pos (by simp [c1]), if_pos (by rw [gTL_len, gTL_len, c2])]
          obtain ⟨y0, y1, y2⟩ := y
          obtain ⟨z0, z1, z2⟩ := z
          exact ih _ hy _ (k3 _ hz)
        · rw [show decide (a = a' ∧ b = b' ∧ l = l') = false by simp; intro _ _ e; exact c2 (by rw [e])]
          exact Ev.last fun k => by rw [der_Node_same.f, if_pos hLn, if_pos c0, hB, Option.bind_some, if_pos (by simp [c1]), if_neg (by rw [gTL_len, gTL_len]; exact c2)]
      · rw [show decide (a = a' ∧ b = b' ∧ l = l') = false by simp [c1]]
        exact Ev.last fun k => by rw [der_Node_same.f, if_pos hLn, if_pos c0, hB, Option.bind_some, if_neg (by simp [c1])]
    · rw [show decide (a = a' ∧ b = b' ∧ l = l') = false by simp [c0]]
      exact Ev.last fun k => by rw [der_Node_same.f, if_pos hLn, if_neg c0]
theorem der_same_ev {x y : S33} (h : Fit x) (h' : Fit y) {r : Bool} (hr : Ev (fun k => der_Node_same.f k x.f0 x.f1 (gTL x.f2) y.f0 y.f1 (gTL y.f2)) r) : Ev (fun k => der_Same.f k x.f0 x.f1 (gTL x.f2) y.f0 y.f1 (gTL y.f2)) r := Ev.bind hr (Ev.const' fun k => rfl)
end Go.Proofs.YtijmigapdcikpaaDoor.PDsm
