/- cbor: items as the reference has them, their copies, and their comparison: plain lemmas, no condition. -/
import Derived.Test.YthdjmojpnimhjaaDoorZXPure
import Derived.Test.YthdjmojpnimhjaaDoorZCbgSame
import Derived.Test.YthdjmojpnimhjaaDoorZPCbgx16
import Derived.Test.YthdjmojpnimhjaaDoorZPCbgx15
import Derived.Test.YthdjmojpnimhjaaDoorZPCbgx14
import Derived.Test.YthdjmojpnimhjaaDoorZPCbgx12
import Derived.Test.YthdjmojpnimhjaaDoorZXCbg1
namespace Go.Proofs.YthdjmojpnimhjaaDoor.PCbg
open Go.RowKit Go.Proofs.YthdjmojpnimhjaaDoorW.PrintWords Go.Proofs.YthdjmojpnimhjaaDoorW.PrintLast Go.Proofs.YthdjmojpnimhjaaDoorW.PrintMore Go.Proofs.YthdjmojpnimhjaaDoorW.Pu
set_option linter.unusedVariables false
set_option linter.unusedSimpArgs false
inductive Fit : S34 → Prop
 | mk (x : S34) (h0 : -9223372036854775808 ≤ x.f0 ∧ x.f0 ≤ 9223372036854775807) (hn : 0 ≤ x.f1 ∧ x.f1 < 18446744073709551616) (h1 : x.f2.length < 1000000000000000) (hb : ∀ y ∈ x.f2, 0 ≤ y ∧ y < 256) (h2 : x.f3.length * 64 ≤ 140737488351232) (h3 : ∀ y ∈ x.f3, Fit y) : Fit x
mutual
def gT : S34 → S27
 | ⟨a, n, b, l⟩ => ⟨a, n, b, gTL l⟩
def gTL : List S34 → List S27
 | [] => []
 | x :: xs => gT x :: gTL xs
end
theorem gTL_len : ∀ l, (gTL l).length = l.length
 | [] => rfl
 | x :: xs => by rw [gTL, List.length_cons, List.length_cons, gTL_len xs]
theorem gT_f (x : S34) : (gT x).f0 = x.f0 ∧ (gT x).f1 = x.f1 ∧ (gT x).f2 = x.f2 ∧ (gT x).f3 = gTL x.f3 := by
 obtain ⟨a, n, b, l⟩ := x
 exact ⟨rfl, rfl, rfl, rfl⟩
theorem gTL_get : ∀ (l : List S34) (i : Nat) (h : i < l.length) (h' : i < (gTL l).length), (gTL l)[i] = gT l[i]
 | x :: xs, 0, _, _ => rfl
 | x :: xs, i + 1, h, h' => gTL_get xs i (by simpa using h) (by rw [gTL] at h'; simpa using h')
theorem rd34_get {l : List S34} {i : Nat} (h : i < l.length) : rd_T34 l (i : Int) = l[i] := rd_T34_cons l i h
theorem rd27_gTL (l : List S34) (i : Nat) (h : i < l.length) : rd_T27 (gTL l) (i : Int) = gT (rd_T34 l (i : Int)) := by
 rw [rd_T27_cons _ i (by rw [gTL_len]; exact h), rd34_get h, gTL_get l i h]
theorem rd34_drop {l : List S34} {i : Nat} (h : i < l.length) : l.drop i = rd_T34 l (i : Int) :: l.drop (i + 1) := by rw [List.drop_eq_getElem_cons h, rd34_get h]
theorem rd34_mem {l : List S34} {i : Nat} (h : i < l.length) : rd_T34 l (i : Int) ∈ l := by rw [rd34_get h]; exact List.getElem_mem h
theorem g_list : ∀ l : List S34, (∀ y ∈ l, y.f3.length * 64 ≤ 140737488351232 ∧ Ev (fun k => pyxlaw10_given.g k y.f3) (gTL y.f3)) → Ev (fun k => pyxlaw10_given.g k l) (gTL l)
 | [], _ => Ev.last fun k => rfl
 | x :: xs, h => by
  obtain ⟨h1, h2⟩ := h x (by simp)
  refine Ev.step (f := fun k => (pyxlaw10_given.g k x.f3).bind fun a => (pyxlaw10_given.g k xs).bind fun b => some ((⟨x.f0, x.f1, x.f2, a⟩ : S27) :: b)) (fun k => ?_) (Ev.bind h2 (Ev.bind (g_list xs (fun y hy => h y (by simp [hy]))) (Ev.const' fun k => ?_)))
  ·rw [pyxlaw10_given.g, if_pos (by omega)]
  ·obtain ⟨a, n, b, c⟩ := x
   rfl
theorem Fit.lim {x : S34} (h : Fit x) : x.f3.length * 64 ≤ 140737488351232 := by cases h; assumption
theorem given_g {x : S34} (h : Fit x) : Ev (fun k => pyxlaw10_given.g k x.f3) (gTL x.f3) := by
 induction h with
 | mk x h0 hn h1 hb h2 h3 ih => exact g_list _ (fun y hy => ⟨(h3 y hy).lim, ih y hy⟩)
theorem given_ev {x : S34} (h : Fit x) : Ev (fun k => pyxlaw10_given.f k x.f0 x.f1 x.f2 x.f3) (x.f0, x.f1, x.f2, gTL x.f3) := by
 have hl := h.lim
 exact Ev.congr (fun k => by rw [pyxlaw10_given.f, if_pos (by omega)]) (Ev.bind (given_g h) (Ev.now _))
theorem b_list : ∀ l : List S34, (∀ y ∈ l, y.f3.length * 64 ≤ 140737488351232 ∧ Ev (fun k => pyxlaw10_back.g k (gTL y.f3)) y.f3) → Ev (fun k => pyxlaw10_back.g k (gTL l)) l
 | [], _ => Ev.last fun k => rfl
 | x :: xs, h => by
  obtain ⟨h1, h2⟩ := h x (by simp)
  have e := gT_f x
  refine Ev.step (f := fun k => (pyxlaw10_back.g k (gTL x.f3)).bind fun a => (pyxlaw10_back.g k (gTL xs)).bind fun b => some ((⟨x.f0, x.f1, x.f2, a⟩ : S34) :: b)) (fun k => ?_) (Ev.bind h2 (Ev.bind (b_list xs (fun y hy => h y (by simp [hy]))) (Ev.const' fun k => ?_)))
  ·rw [gTL, pyxlaw10_back.g, e.1, e.2.1, e.2.2.1, e.2.2.2, gTL_len, if_pos (by omega)]
  ·obtain ⟨a, n, b, c⟩ := x
   rfl
theorem back_g {x : S34} (h : Fit x) : Ev (fun k => pyxlaw10_back.g k (gTL x.f3)) x.f3 := by
 induction h with
 | mk x h0 hn h1 hb h2 h3 ih => exact b_list _ (fun y hy => ⟨(h3 y hy).lim, ih y hy⟩)
theorem back_ev {x : S34} (h : Fit x) : Ev (fun k => pyxlaw10_back.f k x.f0 x.f1 x.f2 (gTL x.f3)) (x.f0, x.f1, x.f2, x.f3) := by
 have hl := h.lim
 exact Ev.congr (fun k => by rw [pyxlaw10_back.f, if_pos (by rw [gTL_len]; omega)]) (Ev.bind (back_g h) (Ev.now _))
theorem depth_l {l : List S34} (t n : Int) (b : List Int) (hl : l.length < 4611686018427387904) (h : ∀ y ∈ l, ∃ r, Ev (fun k => pyxref10_Depth.f k y.f0 y.f1 y.f2 y.f3) r) : ∀ d i : Nat, l.length - i = d → i ≤ l.length → ∀ acc : Int, ∃ r, Ev (fun k => pyxref10_Depth.l0 k acc (i : Int) t n b l) r := by
 intro d
 induction d with
 | zero => intro i hd hi acc; exact ⟨acc, Ev.last fun k => by rw [pyxref10_Depth.l0, if_neg (by omega)]⟩
 | succ d ih =>
  intro i hd hi acc
  have hlt : i < l.length := by omega
  obtain ⟨r1, h1⟩ := h _ (rd34_mem hlt)
  have st : ∀ k, pyxref10_Depth.l0 (k + 1) acc (i : Int) t n b l = (pyxref10_Depth.f k ((rd_T34 l (i : Int)).f0) ((rd_T34 l (i : Int)).f1) ((rd_T34 l (i : Int)).f2) ((rd_T34 l (i : Int)).f3)).bind fun t193 => (if (wrap64 (1 + t193)) > acc then (pyxref10_Depth.l0 k (wrap64 (1 + t193)) ((i + 1 : Nat) : Int) t n b l) else (pyxref10_Depth.l0 k acc ((i + 1 : Nat) : Int) t n b l)) := fun k => by
   rw [pyxref10_Depth.l0, if_pos (by omega), if_pos (by omega), wsucc (by omega)]
  by_cases c : wrap64 (1 + r1) > acc
  ·obtain ⟨r, hr⟩ := ih (i + 1) (by omega) (by omega) (wrap64 (1 + r1))
   exact ⟨r, Ev.step st (Ev.bind h1 (Ev.congr (fun k => by rw [if_pos c]) hr))⟩
  ·obtain ⟨r, hr⟩ := ih (i + 1) (by omega) (by omega) acc
   exact ⟨r, Ev.step st (Ev.bind h1 (Ev.congr (fun k => by rw [if_neg c]) hr))⟩
theorem count_l {l : List S34} (t n : Int) (b : List Int) (hl : l.length < 4611686018427387904) (h : ∀ y ∈ l, ∃ r, Ev (fun k => pyxref10_Count.f k y.f0 y.f1 y.f2 y.f3) r) : ∀ d i : Nat, l.length - i = d → i ≤ l.length → ∀ acc : Int, ∃ r, Ev (fun k => pyxref10_Count.l0 k acc (i : Int) t n b l) r := by
 intro d
 induction d with
 | zero => intro i hd hi acc; exact ⟨acc, Ev.last fun k => by rw [pyxref10_Count.l0, if_neg (by omega)]⟩
 | succ d ih =>
  intro i hd hi acc
  have hlt : i < l.length := by omega
  obtain ⟨r1, h1⟩ := h _ (rd34_mem hlt)
  obtain ⟨r, hr⟩ := ih (i + 1) (by omega) (by omega) (wrap64 (acc + r1))
  refine ⟨r, Ev.step (f := fun k => (pyxref10_Count.f k ((rd_T34 l (i : Int)).f0) ((rd_T34 l (i : Int)).f1) ((rd_T34 l (i : Int)).f2) ((rd_T34 l (i : Int)).f3)).bind fun t193 => (pyxref10_Count.l0 k (wrap64 (acc + t193)) ((i + 1 : Nat) : Int) t n b l)) (fun k => ?_) (Ev.bind h1 hr)⟩
  rw [pyxref10_Count.l0, if_pos (by omega), if_pos (by omega), wsucc (by omega)]
theorem dep_ev {x : S34} (h : Fit x) : ∃ r, Ev (fun k => pyxref10_Depth.f k x.f0 x.f1 x.f2 x.f3) r := by
 induction h with
 | mk x h0 hn h1 hb h2 h3 ih =>
  obtain ⟨r, hr⟩ := depth_l x.f0 x.f1 x.f2 (by omega) ih x.f3.length 0 (by omega) (by omega) 1
  exact ⟨r, Ev.step' hr fun k => by rw [pyxref10_Depth.f]; rfl⟩
theorem cnt_ev {x : S34} (h : Fit x) : ∃ r, Ev (fun k => pyxref10_Count.f k x.f0 x.f1 x.f2 x.f3) r := by
 induction h with
 | mk x h0 hn h1 hb h2 h3 ih =>
  obtain ⟨r, hr⟩ := count_l x.f0 x.f1 x.f2 (by omega) ih x.f3.length 0 (by omega) (by omega) (wrap64 (1 + (x.f2.length : Int)))
  exact ⟨r, Ev.step' hr fun k => by rw [pyxref10_Count.f]; rfl⟩
theorem few_ev {x : S34} (h : Fit x) : ∃ r, Ev (fun k => pyxref10_Few.f k x.f0 x.f1 x.f2 x.f3) r := by
 obtain ⟨r1, h1⟩ := dep_ev h
 obtain ⟨r2, h2⟩ := cnt_ev h
 by_cases c1 : r1 ≤ 20
 ·exact ⟨decide (r2 ≤ 3000), Ev.bind h1 (Ev.congr (fun k => by rw [if_pos c1]) (Ev.bind h2 (Ev.now _)))⟩
 ·exact ⟨false, Ev.bind h1 (Ev.const' fun k => by rw [if_neg c1])⟩
open Classical in
theorem kids_l {l m : List S34} (t t' n n' : Int) (b b' : List Int) (hlm : l.length = m.length) (hl : l.length < 4611686018427387904) (h : ∀ y ∈ l, ∀ z, Ev (fun k => pyxref10_Same.f k y.f0 y.f1 y.f2 y.f3 z.f0 z.f1 z.f2 z.f3) (decide (y = z))) :
  ∀ d i : Nat, l.length - i = d → i ≤ l.length → Ev (fun k => pyxref10_Same.l1 k (i : Int) t n b l t' n' b' m) (decide (l.drop i = m.drop i)) := by
 intro d
 induction d with
 | zero =>
  intro i hd hi
  rw [List.drop_eq_nil_of_le (by omega), List.drop_eq_nil_of_le (by omega)]
  exact Ev.last fun k => by rw [pyxref10_Same.l1, if_neg (by omega)]; simp
 | succ d ih =>
  intro i hd hi
  have hlt : i < l.length := by omega
  have hlt' : i < m.length := by omega
  rw [rd34_drop hlt, rd34_drop hlt']
  refine Ev.step (f := fun k => (pyxref10_Same.f k ((rd_T34 l (i : Int)).f0) ((rd_T34 l (i : Int)).f1) ((rd_T34 l (i : Int)).f2) ((rd_T34 l (i : Int)).f3) ((rd_T34 m (i : Int)).f0) ((rd_T34 m (i : Int)).f1) ((rd_T34 m (i : Int)).f2) ((rd_T34 m (i : Int)).f3)).bind fun t214 => (if t214 = true then (pyxref10_Same.l1 k ((i + 1 : Nat) : Int) t n b l t' n' b' m) else (some false))) (fun k => ?_) (Ev.bind (h _ (rd34_mem hlt) (rd_T34 m (i : Int))) ?_)
  ·rw [pyxref10_Same.l1, if_pos (by omega), if_pos (by omega), if_pos (by omega), wsucc (by omega)]
  ·by_cases c : rd_T34 l (i : Int) = rd_T34 m (i : Int)
   ·have e : decide (rd_T34 l (i : Int) :: l.drop (i + 1) = rd_T34 m (i : Int) :: m.drop (i + 1)) = decide (l.drop (i + 1) = m.drop (i + 1)) := by rw [c]; simp
    rw [e]
    exact Ev.congr (fun k => by rw [if_pos (by simp [c])]) (ih (i + 1) (by omega) (by omega))
   ·have e : decide (rd_T34 l (i : Int) :: l.drop (i + 1) = rd_T34 m (i : Int) :: m.drop (i + 1)) = false := by simp [c]
    rw [e]
    exact Ev.const' fun k => by rw [if_neg (by simp [c])]
theorem bytes_l {l m : List Int} (t t' n n' : Int) (kl km : List S34) (hlm : l.length = m.length) (hl : l.length < 4611686018427387904) {r : Bool} (h : l = m → Ev (fun k => pyxref10_Same.l1 k 0 t n l kl t' n' m km) r) (h' : l ≠ m → r = false) :
  ∀ d i : Nat, l.length - i = d → i ≤ l.length → l.take i = m.take i → Ev (fun k => pyxref10_Same.l0 k (i : Int) t n l kl t' n' m km) r := by
 intro d
 induction d with
 | zero =>
  intro i hd hi ht
  rw [List.take_of_length_le (by omega), List.take_of_length_le (by omega)] at ht
  exact Ev.step' (h ht) fun k => by rw [pyxref10_Same.l0, if_neg (by omega)]
 | succ d ih =>
  intro i hd hi ht
  have hlt : i < l.length := by omega
  have hlt' : i < m.length := by omega
  by_cases c : rd l (i : Int) = rd m (i : Int)
  ·refine Ev.step' (ih (i + 1) (by omega) (by omega) ?_) fun k => by rw [pyxref10_Same.l0, if_pos (by omega), if_pos (by omega), if_pos (by omega), if_pos c, wsucc (by omega)]
   rw [List.take_succ_eq_append_getElem hlt, List.take_succ_eq_append_getElem hlt', ht]
   rw [rd_get hlt, rd_get hlt'] at c
   rw [c]
  ·rw [h' (fun e => c (by rw [e]))]
   exact Ev.last fun k => by rw [pyxref10_Same.l0, if_pos (by omega), if_pos (by omega), if_pos (by omega), if_neg c]
open Classical in
theorem same34_ev {x : S34} (h : Fit x) : ∀ y : S34, Ev (fun k => pyxref10_Same.f k x.f0 x.f1 x.f2 x.f3 y.f0 y.f1 y.f2 y.f3) (decide (x = y)) := by
 induction h with
 | mk x h0 hn h1 hb h2 h3 ih =>
  intro y
  obtain ⟨a, n, b, l⟩ := x
  obtain ⟨a', n', b', l'⟩ := y
  dsimp only at *
  have no : (a = a' ∧ n = n' ∧ b = b' ∧ l = l') = ((⟨a, n, b, l⟩ : S34) = ⟨a', n', b', l'⟩) := by simp
  rw [← decide_eq_decide.mpr (Eq.to_iff no)]
  have jt : Ev (fun k => pyxref10_Same.j0 k true a n b l a' n' b' l') false := Ev.last fun k => by rw [pyxref10_Same.j0, if_pos rfl]
  by_cases c0 : a = a'
  ·by_cases cn : n = n'
   ·by_cases c1 : b.length = b'.length
    ·have ej : Ev (fun k => pyxref10_Same.j0 k ((l.length : Int) != (l'.length : Int)) a n b l a' n' b' l') (decide (a = a' ∧ n = n' ∧ b = b' ∧ l = l')) := by
      by_cases c2 : l.length = l'.length
      ·have e2 : ((l.length : Int) != (l'.length : Int)) = false := by simp [c2]
       rw [e2]
       refine Ev.step' (g := fun k => pyxref10_Same.j0 k false a n b l a' n' b' l') (bytes_l (r := decide (a = a' ∧ n = n' ∧ b = b' ∧ l = l')) a a' n n' l l' c1 (by omega) (fun e => ?_) (fun e => by simp [e]) b.length 0 (by omega) (by omega) rfl) fun k => by rw [pyxref10_Same.j0, if_neg (by simp)]; rfl
       have e3 : decide (a = a' ∧ n = n' ∧ b = b' ∧ l = l') = decide (l.drop 0 = l'.drop 0) := by simp [c0, cn, e]
       rw [e3]
       exact kids_l a a' n n' b b' c2 (by omega) ih l.length 0 (by omega) (by omega)
      ·have e2 : ((l.length : Int) != (l'.length : Int)) = true := by simp; omega
       rw [e2, show decide (a = a' ∧ n = n' ∧ b = b' ∧ l = l') = false by simp; intro _ _ _ e; exact c2 (by rw [e])]
       exact jt
     exact Ev.step' ej fun k => by rw [pyxref10_Same.f, if_pos c0, if_pos cn, if_pos (by omega)]
    ·rw [show decide (a = a' ∧ n = n' ∧ b = b' ∧ l = l') = false by simp; intro _ _ e; exact absurd (by rw [e]) c1]
     exact Ev.step' jt fun k => by rw [pyxref10_Same.f, if_pos c0, if_pos cn, if_neg (by omega)]
   ·rw [show decide (a = a' ∧ n = n' ∧ b = b' ∧ l = l') = false by simp [cn]]
    exact Ev.step' jt fun k => by rw [pyxref10_Same.f, if_pos c0, if_neg cn]
  ·rw [show decide (a = a' ∧ n = n' ∧ b = b' ∧ l = l') = false by simp [c0]]
   exact Ev.step' jt fun k => by rw [pyxref10_Same.f, if_neg c0]
theorem item_leaf (y : S34) (hy : y.f3.length * 64 ≤ 140737488351232) (t n : Int) (k : Nat) : cbor_Same.f (k + 1) (gT y).f0 (gT y).f1 (gT y).f2 (gT y).f3 t n [] [] = some (decide (y.f0 = t ∧ y.f1 = n ∧ y.f2 = [] ∧ y.f3 = [])) := by
 have e := gT_f y
 unfold cbor_Same.f
 rw [e.1, e.2.1, e.2.2.1, e.2.2.2, cbor_Item_same.f, gTL_len, if_pos (by omega)]
 by_cases c0 : y.f0 = t
 ·by_cases cn : y.f1 = n
  ·rw [if_pos c0, if_pos cn]
   have hbe : bytes_Equal.f y.f2 [] = some (decide (y.f2 = [])) := by
    unfold bytes_Equal.f strOfNums
    cases y.f2 with
    | nil => rw [beq_self_eq_true]; rfl
    | cons c cs => simp
   rw [hbe, Option.bind_some]
   by_cases cb : y.f2 = []
   ·rw [if_pos (decide_eq_true cb)]
    by_cases cl : y.f3 = []
    ·rw [if_pos (by rw [cl]; rfl), cl]
     simp [gTL, eqO, c0, cn, cb]
    ·have : y.f3.length ≠ ([] : List S27).length := fun h => cl (List.length_eq_zero_iff.1 h)
     rw [if_neg this]
     simp [cl]
   ·rw [if_neg (by simp [cb])]
    simp [cb]
  ·rw [if_pos c0, if_neg cn]
   simp [cn]
 ·rw [if_neg c0]
  simp [c0]
end Go.Proofs.YthdjmojpnimhjaaDoor.PCbg
