/- cbor: the value of a key, and the law's loop: plain lemmas, no condition. -/
import Derived.Test.YthdjmojpnimhjaaDoorZXCg1
import Derived.Test.YthdjmojpnimhjaaDoorZXCbg2
import Derived.Test.YthdjmojpnimhjaaDoorZPCbgx12
import Derived.Test.YthdjmojpnimhjaaDoorZPCbgx17
namespace Go.Proofs.YthdjmojpnimhjaaDoor.PCbg
open Go.RowKit Go.Proofs.YthdjmojpnimhjaaDoorW.PrintWords Go.Proofs.YthdjmojpnimhjaaDoorW.PrintLast Go.Proofs.YthdjmojpnimhjaaDoorW.PrintMore Go.Proofs.YthdjmojpnimhjaaDoorW.Pu
set_option linter.unusedVariables false
set_option linter.unusedSimpArgs false
def zI : S34 := ⟨0, 0, [], []⟩
def fnd (t n : Int) : List S34 → Option S34
 | a :: b :: r => if a.f0 = t ∧ a.f1 = n ∧ a.f2 = [] ∧ a.f3 = [] then some b else fnd t n r
 | _ => none
theorem fnd_mem (t n : Int) : ∀ (m : Nat) (l : List S34) (w : S34), l.length ≤ m → fnd t n l = some w → w ∈ l
 | 0, l, w, hl, h => by
  obtain rfl := List.length_eq_zero_iff.1 (Nat.le_zero.1 hl)
  simp [fnd] at h
 | m + 1, [], w, _, h => by simp [fnd] at h
 | m + 1, [_], w, _, h => by simp [fnd] at h
 | m + 1, a :: b :: r, w, hl, h => by
  rw [fnd] at h
  split at h
  ·rw [← Option.some.inj h]; simp
  ·have := fnd_mem t n m r w (by simp at hl; omega) h
   simp [this]
theorem zI_fit : Fit zI := Fit.mk _ (by decide) (by decide) (by decide) (by simp [zI]) (by decide) (by simp [zI])
def getR (o : Option S34) : Int × Int × List Int × List S27 × Bool := ((o.getD zI).f0, (o.getD zI).f1, (o.getD zI).f2, gTL (o.getD zI).f3, o.isSome)
theorem drop2 (l : List S34) (i : Nat) (h : i + 1 < l.length) : l.drop i = rd_T34 l (i : Int) :: rd_T34 l ((i + 1 : Nat) : Int) :: l.drop (i + 2) := by
 rw [rd34_drop (show i < l.length by omega), rd34_drop h]
theorem fnd_short (t n : Int) (l : List S34) (i : Nat) (h : ¬ i + 1 < l.length) : fnd t n (l.drop i) = none := by
 have hl : (l.drop i).length ≤ 1 := by rw [List.length_drop]; omega
 match l.drop i, hl with
 | [], _ => rfl
 | [_], _ => rfl
theorem get_l (n0 : Int) (b0 : List Int) (l : List S34) (t n : Int) (hl : l.length < 4611686018427387904) (hf : ∀ y ∈ l, Fit y) : ∀ d i : Nat, l.length - i ≤ d → i ≤ l.length + 1 → Ev (fun k => cbor_Get.l0 k (i : Int) 5 n0 b0 (gTL l) t n [] []) (getR (fnd t n (l.drop i))) := by
 intro d
 induction d using Nat.strongRecOn with
 | _ d ih =>
  intro i hd hi
  have w1 : wrap64 ((i : Int) + 1) = ((i + 1 : Nat) : Int) := by rw [w64 (by omega) (by omega)]; omega
  have w2 : wrap64 ((i : Int) + 2) = ((i + 2 : Nat) : Int) := by rw [w64 (by omega) (by omega)]; omega
  by_cases c : i + 1 < l.length
  ·refine Ev.step' (f := fun k => cbor_Get.j1 k (i : Int) true 5 n0 b0 (gTL l) t n [] []) ?_ (fun k => by rw [cbor_Get.l0, if_pos rfl, w1, gTL_len, decide_eq_true (by omega)])
   rw [drop2 l i c, fnd]
   have hleaf := fun k => item_leaf (rd_T34 l (i : Int)) (hf _ (rd34_mem (show i < l.length by omega))).lim t n k
   refine Ev.step' (f := fun k => (cbor_Same.f k (gT (rd_T34 l (i : Int))).f0 (gT (rd_T34 l (i : Int))).f1 (gT (rd_T34 l (i : Int))).f2 (gT (rd_T34 l (i : Int))).f3 t n [] []).bind fun t136 => (if t136 = true then some ((gT (rd_T34 l ((i + 1 : Nat) : Int))).f0, (gT (rd_T34 l ((i + 1 : Nat) : Int))).f1, (gT (rd_T34 l ((i + 1 : Nat) : Int))).f2, (gT (rd_T34 l ((i + 1 : Nat) : Int))).f3, true) else cbor_Get.l0 k ((i + 2 : Nat) : Int) 5 n0 b0 (gTL l) t n [] [])) ?_ (fun k => by
    rw [cbor_Get.j1, if_pos rfl, if_pos (by omega), gTL_len, if_pos (by omega), w1, w2, if_pos (by omega), if_pos (by omega), rd27_gTL l i (by omega), rd27_gTL l (i + 1) c])
   refine Ev.bind (Ev.last hleaf) ?_
   by_cases p : (rd_T34 l (i : Int)).f0 = t ∧ (rd_T34 l (i : Int)).f1 = n ∧ (rd_T34 l (i : Int)).f2 = [] ∧ (rd_T34 l (i : Int)).f3 = []
   ·rw [decide_eq_true p, if_pos p]
    have e := gT_f (rd_T34 l ((i + 1 : Nat) : Int))
    exact Ev.const' fun k => by rw [if_pos rfl, e.1, e.2.1, e.2.2.1, e.2.2.2]; rfl
   ·rw [decide_eq_false p, if_neg p]
    exact Ev.congr (fun k => by rw [if_neg (by decide)]) (ih (d - 1) (by omega) (i + 2) (by omega) (by omega))
  ·rw [fnd_short t n l i c]
   refine Ev.step' (f := fun k => cbor_Get.j1 k (i : Int) false 5 n0 b0 (gTL l) t n [] []) ?_ (fun k => by rw [cbor_Get.l0, if_pos rfl, w1, gTL_len, decide_eq_false (by omega)])
   exact Ev.last fun k => by rw [cbor_Get.j1, if_neg (by decide)]; rfl
theorem get_no (t0 n0 : Int) (b0 : List Int) (l : List S34) (t n : Int) (h : t0 ≠ 5) : Ev (fun k => cbor_Get.l0 k 0 t0 n0 b0 (gTL l) t n [] []) (getR none) := by
 refine Ev.step' (f := fun k => cbor_Get.j1 k 0 false t0 n0 b0 (gTL l) t n [] []) ?_ (fun k => by rw [cbor_Get.l0, if_neg h])
 exact Ev.last fun k => by rw [cbor_Get.j1, if_neg (by decide)]; rfl
theorem fin_ev {x : S34} (hx : Fit x) (key t n : Int) (o : Option S34) (ho : ∀ w, o = some w → Fit w) (hI : cbor_Int.f key = some (t, n, [], [])) (hG : Ev (fun k => cbor_Get.l0 k 0 x.f0 x.f1 x.f2 (gTL x.f3) t n [] []) (getR o)) (i : Int) :
  Ev (fun k => pyxlaw10_CborGets.j2 k key o.isSome i false x.f0 x.f1 x.f2 x.f3 (o.getD zI).f0 (o.getD zI).f1 (o.getD zI).f2 (o.getD zI).f3) true := by
 have hw : Fit (o.getD zI) := by
  cases o with
  | none => exact zI_fit
  | some w => exact ho w rfl
 have hGf : Ev (fun k => cbor_Get.f k x.f0 x.f1 x.f2 (gTL x.f3) key) (getR o) := Ev.congr (fun k => by rw [cbor_Get.f, hI, Option.bind_some]) hG
 have hS : Ev (fun k => pyxref10_Same.f k (o.getD zI).f0 (o.getD zI).f1 (o.getD zI).f2 (o.getD zI).f3 (o.getD zI).f0 (o.getD zI).f1 (o.getD zI).f2 (o.getD zI).f3) true := by
  have h_ := same34_ev hw (o.getD zI)
  simpa using h_
 have hn : 0 ≤ x.f1 ∧ x.f1 < 18446744073709551616 := by cases hx; assumption
 have hj : ∀ (v : Int) (b : Bool), (if b = true then (if x.f0 = 0 then (if v = (wrap64 (x.f1)) then (some true) else (if x.f0 = 1 then (some (v == (wrap64 ((-1) - (wrap64 (x.f1)))))) else (some false))) else (if x.f0 = 1 then (some (v == (wrap64 ((-1) - (wrap64 (x.f1)))))) else (some false))) else (if v = 0 then (some true) else (some false))) = some true → Ev (fun k => pyxlaw10_CborGets.j3 k o.isSome o.isSome v b b x.f0 x.f1 x.f2 x.f3 (o.getD zI).f0 (o.getD zI).f1 (o.getD zI).f2 (o.getD zI).f3 (o.getD zI).f0 (o.getD zI).f1 (o.getD zI).f2 (gTL (o.getD zI).f3)) true := by
  intro v b hv
  refine Ev.step' (f := fun k => (pyxlaw10_back.f k (o.getD zI).f0 (o.getD zI).f1 (o.getD zI).f2 (gTL (o.getD zI).f3)).bind fun bt294 => ((pyxref10_Same.f k bt294.1 bt294.2.1 bt294.2.2.1 bt294.2.2.2 (o.getD zI).f0 (o.getD zI).f1 (o.getD zI).f2 (o.getD zI).f3).bind fun t302 => (if t302 = true then some true else some false))) ?_ (fun k => by
   have e1 : (o.isSome != o.isSome) = true ↔ False := by simp
   have e2 : (b != b) = true ↔ False := by simp
   rw [pyxlaw10_CborGets.j3, if_neg (fun h => e1.1 h)]
   simp only [if_neg (fun h => e2.1 h), hv])
  exact Ev.bind (back_ev hw) (Ev.bind hS (Ev.now true))
 have hV : ∃ (v : Int) (b : Bool), Ev (fun k => cbor_Value.f k x.f0 x.f1 x.f2 (gTL x.f3)) (v, b) ∧ (x.f0 = 0 ∨ x.f0 = 1 → b = decide (x.f1 < 9223372036854775808)) ∧ (x.f0 ≠ 0 → x.f0 ≠ 1 → b = false) ∧ (if b = true then (if x.f0 = 0 then (if v = (wrap64 (x.f1)) then (some true) else (if x.f0 = 1 then (some (v == (wrap64 ((-1) - (wrap64 (x.f1)))))) else (some false))) else (if x.f0 = 1 then (some (v == (wrap64 ((-1) - (wrap64 (x.f1)))))) else (some false))) else (if v = 0 then (some true) else (some false))) = some true := by
  by_cases t01 : x.f0 = 0 ∨ x.f0 = 1
  ·have hst : ∀ k, cbor_Value.f (k + 1) x.f0 x.f1 x.f2 (gTL x.f3) = cbor_Value.j1 k (decide (x.f1 > 9223372036854775807)) x.f0 x.f1 x.f2 (gTL x.f3) := by
    intro k
    unfold cbor_Value.f
    rcases t01 with h | h
    ·rw [if_pos h, cbor_Value.j0, if_neg (by decide)]
    ·rw [if_neg (by omega), h, show ((1 : Int) != 1) = false from rfl, cbor_Value.j0, if_neg (by decide)]
   by_cases cb : x.f1 > 9223372036854775807
   ·refine ⟨0, false, Ev.step' (f := fun k => cbor_Value.j1 k true x.f0 x.f1 x.f2 (gTL x.f3)) (Ev.last fun k => by rw [cbor_Value.j1, if_pos rfl]) (fun k => by rw [hst, decide_eq_true cb]), fun _ => (decide_eq_false (by omega)).symm, fun _ _ => rfl, rfl⟩
   ·have hb : decide (x.f1 < 9223372036854775808) = true := decide_eq_true (by omega)
    by_cases h1 : x.f0 = 1
    ·refine ⟨wrap64 ((-1) - wrap64 x.f1), true, Ev.step' (f := fun k => cbor_Value.j1 k false x.f0 x.f1 x.f2 (gTL x.f3)) (Ev.last fun k => by rw [cbor_Value.j1, if_neg (by decide), if_pos h1]) (fun k => by rw [hst, decide_eq_false cb]), fun _ => hb.symm, fun _ h => absurd h1 h, ?_⟩
     rw [if_pos rfl, if_neg (by omega), if_pos h1]
     simp
    ·have h0 : x.f0 = 0 := by omega
     refine ⟨wrap64 x.f1, true, Ev.step' (f := fun k => cbor_Value.j1 k false x.f0 x.f1 x.f2 (gTL x.f3)) (Ev.last fun k => by rw [cbor_Value.j1, if_neg (by decide), if_neg h1]) (fun k => by rw [hst, decide_eq_false cb]), fun _ => hb.symm, fun h _ => absurd h0 h, ?_⟩
     rw [if_pos rfl, if_pos h0, if_pos rfl]
  ·refine ⟨0, false, Ev.step' (f := fun k => cbor_Value.j1 k true x.f0 x.f1 x.f2 (gTL x.f3)) (Ev.last fun k => by rw [cbor_Value.j1, if_pos rfl]) (fun k => by unfold cbor_Value.f; rw [if_neg (by omega), show (x.f0 != 1) = true from bne_iff_ne.mpr (by omega), cbor_Value.j0, if_pos rfl]), fun h => absurd h t01, fun _ _ => rfl, rfl⟩
 obtain ⟨v, b, hv, hb1, hb2, hb3⟩ := hV
 refine Ev.step' (f := fun k => (pyxlaw10_given.f k x.f0 x.f1 x.f2 x.f3).bind fun bt266 => ((cbor_Get.f k bt266.1 bt266.2.1 bt266.2.2.1 bt266.2.2.2 key).bind fun bt274 => ((pyxlaw10_given.f k x.f0 x.f1 x.f2 x.f3).bind fun bt284 => ((cbor_Value.f k bt284.1 bt284.2.1 bt284.2.2.1 bt284.2.2.2).bind fun bt292 => (if x.f0 = 0 then (pyxlaw10_CborGets.j3 k o.isSome bt274.2.2.2.2 bt292.1 bt292.2 (decide (x.f1 < 9223372036854775808)) x.f0 x.f1 x.f2 x.f3 (o.getD zI).f0 (o.getD zI).f1 (o.getD zI).f2 (o.getD zI).f3 bt274.1 bt274.2.1 bt274.2.2.1 bt274.2.2.2.1) else (if x.f0 = 1 then (pyxlaw10_CborGets.j3 k o.isSome bt274.2.2.2.2 bt292.1 bt292.2 (decide (x.f1 < 9223372036854775808)) x.f0 x.f1 x.f2 x.f3 (o.getD zI).f0 (o.getD zI).f1 (o.getD zI).f2 (o.getD zI).f3 bt274.1 bt274.2.1 bt274.2.2.1 bt274.2.2.2.1) else (pyxlaw10_CborGets.j3 k o.isSome bt274.2.2.2.2 bt292.1 bt292.2 false x.f0 x.f1 x.f2 x.f3 (o.getD zI).f0 (o.getD zI).f1 (o.getD zI).f2 (o.getD zI).f3 bt274.1 bt274.2.1 bt274.2.2.1 bt274.2.2.2.1))))))) ?_ (fun k => by rw [pyxlaw10_CborGets.j2, if_neg (by decide)])
 refine Ev.bind (given_ev hx) (Ev.bind hGf (Ev.bind (given_ev hx) (Ev.bind hv ?_)))
 dsimp only [getR]
 by_cases t0 : x.f0 = 0
 ·refine Ev.congr (fun k => by rw [if_pos t0, ← hb1 (.inl t0)]) (hj v b hb3)
 ·by_cases t1 : x.f0 = 1
  ·refine Ev.congr (fun k => by rw [if_neg t0, if_pos t1, ← hb1 (.inr t1)]) (hj v b hb3)
  ·have e := hb2 t0 t1
   subst e
   exact Ev.congr (fun k => by rw [if_neg t0, if_neg t1]) (hj v false hb3)
theorem loop_l (key n0 : Int) (b0 : List Int) (l : List S34) (t n : Int) (hl : l.length < 4611686018427387904) (hf : ∀ y ∈ l, Fit y) (hI : pyxref10_Int.f key = some (t, n, [], [])) : ∀ d i : Nat, l.length - i ≤ d → i ≤ l.length + 1 →
  (∀ i' : Int, Ev (fun k => pyxlaw10_CborGets.j2 k key (fnd t n (l.drop i)).isSome i' false 5 n0 b0 l ((fnd t n (l.drop i)).getD zI).f0 ((fnd t n (l.drop i)).getD zI).f1 ((fnd t n (l.drop i)).getD zI).f2 ((fnd t n (l.drop i)).getD zI).f3) true) →
  Ev (fun k => pyxlaw10_CborGets.l0 k key false (i : Int) 5 n0 b0 l 0 0 [] []) true := by
 intro d
 induction d using Nat.strongRecOn with
 | _ d ih =>
  intro i hd hi hfin
  have w1 : wrap64 ((i : Int) + 1) = ((i + 1 : Nat) : Int) := by rw [w64 (by omega) (by omega)]; omega
  have w2 : wrap64 ((i : Int) + 2) = ((i + 2 : Nat) : Int) := by rw [w64 (by omega) (by omega)]; omega
  by_cases c : i + 1 < l.length
  ·refine Ev.step' (f := fun k => pyxlaw10_CborGets.j2 k key false (i : Int) true 5 n0 b0 l 0 0 [] []) ?_ (fun k => by rw [pyxlaw10_CborGets.l0, if_pos rfl, w1, if_pos (by omega)]; rfl)
   rw [drop2 l i c, fnd] at hfin
   refine Ev.step' (f := fun k => (pyxref10_Int.f key).bind fun bt256 => ((pyxref10_Same.f k ((rd_T34 l (i : Int)).f0) ((rd_T34 l (i : Int)).f1) ((rd_T34 l (i : Int)).f2) ((rd_T34 l (i : Int)).f3) bt256.1 bt256.2.1 bt256.2.2.1 bt256.2.2.2).bind fun t264 => (if t264 = true then (pyxlaw10_CborGets.l0 k key true ((i + 2 : Nat) : Int) 5 n0 b0 l ((rd_T34 l ((i + 1 : Nat) : Int)).f0) ((rd_T34 l ((i + 1 : Nat) : Int)).f1) ((rd_T34 l ((i + 1 : Nat) : Int)).f2) ((rd_T34 l ((i + 1 : Nat) : Int)).f3)) else (pyxlaw10_CborGets.l0 k key false ((i + 2 : Nat) : Int) 5 n0 b0 l 0 0 [] [])))) ?_ (fun k => by
    rw [pyxlaw10_CborGets.j2, if_pos rfl, if_pos (by omega), if_pos (by omega), w1, w2, if_pos (by omega), if_pos (by omega)])
   refine Ev.congr (fun k => by rw [hI, Option.bind_some]) ?_
   refine Ev.bind (same34_ev (hf _ (rd34_mem (show i < l.length by omega))) (⟨t, n, [], []⟩ : S34)) ?_
   by_cases p : (rd_T34 l (i : Int)).f0 = t ∧ (rd_T34 l (i : Int)).f1 = n ∧ (rd_T34 l (i : Int)).f2 = [] ∧ (rd_T34 l (i : Int)).f3 = []
   ·have e : rd_T34 l (i : Int) = (⟨t, n, [], []⟩ : S34) := by
     obtain ⟨p0, p1, p2, p3⟩ := p
     generalize rd_T34 l (i : Int) = y at *
     obtain ⟨a, b, c', d'⟩ := y
     dsimp only at *
     rw [p0, p1, p2, p3]
    rw [if_pos p] at hfin
    refine Ev.congr (fun k => by rw [if_pos (by simp [e])]) ?_
    by_cases c2 : wrap64 (((i + 2 : Nat) : Int) + 1) < (l.length : Int)
    ·exact Ev.step' (hfin _) (fun k => by rw [pyxlaw10_CborGets.l0, if_pos rfl, if_pos c2]; rfl)
    ·exact Ev.step' (hfin _) (fun k => by rw [pyxlaw10_CborGets.l0, if_pos rfl, if_neg c2]; rfl)
   ·have e : rd_T34 l (i : Int) ≠ (⟨t, n, [], []⟩ : S34) := by
     intro h
     exact p (by rw [h]; exact ⟨rfl, rfl, rfl, rfl⟩)
    rw [if_neg p] at hfin
    refine Ev.congr (fun k => by rw [if_neg (by simp [e])]) ?_
    exact ih (d - 1) (by omega) (i + 2) (by omega) (by omega) hfin
  ·rw [fnd_short t n l i c] at hfin
   exact Ev.step' (hfin (i : Int)) (fun k => by rw [pyxlaw10_CborGets.l0, if_pos rfl, w1, if_neg (by omega)]; rfl)
theorem gets_ev {x : S34} (hx : Fit x) (key : Int) (hk : -9223372036854775808 ≤ key ∧ key ≤ 9223372036854775807) : Ev (fun k => pyxlaw10_CborGets.f k x.f0 x.f1 x.f2 x.f3 key) true := by
 have haw : Ev (fun k => pyxlaw10_awake.f k) true := Ev.of (fun k => pyxlaw10_awake.mono k) pyxlaw10_awake.eval
 obtain ⟨fw, hfw⟩ := few_ev hx
 obtain ⟨t, n, ht, hn, hI, hR, _⟩ := cbor_int_cases key hk
 have hl := hx.lim
 have hks : ∀ y ∈ x.f3, Fit y := by cases hx; assumption
 refine Ev.bind haw (Ev.congr (fun k => by rw [if_pos rfl]) ?_)
 refine Ev.bind hfw ?_
 cases fw with
 | false => exact Ev.step' (f := fun k => (pyxlaw10_awake.f k).bind fun t253 => (some t253)) (Ev.bind haw (Ev.now true)) (fun k => by rw [show (!false) = true from rfl, pyxlaw10_CborGets.j0, if_pos rfl])
 | true =>
  refine Ev.step' (f := fun k => pyxlaw10_CborGets.l0 k key false 0 x.f0 x.f1 x.f2 x.f3 0 0 [] []) ?_ (fun k => by rw [show (!true) = false from rfl, pyxlaw10_CborGets.j0, if_neg (by decide)])
  by_cases c5 : x.f0 = 5
  ·have hg := get_l x.f1 x.f2 x.f3 t n (by omega) hks x.f3.length 0 (by omega) (by omega)
   have hfi := fun i' => fin_ev hx key t n (fnd t n (x.f3.drop 0)) (fun w hw => hks w (fnd_mem t n _ _ w (Nat.le_refl _) hw)) hI (by rw [c5]; exact hg) i'
   rw [c5] at hfi ⊢
   exact loop_l key x.f1 x.f2 x.f3 t n (by omega) hks hR x.f3.length 0 (by omega) (by omega) hfi
  ·have hfi := fin_ev hx key t n none (fun w hw => by cases hw) hI (get_no x.f0 x.f1 x.f2 x.f3 t n c5) 0
   exact Ev.step' hfi (fun k => by rw [pyxlaw10_CborGets.l0, if_neg c5]; rfl)
end Go.Proofs.YthdjmojpnimhjaaDoor.PCbg
