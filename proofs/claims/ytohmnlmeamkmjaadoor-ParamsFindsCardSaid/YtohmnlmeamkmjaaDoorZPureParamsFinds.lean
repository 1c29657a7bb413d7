/- ParamsFinds, the pure half. -/
import Derived.Test.YtohmnlmeamkmjaaDoorZPParamsx27
import Derived.Test.YtohmnlmeamkmjaaDoorZXPar3
namespace Go.Proofs.YtohmnlmeamkmjaaDoor.PParams
open Go.RowKit Go.Proofs.YtohmnlmeamkmjaaDoorW.PrintWords Go.Proofs.YtohmnlmeamkmjaaDoorW.PrintLast Go.Proofs.YtohmnlmeamkmjaaDoorW.PrintMore Go.Proofs.YtohmnlmeamkmjaaDoorW.Pu
def FL (k : Nat) (nm : ByteArray) (n t : Int) (P Q R : Int × Int × ByteArray × Int × Int × Int × Int × List Int × Int × Int × Bool) (i : Int) (X Y Z : S42) : Option Bool := pyxlaw13_ParamsFinds.l0 k nm n t P.2.2.2.2.2.2.2.2.2.2 Q.2.2.2.2.2.2.2.2.2.2 R.2.2.2.2.2.2.2.2.2.2 tabR i P.1 P.2.1 P.2.2.1 P.2.2.2.1 P.2.2.2.2.1 P.2.2.2.2.2.1 P.2.2.2.2.2.2.1 P.2.2.2.2.2.2.2.1 P.2.2.2.2.2.2.2.2.1 P.2.2.2.2.2.2.2.2.2.1 Q.1 Q.2.1 Q.2.2.1 Q.2.2.2.1 Q.2.2.2.2.1 Q.2.2.2.2.2.1 Q.2.2.2.2.2.2.1 Q.2.2.2.2.2.2.2.1 Q.2.2.2.2.2.2.2.2.1 Q.2.2.2.2.2.2.2.2.2.1 R.1 R.2.1 R.2.2.1 R.2.2.2.1 R.2.2.2.2.1 R.2.2.2.2.2.1 R.2.2.2.2.2.2.1 R.2.2.2.2.2.2.2.1 R.2.2.2.2.2.2.2.2.1 R.2.2.2.2.2.2.2.2.2.1 X.f0 X.f1 X.f2 X.f3 X.f4 X.f5 X.f6 X.f7 X.f8 X.f9 Y.f0 Y.f1 Y.f2 Y.f3 Y.f4 Y.f5 Y.f6 Y.f7 Y.f8 Y.f9 Z.f0 Z.f1 Z.f2 Z.f3 Z.f4 Z.f5 Z.f6 Z.f7 Z.f8 Z.f9
def FJ2 (k : Nat) (nm : ByteArray) (n t : Int) (P Q R : Int × Int × ByteArray × Int × Int × Int × Int × List Int × Int × Int × Bool) (i : Int) (X Y Z : S42) : Option Bool := pyxlaw13_ParamsFinds.j2 k nm n t P.2.2.2.2.2.2.2.2.2.2 Q.2.2.2.2.2.2.2.2.2.2 R.2.2.2.2.2.2.2.2.2.2 tabR i P.1 P.2.1 P.2.2.1 P.2.2.2.1 P.2.2.2.2.1 P.2.2.2.2.2.1 P.2.2.2.2.2.2.1 P.2.2.2.2.2.2.2.1 P.2.2.2.2.2.2.2.2.1 P.2.2.2.2.2.2.2.2.2.1 Q.1 Q.2.1 Q.2.2.1 Q.2.2.2.1 Q.2.2.2.2.1 Q.2.2.2.2.2.1 Q.2.2.2.2.2.2.1 Q.2.2.2.2.2.2.2.1 Q.2.2.2.2.2.2.2.2.1 Q.2.2.2.2.2.2.2.2.2.1 R.1 R.2.1 R.2.2.1 R.2.2.2.1 R.2.2.2.2.1 R.2.2.2.2.2.1 R.2.2.2.2.2.2.1 R.2.2.2.2.2.2.2.1 R.2.2.2.2.2.2.2.2.1 R.2.2.2.2.2.2.2.2.2.1 X.f0 X.f1 X.f2 X.f3 X.f4 X.f5 X.f6 X.f7 X.f8 X.f9 Y.f0 Y.f1 Y.f2 Y.f3 Y.f4 Y.f5 Y.f6 Y.f7 Y.f8 Y.f9 Z.f0 Z.f1 Z.f2 Z.f3 Z.f4 Z.f5 Z.f6 Z.f7 Z.f8 Z.f9
def FJ3 (k : Nat) (nm : ByteArray) (n t : Int) (P Q R : Int × Int × ByteArray × Int × Int × Int × Int × List Int × Int × Int × Bool) (i : Int) (b : Bool) (X Y Z : S42) : Option Bool := pyxlaw13_ParamsFinds.j3 k nm n t P.2.2.2.2.2.2.2.2.2.2 Q.2.2.2.2.2.2.2.2.2.2 R.2.2.2.2.2.2.2.2.2.2 tabR i b P.1 P.2.1 P.2.2.1 P.2.2.2.1 P.2.2.2.2.1 P.2.2.2.2.2.1 P.2.2.2.2.2.2.1 P.2.2.2.2.2.2.2.1 P.2.2.2.2.2.2.2.2.1 P.2.2.2.2.2.2.2.2.2.1 Q.1 Q.2.1 Q.2.2.1 Q.2.2.2.1 Q.2.2.2.2.1 Q.2.2.2.2.2.1 Q.2.2.2.2.2.2.1 Q.2.2.2.2.2.2.2.1 Q.2.2.2.2.2.2.2.2.1 Q.2.2.2.2.2.2.2.2.2.1 R.1 R.2.1 R.2.2.1 R.2.2.2.1 R.2.2.2.2.1 R.2.2.2.2.2.1 R.2.2.2.2.2.2.1 R.2.2.2.2.2.2.2.1 R.2.2.2.2.2.2.2.2.1 R.2.2.2.2.2.2.2.2.2.1 X.f0 X.f1 X.f2 X.f3 X.f4 X.f5 X.f6 X.f7 X.f8 X.f9 Y.f0 Y.f1 Y.f2 Y.f3 Y.f4 Y.f5 Y.f6 Y.f7 Y.f8 Y.f9 Z.f0 Z.f1 Z.f2 Z.f3 Z.f4 Z.f5 Z.f6 Z.f7 Z.f8 Z.f9
theorem FL_step (k : Nat) (nm : ByteArray) (n t : Int) (P Q R : Int × Int × ByteArray × Int × Int × Int × Int × List Int × Int × Int × Bool) {i : Int} (h0 : 0 ≤ i) (h1 : i < 25) (X Y Z : S42) :
    FL (k + 1) nm n t P Q R i X Y Z = if (rd_T42 tabR i).f2.toList = nm.toList then FJ2 k nm n t P Q R i (rd_T42 tabR i) Y Z else FJ2 k nm n t P Q R i X Y Z := by
  have ht : (tabR.length : Int) = 25 := rfl
  unfold FL
  rw [pyxlaw13_ParamsFinds.l0, if_pos (by rw [ht]; exact h1), if_pos h0]
  rfl
theorem FJ2_step (k : Nat) (nm : ByteArray) (n t : Int) (P Q R : Int × Int × ByteArray × Int × Int × Int × Int × List Int × Int × Int × Bool) {i : Int} (h0 : 0 ≤ i) (h1 : i < 25) (X Y Z : S42) :
    FJ2 (k + 1) nm n t P Q R i X Y Z = FJ3 k nm n t P Q R i (n != 0 && (rd_T42 tabR i).f8 == n) X Y Z := by
  have ht : (tabR.length : Int) = 25 := rfl
  unfold FJ2
  rw [pyxlaw13_ParamsFinds.j2]
  by_cases c : n = 0
  · rw [if_pos c]
    have e : (n != 0 && (rd_T42 tabR i).f8 == n) = false := by simp [c]
    rw [e]
    rfl
  · rw [if_neg c, if_pos h0, if_pos (by rw [ht]; exact h1)]
    have e : (n != 0 && (rd_T42 tabR i).f8 == n) = ((rd_T42 tabR i).f8 == n) := by simp [c]
    rw [e]
    rfl
theorem FJ3_step (k : Nat) (nm : ByteArray) (n t : Int) (P Q R : Int × Int × ByteArray × Int × Int × Int × Int × List Int × Int × Int × Bool) {i : Nat} (h1 : i < 25) (b : Bool) (X Y Z : S42) :
    FJ3 (k + 1) nm n t P Q R (i : Int) b X Y Z = FL k nm n t P Q R ((i + 1 : Nat) : Int) X (if b = true then rd_T42 tabR (i : Int) else Y) (if (t != 0 && (rd_T42 tabR (i : Int)).f9 == t) = true then rd_T42 tabR (i : Int) else Z) := by
  have ht : (tabR.length : Int) = 25 := rfl
  have w1 : wrap64 ((i : Int) + 1) = ((i + 1 : Nat) : Int) := wsucc (by omega)
  unfold FJ3
  rw [pyxlaw13_ParamsFinds.j3]
  have g0 : (0 : Int) ≤ (i : Int) := by omega
  have g1 : (i : Int) < (tabR.length : Int) := by rw [ht]; omega
  by_cases c : t = 0
  · have e : ¬ (t != 0 && (rd_T42 tabR (i : Int)).f9 == t) = true := by simp [c]
    rw [if_neg e]
    cases b with
    | true => rw [if_pos rfl, if_pos g0, if_pos g1, if_pos c, w1]; rfl
    | false => rw [if_neg (by decide), if_pos c, w1]; rfl
  · by_cases c2 : (rd_T42 tabR (i : Int)).f9 = t
    · have e : (t != 0 && (rd_T42 tabR (i : Int)).f9 == t) = true := by simp [c, c2]
      rw [if_pos e]
      cases b with
      | true => rw [if_pos rfl, if_pos g0, if_pos g1, if_neg c, if_pos c2, w1]; rfl
      | false => rw [if_neg (by decide), if_neg c, if_pos g0, if_pos g1, if_pos c2, w1]; rfl
    · have e : ¬ (t != 0 && (rd_T42 tabR (i : Int)).f9 == t) = true := by simp [c2]
      rw [if_neg e]
      cases b with
      | true => rw [if_pos rfl, if_pos g0, if_pos g1, if_neg c, if_neg c2, w1]; rfl
      | false => rw [if_neg (by decide), if_neg c, if_pos g0, if_pos g1, if_neg c2, w1]; rfl
def lastS (h : Nat → Bool) : Nat → S42
  | 0 => z42
  | n + 1 => if h (n + 1) = true then rd_T42 tabR (n : Int) else lastS h n
theorem last_none (h : Nat → Bool) : ∀ n, (∀ b, 1 ≤ b → b ≤ n → h b = false) → algs h n = [] ∧ lastS h n = z42 := by
  intro n
  induction n with
  | zero => intro _; exact ⟨rfl, rfl⟩
  | succ n ih =>
    intro hn
    have h1 := hn (n + 1) (by omega) (by omega)
    obtain ⟨a, b⟩ := ih (fun b hb hb2 => hn b hb (by omega))
    refine ⟨?_, ?_⟩
    · rw [algs, a, h1]; rfl
    · rw [lastS, h1, if_neg (by decide)]; exact b
theorem last_one (h : Nat → Bool) (i : Nat) (hi : h (i + 1) = true) : ∀ n, i < n → (∀ b, 1 ≤ b → b ≤ n → h b = true → b = i + 1) → algs h n = [((i + 1 : Nat) : Int)] ∧ lastS h n = rd_T42 tabR (i : Int) := by
  intro n
  induction n with
  | zero => intro h0; omega
  | succ n ih =>
    intro hlt hu
    by_cases c : i = n
    · subst c
      have hb : ∀ b, 1 ≤ b → b ≤ i → h b = false := fun b h1 h2 => by
        cases hb : h b with
        | false => rfl
        | true => have := hu b h1 (by omega) hb; omega
      obtain ⟨a, _⟩ := last_none h i hb
      exact ⟨by rw [algs, a, if_pos hi]; rfl, by rw [lastS, if_pos hi]⟩
    · have h1 : h (n + 1) = false := by
        cases hb : h (n + 1) with
        | false => rfl
        | true => have := hu (n + 1) (by omega) (by omega) hb; omega
      obtain ⟨a, b⟩ := ih (by omega) (fun b h1 h2 h3 => hu b h1 (by omega) h3)
      refine ⟨?_, ?_⟩
      · rw [algs, a, h1]; rfl
      · rw [lastS, h1, if_neg (by decide)]; exact b
def okP (P : Int × Int × ByteArray × Int × Int × Int × Int × List Int × Int × Int × Bool) (X : S42) : Prop := Ev (fun k => pyxlaw13_same.f k P.1 P.2.1 P.2.2.1 P.2.2.2.1 P.2.2.2.2.1 P.2.2.2.2.2.1 P.2.2.2.2.2.2.1 P.2.2.2.2.2.2.2.1 P.2.2.2.2.2.2.2.2.1 P.2.2.2.2.2.2.2.2.2.1 X.f0 X.f1 X.f2 X.f3 X.f4 X.f5 X.f6 X.f7 X.f8 X.f9) true ∧ (P.2.2.2.2.2.2.2.2.2.2 == decide (X.f0 > 0)) = true
theorem ok_zero : okP (withB (prow 0) false) z42 := ⟨Ev.of (fun k => pyxlaw13_same.mono _ _ _ _ _ _ _ _ _ _ _ _ _ _ _ _ _ _ _ _ k) (k := 64) (show _ = some true by kernel_rfl), rfl⟩
def okR (i : Nat) : Bool := (match pyxlaw13_same.f 64 (withB (prow (i + 1)) true).1 (withB (prow (i + 1)) true).2.1 (withB (prow (i + 1)) true).2.2.1 (withB (prow (i + 1)) true).2.2.2.1 (withB (prow (i + 1)) true).2.2.2.2.1 (withB (prow (i + 1)) true).2.2.2.2.2.1 (withB (prow (i + 1)) true).2.2.2.2.2.2.1 (withB (prow (i + 1)) true).2.2.2.2.2.2.2.1 (withB (prow (i + 1)) true).2.2.2.2.2.2.2.2.1 (withB (prow (i + 1)) true).2.2.2.2.2.2.2.2.2.1 (rd_T42 tabR (i : Int)).f0 (rd_T42 tabR (i : Int)).f1 (rd_T42 tabR (i : Int)).f2 (rd_T42 tabR (i : Int)).f3 (rd_T42 tabR (i : Int)).f4 (rd_T42 tabR (i : Int)).f5 (rd_T42 tabR (i : Int)).f6 (rd_T42 tabR (i : Int)).f7 (rd_T42 tabR (i : Int)).f8 (rd_T42 tabR (i : Int)).f9 with | some true => true | _ => false) && decide ((rd_T42 tabR (i : Int)).f0 > 0)
set_option maxRecDepth 100000 in
theorem ok_rows (i : Nat) (h : i < 25) : okR i = true := by
  rcases (show i = 0 ∨ i = 1 ∨ i = 2 ∨ i = 3 ∨ i = 4 ∨ i = 5 ∨ i = 6 ∨ i = 7 ∨ i = 8 ∨ i = 9 ∨ i = 10 ∨ i = 11 ∨ i = 12 ∨ i = 13 ∨ i = 14 ∨ i = 15 ∨ i = 16 ∨ i = 17 ∨ i = 18 ∨ i = 19 ∨ i = 20 ∨ i = 21 ∨ i = 22 ∨ i = 23 ∨ i = 24 by omega) with rfl | rfl | rfl | rfl | rfl | rfl | rfl | rfl | rfl | rfl | rfl | rfl | rfl | rfl | rfl | rfl | rfl | rfl | rfl | rfl | rfl | rfl | rfl | rfl | rfl
  all_goals
    show _ = true
    kernel_rfl
theorem ok_row (i : Nat) (h : i < 25) : okP (withB (prow (i + 1)) true) (rd_T42 tabR (i : Int)) := by
  have h1 := ok_rows i h
  unfold okR at h1
  rw [Bool.and_eq_true] at h1
  obtain ⟨h1, h2⟩ := h1
  refine ⟨Ev.of (fun k => pyxlaw13_same.mono _ _ _ _ _ _ _ _ _ _ _ _ _ _ _ _ _ _ _ _ k) (k := 64) ?_, ?_⟩
  · split at h1
    · assumption
    · cases h1
  · show (true == decide _) = true
    rw [h2]
    rfl
theorem fin (h : Nat → Bool) (hu : ∀ i j, i < 25 → j < 25 → h (i + 1) = true → h (j + 1) = true → i = j) : okP (oneP h) (lastS h 25) := by
  by_cases c : ∃ i, i < 25 ∧ h (i + 1) = true
  · obtain ⟨i, hi, h1⟩ := c
    obtain ⟨a, b⟩ := last_one h i h1 25 hi (fun b hb1 hb2 hb => by
      have := hu (b - 1) i (by omega) hi (by rw [show b - 1 + 1 = b by omega]; exact hb) h1
      omega)
    have e : oneP h = withB (prow (i + 1)) true := by
      unfold oneP
      rw [a]
      show withB (prow (((i + 1 : Nat) : Int)).toNat) true = _
      rw [Int.toNat_natCast]
    rw [e, b]
    exact ok_row i hi
  · obtain ⟨a, b⟩ := last_none h 25 (fun b hb1 hb2 => by
      cases hb : h b with
      | false => rfl
      | true => exact absurd ⟨b - 1, by omega, by rw [show b - 1 + 1 = b by omega]; exact hb⟩ c)
    have e : oneP h = withB (prow 0) false := by
      unfold oneP
      rw [a]
    rw [e, b]
    exact ok_zero
def apartAll : Bool := (List.range 25).all fun i => (List.range 25).all fun j => i == j || (!((prow (i + 1)).2.2.1.data.toList == (prow (j + 1)).2.2.1.data.toList) && (((prow (i + 1)).2.2.2.2.2.2.2.2.1 == 0 || !((prow (i + 1)).2.2.2.2.2.2.2.2.1 == (prow (j + 1)).2.2.2.2.2.2.2.2.1)) && ((prow (i + 1)).2.2.2.2.2.2.2.2.2 == 0 || !((prow (i + 1)).2.2.2.2.2.2.2.2.2 == (prow (j + 1)).2.2.2.2.2.2.2.2.2))))
set_option maxRecDepth 100000 in
theorem apart_all : apartAll = true := by kernel_rfl
theorem apart_two {i j : Nat} (hi : i < 25) (hj : j < 25) (hne : i ≠ j) : (prow (i + 1)).2.2.1.data.toList ≠ (prow (j + 1)).2.2.1.data.toList ∧ ((prow (i + 1)).2.2.2.2.2.2.2.2.1 = 0 ∨ (prow (i + 1)).2.2.2.2.2.2.2.2.1 ≠ (prow (j + 1)).2.2.2.2.2.2.2.2.1) ∧ ((prow (i + 1)).2.2.2.2.2.2.2.2.2 = 0 ∨ (prow (i + 1)).2.2.2.2.2.2.2.2.2 ≠ (prow (j + 1)).2.2.2.2.2.2.2.2.2) := by
  have h := List.all_eq_true.1 (List.all_eq_true.1 apart_all i (List.mem_range.2 hi)) j (List.mem_range.2 hj)
  have hb : (i == j) = false := beq_eq_false_iff_ne.2 hne
  rw [hb, Bool.false_or] at h
  simpa [Bool.and_eq_true, Bool.or_eq_true, beq_iff_eq] using h
def hN (nm : ByteArray) (a : Nat) : Bool := (prow a).2.2.1.toList == nm.toList
def hC (n : Int) (a : Nat) : Bool := n != 0 && (prow a).2.2.2.2.2.2.2.2.1 == n
def hT (t : Int) (a : Nat) : Bool := t != 0 && (prow a).2.2.2.2.2.2.2.2.2 == t
theorem uN (nm : ByteArray) (i j : Nat) (hi : i < 25) (hj : j < 25) (h1 : hN nm (i + 1) = true) (h2 : hN nm (j + 1) = true) : i = j := by
  by_cases c : i = j
  · exact c
  · have h3 := (apart_two hi hj c).1
    unfold hN at h1 h2
    rw [beq_iff_eq] at h1 h2
    rw [ByteArray.toList_eq] at h1 h2
    exact absurd (h1.trans h2.symm) h3
theorem uC (n : Int) (i j : Nat) (hi : i < 25) (hj : j < 25) (h1 : hC n (i + 1) = true) (h2 : hC n (j + 1) = true) : i = j := by
  by_cases c : i = j
  · exact c
  · have h3 := (apart_two hi hj c).2.1
    unfold hC at h1 h2
    simp only [Bool.and_eq_true, bne_iff_ne, beq_iff_eq] at h1 h2
    rcases h3 with h3 | h3
    · exact absurd (h1.2.symm.trans h3) h1.1
    · exact absurd (h1.2.trans h2.2.symm) h3
theorem uT (n : Int) (i j : Nat) (hi : i < 25) (hj : j < 25) (h1 : hT n (i + 1) = true) (h2 : hT n (j + 1) = true) : i = j := by
  by_cases c : i = j
  · exact c
  · have h3 := (apart_two hi hj c).2.2
    unfold hT at h1 h2
    simp only [Bool.and_eq_true, bne_iff_ne, beq_iff_eq] at h1 h2
    rcases h3 with h3 | h3
    · exact absurd (h1.2.symm.trans h3) h1.1
    · exact absurd (h1.2.trans h2.2.symm) h3
theorem finds_l0 (nm : ByteArray) (n t : Int) : ∀ d i : Nat, 25 - i = d → i ≤ 25 →
    Ev (fun k => FL k nm n t (oneP (hN nm)) (oneP (hC n)) (oneP (hT t)) (i : Int) (lastS (hN nm) i) (lastS (hC n) i) (lastS (hT t) i)) true := by
  intro d
  induction d with
  | zero =>
    intro i hd hi
    obtain rfl : i = 25 := by omega
    obtain ⟨a1, a2⟩ := fin (hN nm) (uN nm)
    obtain ⟨b1, b2⟩ := fin (hC n) (uC n)
    obtain ⟨c1, c2⟩ := fin (hT t) (uT t)
    generalize oneP (hN nm) = P at a1 a2 ⊢
    generalize oneP (hC n) = Q at b1 b2 ⊢
    generalize oneP (hT t) = R at c1 c2 ⊢
    generalize lastS (hN nm) 25 = X at a1 a2 ⊢
    generalize lastS (hC n) 25 = Y at b1 b2 ⊢
    generalize lastS (hT t) 25 = Z at c1 c2 ⊢
    refine Ev.step' (f := fun k => (pyxlaw13_same.f k P.1 P.2.1 P.2.2.1 P.2.2.2.1 P.2.2.2.2.1 P.2.2.2.2.2.1 P.2.2.2.2.2.2.1 P.2.2.2.2.2.2.2.1 P.2.2.2.2.2.2.2.2.1 P.2.2.2.2.2.2.2.2.2.1 X.f0 X.f1 X.f2 X.f3 X.f4 X.f5 X.f6 X.f7 X.f8 X.f9).bind fun t393 => (if t393 = true then (if (P.2.2.2.2.2.2.2.2.2.2 == (decide (X.f0 > 0))) = true then ((pyxlaw13_same.f k Q.1 Q.2.1 Q.2.2.1 Q.2.2.2.1 Q.2.2.2.2.1 Q.2.2.2.2.2.1 Q.2.2.2.2.2.2.1 Q.2.2.2.2.2.2.2.1 Q.2.2.2.2.2.2.2.2.1 Q.2.2.2.2.2.2.2.2.2.1 Y.f0 Y.f1 Y.f2 Y.f3 Y.f4 Y.f5 Y.f6 Y.f7 Y.f8 Y.f9).bind fun t394 => (if t394 = true then (if (Q.2.2.2.2.2.2.2.2.2.2 == (decide (Y.f0 > 0))) = true then ((pyxlaw13_same.f k R.1 R.2.1 R.2.2.1 R.2.2.2.1 R.2.2.2.2.1 R.2.2.2.2.2.1 R.2.2.2.2.2.2.1 R.2.2.2.2.2.2.2.1 R.2.2.2.2.2.2.2.2.1 R.2.2.2.2.2.2.2.2.2.1 Z.f0 Z.f1 Z.f2 Z.f3 Z.f4 Z.f5 Z.f6 Z.f7 Z.f8 Z.f9).bind fun t395 => (if t395 = true then (some (R.2.2.2.2.2.2.2.2.2.2 == (decide (Z.f0 > 0)))) else (some false))) else (some false)) else (some false))) else (some false)) else (some false))) ?_ fun k => ?_
    · refine Ev.bind a1 ?_
      simp only [if_true]
      rw [a2]
      simp only [if_true]
      refine Ev.bind b1 ?_
      simp only [if_true]
      rw [b2]
      simp only [if_true]
      refine Ev.bind c1 ?_
      simp only [if_true]
      rw [c2]
      exact Ev.now true
    · unfold FL
      rw [pyxlaw13_ParamsFinds.l0, if_neg (by decide)]
  | succ d ih =>
    intro i hd hi
    have hlt : i < 25 := by omega
    have ro := row_ok i hlt
    have h2 := ih (i + 1) (by omega) (by omega)
    rw [lastS, lastS, lastS] at h2
    refine Ev.step' ?_ (fun k => FL_step k nm n t _ _ _ (by omega) (by omega) _ _ _)
    have hj : ∀ X, X = (if hN nm (i + 1) = true then rd_T42 tabR (i : Int) else lastS (hN nm) i) → Ev (fun k => FJ2 k nm n t (oneP (hN nm)) (oneP (hC n)) (oneP (hT t)) (i : Int) X (lastS (hC n) i) (lastS (hT t) i)) true := fun X hX => by
      refine Ev.step' ?_ (fun k => FJ2_step k nm n t _ _ _ (by omega) (by omega) _ _ _)
      refine Ev.step' ?_ (fun k => FJ3_step k nm n t _ _ _ hlt _ _ _ _)
      rw [ro.f8, ro.f9, hX]
      exact h2
    by_cases c : (rd_T42 tabR (i : Int)).f2.toList = nm.toList
    · simp only [if_pos c]
      exact hj _ (by rw [if_pos]; unfold hN; rw [← ro.f2, beq_iff_eq]; exact c)
    · simp only [if_neg c]
      exact hj _ (by rw [if_neg]; unfold hN; rw [← ro.f2, beq_iff_eq]; exact c)
end Go.Proofs.YtohmnlmeamkmjaaDoor.PParams
namespace Go.Proofs.YtohmnlmeamkmjaaDoor.Pure
open Go.RowKit Go.Proofs.YtohmnlmeamkmjaaDoor.PParams Go.Proofs.YtohmnlmeamkmjaaDoorW.PrintWords Go.Proofs.YtohmnlmeamkmjaaDoorW.PrintLast Go.Proofs.YtohmnlmeamkmjaaDoorW.PrintMore Go.Proofs.YtohmnlmeamkmjaaDoorW.Pu
theorem ParamsFinds : pyxlaw13_ParamsFinds.Pure := by
  intro nm n t _ _ _
  apply Ev.rounds
  have haw := Ev.of pyxlaw13_awake.mono pyxlaw13_awake.eval
  refine Ev.congr (fun k => rfl) (Ev.bind haw ?_)
  simp only [if_true]
  by_cases h1 : (nm.size : Int) > 100
  · rw [decide_eq_true h1]
    exact Ev.step' (Ev.bind (f := fun _ x => some x) haw (Ev.now true)) fun k => by rw [pyxlaw13_ParamsFinds.j0, if_pos rfl]
  · rw [decide_eq_false h1]
    have e1 : params_ByName.f nm = some (oneP (hN nm)) := rfl
    have e2 : params_ByCOSE.f n = some (oneP (hC n)) := rfl
    have e3 : params_ByType.f t = some (oneP (hT t)) := rfl
    have e4 : pyxref13_Table.f = some tabR := rfl
    have hl := finds_l0 nm n t 25 0 rfl (by omega)
    rw [lastS, lastS, lastS] at hl
    generalize oneP (hN nm) = P at e1 hl
    generalize oneP (hC n) = Q at e2 hl
    generalize oneP (hT t) = R at e3 hl
    refine Ev.step' hl fun k => ?_
    rw [pyxlaw13_ParamsFinds.j0, if_neg (by decide), e1, Option.bind_some, e2, Option.bind_some, e3, Option.bind_some, e4, Option.bind_some]
    unfold FL z42
    rfl
end Go.Proofs.YtohmnlmeamkmjaaDoor.Pure
