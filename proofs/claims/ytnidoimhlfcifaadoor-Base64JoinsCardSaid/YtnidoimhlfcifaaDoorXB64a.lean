/- What the printed functions of the laws of base 64 tell: the digits and their values; the reference's bits and encoding; no condition. -/
import Derived.Test.YtnidoimhlfcifaaDoorXPure
import Derived.Test.YtnidoimhlfcifaaDoorPB64x
namespace Go.Proofs.YtnidoimhlfcifaaDoor.PB64
open Go.RowKit Go.Proofs.YtnidoimhlfcifaaDoorW.PrintWords Go.Proofs.YtnidoimhlfcifaaDoorW.PrintMore Go.Proofs.YtnidoimhlfcifaaDoorW.Pu
set_option linter.unusedVariables false

/-! ### tables -/
def tb (a : Int) : ByteArray := if a = 1 then ⟨#[65, 66, 67, 68, 69, 70, 71, 72, 73, 74, 75, 76, 77, 78, 79, 80, 81, 82, 83, 84, 85, 86, 87, 88, 89, 90, 97, 98, 99, 100, 101, 102, 103, 104, 105, 106, 107, 108, 109, 110, 111, 112, 113, 114, 115, 116, 117, 118, 119, 120, 121, 122, 48, 49, 50, 51, 52, 53, 54, 55, 56, 57, 43, 47]⟩ else if a = 2 then ⟨#[65, 66, 67, 68, 69, 70, 71, 72, 73, 74, 75, 76, 77, 78, 79, 80, 81, 82, 83, 84, 85, 86, 87, 88, 89, 90, 97, 98, 99, 100, 101, 102, 103, 104, 105, 106, 107, 108, 109, 110, 111, 112, 113, 114, 115, 116, 117, 118, 119, 120, 121, 122, 48, 49, 50, 51, 52, 53, 54, 55, 56, 57, 45, 95]⟩ else ⟨#[]⟩
theorem table_eq (a : Int) : base64_table.f a = some (tb a) := by
  unfold base64_table.f tb
  by_cases h1 : a = 1
  · rw [if_pos h1, if_pos h1]
  · rw [if_neg h1, if_neg h1]
    by_cases h2 : a = 2
    · rw [if_pos h2, if_pos h2]
    · rw [if_neg h2, if_neg h2]
/-- The value of a digit, -1 if there is none. -/
def vof (a c : Int) : Int := Lib.indexByte (tb a).data.toList c.toNat.toUInt8
theorem value_eq (a c : Int) : base64_Value.f a c = some (mx (vof a c) 0, decide (vof a c ≥ 0)) := by
  unfold base64_Value.f strings_IndexByte.f
  rw [table_eq]
  rfl
theorem tb_no {a : Int} (h1 : a ≠ 1) (h2 : a ≠ 2) : tb a = ⟨#[]⟩ := by unfold tb; rw [if_neg h1, if_neg h2]
theorem vof_no {a : Int} (h1 : a ≠ 1) (h2 : a ≠ 2) (c : Int) : vof a c = -1 := by
  unfold vof
  rw [tb_no h1 h2]
  rfl
/-- The digit with a value, as the reference tells it. -/
def dig (a v : Int) : Int := if 0 ≤ v ∧ v < ((tb a).size : Int) then bt (tb a) v else 0
theorem rdigit_no {a : Int} (h1 : a ≠ 1) (h2 : a ≠ 2) (v : Int) : Ev (fun k => pyxref04_Digit.f k a v) 0 := by
  have e : Ev (fun k => pyxref04_Digit.j0 k a v true) 0 := Ev.last fun k => by rw [pyxref04_Digit.j0, if_pos rfl]
  exact Ev.congr (fun k => by rw [pyxref04_Digit.f, if_neg h1, if_neg h2]) e
theorem rdigit_out {a v : Int} (h : v < 0 ∨ 63 < v) : Ev (fun k => pyxref04_Digit.f k a v) 0 := by
  have e : Ev (fun k => pyxref04_Digit.j0 k a v true) 0 := Ev.last fun k => by rw [pyxref04_Digit.j0, if_pos rfl]
  refine Ev.congr (fun k => ?_) e
  rw [pyxref04_Digit.f]
  by_cases c : v < 0
  · simp only [if_pos c]; split <;> (try split) <;> rfl
  · simp only [if_neg c]; rw [decide_eq_true (by omega)]; split <;> (try split) <;> rfl
theorem rdigit_tab1 : ∀ v : Fin 64, pyxref04_Digit.f 3 1 (v.val : Int) = some (bt (tb 1) (v.val : Int)) := by decide +kernel
theorem rdigit_tab2 : ∀ v : Fin 64, pyxref04_Digit.f 3 2 (v.val : Int) = some (bt (tb 2) (v.val : Int)) := by decide +kernel
theorem tb_size1 : (tb 1).size = 64 := by decide +kernel
theorem tb_size2 : (tb 2).size = 64 := by decide +kernel
theorem rdigit_ev (a v : Int) : Ev (fun k => pyxref04_Digit.f k a v) (dig a v) := by
  by_cases h1 : a = 1
  · subst h1
    by_cases c : v < 0 ∨ 63 < v
    · have : dig 1 v = 0 := by unfold dig; rw [tb_size1, if_neg (by omega)]
      rw [this]
      exact rdigit_out c
    · have : dig 1 v = bt (tb 1) v := by unfold dig; rw [tb_size1, if_pos (by omega)]
      rw [this]
      have h := rdigit_tab1 ⟨v.toNat, by omega⟩
      simp only [show ((v.toNat : Nat) : Int) = v by omega] at h
      exact Ev.of (fun k => pyxref04_Digit.mono _ _ k) h
  · by_cases h2 : a = 2
    · subst h2
      by_cases c : v < 0 ∨ 63 < v
      · have : dig 2 v = 0 := by unfold dig; rw [tb_size2, if_neg (by omega)]
        rw [this]
        exact rdigit_out c
      · have : dig 2 v = bt (tb 2) v := by unfold dig; rw [tb_size2, if_pos (by omega)]
        rw [this]
        have h := rdigit_tab2 ⟨v.toNat, by omega⟩
        simp only [show ((v.toNat : Nat) : Int) = v by omega] at h
        exact Ev.of (fun k => pyxref04_Digit.mono _ _ k) h
    · have : dig a v = 0 := by
        unfold dig
        rw [tb_no h1 h2, if_neg (by show ¬ (0 ≤ v ∧ v < ((0 : Nat) : Int)); omega)]
      rw [this]
      exact rdigit_no h1 h2 v
theorem digit_eq (a v : Int) : base64_Digit.f a v = some (dig a v, decide (0 ≤ v ∧ v < ((tb a).size : Int))) := by
  unfold base64_Digit.f
  rw [table_eq, Option.bind_some]
  unfold dig
  by_cases c : v < 0
  · rw [if_pos c, if_neg (by omega), decide_eq_false (by omega)]
  · rw [if_neg c]
    by_cases c2 : v ≥ ((tb a).size : Int)
    · rw [if_pos c2, if_neg (by omega), decide_eq_false (by omega)]
    · rw [if_neg c2, if_pos (by omega), if_pos (by omega), if_pos (by omega), decide_eq_true (by omega)]

/-! ### the reference's Value -/
theorem rvalue_tab1 : ∀ c : Fin 256, pyxref04_Value.f 70 1 (c.val : Int) = some (vof 1 (c.val : Int)) := by decide +kernel
theorem rvalue_tab2 : ∀ c : Fin 256, pyxref04_Value.f 70 2 (c.val : Int) = some (vof 2 (c.val : Int)) := by decide +kernel
theorem rvalue_no {a : Int} (h1 : a ≠ 1) (h2 : a ≠ 2) (c : Int) : ∀ d : Nat, d ≤ 64 → Ev (fun k => pyxref04_Value.l0 k a c (64 - d)) (-1) := by
  intro d
  induction d with
  | zero => intro _; exact Ev.last fun k => by rw [pyxref04_Value.l0, if_neg (by omega)]
  | succ d ih =>
    intro hd
    have h := ih (by omega)
    have e : wrap64 ((64 : Int) - ((d + 1 : Nat) : Int) + 1) = 64 - d := by rw [w64 (by omega) (by omega)]; omega
    by_cases c0 : c = 0
    · exact Ev.step' h fun k => by rw [pyxref04_Value.l0, if_pos (by omega), if_pos c0, e]
    · have h3 : Ev (fun k => (pyxref04_Digit.f k a ((64 : Int) - ((d + 1 : Nat) : Int))).bind fun t158 => (if t158 = c then (some ((64 : Int) - ((d + 1 : Nat) : Int))) else (pyxref04_Value.l0 k a c (wrap64 ((64 : Int) - ((d + 1 : Nat) : Int) + 1))))) (-1) := by
        refine Ev.bind (rdigit_no h1 h2 _) ?_
        rw [e]
        exact Ev.congr (fun k => by rw [if_neg (fun h => c0 h.symm)]) h
      exact Ev.step' h3 fun k => by rw [pyxref04_Value.l0, if_pos (by omega), if_neg c0]
theorem rvalue_ev (a c : Int) (h0 : 0 ≤ c) (h1 : c < 256) : Ev (fun k => pyxref04_Value.f k a c) (vof a c) := by
  by_cases e1 : a = 1
  · subst e1
    have h := rvalue_tab1 ⟨c.toNat, by omega⟩
    simp only [show ((c.toNat : Nat) : Int) = c by omega] at h
    exact Ev.of (fun k => pyxref04_Value.mono _ _ k) h
  · by_cases e2 : a = 2
    · subst e2
      have h := rvalue_tab2 ⟨c.toNat, by omega⟩
      simp only [show ((c.toNat : Nat) : Int) = c by omega] at h
      exact Ev.of (fun k => pyxref04_Value.mono _ _ k) h
    · rw [vof_no e1 e2]
      have := rvalue_no e1 e2 c 64 (by omega)
      simpa [pyxref04_Value.f] using this
theorem vof_tab : ∀ c : Fin 256, (-1 ≤ vof 1 (c.val : Int) ∧ vof 1 (c.val : Int) < 64 ∧ -1 ≤ vof 2 (c.val : Int) ∧ vof 2 (c.val : Int) < 64) ∧ vof 1 61 = -1 ∧ vof 1 0 = -1 ∧ vof 2 0 = -1 := by decide +kernel
theorem vof_bd (a c : Int) (h0 : 0 ≤ c) (h1 : c < 256) : -1 ≤ vof a c ∧ vof a c < 64 := by
  by_cases e1 : a = 1
  · subst e1
    have h := (vof_tab ⟨c.toNat, by omega⟩).1
    simp only [show ((c.toNat : Nat) : Int) = c by omega] at h
    omega
  · by_cases e2 : a = 2
    · subst e2
      have h := (vof_tab ⟨c.toNat, by omega⟩).1
      simp only [show ((c.toNat : Nat) : Int) = c by omega] at h
      omega
    · rw [vof_no e1 e2]; omega
theorem vof_dig_tab : ∀ v : Fin 64, (vof 1 (bt (tb 1) (v.val : Int)) = (v.val : Int) ∧ vof 2 (bt (tb 2) (v.val : Int)) = (v.val : Int)) ∧ (bt (tb 1) (v.val : Int) ≠ 61 ∧ bt (tb 1) (v.val : Int) ≠ 0 ∧ bt (tb 2) (v.val : Int) ≠ 0) := by decide +kernel
theorem vof_dig {a v : Int} (ha : a = 1 ∨ a = 2) (h0 : 0 ≤ v) (h1 : v < 64) : vof a (bt (tb a) v) = v ∧ (a = 1 → bt (tb a) v ≠ 61) ∧ bt (tb a) v ≠ 0 := by
  have h := vof_dig_tab ⟨v.toNat, by omega⟩
  simp only [show ((v.toNat : Nat) : Int) = v by omega] at h
  rcases ha with rfl | rfl
  · exact ⟨h.1.1, fun _ => h.2.1, h.2.2.1⟩
  · exact ⟨h.1.2, fun h => absurd h (by decide), h.2.2.2⟩
theorem tb_size {a : Int} (ha : a = 1 ∨ a = 2) : (tb a).size = 64 := by
  rcases ha with rfl | rfl
  · exact tb_size1
  · exact tb_size2

/-! ### bits, the highest first -/
def bmN : Nat → Int → List Int
  | 0, _ => []
  | n + 1, x => (x / 2 ^ n % 2) :: bmN n x
def valM (l : List Int) (v : Int) : Int := l.foldl (fun a b => 2 * a + b) v
theorem bmN_len (n : Nat) (x : Int) : (bmN n x).length = n := by
  induction n with
  | zero => rfl
  | succ n ih => simp [bmN, ih]
theorem valM_bmN (n : Nat) : ∀ (x v : Int), valM (bmN n x) v = v * 2 ^ n + x % 2 ^ n := by
  induction n with
  | zero => intro x v; simp [bmN, valM]
  | succ n ih =>
    intro x v
    have h := ih x (2 * v + x / 2 ^ n % 2)
    simp only [bmN, valM, List.foldl_cons] at h ⊢
    rw [h, p2_succ]
    have hp := p2_pos n
    have h2 := Int.emod_add_mul_ediv x (2 ^ n)
    have h3 := Int.emod_add_mul_ediv (x / 2 ^ n) 2
    have e1 : x % (2 * 2 ^ n) = x % 2 ^ n + 2 ^ n * (x / 2 ^ n % 2) := by
      have hm := mod_p2 (x := x) n
      have e2 : x = (x % 2 ^ n + 2 ^ n * (x / 2 ^ n % 2)) + (2 * 2 ^ n) * (x / 2 ^ n / 2) := by
        have : (2 * 2 ^ n) * (x / 2 ^ n / 2) = 2 ^ n * (2 * (x / 2 ^ n / 2)) := by rw [Int.mul_comm 2, Int.mul_assoc]
        rw [this, Int.add_assoc, ← Int.mul_add, h3, h2]
      have hb : 2 ^ n * (x / 2 ^ n % 2) ≤ 2 ^ n * 1 := Int.mul_le_mul_of_nonneg_left (by omega) (by omega)
      have hb0 : 0 ≤ 2 ^ n * (x / 2 ^ n % 2) := Int.mul_nonneg (by omega) (by omega)
      conv => lhs; rw [e2]
      rw [Int.add_mul_emod_self_left, Int.emod_eq_of_lt (by omega) (by omega)]
    rw [e1, Int.add_mul, Int.mul_comm (x / 2 ^ n % 2), Int.mul_assoc, Int.mul_left_comm 2 v]
    omega
theorem bmN_add (a b : Nat) (x : Int) : bmN (a + b) x = bmN a (x / 2 ^ b) ++ bmN b x := by
  induction a with
  | zero => simp [bmN]
  | succ a ih =>
    rw [show a + 1 + b = (a + b) + 1 by omega]
    simp only [bmN, ih, List.cons_append]
    rw [Int.ediv_ediv_of_nonneg (by have := p2_pos b; omega), ← p2_add, Nat.add_comm b a]
theorem bmN_low (n : Nat) : ∀ (m : Nat) (x y : Int), n ≤ m → bmN n (x + y * 2 ^ m) = bmN n x := by
  induction n with
  | zero => intro m x y _; rfl
  | succ n ih =>
    intro m x y h
    simp only [bmN, ih m x y (by omega)]
    obtain ⟨c, rfl⟩ := Nat.exists_eq_add_of_le h
    have e : y * 2 ^ (n + 1 + c) = (2 * (y * 2 ^ c)) * 2 ^ n := by
      rw [show n + 1 + c = c + 1 + n by omega, p2_add, p2_succ, ← Int.mul_assoc, Int.mul_left_comm]
    rw [e, Int.add_mul_ediv_right _ _ (by have := p2_pos n; omega)]
    congr 1
    omega
/-- All bits of bytes. -/
def bm8 (l : List Int) : List Int := l.flatMap (bmN 8)
theorem bm8_len (l : List Int) : (bm8 l).length = 8 * l.length := by
  induction l with
  | nil => rfl
  | cons a l ih => simp [bm8, bmN_len] at ih ⊢; omega
theorem bm8_cons (a : Int) (l : List Int) : bm8 (a :: l) = bmN 8 a ++ bm8 l := by simp [bm8]
theorem bm8_append (a b : List Int) : bm8 (a ++ b) = bm8 a ++ bm8 b := by simp [bm8]
end Go.Proofs.YtnidoimhlfcifaaDoor.PB64
