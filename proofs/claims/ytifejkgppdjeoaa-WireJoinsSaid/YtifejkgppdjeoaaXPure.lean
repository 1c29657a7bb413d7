/- Plain lemmas on whole numbers, lists and bits, for the pure statements of this seat's laws: no condition. -/
import Derived.Test.YtifejkgppdjeoaaWWords
import Derived.Test.YtifejkgppdjeoaaWMore
import Derived.Laws.BitsAllLaws
import Derived.Laws.Bits64
namespace Go.Proofs.YtifejkgppdjeoaaW.Pu
open Go.RowKit Go.Proofs.YtifejkgppdjeoaaW.PrintWords Go.Proofs.YtifejkgppdjeoaaW.PrintMore

theorem w64 {x : Int} (h0 : -9223372036854775808 ≤ x) (h1 : x ≤ 9223372036854775807) : wrap64 x = x := by unfold wrap64; omega
theorem wu64 {x : Int} (h0 : 0 ≤ x) (h1 : x < 18446744073709551616) : IntKind.u64.wrap x = x := by rw [IntKind.wrap_u64]; omega
theorem tdiv_nn {x y : Int} (h : 0 ≤ x) : Int.tdiv x y = x / y := Int.tdiv_eq_ediv_of_nonneg h
theorem tmod_nn {x y : Int} (h : 0 ≤ x) : Int.tmod x y = x % y := Int.tmod_eq_emod_of_nonneg h
theorem wf_i64 {x : Int} (h : (Lit.int .i64 x).wf = true) : -9223372036854775808 ≤ x ∧ x ≤ 9223372036854775807 := by
  simp only [Lit.wf, Bool.and_eq_true, decide_eq_true_eq, show IntKind.i64.min = -9223372036854775808 from rfl, show IntKind.i64.max = 9223372036854775807 from rfl] at h; omega
theorem wf_u8 {x : Int} (h : (Lit.int .u8 x).wf = true) : 0 ≤ x ∧ x < 256 := by
  simp only [Lit.wf, Bool.and_eq_true, decide_eq_true_eq, show IntKind.u8.min = 0 from rfl, show IntKind.u8.max = 255 from rfl] at h; omega
theorem wf_u16 {x : Int} (h : (Lit.int .u16 x).wf = true) : 0 ≤ x ∧ x < 65536 := by
  simp only [Lit.wf, Bool.and_eq_true, decide_eq_true_eq, show IntKind.u16.min = 0 from rfl, show IntKind.u16.max = 65535 from rfl] at h; omega
theorem wf_u32 {x : Int} (h : (Lit.int .u32 x).wf = true) : 0 ≤ x ∧ x < 4294967296 := by
  simp only [Lit.wf, Bool.and_eq_true, decide_eq_true_eq, show IntKind.u32.min = 0 from rfl, show IntKind.u32.max = 4294967295 from rfl] at h; omega
theorem wf_u64 {x : Int} (h : (Lit.int .u64 x).wf = true) : 0 ≤ x ∧ x < 18446744073709551616 := by
  simp only [Lit.wf, Bool.and_eq_true, decide_eq_true_eq, show IntKind.u64.min = 0 from rfl, show IntKind.u64.max = 18446744073709551615 from rfl] at h; omega

/-! ### powers of 2 -/
theorem p2_pos (n : Nat) : (0 : Int) < 2 ^ n := Int.pow_pos (by decide)
theorem p2_succ (n : Nat) : (2 : Int) ^ (n + 1) = 2 * 2 ^ n := by rw [Int.pow_succ, Int.mul_comm]
theorem p2_add (a b : Nat) : (2 : Int) ^ (a + b) = 2 ^ a * 2 ^ b := Int.pow_add ..
theorem p2_le {a b : Nat} (h : a ≤ b) : (2 : Int) ^ a ≤ 2 ^ b := by
  obtain ⟨c, rfl⟩ := Nat.exists_eq_add_of_le h
  rw [p2_add]
  have h1 := p2_pos a
  have h2 := p2_pos c
  calc (2 : Int) ^ a = 2 ^ a * 1 := by omega
    _ ≤ 2 ^ a * 2 ^ c := Int.mul_le_mul_of_nonneg_left (by omega) (by omega)
theorem div_p2_nonneg {x : Int} (n : Nat) (h : 0 ≤ x) : 0 ≤ x / 2 ^ n := Int.ediv_nonneg h (by have := p2_pos n; omega)
theorem mod_p2 {x : Int} (n : Nat) : 0 ≤ x % 2 ^ n ∧ x % 2 ^ n < 2 ^ n := ⟨Int.emod_nonneg _ (by have := p2_pos n; omega), Int.emod_lt_of_pos _ (p2_pos n)⟩
theorem div_div_p2 (x : Int) (a : Nat) : x / 2 / 2 ^ a = x / 2 ^ (a + 1) := by
  rw [p2_succ, Int.ediv_ediv_of_nonneg (by decide)]

/-! ### bits -/
/-- The n lowest bits of a number, the lowest one first. -/
def bitsN : Nat → Int → List Int
  | 0, _ => []
  | n + 1, x => (x % 2) :: bitsN n (x / 2)
/-- The number with these bits. -/
def valN : List Int → Int
  | [] => 0
  | b :: bs => b + 2 * valN bs
def IsBits (l : List Int) : Prop := ∀ b ∈ l, b = 0 ∨ b = 1

theorem bitsN_len (n : Nat) : ∀ x, (bitsN n x).length = n := by
  induction n with
  | zero => intro x; rfl
  | succ n ih => intro x; simp [bitsN, ih]
theorem bitsN_bits (n : Nat) : ∀ x, IsBits (bitsN n x) := by
  induction n with
  | zero => intro x b hb; simp [bitsN] at hb
  | succ n ih =>
    intro x b hb
    simp only [bitsN, List.mem_cons] at hb
    rcases hb with rfl | hb
    · omega
    · exact ih _ b hb
theorem bitsN_add (a b : Nat) : ∀ x : Int, bitsN (a + b) x = bitsN a x ++ bitsN b (x / 2 ^ a) := by
  induction a with
  | zero => intro x; simp [bitsN]
  | succ a ih =>
    intro x
    rw [show a + 1 + b = (a + b) + 1 by omega]
    simp only [bitsN, List.cons_append, ih, div_div_p2]
theorem bitsN_low (n : Nat) : ∀ x y : Int, bitsN n (x + y * 2 ^ n) = bitsN n x := by
  induction n with
  | zero => intro x y; rfl
  | succ n ih =>
    intro x y
    have e : y * 2 ^ (n + 1) = 2 * (y * 2 ^ n) := by rw [p2_succ, Int.mul_left_comm]
    simp only [bitsN]
    rw [e, show (x + 2 * (y * 2 ^ n)) / 2 = x / 2 + y * 2 ^ n by omega, ih, show (x + 2 * (y * 2 ^ n)) % 2 = x % 2 by omega]
theorem div_low (n : Nat) {x : Int} (y : Int) (h0 : 0 ≤ x) (h1 : x < 2 ^ n) : (x + y * 2 ^ n) / 2 ^ n = y := by
  rw [Int.add_mul_ediv_right _ _ (by have := p2_pos n; omega), Int.ediv_eq_zero_of_lt h0 h1, Int.zero_add]
theorem valN_nonneg : ∀ {l : List Int}, IsBits l → 0 ≤ valN l ∧ valN l < 2 ^ l.length := by
  intro l
  induction l with
  | nil => intro _; simp [valN]
  | cons b l ih =>
    intro h
    have hb := h b (by simp)
    have hl := ih (fun c hc => h c (List.mem_cons_of_mem _ hc))
    simp only [valN, List.length_cons, p2_succ]
    omega
theorem valN_bits (n : Nat) : ∀ {x : Int}, 0 ≤ x → x < 2 ^ n → valN (bitsN n x) = x := by
  induction n with
  | zero => intro x h0 h1; simp at h1; simp [bitsN, valN]; omega
  | succ n ih =>
    intro x h0 h1
    rw [p2_succ] at h1
    simp only [bitsN, valN]
    rw [ih (by omega) (by omega)]
    omega
theorem valN_bits_mod (n : Nat) : ∀ {x : Int}, valN (bitsN n x) = x % 2 ^ n := by
  induction n with
  | zero => intro x; simp [bitsN, valN]
  | succ n ih =>
    intro x
    simp only [bitsN, valN]
    rw [ih, p2_succ]
    have hp := p2_pos n
    have h1 := Int.emod_add_mul_ediv (x / 2) (2 ^ n)
    have h2 := mod_p2 (x := x / 2) n
    have h3 : x = (x % 2 + 2 * (x / 2 % 2 ^ n)) + (2 * 2 ^ n) * (x / 2 / 2 ^ n) := by rw [Int.mul_assoc]; omega
    have h4 : (x % 2 + 2 * (x / 2 % 2 ^ n)) % (2 * 2 ^ n) = x % 2 + 2 * (x / 2 % 2 ^ n) := Int.emod_eq_of_lt (by omega) (by omega)
    rw [← h4, ← Int.add_mul_emod_self_left _ _ (x / 2 / 2 ^ n), ← h3]
theorem bitsN_val : ∀ {l : List Int}, IsBits l → bitsN l.length (valN l) = l := by
  intro l
  induction l with
  | nil => intro _; rfl
  | cons b l ih =>
    intro h
    have hb := h b (by simp)
    simp only [List.length_cons, valN, bitsN]
    rw [show (b + 2 * valN l) / 2 = valN l by omega, ih (fun c hc => h c (List.mem_cons_of_mem _ hc)), show (b + 2 * valN l) % 2 = b by omega]
theorem valN_append : ∀ (a b : List Int), valN (a ++ b) = valN a + 2 ^ a.length * valN b := by
  intro a
  induction a with
  | nil => intro b; simp [valN]
  | cons x a ih =>
    intro b
    simp only [List.cons_append, valN, ih, List.length_cons, p2_succ, Int.mul_assoc]
    rw [Int.mul_add, Int.add_assoc]
theorem valN_zeros (m : Nat) : valN (List.replicate m 0) = 0 := by
  induction m with
  | zero => rfl
  | succ m ih => simp [List.replicate_succ, valN, ih]
theorem valN_pad (a : List Int) (m : Nat) : valN (a ++ List.replicate m 0) = valN a := by rw [valN_append, valN_zeros]; simp
theorem bitsN_zero (n : Nat) : bitsN n 0 = List.replicate n 0 := by
  induction n with
  | zero => rfl
  | succ n ih => simp [bitsN, ih, List.replicate_succ]
theorem bitsN_inj {n : Nat} {x y : Int} (hx0 : 0 ≤ x) (hx : x < 2 ^ n) (hy0 : 0 ≤ y) (hy : y < 2 ^ n) (h : bitsN n x = bitsN n y) : x = y := by
  rw [← valN_bits n hx0 hx, h, valN_bits n hy0 hy]

/-! ### lists of bytes as bits -/
def bits8 (l : List Int) : List Int := l.flatMap (bitsN 8)
def IsBytes (l : List Int) : Prop := ∀ b ∈ l, 0 ≤ b ∧ b < 256
theorem bits8_len (l : List Int) : (bits8 l).length = 8 * l.length := by
  induction l with
  | nil => rfl
  | cons a l ih => simp [bits8, bitsN_len] at ih ⊢; omega
theorem bits8_append (a b : List Int) : bits8 (a ++ b) = bits8 a ++ bits8 b := by simp [bits8]
theorem bits8_cons (a : Int) (b : List Int) : bits8 (a :: b) = bitsN 8 a ++ bits8 b := by simp [bits8]
theorem flat_bits (d : Nat) (l : List Int) : IsBits (l.flatMap (bitsN d)) := by
  intro b hb
  obtain ⟨a, _, h⟩ := List.mem_flatMap.1 hb
  exact bitsN_bits _ _ b h
theorem flat_len (d : Nat) (l : List Int) : (l.flatMap (bitsN d)).length = d * l.length := by
  induction l with
  | nil => simp
  | cons a l ih => simp [bitsN_len, ih, Nat.mul_succ]; omega
/-- The m bytes of a list of bits (what is missing at the end is 0). -/
def pk : Nat → List Int → List Int
  | 0, _ => []
  | m + 1, l => valN (l.take 8) :: pk m (l.drop 8)
theorem pk_len (m : Nat) : ∀ l, (pk m l).length = m := by
  induction m with
  | zero => intro l; rfl
  | succ m ih => intro l; simp [pk, ih]
theorem IsBits.take {l : List Int} (h : IsBits l) (n : Nat) : IsBits (l.take n) := fun b hb => h b (List.mem_of_mem_take hb)
theorem IsBits.drop {l : List Int} (h : IsBits l) (n : Nat) : IsBits (l.drop n) := fun b hb => h b (List.mem_of_mem_drop hb)
theorem pk_bytes (m : Nat) : ∀ {l}, IsBits l → IsBytes (pk m l) := by
  induction m with
  | zero => intro l h b hb; simp [pk] at hb
  | succ m ih =>
    intro l h b hb
    simp only [pk, List.mem_cons] at hb
    rcases hb with rfl | hb
    · have := valN_nonneg (h.take 8)
      have h2 : (l.take 8).length ≤ 8 := List.length_take_le _ _
      have h3 := p2_le h2
      rw [show (2 : Int) ^ 8 = 256 from rfl] at h3
      omega
    · exact ih (h.drop 8) b hb
theorem pk_cons (m : Nat) {c : Int} (l : List Int) (h0 : 0 ≤ c) (h1 : c < 256) : pk (m + 1) (bitsN 8 c ++ l) = c :: pk m l := by
  have h8 : (bitsN 8 c).length = 8 := bitsN_len 8 c
  simp only [pk]
  rw [List.take_left' h8, List.drop_left' h8, valN_bits 8 h0 (by simpa using h1)]
theorem pk_bits8 : ∀ {l : List Int}, IsBytes l → ∀ (m : Nat) (r : List Int), pk (l.length + m) (bits8 l ++ r) = l ++ pk m r := by
  intro l
  induction l with
  | nil => intro _ m r; simp [bits8]
  | cons a l ih =>
    intro h m r
    have ha := h a (by simp)
    rw [show (a :: l).length + m = (l.length + m) + 1 by simp; omega, bits8_cons, List.append_assoc, pk_cons _ _ ha.1 ha.2, ih (fun b hb => h b (List.mem_cons_of_mem _ hb))]
    rfl
theorem take_pad (l : List Int) (m n : Nat) : ∃ k, (l ++ List.replicate m 0).take n = l.take n ++ List.replicate k 0 := by
  refine ⟨min (n - l.length) m, ?_⟩
  rw [List.take_append, List.take_replicate]
theorem drop_pad (l : List Int) (m n : Nat) : ∃ k, (l ++ List.replicate m 0).drop n = l.drop n ++ List.replicate k 0 := by
  refine ⟨m - (n - l.length), ?_⟩
  rw [List.drop_append, List.drop_replicate]
theorem pk_pad (m : Nat) : ∀ (l : List Int) (z : Nat), pk m (l ++ List.replicate z 0) = pk m l := by
  induction m with
  | zero => intro l z; rfl
  | succ m ih =>
    intro l z
    simp only [pk]
    obtain ⟨k, hk⟩ := take_pad l z 8
    obtain ⟨k', hk'⟩ := drop_pad l z 8
    rw [hk, hk', valN_pad, ih]
theorem zeros_of {l : List Int} (h : ∀ b ∈ l, b = 0) : l = List.replicate l.length 0 := List.eq_replicate_iff.2 ⟨rfl, h⟩

/-! ### the length of a number in bits -/
def IsLen (x : Int) (n : Nat) : Prop := x < 2 ^ n ∧ (0 < n → 2 ^ (n - 1) ≤ x)
theorem IsLen.le_iff {x : Int} {n : Nat} (h : IsLen x n) (d : Nat) : n ≤ d ↔ x < 2 ^ d := by
  constructor
  · intro hd
    have := p2_le hd
    have := h.1
    omega
  · intro hx
    apply Classical.byContradiction
    intro hn
    have h1 := h.2 (by omega)
    have h2 : (2 : Int) ^ d ≤ 2 ^ (n - 1) := p2_le (by omega)
    omega
theorem IsLen.unique {x : Int} {n m : Nat} (h : IsLen x n) (k : IsLen x m) : n = m :=
  Nat.le_antisymm ((h.le_iff m).2 k.1) ((k.le_iff n).2 h.1)

/-! ### shifts and masks by known counts -/
theorem shr_nat {k : IntKind} {x : Int} {d : Nat} (h : d ≤ k.bits) : shr k x (d : Int) = x / 2 ^ d := by
  unfold shr
  rw [show ((d : Int).toNat) = d from rfl, Nat.min_eq_left h]
theorem i64_in63 {n : Int} (a : 0 ≤ n) (b : n < 2 ^ 63) : IntKind.i64.wrap n = n := by
  rw [IntKind.wrap_i64]
  rw [show (2 : Int) ^ 63 = 9223372036854775808 from rfl] at b
  omega
theorem and1_i64 {x : Int} (h0 : 0 ≤ x) (h1 : x < 9223372036854775808) : Go.bits .and .i64 x 1 = x % 2 := bits_mask .i64 63 (by decide) (fun _ a b => i64_in63 a b) 1 (by decide) x h0 (by simpa using h1)
theorem or_i64 {n : Nat} {x v : Int} (hx : 0 ≤ x) (hv0 : 0 ≤ v) (hv : v < 2 ^ n) (hs : x * 2 ^ n < 9223372036854775808) (hv2 : v < 9223372036854775808) : Go.bits .or .i64 (x * 2 ^ n) v = x * 2 ^ n + v :=
  bits_join .i64 63 (by decide) (fun _ a b => i64_in63 a b) n (x * 2 ^ n) v (Int.mul_nonneg hx (by have := p2_pos n; omega)) (by simp) (by simpa using hs) hv0 hv (by simpa using hv2)
theorem and_mask_i64 {m : Nat} {x : Int} (hm : m ≤ 62) (h0 : 0 ≤ x) (h1 : x < 9223372036854775808) : Go.bits .and .i64 x (wrap64 ((shl .i64 1 (m : Int)) - 1)) = x % 2 ^ m := by
  have hp := p2_pos m
  have hl : (2 : Int) ^ m ≤ 2 ^ 62 := p2_le hm
  rw [show (2 : Int) ^ 62 = 4611686018427387904 from rfl] at hl
  have e : shl .i64 1 (m : Int) = 2 ^ m := by
    unfold shl
    rw [show ((m : Int).toNat) = m from rfl, Nat.min_eq_left (by simp [IntKind.bits]; omega), Int.one_mul]
    exact i64_in63 (by omega) (by rw [show (2 : Int) ^ 63 = 9223372036854775808 from rfl]; omega)
  rw [e, w64 (by omega) (by omega), bits_mask .i64 63 (by decide) (fun _ a b => i64_in63 a b) m (by omega) x h0 (by simpa using h1)]

/-! ### reads -/
theorem rd_nat (l : List Int) (i : Nat) : rd l (i : Int) = l.getD i 0 := rfl
theorem rd_get {l : List Int} {i : Nat} (h : i < l.length) : rd l (i : Int) = l[i] := by rw [rd_nat, List.getD, List.getElem?_eq_getElem h]; rfl
theorem drop_rd (l : List Int) {i : Nat} (h : i < l.length) : l.drop i = rd l (i : Int) :: l.drop (i + 1) := by
  rw [List.drop_eq_getElem_cons h, rd_get h]
theorem rd_mem {l : List Int} {i : Nat} (h : i < l.length) : rd l (i : Int) ∈ l := by
  rw [rd_get h]
  exact List.getElem_mem h
theorem wsucc {j : Nat} (h : j < 4611686018427387904) : wrap64 ((j : Int) + 1) = ((j + 1 : Nat) : Int) := by rw [w64 (by omega) (by omega)]; rfl

/-! ### rounds -/
theorem Ev.step' {α : Type} {g f : Nat → Option α} {r : α} (k : Ev f r) (h : ∀ k, g (k + 1) = f k) : Ev g r := Ev.step h k
theorem Ev.const {α : Type} {x : Option α} {r : α} (h : x = some r) : Ev (fun _ => x) r := ⟨0, fun _ _ => h⟩
theorem Ev.const' {α : Type} {g : Nat → Option α} {r : α} (h : ∀ k, g k = some r) : Ev g r := ⟨0, fun k _ => h k⟩
theorem Ev.last {α : Type} {g : Nat → Option α} {r : α} (h : ∀ k, g (k + 1) = some r) : Ev g r := Ev.step h (Ev.now r)
end Go.Proofs.YtifejkgppdjeoaaW.Pu
