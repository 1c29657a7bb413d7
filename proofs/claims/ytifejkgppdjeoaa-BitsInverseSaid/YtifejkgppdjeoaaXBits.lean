/- What the printed functions of the laws of bits tell, as plain lists of bits: no condition. -/
import Derived.Test.YtifejkgppdjeoaaXPure
import Derived.Test.YtifejkgppdjeoaaPBitsx
namespace Go.Proofs.Ytifejkgppdjeoaa.PBits
open Go.RowKit Go.Proofs.YtifejkgppdjeoaaW.PrintWords Go.Proofs.YtifejkgppdjeoaaW.PrintMore Go.Proofs.YtifejkgppdjeoaaW.Pu
set_option linter.unusedVariables false

/-! ### Same -/
theorem same_l (a b : List Int) (hlen : a.length = b.length) (hn : a.length < 4611686018427387904) : ∀ d i : Nat, a.length - i = d → i ≤ a.length →
    Ev (fun k => pyxref01_Same.l0 k a b (i : Int)) (decide (a.drop i = b.drop i)) := by
  intro d
  induction d with
  | zero =>
    intro i hd hi
    have e1 : a.drop i = [] := List.drop_eq_nil_of_le (by omega)
    have e2 : b.drop i = [] := List.drop_eq_nil_of_le (by omega)
    rw [e1, e2]
    exact Ev.last fun k => by rw [pyxref01_Same.l0, if_neg (by omega)]; rfl
  | succ d ih =>
    intro i hd hi
    have h1 : i < a.length := by omega
    have h2 : i < b.length := by omega
    rw [drop_rd a h1, drop_rd b h2]
    by_cases hr : rd a i = rd b i
    · rw [hr]
      have e : decide (rd b ↑i :: List.drop (i + 1) a = rd b ↑i :: List.drop (i + 1) b) = decide (a.drop (i + 1) = b.drop (i + 1)) := by simp
      rw [e]
      exact Ev.step' (ih (i + 1) (by omega) (by omega)) fun k => by rw [pyxref01_Same.l0, if_pos (by omega), if_pos (by omega), if_pos (by omega), if_pos hr, wsucc (by omega)]
    · have e : decide (rd a ↑i :: List.drop (i + 1) a = rd b ↑i :: List.drop (i + 1) b) = false := by simp [hr]
      rw [e]
      exact Ev.last fun k => by rw [pyxref01_Same.l0, if_pos (by omega), if_pos (by omega), if_pos (by omega), if_neg hr]
theorem same_ev (a b : List Int) (hn : a.length < 4611686018427387904) : Ev (fun k => pyxref01_Same.f k a b) (decide (a = b)) := by
  by_cases h : a.length = b.length
  · have := same_l a b h hn a.length 0 (by omega) (by omega)
    simp only [List.drop_zero] at this
    refine Ev.congr (fun k => ?_) this
    rw [pyxref01_Same.f, if_pos (by omega)]
    rfl
  · have e : decide (a = b) = false := by simp; intro h'; exact h (by rw [h'])
    rw [e]
    exact Ev.const' fun k => by rw [pyxref01_Same.f, if_neg (by omega)]


theorem same5_l (a b : List Int) (hlen : a.length = b.length) (hn : a.length < 4611686018427387904) : ∀ d i : Nat, a.length - i = d → i ≤ a.length →
    Ev (fun k => pyxref05_Same.l0 k a b (i : Int)) (decide (a.drop i = b.drop i)) := by
  intro d
  induction d with
  | zero =>
    intro i hd hi
    have e1 : a.drop i = [] := List.drop_eq_nil_of_le (by omega)
    have e2 : b.drop i = [] := List.drop_eq_nil_of_le (by omega)
    rw [e1, e2]
    exact Ev.last fun k => by rw [pyxref05_Same.l0, if_neg (by omega)]; rfl
  | succ d ih =>
    intro i hd hi
    have h1 : i < a.length := by omega
    have h2 : i < b.length := by omega
    rw [drop_rd a h1, drop_rd b h2]
    by_cases hr : rd a i = rd b i
    · rw [hr]
      have e : decide (rd b ↑i :: List.drop (i + 1) a = rd b ↑i :: List.drop (i + 1) b) = decide (a.drop (i + 1) = b.drop (i + 1)) := by simp
      rw [e]
      exact Ev.step' (ih (i + 1) (by omega) (by omega)) fun k => by rw [pyxref05_Same.l0, if_pos (by omega), if_pos (by omega), if_pos (by omega), if_pos hr, wsucc (by omega)]
    · have e : decide (rd a ↑i :: List.drop (i + 1) a = rd b ↑i :: List.drop (i + 1) b) = false := by simp [hr]
      rw [e]
      exact Ev.last fun k => by rw [pyxref05_Same.l0, if_pos (by omega), if_pos (by omega), if_pos (by omega), if_neg hr]
theorem same5_ev (a b : List Int) (hn : a.length < 4611686018427387904) : Ev (fun k => pyxref05_Same.f k a b) (decide (a = b)) := by
  by_cases h : a.length = b.length
  · have := same5_l a b h hn a.length 0 (by omega) (by omega)
    simp only [List.drop_zero] at this
    refine Ev.congr (fun k => ?_) this
    rw [pyxref05_Same.f, if_pos (by omega)]
    rfl
  · have e : decide (a = b) = false := by simp; intro h'; exact h (by rw [h'])
    rw [e]
    exact Ev.const' fun k => by rw [pyxref05_Same.f, if_neg (by omega)]

/-! ### Least -/
def tab : ByteArray := ⟨#[0, 1, 2, 2, 3, 3, 3, 3, 4, 4, 4, 4, 4, 4, 4, 4, 5, 5, 5, 5, 5, 5, 5, 5, 5, 5, 5, 5, 5, 5, 5, 5, 6, 6, 6, 6, 6, 6, 6, 6, 6, 6, 6, 6, 6, 6, 6, 6, 6, 6, 6, 6, 6, 6, 6, 6, 6, 6, 6, 6, 6, 6, 6, 6, 7, 7, 7, 7, 7, 7, 7, 7, 7, 7, 7, 7, 7, 7, 7, 7, 7, 7, 7, 7, 7, 7, 7, 7, 7, 7, 7, 7, 7, 7, 7, 7, 7, 7, 7, 7, 7, 7, 7, 7, 7, 7, 7, 7, 7, 7, 7, 7, 7, 7, 7, 7, 7, 7, 7, 7, 7, 7, 7, 7, 7, 7, 7, 7, 8, 8, 8, 8, 8, 8, 8, 8, 8, 8, 8, 8, 8, 8, 8, 8, 8, 8, 8, 8, 8, 8, 8, 8, 8, 8, 8, 8, 8, 8, 8, 8, 8, 8, 8, 8, 8, 8, 8, 8, 8, 8, 8, 8, 8, 8, 8, 8, 8, 8, 8, 8, 8, 8, 8, 8, 8, 8, 8, 8, 8, 8, 8, 8, 8, 8, 8, 8, 8, 8, 8, 8, 8, 8, 8, 8, 8, 8, 8, 8, 8, 8, 8, 8, 8, 8, 8, 8, 8, 8, 8, 8, 8, 8, 8, 8, 8, 8, 8, 8, 8, 8, 8, 8, 8, 8, 8, 8, 8, 8, 8, 8, 8, 8, 8, 8, 8, 8, 8, 8, 8, 8, 8, 8, 8, 8, 8, 8]⟩
theorem tab_ok : ∀ z : Fin 256, bt tab (z.val : Int) = ((bt tab (z.val : Int)).toNat : Int) ∧ (bt tab (z.val : Int)).toNat ≤ 8 ∧ (z.val : Int) < 2 ^ (bt tab (z.val : Int)).toNat ∧ (0 < (bt tab (z.val : Int)).toNat → (2 : Int) ^ ((bt tab (z.val : Int)).toNat - 1) ≤ z.val) := by decide +kernel
theorem tab_len {z : Int} (h0 : 0 ≤ z) (h1 : z < 256) : ∃ n : Nat, bt tab z = (n : Int) ∧ n ≤ 8 ∧ IsLen z n := by
  obtain ⟨a, rfl⟩ := Int.eq_ofNat_of_zero_le h0
  obtain ⟨h2, h3, h4, h5⟩ := tab_ok ⟨a, by omega⟩
  exact ⟨_, h2, h3, h4, h5⟩
theorem len32_eq (a0 : Int) : bits_Len32.f a0 = if a0 ≥ 65536 then (if (a0 / 65536) ≥ 256 then (if 0 ≤ (((a0 / 65536) / 256) % 256) then (if (((a0 / 65536) / 256) % 256) < 256 then (some (wrap64 ((16 + 8) + (wrap64 (bt tab (((a0 / 65536) / 256) % 256)))))) else (none)) else (none)) else (if 0 ≤ ((a0 / 65536) % 256) then (if ((a0 / 65536) % 256) < 256 then (some (wrap64 (16 + (wrap64 (bt tab ((a0 / 65536) % 256)))))) else (none)) else (none))) else (if a0 ≥ 256 then (if 0 ≤ ((a0 / 256) % 256) then (if ((a0 / 256) % 256) < 256 then (some (wrap64 ((0 + 8) + (wrap64 (bt tab ((a0 / 256) % 256)))))) else (none)) else (none)) else (if 0 ≤ ((a0) % 256) then (if ((a0) % 256) < 256 then (some (wrap64 (0 + (wrap64 (bt tab ((a0) % 256)))))) else (none)) else (none))) := rfl
theorem IsLen.shift {x y : Int} {n : Nat} (s : Nat) (h : IsLen y n) (hy : 0 < y) (h1 : y * 2 ^ s ≤ x) (h2 : x < (y + 1) * 2 ^ s) : IsLen x (s + n) := by
  have hn : 0 < n := by
    apply Nat.pos_of_ne_zero
    intro h0
    have := h.1
    rw [h0] at this
    simp at this
    omega
  have hs := p2_pos s
  refine ⟨?_, fun _ => ?_⟩
  · rw [p2_add, Int.mul_comm]
    exact Int.lt_of_lt_of_le h2 (Int.mul_le_mul_of_nonneg_right (by have := h.1; omega) (by omega))
  · rw [show s + n - 1 = s + (n - 1) by omega, p2_add, Int.mul_comm]
    exact Int.le_trans (Int.mul_le_mul_of_nonneg_right (h.2 hn) (by omega)) h1
theorem least_impl {x : Int} (h0 : 0 ≤ x) (h1 : x < 4294967296) : ∃ n : Nat, bits_Least.f x = some (n : Int) ∧ IsLen x n ∧ n ≤ 32 := by
  unfold bits_Least.f
  rw [len32_eq]
  by_cases c1 : x ≥ 65536
  · rw [if_pos c1]
    by_cases c2 : x / 65536 ≥ 256
    · obtain ⟨n, e, hn, hl⟩ := tab_len (z := x / 65536 / 256 % 256) (by omega) (by omega)
      rw [if_pos c2, if_pos (by omega), if_pos (by omega), e, w64 (x := (n : Int)) (by omega) (by omega), w64 (by omega) (by omega)]
      exact ⟨24 + n, by simp, IsLen.shift 24 hl (by omega) (by simp; omega) (by simp; omega), by omega⟩
    · obtain ⟨n, e, hn, hl⟩ := tab_len (z := x / 65536 % 256) (by omega) (by omega)
      rw [if_neg c2, if_pos (by omega), if_pos (by omega), e, w64 (x := (n : Int)) (by omega) (by omega), w64 (by omega) (by omega)]
      exact ⟨16 + n, by simp, IsLen.shift 16 hl (by omega) (by simp; omega) (by simp; omega), by omega⟩
  · rw [if_neg c1]
    by_cases c2 : x ≥ 256
    · obtain ⟨n, e, hn, hl⟩ := tab_len (z := x / 256 % 256) (by omega) (by omega)
      rw [if_pos c2, if_pos (by omega), if_pos (by omega), e, w64 (x := (n : Int)) (by omega) (by omega), w64 (by omega) (by omega)]
      exact ⟨8 + n, by simp, IsLen.shift 8 hl (by omega) (by simp; omega) (by simp; omega), by omega⟩
    · obtain ⟨n, e, hn, hl⟩ := tab_len (z := x % 256) (by omega) (by omega)
      rw [if_neg c2, if_pos (by omega), if_pos (by omega), e, w64 (x := (n : Int)) (by omega) (by omega), w64 (by omega) (by omega)]
      rw [show x % 256 = x by omega] at hl
      exact ⟨n, by simp, hl, by omega⟩
theorem rleast (b : Nat) : ∀ (x n0 : Int), 0 ≤ x → x < 2 ^ b → x < 4294967296 → 0 ≤ n0 → n0 + b ≤ 64 → ∃ m : Nat, m ≤ b ∧ IsLen x m ∧ Ev (fun k => pyxref05_Least.l0 k x n0) (n0 + m) := by
  induction b with
  | zero =>
    intro x n0 h0 h1 h2 h3 h4
    simp at h1
    exact ⟨0, by omega, ⟨by simp; omega, fun h => by omega⟩, Ev.last fun k => by rw [pyxref05_Least.l0, if_neg (by omega)]; simp⟩
  | succ b ih =>
    intro x n0 h0 h1 h2 h3 h4
    rw [p2_succ] at h1
    by_cases hx : x > 0
    · obtain ⟨m, hm, hl, he⟩ := ih (x / 2) (n0 + 1) (by omega) (by omega) (by omega) (by omega) (by omega)
      refine ⟨1 + m, by omega, ?_, ?_⟩
      · by_cases hy : x / 2 = 0
        · have : x = 1 := by omega
          subst this
          have h5 : m = 0 := by
            apply Classical.byContradiction
            intro h6
            have := hl.2 (by omega)
            have := p2_pos (m - 1)
            omega
          subst h5
          exact ⟨by simp, fun _ => by simp⟩
        · exact IsLen.shift 1 hl (by omega) (by simp; omega) (by simp; omega)
      · rw [show n0 + ((1 + m : Nat) : Int) = n0 + 1 + m by omega]
        exact Ev.step' he fun k => by rw [pyxref05_Least.l0, if_pos hx, tdiv_nn h0, Int.emod_eq_of_lt (by omega) (by omega), w64 (by omega) (by omega)]
    · exact ⟨0, by omega, ⟨by simp; omega, fun h => by omega⟩, Ev.last fun k => by rw [pyxref05_Least.l0, if_neg hx]; simp⟩
theorem rleast_ev {x : Int} (h0 : 0 ≤ x) (h1 : x < 4294967296) : ∃ m : Nat, m ≤ 32 ∧ IsLen x m ∧ Ev (fun k => pyxref05_Least.f k x) (m : Int) := by
  obtain ⟨m, a, b, c⟩ := rleast 32 x 0 h0 (by simpa using h1) h1 (by omega) (by omega)
  exact ⟨m, a, b, by simpa [pyxref05_Least.f] using c⟩

/-! ### packing, as lists of bits -/
/-- What Pack tells of numbers of the right count. -/
def Fits (d : Nat) (l : List Int) : Prop := ∀ x ∈ l, x < 2 ^ d
def Is32 (l : List Int) : Prop := ∀ x ∈ l, 0 ≤ x ∧ x < 4294967296
theorem or_low {n : Nat} {b x : Int} (hn : n ≤ 64) (hb0 : 0 ≤ b) (hb : b < 2 ^ n) (hx : 0 ≤ x) (hxn : x * 2 ^ n < 18446744073709551616) (hb64 : b < 18446744073709551616) : Go.bits .or .u64 b (shl .u64 x (n : Int)) = b + x * 2 ^ n := by
  have hp := p2_pos n
  have h0 : 0 ≤ x * 2 ^ n := Int.mul_nonneg hx (by omega)
  have e : shl .u64 x (n : Int) = x * 2 ^ n := by
    unfold shl
    rw [show ((n : Int).toNat) = n from rfl, Nat.min_eq_left (by simpa [IntKind.bits] using hn), wu64 h0 hxn]
  have hc : Go.bits .or .u64 b (x * 2 ^ n) = Go.bits .or .u64 (x * 2 ^ n) b := by simp only [Go.bits, BitVec.or_comm]
  rw [e, hc, bits_join .u64 64 (by decide) (fun z h1 h2 => wu64 h1 (by simpa using h2)) n (x * 2 ^ n) b h0 (by simp) (by simpa using hxn) hb0 hb (by simpa using hb64), Int.add_comm]

/-! ### the implementation's Pack -/
theorem pack_l1 (d : Int) (l x27 : List Int) (x28 x29 : Int) (hi : 0 ≤ x29) (hi2 : x29 < 4611686018427387904) : ∀ (q n : Nat) (out : List Int) (buf : Int), n ≤ 8 * q + 7 → n ≤ 64 → 0 ≤ buf → buf < 2 ^ n → IsBytes out → out.length + q < 140737488355328 →
    ∃ out' buf', ∃ n' : Nat, n' < 8 ∧ 0 ≤ buf' ∧ buf' < 2 ^ n' ∧ IsBytes out' ∧ bits8 out' ++ bitsN n' buf' = bits8 out ++ bitsN n buf ∧
      (∀ r, Ev (fun k => bits_Pack.l0 k d out' buf' (n' : Int) x27 x28 (x29 + 1)) r → Ev (fun k => bits_Pack.l1 k d out buf (n : Int) x27 x28 x29) r) := by
  intro q
  induction q with
  | zero =>
    intro n out buf h1 h2 h3 h4 h5 h6
    exact ⟨out, buf, n, by omega, h3, h4, h5, rfl, fun r h => Ev.step' h fun k => by rw [bits_Pack.l1, if_neg (by omega), w64 (by omega) (by omega)]⟩
  | succ q ih =>
    intro n out buf h1 h2 h3 h4 h5 h6
    by_cases c : 8 ≤ n
    · obtain ⟨m, rfl⟩ := Nat.exists_eq_add_of_le c
      have hp : (2 : Int) ^ (8 + m) = 256 * 2 ^ m := by rw [p2_add]; rfl
      rw [hp] at h4
      have h7 : IsBytes (out ++ [buf % 256]) := by
        intro b hb
        rcases List.mem_append.1 hb with hb | hb
        · exact h5 b hb
        · simp at hb; omega
      obtain ⟨out', buf', n', a1, a2, a3, a4, a5, a6⟩ := ih m (out ++ [buf % 256]) (buf / 256) (by omega) (by omega) (by omega) (by omega) h7 (by simp; omega)
      refine ⟨out', buf', n', a1, a2, a3, a4, ?_, fun r h => Ev.step' (a6 r h) fun k => ?_⟩
      · rw [a5, bits8_append, List.append_assoc, bitsN_add 8 m buf]
        congr 1
        have : bits8 [buf % 256] = bitsN 8 buf := by
          simp only [bits8, List.flatMap_cons, List.flatMap_nil, List.append_nil]
          have := bitsN_low 8 (buf % 256) (buf / 256)
          rw [show buf % 256 + buf / 256 * 2 ^ 8 = buf by have : (2:Int)^8 = 256 := rfl; rw [this]; omega] at this
          exact this.symm
        rw [this]
        rfl
      · rw [bits_Pack.l1, if_pos (by omega), if_pos (by omega), w64 (by omega) (by omega), show ((8 + m : Nat) : Int) - 8 = (m : Int) by omega]
    · exact ⟨out, buf, n, by omega, h3, h4, h5, rfl, fun r h => Ev.step' h fun k => by rw [bits_Pack.l1, if_neg (by omega), w64 (by omega) (by omega)]⟩
theorem pk_done {out : List Int} {n : Nat} {buf : Int} (h5 : IsBytes out) (hn : n < 8) (h0 : 0 ≤ buf) (h1 : buf < 2 ^ n) (m : Nat) (hm : m = (8 * out.length + n + 7) / 8) :
    pk m (bits8 out ++ bitsN n buf) = if n = 0 then out else out ++ [buf] := by
  by_cases c : n = 0
  · subst c
    rw [show m = out.length + 0 by omega, pk_bits8 h5]
    simp [pk]
  · rw [if_neg c, show m = out.length + 1 by omega, pk_bits8 h5]
    have h2 : (bitsN n buf).take 8 = bitsN n buf := List.take_of_length_le (by rw [bitsN_len]; omega)
    simp only [pk, h2, valN_bits n h0 h1]
theorem pack_l0 (d : Nat) (hd1 : 1 ≤ d) (hd : d ≤ 32) (l : List Int) (h32 : Is32 l) (hlen : l.length ≤ 1048576) : ∀ (m i n : Nat) (out : List Int) (buf : Int), l.length - i = m → i ≤ l.length → n < 8 → 0 ≤ buf → buf < 2 ^ n → IsBytes out → 8 * out.length + n = d * i →
    (Fits d (l.drop i) → Ev (fun k => bits_Pack.l0 k (d : Int) out buf (n : Int) l (l.length : Int) (i : Int)) (pk ((d * l.length + 7) / 8) (bits8 out ++ bitsN n buf ++ (l.drop i).flatMap (bitsN d)), true)) ∧
    (¬ Fits d (l.drop i) → Ev (fun k => bits_Pack.l0 k (d : Int) out buf (n : Int) l (l.length : Int) (i : Int)) ([], false)) := by
  intro m
  induction m with
  | zero =>
    intro i n out buf e hi hn h0 h1 h5 h6
    have e1 : l.drop i = [] := List.drop_eq_nil_of_le (by omega)
    have hil : i = l.length := by omega
    rw [e1]
    have hb : out.length ≤ 8388608 := by
      have : d * i ≤ 32 * 1048576 := Nat.mul_le_mul hd (by omega)
      omega
    refine ⟨fun _ => ?_, fun h => absurd (fun x hx => by simp at hx) h⟩
    rw [List.flatMap_nil, List.append_nil, pk_done h5 hn h0 h1 _ (by rw [h6, hil])]
    by_cases c : n = 0
    · subst c
      exact Ev.last fun k => by rw [bits_Pack.l0, if_neg (by omega), if_neg (by omega), if_pos rfl]
    · have h8 : buf < 256 := Int.lt_of_lt_of_le h1 (by have := p2_le (show n ≤ 8 by omega); simpa using this)
      exact Ev.last fun k => by rw [bits_Pack.l0, if_neg (by omega), if_pos (by omega), if_pos (by omega), if_neg c, Int.emod_eq_of_lt h0 h8]
  | succ m ih =>
    intro i n out buf e hi hn h0 h1 h5 h6
    have hlt : i < l.length := by omega
    have hx := h32 _ (rd_mem hlt)
    obtain ⟨b, eb, hbl, hb32⟩ := least_impl hx.1 hx.2
    have ho : out.length ≤ 8388608 := by
      have : d * i ≤ 32 * 1048576 := Nat.mul_le_mul hd (by omega)
      omega
    have hdrop := drop_rd l hlt
    by_cases c : b ≤ d
    · have hfit : rd l i < 2 ^ d := (hbl.le_iff d).1 c
      have hp : (2 : Int) ^ (n + d) = 2 ^ n * 2 ^ d := p2_add n d
      have hn7 : (2 : Int) ^ n ≤ 2 ^ 7 := p2_le (by omega)
      have hpn := p2_pos n
      have hprod : rd l i * 2 ^ n ≤ 4294967295 * 128 := Int.mul_le_mul (by omega) (by simpa using hn7) (by omega) (by omega)
      have hor : Go.bits .or .u64 buf (shl .u64 (IntKind.u64.wrap (rd l i)) (n : Int)) = buf + rd l i * 2 ^ n := by
        rw [wu64 hx.1 (by omega)]
        exact or_low (by omega) h0 h1 hx.1 (by omega) (by have : (2:Int)^7 = 128 := rfl; omega)
      have hnew0 : 0 ≤ buf + rd l i * 2 ^ n := by have := Int.mul_nonneg hx.1 (show (0:Int) ≤ 2 ^ n by omega); omega
      have hnew1 : buf + rd l i * 2 ^ n < 2 ^ (n + d) := by
        have : (rd l i + 1) * 2 ^ n ≤ 2 ^ d * 2 ^ n := Int.mul_le_mul_of_nonneg_right (by omega) (by omega)
        rw [hp, Int.mul_comm (2 ^ n)]
        rw [Int.add_mul] at this
        omega
      obtain ⟨out', buf', n', a1, a2, a3, a4, a5, a6⟩ := pack_l1 (d : Int) l l (l.length : Int) (i : Int) (by omega) (by omega) 4 (n + d) out (buf + rd l i * 2 ^ n) (by omega) (by omega) hnew0 hnew1 h5 (by omega)
      have hbits : bitsN (n + d) (buf + rd l i * 2 ^ n) = bitsN n buf ++ bitsN d (rd l i) := by
        rw [bitsN_add, bitsN_low, div_low n _ h0 h1]
      have hl6 : 8 * out'.length + n' = d * (i + 1) := by
        have := congrArg List.length a5
        simp only [List.length_append, bits8_len, bitsN_len] at this
        rw [Nat.mul_succ]
        omega
      obtain ⟨i1, i2⟩ := ih (i + 1) n' out' buf' (by omega) (by omega) a1 a2 a3 a4 hl6
      have step : ∀ r, Ev (fun k => bits_Pack.l0 k (d : Int) out' buf' (n' : Int) l (l.length : Int) ((i + 1 : Nat) : Int)) r → Ev (fun k => bits_Pack.l0 k (d : Int) out buf (n : Int) l (l.length : Int) (i : Int)) r := fun r h =>
        Ev.step' (a6 r (by simpa using h)) fun k => by
          rw [bits_Pack.l0, if_pos (by omega), if_pos (by omega), if_pos (by omega), eb, Option.bind_some, if_neg (by omega), if_pos (by omega), hor, w64 (by omega) (by omega), show (n : Int) + (d : Int) = ((n + d : Nat) : Int) by omega]
      have hF : Fits d (l.drop i) ↔ Fits d (l.drop (i + 1)) := by
        rw [hdrop]
        constructor
        · intro h x hx; exact h x (List.mem_cons_of_mem _ hx)
        · intro h x hx
          rcases List.mem_cons.1 hx with rfl | hx
          · exact hfit
          · exact h x hx
      refine ⟨fun h => step _ ?_, fun h => step _ (i2 (fun h' => h (hF.2 h')))⟩
      have h7 := i1 (hF.1 h)
      rw [a5, hbits] at h7
      rw [hdrop, List.flatMap_cons]
      simpa only [List.append_assoc] using h7
    · have hnf : ¬ Fits d (l.drop i) := by
        rw [hdrop]
        intro h
        have := h (rd l i) (by simp)
        exact c ((hbl.le_iff d).2 this)
      exact ⟨fun h => absurd h hnf, fun _ => Ev.last fun k => by rw [bits_Pack.l0, if_pos (by omega), if_pos (by omega), if_pos (by omega), eb, Option.bind_some, if_pos (by omega)]⟩
theorem size_ev {d n : Int} (h1 : 1 ≤ d) (h2 : d ≤ 32) (h3 : 0 ≤ n) (h4 : n ≤ 1048576) : bits_Size.f d n = some ((d * n + 7) / 8) := by
  have h5 : d * n ≤ 32 * 1048576 := Int.mul_le_mul h2 h4 (by omega) (by omega)
  have h6 : 0 ≤ d * n := Int.mul_nonneg (by omega) h3
  rw [bits_Size.f, if_neg (by omega), if_neg (by omega), if_neg (by omega), if_neg (by omega), w64 (x := d * n) (by omega) (by omega), w64 (x := d * n + 7) (by omega) (by omega), tdiv_nn (by omega), w64 (by omega) (by omega)]
theorem pack_bad {d : Int} {l : List Int} (h : d < 1 ∨ 32 < d ∨ 1048576 < l.length) : Ev (fun k => bits_Pack.f k d l) ([], false) := by
  have e : Ev (fun k => bits_Pack.j0 k d l true) ([], false) := Ev.last fun k => by rw [bits_Pack.j0, if_pos rfl]
  refine Ev.congr (fun k => ?_) e
  rw [bits_Pack.f]
  by_cases c1 : d < 1
  · rw [if_pos c1]
  · rw [if_neg c1]
    by_cases c2 : d > 32
    · rw [if_pos c2]
    · rw [if_neg c2, decide_eq_true (by omega)]
theorem pack_good {d : Nat} {l : List Int} (h1 : 1 ≤ d) (h2 : d ≤ 32) (h3 : l.length ≤ 1048576) (h32 : Is32 l) :
    (Fits d l → Ev (fun k => bits_Pack.f k (d : Int) l) (pk ((d * l.length + 7) / 8) (l.flatMap (bitsN d)), true)) ∧ (¬ Fits d l → Ev (fun k => bits_Pack.f k (d : Int) l) ([], false)) := by
  have hz := size_ev (d := (d : Int)) (n := (l.length : Int)) (by omega) (by omega) (by omega) (by omega)
  have h5 : (d : Int) * (l.length : Int) ≤ 32 * 1048576 := Int.mul_le_mul (by omega) (by omega) (by omega) (by omega)
  have h6 : 0 ≤ (d : Int) * (l.length : Int) := Int.mul_nonneg (by omega) (by omega)
  have step : ∀ r, Ev (fun k => bits_Pack.l0 k (d : Int) [] 0 0 l (l.length : Int) 0) r → Ev (fun k => bits_Pack.f k (d : Int) l) r := fun r h => by
    have e : Ev (fun k => bits_Pack.j0 k (d : Int) l false) r := Ev.step' h fun k => by
      rw [bits_Pack.j0, if_neg (by decide), hz, Option.bind_some, if_pos (by omega), if_pos (by omega)]
    refine Ev.congr (fun k => ?_) e
    rw [bits_Pack.f, if_neg (by omega), if_neg (by omega), decide_eq_false (by omega)]
  obtain ⟨a, b⟩ := pack_l0 d h1 h2 l h32 h3 l.length 0 0 [] 0 (by omega) (by omega) (by omega) (by omega) (by simp) (fun b hb => by simp at hb) (by simp)
  exact ⟨fun h => step _ (by simpa [bits8, bitsN] using a h), fun h => step _ (b h)⟩
end Go.Proofs.Ytifejkgppdjeoaa.PBits
