/- Single bits of packings, and packings unpacked: no condition. -/
import Derived.Test.YtifejkgppdjeoaaXBits3
namespace Go.Proofs.Ytifejkgppdjeoaa.PBits
open Go.RowKit Go.Proofs.YtifejkgppdjeoaaW.PrintWords Go.Proofs.YtifejkgppdjeoaaW.PrintMore Go.Proofs.YtifejkgppdjeoaaW.Pu
set_option linter.unusedVariables false

theorem bitsN_val_pad {s : List Int} (h : IsBits s) (z : Nat) : bitsN (s.length + z) (valN s) = s ++ List.replicate z 0 := by
  have hv := valN_nonneg h
  rw [bitsN_add, bitsN_val h, Int.ediv_eq_zero_of_lt hv.1 hv.2, bitsN_zero]
theorem bits8_pk (m : Nat) : ∀ L : List Int, IsBits L → L.length ≤ 8 * m → bits8 (pk m L) = L ++ List.replicate (8 * m - L.length) 0 := by
  induction m with
  | zero =>
    intro L _ h
    have : L = [] := List.eq_nil_of_length_eq_zero (by omega)
    subst this
    rfl
  | succ m ih =>
    intro L hb h
    simp only [pk, bits8_cons]
    rw [ih _ (hb.drop 8) (by simp; omega)]
    by_cases c : 8 ≤ L.length
    · have h8 : (L.take 8).length = 8 := by simp; omega
      have h1 := bitsN_val_pad (hb.take 8) 0
      rw [h8] at h1
      rw [h1, List.replicate_zero, List.append_nil, ← List.append_assoc, List.take_append_drop, List.length_drop]
      congr 2
      omega
    · have h1 := bitsN_val_pad (hb.take 8) (8 - L.length)
      rw [List.take_of_length_le (by omega)] at h1
      rw [show L.length + (8 - L.length) = 8 by omega] at h1
      rw [List.take_of_length_le (by omega), h1, List.drop_eq_nil_of_le (by omega), List.nil_append, List.append_assoc, List.replicate_append_replicate]
      congr 2
      simp
      omega
theorem rd_bitsN : ∀ (n i : Nat) (x : Int), i < n → rd (bitsN n x) (i : Int) = x / 2 ^ i % 2 := by
  intro n
  induction n with
  | zero => intro i x h; omega
  | succ n ih =>
    intro i x h
    cases i with
    | zero => simp [bitsN, rd]
    | succ i =>
      have := ih i (x / 2) (by omega)
      rw [div_div_p2] at this
      rw [← this]
      rfl
theorem rd_append_left {a b : List Int} {i : Nat} (h : i < a.length) : rd (a ++ b) (i : Int) = rd a (i : Int) := by
  rw [rd_get h, rd_get (by simp; omega), List.getElem_append_left h]
theorem rd_append_right {a b : List Int} {i : Nat} (h : a.length ≤ i) : rd (a ++ b) (i : Int) = rd b ((i - a.length : Nat) : Int) := by
  rw [rd_nat, rd_nat, List.getD, List.getD, List.getElem?_append_right h]
theorem rd_flat (d : Nat) (hd : 0 < d) : ∀ (l : List Int) (i : Nat), i < d * l.length → rd (l.flatMap (bitsN d)) (i : Int) = rd l ((i / d : Nat) : Int) / 2 ^ (i % d) % 2 := by
  intro l
  induction l with
  | nil => intro i h; simp at h
  | cons a l ih =>
    intro i h
    rw [List.flatMap_cons]
    by_cases c : i < d
    · rw [rd_append_left (by rw [bitsN_len]; exact c), rd_bitsN _ _ _ c, Nat.div_eq_of_lt c, Nat.mod_eq_of_lt c]
      rfl
    · rw [rd_append_right (by rw [bitsN_len]; omega), bitsN_len]
      rw [List.length_cons, Nat.mul_succ] at h
      rw [ih (i - d) (by omega)]
      have h1 : (i - d) / d = i / d - 1 := by
        have := Nat.sub_mul_div i d 1
        simpa using this
      have h2 : (i - d) % d = i % d := by
        conv => rhs; rw [show i = (i - d) + d by omega]
        simp
      have h3 : 0 < i / d := Nat.div_pos (by omega) hd
      rw [h1, h2]
      obtain ⟨j, hj⟩ := Nat.exists_eq_succ_of_ne_zero (show i / d ≠ 0 by omega)
      rw [hj]
      rfl
theorem and1_u8 {x : Int} (h0 : 0 ≤ x) (h1 : x < 256) : Go.bits .and .u8 x 1 = x % 2 := bits_mask .u8 8 (by decide) wraps_u8 1 (by decide) x h0 h1
theorem and1_u32 {x : Int} (h0 : 0 ≤ x) (h1 : x < 4294967296) : Go.bits .and .u32 x 1 = x % 2 := by
  refine bits_mask .u32 32 (by decide) (fun n a b => ?_) 1 (by decide) x h0 h1
  rw [IntKind.wrap_u32]
  rw [show (2 : Int) ^ 32 = 4294967296 from rfl] at b
  omega
theorem shr_small' {k : IntKind} {x : Int} {d : Nat} (h : d ≤ k.bits) : shr k x (d : Int) = x / 2 ^ d := by
  unfold shr
  rw [show ((d : Int).toNat) = d from rfl, Nat.min_eq_left h]
theorem div_le_self' {x : Int} (h0 : 0 ≤ x) (n : Nat) : x / 2 ^ n ≤ x := Int.ediv_le_self _ h0
theorem bit_in {b : List Int} (hb : IsBytes b) (hl : b.length < 1152921504606846976) {i : Nat} (h : i < 8 * b.length) : bits_Bit.f b (i : Int) = some (rd (bits8 b) (i : Int), true) := by
  have h8 : i / 8 < b.length := by omega
  have hx := hb _ (rd_mem h8)
  have e1 : (i : Int) / 8 = ((i / 8 : Nat) : Int) := by omega
  have e2 : (i : Int) % 8 = ((i % 8 : Nat) : Int) := by omega
  have h9 := div_p2_nonneg (i % 8) hx.1
  have h10 := div_le_self' hx.1 (i % 8)
  have hf := rd_flat 8 (by omega) b i h
  have e3 : shr .u8 (rd b ((i / 8 : Nat) : Int)) ((i % 8 : Nat) : Int) = rd b ((i / 8 : Nat) : Int) / 2 ^ (i % 8) := shr_small' (by simp [IntKind.bits]; omega)
  rw [bits_Bit.f, if_neg (by omega), tdiv_nn (by omega), tmod_nn (by omega), e1, e2, w64 (x := ((i / 8 : Nat) : Int)) (by omega) (by omega), if_neg (by omega), if_pos (by omega), if_pos (by omega), if_pos (by omega), e3, and1_u8 h9 (by omega), w64 (by omega) (by omega)]
  unfold bits8
  rw [hf]
theorem bit_out {b : List Int} {i : Int} (hl : b.length < 1152921504606846976) (h : i < 0 ∨ (8 * (b.length : Int) ≤ i ∧ i < 9223372036854775808)) : bits_Bit.f b i = some (0, false) := by
  rw [bits_Bit.f]
  by_cases c : i < 0
  · rw [if_pos c]
  · rw [if_neg c, tdiv_nn (by omega), w64 (by omega) (by omega), if_pos (by omega)]
end Go.Proofs.Ytifejkgppdjeoaa.PBits
