/- cbor: heads and leaves, what they are as plain lists; plain lemmas, no condition. -/
import Derived.Test.YthdjmojpnimhjaaDoorZPCbix9
import Derived.Test.YthdjmojpnimhjaaDoorZPCbix15
import Derived.Test.YthdjmojpnimhjaaDoorZPCbix16
import Derived.Test.YthdjmojpnimhjaaDoorZPCbix6
import Derived.Test.YthdjmojpnimhjaaDoorZXPure
namespace Go.Proofs.YthdjmojpnimhjaaDoor.PCbi
open Go.RowKit Go.Proofs.YthdjmojpnimhjaaDoorW.PrintWords Go.Proofs.YthdjmojpnimhjaaDoorW.PrintLast Go.Proofs.YthdjmojpnimhjaaDoorW.PrintMore Go.Proofs.YthdjmojpnimhjaaDoorW.Pu
set_option linter.unusedVariables false
set_option linter.unusedSimpArgs false
theorem shr_lit (n : Int) (d : Nat) (h : d ≤ 64) : shr .u64 n (d : Int) = n / 2 ^ d := shr_nat (k := .u64) h
theorem or5 : ((List.range 6).all fun t => (List.range 32).all fun c => Go.bits .or .u8 (wrap64 ((t : Int) * 32) % 256) (c : Int) == (t : Int) * 32 + (c : Int)) = true := by kernel_rfl
theorem or_head (t c : Int) (ht : 0 ≤ t ∧ t ≤ 5) (hc : 0 ≤ c ∧ c < 32) : Go.bits .or .u8 (wrap64 (t * 32) % 256) c = t * 32 + c := by
  have h1 := List.all_eq_true.1 or5 t.toNat (List.mem_range.2 (by omega))
  have h2 := beq_iff_eq.1 (List.all_eq_true.1 h1 c.toNat (List.mem_range.2 (by omega)))
  rwa [Int.toNat_of_nonneg ht.1, Int.toNat_of_nonneg hc.1] at h2
def hs (t n : Int) : List Int := if n < 24 then [t * 32 + n] else if n < 256 then [t * 32 + 24, n % 256] else if n < 65536 then [t * 32 + 25, n / 256 % 256, n % 256] else if n < 4294967296 then [t * 32 + 26, n / 16777216 % 256, n / 65536 % 256, n / 256 % 256, n % 256] else [t * 32 + 27, n / 72057594037927936 % 256, n / 281474976710656 % 256, n / 1099511627776 % 256, n / 4294967296 % 256, n / 16777216 % 256, n / 65536 % 256, n / 256 % 256, n % 256]
theorem put_step (k : Nat) (s n : Int) (l : List Int) (m i q : Int) (hi : 0 ≤ i) (him : i < m) (hl : (l.length : Int) = m) (hs : 0 ≤ s ∧ s ≤ 8) (his : i < s) (e : n / 2 ^ (8 * (s - 1 - i)).toNat % 256 = q) :
    wire_Put.l0 (k + 1) s n l m i = wire_Put.l0 k s n (l.set i.toNat q) m (i + 1) := by
  have w1 : wrap64 (s - 1) = s - 1 := w64 (by omega) (by omega)
  have w2 : wrap64 (s - 1 - i) = s - 1 - i := w64 (by omega) (by omega)
  have w3 : wrap64 (8 * (s - 1 - i)) = 8 * (s - 1 - i) := w64 (by omega) (by omega)
  have w4 : wrap64 (i + 1) = i + 1 := w64 (by omega) (by omega)
  have e2 : shr .u64 n (8 * (s - 1 - i)) = n / 2 ^ (8 * (s - 1 - i)).toNat := by
    have h_ := shr_lit n (8 * (s - 1 - i)).toNat (by omega)
    rwa [Int.toNat_of_nonneg (by omega)] at h_
  rw [wire_Put.l0, if_pos him, w1, w2, w3, w4, if_pos (by omega), if_pos hi, if_pos (by omega), e2, e]
theorem put_end (k : Nat) (s n : Int) (l : List Int) (m i : Int) (h : ¬ i < m) : wire_Put.l0 (k + 1) s n l m i = some (l, true) := by rw [wire_Put.l0, if_neg h]
theorem put_at (k : Nat) (s n : Int) (hs : s = 1 ∨ s = 2 ∨ s = 4) : wire_Put.f k s n = wire_Put.j0 k s n (decide (n / 2 ^ (8 * s).toNat > 0)) := by
  have e : wrap64 (8 * s) = 8 * s := w64 (by omega) (by omega)
  have e2 : shr .u64 n (8 * s) = n / 2 ^ (8 * s).toNat := by
    have h_ := shr_lit n (8 * s).toNat (by omega)
    rwa [Int.toNat_of_nonneg (by omega)] at h_
  have e3 : wire_width.f s = some true := by rcases hs with rfl | rfl | rfl <;> rfl
  unfold wire_Put.f
  rw [e3, Option.bind_some, if_pos rfl, if_pos (by omega), e, if_pos (by omega), e2]
theorem put_no (k : Nat) (s n : Int) (hs : s = 1 ∨ s = 2 ∨ s = 4) (h : n / 2 ^ (8 * s).toNat > 0) : wire_Put.f (k + 1) s n = some ([], false) := by
  rw [put_at _ _ _ hs, decide_eq_true h, wire_Put.j0, if_pos rfl]
theorem put_j (k : Nat) (s n : Int) (h : 0 ≤ s ∧ s ≤ 8) : wire_Put.j0 (k + 1) s n false = wire_Put.l0 k s n (List.replicate s.toNat 0) ((List.replicate s.toNat (0 : Int)).length : Int) 0 := by
  rw [wire_Put.j0, if_neg (by decide), if_pos h.1, if_pos (by omega), Option.bind_some]
theorem put_1 (k : Nat) (n : Int) (h0 : 0 ≤ n) (h : n < 256) : wire_Put.f (k + 3) 1 n = some ([n % 256], true) := by
  rw [put_at _ _ _ (by decide), decide_eq_false (show ¬ n / 2 ^ (8 * 1 : Int).toNat > 0 by rw [show (2 : Int) ^ (8 * 1 : Int).toNat = 256 from rfl]; omega)]
  rw [show wire_Put.j0 (k + 3) 1 n false = wire_Put.l0 (k + 2) 1 n [0] 1 0 from put_j (k + 2) 1 n (by decide)]
  rw [put_step _ 1 n [0] 1 0 (n % 256) (by decide) (by decide) (by rfl) (by decide) (by decide) (by simp)]
  rw [show ([0] : List Int).set (0 : Int).toNat (n % 256) = [n % 256] from rfl, show ((0 : Int) + 1) = 1 from rfl]
  rw [put_end _ _ _ _ _ _ (by decide)]
theorem put_2 (k : Nat) (n : Int) (h0 : 0 ≤ n) (h : n < 65536) : wire_Put.f (k + 4) 2 n = some ([n / 256 % 256, n % 256], true) := by
  rw [put_at _ _ _ (by decide), decide_eq_false (show ¬ n / 2 ^ (8 * 2 : Int).toNat > 0 by rw [show (2 : Int) ^ (8 * 2 : Int).toNat = 65536 from rfl]; omega)]
  rw [show wire_Put.j0 (k + 4) 2 n false = wire_Put.l0 (k + 3) 2 n [0, 0] 2 0 from put_j (k + 3) 2 n (by decide)]
  rw [put_step _ 2 n [0, 0] 2 0 (n / 256 % 256) (by decide) (by decide) (by rfl) (by decide) (by decide) (by rfl)]
  rw [show ([0, 0] : List Int).set (0 : Int).toNat (n / 256 % 256) = [n / 256 % 256, 0] from rfl, show ((0 : Int) + 1) = 1 from rfl]
  rw [put_step _ 2 n [n / 256 % 256, 0] 2 1 (n % 256) (by decide) (by decide) (by rfl) (by decide) (by decide) (by simp)]
  rw [show ([n / 256 % 256, 0] : List Int).set (1 : Int).toNat (n % 256) = [n / 256 % 256, n % 256] from rfl, show ((1 : Int) + 1) = 2 from rfl]
  rw [put_end _ _ _ _ _ _ (by decide)]
theorem put_4 (k : Nat) (n : Int) (h0 : 0 ≤ n) (h : n < 4294967296) : wire_Put.f (k + 6) 4 n = some ([n / 16777216 % 256, n / 65536 % 256, n / 256 % 256, n % 256], true) := by
  rw [put_at _ _ _ (by decide), decide_eq_false (show ¬ n / 2 ^ (8 * 4 : Int).toNat > 0 by rw [show (2 : Int) ^ (8 * 4 : Int).toNat = 4294967296 from rfl]; omega)]
  rw [show wire_Put.j0 (k + 6) 4 n false = wire_Put.l0 (k + 5) 4 n [0, 0, 0, 0] 4 0 from put_j (k + 5) 4 n (by decide)]
  rw [put_step _ 4 n [0, 0, 0, 0] 4 0 (n / 16777216 % 256) (by decide) (by decide) (by rfl) (by decide) (by decide) (by rfl)]
  rw [show ([0, 0, 0, 0] : List Int).set (0 : Int).toNat (n / 16777216 % 256) = [n / 16777216 % 256, 0, 0, 0] from rfl, show ((0 : Int) + 1) = 1 from rfl]
  rw [put_step _ 4 n [n / 16777216 % 256, 0, 0, 0] 4 1 (n / 65536 % 256) (by decide) (by decide) (by rfl) (by decide) (by decide) (by rfl)]
  rw [show ([n / 16777216 % 256, 0, 0, 0] : List Int).set (1 : Int).toNat (n / 65536 % 256) = [n / 16777216 % 256, n / 65536 % 256, 0, 0] from rfl, show ((1 : Int) + 1) = 2 from rfl]
  rw [put_step _ 4 n [n / 16777216 % 256, n / 65536 % 256, 0, 0] 4 2 (n / 256 % 256) (by decide) (by decide) (by rfl) (by decide) (by decide) (by rfl)]
  rw [show ([n / 16777216 % 256, n / 65536 % 256, 0, 0] : List Int).set (2 : Int).toNat (n / 256 % 256) = [n / 16777216 % 256, n / 65536 % 256, n / 256 % 256, 0] from rfl, show ((2 : Int) + 1) = 3 from rfl]
  rw [put_step _ 4 n [n / 16777216 % 256, n / 65536 % 256, n / 256 % 256, 0] 4 3 (n % 256) (by decide) (by decide) (by rfl) (by decide) (by decide) (by simp)]
  rw [show ([n / 16777216 % 256, n / 65536 % 256, n / 256 % 256, 0] : List Int).set (3 : Int).toNat (n % 256) = [n / 16777216 % 256, n / 65536 % 256, n / 256 % 256, n % 256] from rfl, show ((3 : Int) + 1) = 4 from rfl]
  rw [put_end _ _ _ _ _ _ (by decide)]
theorem put_8 (k : Nat) (n : Int) (h0 : 0 ≤ n) : wire_Put.f (k + 10) 8 n = some ([n / 72057594037927936 % 256, n / 281474976710656 % 256, n / 1099511627776 % 256, n / 4294967296 % 256, n / 16777216 % 256, n / 65536 % 256, n / 256 % 256, n % 256], true) := by
  rw [show wire_Put.f (k + 10) 8 n = wire_Put.j0 (k + 10) 8 n false by unfold wire_Put.f; rw [show wire_width.f 8 = some true from rfl, Option.bind_some, if_pos rfl, if_neg (by decide)]]
  rw [show wire_Put.j0 (k + 10) 8 n false = wire_Put.l0 (k + 9) 8 n [0, 0, 0, 0, 0, 0, 0, 0] 8 0 from put_j (k + 9) 8 n (by decide)]
  rw [put_step _ 8 n [0, 0, 0, 0, 0, 0, 0, 0] 8 0 (n / 72057594037927936 % 256) (by decide) (by decide) (by rfl) (by decide) (by decide) (by rfl)]
  rw [show ([0, 0, 0, 0, 0, 0, 0, 0] : List Int).set (0 : Int).toNat (n / 72057594037927936 % 256) = [n / 72057594037927936 % 256, 0, 0, 0, 0, 0, 0, 0] from rfl, show ((0 : Int) + 1) = 1 from rfl]
  rw [put_step _ 8 n [n / 72057594037927936 % 256, 0, 0, 0, 0, 0, 0, 0] 8 1 (n / 281474976710656 % 256) (by decide) (by decide) (by rfl) (by decide) (by decide) (by rfl)]
  rw [show ([n / 72057594037927936 % 256, 0, 0, 0, 0, 0, 0, 0] : List Int).set (1 : Int).toNat (n / 281474976710656 % 256) = [n / 72057594037927936 % 256, n / 281474976710656 % 256, 0, 0, 0, 0, 0, 0] from rfl, show ((1 : Int) + 1) = 2 from rfl]
  rw [put_step _ 8 n [n / 72057594037927936 % 256, n / 281474976710656 % 256, 0, 0, 0, 0, 0, 0] 8 2 (n / 1099511627776 % 256) (by decide) (by decide) (by rfl) (by decide) (by decide) (by rfl)]
  rw [show ([n / 72057594037927936 % 256, n / 281474976710656 % 256, 0, 0, 0, 0, 0, 0] : List Int).set (2 : Int).toNat (n / 1099511627776 % 256) = [n / 72057594037927936 % 256, n / 281474976710656 % 256, n / 1099511627776 % 256, 0, 0, 0, 0, 0] from rfl, show ((2 : Int) + 1) = 3 from rfl]
  rw [put_step _ 8 n [n / 72057594037927936 % 256, n / 281474976710656 % 256, n / 1099511627776 % 256, 0, 0, 0, 0, 0] 8 3 (n / 4294967296 % 256) (by decide) (by decide) (by rfl) (by decide) (by decide) (by rfl)]
  rw [show ([n / 72057594037927936 % 256, n / 281474976710656 % 256, n / 1099511627776 % 256, 0, 0, 0, 0, 0] : List Int).set (3 : Int).toNat (n / 4294967296 % 256) = [n / 72057594037927936 % 256, n / 281474976710656 % 256, n / 1099511627776 % 256, n / 4294967296 % 256, 0, 0, 0, 0] from rfl, show ((3 : Int) + 1) = 4 from rfl]
  rw [put_step _ 8 n [n / 72057594037927936 % 256, n / 281474976710656 % 256, n / 1099511627776 % 256, n / 4294967296 % 256, 0, 0, 0, 0] 8 4 (n / 16777216 % 256) (by decide) (by decide) (by rfl) (by decide) (by decide) (by rfl)]
  rw [show ([n / 72057594037927936 % 256, n / 281474976710656 % 256, n / 1099511627776 % 256, n / 4294967296 % 256, 0, 0, 0, 0] : List Int).set (4 : Int).toNat (n / 16777216 % 256) = [n / 72057594037927936 % 256, n / 281474976710656 % 256, n / 1099511627776 % 256, n / 4294967296 % 256, n / 16777216 % 256, 0, 0, 0] from rfl, show ((4 : Int) + 1) = 5 from rfl]
  rw [put_step _ 8 n [n / 72057594037927936 % 256, n / 281474976710656 % 256, n / 1099511627776 % 256, n / 4294967296 % 256, n / 16777216 % 256, 0, 0, 0] 8 5 (n / 65536 % 256) (by decide) (by decide) (by rfl) (by decide) (by decide) (by rfl)]
  rw [show ([n / 72057594037927936 % 256, n / 281474976710656 % 256, n / 1099511627776 % 256, n / 4294967296 % 256, n / 16777216 % 256, 0, 0, 0] : List Int).set (5 : Int).toNat (n / 65536 % 256) = [n / 72057594037927936 % 256, n / 281474976710656 % 256, n / 1099511627776 % 256, n / 4294967296 % 256, n / 16777216 % 256, n / 65536 % 256, 0, 0] from rfl, show ((5 : Int) + 1) = 6 from rfl]
  rw [put_step _ 8 n [n / 72057594037927936 % 256, n / 281474976710656 % 256, n / 1099511627776 % 256, n / 4294967296 % 256, n / 16777216 % 256, n / 65536 % 256, 0, 0] 8 6 (n / 256 % 256) (by decide) (by decide) (by rfl) (by decide) (by decide) (by rfl)]
  rw [show ([n / 72057594037927936 % 256, n / 281474976710656 % 256, n / 1099511627776 % 256, n / 4294967296 % 256, n / 16777216 % 256, n / 65536 % 256, 0, 0] : List Int).set (6 : Int).toNat (n / 256 % 256) = [n / 72057594037927936 % 256, n / 281474976710656 % 256, n / 1099511627776 % 256, n / 4294967296 % 256, n / 16777216 % 256, n / 65536 % 256, n / 256 % 256, 0] from rfl, show ((6 : Int) + 1) = 7 from rfl]
  rw [put_step _ 8 n [n / 72057594037927936 % 256, n / 281474976710656 % 256, n / 1099511627776 % 256, n / 4294967296 % 256, n / 16777216 % 256, n / 65536 % 256, n / 256 % 256, 0] 8 7 (n % 256) (by decide) (by decide) (by rfl) (by decide) (by decide) (by simp)]
  rw [show ([n / 72057594037927936 % 256, n / 281474976710656 % 256, n / 1099511627776 % 256, n / 4294967296 % 256, n / 16777216 % 256, n / 65536 % 256, n / 256 % 256, 0] : List Int).set (7 : Int).toNat (n % 256) = [n / 72057594037927936 % 256, n / 281474976710656 % 256, n / 1099511627776 % 256, n / 4294967296 % 256, n / 16777216 % 256, n / 65536 % 256, n / 256 % 256, n % 256] from rfl, show ((7 : Int) + 1) = 8 from rfl]
  rw [put_end _ _ _ _ _ _ (by decide)]
theorem head_eq (k : Nat) (t n : Int) (ht : 0 ≤ t ∧ t ≤ 5) (h0 : 0 ≤ n) : cbor_head.f (k + 12) t n = some (hs t n) := by
  unfold cbor_head.f hs
  by_cases c1 : n < 24
  · rw [if_pos c1, if_pos c1, show n % 256 = n by omega, or_head t n ht (by omega)]
  rw [if_neg c1, if_neg c1, cbor_head.g]
  by_cases c2 : n < 256
  · rw [if_pos c2, show k + 12 = (k + 9) + 3 from rfl, put_1 (k + 9) n h0 c2, Option.bind_some, if_pos rfl, if_pos (by simp), or_head t (24 + 0) ht (by omega)]
    rfl
  rw [if_neg c2, show k + 12 = (k + 11) + 1 from rfl, put_no (k + 11) 1 n (by decide) (by rw [show (2 : Int) ^ (8 * 1 : Int).toNat = 256 from rfl]; omega), Option.bind_some, if_neg (by decide), cbor_head.g]
  by_cases c3 : n < 65536
  · rw [if_pos c3, show k + 11 + 1 = (k + 8) + 4 from rfl, put_2 (k + 8) n h0 c3, Option.bind_some, if_pos rfl, if_pos (by simp), or_head t (24 + (0 + 1)) ht (by omega)]
    rfl
  rw [if_neg c3, put_no (k + 11) 2 n (by decide) (by rw [show (2 : Int) ^ (8 * 2 : Int).toNat = 65536 from rfl]; omega), Option.bind_some, if_neg (by decide), cbor_head.g]
  by_cases c4 : n < 4294967296
  · rw [if_pos c4, show k + 11 + 1 = (k + 6) + 6 from rfl, put_4 (k + 6) n h0 c4, Option.bind_some, if_pos rfl, if_pos (by simp), or_head t (24 + (0 + 1 + 1)) ht (by omega)]
    rfl
  rw [if_neg c4, put_no (k + 11) 4 n (by decide) (by rw [show (2 : Int) ^ (8 * 4 : Int).toNat = 4294967296 from rfl]; omega), Option.bind_some, if_neg (by decide), cbor_head.g]
  rw [show k + 11 + 1 = (k + 2) + 10 from rfl, put_8 (k + 2) n h0, Option.bind_some, if_pos rfl, if_pos (by simp), or_head t (24 + (0 + 1 + 1 + 1)) ht (by omega)]
  rfl
theorem rhead_step (k : Nat) (n : Int) (l : List Int) (i q : Int) (hi : 0 ≤ i ∧ i ≤ 7) (hl : l.length < 1000) (e : n / 2 ^ (8 * i).toNat % 256 = q) : pyxref10_Head.l0 (k + 1) n l i = pyxref10_Head.l0 k n (l ++ [q]) (i - 1) := by
  have w1 : wrap64 (8 * i) = 8 * i := w64 (by omega) (by omega)
  have w2 : IntKind.u64.wrap (8 * i) = 8 * i := wu64 (by omega) (by omega)
  have w3 : wrap64 (i - 1) = i - 1 := w64 (by omega) (by omega)
  have e2 : shr .u64 n (8 * i) = n / 2 ^ (8 * i).toNat := by
    have h_ := shr_lit n (8 * i).toNat (by omega)
    rwa [Int.toNat_of_nonneg (by omega)] at h_
  rw [pyxref10_Head.l0, if_pos hi.1, w1, w2, w3, if_pos (by omega), if_pos (by omega), e2, e]
theorem rhead_end (k : Nat) (n : Int) (l : List Int) : pyxref10_Head.l0 (k + 1) n l (-1) = some l := by rw [pyxref10_Head.l0, if_neg (by decide)]
theorem rhead_j (k : Nat) (t n s c : Int) (ht : 0 ≤ t ∧ t ≤ 5) (hs : 0 ≤ s ∧ s ≤ 8) (hc : 0 ≤ c ∧ c < 32) : pyxref10_Head.j0 (k + 1) t n s c = pyxref10_Head.l0 k n [t * 32 + c] (s - 1) := by
  rw [pyxref10_Head.j0, w64 (x := 32 * t) (by omega) (by omega), w64 (x := 32 * t + c) (by omega) (by omega), w64 (x := s - 1) (by omega) (by omega), show (32 * t + c) % 256 = t * 32 + c by omega]
theorem rhead_eq (k : Nat) (t n : Int) (ht : 0 ≤ t ∧ t ≤ 5) (h0 : 0 ≤ n) (h1 : n < 18446744073709551616) : pyxref10_Head.f (k + 12) t n = some (hs t n) := by
  unfold pyxref10_Head.f hs
  by_cases c1 : n < 24
  · rw [if_pos c1, if_pos c1, w64 (x := 32 * t) (by omega) (by omega)]
    exact congrArg some (congrArg (fun x => [x]) (by omega))
  rw [if_neg c1, if_neg c1]
  by_cases c2 : n < 256
  · rw [if_pos c2, if_pos c2, rhead_j _ t n 1 24 ht (by decide) (by decide)]
    rw [show ((1 : Int) - 1) = 0 from rfl, rhead_step _ n _ 0 (n % 256) (by decide) (by simp) (by simp)]
    rw [show ((0 : Int) - 1) = -1 from rfl, rhead_end]
    rfl
  rw [if_neg c2, if_neg c2]
  by_cases c3 : n < 65536
  · rw [if_pos c3, if_pos c3, rhead_j _ t n 2 25 ht (by decide) (by decide)]
    rw [show ((2 : Int) - 1) = 1 from rfl, rhead_step _ n _ 1 (n / 256 % 256) (by decide) (by simp) (by rfl)]
    rw [show ((1 : Int) - 1) = 0 from rfl, rhead_step _ n _ 0 (n % 256) (by decide) (by simp) (by simp)]
    rw [show ((0 : Int) - 1) = -1 from rfl, rhead_end]
    rfl
  rw [if_neg c3, if_neg c3]
  by_cases c4 : n < 4294967296
  · rw [if_pos c4, if_pos c4, rhead_j _ t n 4 26 ht (by decide) (by decide)]
    rw [show ((4 : Int) - 1) = 3 from rfl, rhead_step _ n _ 3 (n / 16777216 % 256) (by decide) (by simp) (by rfl)]
    rw [show ((3 : Int) - 1) = 2 from rfl, rhead_step _ n _ 2 (n / 65536 % 256) (by decide) (by simp) (by rfl)]
    rw [show ((2 : Int) - 1) = 1 from rfl, rhead_step _ n _ 1 (n / 256 % 256) (by decide) (by simp) (by rfl)]
    rw [show ((1 : Int) - 1) = 0 from rfl, rhead_step _ n _ 0 (n % 256) (by decide) (by simp) (by simp)]
    rw [show ((0 : Int) - 1) = -1 from rfl, rhead_end]
    rfl
  rw [if_neg c4, if_neg c4, rhead_j _ t n 8 27 ht (by decide) (by decide)]
  rw [show ((8 : Int) - 1) = 7 from rfl, rhead_step _ n _ 7 (n / 72057594037927936 % 256) (by decide) (by simp) (by rfl)]
  rw [show ((7 : Int) - 1) = 6 from rfl, rhead_step _ n _ 6 (n / 281474976710656 % 256) (by decide) (by simp) (by rfl)]
  rw [show ((6 : Int) - 1) = 5 from rfl, rhead_step _ n _ 5 (n / 1099511627776 % 256) (by decide) (by simp) (by rfl)]
  rw [show ((5 : Int) - 1) = 4 from rfl, rhead_step _ n _ 4 (n / 4294967296 % 256) (by decide) (by simp) (by rfl)]
  rw [show ((4 : Int) - 1) = 3 from rfl, rhead_step _ n _ 3 (n / 16777216 % 256) (by decide) (by simp) (by rfl)]
  rw [show ((3 : Int) - 1) = 2 from rfl, rhead_step _ n _ 2 (n / 65536 % 256) (by decide) (by simp) (by rfl)]
  rw [show ((2 : Int) - 1) = 1 from rfl, rhead_step _ n _ 1 (n / 256 % 256) (by decide) (by simp) (by rfl)]
  rw [show ((1 : Int) - 1) = 0 from rfl, rhead_step _ n _ 0 (n % 256) (by decide) (by simp) (by simp)]
  rw [show ((0 : Int) - 1) = -1 from rfl, rhead_end]
  rfl
theorem num_leaf (k : Nat) (t n : Int) (b : List Int) (hb : b.length < 1000000000) (ht : t ≤ 3) : cbor_number.f (k + 1) t n b [] = some (if t = 2 ∨ t = 3 then (b.length : Int) else n) := by
  unfold cbor_number.f
  by_cases h2 : t = 2
  · subst h2
    rw [if_pos rfl, cbor_number.j0, if_pos (by decide), wu64 (by omega) (by omega), if_pos (.inl rfl)]
  · rw [if_neg h2, cbor_number.j0]
    by_cases h3 : t = 3
    · subst h3
      rw [if_pos (by decide), wu64 (by omega) (by omega), if_pos (.inr rfl)]
    · rw [if_neg (by simp; exact h3), if_neg (by omega), if_neg (by omega), if_neg (by omega)]
theorem hs_len (t n : Int) : 1 ≤ (hs t n).length ∧ (hs t n).length ≤ 9 := by
  unfold hs
  split
  · simp
  split
  · simp
  split
  · simp
  split <;> simp
theorem enc_leaf (k : Nat) (t n : Int) (b : List Int) (hb : b.length < 1000000000) (ht : 0 ≤ t ∧ t ≤ 3) (hn : 0 ≤ n) : encM (k + 14) t n b [] = some (hs t (if t = 2 ∨ t = 3 then (b.length : Int) else n) ++ b) := by
  have hl := hs_len t (if t = 2 ∨ t = 3 then (b.length : Int) else n)
  rw [show k + 14 = (k + 13) + 1 from rfl, encM, if_pos ⟨hb, by simp⟩, show k + 13 = (k + 12) + 1 from rfl, num_leaf _ t n b hb ht.2, Option.bind_some, show k + 12 + 1 = (k + 1) + 12 from rfl, head_eq _ t _ ⟨ht.1, by omega⟩ (by split <;> omega), Option.bind_some, if_pos (by omega), show k + 1 + 12 = (k + 12) + 1 from rfl, encsM, Option.bind_some]
  simp
theorem depth_leaf (k : Nat) (t n : Int) (b : List Int) : cbor_depth.f (k + 2) t n b [] = some 1 := by
  rw [cbor_depth.f, cbor_depth.l0, if_neg (by simp)]
  exact congrArg some (w64 (by omega) (by omega))
theorem shaped_leaf (k : Nat) (t n : Int) (b : List Int) (hb : b.length < 1000000000) (ht : 0 ≤ t ∧ t ≤ 2) (h1 : t = 2 → n = 0) (h2 : t < 2 → b = []) : cbor_shaped.f (k + 1) t n b [] = some true := by
  have e : badM t n b [] = false := by
    unfold badM
    by_cases h : t = 0 ∨ t = 1
    · rw [if_pos h, h2 (by omega)]; rfl
    · rw [if_neg h, if_pos (by omega), h1 (by omega)]; rfl
  rw [cbor_shaped.f, if_pos ⟨hb, by simp⟩, e, if_neg (by decide), allO, Option.bind_some, if_pos rfl, if_neg (by omega)]
theorem valid_leaf (k : Nat) (t n : Int) (b : List Int) (hb : b.length < 900000000) (ht : 0 ≤ t ∧ t ≤ 2) (hn : 0 ≤ n) (h1 : t = 2 → n = 0) (h2 : t < 2 → b = []) : cbor_Valid.f (k + 14) t n b [] = some (decide (((hs t (if t = 2 ∨ t = 3 then (b.length : Int) else n) ++ b).length : Int) ≤ 1048576)) := by
  have hl := hs_len t (if t = 2 ∨ t = 3 then (b.length : Int) else n)
  unfold cbor_Valid.f
  rw [show k + 14 = (k + 12) + 2 from rfl, depth_leaf, Option.bind_some, if_pos (by decide), show k + 12 + 2 = (k + 13) + 1 from rfl, shaped_leaf _ t n b (by omega) ht h1 h2, Option.bind_some, if_pos rfl, show k + 13 + 1 = k + 14 from rfl, enc_leaf _ t n b (by omega) ⟨ht.1, by omega⟩ hn, Option.bind_some, if_pos (by rw [List.length_append]; omega)]
def dig : Nat → Int → List Int
  | 0, _ => []
  | s + 1, n => dig s (n / 256) ++ [n % 256]
theorem dig_len : ∀ (s : Nat) (n : Int), (dig s n).length = s
  | 0, _ => rfl
  | s + 1, n => by rw [dig, List.length_append, dig_len s]; rfl
theorem dig_val : ∀ (s : Nat) (n : Int), 0 ≤ n → n < 256 ^ s → v256 (dig s n) = n
  | 0, n, h0, h1 => by simp at h1; simp [dig, v256]; omega
  | s + 1, n, h0, h1 => by
    rw [dig, v256_snoc, dig_val s (n / 256) (by omega) (by rw [Int.pow_succ] at h1; omega)]
    omega
theorem dig_bytes : ∀ (s : Nat) (n : Int), ∀ x ∈ dig s n, 0 ≤ x ∧ x < 256
  | 0, _, x, h => by simp [dig] at h
  | s + 1, n, x, h => by
    rw [dig] at h
    rcases List.mem_append.1 h with h | h
    · exact dig_bytes s _ x h
    · rw [List.mem_singleton.1 h]; omega
theorem dd (n a b c : Int) (h : a * b = c) (ha : 0 ≤ a) : n / a / b = n / c := by rw [← h, Int.ediv_ediv_of_nonneg ha]
def szH (n : Int) : Nat := if n < 24 then 0 else if n < 256 then 1 else if n < 65536 then 2 else if n < 4294967296 then 4 else 8
def lowH (n : Int) : Int := if n < 24 then n else if n < 256 then 24 else if n < 65536 then 25 else if n < 4294967296 then 26 else 27
theorem hs_dig (t n : Int) : hs t n = (t * 32 + lowH n) :: dig (szH n) n := by
  unfold hs lowH szH
  split
  · rfl
  split
  · simp [dig]
  split
  · simp [dig]
  split
  · simp only [dig, List.nil_append, List.cons_append]
    rw [dd n 256 256 65536 (by decide) (by decide), dd n 65536 256 16777216 (by decide) (by decide)]
  · simp only [dig, List.nil_append, List.cons_append]
    rw [dd n 256 256 65536 (by decide) (by decide), dd n 65536 256 16777216 (by decide) (by decide), dd n 16777216 256 4294967296 (by decide) (by decide), dd n 4294967296 256 1099511627776 (by decide) (by decide), dd n 1099511627776 256 281474976710656 (by decide) (by decide), dd n 281474976710656 256 72057594037927936 (by decide) (by decide)]
theorem hs_len2 (t n : Int) : (hs t n).length = szH n + 1 := by rw [hs_dig, List.length_cons, dig_len]
theorem hs_bytes (t n : Int) (ht : 0 ≤ t ∧ t ≤ 5) (hn : 0 ≤ n) : ∀ x ∈ hs t n, 0 ≤ x ∧ x < 256 := by
  intro x hx
  rw [hs_dig] at hx
  rcases List.mem_cons.1 hx with h | h
  · rw [h]; unfold lowH; repeat' split
    all_goals omega
  · exact dig_bytes _ _ x h
theorem rd_app (pre rest : List Int) (x : Int) : rd (pre ++ x :: rest) (pre.length : Int) = x := by
  rw [rd, Int.toNat_natCast, List.getD_eq_getElem?_getD, List.getElem?_append_right (Nat.le_refl _), Nat.sub_self]
  rfl
theorem drop_app (pre rest : List Int) (x : Int) : (pre ++ x :: rest).drop (pre.length + 1) = rest := by
  rw [List.drop_append, List.drop_eq_nil_of_le (by omega), Nat.add_sub_cancel_left]
  rfl
theorem num_read (k : Nat) (t n at_ : Int) (pre rest : List Int) (hn : 0 ≤ n ∧ n < 18446744073709551616) : numM (k + 12) (pre ++ (hs t n ++ rest)) (pre.length + 1) (lowH n) at_ = some (n, none, pre.length + (hs t n).length) := by
  rw [hs_len2, hs_dig, List.cons_append]
  unfold numM
  by_cases c1 : n < 24
  · rw [show lowH n = n by unfold lowH; rw [if_pos c1], if_pos c1, show szH n = 0 by unfold szH; rw [if_pos c1]]
  · have e1 : szN (lowH n) = szH n ∧ 24 ≤ lowH n ∧ lowH n ≤ 27 ∧ n < 256 ^ szH n := by
      unfold szN lowH szH
      rw [if_neg c1, if_neg c1]
      split
      · exact ⟨rfl, by decide, by decide, by omega⟩
      split
      · exact ⟨rfl, by decide, by decide, by omega⟩
      split
      · exact ⟨rfl, by decide, by decide, by omega⟩
      · exact ⟨rfl, by decide, by decide, by omega⟩
    rw [if_neg (by omega), if_pos e1.2.2.1, e1.1, drop_app, List.take_left' (dig_len _ _), dig_val _ _ hn.1 e1.2.2.2, head_eq k 0 n (by decide) hn.1, Option.bind_some, hs_len2, if_pos rfl]
    rw [if_neg (by simp only [List.length_append, List.length_cons, dig_len]; omega)]
    exact congrArg some (congrArg (fun x => (n, none, x)) (by omega))
theorem lowH_bd (n : Int) (h : 0 ≤ n) : 0 ≤ lowH n ∧ lowH n ≤ 27 := by
  unfold lowH
  repeat' split
  all_goals omega
theorem rd_hs (t n : Int) (pre rest : List Int) : rd (pre ++ (hs t n ++ rest)) (pre.length : Int) = t * 32 + lowH n := by
  rw [hs_dig, List.cons_append, rd_app]
theorem parse_bytes (k : Nat) (b : List Int) (hb : ∀ x ∈ b, 0 ≤ x ∧ x < 256) (hl : (hs 2 (b.length : Int)).length + b.length ≤ 1048576) : cbor_Parse.f (k + 13) (hs 2 (b.length : Int) ++ b) = some (2, 0, b, [], none) := by
  have hlow := lowH_bd (b.length : Int) (by omega)
  have hr := rd_hs 2 (b.length : Int) [] b
  have hnum := num_read k 2 (b.length : Int) ((0 : Nat) : Int) [] b (by omega)
  simp only [List.nil_append, List.length_nil, Nat.zero_add] at hr hnum
  have hr0 : rd (hs 2 (b.length : Int) ++ b) ((0 : Nat) : Int) = 2 * 32 + lowH (b.length : Int) := hr
  have hlen : (hs 2 (b.length : Int) ++ b).length = (hs 2 (b.length : Int)).length + b.length := List.length_append
  have h1 := hs_len 2 (b.length : Int)
  unfold cbor_Parse.f
  rw [if_neg (by rw [hlen]; omega), if_pos (by
    intro x hx
    rcases List.mem_append.1 hx with h | h
    · exact hs_bytes 2 _ (by decide) (by omega) x h
    · exact hb x h)]
  rw [show k + 13 = (k + 12) + 1 from rfl, oneM, if_neg (by rw [hlen]; omega), hr0, if_neg (by omega), if_neg (by decide), show (2 * 32 + lowH (b.length : Int)) % 32 = lowH (b.length : Int) by omega, show (2 * 32 + lowH (b.length : Int)) / 32 = 2 by omega]
  rw [show (0 : Nat) + 1 = 1 from rfl, hnum, Option.bind_some, if_neg (by simp), if_neg (by decide), if_pos (by dsimp only; omega), if_pos (by decide)]
  have hB : bytM (hs 2 (b.length : Int) ++ b) (hs 2 (b.length : Int)).length (b.length : Int) (decide ((2 : Int) = 3)) = (b, none, (hs 2 (b.length : Int)).length + b.length) := by
    unfold bytM
    rw [if_neg (by rw [hlen]; omega), if_neg (by simp), Int.toNat_natCast, List.drop_left', List.take_length]
    rfl
  dsimp only
  rw [hB]
  rw [if_neg (by simp), Option.bind_some, if_neg (by simp)]
  dsimp only
  rw [if_neg (by rw [hlen]; omega)]
end Go.Proofs.YthdjmojpnimhjaaDoor.PCbi
