/- Plain lemmas on whole numbers, lists and bits, for the pure statements of this seat's laws: no condition. -/
import Derived.Test.YtgmnknhfeoleaaaGreatDoorZWWords
import Derived.Test.YtgmnknhfeoleaaaGreatDoorZXWords
import Derived.Laws.BitsAllLaws
import Derived.Laws.Bits64
namespace Go.Proofs.YtgmnknhfeoleaaaGreatDoorW.Pu
open Go.RowKit Go.Proofs.YtgmnknhfeoleaaaGreatDoorW.PrintWords Go.Proofs.YtgmnknhfeoleaaaGreatDoorW.PrintMore
theorem w64 {x : Int} (h0 : -9223372036854775808 ≤ x) (h1 : x ≤ 9223372036854775807) : wrap64 x = x := by unfold wrap64; omega
theorem tdiv_nn {x y : Int} (h : 0 ≤ x) : Int.tdiv x y = x / y := Int.tdiv_eq_ediv_of_nonneg h
theorem tmod_nn {x y : Int} (h : 0 ≤ x) : Int.tmod x y = x % y := Int.tmod_eq_emod_of_nonneg h
theorem wf_u8 {x : Int} (h : (Lit.int .u8 x).wf = true) : 0 ≤ x ∧ x < 256 := by
 simp only [Lit.wf, Bool.and_eq_true, decide_eq_true_eq, show IntKind.u8.min = 0 from rfl, show IntKind.u8.max = 255 from rfl] at h; omega
theorem wf_u16 {x : Int} (h : (Lit.int .u16 x).wf = true) : 0 ≤ x ∧ x < 65536 := by
 simp only [Lit.wf, Bool.and_eq_true, decide_eq_true_eq, show IntKind.u16.min = 0 from rfl, show IntKind.u16.max = 65535 from rfl] at h; omega
theorem wf_u32 {x : Int} (h : (Lit.int .u32 x).wf = true) : 0 ≤ x ∧ x < 4294967296 := by
 simp only [Lit.wf, Bool.and_eq_true, decide_eq_true_eq, show IntKind.u32.min = 0 from rfl, show IntKind.u32.max = 4294967295 from rfl] at h; omega
theorem p2_pos (n : Nat) : (0 : Int) < 2 ^ n := Int.pow_pos (by decide)
theorem p2_succ (n : Nat) : (2 : Int) ^ (n + 1) = 2 * 2 ^ n := by rw [Int.pow_succ, Int.mul_comm]
theorem p2_add (a b : Nat) : (2 : Int) ^ (a + b) = 2 ^ a * 2 ^ b := Int.pow_add ..
theorem p2_le {a b : Nat} (h : a ≤ b) : (2 : Int) ^ a ≤ 2 ^ b := by
 obtain ⟨c, rfl⟩ := Nat.exists_eq_add_of_le h
 rw [p2_add]
 have h1 := p2_pos a
 have h2 := p2_pos c
 calc (2 : Int) ^ a = 2 ^ a * 1 := by omega
  _ ≤ 2 ^ a * 2 ^ c := Int.mul_le_mul_of_nonneg_left (by omega) (by omega)
def bitsN : Nat → Int → List Int
 | 0, _ => []
 | n + 1, x => (x % 2) :: bitsN n (x / 2)
def valN : List Int → Int
 | [] => 0
 | b :: bs => b + 2 * valN bs
def IsBits (l : List Int) : Prop := ∀ b ∈ l, b = 0 ∨ b = 1
theorem bitsN_len (n : Nat) : ∀ x, (bitsN n x).length = n := by
 induction n with
 | zero => intro x; rfl
 | succ n ih => intro x; simp [bitsN, ih]
theorem bitsN_bits (n : Nat) : ∀ x, IsBits (bitsN n x) := by
 induction n with
 | zero => intro x b hb; simp [bitsN] at hb
 | succ n ih =>
  intro x b hb
  simp only [bitsN, List.mem_cons] at hb
  rcases hb with rfl | hb
  ·omega
  ·exact ih _ b hb
theorem valN_nonneg : ∀ {l : List Int}, IsBits l → 0 ≤ valN l ∧ valN l < 2 ^ l.length := by
 intro l
 induction l with
 | nil => intro _; simp [valN]
 | cons b l ih =>
  intro h
  have hb := h b (by simp)
  have hl := ih (fun c hc => h c (List.mem_cons_of_mem _ hc))
  simp only [valN, List.length_cons, p2_succ]
  omega
theorem valN_append : ∀ (a b : List Int), valN (a ++ b) = valN a + 2 ^ a.length * valN b := by
 intro a
 induction a with
 | nil => intro b; simp [valN]
 | cons x a ih =>
  intro b
  simp only [List.cons_append, valN, ih, List.length_cons, p2_succ, Int.mul_assoc]
  rw [Int.mul_add, Int.add_assoc]
theorem valN_zeros (m : Nat) : valN (List.replicate m 0) = 0 := by
 induction m with
 | zero => rfl
 | succ m ih => simp [List.replicate_succ, valN, ih]
theorem valN_pad (a : List Int) (m : Nat) : valN (a ++ List.replicate m 0) = valN a := by rw [valN_append, valN_zeros]; simp
def IsBytes (l : List Int) : Prop := ∀ b ∈ l, 0 ≤ b ∧ b < 256
theorem flat_bits (d : Nat) (l : List Int) : IsBits (l.flatMap (bitsN d)) := by
 intro b hb
 obtain ⟨a, _, h⟩ := List.mem_flatMap.1 hb
 exact bitsN_bits _ _ b h
def pk : Nat → List Int → List Int
 | 0, _ => []
 | m + 1, l => valN (l.take 8) :: pk m (l.drop 8)
theorem pk_len (m : Nat) : ∀ l, (pk m l).length = m := by
 induction m with
 | zero => intro l; rfl
 | succ m ih => intro l; simp [pk, ih]
theorem IsBits.take {l : List Int} (h : IsBits l) (n : Nat) : IsBits (l.take n) := fun b hb => h b (List.mem_of_mem_take hb)
theorem IsBits.drop {l : List Int} (h : IsBits l) (n : Nat) : IsBits (l.drop n) := fun b hb => h b (List.mem_of_mem_drop hb)
theorem pk_bytes (m : Nat) : ∀ {l}, IsBits l → IsBytes (pk m l) := by
 induction m with
 | zero => intro l h b hb; simp [pk] at hb
 | succ m ih =>
  intro l h b hb
  simp only [pk, List.mem_cons] at hb
  rcases hb with rfl | hb
  ·have := valN_nonneg (h.take 8)
   have h2 : (l.take 8).length ≤ 8 := List.length_take_le _ _
   have h3 := p2_le h2
   rw [show (2 : Int) ^ 8 = 256 from rfl] at h3
   omega
  ·exact ih (h.drop 8) b hb
theorem take_pad (l : List Int) (m n : Nat) : ∃ k, (l ++ List.replicate m 0).take n = l.take n ++ List.replicate k 0 := by
 refine ⟨min (n - l.length) m, ?_⟩
 rw [List.take_append, List.take_replicate]
theorem drop_pad (l : List Int) (m n : Nat) : ∃ k, (l ++ List.replicate m 0).drop n = l.drop n ++ List.replicate k 0 := by
 refine ⟨m - (n - l.length), ?_⟩
 rw [List.drop_append, List.drop_replicate]
theorem pk_pad (m : Nat) : ∀ (l : List Int) (z : Nat), pk m (l ++ List.replicate z 0) = pk m l := by
 induction m with
 | zero => intro l z; rfl
 | succ m ih =>
  intro l z
  simp only [pk]
  obtain ⟨k, hk⟩ := take_pad l z 8
  obtain ⟨k', hk'⟩ := drop_pad l z 8
  rw [hk, hk', valN_pad, ih]
def IsLen (x : Int) (n : Nat) : Prop := x < 2 ^ n ∧ (0 < n → 2 ^ (n - 1) ≤ x)
theorem IsLen.le_iff {x : Int} {n : Nat} (h : IsLen x n) (d : Nat) : n ≤ d ↔ x < 2 ^ d := by
 constructor
 ·intro hd
  have := p2_le hd
  have := h.1
  omega
 ·intro hx
  apply Classical.byContradiction
  intro hn
  have h1 := h.2 (by omega)
  have h2 : (2 : Int) ^ d ≤ 2 ^ (n - 1) := p2_le (by omega)
  omega
theorem rd_nat (l : List Int) (i : Nat) : rd l (i : Int) = l.getD i 0 := rfl
theorem rd_get {l : List Int} {i : Nat} (h : i < l.length) : rd l (i : Int) = l[i] := by rw [rd_nat, List.getD, List.getElem?_eq_getElem h]; rfl
theorem drop_rd (l : List Int) {i : Nat} (h : i < l.length) : l.drop i = rd l (i : Int) :: l.drop (i + 1) := by
 rw [List.drop_eq_getElem_cons h, rd_get h]
theorem rd_mem {l : List Int} {i : Nat} (h : i < l.length) : rd l (i : Int) ∈ l := by
 rw [rd_get h]
 exact List.getElem_mem h
theorem wsucc {j : Nat} (h : j < 4611686018427387904) : wrap64 ((j : Int) + 1) = ((j + 1 : Nat) : Int) := by rw [w64 (by omega) (by omega)]; rfl
theorem Ev.step' {α : Type} {g f : Nat → Option α} {r : α} (k : Ev f r) (h : ∀ k, g (k + 1) = f k) : Ev g r := Ev.step h k
theorem Ev.const {α : Type} {x : Option α} {r : α} (h : x = some r) : Ev (fun _ => x) r := ⟨0, fun _ _ => h⟩
theorem Ev.const' {α : Type} {g : Nat → Option α} {r : α} (h : ∀ k, g k = some r) : Ev g r := ⟨0, fun k _ => h k⟩
theorem Ev.last {α : Type} {g : Nat → Option α} {r : α} (h : ∀ k, g (k + 1) = some r) : Ev g r := Ev.step h (Ev.now r)
end Go.Proofs.YtgmnknhfeoleaaaGreatDoorW.Pu
