/- The reference's Pack and Spread, as plain lists: no condition.  -/
import Derived.Test.YtgmnknhfeoleaaaGreatDoorZXPure
import Derived.Test.YtgmnknhfeoleaaaGreatDoorZPXmssx19
namespace Go.Proofs.YtgmnknhfeoleaaaGreatDoor.PXmss
open Go.RowKit Go.Proofs.YtgmnknhfeoleaaaGreatDoorW.PrintWords Go.Proofs.YtgmnknhfeoleaaaGreatDoorW.PrintMore Go.Proofs.YtgmnknhfeoleaaaGreatDoorW.Pu
set_option linter.unusedVariables false
theorem IsLen.shift {x y : Int} {n : Nat} (s : Nat) (h : IsLen y n) (hy : 0 < y) (h1 : y * 2 ^ s ≤ x) (h2 : x < (y + 1) * 2 ^ s) : IsLen x (s + n) := by
 have hn : 0 < n := by
  apply Nat.pos_of_ne_zero
  intro h0
  have := h.1
  rw [h0] at this
  simp at this
  omega
 have hs := p2_pos s
 refine ⟨?_, fun _ => ?_⟩
 ·rw [p2_add, Int.mul_comm]
  exact Int.lt_of_lt_of_le h2 (Int.mul_le_mul_of_nonneg_right (by have := h.1; omega) (by omega))
 ·rw [show s + n - 1 = s + (n - 1) by omega, p2_add, Int.mul_comm]
  exact Int.le_trans (Int.mul_le_mul_of_nonneg_right (h.2 hn) (by omega)) h1
theorem rleast (b : Nat) : ∀ (x n0 : Int), 0 ≤ x → x < 2 ^ b → x < 4294967296 → 0 ≤ n0 → n0 + b ≤ 64 → ∃ m : Nat, m ≤ b ∧ IsLen x m ∧ Ev (fun k => pyxref05_Least.l0 k x n0) (n0 + m) := by
 induction b with
 | zero =>
  intro x n0 h0 h1 h2 h3 h4
  simp at h1
  exact ⟨0, by omega, ⟨by simp; omega, fun h => by omega⟩, Ev.last fun k => by rw [pyxref05_Least.l0, if_neg (by omega)]; simp⟩
 | succ b ih =>
  intro x n0 h0 h1 h2 h3 h4
  rw [p2_succ] at h1
  by_cases hx : x > 0
  ·obtain ⟨m, hm, hl, he⟩ := ih (x / 2) (n0 + 1) (by omega) (by omega) (by omega) (by omega) (by omega)
   refine ⟨1 + m, by omega, ?_, ?_⟩
   ·by_cases hy : x / 2 = 0
    ·have : x = 1 := by omega
     subst this
     have h5 : m = 0 := by
      apply Classical.byContradiction
      intro h6
      have := hl.2 (by omega)
      have := p2_pos (m - 1)
      omega
     subst h5
     exact ⟨by simp, fun _ => by simp⟩
    ·exact IsLen.shift 1 hl (by omega) (by simp; omega) (by simp; omega)
   ·rw [show n0 + ((1 + m : Nat) : Int) = n0 + 1 + m by omega]
    exact Ev.step' he fun k => by rw [pyxref05_Least.l0, if_pos hx, tdiv_nn h0, Int.emod_eq_of_lt (by omega) (by omega), w64 (by omega) (by omega)]
  ·exact ⟨0, by omega, ⟨by simp; omega, fun h => by omega⟩, Ev.last fun k => by rw [pyxref05_Least.l0, if_neg hx]; simp⟩
theorem rleast_ev {x : Int} (h0 : 0 ≤ x) (h1 : x < 4294967296) : ∃ m : Nat, m ≤ 32 ∧ IsLen x m ∧ Ev (fun k => pyxref05_Least.f k x) (m : Int) := by
 obtain ⟨m, a, b, c⟩ := rleast 32 x 0 h0 (by simpa using h1) h1 (by omega) (by omega)
 exact ⟨m, a, b, by simpa [pyxref05_Least.f] using c⟩
def Fits (d : Nat) (l : List Int) : Prop := ∀ x ∈ l, x < 2 ^ d
def Is32 (l : List Int) : Prop := ∀ x ∈ l, 0 ≤ x ∧ x < 4294967296
theorem rpack_l1 (d : Nat) (l : List Int) (i : Nat) (hi : i < 4611686018427387904) : ∀ (m j : Nat) (x : Int) (all : List Int), d - j = m → j ≤ d → d ≤ 32 → 0 ≤ x → x < 4294967296 → all.length + m < 17592186044416 → ∀ r,
  Ev (fun k => pyxref05_Pack.l0 k (d : Int) l (all ++ bitsN m x) ((i + 1 : Nat) : Int)) r → Ev (fun k => pyxref05_Pack.l1 k (d : Int) l all (i : Int) x (j : Int)) r := by
 intro m
 induction m with
 | zero =>
  intro j x all e h1 h2 h3 h4 h5 r h
  refine Ev.step' h fun k => ?_
  rw [pyxref05_Pack.l1, if_neg (by omega), wsucc (by omega)]
  simp [bitsN]
 | succ m ih =>
  intro j x all e h1 h2 h3 h4 h5 r h
  have h6 := ih (j + 1) (x / 2) (all ++ [x % 2]) (by omega) (by omega) h2 (by omega) (by omega) (by simp; omega) r (by rw [List.append_assoc]; exact h)
  exact Ev.step' h6 fun k => by
   rw [pyxref05_Pack.l1, if_pos (by omega), if_pos (by omega), tmod_nn h3, tdiv_nn h3, w64 (by omega) (by omega), Int.emod_eq_of_lt (show 0 ≤ x / 2 by omega) (by omega), wsucc (by omega)]
theorem val8 {all : List Int} (h : IsBits all) (i : Nat) : 0 ≤ valN ((all.drop i).take 8) ∧ valN ((all.drop i).take 8) < 256 := by
 have h1 := valN_nonneg ((h.drop i).take 8)
 have h2 : ((all.drop i).take 8).length ≤ 8 := List.length_take_le _ _
 have h3 := p2_le h2
 rw [show (2 : Int) ^ 8 = 256 from rfl] at h3
 omega
theorem rpack_l4 (all : List Int) (hb : IsBits all) (out : List Int) (i : Nat) (hi : i + 8 ≤ all.length) (hl : all.length < 4611686018427387904) (ho : out.length < 140737488355328) (r : List Int × Bool)
  (h : Ev (fun k => pyxref05_Pack.l3 k all (out ++ [valN ((all.drop i).take 8)]) ((i + 8 : Nat) : Int)) r) : ∀ t : Nat, t ≤ 8 →
  Ev (fun k => pyxref05_Pack.l4 k all out (i : Int) (valN ((all.drop (i + t)).take (8 - t))) ((t : Int) - 1)) r := by
 intro t
 induction t with
 | zero =>
  intro _
  refine Ev.step' h fun k => ?_
  have := val8 hb i
  rw [pyxref05_Pack.l4, if_neg (by omega), if_pos ho, w64 (by omega) (by omega), Nat.add_zero, Nat.sub_zero, Int.emod_eq_of_lt this.1 this.2]
  rfl
 | succ t ih =>
  intro ht
  have h1 := ih (by omega)
  have hlt : i + t < all.length := by omega
  have e : (all.drop (i + t)).take (8 - t) = rd all ((i + t : Nat) : Int) :: (all.drop (i + (t + 1))).take (8 - (t + 1)) := by
   rw [drop_rd all hlt, show 8 - t = (8 - (t + 1)) + 1 by omega, List.take_succ_cons]
   rfl
  have hv := valN_nonneg ((hb.drop (i + (t + 1))).take (8 - (t + 1)))
  have h2 : ((all.drop (i + (t + 1))).take (8 - (t + 1))).length ≤ 8 := Nat.le_trans (List.length_take_le _ _) (by omega)
  have h3 := p2_le h2
  rw [show (2 : Int) ^ 8 = 256 from rfl] at h3
  have hr := hb _ (rd_mem hlt)
  rw [e] at h1
  refine Ev.step' h1 fun k => ?_
  rw [pyxref05_Pack.l4, if_pos (by omega), show ((t + 1 : Nat) : Int) - 1 = (t : Int) by omega, w64 (x := (i : Int) + t) (by omega) (by omega), show (i : Int) + (t : Int) = ((i + t : Nat) : Int) by omega, if_pos (by omega), if_pos (by omega), w64 (x := 2 * _) (by omega) (by omega), w64 (by omega) (by omega), w64 (by omega) (by omega)]
  simp only [valN]
  rw [Int.add_comm]
theorem rpack_l3 (all : List Int) (hb : IsBits all) (hl : all.length < 4611686018427387904) : ∀ (m i : Nat) (out : List Int), i + 8 * m = all.length → out.length + m < 140737488355328 →
  Ev (fun k => pyxref05_Pack.l3 k all out (i : Int)) (out ++ pk m (all.drop i), true) := by
 intro m
 induction m with
 | zero =>
  intro i out e h
  exact Ev.last fun k => by rw [pyxref05_Pack.l3, if_neg (by omega)]; simp [pk]
 | succ m ih =>
  intro i out e h
  have h1 := ih (i + 8) (out ++ [valN ((all.drop i).take 8)]) (by omega) (by simp; omega)
  have h2 := rpack_l4 all hb out i (by omega) hl (by omega) _ h1 8 (by omega)
  have e1 : valN ((all.drop (i + 8)).take (8 - 8)) = 0 := by simp [valN]
  rw [e1] at h2
  simp only [pk]
  rw [List.drop_drop, show out ++ valN (List.take 8 (List.drop i all)) :: pk m (List.drop (i + 8) all) = out ++ [valN (List.take 8 (List.drop i all))] ++ pk m (List.drop (i + 8) all) by simp]
  exact Ev.step' h2 fun k => by rw [pyxref05_Pack.l3, if_pos (by omega)]; rfl
theorem rpack_l2 : ∀ (z : Nat) (all : List Int), z < 8 → (all.length + z) % 8 = 0 → IsBits all → all.length + z < 17592186044416 →
  Ev (fun k => pyxref05_Pack.l2 k all) (pk ((all.length + 7) / 8) all, true) := by
 intro z
 induction z with
 | zero =>
  intro all h1 h2 hb hl
  have h3 := rpack_l3 all hb (by omega) (all.length / 8) 0 [] (by omega) (by simp; omega)
  rw [show (all.length + 7) / 8 = all.length / 8 by omega]
  exact Ev.step' (by simpa using h3) fun k => by rw [pyxref05_Pack.l2, if_pos (by omega)]
 | succ z ih =>
  intro all h1 h2 hb hl
  have hb' : IsBits (all ++ [0]) := by
   intro b h
   rcases List.mem_append.1 h with h | h
   ·exact hb b h
   ·simp at h; omega
  have h3 := ih (all ++ [0]) (by omega) (by simp; omega) hb' (by simp; omega)
  have e : pk (((all ++ [0]).length + 7) / 8) (all ++ [0]) = pk ((all.length + 7) / 8) all := by
   have e2 : ((all ++ [0]).length + 7) / 8 = (all.length + 7) / 8 := by
    rw [List.length_append, List.length_singleton]
    omega
   rw [e2]
   exact pk_pad _ all 1
  rw [e] at h3
  exact Ev.step' h3 fun k => by rw [pyxref05_Pack.l2, if_neg (by omega), if_pos (by omega)]
theorem rpack_l0 (d : Nat) (hd1 : 1 ≤ d) (hd : d ≤ 32) (l : List Int) (h32 : Is32 l) (hlen : l.length ≤ 1048576) : ∀ (m i : Nat) (all : List Int), l.length - i = m → i ≤ l.length → IsBits all → all.length = d * i →
  (Fits d (l.drop i) → Ev (fun k => pyxref05_Pack.l0 k (d : Int) l all (i : Int)) (pk ((d * l.length + 7) / 8) (all ++ (l.drop i).flatMap (bitsN d)), true)) ∧
  (¬ Fits d (l.drop i) → Ev (fun k => pyxref05_Pack.l0 k (d : Int) l all (i : Int)) ([], false)) := by
 intro m
 induction m with
 | zero =>
  intro i all e hi hb ha
  have e1 : l.drop i = [] := List.drop_eq_nil_of_le (by omega)
  have hil : i = l.length := by omega
  rw [e1]
  have hbd : d * i ≤ 32 * 1048576 := Nat.mul_le_mul hd (by omega)
  refine ⟨fun _ => ?_, fun h => absurd (fun x hx => by simp at hx) h⟩
  rw [List.flatMap_nil, List.append_nil]
  have h := rpack_l2 ((8 - all.length % 8) % 8) all (by omega) (by omega) hb (by omega)
  rw [ha, hil] at h
  exact Ev.step' h fun k => by rw [pyxref05_Pack.l0, if_neg (by omega)]
 | succ m ih =>
  intro i all e hi hb ha
  have hlt : i < l.length := by omega
  have hx := h32 _ (rd_mem hlt)
  obtain ⟨b, hb32, hbl, eb⟩ := rleast_ev hx.1 hx.2
  have hdrop := drop_rd l hlt
  have hbd : d * i ≤ 32 * 1048576 := Nat.mul_le_mul hd (by omega)
  by_cases c : b ≤ d
  ·have hfit : rd l i < 2 ^ d := (hbl.le_iff d).1 c
   have hall : IsBits (all ++ bitsN d (rd l i)) := by
    intro y hy
    rcases List.mem_append.1 hy with hy | hy
    ·exact hb y hy
    ·exact bitsN_bits _ _ y hy
   obtain ⟨i1, i2⟩ := ih (i + 1) (all ++ bitsN d (rd l i)) (by omega) (by omega) hall (by simp [bitsN_len, ha, Nat.mul_succ])
   have step : ∀ r, Ev (fun k => pyxref05_Pack.l0 k (d : Int) l (all ++ bitsN d (rd l i)) ((i + 1 : Nat) : Int)) r → Ev (fun k => pyxref05_Pack.l0 k (d : Int) l all (i : Int)) r := fun r h => by
    have h1 := rpack_l1 d l i (by omega) d 0 (rd l i) all (by omega) (by omega) hd hx.1 hx.2 (by omega) r h
    have h2 : Ev (fun k => (pyxref05_Least.f k (rd l i)).bind fun t174 => (if t174 > (d : Int) then (some (([] : List Int), false)) else (pyxref05_Pack.l1 k (d : Int) l all (i : Int) (rd l i) 0))) r := by
     refine Ev.bind eb ?_
     refine Ev.congr (fun k => ?_) h1
     rw [if_neg (by omega)]
     rfl
    exact Ev.step' h2 fun k => by rw [pyxref05_Pack.l0, if_pos (by omega), if_pos (by omega)]
   have hF : Fits d (l.drop i) ↔ Fits d (l.drop (i + 1)) := by
    rw [hdrop]
    constructor
    ·intro h x hx; exact h x (List.mem_cons_of_mem _ hx)
    ·intro h x hx
     rcases List.mem_cons.1 hx with rfl | hx
     ·exact hfit
     ·exact h x hx
   refine ⟨fun h => step _ ?_, fun h => step _ (i2 (fun h' => h (hF.2 h')))⟩
   have h7 := i1 (hF.1 h)
   rw [hdrop, List.flatMap_cons]
   simpa only [List.append_assoc] using h7
  ·have hnf : ¬ Fits d (l.drop i) := by
    rw [hdrop]
    intro h
    have := h (rd l i) (by simp)
    exact c ((hbl.le_iff d).2 this)
   refine ⟨fun h => absurd h hnf, fun _ => ?_⟩
   have h2 : Ev (fun k => (pyxref05_Least.f k (rd l i)).bind fun t174 => (if t174 > (d : Int) then (some (([] : List Int), false)) else (pyxref05_Pack.l1 k (d : Int) l all (i : Int) (rd l i) 0))) ([], false) := by
    refine Ev.bind eb ?_
    exact Ev.const' fun k => by rw [if_pos (by omega)]
   exact Ev.step' h2 fun k => by rw [pyxref05_Pack.l0, if_pos (by omega), if_pos (by omega)]
theorem rpack_good {d : Nat} {l : List Int} (h1 : 1 ≤ d) (h2 : d ≤ 32) (h3 : l.length ≤ 1048576) (h32 : Is32 l) :
  (Fits d l → Ev (fun k => pyxref05_Pack.f k (d : Int) l) (pk ((d * l.length + 7) / 8) (l.flatMap (bitsN d)), true)) ∧ (¬ Fits d l → Ev (fun k => pyxref05_Pack.f k (d : Int) l) ([], false)) := by
 have step : ∀ r, Ev (fun k => pyxref05_Pack.l0 k (d : Int) l [] 0) r → Ev (fun k => pyxref05_Pack.f k (d : Int) l) r := fun r h => by
  have e : Ev (fun k => pyxref05_Pack.j0 k (d : Int) l false) r := Ev.step' h fun k => by rw [pyxref05_Pack.j0, if_neg (by decide)]
  refine Ev.congr (fun k => ?_) e
  rw [pyxref05_Pack.f, if_neg (by omega), if_neg (by omega), decide_eq_false (by omega)]
 obtain ⟨a, b⟩ := rpack_l0 d h1 h2 l h32 h3 l.length 0 [] (by omega) (by omega) (fun b hb => by simp at hb) (by simp)
 exact ⟨fun h => step _ (by simpa using a h), fun h => step _ (b h)⟩
theorem spread_l1 (s : Int) (n : Nat) (hn : n < 1000000000) : ∀ (d : Nat) (xs : List Int), n - xs.length = d → xs.length ≤ n → IsBytes xs →
  ∃ r, Ev (fun k => pyxref15_Spread.l1 k s (n : Int) xs) r ∧ IsBytes r ∧ r.length = n := by
 intro d
 induction d with
 | zero =>
  intro xs e h hb
  exact ⟨xs, Ev.last fun k => by rw [pyxref15_Spread.l1, if_neg (by omega)], hb, by omega⟩
 | succ d ih =>
  intro xs e h hb
  obtain ⟨r, h1, h2, h3⟩ := ih (xs ++ [((s % 256) + ((xs.length : Int) % 256)) % 256]) (by simp; omega) (by simp; omega) (by
   intro b hh
   rcases List.mem_append.1 hh with hh | hh
   ·exact hb b hh
   ·simp at hh; omega)
  exact ⟨r, Ev.step' h1 fun k => by rw [pyxref15_Spread.l1, if_pos (by omega), if_pos (by omega)], h2, h3⟩
theorem spread_l0 (s : Int) (n : Nat) (hn : n < 1000000) : ∀ (d : Nat) (acc : List Int) (x : Int) (i : Nat), 2 * (n / 3) - i = d → i ≤ 2 * (n / 3) → acc.length = i → (∀ y ∈ acc, 0 ≤ y ∧ y < 3329) →
  ∃ r, Ev (fun k => pyxref15_Spread.l0 k s (n : Int) acc x (i : Int)) r ∧ IsBytes r ∧ r.length = n := by
 have e3 : wrap64 (wrap64 (Int.tdiv (n : Int) 3) * 2) = ((2 * (n / 3) : Nat) : Int) := by
  rw [tdiv_nn (by omega), w64 (x := (n : Int) / 3) (by omega) (by omega), w64 (by omega) (by omega)]
  omega
 intro d
 induction d with
 | zero =>
  intro acc x i e h ha hq
  have hp := (rpack_good (d := 12) (l := acc) (by omega) (by omega) (by omega) (fun y hy => by have := hq y hy; omega)).1 (fun y hy => by have := hq y hy; simp; omega)
  obtain ⟨r, h1, h2, h3⟩ := spread_l1 s n (by omega) (n - ((12 * acc.length + 7) / 8)) (pk ((12 * acc.length + 7) / 8) (acc.flatMap (bitsN 12))) (by rw [pk_len]) (by rw [pk_len]; omega) (pk_bytes _ (flat_bits 12 acc))
  refine ⟨r, ?_, h2, h3⟩
  refine Ev.step' (f := fun k => (pyxref05_Pack.f k 12 acc).bind fun bt => pyxref15_Spread.l1 k s (n : Int) bt.1) (Ev.bind hp h1) fun k => ?_
  rw [pyxref15_Spread.l0, e3, if_neg (by omega)]
 | succ d ih =>
  intro acc x i e h ha hq
  obtain ⟨r, h1, h2, h3⟩ := ih (acc ++ [(((IntKind.u64.wrap ((IntKind.u64.wrap (x * 6364136223846793005)) + 1442695040888963407)) / 8589934592) % 4294967296) % 3329]) (IntKind.u64.wrap ((IntKind.u64.wrap (x * 6364136223846793005)) + 1442695040888963407)) (i + 1) (by omega) (by omega) (by simp [ha]) (by
   intro y hh
   rcases List.mem_append.1 hh with hh | hh
   ·exact hq y hh
   ·simp only [List.mem_singleton] at hh; rw [hh]; exact ⟨Int.emod_nonneg _ (by decide), Int.emod_lt_of_pos _ (by decide)⟩)
  refine ⟨r, Ev.step' h1 fun k => ?_, h2, h3⟩
  rw [pyxref15_Spread.l0, e3, if_pos (by omega), if_pos (by omega), wsucc (by omega)]
theorem spread_ev (s : Int) (n : Nat) (hn : n < 1000000) : ∃ r, Ev (fun k => pyxref15_Spread.f k s (n : Int)) r ∧ IsBytes r ∧ r.length = n := by
 obtain ⟨r, h1, h2, h3⟩ := spread_l0 s n hn (2 * (n / 3)) [] (IntKind.u64.wrap s) 0 (by omega) (by omega) rfl (by simp)
 exact ⟨r, by simpa [pyxref15_Spread.f] using h1, h2, h3⟩
end Go.Proofs.YtgmnknhfeoleaaaGreatDoor.PXmss
