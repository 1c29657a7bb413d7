/- Unpacking, by the implementation and by the reference, as plain lists of bits: no condition. -/
import Derived.Test.YtifejkgppdjeoaaXBits2
namespace Go.Proofs.Ytifejkgppdjeoaa.PBits
open Go.RowKit Go.Proofs.YtifejkgppdjeoaaW.PrintWords Go.Proofs.YtifejkgppdjeoaaW.PrintMore Go.Proofs.YtifejkgppdjeoaaW.Pu
set_option linter.unusedVariables false

/-- n numbers of d bits each. -/
def unp (d : Nat) : Nat → List Int → List Int
  | 0, _ => []
  | n + 1, l => valN (l.take d) :: unp d n (l.drop d)
theorem unp_len (d n : Nat) : ∀ l, (unp d n l).length = n := by
  induction n with
  | zero => intro l; rfl
  | succ n ih => intro l; simp [unp, ih]
theorem unp_flat (d : Nat) : ∀ (l z : List Int), Is32 l → Fits d l → unp d l.length (l.flatMap (bitsN d) ++ z) = l := by
  intro l
  induction l with
  | nil => intro z _ _; rfl
  | cons a l ih =>
    intro z h1 h2
    have ha := h1 a (by simp)
    have hf := h2 a (by simp)
    simp only [List.length_cons, unp, List.flatMap_cons, List.append_assoc]
    rw [List.take_left' (bitsN_len d a), List.drop_left' (bitsN_len d a), valN_bits d ha.1 hf, ih z (fun x hx => h1 x (List.mem_cons_of_mem _ hx)) (fun x hx => h2 x (List.mem_cons_of_mem _ hx))]
theorem flat_unp (d : Nat) : ∀ (n : Nat) (l : List Int), IsBits l → n * d ≤ l.length → (unp d n l).flatMap (bitsN d) = l.take (n * d) := by
  intro n
  induction n with
  | zero => intro l _ _; simp [unp]
  | succ n ih =>
    intro l hb hl
    rw [Nat.succ_mul] at hl
    simp only [unp, List.flatMap_cons]
    rw [ih _ (hb.drop d) (by simp; omega)]
    have h1 : (l.take d).length = d := by simp; omega
    have h2 := bitsN_val (hb.take d)
    rw [h1] at h2
    rw [h2, Nat.succ_mul, Nat.add_comm (n * d) d, List.take_add]
theorem unp_fits (d : Nat) : ∀ (n : Nat) (l : List Int), IsBits l → ∀ x ∈ unp d n l, 0 ≤ x ∧ x < 2 ^ d := by
  intro n
  induction n with
  | zero => intro l _ x hx; simp [unp] at hx
  | succ n ih =>
    intro l hb x hx
    simp only [unp, List.mem_cons] at hx
    rcases hx with rfl | hx
    · have h1 := valN_nonneg (hb.take d)
      have h2 := p2_le (show (l.take d).length ≤ d from List.length_take_le _ _)
      omega
    · exact ih _ (hb.drop d) x hx
theorem bits8_bits (l : List Int) : IsBits (bits8 l) := flat_bits 8 l

/-! ### the implementation -/
theorem and_low {d : Nat} {x : Int} (hd : d ≤ 32) (h0 : 0 ≤ x) (h1 : x < 18446744073709551616) : Go.bits .and .u64 x (IntKind.u64.wrap ((shl .u64 1 (d : Int)) - 1)) = x % 2 ^ d := by
  have hp := p2_pos d
  have hl : (2 : Int) ^ d ≤ 2 ^ 32 := p2_le hd
  rw [show (2 : Int) ^ 32 = 4294967296 from rfl] at hl
  have e : shl .u64 1 (d : Int) = 2 ^ d := by
    unfold shl
    rw [show ((d : Int).toNat) = d from rfl, Nat.min_eq_left (by simp [IntKind.bits]; omega), Int.one_mul, wu64 (by omega) (by omega)]
  rw [e, wu64 (by omega) (by omega), bits_mask .u64 64 (by decide) (fun z h1 h2 => wu64 h1 (by simpa using h2)) d (by omega) x h0 (by simpa using h1)]
theorem shr_eq {d : Nat} {x : Int} (hd : d ≤ 64) : shr .u64 x (d : Int) = x / 2 ^ d := by
  unfold shr
  rw [show ((d : Int).toNat) = d from rfl, Nat.min_eq_left (by simpa [IntKind.bits] using hd)]
theorem unpack_l1 (d : Nat) (hd : d ≤ 32) (x36 x37 : Int) : ∀ (q h : Nat) (b : List Int) (buf : Int) (out : List Int) (i : Nat), d ≤ h + 8 * q → h < 40 → IsBytes b → 0 ≤ buf → buf < 2 ^ h → d ≤ h + 8 * b.length → i < out.length → i < 4611686018427387904 →
    (h < d + 8) → ∃ b' buf', ∃ h' : Nat, d ≤ h' ∧ h' < d + 8 ∧ IsBytes b' ∧ 0 ≤ buf' ∧ buf' < 2 ^ h' ∧ bitsN h' buf' ++ bits8 b' = bitsN h buf ++ bits8 b ∧
      (∀ r, Ev (fun k => bits_Unpack.l0 k (d : Int) b' (out.set i (buf' % 2 ^ d)) (buf' / 2 ^ d) ((h' - d : Nat) : Int) x36 (wrap64 (x37 + 1))) r → Ev (fun k => bits_Unpack.l1 k (d : Int) b out buf (h : Int) (i : Int) x36 x37) r) := by
  intro q
  have stop : ∀ (h : Nat) (b : List Int) (buf : Int) (out : List Int) (i : Nat), d ≤ h → h < 40 → IsBytes b → 0 ≤ buf → buf < 2 ^ h → i < out.length → (h < d + 8) → ∃ b' buf', ∃ h' : Nat, d ≤ h' ∧ h' < d + 8 ∧ IsBytes b' ∧ 0 ≤ buf' ∧ buf' < 2 ^ h' ∧ bitsN h' buf' ++ bits8 b' = bitsN h buf ++ bits8 b ∧
      (∀ r, Ev (fun k => bits_Unpack.l0 k (d : Int) b' (out.set i (buf' % 2 ^ d)) (buf' / 2 ^ d) ((h' - d : Nat) : Int) x36 (wrap64 (x37 + 1))) r → Ev (fun k => bits_Unpack.l1 k (d : Int) b out buf (h : Int) (i : Int) x36 x37) r) := by
    intro h b buf out i h1 h2 h3 h4 h5 h6 h7
    refine ⟨b, buf, h, h1, h7, h3, h4, h5, rfl, fun r he => Ev.step' he fun k => ?_⟩
    have hp : (2 : Int) ^ h ≤ 2 ^ 40 := p2_le (by omega)
    rw [show (2 : Int) ^ 40 = 1099511627776 from rfl] at hp
    have hm := mod_p2 (x := buf) d
    have hl : (2 : Int) ^ d ≤ 2 ^ 32 := p2_le hd
    rw [show (2 : Int) ^ 32 = 4294967296 from rfl] at hl
    rw [bits_Unpack.l1, if_neg (by omega), if_pos (by omega), if_pos (by omega), if_pos (by omega), and_low hd h4 (by omega), Int.emod_eq_of_lt hm.1 (by omega), shr_eq (by omega), w64 (x := (h : Int) - d) (by omega) (by omega), show (h : Int) - (d : Int) = ((h - d : Nat) : Int) by omega]
    rfl
  induction q with
  | zero =>
    intro h b buf out i h1 h2 h3 h4 h5 h6 h7 h8 h9
    exact stop h b buf out i (by omega) h2 h3 h4 h5 h7 h9
  | succ q ih =>
    intro h b buf out i h1 h2 h3 h4 h5 h6 h7 h8 h9
    by_cases c : d ≤ h
    · exact stop h b buf out i c h2 h3 h4 h5 h7 h9
    · cases b with
      | nil => exact absurd (by simpa using h6) c
      | cons a b =>
        have ha := h3 a (by simp)
        have hp := p2_pos h
        have hp40 : (2 : Int) ^ h ≤ 2 ^ 32 := p2_le (by omega)
        rw [show (2 : Int) ^ 32 = 4294967296 from rfl] at hp40
        have hprod : a * 2 ^ h ≤ 255 * 4294967296 := Int.mul_le_mul (by omega) (by omega) (by omega) (by omega)
        have hmul0 : 0 ≤ a * 2 ^ h := Int.mul_nonneg ha.1 (by omega)
        have hor : Go.bits .or .u64 buf (shl .u64 (IntKind.u64.wrap a) (h : Int)) = buf + a * 2 ^ h := by
          rw [wu64 ha.1 (by omega)]
          exact or_low (by omega) h4 h5 ha.1 (by omega) (by omega)
        have hnew : buf + a * 2 ^ h < 2 ^ (h + 8) := by
          have : (a + 1) * 2 ^ h ≤ 256 * 2 ^ h := Int.mul_le_mul_of_nonneg_right (by omega) (by omega)
          rw [p2_add, Int.mul_comm (2 ^ h), show (2 : Int) ^ 8 = 256 from rfl]
          rw [Int.add_mul] at this
          omega
        obtain ⟨b', buf', h', a1, a2, a3, a4, a5, a6, a7⟩ := ih (h + 8) b (buf + a * 2 ^ h) out i (by omega) (by omega) (fun x hx => h3 x (List.mem_cons_of_mem _ hx)) (by omega) hnew (by simp at h6; omega) h7 h8 (by omega)
        refine ⟨b', buf', h', a1, a2, a3, a4, a5, ?_, fun r he => Ev.step' (a7 r he) fun k => ?_⟩
        · rw [a6, bits8_cons, bitsN_add, bitsN_low, div_low h _ h4 h5, List.append_assoc]
        · rw [bits_Unpack.l1, if_pos (by omega), if_pos (by rw [List.length_cons]; omega), if_pos (by omega), if_pos (by rw [List.length_cons]; omega), show rd (a :: b) 0 = a from rfl, hor, w64 (by omega) (by omega)]
          rfl
theorem unpack_l0 (d : Nat) (hd1 : 1 ≤ d) (hd : d ≤ 32) (n : Nat) (hn : n ≤ 1048576) : ∀ (m i h : Nat) (b : List Int) (buf : Int) (done : List Int), n - i = m → i ≤ n → h < 8 → IsBytes b → 0 ≤ buf → buf < 2 ^ h → done.length = i → m * d ≤ h + 8 * b.length → h + 8 * b.length < m * d + 8 →
    ((∀ x ∈ (bitsN h buf ++ bits8 b).drop (m * d), x = 0) → Ev (fun k => bits_Unpack.l0 k (d : Int) b (done ++ List.replicate m 0) buf (h : Int) (n : Int) (i : Int)) (done ++ unp d m (bitsN h buf ++ bits8 b), true)) ∧
    ((¬ ∀ x ∈ (bitsN h buf ++ bits8 b).drop (m * d), x = 0) → Ev (fun k => bits_Unpack.l0 k (d : Int) b (done ++ List.replicate m 0) buf (h : Int) (n : Int) (i : Int)) ([], false)) := by
  intro m
  induction m with
  | zero =>
    intro i h b buf done e hi hh hb h0 h1 hdn hl1 hl2
    have hbn : b = [] := List.eq_nil_of_length_eq_zero (by omega)
    subst hbn
    have hz : (∀ x ∈ (bitsN h buf ++ bits8 []).drop (0 * d), x = 0) ↔ buf = 0 := by
      simp only [Nat.zero_mul, List.drop_zero, bits8, List.flatMap_nil, List.append_nil]
      constructor
      · intro hx
        have := zeros_of hx
        rw [bitsN_len] at this
        have h3 := congrArg valN this
        rwa [valN_zeros, valN_bits h h0 h1] at h3
      · rintro rfl
        rw [bitsN_zero]
        intro x hx
        exact (List.mem_replicate.1 hx).2
    refine ⟨fun hx => ?_, fun hx => ?_⟩
    · have := hz.1 hx
      exact Ev.last fun k => by rw [bits_Unpack.l0, if_neg (by omega), if_pos this]; simp [unp]
    · have : ¬ buf = 0 := fun h => hx (hz.2 h)
      exact Ev.last fun k => by rw [bits_Unpack.l0, if_neg (by omega), if_neg this]
  | succ m ih =>
    intro i h b buf done e hi hh hb h0 h1 hdn hl1 hl2
    have hsm : (m + 1) * d = m * d + d := Nat.succ_mul m d
    rw [hsm] at hl1 hl2
    obtain ⟨b', buf', h', a1, a2, a3, a4, a5, a6, a7⟩ := unpack_l1 d hd (n : Int) (i : Int) 4 h b buf (done ++ List.replicate (m + 1) 0) i (by omega) (by omega) hb h0 h1 (by omega) (by simp; omega) (by omega) (by omega)
    have hlen := congrArg List.length a6
    simp only [List.length_append, bitsN_len, bits8_len] at hlen
    have hsplit : bitsN h' buf' = bitsN d buf' ++ bitsN (h' - d) (buf' / 2 ^ d) := by
      have := bitsN_add d (h' - d) buf'
      rwa [show d + (h' - d) = h' by omega] at this
    have hq : buf' / 2 ^ d < 2 ^ (h' - d) := by
      apply Int.ediv_lt_of_lt_mul (p2_pos d)
      rw [Int.mul_comm, ← p2_add, show d + (h' - d) = h' by omega]
      exact a5
    have hset : (done ++ List.replicate (m + 1) 0).set i (buf' % 2 ^ d) = (done ++ [buf' % 2 ^ d]) ++ List.replicate m 0 := by
      rw [← hdn, List.set_append_right _ _ (by omega), Nat.sub_self, List.replicate_succ, List.set_cons_zero]
      simp
    obtain ⟨i1, i2⟩ := ih (i + 1) (h' - d) b' (buf' / 2 ^ d) (done ++ [buf' % 2 ^ d]) (by omega) (by omega) (by omega) a3 (div_p2_nonneg d a4) hq (by simp; omega) (by omega) (by omega)
    have hR : bitsN h buf ++ bits8 b = bitsN d buf' ++ (bitsN (h' - d) (buf' / 2 ^ d) ++ bits8 b') := by rw [← a6, hsplit, List.append_assoc]
    have step : ∀ r, Ev (fun k => bits_Unpack.l0 k (d : Int) b' ((done ++ [buf' % 2 ^ d]) ++ List.replicate m 0) (buf' / 2 ^ d) ((h' - d : Nat) : Int) (n : Int) ((i + 1 : Nat) : Int)) r → Ev (fun k => bits_Unpack.l0 k (d : Int) b (done ++ List.replicate (m + 1) 0) buf (h : Int) (n : Int) (i : Int)) r := fun r he => by
      rw [← hset, ← wsucc (by omega)] at he
      exact Ev.step' (a7 r he) fun k => by rw [bits_Unpack.l0, if_pos (by omega)]
    have hdr : (bitsN h buf ++ bits8 b).drop ((m + 1) * d) = (bitsN (h' - d) (buf' / 2 ^ d) ++ bits8 b').drop (m * d) := by
      rw [hR, Nat.succ_mul, Nat.add_comm, ← List.drop_drop, List.drop_left' (bitsN_len d buf')]
    have hun : done ++ unp d (m + 1) (bitsN h buf ++ bits8 b) = (done ++ [buf' % 2 ^ d]) ++ unp d m (bitsN (h' - d) (buf' / 2 ^ d) ++ bits8 b') := by
      rw [hR]
      simp only [unp]
      rw [List.take_left' (bitsN_len d buf'), List.drop_left' (bitsN_len d buf'), valN_bits_mod]
      simp
    rw [hdr, hun]
    exact ⟨fun h => step _ (i1 h), fun h => step _ (i2 h)⟩
theorem unpack_bad {d n : Int} {b : List Int} (h : d < 1 ∨ 32 < d ∨ n < 0 ∨ 1048576 < n ∨ (b.length : Int) ≠ (d * n + 7) / 8) : Ev (fun k => bits_Unpack.f k d n b) ([], false) := by
  have e : Ev (fun k => bits_Unpack.j0 k d n b true) ([], false) := Ev.last fun k => by rw [bits_Unpack.j0, if_pos rfl]
  refine Ev.congr (fun k => ?_) e
  rw [bits_Unpack.f]
  by_cases c1 : d < 1
  · rw [if_pos c1]
  · rw [if_neg c1]
    by_cases c2 : d > 32
    · rw [if_pos c2]
    · rw [if_neg c2]
      by_cases c3 : n < 0
      · rw [if_pos c3]
      · rw [if_neg c3]
        by_cases c4 : n > 1048576
        · rw [if_pos c4]
        · rw [if_neg c4, size_ev (by omega) (by omega) (by omega) (by omega), Option.bind_some, show (((b.length : Int) != (d * n + 7) / 8)) = true from bne_iff_ne.2 (by omega)]
/-- What Unpack tells of bytes of the right number. -/
theorem unpack_good {d n : Nat} {b : List Int} (h1 : 1 ≤ d) (h2 : d ≤ 32) (h3 : n ≤ 1048576) (hb : IsBytes b) (hl : (b.length : Int) = ((d : Int) * (n : Int) + 7) / 8) :
    ((∀ x ∈ (bits8 b).drop (n * d), x = 0) → Ev (fun k => bits_Unpack.f k (d : Int) (n : Int) b) (unp d n (bits8 b), true)) ∧
    ((¬ ∀ x ∈ (bits8 b).drop (n * d), x = 0) → Ev (fun k => bits_Unpack.f k (d : Int) (n : Int) b) ([], false)) := by
  have hnd : ((n * d : Nat) : Int) = (d : Int) * (n : Int) := by rw [Int.natCast_mul, Int.mul_comm]
  have step : ∀ r, Ev (fun k => bits_Unpack.l0 k (d : Int) b (List.replicate n 0) 0 0 (n : Int) 0) r → Ev (fun k => bits_Unpack.f k (d : Int) (n : Int) b) r := fun r h => by
    have e : Ev (fun k => bits_Unpack.j0 k (d : Int) (n : Int) b false) r := Ev.step' h fun k => by
      rw [bits_Unpack.j0, if_neg (by decide), if_pos (by omega), if_pos (by omega)]
      rfl
    refine Ev.congr (fun k => ?_) e
    rw [bits_Unpack.f, if_neg (by omega), if_neg (by omega), if_neg (by omega), if_neg (by omega), size_ev (by omega) (by omega) (by omega) (by omega), Option.bind_some, show (((b.length : Int) != ((d : Int) * (n : Int) + 7) / 8)) = false from bne_eq_false_iff_eq.2 hl]
  obtain ⟨a, c⟩ := unpack_l0 d h1 h2 n h3 n 0 0 b 0 [] (by omega) (by omega) (by omega) hb (by omega) (by simp) rfl (by omega) (by omega)
  simp only [bitsN, List.nil_append] at a c
  exact ⟨fun h => step _ (a h), fun h => step _ (c h)⟩

/-! ### the reference -/
theorem rsize_ev {d n : Int} : Ev (fun k => pyxref05_Size.f k d n) (if d < 1 ∨ 32 < d ∨ n < 0 ∨ 1048576 < n then 0 else (d * n + 7) / 8) := by
  have et : Ev (fun k => pyxref05_Size.j0 k d n true) 0 := Ev.last fun k => by rw [pyxref05_Size.j0, if_pos rfl]
  by_cases c : d < 1 ∨ 32 < d ∨ n < 0 ∨ 1048576 < n
  · rw [if_pos c]
    refine Ev.congr (fun k => ?_) et
    rw [pyxref05_Size.f]
    by_cases c1 : d < 1
    · rw [if_pos c1]
    · rw [if_neg c1]
      by_cases c2 : d > 32
      · rw [if_pos c2]
      · rw [if_neg c2]
        by_cases c3 : n < 0
        · rw [if_pos c3]
        · rw [if_neg c3, decide_eq_true (by omega)]
  · rw [if_neg c]
    have h5 : d * n ≤ 32 * 1048576 := Int.mul_le_mul (by omega) (by omega) (by omega) (by omega)
    have h6 : 0 ≤ d * n := Int.mul_nonneg (by omega) (by omega)
    have e : Ev (fun k => pyxref05_Size.j0 k d n false) ((d * n + 7) / 8) := Ev.last fun k => by
      rw [pyxref05_Size.j0, if_neg (by decide), w64 (x := d * n) (by omega) (by omega), tmod_nn h6, tdiv_nn h6, w64 (x := d * n / 8) (by omega) (by omega)]
      by_cases c5 : d * n % 8 > 0
      · rw [if_pos c5, w64 (by omega) (by omega)]
        congr 1
        omega
      · rw [if_neg c5]
        congr 1
        omega
    refine Ev.congr (fun k => ?_) e
    rw [pyxref05_Size.f, if_neg (by omega), if_neg (by omega), if_neg (by omega), decide_eq_false (by omega)]
theorem size_all (d n : Int) : bits_Size.f d n = some (if d < 1 ∨ 32 < d ∨ n < 0 ∨ 1048576 < n then 0 else (d * n + 7) / 8) := by
  by_cases c : d < 1 ∨ 32 < d ∨ n < 0 ∨ 1048576 < n
  · rw [if_pos c, bits_Size.f]
    by_cases c1 : d < 1
    · rw [if_pos c1]
    · rw [if_neg c1]
      by_cases c2 : d > 32
      · rw [if_pos c2]
      · rw [if_neg c2]
        by_cases c3 : n < 0
        · rw [if_pos c3]
        · rw [if_neg c3, if_pos (by omega)]
  · rw [if_neg c]
    exact size_ev (by omega) (by omega) (by omega) (by omega)
theorem rbits_l1 (b : List Int) (i : Nat) (hi : i < 4611686018427387904) : ∀ (m j : Nat) (x : Int) (all : List Int), 8 - j = m → j ≤ 8 → 0 ≤ x → x < 256 → all.length + m < 17592186044416 → ∀ r,
    Ev (fun k => pyxref05_Bits.l0 k b (all ++ bitsN m x) ((i + 1 : Nat) : Int)) r → Ev (fun k => pyxref05_Bits.l1 k b all (i : Int) x (j : Int)) r := by
  intro m
  induction m with
  | zero =>
    intro j x all e h1 h3 h4 h5 r h
    refine Ev.step' h fun k => ?_
    rw [pyxref05_Bits.l1, if_neg (by omega), wsucc (by omega)]
    simp [bitsN]
  | succ m ih =>
    intro j x all e h1 h3 h4 h5 r h
    have h6 := ih (j + 1) (x / 2) (all ++ [x % 2]) (by omega) (by omega) (by omega) (by omega) (by simp; omega) r (by rw [List.append_assoc]; exact h)
    exact Ev.step' h6 fun k => by
      rw [pyxref05_Bits.l1, if_pos (by omega), if_pos (by omega), tmod_nn h3, tdiv_nn h3, w64 (x := x / 2) (by omega) (by omega), wsucc (by omega)]
theorem rbits_l0 (b : List Int) (hb : IsBytes b) (hl : b.length < 1073741824) : ∀ (m i : Nat) (all : List Int), b.length - i = m → i ≤ b.length → all.length = 8 * i →
    Ev (fun k => pyxref05_Bits.l0 k b all (i : Int)) (all ++ bits8 (b.drop i)) := by
  intro m
  induction m with
  | zero =>
    intro i all e hi ha
    rw [List.drop_eq_nil_of_le (by omega)]
    exact Ev.last fun k => by rw [pyxref05_Bits.l0, if_neg (by omega)]; simp [bits8]
  | succ m ih =>
    intro i all e hi ha
    have hlt : i < b.length := by omega
    have hx := hb _ (rd_mem hlt)
    have h1 := ih (i + 1) (all ++ bitsN 8 (rd b i)) (by omega) (by omega) (by simp [bitsN_len]; omega)
    have h2 := rbits_l1 b i (by omega) 8 0 (rd b i) all (by omega) (by omega) hx.1 hx.2 (by omega) _ h1
    rw [drop_rd b hlt, bits8_cons, ← List.append_assoc]
    exact Ev.step' h2 fun k => by
      rw [pyxref05_Bits.l0, if_pos (by omega), if_pos (by omega), w64 (by omega) (by omega)]
      rfl
theorem rbits_ev {b : List Int} (hb : IsBytes b) (hl : b.length < 1073741824) : Ev (fun k => pyxref05_Bits.f k b) (bits8 b) := by
  have := rbits_l0 b hb hl b.length 0 [] (by omega) (by omega) rfl
  simpa [pyxref05_Bits.f] using this
theorem runpack_l1 (d : Nat) (hd1 : 1 ≤ d) (hd : d ≤ 32) (n : Nat) (hn : n ≤ 1048576) (all : List Int) (hb : IsBits all) (hal : all.length < 1073741824) (out : List Int) (i : Nat) (hi : i * d + d ≤ all.length) (hin : i < n) (ho : out.length < 35184372088832) (r : List Int × Bool)
    (h : Ev (fun k => pyxref05_Unpack.l0 k (d : Int) (n : Int) all (out ++ [valN ((all.drop (i * d)).take d)]) ((i + 1 : Nat) : Int)) r) : ∀ t : Nat, t ≤ d →
    Ev (fun k => pyxref05_Unpack.l1 k (d : Int) (n : Int) all out (i : Int) (valN ((all.drop (i * d + t)).take (d - t))) ((t : Int) - 1)) r := by
  intro t
  have hmul : (i : Int) * (d : Int) = ((i * d : Nat) : Int) := (Int.natCast_mul i d).symm
  induction t with
  | zero =>
    intro _
    refine Ev.step' h fun k => ?_
    rw [pyxref05_Unpack.l1, if_neg (by omega), if_pos ho, wsucc (by omega)]
    rfl
  | succ t ih =>
    intro ht
    have h1 := ih (by omega)
    have hlt : i * d + t < all.length := by omega
    have e : (all.drop (i * d + t)).take (d - t) = rd all ((i * d + t : Nat) : Int) :: (all.drop (i * d + (t + 1))).take (d - (t + 1)) := by
      rw [drop_rd all hlt, show d - t = (d - (t + 1)) + 1 by omega, List.take_succ_cons]
      rfl
    have hv := valN_nonneg ((hb.drop (i * d + (t + 1))).take (d - (t + 1)))
    have h2 : ((all.drop (i * d + (t + 1))).take (d - (t + 1))).length ≤ 31 := Nat.le_trans (List.length_take_le _ _) (by omega)
    have h3 := p2_le h2
    rw [show (2 : Int) ^ 31 = 2147483648 from rfl] at h3
    have hr := hb _ (rd_mem hlt)
    rw [e] at h1
    refine Ev.step' h1 fun k => ?_
    rw [pyxref05_Unpack.l1, if_pos (by omega), show ((t + 1 : Nat) : Int) - 1 = (t : Int) by omega, hmul, w64 (x := ((i * d : Nat) : Int)) (by omega) (by omega), w64 (x := ((i * d : Nat) : Int) + t) (by omega) (by omega), show ((i * d : Nat) : Int) + (t : Int) = ((i * d + t : Nat) : Int) by omega, if_pos (by omega), if_pos (by omega), w64 (x := (t : Int) - 1) (by omega) (by omega)]
    simp only [valN]
    congr 1
    omega
theorem runpack_l2 (all : List Int) (hal : all.length < 1073741824) (out : List Int) : ∀ (m i : Nat), all.length - i = m →
    ((∀ x ∈ all.drop i, x = 0) → Ev (fun k => pyxref05_Unpack.l2 k all out (i : Int)) (out, true)) ∧ ((¬ ∀ x ∈ all.drop i, x = 0) → i < 1152921504606846976 → Ev (fun k => pyxref05_Unpack.l2 k all out (i : Int)) ([], false)) := by
  intro m
  induction m with
  | zero =>
    intro i e
    have e1 : all.drop i = [] := List.drop_eq_nil_of_le (by omega)
    rw [e1]
    exact ⟨fun _ => Ev.last fun k => by rw [pyxref05_Unpack.l2, if_neg (by omega)], fun h _ => absurd (fun x hx => by simp at hx) h⟩
  | succ m ih =>
    intro i e
    have hlt : i < all.length := by omega
    obtain ⟨i1, i2⟩ := ih (i + 1) (by omega)
    rw [drop_rd all hlt]
    by_cases c : rd all i = 0
    · refine ⟨fun h => ?_, fun h hi => ?_⟩
      · exact Ev.step' (i1 fun x hx => h x (List.mem_cons_of_mem _ hx)) fun k => by rw [pyxref05_Unpack.l2, if_pos (by omega), if_pos (by omega), if_pos c, wsucc (by omega)]
      · refine Ev.step' (i2 (fun h' => h fun x hx => ?_) (by omega)) fun k => by rw [pyxref05_Unpack.l2, if_pos (by omega), if_pos (by omega), if_pos c, wsucc (by omega)]
        rcases List.mem_cons.1 hx with rfl | hx
        · exact c
        · exact h' x hx
    · refine ⟨fun h => absurd (h _ (List.mem_cons_self ..)) c, fun _ _ => Ev.last fun k => by rw [pyxref05_Unpack.l2, if_pos (by omega), if_pos (by omega), if_neg c]⟩
theorem runpack_l0 (d : Nat) (hd1 : 1 ≤ d) (hd : d ≤ 32) (n : Nat) (hn : n ≤ 1048576) (all : List Int) (hb : IsBits all) (hal : all.length < 1073741824) (hnd : n * d ≤ all.length) : ∀ (m i : Nat) (out : List Int), n - i = m → i ≤ n → out.length = i →
    ((∀ x ∈ all.drop (n * d), x = 0) → Ev (fun k => pyxref05_Unpack.l0 k (d : Int) (n : Int) all out (i : Int)) (out ++ unp d m (all.drop (i * d)), true)) ∧
    ((¬ ∀ x ∈ all.drop (n * d), x = 0) → Ev (fun k => pyxref05_Unpack.l0 k (d : Int) (n : Int) all out (i : Int)) ([], false)) := by
  intro m
  have hmul : (n : Int) * (d : Int) = ((n * d : Nat) : Int) := (Int.natCast_mul n d).symm
  induction m with
  | zero =>
    intro i out e hi ho
    obtain ⟨a, b⟩ := runpack_l2 all hal out _ (n * d) rfl
    have e0 : out ++ unp d 0 (all.drop (i * d)) = out := by simp [unp]
    rw [e0]
    refine ⟨fun h => ?_, fun h => ?_⟩
    · exact Ev.step' (a h) fun k => by rw [pyxref05_Unpack.l0, if_neg (by omega), hmul, w64 (by omega) (by omega)]
    · exact Ev.step' (b h (by omega)) fun k => by rw [pyxref05_Unpack.l0, if_neg (by omega), hmul, w64 (by omega) (by omega)]
  | succ m ih =>
    intro i out e hi ho
    have hid : i * d + d ≤ n * d := by rw [← Nat.succ_mul]; exact Nat.mul_le_mul_right _ (by omega)
    obtain ⟨i1, i2⟩ := ih (i + 1) (out ++ [valN ((all.drop (i * d)).take d)]) (by omega) (by omega) (by simp; omega)
    have step : ∀ r, Ev (fun k => pyxref05_Unpack.l0 k (d : Int) (n : Int) all (out ++ [valN ((all.drop (i * d)).take d)]) ((i + 1 : Nat) : Int)) r → Ev (fun k => pyxref05_Unpack.l0 k (d : Int) (n : Int) all out (i : Int)) r := fun r h => by
      have h1 := runpack_l1 d hd1 hd n hn all hb hal out i (by omega) (by omega) (by omega) r h d (by omega)
      rw [Nat.sub_self, List.take_zero] at h1
      refine Ev.step' h1 fun k => ?_
      rw [pyxref05_Unpack.l0, if_pos (by omega), w64 (by omega) (by omega)]
      rfl
    refine ⟨fun h => step _ ?_, fun h => step _ (i2 h)⟩
    have := i1 h
    simp only [unp]
    rw [List.drop_drop, ← Nat.succ_mul]
    simpa using this
theorem runpack_bad {d n : Int} {b : List Int} (h : d < 1 ∨ 32 < d ∨ n < 0 ∨ 1048576 < n ∨ (b.length : Int) ≠ (d * n + 7) / 8) : Ev (fun k => pyxref05_Unpack.f k d n b) ([], false) := by
  have e : Ev (fun k => pyxref05_Unpack.j0 k d n b true) ([], false) := Ev.last fun k => by rw [pyxref05_Unpack.j0, if_pos rfl]
  by_cases c : d < 1 ∨ 32 < d ∨ n < 0 ∨ 1048576 < n
  · refine Ev.congr (fun k => ?_) e
    rw [pyxref05_Unpack.f]
    by_cases c1 : d < 1
    · rw [if_pos c1]
    · rw [if_neg c1]
      by_cases c2 : d > 32
      · rw [if_pos c2]
      · rw [if_neg c2]
        by_cases c3 : n < 0
        · rw [if_pos c3]
        · rw [if_neg c3, if_pos (by omega)]
  · have hs := rsize_ev (d := d) (n := n)
    rw [if_neg c] at hs
    have e2 : Ev (fun k => (pyxref05_Size.f k d n).bind fun t200 => (pyxref05_Unpack.j0 k d n b ((b.length : Int) != t200))) ([], false) := by
      refine Ev.bind hs ?_
      rw [show (((b.length : Int) != (d * n + 7) / 8)) = true from bne_iff_ne.2 (by omega)]
      exact e
    refine Ev.congr (fun k => ?_) e2
    rw [pyxref05_Unpack.f, if_neg (by omega), if_neg (by omega), if_neg (by omega), if_neg (by omega)]
theorem runpack_good {d n : Nat} {b : List Int} (h1 : 1 ≤ d) (h2 : d ≤ 32) (h3 : n ≤ 1048576) (hb : IsBytes b) (hl : (b.length : Int) = ((d : Int) * (n : Int) + 7) / 8) :
    ((∀ x ∈ (bits8 b).drop (n * d), x = 0) → Ev (fun k => pyxref05_Unpack.f k (d : Int) (n : Int) b) (unp d n (bits8 b), true)) ∧
    ((¬ ∀ x ∈ (bits8 b).drop (n * d), x = 0) → Ev (fun k => pyxref05_Unpack.f k (d : Int) (n : Int) b) ([], false)) := by
  have hnd : ((n * d : Nat) : Int) = (d : Int) * (n : Int) := by rw [Int.natCast_mul, Int.mul_comm]
  have hb2 : n * d ≤ 1048576 * 32 := Nat.mul_le_mul h3 h2
  have step : ∀ r, Ev (fun k => pyxref05_Unpack.l0 k (d : Int) (n : Int) (bits8 b) [] 0) r → Ev (fun k => pyxref05_Unpack.f k (d : Int) (n : Int) b) r := fun r h => by
    have e : Ev (fun k => pyxref05_Unpack.j0 k (d : Int) (n : Int) b false) r := by
      have e2 : Ev (fun k => (pyxref05_Bits.f k b).bind fun t201 => (pyxref05_Unpack.l0 k (d : Int) (n : Int) t201 ([] : List Int) 0)) r := Ev.bind (rbits_ev hb (by omega)) h
      exact Ev.step' e2 fun k => by rw [pyxref05_Unpack.j0, if_neg (by decide)]
    have hs := rsize_ev (d := (d : Int)) (n := (n : Int))
    rw [if_neg (by omega)] at hs
    have e2 : Ev (fun k => (pyxref05_Size.f k (d : Int) (n : Int)).bind fun t200 => (pyxref05_Unpack.j0 k (d : Int) (n : Int) b ((b.length : Int) != t200))) r := by
      refine Ev.bind hs ?_
      rw [show (((b.length : Int) != ((d : Int) * (n : Int) + 7) / 8)) = false from bne_eq_false_iff_eq.2 hl]
      exact e
    refine Ev.congr (fun k => ?_) e2
    rw [pyxref05_Unpack.f, if_neg (by omega), if_neg (by omega), if_neg (by omega), if_neg (by omega)]
  obtain ⟨a, c⟩ := runpack_l0 d h1 h2 n h3 (bits8 b) (bits8_bits b) (by rw [bits8_len]; omega) (by rw [bits8_len]; omega) n 0 [] (by omega) (by omega) rfl
  simp only [Nat.zero_mul, List.drop_zero, List.nil_append] at a c
  exact ⟨fun h => step _ (a h), fun h => step _ (c h)⟩
end Go.Proofs.Ytifejkgppdjeoaa.PBits
