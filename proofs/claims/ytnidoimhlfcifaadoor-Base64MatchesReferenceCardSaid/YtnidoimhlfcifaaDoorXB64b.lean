/- The reference's encoding in base 64, and that it is the implementation's; no condition. -/
import Derived.Test.YtnidoimhlfcifaaDoorXB64a
namespace Go.Proofs.YtnidoimhlfcifaaDoor.PB64
open Go.RowKit Go.Proofs.YtnidoimhlfcifaaDoorW.PrintWords Go.Proofs.YtnidoimhlfcifaaDoorW.PrintMore Go.Proofs.YtnidoimhlfcifaaDoorW.Pu
set_option linter.unusedVariables false

theorem rbits_l1 (l : List Int) (i : Nat) (hi : i < l.length) (hl : l.length < 1073741824) (h0 : 0 ≤ rd l (i : Int)) (h1 : rd l (i : Int) < 256) : ∀ (t : Nat) (all : List Int), t ≤ 8 → all.length + t < 17592186044416 → ∀ r,
    Ev (fun k => pyxref04_Bits.l0 k l (all ++ bmN t (rd l (i : Int))) ((i + 1 : Nat) : Int)) r → Ev (fun k => pyxref04_Bits.l1 k l all (i : Int) ((t : Int) - 1)) r := by
  intro t
  induction t with
  | zero =>
    intro all ht hal r h
    refine Ev.step' h fun k => ?_
    rw [pyxref04_Bits.l1, if_neg (by omega), wsucc (by omega)]
    simp [bmN]
  | succ t ih =>
    intro all ht hal r h
    have h6 := ih (all ++ [rd l (i : Int) / 2 ^ t % 2]) (by omega) (by simp; omega) r (by rw [List.append_assoc]; exact h)
    have hd := div_p2_nonneg t h0
    have hle : rd l (i : Int) / 2 ^ t ≤ rd l (i : Int) := Int.ediv_le_self _ h0
    refine Ev.step' h6 fun k => ?_
    have e : ((t + 1 : Nat) : Int) - 1 = (t : Int) := by omega
    rw [pyxref04_Bits.l1, e, if_pos (by omega), if_pos (by omega), if_pos (by omega), wu64 (by omega) (by omega), if_pos (by omega), if_pos (by omega), w64 (x := rd l (i : Int)) (by omega) (by omega), shr_nat (by simp [IntKind.bits]; omega), and1_i64 hd (by omega), w64 (by omega) (by omega)]
theorem rbits_l0 (l : List Int) (hb : IsBytes l) (hl : l.length < 1073741824) : ∀ (m i : Nat) (all : List Int), l.length - i = m → i ≤ l.length → all.length = 8 * i →
    Ev (fun k => pyxref04_Bits.l0 k l all (i : Int)) (all ++ bm8 (l.drop i)) := by
  intro m
  induction m with
  | zero =>
    intro i all e hi ha
    rw [List.drop_eq_nil_of_le (by omega)]
    exact Ev.last fun k => by rw [pyxref04_Bits.l0, if_neg (by omega)]; simp [bm8]
  | succ m ih =>
    intro i all e hi ha
    have hlt : i < l.length := by omega
    have hx := hb _ (rd_mem hlt)
    have h1 := ih (i + 1) (all ++ bmN 8 (rd l (i : Int))) (by omega) (by omega) (by simp [bmN_len]; omega)
    have h2 := rbits_l1 l i hlt hl hx.1 hx.2 8 all (by omega) (by omega) _ h1
    rw [drop_rd l hlt, bm8_cons, ← List.append_assoc]
    exact Ev.step' h2 fun k => by rw [pyxref04_Bits.l0, if_pos (by omega)]; rfl
theorem rbits_ev {l : List Int} (hb : IsBytes l) (hl : l.length < 1073741824) : Ev (fun k => pyxref04_Bits.f k l) (bm8 l) := by
  have := rbits_l0 l hb hl l.length 0 [] (by omega) (by omega) rfl
  simpa [pyxref04_Bits.f] using this

/-! ### groups of six bits -/
def v6 (R : List Int) : Int := valM ((R ++ List.replicate 6 0).take 6) 0
theorem valM_snoc (l : List Int) (b v : Int) : valM (l ++ [b]) v = 2 * valM l v + b := by simp [valM]
theorem bmN_bits (n : Nat) (x : Int) : IsBits (bmN n x) := by
  induction n with
  | zero => intro b hb; simp [bmN] at hb
  | succ n ih =>
    intro b hb
    simp only [bmN, List.mem_cons] at hb
    rcases hb with rfl | hb
    · omega
    · exact ih b hb
theorem bm8_bits (l : List Int) : IsBits (bm8 l) := by
  intro b hb
  obtain ⟨a, _, h⟩ := List.mem_flatMap.1 hb
  exact bmN_bits _ _ b h
theorem valM_bd : ∀ (l : List Int) (v : Int), IsBits l → v * 2 ^ l.length ≤ valM l v ∧ valM l v < (v + 1) * 2 ^ l.length := by
  intro l
  induction l with
  | nil => intro v _; simp [valM]; omega
  | cons b l ih =>
    intro v h
    have hb := h b (by simp)
    have h1 := ih (2 * v + b) (fun c hc => h c (List.mem_cons_of_mem _ hc))
    have hp := p2_pos l.length
    simp only [valM, List.foldl_cons, List.length_cons, p2_succ] at h1 ⊢
    have e1 : v * (2 * 2 ^ l.length) ≤ (2 * v + b) * 2 ^ l.length := by
      rw [← Int.mul_assoc]
      exact Int.mul_le_mul_of_nonneg_right (by omega) (by omega)
    have e2 : (2 * v + b + 1) * 2 ^ l.length ≤ (v + 1) * (2 * 2 ^ l.length) := by
      rw [← Int.mul_assoc]
      exact Int.mul_le_mul_of_nonneg_right (by omega) (by omega)
    omega
theorem pad_bits {R : List Int} (h : IsBits R) (m : Nat) : IsBits (R ++ List.replicate m 0) := by
  intro b hb
  rcases List.mem_append.1 hb with hb | hb
  · exact h b hb
  · exact .inl (List.mem_replicate.1 hb).2
theorem v6_bd {R : List Int} (h : IsBits R) : 0 ≤ v6 R ∧ v6 R < 64 := by
  have h1 := valM_bd ((R ++ List.replicate 6 0).take 6) 0 ((pad_bits h 6).take 6)
  have h2 : ((R ++ List.replicate 6 0).take 6).length = 6 := by simp
  rw [h2, show (2 : Int) ^ 6 = 64 from rfl] at h1
  unfold v6
  omega
theorem take_pad_succ {R : List Int} {s : Nat} (hs : s < 6) : (R ++ List.replicate 6 0).take (s + 1) = (R ++ List.replicate 6 0).take s ++ [if s < R.length then rd R (s : Int) else 0] := by
  have hl : s < (R ++ List.replicate 6 (0 : Int)).length := by simp; omega
  rw [List.take_succ_eq_append_getElem hl]
  congr 2
  by_cases c : s < R.length
  · rw [if_pos c, rd_get c, List.getElem_append_left c]
  · rw [if_neg c, List.getElem_append_right (by omega), List.getElem_replicate]
/-- The digits of a list of bits. -/
def dg6 (a : Int) : Nat → List Int → List Int
  | 0, _ => []
  | n + 1, R => if R = [] then [] else dig a (v6 R) :: dg6 a n (R.drop 6)
theorem renc_l1 (a : Int) (L : List Int) (hL : IsBits L) (hl : L.length < 4611686018427387000) (out : List Int) (ho : out.length < 140737488355328) (i : Nat) (hi : i < L.length) (r : ByteArray)
    (h : Ev (fun k => pyxref04_Encode.l0 k a L (out ++ [dig a (v6 (L.drop i))]) ((i + 6 : Nat) : Int)) r) : ∀ (m s : Nat), s + m = 6 →
    Ev (fun k => pyxref04_Encode.l1 k a L out (i : Int) (valM ((L.drop i ++ List.replicate 6 0).take s) 0) ((i + s : Nat) : Int)) r := by
  intro m
  have e6 : wrap64 ((i : Int) + 6) = ((i + 6 : Nat) : Int) := by rw [w64 (by omega) (by omega)]; rfl
  induction m with
  | zero =>
    intro s hs
    obtain rfl : s = 6 := by omega
    have h2 : Ev (fun k => (pyxref04_Digit.f k a (v6 (L.drop i))).bind fun t151 => (if out.length < 140737488355328 then (pyxref04_Encode.l0 k a L (out ++ [t151]) (wrap64 ((i : Int) + 6))) else (none))) r := by
      refine Ev.bind (rdigit_ev a _) ?_
      rw [e6]
      exact Ev.congr (fun k => by rw [if_pos ho]) h
    exact Ev.step' h2 fun k => by rw [pyxref04_Encode.l1, e6, if_neg (by omega)]; rfl
  | succ m ih =>
    intro s hs
    have h1 := ih (s + 1) (by omega)
    rw [take_pad_succ (by omega), valM_snoc] at h1
    have hbd := valM_bd ((L.drop i ++ List.replicate 6 0).take s) 0 ((pad_bits (hL.drop i) 6).take s)
    have hln : ((L.drop i ++ List.replicate 6 (0 : Int)).take s).length ≤ 6 := Nat.le_trans (List.length_take_le _ _) (by omega)
    have hp := p2_le hln
    rw [show (2 : Int) ^ 6 = 64 from rfl] at hp
    have e7 : wrap64 (((i + s : Nat) : Int) + 1) = ((i + (s + 1) : Nat) : Int) := by rw [wsucc (by omega)]; rfl
    have e8 : wrap64 (2 * valM ((L.drop i ++ List.replicate 6 0).take s) 0) = 2 * valM ((L.drop i ++ List.replicate 6 0).take s) 0 := w64 (by omega) (by omega)
    by_cases c : i + s < L.length
    · have hd : s < (L.drop i).length := by simp; omega
      have hrd : rd (L.drop i) (s : Int) = rd L ((i + s : Nat) : Int) := by
        rw [rd_get hd, rd_get c, List.getElem_drop]
      have hb := hL _ (rd_mem c)
      rw [if_pos hd, hrd] at h1
      exact Ev.step' h1 fun k => by rw [pyxref04_Encode.l1, e6, if_pos (by omega), if_pos (by omega), if_pos (by omega), e8, w64 (x := 2 * _ + _) (by omega) (by omega), e7]
    · have hd : ¬ s < (L.drop i).length := by simp; omega
      rw [if_neg hd, Int.add_zero] at h1
      exact Ev.step' h1 fun k => by rw [pyxref04_Encode.l1, e6, if_pos (by omega), if_neg (by omega), e8, e7]
theorem renc_l0 (a : Int) (L : List Int) (hL : IsBits L) (hl : L.length < 1099511627776) (r : ByteArray) : ∀ (m i : Nat) (out : List Int), L.length ≤ i + 6 * m → out.length ≤ i →
    Ev (fun k => pyxref04_Encode.l2 k a (out ++ dg6 a m (L.drop i))) r → Ev (fun k => pyxref04_Encode.l0 k a L out (i : Int)) r := by
  intro m
  induction m with
  | zero =>
    intro i out h1 h2 h
    exact Ev.step' h fun k => by rw [pyxref04_Encode.l0, if_neg (by omega)]; simp [dg6]
  | succ m ih =>
    intro i out h1 h2 h
    by_cases c : i < L.length
    · have hne : L.drop i ≠ [] := by intro h'; have := congrArg List.length h'; simp at this; omega
      simp only [dg6, if_neg hne] at h
      rw [List.drop_drop] at h
      have h3 := ih (i + 6) (out ++ [dig a (v6 (L.drop i))]) (by omega) (by simp; omega) (by simpa using h)
      have h4 := renc_l1 a L hL (by omega) out (by omega) i c r h3 6 0 (by omega)
      exact Ev.step' h4 fun k => by rw [pyxref04_Encode.l0, if_pos (by omega)]; simp [valM]
    · have he : L.drop i = [] := List.drop_eq_nil_of_le (by omega)
      simp only [dg6, if_pos he] at h
      exact Ev.step' h fun k => by rw [pyxref04_Encode.l0, if_neg (by omega)]; simp
theorem renc_l2 : ∀ (z : Nat) (out : List Int), z < 4 → (out.length + z) % 4 = 0 → out.length + z < 140737488355328 → Ev (fun k => pyxref04_Encode.l2 k 1 out) (strOfNums (out ++ List.replicate z 61)) := by
  intro z
  induction z with
  | zero => intro out h1 h2 h3; exact Ev.last fun k => by rw [pyxref04_Encode.l2, if_pos rfl, if_pos (by omega)]; simp
  | succ z ih =>
    intro out h1 h2 h3
    have h := ih (out ++ [61]) (by omega) (by simp; omega) (by simp; omega)
    rw [List.append_assoc] at h
    exact Ev.step' h fun k => by rw [pyxref04_Encode.l2, if_pos rfl, if_neg (by omega), if_pos (by omega)]
/-- The encoding, as a list of numbers. -/
def encN (a : Int) (l : List Int) : List Int :=
  let ds := dg6 a (2 * l.length) (bm8 l)
  if a = 1 then ds ++ List.replicate ((4 - ds.length % 4) % 4) 61 else ds
theorem dg6_len (a : Int) : ∀ (n : Nat) (R : List Int), (dg6 a n R).length ≤ n := by
  intro n
  induction n with
  | zero => intro R; simp [dg6]
  | succ n ih => intro R; simp only [dg6]; split <;> simp; exact ih _
theorem renc_ev {a : Int} (ha : a = 1 ∨ a = 2) {l : List Int} (hb : IsBytes l) (hl : l.length < 1073741824) : Ev (fun k => pyxref04_Encode.f k a l) (strOfNums (encN a l)) := by
  have hlen := dg6_len a (2 * l.length) (bm8 l)
  have h2 : Ev (fun k => pyxref04_Encode.l2 k a (dg6 a (2 * l.length) (bm8 l))) (strOfNums (encN a l)) := by
    rcases ha with rfl | rfl
    · have := renc_l2 ((4 - (dg6 1 (2 * l.length) (bm8 l)).length % 4) % 4) (dg6 1 (2 * l.length) (bm8 l)) (by omega) (by omega) (by omega)
      simpa [encN] using this
    · exact Ev.last fun k => by rw [pyxref04_Encode.l2, if_neg (by omega)]; simp [encN]
  have h0 := renc_l0 a (bm8 l) (bm8_bits l) (by rw [bm8_len]; omega) _ (2 * l.length) 0 [] (by rw [bm8_len]; omega) (by simp) (by simpa using h2)
  have hj : Ev (fun k => pyxref04_Encode.j0 k a (bm8 l) false) (strOfNums (encN a l)) := Ev.step' h0 fun k => by rw [pyxref04_Encode.j0, if_neg (by decide)]; rfl
  refine Ev.bind (rbits_ev hb hl) ?_
  rcases ha with rfl | rfl
  · exact Ev.congr (fun k => by rw [if_pos rfl]) hj
  · exact Ev.congr (fun k => by rw [if_neg (by decide)]; rfl) hj
theorem renc_no {a : Int} (h1 : a ≠ 1) (h2 : a ≠ 2) {l : List Int} (hb : IsBytes l) (hl : l.length < 1073741824) : Ev (fun k => pyxref04_Encode.f k a l) ⟨#[]⟩ := by
  have hj : Ev (fun k => pyxref04_Encode.j0 k a (bm8 l) true) ⟨#[]⟩ := Ev.last fun k => by rw [pyxref04_Encode.j0, if_pos rfl]
  refine Ev.bind (rbits_ev hb hl) ?_
  refine Ev.congr (fun k => ?_) hj
  rw [if_neg h1, show (a != 2) = true from bne_iff_ne.2 h2]

/-! ### the implementation's encoding is the same -/
theorem v6_cons (b0 b1 b2 b3 b4 b5 : Int) (R : List Int) : v6 (b0 :: b1 :: b2 :: b3 :: b4 :: b5 :: R) = 32 * b0 + 16 * b1 + 8 * b2 + 4 * b3 + 2 * b4 + b5 := by
  have : v6 (b0 :: b1 :: b2 :: b3 :: b4 :: b5 :: R) = 2 * (2 * (2 * (2 * (2 * (2 * 0 + b0) + b1) + b2) + b3) + b4) + b5 := rfl
  rw [this]; omega
theorem v6_two (b0 b1 : Int) : v6 [b0, b1] = 32 * b0 + 16 * b1 := by
  have : v6 [b0, b1] = 2 * (2 * (2 * (2 * (2 * (2 * 0 + b0) + b1) + 0) + 0) + 0) + 0 := rfl
  rw [this]; omega
theorem v6_four (b0 b1 b2 b3 : Int) : v6 [b0, b1, b2, b3] = 32 * b0 + 16 * b1 + 8 * b2 + 4 * b3 := by
  have : v6 [b0, b1, b2, b3] = 2 * (2 * (2 * (2 * (2 * (2 * 0 + b0) + b1) + b2) + b3) + 0) + 0 := rfl
  rw [this]; omega
theorem bmN8 (x : Int) : bmN 8 x = [x / 128 % 2, x / 64 % 2, x / 32 % 2, x / 16 % 2, x / 8 % 2, x / 4 % 2, x / 2 % 2, x % 2] := by simp [bmN]
theorem dg6_three (a : Int) (n : Nat) (x y z : Int) (r : List Int) (hx : 0 ≤ x ∧ x < 256) (hy : 0 ≤ y ∧ y < 256) (hz : 0 ≤ z ∧ z < 256) :
    dg6 a (n + 4) (bm8 (x :: y :: z :: r)) = dig a (x / 4) :: dig a ((x * 16 + y / 16) % 64) :: dig a ((y * 4 + z / 64) % 64) :: dig a (z % 64) :: dg6 a n (bm8 r) := by
  simp only [bm8_cons, bmN8, List.cons_append, List.nil_append, dg6, reduceCtorEq, if_false, v6_cons, List.drop_succ_cons, List.drop_zero]
  rw [show 32 * (x / 128 % 2) + 16 * (x / 64 % 2) + 8 * (x / 32 % 2) + 4 * (x / 16 % 2) + 2 * (x / 8 % 2) + x / 4 % 2 = x / 4 by omega, show 32 * (x / 2 % 2) + 16 * (x % 2) + 8 * (y / 128 % 2) + 4 * (y / 64 % 2) + 2 * (y / 32 % 2) + y / 16 % 2 = (x * 16 + y / 16) % 64 by omega, show 32 * (y / 8 % 2) + 16 * (y / 4 % 2) + 8 * (y / 2 % 2) + 4 * (y % 2) + 2 * (z / 128 % 2) + z / 64 % 2 = (y * 4 + z / 64) % 64 by omega, show 32 * (z / 32 % 2) + 16 * (z / 16 % 2) + 8 * (z / 8 % 2) + 4 * (z / 4 % 2) + 2 * (z / 2 % 2) + z % 2 = z % 64 by omega]
theorem dg6_two (a : Int) (n : Nat) (x y : Int) (hx : 0 ≤ x ∧ x < 256) (hy : 0 ≤ y ∧ y < 256) :
    dg6 a (n + 4) (bm8 [x, y]) = [dig a (x / 4), dig a ((x * 16 + y / 16) % 64), dig a (y * 4 % 64)] := by
  simp only [bm8_cons, bmN8, List.cons_append, List.nil_append, dg6, reduceCtorEq, if_false, v6_cons, List.drop_succ_cons, List.drop_zero, show bm8 [] = [] from rfl, v6_four, List.drop_nil, if_true]
  rw [show 32 * (x / 128 % 2) + 16 * (x / 64 % 2) + 8 * (x / 32 % 2) + 4 * (x / 16 % 2) + 2 * (x / 8 % 2) + x / 4 % 2 = x / 4 by omega, show 32 * (x / 2 % 2) + 16 * (x % 2) + 8 * (y / 128 % 2) + 4 * (y / 64 % 2) + 2 * (y / 32 % 2) + y / 16 % 2 = (x * 16 + y / 16) % 64 by omega, show 32 * (y / 8 % 2) + 16 * (y / 4 % 2) + 8 * (y / 2 % 2) + 4 * (y % 2) = y * 4 % 64 by omega]
theorem dg6_one (a : Int) (n : Nat) (x : Int) (hx : 0 ≤ x ∧ x < 256) :
    dg6 a (n + 2) (bm8 [x]) = [dig a (x / 4), dig a (x * 16 % 64)] := by
  cases n with
  | zero =>
    simp only [bm8_cons, bmN8, List.cons_append, List.nil_append, dg6, reduceCtorEq, if_false, v6_cons, List.drop_succ_cons, List.drop_zero, show bm8 [] = [] from rfl, v6_two]
    congr 2
    · omega
    · congr 2
      omega
  | succ n =>
    simp only [bm8_cons, bmN8, List.cons_append, List.nil_append, dg6, reduceCtorEq, if_false, v6_cons, List.drop_succ_cons, List.drop_zero, show bm8 [] = [] from rfl, v6_two, List.drop_nil, if_true]
    congr 2
    · omega
    · congr 2
      omega
theorem dg6_more (a : Int) : ∀ (n m : Nat) (R : List Int), R.length ≤ 6 * n → dg6 a (n + m) R = dg6 a n R := by
  intro n
  induction n with
  | zero =>
    intro m R h
    have : R = [] := List.eq_nil_of_length_eq_zero (by omega)
    subst this
    cases m <;> simp [dg6]
  | succ n ih =>
    intro m R h
    rw [show n + 1 + m = (n + m) + 1 by omega]
    simp only [dg6]
    split
    · rfl
    · rw [ih m _ (by simp; omega)]
theorem b64d_dig {a v : Int} (ha : a = 1 ∨ a = 2) : b64d (tb a) v = b64u (dig a (v % 64)) := by
  unfold b64d dig
  rw [tb_size ha, if_pos (by omega)]
/-- The numbers of an encoding, by groups of three bytes. -/
def encI (a : Int) : List Int → List Int
  | x :: y :: z :: r => dig a (x / 4) :: dig a ((x * 16 + y / 16) % 64) :: dig a ((y * 4 + z / 64) % 64) :: dig a (z % 64) :: encI a r
  | [x, y] => [dig a (x / 4), dig a ((x * 16 + y / 16) % 64), dig a (y * 4 % 64)]
  | [x] => [dig a (x / 4), dig a (x * 16 % 64)]
  | [] => []
theorem encI_dg6 (a : Int) : ∀ (n : Nat) (l : List Int), l.length ≤ n → IsBytes l → dg6 a (2 * l.length) (bm8 l) = encI a l := by
  intro n
  induction n with
  | zero =>
    intro l h _
    have : l = [] := List.eq_nil_of_length_eq_zero (by omega)
    subst this
    rfl
  | succ n ih =>
    intro l h hb
    match l, h, hb with
    | [], _, _ => rfl
    | [x], _, hb =>
      have := dg6_one a 0 x (hb x (by simp))
      simpa [encI] using this
    | [x, y], _, hb =>
      have := dg6_two a 0 x y (hb x (by simp)) (hb y (by simp))
      simpa [encI] using this
    | x :: y :: z :: r, h, hb =>
      have h3 := dg6_three a (2 * r.length + 2) x y z r (hb x (by simp)) (hb y (by simp)) (hb z (by simp))
      have h4 := ih r (by simp at h; omega) (fun b hb' => hb b (by simp [hb']))
      rw [show 2 * (x :: y :: z :: r).length = 2 * r.length + 2 + 4 by simp; omega, h3, dg6_more a (2 * r.length) 2 _ (by rw [bm8_len]; omega), h4]
      rfl
theorem encI_len_mod (a : Int) : ∀ (n : Nat) (l : List Int), l.length ≤ n → (encI a l).length = l.length / 3 * 4 + (if l.length % 3 = 0 then 0 else l.length % 3 + 1) := by
  intro n
  induction n with
  | zero =>
    intro l h
    have : l = [] := List.eq_nil_of_length_eq_zero (by omega)
    subst this
    rfl
  | succ n ih =>
    intro l h
    match l, h with
    | [], _ => rfl
    | [x], _ => simp [encI]
    | [x, y], _ => simp [encI]
    | x :: y :: z :: r, h =>
      have h4 := ih r (by simp at h; omega)
      simp only [encI, List.length_cons, h4]
      split <;> split <;> omega
def padN (a : Int) (n : Nat) : List Int := if a = 1 then List.replicate ((3 - n % 3) % 3) 61 else []
theorem encN_eq (a : Int) (l : List Int) (hb : IsBytes l) : encN a l = encI a l ++ padN a l.length := by
  unfold encN padN
  simp only [encI_dg6 a l.length l (Nat.le_refl _) hb]
  by_cases c : a = 1
  · rw [if_pos c, if_pos c]
    congr 2
    rw [encI_len_mod a l.length l (Nat.le_refl _)]
    split <;> omega
  · rw [if_neg c, if_neg c, List.append_nil]
theorem b64enc_eq {a : Int} (ha : a = 1 ∨ a = 2) : ∀ (n : Nat) (l : List Int), l.length ≤ n → IsBytes l → b64enc a (tb a) l = (encI a l ++ padN a l.length).map b64u := by
  intro n
  induction n with
  | zero =>
    intro l h _
    have : l = [] := List.eq_nil_of_length_eq_zero (by omega)
    subst this
    rcases ha with rfl | rfl <;> rfl
  | succ n ih =>
    intro l h hb
    match l, h, hb with
    | [], _, _ => rcases ha with rfl | rfl <;> rfl
    | [x], _, hb =>
      have hx := hb x (by simp)
      have e : (x / 4) % 64 = x / 4 := by omega
      simp only [b64enc, encI, b64d_dig ha, e]
      rcases ha with rfl | rfl <;> rfl
    | [x, y], _, hb =>
      have hx := hb x (by simp)
      have e : (x / 4) % 64 = x / 4 := by omega
      simp only [b64enc, encI, b64d_dig ha, e]
      rcases ha with rfl | rfl <;> rfl
    | x :: y :: z :: r, h, hb =>
      have hx := hb x (by simp)
      have e : (x / 4) % 64 = x / 4 := by omega
      have h4 := ih r (by simp at h; omega) (fun b hb' => hb b (by simp [hb']))
      have e2 : padN a (x :: y :: z :: r).length = padN a r.length := by
        unfold padN
        rw [show (3 - (x :: y :: z :: r).length % 3) % 3 = (3 - r.length % 3) % 3 by simp only [List.length_cons]; omega]
      simp only [b64enc, encI, b64d_dig ha, e, h4, e2, List.cons_append, List.map_cons]
theorem enc_same {a : Int} (ha : a = 1 ∨ a = 2) {l : List Int} (hb : IsBytes l) : (⟨(b64enc a (tb a) l).toArray⟩ : ByteArray) = strOfNums (encN a l) := by
  rw [b64enc_eq ha l.length l (Nat.le_refl _) hb, encN_eq a l hb]
  rfl
theorem enc_ev {a : Int} (ha : a = 1 ∨ a = 2) {l : List Int} (hb : IsBytes l) (hl : l.length ≤ 1000000000) : base64_Encode.f a l = some (strOfNums (encN a l)) := by
  unfold base64_Encode.f
  have h0 : (tb a).data.toList ≠ [] := by
    intro h
    have := tb_size ha
    have h2 : (tb a).size = (tb a).data.toList.length := (Array.length_toList).symm
    rw [h2, h, List.length_nil] at this
    omega
  rw [table_eq, Option.bind_some, if_neg h0, if_pos hl, if_pos (tb_size ha), if_pos (fun x hx => hb x hx), enc_same ha hb]
theorem enc_no {a : Int} (h1 : a ≠ 1) (h2 : a ≠ 2) (l : List Int) : base64_Encode.f a l = some ⟨#[]⟩ := by
  unfold base64_Encode.f
  rw [table_eq, Option.bind_some, tb_no h1 h2]
  rfl
end Go.Proofs.YtnidoimhlfcifaaDoor.PB64
