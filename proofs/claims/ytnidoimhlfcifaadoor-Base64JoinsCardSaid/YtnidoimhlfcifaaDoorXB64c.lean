/- Decoding in base 64, by the implementation and by the reference; no condition. -/
import Derived.Test.YtnidoimhlfcifaaDoorXB64b
namespace Go.Proofs.YtnidoimhlfcifaaDoor.PB64
open Go.RowKit Go.Proofs.YtnidoimhlfcifaaDoorW.PrintWords Go.Proofs.YtnidoimhlfcifaaDoorW.PrintMore Go.Proofs.YtnidoimhlfcifaaDoorW.Pu
set_option linter.unusedVariables false
set_option linter.unusedSimpArgs false

theorem bt_rd (s : ByteArray) (i : Int) : bt s i = rd (bytesOf s) i := by
  unfold bt rd bytesOf
  by_cases h : i.toNat < s.size
  · rw [dif_pos h, List.getD, List.getElem?_map, List.getElem?_eq_getElem (by simpa using h)]
    rfl
  · rw [dif_neg h, List.getD, List.getElem?_eq_none (by simpa using h)]
    rfl
theorem size_list (s : ByteArray) : s.data.toList.length = s.size := Array.length_toList
theorem bytesOf_len (s : ByteArray) : (bytesOf s).length = s.size := by rw [bytesOf, List.length_map, size_list]
theorem bytesOf_bytes (s : ByteArray) : IsBytes (bytesOf s) := by
  intro b hb
  obtain ⟨u, _, rfl⟩ := List.mem_map.1 hb
  have := u.toNat_lt
  omega
theorem bytesOf_mk (l : List UInt8) : bytesOf ⟨l.toArray⟩ = l.map fun b => (b.toNat : Int) := by simp [bytesOf]
theorem bytesOf_str {l : List Int} (h : IsBytes l) : bytesOf (strOfNums l) = l := by
  unfold bytesOf
  rw [strOfNums_data, List.map_map]
  conv => rhs; rw [← List.map_id l]
  apply List.map_congr_left
  intro x hx
  have := h x hx
  simp only [Function.comp, id]
  rw [show (UInt8.ofNat x.toNat).toNat = x.toNat % 256 from UInt8.toNat_ofNat']
  omega
theorem str_bytesOf (s : ByteArray) : strOfNums (bytesOf s) = s := by
  unfold bytesOf
  rw [show strOfNums (s.data.toList.map fun b => (b.toNat : Int)) = ⟨s.data.toList.toArray⟩ from by
    unfold strOfNums
    congr 2
    rw [List.map_map]
    conv => rhs; rw [← List.map_id s.data.toList]
    apply List.map_congr_left
    intro x _
    simp]
theorem str_inj {l m : List Int} (hl : IsBytes l) (hm : IsBytes m) (h : strOfNums l = strOfNums m) : l = m := by
  rw [← bytesOf_str hl, h, bytesOf_str hm]
theorem toList_iff (s t : ByteArray) : s.toList = t.toList ↔ s = t := by
  rw [ByteArray.toList_eq, ByteArray.toList_eq]
  constructor
  · intro h
    cases s; cases t
    congr 1
    exact Array.ext' h
  · rintro rfl; rfl

/-! ### bytes out of bits -/
def by8 : Nat → List Int → List Int
  | 0, _ => []
  | m + 1, L => valM (L.take 8) 0 :: by8 m (L.drop 8)
theorem valM_bmN8 {x : Int} (h0 : 0 ≤ x) (h1 : x < 256) : valM (bmN 8 x) 0 = x := by
  rw [valM_bmN, show (2 : Int) ^ 8 = 256 from rfl]
  omega
theorem by8_bm8 : ∀ (l r : List Int), IsBytes l → by8 l.length (bm8 l ++ r) = l := by
  intro l
  induction l with
  | nil => intro r _; rfl
  | cons a l ih =>
    intro r h
    have ha := h a (by simp)
    simp only [List.length_cons, by8, bm8_cons, List.append_assoc]
    rw [List.take_left' (bmN_len 8 a), List.drop_left' (bmN_len 8 a), valM_bmN8 ha.1 ha.2, ih r (fun b hb => h b (List.mem_cons_of_mem _ hb))]
/-- The bits of digits with these values. -/
def bm6 (vs : List Int) : List Int := vs.flatMap (bmN 6)
theorem bm6_len (l : List Int) : (bm6 l).length = 6 * l.length := by
  induction l with
  | nil => rfl
  | cons a l ih => simp [bm6, bmN_len] at ih ⊢; omega
theorem bm6_cons (a : Int) (l : List Int) : bm6 (a :: l) = bmN 6 a ++ bm6 l := by simp [bm6]
theorem bm6_append (a b : List Int) : bm6 (a ++ b) = bm6 a ++ bm6 b := by simp [bm6]
/-- What is decoded of digits, all of them good. -/
def dec (vs : List Int) : List Int := by8 ((bm6 vs).length / 8) (bm6 vs)
theorem by8_bytes : ∀ (m : Nat) (L : List Int), IsBits L → IsBytes (by8 m L) := by
  intro m
  induction m with
  | zero => intro L _ b hb; simp [by8] at hb
  | succ m ih =>
    intro L h b hb
    simp only [by8, List.mem_cons] at hb
    rcases hb with rfl | hb
    · have h1 := valM_bd (L.take 8) 0 (h.take 8)
      have h2 := p2_le (List.length_take_le 8 L)
      rw [show (2 : Int) ^ 8 = 256 from rfl] at h2
      omega
    · exact ih _ (h.drop 8) b hb
theorem bm6_bits (vs : List Int) : IsBits (bm6 vs) := by
  intro b hb
  obtain ⟨a, _, h⟩ := List.mem_flatMap.1 hb
  exact bmN_bits _ _ b h
theorem dec_bytes (vs : List Int) : IsBytes (dec vs) := by8_bytes _ _ (bm6_bits vs)
theorem by8_len (m : Nat) : ∀ L, (by8 m L).length = m := by
  induction m with
  | zero => intro L; rfl
  | succ m ih => intro L; simp [by8, ih]
theorem dec_len (vs : List Int) : (dec vs).length = 6 * vs.length / 8 := by unfold dec; rw [by8_len, bm6_len]

/-! ### the implementation's loop -/
def Good (a : Int) (cs : List Int) : Prop := ∀ c ∈ cs, 0 ≤ vof a c
/-- What is told at the end. -/
def fin (a : Int) (s : ByteArray) (out : List Int) : List Int × Bool := if (a = 1 ∨ a = 2) ∧ strOfNums (encN a out) = s then (out, true) else ([], false)
theorem dec_end {a : Int} {s : ByteArray} {out : List Int} (hb : IsBytes out) (hl : out.length ≤ 1000000000) :
    ((base64_table.f a).bind fun t112 => (if t112.toList = ([] : List UInt8) then (some (([] : List Int), false)) else ((base64_Encode.f a out).bind fun t113 => (if t113.toList = s.toList then (some (out, true)) else (some (([] : List Int), false)))))) = some (fin a s out) := by
  rw [table_eq, Option.bind_some]
  by_cases ha : a = 1 ∨ a = 2
  · have h0 : (tb a).toList ≠ [] := by
      rw [ByteArray.toList_eq]
      intro h
      have := tb_size ha
      rw [← size_list, h, List.length_nil] at this
      omega
    rw [if_neg h0, enc_ev ha hb hl, Option.bind_some]
    unfold fin
    by_cases e : strOfNums (encN a out) = s
    · rw [if_pos ((toList_iff _ _).2 e), if_pos ⟨ha, e⟩]
    · rw [if_neg (fun h => e ((toList_iff _ _).1 h)), if_neg (fun h => e h.2)]
  · have e1 : tb a = ⟨#[]⟩ := tb_no (fun h => ha (.inl h)) (fun h => ha (.inr h))
    rw [e1, if_pos (by rw [ByteArray.toList_eq])]
    unfold fin
    rw [if_neg (fun h => ha h.1)]
theorem dec_l0 (a : Int) (s body : ByteArray) (hl : body.size ≤ 1000000000) : ∀ (m i n : Nat) (out : List Int) (x : Int) (vs : List Int), body.size - i = m → i ≤ body.size → n < 8 → 0 ≤ x → x < 2 ^ n → IsBytes out → vs.length = i → bm6 vs = bm8 out ++ bmN n x →
    (Good a ((bytesOf body).drop i) → Ev (fun k => base64_Decode.l0 k a s body out x (n : Int) (body.size : Int) (i : Int)) (fin a s (dec (vs ++ ((bytesOf body).drop i).map (vof a))))) ∧
    (¬ Good a ((bytesOf body).drop i) → Ev (fun k => base64_Decode.l0 k a s body out x (n : Int) (body.size : Int) (i : Int)) ([], false)) := by
  intro m
  induction m with
  | zero =>
    intro i n out x vs e hi hn h0 h1 hb hv hbits
    have e1 : (bytesOf body).drop i = [] := List.drop_eq_nil_of_le (by rw [bytesOf_len]; omega)
    rw [e1]
    have hlen := congrArg List.length hbits
    rw [bm6_len, List.length_append, bm8_len, bmN_len] at hlen
    have hd : dec (vs ++ ([] : List Int).map (vof a)) = out := by
      unfold dec
      rw [List.map_nil, List.append_nil, bm6_len, show 6 * vs.length / 8 = out.length by omega, hbits, by8_bm8 _ _ hb]
    rw [hd]
    refine ⟨fun _ => ?_, fun h => absurd (fun c hc => by simp at hc) h⟩
    exact Ev.last fun k => by rw [base64_Decode.l0, if_neg (by omega)]; exact dec_end hb (by omega)
  | succ m ih =>
    intro i n out x vs e hi hn h0 h1 hb hv hbits
    have hlt : i < (bytesOf body).length := by rw [bytesOf_len]; omega
    have hc := bytesOf_bytes body _ (rd_mem hlt)
    have hvb := vof_bd a (rd (bytesOf body) (i : Int)) hc.1 hc.2
    have hdrop := drop_rd (bytesOf body) hlt
    have hlen := congrArg List.length hbits
    rw [bm6_len, List.length_append, bm8_len, bmN_len] at hlen
    by_cases c : 0 ≤ vof a (rd (bytesOf body) (i : Int))
    · have hG : Good a ((bytesOf body).drop i) ↔ Good a ((bytesOf body).drop (i + 1)) := by
        rw [hdrop]
        constructor
        · intro h y hy; exact h y (List.mem_cons_of_mem _ hy)
        · intro h y hy
          rcases List.mem_cons.1 hy with rfl | hy
          · exact c
          · exact h y hy
      obtain ⟨v, hv'⟩ : ∃ v, vof a (rd (bytesOf body) (i : Int)) = v := ⟨_, rfl⟩
      rw [hv'] at hvb c
      have hval : base64_Value.f a (bt body (i : Int)) = some (v, true) := by
        rw [bt_rd, value_eq, hv', decide_eq_true c]
        congr 2
        unfold mx
        rw [if_neg (by omega)]
      have hp := p2_pos n
      have hp7 : (2 : Int) ^ n ≤ 2 ^ 7 := p2_le (by omega)
      rw [show (2 : Int) ^ 7 = 128 from rfl] at hp7
      have hor : Go.bits .or .i64 (wrap64 (x * 64)) v = x * 64 + v := by
        rw [w64 (by omega) (by omega)]
        exact or_i64 (n := 6) h0 (by omega) (by rw [show (2 : Int) ^ 6 = 64 from rfl]; omega) (by rw [show (2 : Int) ^ 6 = 64 from rfl]; omega) (by omega)
      have hxb : x * 64 + v < 2 ^ (n + 6) := by
        rw [p2_add, show (2 : Int) ^ 6 = 64 from rfl]
        omega
      have hbit2 : bm6 (vs ++ [v]) = bm8 out ++ bmN (n + 6) (x * 64 + v) := by
        rw [bm6_append, hbits, bmN_add n 6, show (2 : Int) ^ 6 = 64 from rfl, show (x * 64 + v) / 64 = x by omega, List.append_assoc]
        congr 2
        have := bmN_low 6 6 v x (by omega)
        rw [show (2 : Int) ^ 6 = 64 from rfl, Int.add_comm v] at this
        rw [this]
        simp [bm6]
      have hmap : vs ++ ((bytesOf body).drop i).map (vof a) = (vs ++ [v]) ++ ((bytesOf body).drop (i + 1)).map (vof a) := by
        rw [hdrop, List.map_cons, hv', List.append_assoc]
        rfl
      rw [hmap, hG]
      have e9 : wrap64 ((n : Int) + 6) = ((n + 6 : Nat) : Int) := by rw [w64 (by omega) (by omega)]; rfl
      by_cases c8 : 8 ≤ n + 6
      · obtain ⟨q, hq⟩ : ∃ q : Nat, n + 6 = 8 + q := ⟨n + 6 - 8, by omega⟩
        have e10 : wrap64 (((n + 6 : Nat) : Int) - 8) = (q : Int) := by rw [w64 (by omega) (by omega)]; omega
        have hpq := p2_pos q
        have hX : 0 ≤ x * 64 + v := by omega
        have hXb : x * 64 + v < 8192 := by omega
        have hdq := div_p2_nonneg q hX
        have hdq2 : (x * 64 + v) / 2 ^ q < 256 := by
          apply Int.ediv_lt_of_lt_mul hpq
          rw [show (256 : Int) = 2 ^ 8 from rfl, ← p2_add, ← hq]
          exact hxb
        have hmq := mod_p2 (x := x * 64 + v) q
        have hnew : IsBytes (out ++ [(x * 64 + v) / 2 ^ q]) := by
          intro b hb'
          rcases List.mem_append.1 hb' with hb' | hb'
          · exact hb b hb'
          · simp at hb'; subst hb'; exact ⟨hdq, hdq2⟩
        have hbit3 : bm6 (vs ++ [v]) = bm8 (out ++ [(x * 64 + v) / 2 ^ q]) ++ bmN q ((x * 64 + v) % 2 ^ q) := by
          rw [hbit2, hq, bmN_add 8 q, bm8_append, List.append_assoc]
          congr 1
          have h2 := bmN_low q q ((x * 64 + v) % 2 ^ q) ((x * 64 + v) / 2 ^ q) (Nat.le_refl _)
          rw [show (x * 64 + v) % 2 ^ q + (x * 64 + v) / 2 ^ q * 2 ^ q = x * 64 + v by have := Int.emod_add_mul_ediv (x * 64 + v) (2 ^ q); rw [Int.mul_comm] at this; rw [Int.mul_comm] at this; rw [Int.mul_comm ((x * 64 + v) / 2 ^ q)]; exact this] at h2
          rw [h2]
          simp [bm8]
        obtain ⟨i1, i2⟩ := ih (i + 1) q (out ++ [(x * 64 + v) / 2 ^ q]) ((x * 64 + v) % 2 ^ q) (vs ++ [v]) (by omega) (by omega) (by omega) hmq.1 hmq.2 hnew (by simp; omega) hbit3
        have step : ∀ r, Ev (fun k => base64_Decode.l0 k a s body (out ++ [(x * 64 + v) / 2 ^ q]) ((x * 64 + v) % 2 ^ q) (q : Int) (body.size : Int) ((i + 1 : Nat) : Int)) r → Ev (fun k => base64_Decode.l0 k a s body out x (n : Int) (body.size : Int) (i : Int)) r := fun r h =>
          Ev.step' h fun k => by
            rw [base64_Decode.l0, if_pos (by omega), if_pos (by omega), if_pos (by omega), hval, Option.bind_some, if_pos rfl, e9, if_pos (by omega), e10, if_pos (by omega), if_pos (by omega), hor, shr_nat (by simp [IntKind.bits]; omega), Int.emod_eq_of_lt hdq hdq2, and_mask_i64 (by omega) hX (by omega), wsucc (by omega)]
        exact ⟨fun h => step _ (i1 h), fun h => step _ (i2 h)⟩
      · obtain ⟨i1, i2⟩ := ih (i + 1) (n + 6) out (x * 64 + v) (vs ++ [v]) (by omega) (by omega) (by omega) (by omega) hxb hb (by simp; omega) hbit2
        have step : ∀ r, Ev (fun k => base64_Decode.l0 k a s body out (x * 64 + v) ((n + 6 : Nat) : Int) (body.size : Int) ((i + 1 : Nat) : Int)) r → Ev (fun k => base64_Decode.l0 k a s body out x (n : Int) (body.size : Int) (i : Int)) r := fun r h =>
          Ev.step' h fun k => by
            rw [base64_Decode.l0, if_pos (by omega), if_pos (by omega), if_pos (by omega), hval, Option.bind_some, if_pos rfl, e9, if_neg (by omega), hor, wsucc (by omega)]
        exact ⟨fun h => step _ (i1 h), fun h => step _ (i2 h)⟩
    · have hnG : ¬ Good a ((bytesOf body).drop i) := by
        rw [hdrop]
        intro h
        exact c (h _ (by simp))
      have hval : base64_Value.f a (bt body (i : Int)) = some (mx (vof a (rd (bytesOf body) (i : Int))) 0, false) := by
        rw [bt_rd, value_eq, decide_eq_false c]
      exact ⟨fun h => absurd h hnG, fun _ => Ev.last fun k => by rw [base64_Decode.l0, if_pos (by omega), if_pos (by omega), if_pos (by omega), hval, Option.bind_some, if_neg (by simp)]⟩
/-- The digits of a string: without the signs at its end, in the first alphabet. -/
def body (a : Int) (s : ByteArray) : ByteArray := if a = 1 then ⟨(Lib.trimRightB s.data.toList 61).toArray⟩ else s
theorem trim_le (l : List UInt8) (c : UInt8) : (Lib.trimRightB l c).length ≤ l.length := by
  unfold Lib.trimRightB
  rw [List.length_reverse]
  exact Nat.le_trans (List.dropWhile_sublist _).length_le (by simp)
theorem body_size (a : Int) (s : ByteArray) : (body a s).size ≤ s.size := by
  unfold body
  split
  · have := trim_le s.data.toList 61
    rw [← size_list s]
    exact this
  · exact Nat.le_refl _
/-- What a string is decoded to. -/
noncomputable def decS (a : Int) (s : ByteArray) : List Int × Bool := @ite _ (Good a (bytesOf (body a s))) (Classical.propDecidable _) (fin a s (dec ((bytesOf (body a s)).map (vof a)))) ([], false)
theorem decode_ev (a : Int) (s : ByteArray) (hl : s.size ≤ 1000000000) : Ev (fun k => base64_Decode.f k a s) (decS a s) := by
  have hbs := body_size a s
  have hj : Ev (fun k => base64_Decode.j0 k a s (body a s)) (decS a s) := by
    obtain ⟨h1, h2⟩ := dec_l0 a s (body a s) (by omega) (body a s).size 0 0 [] 0 [] (by omega) (by omega) (by omega) (by omega) (by simp) (fun b hb => by simp at hb) rfl rfl
    simp only [List.drop_zero, List.nil_append] at h1 h2
    have e : wrap64 (Int.tdiv (wrap64 (((body a s).size : Int) * 3)) 4) = ((body a s).size : Int) * 3 / 4 := by
      rw [w64 (x := ((body a s).size : Int) * 3) (by omega) (by omega), tdiv_nn (by omega), w64 (by omega) (by omega)]
    have hr : Ev (fun k => base64_Decode.l0 k a s (body a s) [] 0 0 ((body a s).size : Int) 0) (decS a s) := by
      unfold decS
      by_cases hG : Good a (bytesOf (body a s))
      · rw [if_pos hG]; exact h1 hG
      · rw [if_neg hG]; exact h2 hG
    exact Ev.step' hr fun k => by rw [base64_Decode.j0, e, if_pos (by omega), if_pos (by omega)]
  refine Ev.congr (fun k => ?_) hj
  rw [base64_Decode.f]
  by_cases c : a = 1
  · rw [if_pos c]
    unfold strings_TrimRight.f
    rw [if_pos rfl, if_pos (by omega), Option.bind_some]
    unfold body
    rw [if_pos c]
  · rw [if_neg c]
    unfold body
    rw [if_neg c]

/-! ### the reference's loops -/
theorem rdec_l2 (a : Int) (s : ByteArray) (n : Int) (i : Nat) (hi : i < 4611686018427387904) (v : Int) (h0 : 0 ≤ v) (h1 : v < 64) : ∀ (t : Nat) (all : List Int), t ≤ 6 → all.length + t < 17592186044416 → ∀ r,
    Ev (fun k => pyxref04_Decode.l1 k a s n (all ++ bmN t v) ((i + 1 : Nat) : Int)) r → Ev (fun k => pyxref04_Decode.l2 k a s n all (i : Int) v ((t : Int) - 1)) r := by
  intro t
  induction t with
  | zero =>
    intro all ht hal r h
    refine Ev.step' h fun k => ?_
    rw [pyxref04_Decode.l2, if_neg (by omega), wsucc (by omega)]
    simp [bmN]
  | succ t ih =>
    intro all ht hal r h
    have h6 := ih (all ++ [v / 2 ^ t % 2]) (by omega) (by simp; omega) r (by rw [List.append_assoc]; exact h)
    have hd := div_p2_nonneg t h0
    have hle : v / 2 ^ t ≤ v := Int.ediv_le_self _ h0
    refine Ev.step' h6 fun k => ?_
    have e : ((t + 1 : Nat) : Int) - 1 = (t : Int) := by omega
    rw [pyxref04_Decode.l2, e, if_pos (by omega), wu64 (by omega) (by omega), if_pos (by omega), if_pos (by omega), shr_nat (by simp [IntKind.bits]; omega), and1_i64 hd (by omega), w64 (by omega) (by omega)]
theorem take_succ_rd {L : List Int} {s : Nat} (h : s < L.length) : L.take (s + 1) = L.take s ++ [rd L (s : Int)] := by rw [List.take_succ_eq_append_getElem h, rd_get h]
theorem rdec_l4 (a : Int) (s : ByteArray) (L : List Int) (hL : IsBits L) (hl : L.length < 4611686018427387904) (out : List Int) (ho : out.length < 140737488355328) (i : Nat) (hi : i + 8 ≤ L.length) (r : List Int × Bool)
    (h : Ev (fun k => pyxref04_Decode.l3 k a s L (out ++ [valM ((L.drop i).take 8) 0]) ((i + 8 : Nat) : Int)) r) : ∀ (m q : Nat), q + m = 8 →
    Ev (fun k => pyxref04_Decode.l4 k a s L out (i : Int) (valM ((L.drop i).take q) 0) ((i + q : Nat) : Int)) r := by
  intro m
  have e8 : wrap64 ((i : Int) + 8) = ((i + 8 : Nat) : Int) := by rw [w64 (by omega) (by omega)]; rfl
  induction m with
  | zero =>
    intro q hq
    obtain rfl : q = 8 := by omega
    have hbd := valM_bd ((L.drop i).take 8) 0 ((hL.drop i).take 8)
    have hp := p2_le (List.length_take_le 8 (L.drop i))
    rw [show (2 : Int) ^ 8 = 256 from rfl] at hp
    exact Ev.step' h fun k => by rw [pyxref04_Decode.l4, e8, if_neg (by omega), if_pos ho, Int.emod_eq_of_lt (by omega) (by omega)]
  | succ m ih =>
    intro q hq
    have h1 := ih (q + 1) (by omega)
    have hd : q < (L.drop i).length := by simp; omega
    have hrd : rd (L.drop i) (q : Int) = rd L ((i + q : Nat) : Int) := by
      rw [rd_get hd, rd_get (show i + q < L.length by omega), List.getElem_drop]
    rw [take_succ_rd hd, valM_snoc, hrd] at h1
    have hbd := valM_bd ((L.drop i).take q) 0 ((hL.drop i).take q)
    have hp := p2_le (Nat.le_trans (List.length_take_le q (L.drop i)) (show q ≤ 8 by omega))
    rw [show (2 : Int) ^ 8 = 256 from rfl] at hp
    have hb := hL _ (rd_mem (show i + q < L.length by omega))
    have e7 : wrap64 (((i + q : Nat) : Int) + 1) = ((i + (q + 1) : Nat) : Int) := by rw [wsucc (by omega)]; rfl
    generalize hX : valM ((L.drop i).take q) 0 = X at hbd hp h1 ⊢
    generalize hY : rd L ((i + q : Nat) : Int) = Y at hb h1
    generalize hP : (2 : Int) ^ ((L.drop i).take q).length = P at hbd hp
    clear ih hL h hrd
    have e1 : wrap64 (2 * X) = 2 * X := w64 (by omega) (by omega)
    have e2 : wrap64 (2 * X + Y) = 2 * X + Y := w64 (by omega) (by omega)
    have c1 : ((i + q : Nat) : Int) < ((i + 8 : Nat) : Int) := by omega
    have c2 : (0 : Int) ≤ ((i + q : Nat) : Int) := by omega
    have c3 : ((i + q : Nat) : Int) < (L.length : Int) := by omega
    exact Ev.step' h1 fun k => by rw [pyxref04_Decode.l4, e8, if_pos c1, if_pos c2, if_pos c3, hY, e1, e2, e7]
theorem rdec_end {a : Int} {s : ByteArray} {out : List Int} (hb : IsBytes out) (hl : out.length ≤ 1000000000) :
    Ev (fun k => if a = 1 then ((pyxref04_Encode.f k a out).bind fun t163 => (if t163.toList = s.toList then (some (out, true)) else (some (([] : List Int), false)))) else (if a = 2 then ((pyxref04_Encode.f k a out).bind fun t164 => (if t164.toList = s.toList then (some (out, true)) else (some (([] : List Int), false)))) else (some (([] : List Int), false)))) (fin a s out) := by
  by_cases ha : a = 1 ∨ a = 2
  · have h : Ev (fun k => (pyxref04_Encode.f k a out).bind fun t163 => (if t163.toList = s.toList then (some (out, true)) else (some (([] : List Int), false)))) (fin a s out) := by
      refine Ev.bind (renc_ev ha hb (by omega)) (Ev.const' fun k => ?_)
      unfold fin
      by_cases e : strOfNums (encN a out) = s
      · rw [if_pos ((toList_iff _ _).2 e), if_pos ⟨ha, e⟩]
      · rw [if_neg (fun h => e ((toList_iff _ _).1 h)), if_neg (fun h => e h.2)]
    rcases ha with rfl | rfl
    · exact Ev.congr (fun k => by rw [if_pos rfl]) h
    · exact Ev.congr (fun k => by rw [if_neg (by decide), if_pos rfl]) h
  · refine Ev.const' fun k => ?_
    rw [if_neg (fun h => ha (.inl h)), if_neg (fun h => ha (.inr h))]
    unfold fin
    rw [if_neg (fun h => ha h.1)]
theorem rdec_l3 (a : Int) (s : ByteArray) (L : List Int) (hL : IsBits L) (hl : L.length ≤ 6000000000) : ∀ (m i : Nat) (out : List Int), (L.length - i) / 8 = m → i ≤ L.length → out.length = i / 8 → IsBytes out → i % 8 = 0 →
    Ev (fun k => pyxref04_Decode.l3 k a s L out (i : Int)) (fin a s (out ++ by8 m (L.drop i))) := by
  intro m
  induction m with
  | zero =>
    intro i out e hi ho hb h8
    have e8 : wrap64 ((i : Int) + 8) = ((i + 8 : Nat) : Int) := by rw [w64 (by omega) (by omega)]; rfl
    have := rdec_end (a := a) (s := s) hb (by omega)
    refine Ev.step' (Ev.congr (fun k => rfl) (by simpa [by8] using this)) fun k => by rw [pyxref04_Decode.l3, e8, if_neg (by omega)]
  | succ m ih =>
    intro i out e hi ho hb h8
    have e8 : wrap64 ((i : Int) + 8) = ((i + 8 : Nat) : Int) := by rw [w64 (by omega) (by omega)]; rfl
    have hbd := valM_bd ((L.drop i).take 8) 0 ((hL.drop i).take 8)
    have hp := p2_le (List.length_take_le 8 (L.drop i))
    rw [show (2 : Int) ^ 8 = 256 from rfl] at hp
    have hnew : IsBytes (out ++ [valM ((L.drop i).take 8) 0]) := by
      intro b hb'
      rcases List.mem_append.1 hb' with hb' | hb'
      · exact hb b hb'
      · simp at hb'; subst hb'; omega
    have h1 := ih (i + 8) (out ++ [valM ((L.drop i).take 8) 0]) (by omega) (by omega) (by simp; omega) hnew (by omega)
    have h2 := rdec_l4 a s L hL (by omega) out (by omega) i (by omega) _ h1 8 0 (by omega)
    simp only [by8]
    rw [List.drop_drop, show out ++ valM (List.take 8 (List.drop i L)) 0 :: by8 m (List.drop (i + 8) L) = out ++ [valM (List.take 8 (List.drop i L)) 0] ++ by8 m (List.drop (i + 8) L) by simp]
    exact Ev.step' h2 fun k => by rw [pyxref04_Decode.l3, e8, if_pos (by omega)]; rfl
theorem rdec_l1 (a : Int) (s : ByteArray) (n : Nat) (hn : n ≤ s.size) (hl : s.size ≤ 1000000000) : ∀ (m i : Nat) (vs : List Int), n - i = m → i ≤ n → vs.length = i →
    (Good a (((bytesOf s).take n).drop i) → Ev (fun k => pyxref04_Decode.l1 k a s (n : Int) (bm6 vs) (i : Int)) (fin a s (dec (vs ++ (((bytesOf s).take n).drop i).map (vof a))))) ∧
    (¬ Good a (((bytesOf s).take n).drop i) → Ev (fun k => pyxref04_Decode.l1 k a s (n : Int) (bm6 vs) (i : Int)) ([], false)) := by
  intro m
  have hlen : ((bytesOf s).take n).length = n := by rw [List.length_take, bytesOf_len]; omega
  induction m with
  | zero =>
    intro i vs e hi hv
    have e1 : ((bytesOf s).take n).drop i = [] := List.drop_eq_nil_of_le (by omega)
    rw [e1]
    refine ⟨fun _ => ?_, fun h => absurd (fun c hc => by simp at hc) h⟩
    have h3 := rdec_l3 a s (bm6 vs) (bm6_bits vs) (by rw [bm6_len]; omega) ((bm6 vs).length / 8) 0 [] (by simp) (by omega) (by simp) (fun b hb => by simp at hb) (by omega)
    simp only [List.map_nil, List.append_nil, List.nil_append, List.drop_zero] at h3 ⊢
    exact Ev.step' h3 fun k => by rw [pyxref04_Decode.l1, if_neg (by omega)]; rfl
  | succ m ih =>
    intro i vs e hi hv
    have hlt : i < ((bytesOf s).take n).length := by omega
    have hdrop := drop_rd ((bytesOf s).take n) hlt
    have hrd : rd ((bytesOf s).take n) (i : Int) = bt s (i : Int) := by
      rw [bt_rd, rd_get hlt, rd_get (show i < (bytesOf s).length by rw [bytesOf_len]; omega), List.getElem_take]
    rw [hrd] at hdrop
    have hc : 0 ≤ bt s (i : Int) ∧ bt s (i : Int) < 256 := bt_bd s _
    have hvb := vof_bd a (bt s (i : Int)) hc.1 hc.2
    have hval := rvalue_ev a (bt s (i : Int)) hc.1 hc.2
    have hg : ∀ r, Ev (fun k => (if vof a (bt s (i : Int)) < 0 then (some (([] : List Int), false)) else (pyxref04_Decode.l2 k a s (n : Int) (bm6 vs) (i : Int) (vof a (bt s (i : Int))) 5))) r → Ev (fun k => pyxref04_Decode.l1 k a s (n : Int) (bm6 vs) (i : Int)) r := fun r h =>
      Ev.step' (Ev.bind hval h) fun k => by rw [pyxref04_Decode.l1, if_pos (by omega), if_pos (by omega), if_pos (by omega)]
    by_cases c : 0 ≤ vof a (bt s (i : Int))
    · obtain ⟨i1, i2⟩ := ih (i + 1) (vs ++ [vof a (bt s (i : Int))]) (by omega) (by omega) (by simp; omega)
      have hG : Good a (((bytesOf s).take n).drop i) ↔ Good a (((bytesOf s).take n).drop (i + 1)) := by
        rw [hdrop]
        constructor
        · intro h y hy; exact h y (List.mem_cons_of_mem _ hy)
        · intro h y hy
          rcases List.mem_cons.1 hy with rfl | hy
          · exact c
          · exact h y hy
      have step : ∀ r, Ev (fun k => pyxref04_Decode.l1 k a s (n : Int) (bm6 (vs ++ [vof a (bt s (i : Int))])) ((i + 1 : Nat) : Int)) r → Ev (fun k => pyxref04_Decode.l1 k a s (n : Int) (bm6 vs) (i : Int)) r := fun r h => by
        rw [bm6_append, show bm6 [vof a (bt s (i : Int))] = bmN 6 (vof a (bt s (i : Int))) by simp [bm6]] at h
        have h2 := rdec_l2 a s (n : Int) i (by omega) _ c (by omega) 6 (bm6 vs) (by omega) (by rw [bm6_len]; omega) r h
        exact hg r (Ev.congr (fun k => by rw [if_neg (by omega)]; rfl) h2)
      have hmap : vs ++ (((bytesOf s).take n).drop i).map (vof a) = (vs ++ [vof a (bt s (i : Int))]) ++ (((bytesOf s).take n).drop (i + 1)).map (vof a) := by
        rw [hdrop, List.map_cons, List.append_assoc]; rfl
      rw [hmap, hG]
      exact ⟨fun h => step _ (i1 h), fun h => step _ (i2 h)⟩
    · have hnG : ¬ Good a (((bytesOf s).take n).drop i) := by
        rw [hdrop]
        intro h
        exact c (h _ (by simp))
      exact ⟨fun h => absurd h hnG, fun _ => hg _ (Ev.const' fun k => by rw [if_pos (by omega)])⟩
theorem trim_snoc (l : List UInt8) (c d : UInt8) : Lib.trimRightB (l ++ [d]) c = if d = c then Lib.trimRightB l c else l ++ [d] := by
  unfold Lib.trimRightB
  rw [List.reverse_append, List.reverse_singleton, List.singleton_append, List.dropWhile_cons]
  by_cases h : d = c
  · rw [if_pos h, if_pos (by simpa using h)]
  · rw [if_neg h, if_neg (by simpa using h)]
    simp
theorem trim_pre (l : List UInt8) (c : UInt8) : ∃ m, m ≤ l.length ∧ Lib.trimRightB l c = l.take m := by
  refine ⟨(Lib.trimRightB l c).length, trim_le l c, ?_⟩
  have h : (Lib.trimRightB l c) <+: l := by
    unfold Lib.trimRightB
    have := List.dropWhile_suffix (l := l.reverse) (fun x => x == c)
    rw [← List.reverse_prefix] at this
    simpa using this
  exact List.prefix_iff_eq_take.1 h
theorem rdec_l0 (s : ByteArray) (hl : s.size ≤ 1000000000) (r : List Int × Bool) (h : Ev (fun k => pyxref04_Decode.j1 k 1 s ((Lib.trimRightB s.data.toList 61).length : Int)) r) : ∀ n : Nat, n ≤ s.size → (Lib.trimRightB (s.data.toList.take n) 61) = Lib.trimRightB s.data.toList 61 →
    Ev (fun k => pyxref04_Decode.l0 k 1 s (n : Int)) r := by
  intro n
  have hsz : s.data.toList.length = s.size := size_list s
  induction n with
  | zero =>
    intro _ e
    have e0 : (Lib.trimRightB s.data.toList 61).length = 0 := by rw [← e]; rfl
    rw [e0] at h
    exact Ev.step' h fun k => by rw [pyxref04_Decode.l0, if_pos rfl, if_neg (by omega)]
  | succ n ih =>
    intro hn e
    have hlt : n < s.data.toList.length := by omega
    have hb : bt s (n : Int) = ((s.data.toList[n]).toNat : Int) := by
      rw [bt_rd, rd_get (show n < (bytesOf s).length by rw [bytesOf_len]; omega)]
      simp [bytesOf]
    have e1 : wrap64 (((n + 1 : Nat) : Int) - 1) = (n : Int) := by rw [w64 (by omega) (by omega)]; omega
    rw [List.take_succ_eq_append_getElem hlt, trim_snoc] at e
    by_cases c : s.data.toList[n] = 61
    · rw [if_pos c] at e
      exact Ev.step' (ih (by omega) e) fun k => by rw [pyxref04_Decode.l0, if_pos rfl, if_pos (by omega), e1, if_pos (by omega), if_pos (by omega), if_pos (by rw [hb, c]; rfl)]
    · rw [if_neg c] at e
      have e0 : (Lib.trimRightB s.data.toList 61).length = n + 1 := by rw [← e]; simp; omega
      rw [e0] at h
      have hne : ¬ bt s (n : Int) = 61 := by
        rw [hb]
        intro h'
        apply c
        apply UInt8.toNat.inj
        rw [show (61 : UInt8).toNat = 61 from rfl]
        omega
      exact Ev.step' h fun k => by rw [pyxref04_Decode.l0, if_pos rfl, if_pos (by omega), e1, if_pos (by omega), if_pos (by omega), if_neg hne]
theorem rdecode_ev (a : Int) (s : ByteArray) (hl : s.size ≤ 1000000000) : Ev (fun k => pyxref04_Decode.f k a s) (decS a s) := by
  have hsz : s.data.toList.length = s.size := size_list s
  have key : ∀ n : Nat, n ≤ s.size → bytesOf (body a s) = (bytesOf s).take n → Ev (fun k => pyxref04_Decode.j1 k a s (n : Int)) (decS a s) := by
    intro n hn hb
    obtain ⟨h1, h2⟩ := rdec_l1 a s n hn hl n 0 [] (by omega) (by omega) rfl
    simp only [List.drop_zero, List.nil_append, ← hb] at h1 h2
    have hr : Ev (fun k => pyxref04_Decode.l1 k a s (n : Int) [] 0) (decS a s) := by
      unfold decS
      by_cases hG : Good a (bytesOf (body a s))
      · rw [if_pos hG]; exact h1 hG
      · rw [if_neg hG]; exact h2 hG
    exact Ev.step' hr fun k => by rw [pyxref04_Decode.j1]
  by_cases c : a = 1
  · subst c
    obtain ⟨m, hm, e⟩ := trim_pre s.data.toList 61
    have hml : (Lib.trimRightB s.data.toList 61).length = m := by rw [e, List.length_take]; omega
    have hb : bytesOf (body 1 s) = (bytesOf s).take m := by
      unfold body
      rw [if_pos rfl, bytesOf_mk, e, List.map_take]
      rfl
    have h := key m (by omega) hb
    rw [← hml] at h
    have := rdec_l0 s hl _ h s.size (Nat.le_refl _) (by rw [List.take_of_length_le (by omega)])
    simpa [pyxref04_Decode.f] using this
  · have hb : bytesOf (body a s) = (bytesOf s).take s.size := by
      unfold body
      rw [if_neg c, List.take_of_length_le (by rw [bytesOf_len]; omega)]
    have h := key s.size (Nat.le_refl _) hb
    have : Ev (fun k => pyxref04_Decode.l0 k a s (s.size : Int)) (decS a s) := Ev.step' h fun k => by rw [pyxref04_Decode.l0, if_neg c]
    simpa [pyxref04_Decode.f] using this

/-! ### what was encoded is decoded -/
theorem decS_ok {a : Int} {s : ByteArray} (h : (decS a s).2 = true) : (a = 1 ∨ a = 2) ∧ strOfNums (encN a (decS a s).1) = s ∧ IsBytes (decS a s).1 := by
  unfold decS at h ⊢
  by_cases hG : Good a (bytesOf (body a s))
  · rw [if_pos hG] at h ⊢
    unfold fin at h ⊢
    by_cases c : (a = 1 ∨ a = 2) ∧ strOfNums (encN a (dec ((bytesOf (body a s)).map (vof a)))) = s
    · rw [if_pos c]
      exact ⟨c.1, c.2, dec_bytes _⟩
    · rw [if_neg c] at h; cases h
  · rw [if_neg hG] at h; cases h
theorem decS_bytes (a : Int) (s : ByteArray) : IsBytes (decS a s).1 ∧ (decS a s).1.length ≤ s.size := by
  unfold decS
  by_cases hG : Good a (bytesOf (body a s))
  · rw [if_pos hG]
    unfold fin
    split
    · refine ⟨dec_bytes _, ?_⟩
      rw [dec_len, List.length_map, bytesOf_len]
      have := body_size a s
      omega
    · exact ⟨fun b hb => by simp at hb, by simp⟩
  · rw [if_neg hG]
    exact ⟨fun b hb => by simp at hb, by simp⟩
/-- The values of the digits of an encoding. -/
def encV : List Int → List Int
  | x :: y :: z :: r => x / 4 :: (x * 16 + y / 16) % 64 :: (y * 4 + z / 64) % 64 :: z % 64 :: encV r
  | [x, y] => [x / 4, (x * 16 + y / 16) % 64, y * 4 % 64]
  | [x] => [x / 4, x * 16 % 64]
  | [] => []
theorem encI_vals {a : Int} (ha : a = 1 ∨ a = 2) : ∀ (n : Nat) (l : List Int), l.length ≤ n → IsBytes l → encI a l = (encV l).map (fun v => bt (tb a) v) ∧ ∀ v ∈ encV l, 0 ≤ v ∧ v < 64 := by
  intro n
  have hd : ∀ v, 0 ≤ v → v < 64 → dig a v = bt (tb a) v := fun v h0 h1 => by unfold dig; rw [tb_size ha, if_pos (by omega)]
  induction n with
  | zero =>
    intro l h _
    have : l = [] := List.eq_nil_of_length_eq_zero (by omega)
    subst this
    exact ⟨rfl, fun v hv => by simp [encV] at hv⟩
  | succ n ih =>
    intro l h hb
    match l, h, hb with
    | [], _, _ => exact ⟨rfl, fun v hv => by simp [encV] at hv⟩
    | [x], _, hb =>
      have hx := hb x (by simp)
      refine ⟨?_, ?_⟩
      · simp only [encI, encV, List.map_cons, List.map_nil]
        rw [hd _ (by omega) (by omega), hd _ (by omega) (by omega)]
      · intro v hv
        simp only [encV, List.mem_cons, List.not_mem_nil, or_false] at hv
        omega
    | [x, y], _, hb =>
      have hx := hb x (by simp)
      refine ⟨?_, ?_⟩
      · simp only [encI, encV, List.map_cons, List.map_nil]
        rw [hd _ (by omega) (by omega), hd _ (by omega) (by omega), hd _ (by omega) (by omega)]
      · intro v hv
        simp only [encV, List.mem_cons, List.not_mem_nil, or_false] at hv
        omega
    | x :: y :: z :: r, h, hb =>
      have hx := hb x (by simp)
      obtain ⟨h1, h2⟩ := ih r (by simp at h; omega) (fun b hb' => hb b (by simp [hb']))
      refine ⟨?_, ?_⟩
      · simp only [encI, encV, List.map_cons, h1]
        rw [hd _ (by omega) (by omega), hd _ (by omega) (by omega), hd _ (by omega) (by omega), hd _ (by omega) (by omega)]
      · intro v hv
        simp only [encV, List.mem_cons] at hv
        rcases hv with rfl | rfl | rfl | rfl | hv
        · omega
        · omega
        · omega
        · omega
        · exact h2 v hv
theorem bmN6 (x : Int) : bmN 6 x = [x / 32 % 2, x / 16 % 2, x / 8 % 2, x / 4 % 2, x / 2 % 2, x % 2] := by simp [bmN]
theorem encV_bits : ∀ (n : Nat) (l : List Int), l.length ≤ n → IsBytes l → ∃ z : Nat, z < 8 ∧ bm6 (encV l) = bm8 l ++ List.replicate z 0 := by
  intro n
  induction n with
  | zero =>
    intro l h _
    have : l = [] := List.eq_nil_of_length_eq_zero (by omega)
    subst this
    exact ⟨0, by omega, rfl⟩
  | succ n ih =>
    intro l h hb
    match l, h, hb with
    | [], _, _ => exact ⟨0, by omega, rfl⟩
    | [x], _, hb =>
      have hx := hb x (by simp)
      refine ⟨4, by omega, ?_⟩
      simp only [encV, bm6_cons, bm8_cons, bmN6, bmN8, show bm6 [] = [] from rfl, show bm8 [] = [] from rfl, List.cons_append, List.nil_append, List.append_nil, List.replicate_succ, List.replicate_zero]
      simp only [List.cons.injEq, and_true, true_and]
      and_intros <;> omega
    | [x, y], _, hb =>
      have hx := hb x (by simp)
      have hy := hb y (by simp)
      refine ⟨2, by omega, ?_⟩
      simp only [encV, bm6_cons, bm8_cons, bmN6, bmN8, show bm6 [] = [] from rfl, show bm8 [] = [] from rfl, List.cons_append, List.nil_append, List.append_nil, List.replicate_succ, List.replicate_zero]
      simp only [List.cons.injEq, and_true, true_and]
      and_intros <;> omega
    | x :: y :: z :: r, h, hb =>
      have hx := hb x (by simp)
      have hy := hb y (by simp)
      have hz := hb z (by simp)
      obtain ⟨q, hq, e⟩ := ih r (by simp at h; omega) (fun b hb' => hb b (by simp [hb']))
      refine ⟨q, hq, ?_⟩
      simp only [encV, bm6_cons, bm8_cons, bmN6, bmN8, e, List.cons_append, List.nil_append, List.append_assoc]
      simp only [List.cons.injEq, and_true, true_and]
      and_intros <;> omega
theorem dec_encV {l : List Int} (hb : IsBytes l) : dec (encV l) = l := by
  obtain ⟨z, hz, e⟩ := encV_bits l.length l (Nat.le_refl _) hb
  unfold dec
  rw [e, show (bm8 l ++ List.replicate z (0 : Int)).length / 8 = l.length by rw [List.length_append, bm8_len, List.length_replicate]; omega, by8_bm8 _ _ hb]
theorem encN_bytes {a : Int} (ha : a = 1 ∨ a = 2) {l : List Int} (hb : IsBytes l) : IsBytes (encN a l) := by
  rw [encN_eq a l hb, (encI_vals ha l.length l (Nat.le_refl _) hb).1]
  intro b hb'
  rcases List.mem_append.1 hb' with h | h
  · obtain ⟨v, _, rfl⟩ := List.mem_map.1 h
    exact bt_bd _ _
  · unfold padN at h
    split at h
    · have := (List.mem_replicate.1 h).2
      omega
    · simp at h
theorem trim_pad (l : List UInt8) (m : Nat) (h : ∀ b ∈ l, b ≠ 61) : Lib.trimRightB (l ++ List.replicate m 61) 61 = l := by
  induction m with
  | zero =>
    rw [List.replicate_zero, List.append_nil]
    rcases List.eq_nil_or_concat l with rfl | ⟨l', d, rfl⟩
    · rfl
    · rw [List.concat_eq_append] at h ⊢
      rw [trim_snoc, if_neg (h d (by simp))]
  | succ m ih => rw [List.replicate_succ', ← List.append_assoc, trim_snoc, if_pos rfl, ih]
/-- What was encoded is decoded. -/
theorem decS_enc {a : Int} (ha : a = 1 ∨ a = 2) {l : List Int} (hb : IsBytes l) : decS a (strOfNums (encN a l)) = (l, true) := by
  obtain ⟨hI, hV⟩ := encI_vals ha l.length l (Nat.le_refl _) hb
  have hEb : IsBytes (encI a l) := by
    rw [hI]
    intro b h
    obtain ⟨v, _, rfl⟩ := List.mem_map.1 h
    exact bt_bd _ _
  have hbody : bytesOf (body a (strOfNums (encN a l))) = encI a l := by
    unfold body
    by_cases c : a = 1
    · rw [if_pos c, strOfNums_data, encN_eq a l hb, List.map_append]
      have hp : (padN a l.length).map (fun n => UInt8.ofNat n.toNat) = List.replicate ((3 - l.length % 3) % 3) 61 := by
        unfold padN
        rw [if_pos c, List.map_replicate]
        rfl
      rw [hp, trim_pad _ _ (fun b h => ?_), show (⟨((encI a l).map fun n => UInt8.ofNat n.toNat).toArray⟩ : ByteArray) = strOfNums (encI a l) from rfl, bytesOf_str hEb]
      obtain ⟨x, hx, rfl⟩ := List.mem_map.1 h
      rw [hI] at hx
      obtain ⟨v, hv, rfl⟩ := List.mem_map.1 hx
      have hv' := hV v hv
      have h61 := (vof_dig ha hv'.1 hv'.2).2.1 c
      have hbd := bt_bd (tb a) v
      intro h'
      apply h61
      have := congrArg UInt8.toNat h'
      rw [show (UInt8.ofNat (bt (tb a) v).toNat).toNat = (bt (tb a) v).toNat % 256 from UInt8.toNat_ofNat', show (61 : UInt8).toNat = 61 from rfl] at this
      omega
    · rw [if_neg c, encN_eq a l hb]
      unfold padN
      rw [if_neg c, List.append_nil, bytesOf_str hEb]
  have hvs : (encI a l).map (vof a) = encV l := by
    rw [hI, List.map_map]
    conv => rhs; rw [← List.map_id (encV l)]
    apply List.map_congr_left
    intro v hv
    have hv' := hV v hv
    exact (vof_dig ha hv'.1 hv'.2).1
  have hG : Good a (encI a l) := by
    rw [hI]
    intro c hc
    obtain ⟨v, hv, rfl⟩ := List.mem_map.1 hc
    have hv' := hV v hv
    rw [(vof_dig ha hv'.1 hv'.2).1]
    exact hv'.1
  unfold decS
  rw [hbody, if_pos hG, hvs, dec_encV hb]
  unfold fin
  rw [if_pos ⟨ha, rfl⟩]
theorem decS_no {a : Int} (h1 : a ≠ 1) (h2 : a ≠ 2) (s : ByteArray) : decS a s = ([], false) := by
  unfold decS
  by_cases hG : Good a (bytesOf (body a s))
  · rw [if_pos hG]
    unfold fin
    rw [if_neg (fun h => h.1.elim h1 h2)]
  · rw [if_neg hG]
end Go.Proofs.YtnidoimhlfcifaaDoor.PB64
