/- The reference's number, and both ways to parse. -/
import Derived.Test.YtohmnlmeamkmjaaDoorZXOid2
import Derived.Test.YtohmnlmeamkmjaaDoorZPOidx15
import Derived.Test.YtohmnlmeamkmjaaDoorZPOidx14
namespace Go.Proofs.YtohmnlmeamkmjaaDoor.POid
open Go.RowKit Go.Proofs.YtohmnlmeamkmjaaDoorW.PrintWords Go.Proofs.YtohmnlmeamkmjaaDoorW.PrintLast Go.Proofs.YtohmnlmeamkmjaaDoorW.PrintMore Go.Proofs.YtohmnlmeamkmjaaDoorW.Pu
open Classical in
noncomputable def numW (w : List UInt8) : Int := if canon w ∧ w.length ≤ 10 ∧ dval 0 w ≤ 4294967295 then (dval 0 w : Int) else -1
theorem numW_pos {w : List UInt8} (h : 0 ≤ numW w) : w = DD (numW w) ∧ 0 ≤ numW w ∧ numW w < 4294967296 := by
  unfold numW at h ⊢
  split at h
  · rename_i hc
    rw [if_pos hc]
    refine ⟨?_, by omega, by have := hc.2.2; omega⟩
    show w = Lib.decDigits _
    rw [Int.toNat_natCast]
    exact canon_dd w.length w rfl hc.1
  · omega
theorem numW_DD {n : Int} (h : 0 ≤ n ∧ n < 4294967296) : numW (DD n) = n := by
  unfold numW
  rw [if_pos ⟨dd_canon _, DD_len h, by rw [show DD n = Lib.decDigits n.toNat from rfl, dd_val]; omega⟩]
  rw [show DD n = Lib.decDigits n.toNat from rfl, dd_val]
  omega
theorem bt_B (w : List UInt8) {i : Nat} (h : i < w.length) : bt (B w) (i : Int) = ((w[i]).toNat : Int) := by
  unfold bt
  rw [dif_pos (by rw [Int.toNat_natCast, B_size]; exact h)]
  rfl
theorem dval_lt : ∀ (l : List UInt8) (acc j : Nat), (∀ c ∈ l, isDig c) → acc < 10 ^ j → dval acc l < 10 ^ (j + l.length) := by
  intro l
  induction l with
  | nil => intro acc j _ h; exact h
  | cons c r ih =>
    intro acc j hd h
    have hc := hd c (by simp)
    obtain ⟨c0, c1⟩ := hc
    have := ih (acc * 10 + (c.toNat - 48)) (j + 1) (fun x hx => hd x (List.mem_cons_of_mem _ hx)) (by rw [Nat.pow_succ]; omega)
    rw [List.length_cons, show j + (r.length + 1) = j + 1 + r.length by omega]
    exact this
theorem numW_bad {w : List UInt8} (h : ¬ (canon w ∧ w.length ≤ 10)) : numW w = -1 := by
  unfold numW
  rw [if_neg (fun hc => h ⟨hc.1, hc.2.1⟩)]
theorem number_l (w : List UInt8) (hn : w.length < 4611686018427387904) : ∀ d i : Nat, w.length - i = d → i ≤ w.length → (∀ c ∈ w.take i, isDig c) → (0 < i → w.length ≤ 10 ∧ (1 < w.length → ∀ c, w.head? = some c → c.toNat ≠ 48)) →
    Ev (fun k => pyxref09_number.l0 k (B w) (dval 0 (w.take i) : Nat) (i : Int)) (numW w) := by
  intro d
  induction d with
  | zero =>
    intro i hd hi hD hH
    refine Ev.last fun k => ?_
    rw [List.take_of_length_le (by omega)] at hD ⊢
    rw [pyxref09_number.l0, if_neg (by rw [B_size]; omega), B_toList]
    by_cases hw : w = []
    · rw [if_pos hw, numW_bad (fun h => h.1.1 hw)]
    · rw [if_neg hw]
      have h0 : 0 < w.length := List.length_pos_iff.2 hw
      have hH := hH (by omega)
      unfold numW
      by_cases hv : (dval 0 w : Int) > 4294967295
      · rw [if_pos hv, if_neg (fun h => by have := h.2.2; omega)]
      · rw [if_neg hv, if_pos ⟨⟨hw, hD, hH.2⟩, hH.1, by omega⟩]
  | succ d ih =>
    intro i hd hi hD hH
    have h1 : i < w.length := by omega
    have hb := bt_B w h1
    generalize hcc : w[i] = c at hb
    have hmem : c ∈ w := by rw [← hcc]; exact List.getElem_mem h1
    by_cases hc : isDig c
    · obtain ⟨c0, c1⟩ := hc
      by_cases hl : 10 < w.length
      · rw [numW_bad (fun h => by have := h.2; omega)]
        refine Ev.last fun k => ?_
        rw [pyxref09_number.l0, if_pos (by rw [B_size]; omega), if_pos (by omega), hb, if_neg (by omega), if_neg (by omega), if_pos (by rw [B_size]; omega)]
      · have hb0 := bt_B w (show 0 < w.length by omega)
        obtain ⟨x, r, e⟩ := List.exists_cons_of_ne_nil (List.ne_nil_of_length_pos (show 0 < w.length by omega))
        have hx : w.head? = some x := by rw [e]; rfl
        have hx0 : w[0]'(by omega) = x := by
          have := List.head?_eq_getElem? (l := w)
          rw [hx, List.getElem?_eq_getElem (show 0 < w.length by omega)] at this
          exact (Option.some.inj this).symm
        rw [hx0] at hb0
        have htk : w.take (i + 1) = w.take i ++ [c] := by rw [List.take_add_one, List.getElem?_eq_getElem h1, hcc]; rfl
        have hD2 : ∀ y ∈ w.take (i + 1), isDig y := by
          intro y hy
          rw [htk, List.mem_append, List.mem_singleton] at hy
          rcases hy with hy | rfl
          · exact hD y hy
          · exact ⟨c0, c1⟩
        have hlt := dval_lt (w.take i) 0 0 hD (by decide)
        have hlt2 : dval 0 (w.take i) < 10 ^ 10 := Nat.lt_of_lt_of_le hlt (Nat.pow_le_pow_right (by decide) (by rw [List.length_take]; omega))
        have hv : dval 0 (w.take (i + 1)) = dval 0 (w.take i) * 10 + (c.toNat - 48) := by rw [htk, dval_append]; rfl
        generalize dval 0 (w.take i) = v at hlt2 hv
        rw [show (10 : Nat) ^ 10 = 10000000000 from rfl] at hlt2
        have hstep : wrap64 ((wrap64 ((wrap64 (10 * (v : Int))) + (wrap64 (c.toNat : Int)))) - 48) = ((v * 10 + (c.toNat - 48) : Nat) : Int) := by
          rw [w64 (x := 10 * (v : Int)) (by omega) (by omega), w64 (x := (c.toNat : Int)) (by omega) (by omega), w64 (x := 10 * (v : Int) + (c.toNat : Int)) (by omega) (by omega), w64 (by omega) (by omega)]
          omega
        by_cases hz : x.toNat = 48 ∧ 1 < w.length
        · rw [numW_bad (fun h => h.1.2.2 hz.2 x hx hz.1)]
          refine Ev.last fun k => ?_
          have hb0' : bt (B w) 0 = 48 := by
            have : bt (B w) ((0 : Nat) : Int) = 48 := by rw [hb0, hz.1]; rfl
            exact this
          rw [pyxref09_number.l0, if_pos (by rw [B_size]; omega), if_pos (by omega), hb, if_neg (by omega), if_neg (by omega), if_neg (by rw [B_size]; omega), if_pos (by rw [B_size]; omega), hb0', if_pos rfl, if_pos (by rw [B_size]; omega)]
        · have hh := ih (i + 1) (by omega) (by omega) hD2 (fun _ => ⟨by omega, fun h2 y hy => by
            rw [hx] at hy
            obtain rfl := Option.some.inj hy
            intro h3
            exact hz ⟨h3, h2⟩⟩)
          rw [hv] at hh
          refine Ev.step' hh fun k => ?_
          rw [pyxref09_number.l0, if_pos (by rw [B_size]; omega), if_pos (by omega), hb, if_neg (by omega), if_neg (by omega), if_neg (by rw [B_size]; omega), if_pos (by rw [B_size]; omega), hstep, wsucc (by omega)]
          by_cases h48 : bt (B w) 0 = 48
          · have : x.toNat = 48 := by
              have h9 : bt (B w) ((0 : Nat) : Int) = 48 := h48
              rw [hb0] at h9
              omega
            rw [if_pos h48, if_neg (by rw [B_size]; intro h9; exact hz ⟨this, by omega⟩)]
          · rw [if_neg h48]
    · rw [numW_bad (fun h => hc (h.1.2.1 c hmem))]
      refine Ev.last fun k => ?_
      rw [pyxref09_number.l0, if_pos (by rw [B_size]; omega), if_pos (by omega), hb]
      by_cases h48 : (c.toNat : Int) < 48
      · rw [if_pos h48]
      · rw [if_neg h48, if_pos (by unfold isDig at hc; omega)]
theorem number_ev (w : List UInt8) (hn : w.length < 4611686018427387904) : Ev (fun k => pyxref09_number.f k (B w)) (numW w) := by
  have := number_l w hn w.length 0 (by omega) (by omega) (fun c hc => by simp at hc) (fun h => absurd h (by decide))
  exact Ev.congr (fun k => by rw [pyxref09_number.f]; rfl) this
noncomputable def refP : List (List UInt8) → List Int → List Int × Bool
  | [], acc => if validB acc = true then (acc, true) else ([], false)
  | w :: ws, acc => if numW w < 0 then ([], false) else refP ws (acc ++ [numW w])
theorem extract_B (L : List UInt8) (a b : Nat) : (B L).extract a b = B ((L.take b).drop a) := by
  apply ByteArray.ext
  rw [ByteArray.data_extract]
  apply Array.toList_inj.1
  rw [Array.toList_extract]
  show (L.drop a).take (b - a) = _
  rw [List.drop_take]
theorem rparse_end (L : List UInt8) (acc : List Int) (f i : Nat) (h : L.length < i) : Ev (fun k => pyxref09_Parse.l0 k (B L) acc (f : Int) (i : Int)) (if validB acc = true then (acc, true) else ([], false)) := by
  have hb : Ev (fun k => (pyxref09_Valid.f k acc).bind fun t204 => (if t204 = true then (some (acc, true)) else (some (([] : List Int), false)))) (if validB acc = true then (acc, true) else ([], false)) := by
    refine Ev.bind (rvalid acc) (Ev.const' fun k => ?_)
    split <;> rfl
  exact Ev.step' hb fun k => by rw [pyxref09_Parse.l0, if_neg (by rw [B_size]; omega)]
theorem rparse_l (L : List UInt8) (hn : L.length ≤ 1000000) : ∀ d i : Nat, L.length - i = d → i ≤ L.length → ∀ (f : Nat) (acc : List Int), f ≤ i → acc.length ≤ i →
    Ev (fun k => pyxref09_Parse.l0 k (B L) acc (f : Int) (i : Int)) (refP (spl ((L.take i).drop f) (L.drop i)) acc) := by
  intro d
  induction d with
  | zero =>
    intro i hd hi f acc hf ha
    have hiL : i = L.length := by omega
    rw [List.drop_eq_nil_of_le (show L.length ≤ i by omega), spl, refP]
    have hnum := number_ev ((L.take i).drop f) (by rw [List.length_drop, List.length_take]; omega)
    have hj : Ev (fun k => pyxref09_Parse.j1 k (B L) acc (f : Int) (i : Int) false) (if numW ((L.take i).drop f) < 0 then ([], false) else refP [] (acc ++ [numW ((L.take i).drop f)])) := by
      have hb : Ev (fun k => (pyxref09_number.f k ((B L).extract (f : Int).toNat (i : Int).toNat)).bind fun t205 => (if t205 < 0 then (some (([] : List Int), false)) else (if acc.length < 35184372088832 then (pyxref09_Parse.l0 k (B L) (acc ++ [(t205) % 4294967296]) (wrap64 ((i : Int) + 1)) (wrap64 ((i : Int) + 1))) else (none)))) (if numW ((L.take i).drop f) < 0 then ([], false) else refP [] (acc ++ [numW ((L.take i).drop f)])) := by
        rw [Int.toNat_natCast, Int.toNat_natCast, extract_B]
        refine Ev.bind hnum ?_
        by_cases h0 : numW ((L.take i).drop f) < 0
        · rw [if_pos h0]
          exact Ev.const' fun k => by rw [if_pos h0]
        · rw [if_neg h0]
          have hr := numW_pos (w := (L.take i).drop f) (by omega)
          refine Ev.congr (fun k => ?_) (rparse_end L (acc ++ [numW ((L.take i).drop f)]) (i + 1) (i + 1) (by omega))
          rw [if_neg h0, if_pos (by omega), wsucc (by omega), Int.emod_eq_of_lt hr.2.1 hr.2.2]
      exact Ev.step' hb fun k => by rw [pyxref09_Parse.j1, if_neg (by decide), if_pos (by omega), if_pos (by omega), if_pos (by rw [B_size]; omega)]
    exact Ev.step' hj fun k => by rw [pyxref09_Parse.l0, if_pos (by rw [B_size]; omega), if_neg (by rw [B_size]; omega)]
  | succ d ih =>
    intro i hd hi f acc hf ha
    have h1 : i < L.length := by omega
    have hb := bt_B L h1
    rw [List.drop_eq_getElem_cons h1]
    generalize hcc : L[i] = c at hb
    have htk : L.take (i + 1) = L.take i ++ [c] := by rw [List.take_add_one, List.getElem?_eq_getElem h1, hcc]; rfl
    rw [spl]
    by_cases hc : c = 46
    · rw [if_pos hc, refP]
      have h46 : (bt (B L) (i : Int) != 46) = false := by rw [hb, hc]; rfl
      have hnum := number_ev ((L.take i).drop f) (by rw [List.length_drop, List.length_take]; omega)
      have hj : Ev (fun k => pyxref09_Parse.j1 k (B L) acc (f : Int) (i : Int) false) (if numW ((L.take i).drop f) < 0 then ([], false) else refP (spl [] (L.drop (i + 1))) (acc ++ [numW ((L.take i).drop f)])) := by
        have hb : Ev (fun k => (pyxref09_number.f k ((B L).extract (f : Int).toNat (i : Int).toNat)).bind fun t205 => (if t205 < 0 then (some (([] : List Int), false)) else (if acc.length < 35184372088832 then (pyxref09_Parse.l0 k (B L) (acc ++ [(t205) % 4294967296]) (wrap64 ((i : Int) + 1)) (wrap64 ((i : Int) + 1))) else (none)))) (if numW ((L.take i).drop f) < 0 then ([], false) else refP (spl [] (L.drop (i + 1))) (acc ++ [numW ((L.take i).drop f)])) := by
          rw [Int.toNat_natCast, Int.toNat_natCast, extract_B]
          refine Ev.bind hnum ?_
          by_cases h0 : numW ((L.take i).drop f) < 0
          · rw [if_pos h0]
            exact Ev.const' fun k => by rw [if_pos h0]
          · rw [if_neg h0]
            have hr := numW_pos (w := (L.take i).drop f) (by omega)
            have hh := ih (i + 1) (by omega) (by omega) (i + 1) (acc ++ [numW ((L.take i).drop f)]) (Nat.le_refl _) (by rw [List.length_append]; simp; omega)
            rw [List.drop_eq_nil_of_le (show (L.take (i + 1)).length ≤ i + 1 by rw [List.length_take]; omega)] at hh
            refine Ev.congr (fun k => ?_) hh
            rw [if_neg h0, if_pos (by omega), wsucc (by omega), Int.emod_eq_of_lt hr.2.1 hr.2.2]
        exact Ev.step' hb fun k => by rw [pyxref09_Parse.j1, if_neg (by decide), if_pos (by omega), if_pos (by omega), if_pos (by rw [B_size]; omega)]
      exact Ev.step' hj fun k => by rw [pyxref09_Parse.l0, if_pos (by rw [B_size]; omega), if_pos (by rw [B_size]; omega), if_pos (by omega), h46]
    · rw [if_neg hc]
      have h46 : (bt (B L) (i : Int) != 46) = true := by
        rw [hb, bne_iff_ne]
        intro h
        exact hc (UInt8.toNat_inj.1 (by rw [show (46 : UInt8).toNat = 46 from rfl]; omega))
      have hh := ih (i + 1) (by omega) (by omega) f acc (by omega) (by omega)
      rw [htk, List.drop_append_of_le_length (by rw [List.length_take]; omega)] at hh
      have hj : Ev (fun k => pyxref09_Parse.j1 k (B L) acc (f : Int) (i : Int) true) (refP (spl ((L.take i).drop f ++ [c]) (L.drop (i + 1))) acc) :=
        Ev.step' hh fun k => by rw [pyxref09_Parse.j1, if_pos rfl, wsucc (by omega)]
      exact Ev.step' hj fun k => by rw [pyxref09_Parse.l0, if_pos (by rw [B_size]; omega), if_pos (by rw [B_size]; omega), if_pos (by omega), h46]
theorem rparse_ev (s : ByteArray) (hn : s.size ≤ 1000000) : Ev (fun k => pyxref09_Parse.f k s) (refP (spl [] s.data.toList) []) := by
  have := rparse_l s.data.toList (by rw [Array.length_toList]; exact hn) _ 0 rfl (Nat.zero_le _) 0 [] (Nat.le_refl _) (Nat.le_refl _)
  exact this
end Go.Proofs.YtohmnlmeamkmjaaDoor.POid
