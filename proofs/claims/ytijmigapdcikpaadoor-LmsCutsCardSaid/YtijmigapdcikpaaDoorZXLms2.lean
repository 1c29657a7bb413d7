/- The layer's reader and the reference's functions with offsets: words, keys, signatures. -/
import Derived.Test.YtijmigapdcikpaaDoorZPLmsx14
import Derived.Test.YtijmigapdcikpaaDoorZPLmsx15
import Derived.Test.YtijmigapdcikpaaDoorZPLmsx3
import Derived.Test.YtijmigapdcikpaaDoorZXLms1
namespace Go.Proofs.YtijmigapdcikpaaDoor.PLms
open Go.RowKit Go.Proofs.YtijmigapdcikpaaDoorW.PrintWords Go.Proofs.YtijmigapdcikpaaDoorW.PrintLast Go.Proofs.YtijmigapdcikpaaDoorW.PrintMore
theorem rd_get (l : List Int) (p : Nat) (h : p < l.length) : rd l (p : Int) = l[p] := by
  unfold rd
  rw [Int.toNat_natCast, List.getD_eq_getElem?_getD, List.getElem?_eq_getElem h]
  rfl
theorem rword_no (l : List Int) (p : Nat) (hl : l.length < 1000000000000) (hp : p ≤ l.length) (h : ¬ p + 4 ≤ l.length) : pyxref21_word.f l (p : Int) = some (-1) := by
  unfold pyxref21_word.f
  rw [w64_ (by omega) (by omega), if_pos (by omega)]
theorem rword_ok (l : List Int) (p : Nat) (hl : l.length < 1000000000000) (hb : ∀ x ∈ l, 0 ≤ x ∧ x < 256) (h : p + 4 ≤ l.length) : pyxref21_word.f l (p : Int) = some (v256 ((l.drop p).take 4)) := by
  have e : (l.drop p).take 4 = [l[p], l[p + 1], l[p + 2], l[p + 3]] := by
    rw [List.drop_eq_getElem_cons (by omega : p < l.length), List.drop_eq_getElem_cons (by omega : p + 1 < l.length), List.drop_eq_getElem_cons (by omega : p + 1 + 1 < l.length), List.drop_eq_getElem_cons (by omega : p + 1 + 1 + 1 < l.length)]
    simp [List.take]
  have b0 := hb _ (List.getElem_mem (by omega : p < l.length))
  have b1 := hb _ (List.getElem_mem (by omega : p + 1 < l.length))
  have b2 := hb _ (List.getElem_mem (by omega : p + 2 < l.length))
  have b3 := hb _ (List.getElem_mem (by omega : p + 3 < l.length))
  have r1 : rd l ((p : Int) + 1) = l[p + 1] := rd_get l (p + 1) (by omega)
  have r2 : rd l ((p : Int) + 2) = l[p + 2] := rd_get l (p + 2) (by omega)
  have r3 : rd l ((p : Int) + 3) = l[p + 3] := rd_get l (p + 3) (by omega)
  unfold pyxref21_word.f
  rw [w64_ (x := (p : Int) + 4) (by omega) (by omega), w64_ (x := (p : Int) + 1) (by omega) (by omega), w64_ (x := (p : Int) + 2) (by omega) (by omega), w64_ (x := (p : Int) + 3) (by omega) (by omega)]
  rw [if_neg (by omega), if_pos (by omega), if_pos (by omega), if_pos (by omega), if_pos (by omega), if_pos (by omega), if_pos (by omega), if_pos (by omega), if_pos (by omega)]
  rw [rd_get l p (by omega), r1, r2, r3, e]
  generalize l[p] = x0 at b0
  generalize l[p + 1] = x1 at b1
  generalize l[p + 2] = x2 at b2
  generalize l[p + 3] = x3 at b3
  congr 1
  simp only [v256, List.foldl]
  unfold wrap64
  omega
def wd (l : List Int) (p : Nat) : Int := v256 ((l.drop p).take 4)
theorem wd_bd (l : List Int) (p : Nat) (hb : ∀ x ∈ l, 0 ≤ x ∧ x < 256) (h : p + 4 ≤ l.length) : 0 ≤ wd l p ∧ wd l p < 4294967296 := by
  have h := lw_bd hb (p, none)
  rwa [lw, if_pos (by assumption)] at h
theorem lw_ok (l : List Int) (p : Nat) (e : Option E) (h : p + 4 ≤ l.length) : lw l (p, e) = (wd l p, p + 4, e) := by rw [lw]; exact if_pos h
theorem lw_no (l : List Int) (p : Nat) (h : ¬ p + 4 ≤ l.length) : lw l (p, none) = (0, p, some (.fault 3 l.length)) := by rw [lw]; exact if_neg h
theorem ltyC_ok (l : List Int) (p : Nat) (h : p + 4 ≤ l.length) (hc : (chn (wd l p)).1 ≠ 0) : lty chn l (p, none) = ((wd l p, (chn (wd l p)).1), p + 4, none) := by
  have h2 : (chn (wd l p)).2 = true := by rw [chn_pos]; have := chn_le (wd l p); exact decide_eq_true (by omega)
  simp only [lty, lw_ok l p none h, h2, if_true]
theorem ltyC_bad (l : List Int) (p : Nat) (h : p + 4 ≤ l.length) (hc : (chn (wd l p)).1 = 0) : lty chn l (p, none) = ((wd l p, 0), p + 4, some (.fault 8 p)) := by
  have h2 : (chn (wd l p)).2 = false := by rw [chn_pos, hc]; rfl
  simp [lty, lw_ok l p none h, h2, hc, fl]
theorem ltyC_no (l : List Int) (p : Nat) (h : ¬ p + 4 ≤ l.length) : lty chn l (p, none) = ((0, 0), p, some (.fault 3 l.length)) := by
  simp [lty, lw_no l p h, show chn 0 = (0, false) from rfl, fl]
theorem ltyH_ok (l : List Int) (p : Nat) (h : p + 4 ≤ l.length) (hc : (hgt (wd l p)).1 ≠ 0) : lty hgt l (p, none) = ((wd l p, (hgt (wd l p)).1), p + 4, none) := by
  have h2 : (hgt (wd l p)).2 = true := by rw [hgt_pos]; have := hgt_le (wd l p); exact decide_eq_true (by omega)
  simp only [lty, lw_ok l p none h, h2, if_true]
theorem ltyH_bad (l : List Int) (p : Nat) (h : p + 4 ≤ l.length) (hc : (hgt (wd l p)).1 = 0) : lty hgt l (p, none) = ((wd l p, 0), p + 4, some (.fault 8 p)) := by
  have h2 : (hgt (wd l p)).2 = false := by rw [hgt_pos, hc]; rfl
  simp [lty, lw_ok l p none h, h2, hc, fl]
theorem ltyH_no (l : List Int) (p : Nat) (h : ¬ p + 4 ≤ l.length) : lty hgt l (p, none) = ((0, 0), p, some (.fault 3 l.length)) := by
  simp [lty, lw_no l p h, show hgt 0 = (0, false) from rfl, fl]
theorem key_eq (l : List Int) (p : Nat) (hl : l.length < 1000000000000) (hb : ∀ x ∈ l, 0 ≤ x ∧ x < 256) (hp : p ≤ l.length) :
    (∃ p', pyxref21_key.f l (p : Int) = some (0, 0) ∧ lkey l (p, none) = (p', none) ∧ p' = p + 56 ∧ p + 56 ≤ l.length) ∨
    (∃ (c n : Int) (p' : Nat), pyxref21_key.f l (p : Int) = some (c, n) ∧ (c ≠ 0 ∧ 0 ≤ n ∧ n < 9000000000000000000) ∧ lkey l (p, none) = (p', some (.fault c n))) := by
  unfold pyxref21_key.f lkey
  by_cases h1 : p + 4 ≤ l.length
  · rw [rword_ok l p hl hb h1]
    have w1 := wd_bd l p hb h1
    simp only [Option.bind_some]
    rw [show v256 ((l.drop p).take 4) = wd l p from rfl, if_neg (by omega), rheight]
    simp only [Option.bind_some]
    by_cases h2 : (hgt (wd l p)).1 = 0
    · rw [if_pos h2, ltyH_bad l p h1 h2]
      exact .inr ⟨8, p, p + 4, rfl, ⟨by decide, by omega, by omega⟩, rfl⟩
    · rw [if_neg h2, ltyH_ok l p h1 h2, w64_ (x := (p : Int) + 4) (by omega) (by omega)]
      by_cases h3 : p + 4 + 4 ≤ l.length
      · have w2 := wd_bd l (p + 4) hb h3
        rw [show (p : Int) + 4 = ((p + 4 : Nat) : Int) from rfl, rword_ok l (p + 4) hl hb h3]
        simp only [Option.bind_some]
        rw [show v256 ((l.drop (p + 4)).take 4) = wd l (p + 4) from rfl, if_neg (by omega), rchains]
        simp only [Option.bind_some]
        by_cases h4 : (chn (wd l (p + 4))).1 = 0
        · rw [if_pos h4]
          refine .inr ⟨8, _, p + 4 + 4, rfl, ⟨by decide, by omega, by omega⟩, ?_⟩
          simp [lkey2, lkey1, ltyC_bad l (p + 4) h3 h4]
        · rw [if_neg h4, w64_ (x := (p : Int) + 56) (by omega) (by omega)]
          by_cases h5 : p + 56 ≤ l.length
          · rw [if_neg (by omega)]
            refine .inl ⟨p + 56, rfl, ?_, rfl, h5⟩
            have h6 : p + 4 + 4 + 48 ≤ l.length := by omega
            simp [lkey2, lkey1, ltyC_ok l (p + 4) h3 h4, lskip, h6]
          · rw [if_pos (by omega)]
            have h6 : ¬ p + 4 + 4 + 48 ≤ l.length := by omega
            refine .inr ⟨3, _, p + 4 + 4, rfl, ⟨by decide, by omega, by omega⟩, ?_⟩
            simp [lkey2, lkey1, ltyC_ok l (p + 4) h3 h4, lskip, h6, fl]
      · rw [show (p : Int) + 4 = ((p + 4 : Nat) : Int) from rfl, rword_no l (p + 4) hl h1 h3]
        simp only [Option.bind_some]
        rw [if_pos (by decide)]
        refine .inr ⟨3, _, p + 4, rfl, ⟨by decide, by omega, by omega⟩, ?_⟩
        simp [lkey2, lkey1, ltyC_no l (p + 4) h3]
  · rw [rword_no l p hl hp h1]
    simp only [Option.bind_some]
    rw [if_pos (by decide)]
    refine .inr ⟨3, _, p, rfl, ⟨by decide, by omega, by omega⟩, ?_⟩
    rw [ltyH_no l p h1]
    simp [lkey2, lkey1]
theorem rword_no' (l : List Int) (p : Nat) (_hl : l.length < 1000000000000) (hp : p < 2000000000000) (h : ¬ p + 4 ≤ l.length) : pyxref21_word.f l (p : Int) = some (-1) := by
  unfold pyxref21_word.f
  rw [w64_ (by omega) (by omega), if_pos (by omega)]
theorem hgt_five {t : Int} (h : (hgt t).1 ≠ 0) : (hgt t).1 = 5 ∨ (hgt t).1 = 10 ∨ (hgt t).1 = 15 ∨ (hgt t).1 = 20 ∨ (hgt t).1 = 25 := by
  unfold hgt at h ⊢
  by_cases c : 5 ≤ t ∧ t ≤ 9
  · rw [if_pos c]; simp only; omega
  · rw [if_neg c] at h; exact absurd rfl h
theorem shl_five {h : Int} (a : h = 5 ∨ h = 10 ∨ h = 15 ∨ h = 20 ∨ h = 25) : 0 ≤ IntKind.u64.wrap h ∧ shl .i64 1 (IntKind.u64.wrap h) = 2 ^ h.toNat := by
  rcases a with rfl | rfl | rfl | rfl | rfl <;> exact ⟨by decide, by decide⟩
theorem div_pos_iff {q : Int} {h : Nat} (q0 : 0 ≤ q) : 0 < q / 2 ^ h ↔ q ≥ 2 ^ h := by
  have hp : (0 : Int) < 2 ^ h := Int.pow_pos (by decide)
  constructor
  · intro a
    rcases Int.lt_or_le q (2 ^ h) with b | b
    · rw [Int.ediv_eq_zero_of_lt q0 b] at a; omega
    · exact b
  · intro a
    have : 1 ≤ q / 2 ^ h := (Int.le_ediv_iff_mul_le hp).2 (by omega)
    omega
theorem lsig_1 {l : List Int} {p : Nat} {q : Int} {p1 : Nat} {y : E} (h1 : lw l (p, none) = (q, p1, some y)) : lsig l (p, none) = (⟨0, 0, q, (p : Int), 0⟩, p1, some y) := by
  unfold lsig
  rw [h1]
  dsimp only
  rw [if_pos (by rfl)]
theorem lsig_2 {l : List Int} {p : Nat} {q t c : Int} {p1 p2 : Nat} {y : E} (h1 : lw l (p, none) = (q, p1, none)) (h2 : lty chn l (p1, none) = ((t, c), p2, some y)) : lsig l (p, none) = (⟨0, 0, q, (p : Int), 0⟩, p2, some y) := by
  unfold lsig
  rw [h1]
  dsimp only
  rw [if_neg (by decide), h2]
  dsimp only
  rw [if_pos (by rfl)]
theorem lsig_3 {l : List Int} {p : Nat} {q t c : Int} {p1 p2 p3 m : Nat} {y : E} (h1 : lw l (p, none) = (q, p1, none)) (h2 : lty chn l (p1, none) = ((t, c), p2, none)) (hm : (32 * (1 + c)).toNat = m) (h3 : lskip l m (p2, none) = (p3, some y)) : lsig l (p, none) = (⟨0, 0, q, (p : Int), 0⟩, p3, some y) := by
  unfold lsig
  rw [h1]
  dsimp only
  rw [if_neg (by decide), h2]
  dsimp only
  rw [if_neg (by decide), hm, h3]
  dsimp only
  rw [if_pos (by rfl)]
theorem lsig_4 {l : List Int} {p : Nat} {q t c u h : Int} {p1 p2 p3 p4 m : Nat} {y : E} (h1 : lw l (p, none) = (q, p1, none)) (h2 : lty chn l (p1, none) = ((t, c), p2, none)) (hm : (32 * (1 + c)).toNat = m) (h3 : lskip l m (p2, none) = (p3, none)) (h4 : lty hgt l (p3, none) = ((u, h), p4, some y)) : lsig l (p, none) = (⟨0, 0, q, (p : Int), 0⟩, p4, some y) := by
  unfold lsig
  rw [h1]
  dsimp only
  rw [if_neg (by decide), h2]
  dsimp only
  rw [if_neg (by decide), hm, h3]
  dsimp only
  rw [if_neg (by decide), h4]
  dsimp only
  rw [if_pos (by rfl)]
theorem lsig_5 {l : List Int} {p : Nat} {q t c u h : Int} {p1 p2 p3 p4 m : Nat} (h1 : lw l (p, none) = (q, p1, none)) (h2 : lty chn l (p1, none) = ((t, c), p2, none)) (hm : (32 * (1 + c)).toNat = m) (h3 : lskip l m (p2, none) = (p3, none)) (h4 : lty hgt l (p3, none) = ((u, h), p4, none)) (h5 : 0 < q / 2 ^ h.toNat) : lsig l (p, none) = (⟨0, 0, q, (p : Int), 0⟩, p4, some (.fault 9 (p : Int))) := by
  unfold lsig
  rw [h1]
  dsimp only
  rw [if_neg (by decide), h2]
  dsimp only
  rw [if_neg (by decide), hm, h3]
  dsimp only
  rw [if_neg (by decide), h4]
  dsimp only
  rw [if_neg (by decide), if_pos h5]
theorem lsig_6 {l : List Int} {p : Nat} {q t c u h : Int} {p1 p2 p3 p4 m n : Nat} {r : Nat × Option E} (h1 : lw l (p, none) = (q, p1, none)) (h2 : lty chn l (p1, none) = ((t, c), p2, none)) (hm : (32 * (1 + c)).toNat = m) (h3 : lskip l m (p2, none) = (p3, none)) (h4 : lty hgt l (p3, none) = ((u, h), p4, none)) (h5 : ¬ 0 < q / 2 ^ h.toNat) (hn : (32 * h).toNat = n) (h6 : lskip l n (p4, none) = r) : lsig l (p, none) = (⟨u, t, q, (p : Int), (r.1 : Int) - (p : Int)⟩, r) := by
  unfold lsig
  rw [h1]
  dsimp only
  rw [if_neg (by decide), h2]
  dsimp only
  rw [if_neg (by decide), hm, h3]
  dsimp only
  rw [if_neg (by decide), h4]
  dsimp only
  rw [if_neg (by decide), if_neg h5, hn, h6]
set_option maxHeartbeats 2000000 in
theorem sig_eq (l : List Int) (p k : Nat) (hl : l.length < 1000000000000) (hb : ∀ x ∈ l, 0 ≤ x ∧ x < 256) (hp : p ≤ l.length) :
    (∃ (t o q s : Int) (p' : Nat), pyxref21_signature.f (k + 1) l (p : Int) = some (t, o, q, (p : Int), s, 0, 0) ∧ lsig l (p, none) = (⟨t, o, q, (p : Int), s⟩, p', none) ∧ (p' : Int) = (p : Int) + s ∧ p' ≤ l.length ∧ p < p') ∨
    (∃ (c n : Int) (x : S70) (p' : Nat), pyxref21_signature.f (k + 1) l (p : Int) = some (0, 0, 0, 0, 0, c, n) ∧ (c ≠ 0 ∧ 0 ≤ n ∧ n < 9000000000000000000) ∧ lsig l (p, none) = (x, p', some (.fault c n))) := by
  have ww := fun (q : Nat) (h : q + 4 ≤ l.length) => wd_bd l q hb h
  have rw_ok : ∀ q : Nat, q + 4 ≤ l.length → pyxref21_word.f l (q : Int) = some (wd l q) := fun q h => rword_ok l q hl hb h
  have Lw := fun (q : Nat) (h : q + 4 ≤ l.length) => lw_ok l q none h
  have Cok := fun (q : Nat) => ltyC_ok l q
  have Cbad := fun (q : Nat) => ltyC_bad l q
  have Hok := fun (q : Nat) => ltyH_ok l q
  have Hbad := fun (q : Nat) => ltyH_bad l q
  generalize wd l = W at ww rw_ok Lw Cok Cbad Hok Hbad
  obtain ⟨R, hR⟩ : ∃ R, R = pyxref21_signature.f (k + 1) l (p : Int) := ⟨_, rfl⟩
  rw [← hR]
  unfold pyxref21_signature.f at hR
  by_cases h1 : p + 4 ≤ l.length
  case neg =>
    rw [rword_no l p hl hp h1] at hR
    rw [Option.bind_some] at hR
    rw [if_pos (by decide)] at hR
    exact .inr ⟨3, _, ⟨0, 0, 0, (p : Int), 0⟩, p, hR, ⟨by decide, by omega, by omega⟩, lsig_1 (lw_no l p h1)⟩
  rw [rw_ok p h1] at hR
  have w1 := ww p h1
  rw [Option.bind_some] at hR
  rw [if_neg (by omega), w64_ (x := (p : Int) + 4) (by omega) (by omega), show (p : Int) + 4 = ((p + 4 : Nat) : Int) from rfl] at hR
  by_cases h2 : p + 4 + 4 ≤ l.length
  case neg =>
    rw [rword_no l (p + 4) hl h1 h2] at hR
    rw [Option.bind_some] at hR
    rw [if_pos (by decide)] at hR
    refine .inr ⟨3, _, ⟨0, 0, W p, (p : Int), 0⟩, p + 4, hR, ⟨by decide, by omega, by omega⟩, ?_⟩
    exact lsig_2 (Lw p h1) (ltyC_no l (p + 4) h2)
  rw [rw_ok (p + 4) h2] at hR
  have w2 := ww (p + 4) h2
  rw [Option.bind_some] at hR
  rw [if_neg (by omega), rchains] at hR
  rw [Option.bind_some] at hR
  by_cases h3 : (chn (W (p + 4))).1 = 0
  · rw [if_pos h3] at hR
    refine .inr ⟨8, _, ⟨0, 0, W p, (p : Int), 0⟩, p + 4 + 4, hR, ⟨by decide, by omega, by omega⟩, ?_⟩
    exact lsig_2 (Lw p h1) (Cbad (p + 4) h2 h3)
  rw [if_neg h3] at hR
  have hc := chn_le (W (p + 4))
  have e1 := Cok (p + 4) h2 h3
  have hs2 : (chn (W (p + 4))).2 = true := by rw [chn_pos]; exact decide_eq_true (by omega)
  generalize hC : (chn (W (p + 4))).1 = C at hc e1 h3 hR ⊢
  obtain ⟨m, hm⟩ : ∃ m : Nat, (m : Int) = 32 * (1 + C) := ⟨(32 * (1 + C)).toNat, Int.toNat_of_nonneg (by omega)⟩
  have hm' : (32 * (1 + C)).toNat = m := by omega
  have et : wrap64 (wrap64 (wrap64 ((p : Int) + 8) + 32) + wrap64 (32 * C)) = ((p + 4 + 4 + m : Nat) : Int) := by
    rw [w64_ (x := (p : Int) + 8) (by omega) (by omega), w64_ (x := (p : Int) + 8 + 32) (by omega) (by omega), w64_ (x := 32 * C) (by omega) (by omega), w64_ (by omega) (by omega)]
    omega
  rw [Option.bind_some, et] at hR
  by_cases h4 : p + 4 + 4 + m ≤ l.length
  case neg =>
    rw [rword_no' l (p + 4 + 4 + m) hl (by omega) (by omega)] at hR
    rw [Option.bind_some] at hR
    rw [if_pos (by decide)] at hR
    refine .inr ⟨3, _, ⟨0, 0, W p, (p : Int), 0⟩, p + 4 + 4, hR, ⟨by decide, by omega, by omega⟩, ?_⟩
    have es : lskip l m (p + 4 + 4, none) = (p + 4 + 4, some (.fault 3 l.length)) := by unfold lskip; exact if_neg h4
    exact lsig_3 (Lw p h1) e1 hm' es
  have es : lskip l m (p + 4 + 4, none) = (p + 4 + 4 + m, none) := by unfold lskip; exact if_pos h4
  by_cases h5 : p + 4 + 4 + m + 4 ≤ l.length
  case neg =>
    rw [rword_no' l (p + 4 + 4 + m) hl (by omega) h5] at hR
    rw [Option.bind_some] at hR
    rw [if_pos (by decide)] at hR
    refine .inr ⟨3, _, ⟨0, 0, W p, (p : Int), 0⟩, p + 4 + 4 + m, hR, ⟨by decide, by omega, by omega⟩, ?_⟩
    exact lsig_4 (Lw p h1) e1 hm' es (ltyH_no l (p + 4 + 4 + m) h5)
  rw [rw_ok (p + 4 + 4 + m) h5] at hR
  have w3 := ww (p + 4 + 4 + m) h5
  rw [Option.bind_some] at hR
  rw [if_neg (by omega), rheight] at hR
  rw [Option.bind_some] at hR
  by_cases h6 : (hgt (W (p + 4 + 4 + m))).1 = 0
  · rw [if_pos h6] at hR
    refine .inr ⟨8, _, ⟨0, 0, W p, (p : Int), 0⟩, p + 4 + 4 + m + 4, hR, ⟨by decide, by omega, by omega⟩, ?_⟩
    exact lsig_4 (Lw p h1) e1 hm' es (Hbad (p + 4 + 4 + m) h5 h6)
  rw [if_neg h6] at hR
  have e2 := Hok (p + 4 + 4 + m) h5 h6
  have h7 := hgt_five h6
  have hs3 : (hgt (W (p + 4 + 4 + m))).2 = true := by rw [hgt_pos]; exact decide_eq_true (by omega)
  have esz : szf (W (p + 4 + 4 + m)) (W (p + 4)) = 12 + 32 * (1 + C + (hgt (W (p + 4 + 4 + m))).1) := by rw [szf, if_pos ⟨hs3, hs2⟩, hC]
  generalize (hgt (W (p + 4 + 4 + m))).1 = H at e2 h6 h7 esz hR ⊢
  obtain ⟨g1, g2⟩ := shl_five h7
  rw [Option.bind_some, if_pos g1, g2] at hR
  by_cases h8 : W p ≥ 2 ^ H.toNat
  · rw [if_pos h8] at hR
    refine .inr ⟨9, _, ⟨0, 0, W p, (p : Int), 0⟩, p + 4 + 4 + m + 4, hR, ⟨by decide, by omega, by omega⟩, ?_⟩
    have h9 := (div_pos_iff (h := H.toNat) w1.1).2 h8
    exact lsig_5 (Lw p h1) e1 hm' es e2 h9
  rw [if_neg h8, Option.bind_some] at hR
  have h9 : ¬ 0 < W p / 2 ^ H.toNat := fun a => h8 ((div_pos_iff w1.1).1 a)
  have hH : 0 ≤ H ∧ H ≤ 25 := by clear h8 h9 hR; omega
  have L6 := fun (n : Nat) (hn : (32 * H).toNat = n) (r : Nat × Option E) (ef : lskip l n (p + 4 + 4 + m + 4, none) = r) => lsig_6 (Lw p h1) e1 hm' es e2 h9 hn ef
  clear h7 h8 h9 g1 g2
  obtain ⟨n, hn⟩ : ∃ n : Nat, (n : Int) = 32 * H := ⟨(32 * H).toNat, Int.toNat_of_nonneg (by omega)⟩
  have hn' : (32 * H).toNat = n := by omega
  have ez : wrap64 (wrap64 (((p + 4 + 4 + m : Nat) : Int) + 4) + wrap64 (32 * H)) = ((p + 4 + 4 + m + 4 + n : Nat) : Int) := by
    rw [w64_ (x := ((p + 4 + 4 + m : Nat) : Int) + 4) (by omega) (by omega), w64_ (x := 32 * H) (by omega) (by omega), w64_ (by omega) (by omega)]
    omega
  rw [ez] at hR
  have bl : (0 : Int) ≤ (l.length : Int) ∧ (l.length : Int) < 9000000000000000000 := ⟨by omega, by omega⟩
  by_cases h10 : p + 4 + 4 + m + 4 + n ≤ l.length
  case neg =>
    have hlt : ((p + 4 + 4 + m + 4 + n : Nat) : Int) > (l.length : Int) := Int.ofNat_lt.2 (Nat.lt_of_not_le h10)
    rw [if_pos hlt] at hR
    have ef : lskip l n (p + 4 + 4 + m + 4, none) = (p + 4 + 4 + m + 4, some (.fault 3 l.length)) := by unfold lskip; exact if_neg h10
    exact .inr ⟨3, _, _, p + 4 + 4 + m + 4, hR, ⟨by decide, bl⟩, L6 n hn' _ ef⟩
  have hle : ¬ ((p + 4 + 4 + m + 4 + n : Nat) : Int) > (l.length : Int) := Int.not_lt.2 (Int.ofNat_le.2 h10)
  rw [if_neg hle, rsize k, esz, Option.bind_some] at hR
  have ef : lskip l n (p + 4 + 4 + m + 4, none) = (p + 4 + 4 + m + 4 + n, none) := by unfold lskip; exact if_pos h10
  have e6 := L6 n hn' _ ef
  dsimp only at e6
  have ex : ((p + 4 + 4 + m + 4 + n : Nat) : Int) - (p : Int) = 12 + 32 * (1 + C + H) := by omega
  rw [ex] at e6
  exact .inl ⟨_, _, _, _, p + 4 + 4 + m + 4 + n, hR, e6, by omega, h10, by omega⟩
end Go.Proofs.YtijmigapdcikpaaDoor.PLms
