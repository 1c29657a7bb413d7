/- What a parse tells of the beginning of what is parsed without an error: no condition. -/
import Derived.Test.YtijmigapdcikpaaDoorZXLms5
import Derived.Test.YtijmigapdcikpaaDoorZPLmsx16
namespace Go.Proofs.YtijmigapdcikpaaDoor.PLms
open Go.RowKit Go.Proofs.YtijmigapdcikpaaDoorW.PrintWords Go.Proofs.YtijmigapdcikpaaDoorW.PrintLast Go.Proofs.YtijmigapdcikpaaDoorW.PrintMore Go.Proofs.YtijmigapdcikpaaDoorW.Pu
set_option linter.unusedVariables false
theorem wd_take (l : List Int) (n p : Nat) (h : p + 4 ≤ n) : wd (l.take n) p = wd l p := by
  unfold wd
  rw [List.drop_take, List.take_take, Nat.min_eq_left (by omega)]
theorem take_len (l : List Int) (n : Nat) (h : n ≤ l.length) : (l.take n).length = n := by rw [List.length_take]; omega
theorem lw_T (l : List Int) (n p : Nat) (hn : n ≤ l.length) (hp : p ≤ n) :
    (lw (l.take n) (p, none) = lw l (p, none) ∧ (lw l (p, none)).2.1 ≤ n) ∨ ∃ p', lw (l.take n) (p, none) = (0, p', some (.fault 3 n)) := by
  have hl := take_len l n hn
  by_cases c : p + 4 ≤ n
  · left
    rw [lw_ok l p none (by omega), lw_ok (l.take n) p none (by omega), wd_take l n p c]
    exact ⟨rfl, c⟩
  · right
    refine ⟨p, ?_⟩
    rw [lw_no (l.take n) p (by omega), hl]
theorem lskip_T (l : List Int) (n m p : Nat) (hn : n ≤ l.length) (hp : p ≤ n) :
    (lskip (l.take n) m (p, none) = lskip l m (p, none) ∧ (lskip l m (p, none)).1 ≤ n) ∨ ∃ p', lskip (l.take n) m (p, none) = (p', some (.fault 3 n)) := by
  have hl := take_len l n hn
  by_cases c : p + m ≤ n
  · left
    have h1 : lskip l m (p, none) = (p + m, none) := by rw [lskip]; exact if_pos (by show p + m ≤ l.length; omega)
    have h2 : lskip (l.take n) m (p, none) = (p + m, none) := by rw [lskip]; exact if_pos (by show p + m ≤ (l.take n).length; omega)
    rw [h1, h2]
    exact ⟨rfl, c⟩
  · right
    refine ⟨p, ?_⟩
    rw [lskip, if_neg (by show ¬ p + m ≤ (l.take n).length; omega), hl]
    rfl
theorem lty_T (num : Int → Int × Bool) (l : List Int) (n p : Nat) (hn : n ≤ l.length) (hp : p ≤ n) :
    (lty num (l.take n) (p, none) = lty num l (p, none) ∧ (lty num l (p, none)).2.1 ≤ n) ∨ ∃ v p', lty num (l.take n) (p, none) = (v, p', some (.fault 3 n)) := by
  rcases lw_T l n p hn hp with ⟨h1, h2⟩ | ⟨p', h1⟩
  · left
    unfold lty
    rw [h1]
    exact ⟨rfl, h2⟩
  · right
    refine ⟨(0, (num 0).1), p', ?_⟩
    unfold lty
    rw [h1]
    simp only
    split <;> rfl
theorem lkey_T (l : List Int) (n p : Nat) (hn : n ≤ l.length) (hp : p ≤ n) :
    (lkey (l.take n) (p, none) = lkey l (p, none) ∧ (lkey l (p, none)).1 ≤ n) ∨ ∃ p', lkey (l.take n) (p, none) = (p', some (.fault 3 n)) := by
  unfold lkey
  rcases lty_T hgt l n p hn hp with ⟨h1, h2⟩ | ⟨v, p', h1⟩
  · rw [h1]
    rcases hs : (lty hgt l (p, none)).2 with ⟨p1, _ | y⟩
    · rw [hs] at h2
      have e1 : ∀ z, lkey1 z (p1, none) = (lty chn z (p1, none)).2 := fun z => rfl
      rw [e1, e1]
      rcases lty_T chn l n p1 hn h2 with ⟨h3, h4⟩ | ⟨v, p', h3⟩
      · rw [h3]
        rcases hs2 : (lty chn l (p1, none)).2 with ⟨p2, _ | y⟩
        · rw [hs2] at h4
          exact lskip_T l n 48 p2 hn h4
        · rw [hs2] at h4
          exact .inl ⟨rfl, h4⟩
      · rw [h3]
        exact .inr ⟨p', rfl⟩
    · rw [hs] at h2
      exact .inl ⟨rfl, h2⟩
  · rw [h1]
    exact .inr ⟨p', rfl⟩
theorem lsig_T (l : List Int) (n p : Nat) (hn : n ≤ l.length) (hp : p ≤ n) :
    (lsig (l.take n) (p, none) = lsig l (p, none) ∧ (lsig l (p, none)).2.1 ≤ n) ∨ ∃ x p', lsig (l.take n) (p, none) = (x, p', some (.fault 3 n)) := by
  rcases lw_T l n p hn hp with ⟨h1, g1⟩ | ⟨p', h1⟩
  case inr => exact .inr ⟨_, _, lsig_1 h1⟩
  rcases e1 : lw l (p, none) with ⟨q, p1, _ | y⟩
  case some =>
    rw [e1] at h1 g1
    rw [lsig_1 e1, lsig_1 h1]
    exact .inl ⟨rfl, g1⟩
  rw [e1] at h1 g1
  rcases lty_T chn l n p1 hn g1 with ⟨h2, g2⟩ | ⟨v, p', h2⟩
  case inr => obtain ⟨v1, v2⟩ := v; exact .inr ⟨_, _, lsig_2 h1 h2⟩
  rcases e2 : lty chn l (p1, none) with ⟨⟨t, c⟩, p2, _ | y⟩
  case some =>
    rw [e2] at h2 g2
    rw [lsig_2 e1 e2, lsig_2 h1 h2]
    exact .inl ⟨rfl, g2⟩
  rw [e2] at h2 g2
  obtain ⟨m, hm⟩ : ∃ m : Nat, (32 * (1 + c)).toNat = m := ⟨_, rfl⟩
  rcases lskip_T l n m p2 hn g2 with ⟨h3, g3⟩ | ⟨p', h3⟩
  case inr => exact .inr ⟨_, _, lsig_3 h1 h2 hm h3⟩
  rcases e3 : lskip l m (p2, none) with ⟨p3, _ | y⟩
  case some =>
    rw [e3] at h3 g3
    rw [lsig_3 e1 e2 hm e3, lsig_3 h1 h2 hm h3]
    exact .inl ⟨rfl, g3⟩
  rw [e3] at h3 g3
  rcases lty_T hgt l n p3 hn g3 with ⟨h4, g4⟩ | ⟨v, p', h4⟩
  case inr => obtain ⟨v1, v2⟩ := v; exact .inr ⟨_, _, lsig_4 h1 h2 hm h3 h4⟩
  rcases e4 : lty hgt l (p3, none) with ⟨⟨u, h⟩, p4, _ | y⟩
  case some =>
    rw [e4] at h4 g4
    rw [lsig_4 e1 e2 hm e3 e4, lsig_4 h1 h2 hm h3 h4]
    exact .inl ⟨rfl, g4⟩
  rw [e4] at h4 g4
  by_cases h5 : 0 < q / 2 ^ h.toNat
  · rw [lsig_5 e1 e2 hm e3 e4 h5, lsig_5 h1 h2 hm h3 h4 h5]
    exact .inl ⟨rfl, g4⟩
  · obtain ⟨k, hk⟩ : ∃ k : Nat, (32 * h).toNat = k := ⟨_, rfl⟩
    rcases lskip_T l n k p4 hn g4 with ⟨h6, g6⟩ | ⟨p', h6⟩
    · rcases e6 : lskip l k (p4, none) with ⟨p5, r⟩
      rw [e6] at h6 g6
      rw [lsig_6 e1 e2 hm e3 e4 h5 hk e6, lsig_6 h1 h2 hm h3 h4 h5 hk h6]
      exact .inl ⟨rfl, g6⟩
    · exact .inr ⟨_, _, lsig_6 h1 h2 hm h3 h4 h5 hk h6⟩
theorem lpR_T (l : List Int) (n : Nat) (hn : n < l.length) : ∀ (m : Nat) (xs : List S70) (p : Nat) (xs' : List S70), p ≤ n → lpR l m xs (p, none) = (xs', none) → lpR (l.take n) m xs (p, none) = ([], some (.fault 3 n)) := by
  intro m
  induction m with
  | zero =>
    intro xs p xs' hp h
    rw [lpR_last] at h ⊢
    rcases lsig_T l n p (by omega) hp with ⟨h1, g1⟩ | ⟨x, p', h1⟩
    · rcases e1 : lsig l (p, none) with ⟨x, p1, _ | y⟩
      · rw [e1] at h g1
        exfalso
        have h3 : lp3 l (p1, none) = some (.fault 4 p1) := by
          rw [lp3, if_pos ⟨rfl, by show 0 < l.length - p1; have : p1 ≤ n := g1; omega⟩]
        rw [h3] at h
        cases h
      · rw [e1] at h
        exfalso
        have h3 : lp3 l (p1, some y) = some y := by rw [lp3, if_neg (fun hh => by cases hh.1)]
        rw [h3] at h
        cases h
    · rw [h1]
      have h3 : lp3 (l.take n) (p', some (.fault 3 n)) = some (.fault 3 n) := by rw [lp3, if_neg (fun hh => by cases hh.1)]
      rw [h3]
      rfl
  | succ m ih =>
    intro xs p xs' hp h
    rw [lpR_step] at h ⊢
    rcases lsig_T l n p (by omega) hp with ⟨h1, g1⟩ | ⟨x, p', h1⟩
    · rw [h1]
      rcases e1 : lsig l (p, none) with ⟨x, p1, _ | y⟩
      · rw [e1] at h g1
        rw [show lnext l (p1, none) = lkey l (p1, none) from rfl] at h
        rw [show lnext (l.take n) (p1, none) = lkey (l.take n) (p1, none) from rfl]
        rcases lkey_T l n p1 (by omega) g1 with ⟨h2, g2⟩ | ⟨p', h2⟩
        · rw [h2]
          rcases e2 : lkey l (p1, none) with ⟨p2, _ | y⟩
          · rw [e2] at h g2
            exact ih _ p2 xs' g2 h
          · rw [e2, lpR_err] at h
            cases h
        · rw [h2, lpR_err]
      · rw [e1, show lnext l (p1, some y) = (p1, some y) from rfl, lpR_err] at h
        cases h
    · rw [h1, show lnext (l.take n) (p', some (E.fault 3 n)) = (p', some (.fault 3 n)) from rfl, lpR_err]
theorem lparse_T (l : List Int) (n : Nat) (hn : n < l.length) (xs : List S70) (h : lparse l = (xs, none)) : (lparse (l.take n)).2 = some (.fault 3 n) := by
  have hz : ∀ z, lparse z = lpR z (lw z (0, none)).1.toNat [] (lp1 z) := fun z => rfl
  rw [hz] at h ⊢
  rcases lw_T l n 0 (by omega) (by omega) with ⟨h1, g1⟩ | ⟨p', h1⟩
  · rcases e1 : lw l (0, none) with ⟨q, p1, _ | y⟩
    · unfold lp1 at h ⊢
      rw [h1]
      rw [e1] at h g1 ⊢
      by_cases c : 8 ≤ q
      · rw [if_pos c] at h
        rw [show fl 9 0 none = some (E.fault 9 0) from rfl, lpR_err] at h
        cases h
      · rw [if_neg c] at h ⊢
        rw [lpR_T l n hn _ [] p1 xs g1 h]
    · exfalso
      unfold lp1 at h
      rw [e1] at h
      by_cases c : 8 ≤ q
      · rw [if_pos c] at h
        rw [show fl 9 0 (some y) = some y from rfl, lpR_err] at h
        cases h
      · rw [if_neg c, lpR_err] at h
        cases h
  · unfold lp1
    rw [h1]
    rw [if_neg (show ¬ (8 : Int) ≤ 0 from by decide), lpR_err]
theorem lck_T (l : List Int) (n : Nat) (hl : l.length = 60) (hn : n < 60) (hb : IsBytes l) (w1 : 1 ≤ wd l 0) (w8 : wd l 0 ≤ 8) (hk : lkey l (4, none) = (60, none)) : lck (l.take n) = some (.fault 3 n) := by
  have hle : (l.take n).length = n := take_len l n (by omega)
  have fin : ∀ p', lck3 (l.take n) (p', some (E.fault 3 n)) = some (.fault 3 n) := by
    intro p'
    unfold lck3
    split <;> rfl
  unfold lck
  rcases lw_T l n 0 (by omega) (by omega) with ⟨h1, g1⟩ | ⟨p', h1⟩
  · rw [lw_ok l 0 none (by omega)] at h1 g1
    have e1 : lck1 (l.take n) = (4, none) := by
      unfold lck1
      rw [h1, if_neg (fun hh => by have := hh.2; simp only at this; omega)]
    rw [e1, show lck2 (l.take n) (4, none) = lkey (l.take n) (4, none) from rfl]
    rcases lkey_T l n 4 (by omega) g1 with ⟨h2, g2⟩ | ⟨p', h2⟩
    · rw [hk] at g2
      exfalso
      have : 60 ≤ n := g2
      omega
    · rw [h2]
      exact fin p'
  · have e1 : lck1 (l.take n) = (p', some (.fault 3 n)) := by
      unfold lck1
      rw [h1, if_neg (fun hh => by cases hh.1)]
    rw [e1, show lck2 (l.take n) (p', some (E.fault 3 n)) = (p', some (.fault 3 n)) from rfl]
    exact fin p'
theorem rkey_cases (l : List Int) (hl : l.length = 60) (hb : IsBytes l) : ∃ c a, Ev (fun k => pyxref21_Key.f k l) (c, a) ∧ (c = 0 → 1 ≤ wd l 0 ∧ wd l 0 ≤ 8 ∧ lkey l (4, none) = (60, none)) := by
  have hw := wd_bd l 0 hb (by omega)
  have hr : pyxref21_word.f l 0 = some (wd l 0) := rword_ok l 0 (by omega) hb (by omega)
  have hkey := key_eq l 4 (by omega) hb (by omega)
  generalize wd l 0 = x at hw hr ⊢
  have step : ∀ b r, Ev (fun k => pyxref21_Key.j0 k l b) r → (if x < 1 then true else decide (x > 8)) = b → Ev (fun k => pyxref21_Key.f k l) r := by
    intro b r h hb
    refine Ev.congr (fun k => ?_) h
    rw [pyxref21_Key.f, hr, Option.bind_some, if_neg (by omega)]
    by_cases c : x < 1
    · rw [if_pos c] at hb ⊢
      rw [← hb]
    · rw [if_neg c] at hb ⊢
      rw [hb]
  by_cases c : x < 1 ∨ x > 8
  · refine ⟨9, 0, step true (9, 0) (Ev.last fun k => by rw [pyxref21_Key.j0, if_pos rfl]) ?_, fun h => by cases h⟩
    by_cases c1 : x < 1
    · rw [if_pos c1]
    · rw [if_neg c1]; exact decide_eq_true (by omega)
  · have hbx : (if x < 1 then true else decide (x > 8)) = false := by rw [if_neg (by omega)]; exact decide_eq_false (by omega)
    rcases hkey with ⟨p', k1, k2, k3, k4⟩ | ⟨cc, a, p', k1, k2, k3⟩
    · refine ⟨0, 0, step false (0, 0) (Ev.last fun k => ?_) hbx, fun _ => ⟨by omega, by omega, by rw [k2, k3]⟩⟩
      rw [pyxref21_Key.j0, if_neg (by decide), show (4 : Int) = ((4 : Nat) : Int) from rfl, k1, Option.bind_some, if_pos (show (((0 : Int), (0 : Int))).1 = 0 from rfl), if_neg (by rw [hl]; decide)]
    · refine ⟨cc, a, step false (cc, a) (Ev.last fun k => ?_) hbx, fun h => absurd h k2.1⟩
      rw [pyxref21_Key.j0, if_neg (by decide), show (4 : Int) = ((4 : Nat) : Int) from rfl, k1, Option.bind_some, if_neg (show ¬ (cc, a).1 = 0 from k2.1)]
end Go.Proofs.YtijmigapdcikpaaDoor.PLms
