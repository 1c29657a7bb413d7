/- The parts of a signature: the layer's and the reference's. -/
import Derived.Test.YtijmigapdcikpaaDoorZPLmsx15
import Derived.Test.YtijmigapdcikpaaDoorZPLmsx4
import Derived.Test.YtijmigapdcikpaaDoorZXLms2
namespace Go.Proofs.YtijmigapdcikpaaDoor.PLms
open Go.RowKit Go.Proofs.YtijmigapdcikpaaDoorW.PrintWords Go.Proofs.YtijmigapdcikpaaDoorW.PrintLast Go.Proofs.YtijmigapdcikpaaDoorW.PrintMore
def cv (x : S70) : S72 := ⟨x.f0, x.f1, x.f2, x.f3, x.f4⟩
def lpR (l : List Int) (m : Nat) (xs : List S70) (s : Nat × Option E) : List S70 × Option E := lp4 (lp2 l (lloop l m xs s)).1 (lp3 l (lp2 l (lloop l m xs s)).2)
theorem lpR_err (l : List Int) (m : Nat) (xs : List S70) (p : Nat) (y : E) : lpR l m xs (p, some y) = ([], some y) := by
  unfold lpR
  rw [lloop_err]
  rfl
theorem lpR_step (l : List Int) (m : Nat) (xs : List S70) (p : Nat) : lpR l (m + 1) xs (p, none) = lpR l m (xs ++ [(lsig l (p, none)).1]) (lnext l (lsig l (p, none)).2) := by
  unfold lpR
  rw [lloop, if_pos (by rfl)]
theorem lpR_last (l : List Int) (xs : List S70) (p : Nat) : lpR l 0 xs (p, none) = lp4 (xs ++ [(lsig l (p, none)).1]) (lp3 l (lsig l (p, none)).2) := by
  unfold lpR
  rw [lloop, show lp2 l (xs, p, none) = (xs ++ [(lsig l (p, none)).1], (lsig l (p, none)).2) from rfl]
def sizes (xs : List S70) : Int := (xs.map S70.f4).sum
theorem sizes_snoc (xs : List S70) (x : S70) : sizes (xs ++ [x]) = sizes xs + x.f4 := by simp [sizes]
theorem parse_go (l : List Int) (hl : l.length < 1000000000000) (hb : ∀ x ∈ l, 0 ≤ x ∧ x < 256) (n : Nat) (hn : n ≤ 7) :
    ∀ (m i : Nat) (xs : List S70) (p K : Nat), i + m = n → xs.length = i → p ≤ l.length → m + 3 ≤ K → (p : Int) = 4 + sizes xs + 56 * i →
    (∃ xs', pyxref21_Parse.l0 K l (n : Int) (xs.map cv) (p : Int) (i : Int) = some (xs'.map cv, 0, 0) ∧ lpR l m xs (p, none) = (xs', none) ∧ xs'.length = n + 1 ∧ (l.length : Int) = 4 + sizes xs' + 56 * n) ∨
    (∃ c a, pyxref21_Parse.l0 K l (n : Int) (xs.map cv) (p : Int) (i : Int) = some ([], c, a) ∧ (c ≠ 0 ∧ 0 ≤ a ∧ a < 9000000000000000000) ∧ lpR l m xs (p, none) = ([], some (.fault c a))) := by
  intro m
  induction m with
  | zero =>
    intro i xs p K him hx hp hK hs
    obtain ⟨K, rfl⟩ : ∃ k, K = k + 1 + 1 + 1 := ⟨K - 3, by omega⟩
    rw [pyxref21_Parse.l0, if_pos (by omega), lpR_last]
    rcases sig_eq l p (K + 1) hl hb hp with ⟨t, o, q, s, p', h1, h2, h3, h4, h5⟩ | ⟨c, a, x, p', h1, h2, h3⟩
    · rw [h1, h2]
      simp only [Option.bind_some]
      rw [if_pos trivial, if_pos (by simp; omega), if_neg (by omega), w64_ (x := (p : Int) + s) (by omega) (by omega), ← h3, pyxref21_Parse.l0, if_neg (by unfold wrap64; omega)]
      by_cases h6 : 0 < l.length - p'
      · rw [if_pos (by omega)]
        exact .inr ⟨4, _, rfl, ⟨by decide, by omega, by omega⟩, by rw [show lp3 l (p', none) = some (.fault 4 p') from by rw [lp3, if_pos ⟨rfl, h6⟩]]; rfl⟩
      · rw [if_neg (by omega)]
        refine .inl ⟨xs ++ [⟨t, o, q, (p : Int), s⟩], by simp [cv], by rw [show lp3 l (p', none) = none from by rw [lp3, if_neg (fun hh => h6 hh.2)]]; rfl, by simp; omega, ?_⟩
        rw [sizes_snoc]
        simp only
        omega
    · rw [h1, h3]
      simp only [Option.bind_some]
      rw [if_neg h2.1]
      exact .inr ⟨c, a, rfl, h2, rfl⟩
  | succ m ih =>
    intro i xs p K him hx hp hK hs
    obtain ⟨K, rfl⟩ : ∃ k, K = k + 1 + 1 + 1 := ⟨K - 3, by omega⟩
    rw [pyxref21_Parse.l0, if_pos (by omega), lpR_step]
    rcases sig_eq l p (K + 1) hl hb hp with ⟨t, o, q, s, p', h1, h2, h3, h4, h5⟩ | ⟨c, a, x, p', h1, h2, h3⟩
    · rw [h1, h2]
      simp only [Option.bind_some]
      rw [if_pos trivial, if_pos (by simp; omega), if_pos (by omega), w64_ (x := (p : Int) + s) (by omega) (by omega), ← h3]
      rw [show lnext l (p', none) = lkey l (p', none) from rfl]
      rcases key_eq l p' hl hb h4 with ⟨p2, k1, k2, k3, k4⟩ | ⟨c, a, p2, k1, k2, k3⟩
      · rw [k1, k2, Option.bind_some]
        have IH := ih (i + 1) (xs ++ [⟨t, o, q, (p : Int), s⟩]) p2 (K + 2) (by clear ih; omega) (by clear ih; simp; omega) (by clear ih; omega) (by clear ih; omega) (by clear ih; rw [sizes_snoc]; show (p2 : Int) = 4 + (sizes xs + s) + 56 * ((i + 1 : Nat) : Int); omega)
        clear ih
        rw [if_pos rfl, w64_ (x := (p' : Int) + 56) (by omega) (by omega), w64_ (x := (i : Int) + 1) (by omega) (by omega)]
        have e1 : (p' : Int) + 56 = ((p2 : Nat) : Int) := by omega
        have e2 : (i : Int) + 1 = ((i + 1 : Nat) : Int) := by omega
        have e3 : xs.map cv ++ [(⟨t, o, q, (p : Int), s⟩ : S72)] = (xs ++ [(⟨t, o, q, (p : Int), s⟩ : S70)]).map cv := by simp [cv]
        rw [e1, e2, e3]
        exact IH
      · rw [k1, k3, Option.bind_some]
        rw [if_neg k2.1, lpR_err]
        exact .inr ⟨c, a, rfl, k2, rfl⟩
    · rw [h1, h3]
      simp only [Option.bind_some]
      rw [if_neg h2.1, show lnext l (p', some (E.fault c a)) = (p', some (.fault c a)) from rfl, lpR_err]
      exact .inr ⟨c, a, rfl, h2, rfl⟩
theorem parse_eq (l : List Int) (hl : l.length < 1000000000000) (hb : ∀ x ∈ l, 0 ≤ x ∧ x < 256) (K : Nat) (hK : 20 ≤ K) :
    (∃ xs', pyxref21_Parse.f K l = some (xs'.map cv, 0, 0) ∧ lparse l = (xs', none) ∧ 1 ≤ xs'.length ∧ (l.length : Int) = 4 + sizes xs' + 56 * ((xs'.length : Int) - 1)) ∨
    (∃ c a, pyxref21_Parse.f K l = some ([], c, a) ∧ (c ≠ 0 ∧ 0 ≤ a ∧ a < 9000000000000000000) ∧ lparse l = ([], some (.fault c a))) := by
  unfold pyxref21_Parse.f
  have hz : lparse l = lpR l (lw l (0, none)).1.toNat [] (lp1 l) := rfl
  rw [hz]
  by_cases h1 : 0 + 4 ≤ l.length
  · rw [show (0 : Int) = ((0 : Nat) : Int) from rfl, rword_ok l 0 hl hb h1]
    have w1 := wd_bd l 0 hb h1
    simp only [Option.bind_some]
    rw [show v256 ((l.drop 0).take 4) = wd l 0 from rfl]
    unfold lp1
    rw [lw_ok l 0 none h1]
    dsimp only
    generalize wd l 0 = w at w1 ⊢
    rw [if_neg (by omega)]
    by_cases h2 : w > 7
    · rw [if_pos h2, if_pos (by omega)]
      rw [show fl 9 0 none = some (.fault 9 0) from rfl, lpR_err]
      exact .inr ⟨9, _, rfl, ⟨by decide, by decide, by decide⟩, rfl⟩
    · rw [if_neg h2, if_neg (by omega)]
      obtain ⟨n, rfl⟩ := Int.eq_ofNat_of_zero_le w1.1
      rw [Int.toNat_natCast]
      rcases parse_go l hl hb n (by omega) n 0 [] 4 K (by omega) rfl (by omega) (by omega) (by simp [sizes]) with ⟨xs', a1, a2, a3, a4⟩ | ⟨c, a, a1, a2, a3⟩
      · exact .inl ⟨xs', a1, a2, by omega, by omega⟩
      · exact .inr ⟨c, a, a1, a2, a3⟩
  · rw [show (0 : Int) = ((0 : Nat) : Int) from rfl, rword_no l 0 hl (by omega) h1]
    simp only [Option.bind_some]
    rw [if_pos (by decide)]
    unfold lp1
    rw [lw_no l 0 h1]
    dsimp only
    rw [if_neg (by decide), lpR_err]
    exact .inr ⟨3, _, rfl, ⟨by decide, by omega, by omega⟩, rfl⟩
end Go.Proofs.YtijmigapdcikpaaDoor.PLms
