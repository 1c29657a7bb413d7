/- ParamsLists, the pure half. -/
import Derived.Test.YtohmnlmeamkmjaaDoorZPParamsx23
import Derived.Test.YtohmnlmeamkmjaaDoorZXPar3
namespace Go.Proofs.YtohmnlmeamkmjaaDoor.PParams
open Go.RowKit Go.Proofs.YtohmnlmeamkmjaaDoorW.PrintWords Go.Proofs.YtohmnlmeamkmjaaDoorW.PrintLast Go.Proofs.YtohmnlmeamkmjaaDoorW.PrintMore Go.Proofs.YtohmnlmeamkmjaaDoorW.Pu
def H1 (l : List Int) (a : Nat) : Bool := decide ((prow a).2.2.2.2.2.2.2.1 = l)
def H2 (f s : Int) (a : Nat) : Bool := s != 0 && (prow a).2.1 == f && (prow a).2.2.2.2.2.2.1 == s
theorem algs_succ (h : Nat → Bool) (n : Nat) : algs h (n + 1) = if h (n + 1) = true then algs h n ++ [((n + 1 : Nat) : Int)] else algs h n := by
  rw [algs]
  split <;> simp
theorem lists_j2 (l : List Int) (f s : Int) (i : Nat) (hi : i < 25) (ih : Ev (fun k => pyxlaw13_ParamsLists.l0 k l f s (algs (H1 l) (i + 1)) (algs (H2 f s) (i + 1)) tabR ((i + 1 : Nat) : Int)) true) :
    Ev (fun k => pyxlaw13_ParamsLists.j2 k l f s (algs (H1 l) i) (algs (H2 f s) i) tabR (i : Int) (H1 l (i + 1))) true := by
  have ro := row_ok i hi
  have l1 := algs_len (H1 l) i
  have l2 := algs_len (H2 f s) i
  have ht : tabR.length = 25 := rfl
  have c1 : (0 : Int) ≤ (i : Int) := by omega
  have c2 : (i : Int) < (tabR.length : Int) := by rw [ht]; omega
  have c3 : (algs (H1 l) i).length < 17592186044416 := by omega
  have c4 : (algs (H2 f s) i).length < 17592186044416 := by omega
  have ws : wrap64 ((i : Int) + 1) = ((i + 1 : Nat) : Int) := wsucc (by omega)
  have e2 : ∀ b : Bool, H2 f s (i + 1) = b → algs (H2 f s) (i + 1) = if b = true then algs (H2 f s) i ++ [((i + 1 : Nat) : Int)] else algs (H2 f s) i := fun b hb => by rw [algs_succ, hb]
  cases h1 : H1 l (i + 1) with
  | true =>
    have e1 : algs (H1 l) (i + 1) = algs (H1 l) i ++ [((i + 1 : Nat) : Int)] := by rw [algs_succ, if_pos h1]
    rw [e1] at ih
    refine Ev.step' ih fun k => ?_
    rw [pyxlaw13_ParamsLists.j2, if_pos rfl, if_pos c1, if_pos c2, if_pos c3, Option.bind_some, ro.f0, ro.f1, ro.f6, ws]
    by_cases d1 : s = 0
    · rw [if_pos d1, e2 false (by simp [H2, d1]), if_neg (by decide)]
    · rw [if_neg d1]
      by_cases d2 : (prow (i + 1)).2.1 = f
      · rw [if_pos d2]
        by_cases d3 : (prow (i + 1)).2.2.2.2.2.2.1 = s
        · rw [if_pos d3, if_pos c4, e2 true (by simp [H2, d1, d2, d3]), if_pos rfl]
        · rw [if_neg d3, e2 false (by simp [H2, d3]), if_neg (by decide)]
      · rw [if_neg d2, e2 false (by simp [H2, d2]), if_neg (by decide)]
  | false =>
    have e1 : algs (H1 l) (i + 1) = algs (H1 l) i := by rw [algs_succ, h1]; rfl
    rw [e1] at ih
    refine Ev.step' ih fun k => ?_
    rw [pyxlaw13_ParamsLists.j2, if_neg (by decide), ro.f0, ro.f1, ro.f6, ws]
    by_cases d1 : s = 0
    · rw [if_pos d1, e2 false (by simp [H2, d1]), if_neg (by decide)]
    · rw [if_neg d1, if_pos c1, if_pos c2]
      by_cases d2 : (prow (i + 1)).2.1 = f
      · rw [if_pos d2]
        by_cases d3 : (prow (i + 1)).2.2.2.2.2.2.1 = s
        · rw [if_pos d3, if_pos c4, e2 true (by simp [H2, d1, d2, d3]), if_pos rfl]
        · rw [if_neg d3, e2 false (by simp [H2, d3]), if_neg (by decide)]
      · rw [if_neg d2, e2 false (by simp [H2, d2]), if_neg (by decide)]
theorem lists_l0 (l : List Int) (hu : IsU32 l) (f s : Int) : ∀ d i : Nat, 25 - i = d → i ≤ 25 →
    Ev (fun k => pyxlaw13_ParamsLists.l0 k l f s (algs (H1 l) i) (algs (H2 f s) i) tabR (i : Int)) true := by
  have ht : (tabR.length : Int) = 25 := rfl
  intro d
  induction d with
  | zero =>
    intro i hd hi
    obtain rfl : i = 25 := by omega
    have q1 := eqi_ev (algs (H1 l) 25) (algs (H1 l) 25) (by have := algs_len (H1 l) 25; omega)
    have q2 := eqi_ev (algs (H2 f s) 25) (algs (H2 f s) 25) (by have := algs_len (H2 f s) 25; omega)
    rw [decide_eq_true rfl] at q1 q2
    have hb : params_ByOID.f l = some (algs (H1 l) 25) := rfl
    have hs : params_BySize.f f s = some (algs (H2 f s) 25) := rfl
    refine Ev.step' (f := fun k => (slices_Equal_int_int.f k (algs (H1 l) 25) (algs (H1 l) 25)).bind fun t326 => (if t326 = true then ((params_BySize.f f s).bind fun t327 => ((slices_Equal_int_int.f k t327 (algs (H2 f s) 25)).bind fun t330 => (some t330))) else (some false))) ?_ fun k => ?_
    · refine Ev.bind q1 ?_
      simp only [if_true]
      refine Ev.bind (Ev.const hs) ?_
      exact Ev.bind (f := fun _ x => some x) q2 (Ev.now true)
    · rw [pyxlaw13_ParamsLists.l0, if_neg (by rw [ht]; decide), hb, Option.bind_some]
  | succ d ih =>
    intro i hd hi
    have hlt : i < 25 := by omega
    have ro := row_ok i hlt
    have hj := lists_j2 l f s i hlt (ih (i + 1) (by omega) (by omega))
    have c0 : (i : Int) < (tabR.length : Int) := by rw [ht]; omega
    have c1 : (0 : Int) ≤ (i : Int) := by omega
    refine Ev.step' (f := fun k => (pyxref09_Valid.f k l).bind fun t304 => (if t304 = true then ((pyxref09_Text.f k l).bind fun t306 => (pyxlaw13_ParamsLists.j2 k l f s (algs (H1 l) i) (algs (H2 f s) i) tabR (i : Int) (((rd_T42 tabR (i : Int)).f7).toList == t306.toList))) else (pyxlaw13_ParamsLists.j2 k l f s (algs (H1 l) i) (algs (H2 f s) i) tabR (i : Int) false))) ?_ fun k => ?_
    · refine Ev.bind (rvalid l) ?_
      cases vl : validB l with
      | true =>
        simp only [if_true]
        refine Ev.bind (rtext_ev hu) ?_
        rw [ro.f7, tx_eq ro.us hu ro.va]
        exact hj
      | false =>
        simp only [Bool.false_eq_true, if_false]
        have e : H1 l (i + 1) = false := decide_eq_false (fun h => by have := ro.va; rw [h, vl] at this; exact absurd this (by decide))
        rw [e] at hj
        exact hj
    · rw [pyxlaw13_ParamsLists.l0, if_pos c0]
      first | done | (congr 1; all_goals (funext t; rw [if_pos c1]))
end Go.Proofs.YtohmnlmeamkmjaaDoor.PParams
namespace Go.Proofs.YtohmnlmeamkmjaaDoor.Pure
open Go.RowKit Go.Proofs.YtohmnlmeamkmjaaDoor.PParams Go.Proofs.YtohmnlmeamkmjaaDoorW.PrintWords Go.Proofs.YtohmnlmeamkmjaaDoorW.PrintLast Go.Proofs.YtohmnlmeamkmjaaDoorW.PrintMore Go.Proofs.YtohmnlmeamkmjaaDoorW.Pu
theorem ParamsLists : pyxlaw13_ParamsLists.Pure := by
  intro l f s _ _ hl _ _
  have hu : IsU32 l := fun c hc => wf_u32 (hl c hc)
  apply Ev.rounds
  have haw := Ev.of pyxlaw13_awake.mono pyxlaw13_awake.eval
  refine Ev.congr (fun k => rfl) (Ev.bind haw ?_)
  simp only [if_true]
  by_cases h1 : (l.length : Int) > 100
  · rw [decide_eq_true h1]
    exact Ev.step' (Ev.bind (f := fun _ x => some x) haw (Ev.now true)) fun k => by rw [pyxlaw13_ParamsLists.j0, if_pos rfl]
  · rw [decide_eq_false h1]
    exact Ev.step' (lists_l0 l hu f s 25 0 rfl (by omega)) fun k => by rw [pyxlaw13_ParamsLists.j0, if_neg (by decide)]; rfl
end Go.Proofs.YtohmnlmeamkmjaaDoor.Pure
