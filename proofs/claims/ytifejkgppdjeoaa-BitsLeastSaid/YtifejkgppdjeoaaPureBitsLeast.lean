/- BitsLeast: for every number x and every d, Least tells what the reference tells, and Pack takes x exactly if it has at most d bits and d is in range; no condition. -/
import Derived.Test.YtifejkgppdjeoaaXBits2
namespace Go.Proofs.Ytifejkgppdjeoaa.Pure
open Go.RowKit Go.Proofs.Ytifejkgppdjeoaa.PBits Go.Proofs.YtifejkgppdjeoaaW.PrintWords Go.Proofs.YtifejkgppdjeoaaW.PrintLast Go.Proofs.YtifejkgppdjeoaaW.Pu

theorem BitsLeast : pyxlaw05_BitsLeast.Pure := by
  intro x d hx hd
  have hx' := wf_u32 hx
  have hA : Ev (fun k => pyxlaw05_awake.f k) true := Ev.of pyxlaw05_awake.mono pyxlaw05_awake.eval
  refine Ev.rounds (g := fun k => pyxlaw05_BitsLeast.f k x d) ?_
  refine Ev.bind hA (Ev.congr (fun k => if_pos rfl) ?_)
  obtain ⟨n, e1, l1, _⟩ := least_impl hx'.1 hx'.2
  obtain ⟨m, _, l2, e2⟩ := rleast_ev hx'.1 hx'.2
  obtain rfl : n = m := IsLen.unique l1 l2
  refine Ev.bind (Ev.const e1) (Ev.bind e2 ?_)
  rw [bne_self_eq_false]
  have h32 : Is32 [x] := fun y hy => by simp at hy; subst hy; exact hx'
  refine Ev.step' (f := fun k => (bits_Pack.f k d (([x] : List Int))).bind fun bt262 => (if d ≥ 1 then (if d ≤ 32 then ((pyxref05_Least.f k x).bind fun t266 => (some (bt262.2 == (decide (t266 ≤ d))))) else (some (bt262.2 == false))) else (some (bt262.2 == false)))) ?_ fun k => by rw [pyxlaw05_BitsLeast.j0, if_neg (by decide)]
  by_cases c : d < 1 ∨ 32 < d
  · refine Ev.bind (pack_bad (l := [x]) (by omega)) ?_
    refine Ev.const' fun k => ?_
    by_cases c1 : d ≥ 1
    · rw [if_pos c1, if_neg (by omega)]; rfl
    · rw [if_neg c1]; rfl
  · obtain ⟨d, rfl⟩ := Int.eq_ofNat_of_zero_le (show 0 ≤ d by omega)
    obtain ⟨g1, g2⟩ := pack_good (d := d) (l := [x]) (by omega) (by omega) (by simp) h32
    by_cases hf : n ≤ d
    · have hfit : Fits d [x] := fun y hy => by simp at hy; subst hy; exact (l1.le_iff d).1 hf
      refine Ev.bind (g1 hfit) (Ev.congr (fun k => by rw [if_pos (by omega), if_pos (by omega)]) (Ev.bind e2 ?_))
      rw [decide_eq_true (by omega)]
      exact Ev.now true
    · have hfit : ¬ Fits d [x] := fun h => hf ((l1.le_iff d).2 (h x (by simp)))
      refine Ev.bind (g2 hfit) (Ev.congr (fun k => by rw [if_pos (by omega), if_pos (by omega)]) (Ev.bind e2 ?_))
      rw [decide_eq_false (by omega)]
      exact Ev.now true

end Go.Proofs.Ytifejkgppdjeoaa.Pure
