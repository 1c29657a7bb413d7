/- BitsMatchesReference: for every d and every list of numbers, Pack of the implementation and of the reference tell the same; no condition. -/
import Derived.Test.YtifejkgppdjeoaaXBits2
namespace Go.Proofs.Ytifejkgppdjeoaa.Pure
open Go.RowKit Go.Proofs.Ytifejkgppdjeoaa.PBits Go.Proofs.YtifejkgppdjeoaaW.PrintWords Go.Proofs.YtifejkgppdjeoaaW.PrintLast Go.Proofs.YtifejkgppdjeoaaW.Pu

theorem BitsMatchesReference : pyxlaw05_BitsMatchesReference.Pure := by
  intro d l hd _ hl hw
  have h32 : Is32 l := fun x hx => wf_u32 (hw x hx)
  have hA : Ev (fun k => pyxlaw05_awake.f k) true := Ev.of pyxlaw05_awake.mono pyxlaw05_awake.eval
  refine Ev.rounds (g := fun k => pyxlaw05_BitsMatchesReference.f k d l) ?_
  refine Ev.bind hA (Ev.congr (fun k => if_pos rfl) ?_)
  by_cases c : (l.length : Int) > 300
  · rw [decide_eq_true c]
    refine Ev.step' (Ev.bind hA (Ev.now true)) fun k => by rw [pyxlaw05_BitsMatchesReference.j0, if_pos rfl]
  · rw [decide_eq_false c]
    obtain ⟨r, h1, h2, h3⟩ := packs_alike (d := d) h32
    have hs := same_ev r.1 r.1 (by omega)
    rw [decide_eq_true rfl] at hs
    refine Ev.step' (f := fun k => (bits_Pack.f k d l).bind fun a => (pyxref05_Pack.f k d l).bind fun b => (pyxref01_Same.f k a.1 b.1).bind fun t => if t = true then some (a.2 == b.2) else some false) ?_ fun k => by rw [pyxlaw05_BitsMatchesReference.j0, if_neg (by decide)]
    refine Ev.bind h1 (Ev.bind h2 (Ev.bind hs ?_))
    exact Ev.const' fun k => by rw [if_pos rfl, beq_self_eq_true]

end Go.Proofs.Ytifejkgppdjeoaa.Pure
