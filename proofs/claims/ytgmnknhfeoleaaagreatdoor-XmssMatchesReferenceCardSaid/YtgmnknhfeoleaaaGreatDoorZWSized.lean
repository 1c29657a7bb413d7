import Derived.Test.YtgmnknhfeoleaaaGreatDoorZPXmssx27
import Derived.Test.YtgmnknhfeoleaaaGreatDoorZXXm3
import Derived.SizedLaws
import Derived.ChangeSlices
namespace Go.Proofs.YtgmnknhfeoleaaaGreatDoor.Pure
open Go.RowKit Go.Proofs.YtgmnknhfeoleaaaGreatDoor.PXmss Go.Proofs.YtgmnknhfeoleaaaGreatDoorW.PrintWords Go.Proofs.YtgmnknhfeoleaaaGreatDoorW.PrintLast Go.Proofs.YtgmnknhfeoleaaaGreatDoorW.PrintMore Go.Proofs.YtgmnknhfeoleaaaGreatDoorW.Pu
theorem XmssMatchesReference : pyxlaw22_XmssMatchesReference.Pure := by
  intro a0 a1 a2 l h0 h1 h2 _ _ hl
  have ha0 := wf_u8 h0
  have ha1 := wf_u32 h1
  have hw : ∀ x ∈ l, Wf65 x := fun x hx => ⟨(hl x hx).1, (hl x hx).2.1, (hl x hx).2.2.1, fun y hy => wf_u8 ((hl x hx).2.2.2.2 y hy)⟩
  by_cases c : (l.length : Int) > 20
  · exact ⟨1, by rw [pyxlaw22_XmssMatchesReference.f, pyxlaw22_awake.f, Option.bind_some, if_pos rfl, decide_eq_true c]; rfl⟩
  · have e0 : wrap64 a0 = a0 := w64 (by omega) (by omega)
    have e1 : Int.tmod a0 6 = a0 % 6 := tmod_nn (by omega)
    have e2 : wrap64 (20 + a0 % 6) = 20 + a0 % 6 := w64 (by omega) (by omega)
    obtain ⟨A, hA⟩ : ∃ A, A = 20 + a0 % 6 := ⟨_, rfl⟩
    obtain ⟨m, m1, m2, m3, _⟩ := make_ev A a1 a2 (by omega) (by omega) (by omega)
    obtain ⟨s, s1, s2, s3⟩ := changed_ev m m2 (by omega) l (by omega) hw
    obtain ⟨m', m1', m2', m3'⟩ := makekey_ev A a2 (by omega) (by omega)
    obtain ⟨s', s1', s2', s3'⟩ := changed_ev m' m2' (by omega) l (by omega) hw
    obtain ⟨x, e, cc, t, x1, x2, x3, _, _⟩ := sig_agree s s2 (by omega)
    obtain ⟨y, e', cc', t', y1, y2, y3⟩ := key_agree s' s2' (by omega)
    have H : Ev (fun k => pyxlaw22_XmssMatchesReference.f k a0 a1 a2 l) true := by
      refine Ev.congr (f := fun k => pyxlaw22_XmssMatchesReference.j0 k a0 a1 a2 l false) (fun k => by rw [pyxlaw22_XmssMatchesReference.f, pyxlaw22_awake.f, Option.bind_some, if_pos rfl, decide_eq_false c]) ?_
      refine Ev.step (fun k => by rw [pyxlaw22_XmssMatchesReference.j0, if_neg (by decide), e0, e1, e2, ← hA]) ?_
      refine Ev.bind m1 (Ev.bind s1 (Ev.bind m1' (Ev.bind s1' ?_)))
      refine Ev.congr (fun k => by rw [x1, Option.bind_some]) ?_
      refine Ev.bind x2 ?_
      refine Ev.congr (fun k => by rw [y1, Option.bind_some]) ?_
      refine Ev.bind y2 ?_
      refine Ev.const ?_
      dsimp only
      rw [if_pos rfl, x3, Option.bind_some, if_pos rfl, if_pos rfl, y3, Option.bind_some]
    exact H.rounds
end Go.Proofs.YtgmnknhfeoleaaaGreatDoor.Pure

namespace Go.Proofs.YtgmnknhfeoleaaaGreatDoorW.PrintWords
open Go.ChangeShapes Go.WideShapes
end Go.Proofs.YtgmnknhfeoleaaaGreatDoorW.PrintWords
