/- Base64MatchesReference: no condition. -/
import Derived.Test.YtnidoimhlfcifaaDoorXB64d
namespace Go.Proofs.YtnidoimhlfcifaaDoor.Pure
open Go.RowKit Go.Proofs.YtnidoimhlfcifaaDoor.PB64 Go.Proofs.YtnidoimhlfcifaaDoorW.PrintWords Go.Proofs.YtnidoimhlfcifaaDoorW.PrintMore Go.Proofs.YtnidoimhlfcifaaDoorW.PrintLast Go.Proofs.YtnidoimhlfcifaaDoorW.Pu
set_option linter.unusedVariables false
theorem Base64MatchesReference : pyxlaw04_Base64MatchesReference.Pure := by
  intro a s ha hs
  refine Ev.rounds (g := fun k => pyxlaw04_Base64MatchesReference.f k a s) ?_
  refine Ev.bind awake_ev (Ev.congr (fun k => if_pos rfl) ?_)
  by_cases c : (s.size : Int) > 500
  · rw [decide_eq_true c]
    exact Ev.step' (Ev.bind awake_ev (Ev.now true)) fun k => by rw [pyxlaw04_Base64MatchesReference.j0, if_pos rfl]
  · rw [decide_eq_false c]
    have h1 := decode_ev a s (by omega)
    have h2 := rdecode_ev a s (by omega)
    obtain ⟨hb, hl⟩ := decS_bytes a s
    have h3 := same_ev (decS a s).1 (decS a s).1 (by omega)
    rw [decide_eq_true rfl] at h3
    have h4 : Ev (fun k => (if (true : Bool) = true then (if ((decS a s).2 == (decS a s).2) = true then (if (decS a s).2 = true then ((base64_Encode.f a (decS a s).1).bind fun t180 => (some (t180.toList == s.toList))) else (some true)) else (some false)) else (some false))) true := by
      refine Ev.const' fun k => ?_
      rw [if_pos rfl, if_pos (by simp)]
      by_cases d : (decS a s).2 = true
      · obtain ⟨ha', e, _⟩ := decS_ok d
        rw [if_pos d, enc_ev ha' hb (by omega), Option.bind_some, e, beq_self_eq_true]
      · rw [if_neg d]
    exact Ev.step' (Ev.bind h1 (Ev.bind h2 (Ev.bind h3 h4))) fun k => by rw [pyxlaw04_Base64MatchesReference.j0, if_neg (by decide)]

end Go.Proofs.YtnidoimhlfcifaaDoor.Pure
