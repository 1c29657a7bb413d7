/- OidParses: no condition. -/
import Derived.Test.YtohmnlmeamkmjaaDoorZPOidx15
import Derived.Test.YtohmnlmeamkmjaaDoorZXOid4
namespace Go.Proofs.YtohmnlmeamkmjaaDoor.Pure
open Go.RowKit Go.Proofs.YtohmnlmeamkmjaaDoor.POid Go.Proofs.YtohmnlmeamkmjaaDoorW.PrintWords Go.Proofs.YtohmnlmeamkmjaaDoorW.PrintLast Go.Proofs.YtohmnlmeamkmjaaDoorW.PrintMore Go.Proofs.YtohmnlmeamkmjaaDoorW.Pu
theorem OidParses : pyxlaw09_OidParses.Pure := by
  intro s hs
  apply Ev.rounds
  have ha := Ev.of pyxlaw09_awake.mono pyxlaw09_awake.eval
  have hlast : Ev (fun k => pyxlaw09_OidParses.j0 k s true) true :=
    Ev.step' (Ev.bind (f := fun _ x => some x) ha (Ev.now true)) fun k => by rw [pyxlaw09_OidParses.j0, if_pos rfl]
  have hgo : Ev (fun k => pyxlaw09_OidParses.j0 k s (decide ((s.size : Int) > 500))) true := by
    by_cases hl : (s.size : Int) > 500
    · rw [decide_eq_true hl]; exact hlast
    · rw [decide_eq_false hl]
      have hp := parse_ev s (by omega)
      have hr : Ev (fun k => pyxref09_Parse.f k s) (PP s) := rparse_ev s (by omega)
      have hq := eql_ev (PP s).1 (PP s).1 (by have := PP_len (s := s); omega)
      rw [decide_eq_true rfl] at hq
      refine Ev.step' (f := fun k => (oid_Parse.f k s).bind fun bt211 => ((pyxref09_Parse.f k s).bind fun bt215 => ((slices_Equal_uint32_uint32.f k bt211.1 bt215.1).bind fun t219 => (if t219 = true then (if (bt211.2 == bt215.2) = true then (if bt211.2 = true then ((oid_Text.f k bt211.1).bind fun t220 => (some (t220.toList == s.toList))) else (some true)) else (some false)) else (some false))))) ?_ fun k => by rw [pyxlaw09_OidParses.j0, if_neg (by decide)]
      refine Ev.bind hp (Ev.bind hr (Ev.bind hq ?_))
      simp only [beq_self_eq_true, if_true]
      by_cases hb : (PP s).2 = true
      · rw [hb]
        obtain ⟨hv, ht, hu⟩ := PP_true (s := s) (l := (PP s).1) (by rw [← hb])
        refine Ev.congr (f := fun k => (oid_Text.f k (PP s).1).bind fun t220 => some (t220.toList == s.toList)) (fun k => by rw [if_pos rfl]) (Ev.bind (text_ev hu) (Ev.const ?_))
        rw [ht, beq_self_eq_true]
      · exact Ev.const' fun k => by rw [if_neg hb]
  exact Ev.congr (fun k => rfl) (Ev.bind ha (Ev.congr (fun k => by rw [if_pos rfl]) hgo))
end Go.Proofs.YtohmnlmeamkmjaaDoor.Pure
