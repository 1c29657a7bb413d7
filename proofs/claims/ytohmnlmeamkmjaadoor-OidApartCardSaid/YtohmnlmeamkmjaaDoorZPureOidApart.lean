/- OidApart: no condition. -/
import Derived.Test.YtohmnlmeamkmjaaDoorZPOidx17
import Derived.Test.YtohmnlmeamkmjaaDoorZXOid6
import Derived.Test.YtohmnlmeamkmjaaDoorZXOid7
namespace Go.Proofs.YtohmnlmeamkmjaaDoor.Pure
open Go.RowKit Go.Proofs.YtohmnlmeamkmjaaDoor.POid Go.Proofs.YtohmnlmeamkmjaaDoorW.PrintWords Go.Proofs.YtohmnlmeamkmjaaDoorW.PrintLast Go.Proofs.YtohmnlmeamkmjaaDoorW.PrintMore Go.Proofs.YtohmnlmeamkmjaaDoorW.Pu
theorem OidApart : pyxlaw09_OidApart.Pure := by
  intro a b _ _ hwa _ _ hwb
  have ha : IsU32 a := fun c hc => wf_u32 (hwa c hc)
  have hb : IsU32 b := fun c hc => wf_u32 (hwb c hc)
  apply Ev.rounds
  have haw := Ev.of pyxlaw09_awake.mono pyxlaw09_awake.eval
  have hlast : Ev (fun k => pyxlaw09_OidApart.j0 k a b true) true :=
    Ev.step' (Ev.bind (f := fun _ x => some x) haw (Ev.now true)) fun k => by rw [pyxlaw09_OidApart.j0, if_pos rfl]
  refine Ev.congr (fun k => rfl) (Ev.bind haw ?_)
  simp only [if_true]
  by_cases h1 : (a.length : Int) > 100
  · exact Ev.congr (fun k => by rw [if_pos h1]) hlast
  · by_cases h2 : (b.length : Int) > 100
    · exact Ev.congr (fun k => by rw [if_neg h1, if_pos h2]) hlast
    · simp only [if_neg h1, if_neg h2]
      refine Ev.bind (rvalid a) ?_
      cases va : validB a with
      | false => exact Ev.congr (fun k => by rw [if_neg (by decide)]) hlast
      | true =>
        simp only [if_true]
        refine Ev.bind (rvalid b) ?_
        cases vb : validB b with
        | false => exact hlast
        | true =>
          show Ev (fun k => pyxlaw09_OidApart.j0 k a b false) true
          refine Ev.step' (f := fun k => ((slices_Equal_uint32_uint32.f k a b).bind fun t268 => ((oid_Text.f k a).bind fun t269 => ((oid_Text.f k b).bind fun t270 => (if ((t269.toList == t270.toList) == t268) = true then ((oid_Content.f a).bind fun t271 => ((oid_Content.f b).bind fun t274 => ((pyxref01_Same.f k t271 t274).bind fun t277 => (some (t277 == t268))))) else (some false)))))) ?_ fun k => by rw [pyxlaw09_OidApart.j0, if_neg (by decide)]
          refine Ev.bind (eql_ev a b (by omega)) (Ev.bind (text_ev ha) (Ev.bind (text_ev hb) ?_))
          have e1 : ((tx a).toList == (tx b).toList) = decide (a = b) := by
            unfold tx
            rw [B_toList, B_toList]
            by_cases h : a = b
            · rw [h, decide_eq_true rfl, beq_self_eq_true]
            · rw [decide_eq_false h]
              exact beq_eq_false_iff_ne.2 (fun h3 => h (txl_inj ha hb va vb h3))
          have e2 : decide (cont a = cont b) = decide (a = b) := by
            by_cases h : a = b
            · rw [h, decide_eq_true rfl, decide_eq_true rfl]
            · rw [decide_eq_false h]
              refine decide_eq_false (fun h3 => h ?_)
              have h4 := read_cont ha va
              rw [h3, read_cont hb vb] at h4
              exact (Option.some.inj h4).symm
          rw [e1]
          simp only [beq_self_eq_true, if_true]
          rw [cont_ev ha, cont_ev hb]
          simp only [Option.bind_some]
          have hs := same_ev (cont a) (cont b) (by have := cont_len a; omega)
          rw [e2] at hs
          exact Ev.bind (f := fun _ x => some (x == decide (a = b))) hs (Ev.const (by rw [beq_self_eq_true]))
end Go.Proofs.YtohmnlmeamkmjaaDoor.Pure
