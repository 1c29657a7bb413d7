/- OidReads: no condition. -/
import Derived.Test.YtohmnlmeamkmjaaDoorZPOidx16
import Derived.Test.YtohmnlmeamkmjaaDoorZXOid6
namespace Go.Proofs.YtohmnlmeamkmjaaDoor.Pure
open Go.RowKit Go.Proofs.YtohmnlmeamkmjaaDoor.POid Go.Proofs.YtohmnlmeamkmjaaDoorW.PrintWords Go.Proofs.YtohmnlmeamkmjaaDoorW.PrintLast Go.Proofs.YtohmnlmeamkmjaaDoorW.PrintMore Go.Proofs.YtohmnlmeamkmjaaDoorW.Pu
theorem OidReads : pyxlaw09_OidReads.Pure := by
  intro b _ _ hw
  have hb : ∀ c ∈ b, 0 ≤ c ∧ c < 256 := fun c hc => wf_u8 (hw c hc)
  apply Ev.rounds
  have ha := Ev.of pyxlaw09_awake.mono pyxlaw09_awake.eval
  have hlast : Ev (fun k => pyxlaw09_OidReads.j0 k b true) true :=
    Ev.step' (Ev.bind (f := fun _ x => some x) ha (Ev.now true)) fun k => by rw [pyxlaw09_OidReads.j0, if_pos rfl]
  have hgo : Ev (fun k => pyxlaw09_OidReads.j0 k b (decide ((b.length : Int) > 300))) true := by
    by_cases hl : (b.length : Int) > 300
    · rw [decide_eq_true hl]; exact hlast
    · rw [decide_eq_false hl]
      have hp := read_ev b hb (by omega)
      have hr := rread_ev b hb (by omega)
      have hq := eql_ev (RR b).1 (RR b).1 (by have := RR_len hb; omega)
      rw [decide_eq_true rfl] at hq
      refine Ev.step' (f := fun k => (oid_Read.f b).bind fun bt243 => ((pyxref09_Read.f k b).bind fun bt247 => ((slices_Equal_uint32_uint32.f k bt243.1 bt247.1).bind fun t251 => (if t251 = true then (if (bt243.2 == bt247.2) = true then (if bt243.2 = true then ((oid_Content.f bt243.1).bind fun t252 => ((pyxref01_Same.f k t252 b).bind fun t255 => (some t255))) else (some true)) else (some false)) else (some false))))) ?_ fun k => by rw [pyxlaw09_OidReads.j0, if_neg (by decide)]
      refine Ev.bind (Ev.const hp) (Ev.bind hr (Ev.bind hq ?_))
      simp only [beq_self_eq_true, if_true]
      by_cases ht : (RR b).2 = true
      · obtain ⟨hv, hu, hc⟩ := RR_true hb ht
        have hs := same_ev b b (by omega)
        rw [decide_eq_true rfl] at hs
        refine Ev.congr (f := fun k => (pyxref01_Same.f k b b).bind fun t255 => some t255) (fun k => by rw [if_pos ht, cont_ev hu, Option.bind_some, hc]) (Ev.bind (f := fun _ x => some x) hs (Ev.now true))
      · exact Ev.const' fun k => by rw [if_neg ht]
  exact Ev.congr (fun k => rfl) (Ev.bind ha (Ev.congr (fun k => by rw [if_pos rfl]) hgo))
end Go.Proofs.YtohmnlmeamkmjaaDoor.Pure
