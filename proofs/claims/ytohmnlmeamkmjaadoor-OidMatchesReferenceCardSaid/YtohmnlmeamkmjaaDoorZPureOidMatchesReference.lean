/- OidMatchesReference: no condition. -/
import Derived.Test.YtohmnlmeamkmjaaDoorZPOidx14
import Derived.Test.YtohmnlmeamkmjaaDoorZXOid6
namespace Go.Proofs.YtohmnlmeamkmjaaDoor.Pure
open Go.RowKit Go.Proofs.YtohmnlmeamkmjaaDoor.POid Go.Proofs.YtohmnlmeamkmjaaDoorW.PrintWords Go.Proofs.YtohmnlmeamkmjaaDoorW.PrintLast Go.Proofs.YtohmnlmeamkmjaaDoorW.PrintMore Go.Proofs.YtohmnlmeamkmjaaDoorW.Pu
theorem tx_len {l : List Int} (hu : IsU32 l) : (tx l).size ≤ 220 := by
  unfold tx txl
  rw [B_size]
  split
  · rename_i hv
    have hl := valid_len hv
    have hj := joinG_len 10 (l.map DD) (map_len hu)
    rw [List.length_map] at hj
    omega
  · simp
theorem tx_ne {l : List Int} (hv : validB l = true) : txl l ≠ [] := by
  unfold txl
  rw [if_pos hv, two_of (valid_len hv).1]
  show joinG [46] (DD _ :: DD _ :: (l.drop 2).map DD) ≠ []
  rw [joinG_cons2 _ _ (by simp)]
  simp
theorem PP_empty {l : List Int} (hv : validB l = false) : (PP (tx l)).2 = false := by
  cases h : (PP (tx l)).2 with
  | false => rfl
  | true =>
    obtain ⟨hv2, ht, _⟩ := PP_true (s := tx l) (l := (PP (tx l)).1) (by rw [← h])
    have h2 := B_inj ht
    have e : txl l = [] := by unfold txl; rw [if_neg (by rw [hv]; decide)]
    rw [e] at h2
    exact absurd h2 (tx_ne hv2)
theorem OidMatchesReference : pyxlaw09_OidMatchesReference.Pure := by
  intro l _ _ hw
  have hu : IsU32 l := fun c hc => wf_u32 (hw c hc)
  apply Ev.rounds
  have ha := Ev.of pyxlaw09_awake.mono pyxlaw09_awake.eval
  have hlast : Ev (fun k => pyxlaw09_OidMatchesReference.j0 k l true) true :=
    Ev.step' (Ev.bind (f := fun _ x => some x) ha (Ev.now true)) fun k => by rw [pyxlaw09_OidMatchesReference.j0, if_pos rfl]
  have hgo : Ev (fun k => pyxlaw09_OidMatchesReference.j0 k l (decide ((l.length : Int) > 100))) true := by
    by_cases hl : (l.length : Int) > 100
    · rw [decide_eq_true hl]; exact hlast
    · rw [decide_eq_false hl]
      have hs := same_ev (cont l) (cont l) (by have := cont_len l; omega)
      rw [decide_eq_true rfl] at hs
      have hq := eql_ev l l (by omega)
      rw [decide_eq_true rfl] at hq
      have hr := read_ev (cont l) (cont_byte hu) (by have := cont_len l; omega)
      have hp := parse_ev (tx l) (by have := tx_len hu; omega)
      have hj : Ev (fun k => pyxlaw09_OidMatchesReference.j1 k l (tx l) (cont l) false) true := by
        refine Ev.step' (f := fun k => (oid_Parse.f k (tx l)).bind fun bt193 => ((oid_Read.f (cont l)).bind fun bt197 => ((pyxref09_Valid.f k l).bind fun t201 => (if t201 = true then (if bt193.2 = true then (if bt197.2 = true then ((slices_Equal_uint32_uint32.f k bt193.1 l).bind fun t202 => (if t202 = true then ((slices_Equal_uint32_uint32.f k bt197.1 l).bind fun t203 => (some t203)) else (some false))) else (some false)) else (some false)) else (if bt193.2 = true then (some false) else (some (!bt197.2))))))) ?_ fun k => by rw [pyxlaw09_OidMatchesReference.j1, if_neg (by decide)]
        refine Ev.bind hp (Ev.bind (Ev.const hr) (Ev.bind (rvalid l) ?_))
        cases hv : validB l with
        | true =>
          rw [PP_tx hu hv, RR_cont hu hv]
          simp only [if_true]
          refine Ev.bind hq ?_
          simp only [if_true]
          exact Ev.bind (f := fun _ x => some x) hq (Ev.now true)
        | false =>
          have h1 := PP_empty hv
          have h2 : (RR (cont l)).2 = false := by
            have e : cont l = [] := by unfold cont; rw [if_neg (by rw [hv]; decide)]
            rw [e]
            rfl
          exact Ev.const' fun k => by rw [if_neg (by decide), h1, h2, if_neg (by decide)]; rfl
      refine Ev.step' (f := fun k => (oid_Text.f k l).bind fun t182 => ((oid_Content.f l).bind fun t183 => ((oid_Valid.f l).bind fun t186 => ((pyxref09_Valid.f k l).bind fun t187 => (if (t186 != t187) = true then (pyxlaw09_OidMatchesReference.j1 k l t182 t183 true) else ((pyxref09_Text.f k l).bind fun t188 => (if t182.toList = t188.toList then ((pyxref09_Content.f k l).bind fun t189 => ((pyxref01_Same.f k t183 t189).bind fun t192 => (pyxlaw09_OidMatchesReference.j1 k l t182 t183 (!t192)))) else (pyxlaw09_OidMatchesReference.j1 k l t182 t183 true)))))))) ?_ fun k => by rw [pyxlaw09_OidMatchesReference.j0, if_neg (by decide)]
      refine Ev.bind (text_ev hu) (Ev.bind (Ev.const (cont_ev hu)) (Ev.bind (Ev.const (show oid_Valid.f l = some (validB l) from rfl)) (Ev.bind (rvalid l) ?_)))
      simp only [bne_self_eq_false, Bool.false_eq_true, if_false]
      refine Ev.bind (rtext_ev hu) ?_
      simp only [if_true]
      refine Ev.bind (rcont_ev hu) (Ev.bind hs ?_)
      exact hj
  exact Ev.congr (fun k => rfl) (Ev.bind ha (Ev.congr (fun k => by rw [if_pos rfl]) hgo))
end Go.Proofs.YtohmnlmeamkmjaaDoor.Pure
