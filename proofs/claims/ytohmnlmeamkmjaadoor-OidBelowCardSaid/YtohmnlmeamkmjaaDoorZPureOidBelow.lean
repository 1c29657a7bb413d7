/- OidBelow: no condition. -/
import Derived.Test.YtohmnlmeamkmjaaDoorZPOidx17
import Derived.Test.YtohmnlmeamkmjaaDoorZXOid7
namespace Go.Proofs.YtohmnlmeamkmjaaDoor.Pure
open Go.RowKit Go.Proofs.YtohmnlmeamkmjaaDoor.POid Go.Proofs.YtohmnlmeamkmjaaDoorW.PrintWords Go.Proofs.YtohmnlmeamkmjaaDoorW.PrintLast Go.Proofs.YtohmnlmeamkmjaaDoorW.PrintMore Go.Proofs.YtohmnlmeamkmjaaDoorW.Pu
theorem OidBelow : pyxlaw09_OidBelow.Pure := by
  intro a b _ _ hwa _ _ hwb
  have ha : IsU32 a := fun c hc => wf_u32 (hwa c hc)
  have hb : IsU32 b := fun c hc => wf_u32 (hwb c hc)
  apply Ev.rounds
  have haw := Ev.of pyxlaw09_awake.mono pyxlaw09_awake.eval
  have hlast : Ev (fun k => pyxlaw09_OidBelow.j0 k a b true) true :=
    Ev.step' (Ev.bind (f := fun _ x => some x) haw (Ev.now true)) fun k => by rw [pyxlaw09_OidBelow.j0, if_pos rfl]
  have hgo : Ev (fun k => pyxlaw09_OidBelow.j0 k a b false) true := by
    have sa := tx_sz ha
    have sb := tx_sz hb
    refine Ev.step' (f := fun k => ((pyxref09_Text.f k a).bind fun t258 => ((pyxref09_Text.f k b).bind fun t259 => (if t259.size + 1 ≤ 9223372036854775807 then (if t258.toList = ([] : List UInt8) then ((oid_Below.f a b).bind fun t260 => (some (t260 == false))) else (if (t259 ++ (⟨#[46]⟩ : ByteArray)).toList = ([46] : List UInt8) then ((oid_Below.f a b).bind fun t261 => (some (t261 == false))) else (if (t258.size : Int) > ((t259 ++ (⟨#[46]⟩ : ByteArray)).size : Int) then (if 0 ≤ (mn ((t259 ++ (⟨#[46]⟩ : ByteArray)).size : Int) (t258.size : Int)) then (if (mn ((t259 ++ (⟨#[46]⟩ : ByteArray)).size : Int) (t258.size : Int)) ≤ (t258.size : Int) then ((oid_Below.f a b).bind fun t262 => (some (t262 == ((t258.extract 0 ((mn ((t259 ++ (⟨#[46]⟩ : ByteArray)).size : Int) (t258.size : Int)) : Int).toNat).toList == (t259 ++ (⟨#[46]⟩ : ByteArray)).toList)))) else (none)) else (none)) else ((oid_Below.f a b).bind fun t263 => (some (t263 == false)))))) else (none))))) ?_ fun k => by rw [pyxlaw09_OidBelow.j0, if_neg (by decide)]
    refine Ev.bind (rtext_ev ha) (Ev.bind (rtext_ev hb) (Ev.const ?_))
    have hB : oid_Below.f a b = some (belowB a b) := rfl
    rw [show (⟨#[46]⟩ : ByteArray) = B [46] from rfl]
    unfold tx
    rw [B_append, B_toList, B_toList, B_size, B_size, B_size, hB, if_pos (by omega)]
    simp only [Option.bind_some]
    by_cases va : validB a = true
    · rw [if_neg (txl_ne va)]
      by_cases vb : validB b = true
      · have nb := txl_ne vb
        rw [if_neg (fun h => nb (by
          have := congrArg List.length h
          simp only [List.length_append, List.length_cons, List.length_nil] at this
          exact List.eq_nil_of_length_eq_zero (by omega)))]
        have hi := below_iff ha hb va vb
        have e0 : belowB a b = decide (b.length < a.length ∧ a.take b.length = b) := by
          unfold belowB
          rw [va, vb, Bool.true_and, Bool.true_and, Bool.decide_and]
        by_cases hl : ((txl a).length : Int) > ((txl b ++ [46]).length : Int)
        · rw [if_pos hl]
          simp only [List.length_append, List.length_cons, List.length_nil] at hl
          have hm : mn ((txl b ++ [46]).length : Int) ((txl a).length : Int) = ((txl b).length : Int) + 1 := by
            unfold mn
            rw [List.length_append, if_neg (by simp; omega)]
            simp
          rw [hm, if_pos (by omega), if_pos (by omega), show (((txl b).length : Int) + 1).toNat = (txl b).length + 1 by omega]
          have hx : ((B (txl a)).extract 0 ((txl b).length + 1)).toList = (txl a).take ((txl b).length + 1) := by
            rw [ByteArray.toList_eq, ByteArray.data_extract, Array.toList_extract]
            show ((txl a).drop 0).take _ = _
            rw [List.drop_zero]
            rfl
          rw [hx, e0]
          have h2 : (txl b).length + 1 < (txl a).length := by omega
          by_cases hp : (txl a).take ((txl b).length + 1) = txl b ++ [46]
          · rw [decide_eq_true (hi.1 ⟨h2, hp⟩), hp]
            simp
          · rw [decide_eq_false (fun h => hp (hi.2 h).2)]
            have e9 : ((txl a).take ((txl b).length + 1) == txl b ++ [46]) = false := beq_eq_false_iff_ne.2 hp
            rw [e9]
            rfl
        · rw [if_neg hl, e0, decide_eq_false (fun h => hl (by have := (hi.2 h).1; simp only [List.length_append, List.length_cons, List.length_nil]; omega))]
          rfl
      · have vb' : validB b = false := by simpa using vb
        rw [txl_no vb', if_pos (List.nil_append _)]
        have e0 : belowB a b = false := by unfold belowB; rw [vb', Bool.false_and, Bool.and_false]
        rw [e0]
        rfl
    · have va' : validB a = false := by simpa using va
      rw [if_pos (txl_no va')]
      have e0 : belowB a b = false := by unfold belowB; rw [va', Bool.false_and]
      rw [e0]
      rfl
  refine Ev.congr (fun k => rfl) (Ev.bind haw ?_)
  simp only [if_true]
  by_cases h1 : (a.length : Int) > 100
  · exact Ev.congr (fun k => by rw [if_pos h1]) hlast
  · by_cases h2 : (b.length : Int) > 100
    · exact Ev.congr (fun k => by rw [if_neg h1, decide_eq_true h2]) hlast
    · exact Ev.congr (fun k => by rw [if_neg h1, decide_eq_false h2]) hgo
end Go.Proofs.YtohmnlmeamkmjaaDoor.Pure
