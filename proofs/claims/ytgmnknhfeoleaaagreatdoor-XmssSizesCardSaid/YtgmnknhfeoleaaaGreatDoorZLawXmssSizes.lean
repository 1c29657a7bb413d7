import Derived.Test.YtgmnknhfeoleaaaGreatDoorRows
import Derived.Test.YtgmnknhfeoleaaaGreatDoorZPXmssx28
import Derived.Test.YtgmnknhfeoleaaaGreatDoorZPureXmssSizes
import Derived.WalkKit
import Derived.ProofKit
import Derived.OpenShut
import Derived.ShutString
import Derived.ChangeOld
import Derived.Below
import Derived.SizedLaws
import Derived.Test.YtgmnknhfeoleaaaGreatDoorCards
import Derived.Test.YtgmnknhfeoleaaaGreatDoorTie
import Derived.LaidMore
import Derived.Lay
import Derived.LaidHandle
import Derived.SevenTiedAt
import Derived.Stop.Joined
namespace Go.Proofs.YtgmnknhfeoleaaaGreatDoor.xmssSizes
open Go.ChangeShapes Go.WideShapes Go.ChangeAt Go.RowKit
open Go.ChangeMaps (open_string shut_string)
set_option linter.unusedVariables false
theorem own : ownKnob Tryz.prog.godebug = none := by kernel_rfl
set_option maxRecDepth 100000 in
theorem lifted (os : Os) (started : os.Started) (H : Type) (enc : TypeId × Value → H) :
    ReturnsInHanded {} Tryz.checked os 5 .any (fun w args => (Rows.xmssSizesSpec.pre enc Tryz.prog Tryz.f5 Rows.xmssSizesRow.domain false w args ∧ laidMetH Tryz.prog Rows.xmssSizesRow.laid w) ∧ sizedMet enc Tryz.prog Tryz.f5 (OpenSpec.ofChange Rows.xmssSizesSpec) false w args) (Rows.xmssSizesSpec.post enc Tryz.prog Tryz.f5 false true false false) := by
  refine PXmss.handed_and_shaped (C := Tryz.checked) (X := fun w _ => laidMetH Tryz.prog Rows.xmssSizesRow.laid w) (fun _ _ _ hh h => h.of_heap hh) own started (by kernel_rfl) Tryz.func5
    (ChangeSpec.witness_shaped (enc := enc) (C := Tryz.checked) (os := os) (X := fun w _ => laidMetH Tryz.prog Rows.xmssSizesRow.laid w) false (PXmss.holding0 os) #[.int .u16 0] 8 (rfl)
      (World.shaped_of_ZipB (by kernel_rfl) (by kernel_rfl)) (by kernel_rfl) (by kernel_rfl) (by kernel_rfl)
      (PXmss.holding0_met os _)) ?_
  intro W base args ds gs before hval0 hW hcnd hsz0 hL hS _
  have hsz : (DataW.weightsEach Tryz.prog (Tryz.f5.params.toList ++ Rows.xmssSizesSpec.plain.varTypes Tryz.prog) (ds ++ gs)).all (· ≤ reachBytes) = true := hsz0
  have hval : ∀ (j : Nat) t v, Tryz.f5.params[j]? = some t → args[j]? = some v → Value.okWide Tryz.prog W .any base t v := hval0
  have hW' := hW
  obtain ⟨p, q, hA0, hV, rfl, hfz, hnd⟩ := hW
  have hA : DataW.TrodAll enc Tryz.prog W 0 (fun _ => true) true Tryz.f5.params.toList args.toList ds p := hA0
  rw [Tryz.params5] at hA hval hsz
  obtain ⟨v0, vs0, d0, ds0, p0, q0, hargs, rfl, rfl, h0, r0⟩ := trodAll_cons hA
  obtain ⟨rfl, rfl, rfl⟩ := trodAll_nil r0
  obtain rfl : args = #[v0] := by cases args; simp_all
  obtain ⟨rfl, rfl⟩ := trodVars_none hV
  obtain ⟨a0, rfl, rfl, rfl, w0⟩ := open_int Tryz.underlying49 (hval 0 49 v0 rfl rfl) h0
  clear hA0 hval0 hsz0 hsz
  refine (PXmss.pyxlaw22_XmssSizes.walk Pure.XmssSizes a0 W w0 (PXmss.gok_of_laid hL hS)).mono fun e W' ⟨he, bel⟩ => ?_
  subst he
  exact ⟨_, rfl, _, _, _, [], _, [], hW', trodAll_mk1 (shut_bool Tryz.underlying4 _), (trodAll_cons_mk (shut_int Tryz.underlying49 w0) trodAll_mk0), rfl, bel.frame _, fun h => by cases h⟩
theorem over : Rows.xmssSizesRow.holds Tryz.pinned (OpenSpec.ofChange Rows.xmssSizesSpec) :=
  OpenClaim.holds_of_wide 5 Tryz.f5 rfl rfl rfl rfl rfl rfl rfl ⟨rfl, rfl, rfl, rfl, rfl⟩ rfl rfl rfl rfl rfl (by kernel_rfl) Tryz.func5 (by kernel_rfl)
    (of_decide_eq_true (by kernel_rfl)) (by unfold Func.isWrapper; first | (rw [if_pos (by decide +kernel)]; kernel_rfl) | (rw [if_neg (by decide +kernel)]; exact ⟨rfl, rfl⟩))
    (fun os started H enc _ => lifted os started H enc)
theorem proved : Rows.XmssSizesCardSaid :=
  Claim7.holds_tied_plain_at .later [] [.data, .data, .data, .data, .handle, .sentinel, .sentinel, .pinned] true (true, "2db7bc53e541b3d0845c160203a0261006fa24a09c311deb1a280e9e75890b7f") true over (fun _ h => by cases h) (by kernel_rfl) (fun _ h => by cases h) xmssSizes_row_tie rfl ⟨rfl, rfl⟩ (by kernel_rfl) rfl
    (fun f fn hf hfn => by
      obtain rfl : f = 5 := Option.some.inj ((show Tryz.prog.funcNamed "pyx/pyxlaw22.XmssSizes" = some 5 by kernel_rfl).symm.trans hf) |>.symm
      obtain rfl : fn = Tryz.f5 := (Option.some.inj (Tryz.func5.symm.trans hfn)).symm
      exact ⟨by kernel_rfl, fun j t ht => by
        rw [Tryz.params5] at ht
        have hm : t ∈ [49] := by simpa using Array.mem_of_getElem? ht
        have hall : ([49].all fun u => !Tryz.prog.wantsStandIn u) = true := by kernel_rfl
        exact (show Tryz.prog.wantsStandIn t = false by simpa using List.all_eq_true.1 hall t hm)⟩)
    (by kernel_rfl)
#print axioms proved
end Go.Proofs.YtgmnknhfeoleaaaGreatDoor.xmssSizes
namespace Go.Proofs.YtgmnknhfeoleaaaGreatDoor
theorem xmssSizes_holds : Rows.XmssSizesCardSaid := xmssSizes.proved
end Go.Proofs.YtgmnknhfeoleaaaGreatDoor
