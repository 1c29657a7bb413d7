import Derived.Test.YtijmigapdcikpaaDoorRows
import Derived.Test.YtijmigapdcikpaaDoorZXDs2
import Derived.WalkKit
import Derived.ProofKit
import Derived.OpenShut
import Derived.ShutString
import Derived.ChangeOld
import Derived.Below
import Derived.SizedLaws
import Derived.Test.YtijmigapdcikpaaDoorCards
import Derived.Test.YtijmigapdcikpaaDoorTie
import Derived.LaidMore
import Derived.Lay
import Derived.LaidHandle
import Derived.SevenTiedAt
import Derived.Stop.Joined
namespace Go.Proofs.YtijmigapdcikpaaDoor.derSame
open Go.ChangeShapes Go.WideShapes Go.ChangeAt Go.RowKit
open Go.ChangeMaps (open_string shut_string)
set_option linter.unusedVariables false
theorem own : ownKnob Tryd.prog.godebug = none := by kernel_rfl
theorem laidOut : laidOutB Tryd.prog = true := by kernel_rfl
set_option maxRecDepth 100000 in
theorem lifted (os : Os) (started : os.Started) (H : Type) (enc : TypeId × Value → H) :
    ReturnsInHanded {} Tryd.checked os 4 .any (fun w args => (Rows.derSameSpec.pre enc Tryd.prog Tryd.f4 Rows.derSameRow.domain false w args ∧ laidMetH Tryd.prog Rows.derSameRow.laid w) ∧ sizedMet enc Tryd.prog Tryd.f4 (OpenSpec.ofChange Rows.derSameSpec) false w args) (Rows.derSameSpec.post enc Tryd.prog Tryd.f4 false true false false) := by
  refine returnsInHanded_of_change_and (C := Tryd.checked) (X := fun w _ => laidMetH Tryd.prog Rows.derSameRow.laid w) (fun _ _ _ hh h => h.of_heap hh) own started (by kernel_rfl) Tryd.func4
    (ChangeSpec.witness_shaped (enc := enc) (C := Tryd.checked) (os := os) (X := fun w _ => laidMetH Tryd.prog Rows.derSameRow.laid w) false (PDsm.holding0 os) #[.agg #[.int .u8 0, .slice none 0 0, .slice none 0 0], .agg #[.int .u8 0, .slice none 0 0, .slice none 0 0]] 8 (rfl)
      (World.shaped_of_ZipB (by kernel_rfl) (by kernel_rfl)) (by kernel_rfl) (by kernel_rfl) (by kernel_rfl)
      (PDsm.holding0_met os _)) ?_
  intro W base args ds gs before hval0 hW hcnd hsz0 hL _
  have hsz : (DataW.weightsEach Tryd.prog (Tryd.f4.params.toList ++ Rows.derSameSpec.plain.varTypes Tryd.prog) (ds ++ gs)).all (· ≤ reachBytes) = true := hsz0
  have hval : ∀ (j : Nat) t v, Tryd.f4.params[j]? = some t → args[j]? = some v → Value.okWide Tryd.prog W .any base t v := hval0
  have hW' := hW
  obtain ⟨p, q, hA0, hV, rfl, hfz, hnd⟩ := hW
  have hA : DataW.TrodAll enc Tryd.prog W 0 (fun _ => true) true Tryd.f4.params.toList args.toList ds p := hA0
  rw [Tryd.params4] at hA hval hsz
  obtain ⟨v0, vs0, d0, ds0, p0, q0, hargs, rfl, rfl, h0, r0⟩ := trodAll_cons hA
  obtain ⟨v1, vs1, d1, ds1, p1, q1, rfl, rfl, rfl, h1, r1⟩ := trodAll_cons r0
  obtain ⟨rfl, rfl, rfl⟩ := trodAll_nil r1
  obtain rfl : args = #[v0, v1] := by cases args; simp_all
  obtain ⟨rfl, rfl⟩ := trodVars_none hV
  obtain ⟨cs0, rfl, _⟩ := okWide_struct Tryd.underlying33 (hval 0 33 v0 rfl rfl)
  obtain ⟨cs1, rfl, _⟩ := okWide_struct Tryd.underlying33 (hval 1 33 v1 rfl rfl)
  have k0 := h0
  have k1 := h1
  have lt0 : ∀ x ∈ p0, x.block < W.heap.size := by obtain ⟨m, hm⟩ := k0; exact DataW.trod_lt m _ _ _ hm
  have lt1 : ∀ x ∈ p1, x.block < W.heap.size := by obtain ⟨m, hm⟩ := k1; exact DataW.trod_lt m _ _ _ hm
  obtain ⟨x, hx, fx⟩ : ∃ x, PDsm.k33.K W x cs0.toList ∧ PDsm.Fit x := by
    obtain ⟨fuel, hf⟩ := h0
    exact PDsm.opens33 hf (fun n hn => of_decide_eq_true (List.all_eq_true.1 hsz _ (DataW.weights_mem_each (j := 0) (t := 33) rfl rfl n hn)))
  obtain ⟨y, hy, fy⟩ : ∃ y, PDsm.k33.K W y cs1.toList ∧ PDsm.Fit y := by
    obtain ⟨fuel, hf⟩ := h1
    exact PDsm.opens33 hf (fun n hn => of_decide_eq_true (List.all_eq_true.1 hsz _ (DataW.weights_mem_each (j := 1) (t := 33) rfl rfl n hn)))
  obtain ⟨A1, c1, A2, c2, e0, hc1, hr1, hc2, hr2⟩ := PDsm.k33_open hx
  obtain ⟨B1, d1', B2, d2, e1, hd1, hs1, hd2, hs2⟩ := PDsm.k33_open hy
  obtain rfl : cs0 = #[.int .u8 x.f0, .slice A1 x.f1.length c1, .slice A2 x.f2.length c2] := by cases cs0; simp_all
  obtain rfl : cs1 = #[.int .u8 y.f0, .slice B1 y.f1.length d1', .slice B2 y.f2.length d2] := by cases cs1; simp_all
  clear hA0 hval0 hsz0 hsz
  refine (PDsm.DerSame.walk x y fx fy A1 c1 A2 c2 B1 d1' B2 d2 W hr1 hc1 hr2 hc2 hs1 hd1 hs2 hd2 (PDsm.gok_of_laid hL)).mono fun e W' ⟨he, bel⟩ => ?_
  subst he
  exact ⟨_, rfl, _, _, _, [], _, [], hW', trodAll_mk1 (shut_bool Tryd.underlying4 _), (trodAll_cons_mk (Below.trod laidOut (by kernel_rfl) (of_decide_eq_true (by kernel_rfl)) k0 bel lt0) (trodAll_cons_mk (Below.trod laidOut (by kernel_rfl) (of_decide_eq_true (by kernel_rfl)) k1 bel lt1) trodAll_mk0)), rfl, bel.frame _, fun h => by cases h⟩
theorem over : Rows.derSameRow.holds Tryd.pinned (OpenSpec.ofChange Rows.derSameSpec) :=
  OpenClaim.holds_of_wide 4 Tryd.f4 rfl rfl rfl rfl rfl rfl rfl ⟨rfl, rfl, rfl, rfl, rfl⟩ rfl rfl rfl rfl rfl (by kernel_rfl) Tryd.func4 (by kernel_rfl)
    (of_decide_eq_true (by kernel_rfl)) (by unfold Func.isWrapper; first | (rw [if_pos (by decide +kernel)]; kernel_rfl) | (rw [if_neg (by decide +kernel)]; exact ⟨rfl, rfl⟩))
    (fun os started H enc _ => lifted os started H enc)
theorem proved : Rows.DerSameCardSaid :=
  Claim7.holds_tied_plain_at .later [] [.handle] true (true, "0223e6ace490ae8712bdcb418058af544b7280b48d28dbb85c6da5591ff53271") true over (fun _ h => by cases h) (by kernel_rfl) (fun _ h => by cases h) derSame_row_tie rfl ⟨rfl, rfl⟩ (by kernel_rfl) rfl
    (fun f fn hf hfn => by
      obtain rfl : f = 4 := Option.some.inj ((show Tryd.prog.funcNamed "pyx/pyxlaw08.DerSame" = some 4 by kernel_rfl).symm.trans hf) |>.symm
      obtain rfl : fn = Tryd.f4 := (Option.some.inj (Tryd.func4.symm.trans hfn)).symm
      exact ⟨by kernel_rfl, fun j t ht => by
        rw [Tryd.params4] at ht
        have hm : t ∈ [33, 33] := by simpa using Array.mem_of_getElem? ht
        have hall : ([33, 33].all fun u => !Tryd.prog.wantsStandIn u) = true := by kernel_rfl
        exact (show Tryd.prog.wantsStandIn t = false by simpa using List.all_eq_true.1 hall t hm)⟩)
    (by kernel_rfl)
#print axioms proved
end Go.Proofs.YtijmigapdcikpaaDoor.derSame
namespace Go.Proofs.YtijmigapdcikpaaDoor
theorem derSame_holds : Rows.DerSameCardSaid := derSame.proved
end Go.Proofs.YtijmigapdcikpaaDoor
