import Derived.Test.YthdjmojpnimhjaaDoorRows
import Derived.Test.YthdjmojpnimhjaaDoorZXCg3
import Derived.WalkKit
import Derived.ProofKit
import Derived.OpenShut
import Derived.ShutString
import Derived.ChangeOld
import Derived.Below
import Derived.SizedLaws
import Derived.Test.YthdjmojpnimhjaaDoorCards
import Derived.Test.YthdjmojpnimhjaaDoorTie
import Derived.LaidMore
import Derived.Lay
import Derived.LaidHandle
import Derived.SevenTiedAt
import Derived.Stop.Joined
namespace Go.Proofs.YthdjmojpnimhjaaDoor.cborGets
open Go.ChangeShapes Go.WideShapes Go.ChangeAt Go.RowKit
open Go.ChangeMaps (open_string shut_string)
set_option linter.unusedVariables false
theorem own : ownKnob Tryd.prog.godebug = none := by kernel_rfl
theorem laidOut : laidOutB Tryd.prog = true := by kernel_rfl
set_option maxRecDepth 100000 in
theorem lifted (os : Os) (started : os.Started) (H : Type) (enc : TypeId × Value → H) :
  ReturnsInHanded {} Tryd.checked os 6 .any (fun w args => (Rows.cborGetsSpec.pre enc Tryd.prog Tryd.f6 Rows.cborGetsRow.domain false w args ∧ laidMetH Tryd.prog Rows.cborGetsRow.laid w) ∧ sizedMet enc Tryd.prog Tryd.f6 (OpenSpec.ofChange Rows.cborGetsSpec) false w args) (Rows.cborGetsSpec.post enc Tryd.prog Tryd.f6 false true false false) := by
 refine returnsInHanded_of_change_and (C := Tryd.checked) (X := fun w _ => laidMetH Tryd.prog Rows.cborGetsRow.laid w) (fun _ _ _ hh h => h.of_heap hh) own started (by kernel_rfl) Tryd.func6
  (ChangeSpec.witness_shaped (enc := enc) (C := Tryd.checked) (os := os) (X := fun w _ => laidMetH Tryd.prog Rows.cborGetsRow.laid w) false (PCbg.holding0 os) #[.agg #[.int .i64 0, .int .u64 0, .slice none 0 0, .slice none 0 0], .int .i64 0] 8 (rfl)
   (World.shaped_of_ZipB (by kernel_rfl) (by kernel_rfl)) (by kernel_rfl) (by kernel_rfl) (by kernel_rfl)
   (PCbg.holding0_met os _)) ?_
 intro W base args ds gs before hval0 hW hcnd hsz0 hL _
 have hsz : (DataW.weightsEach Tryd.prog (Tryd.f6.params.toList ++ Rows.cborGetsSpec.plain.varTypes Tryd.prog) (ds ++ gs)).all (· ≤ reachBytes) = true := hsz0
 have hval : ∀ (j : Nat) t v, Tryd.f6.params[j]? = some t → args[j]? = some v → Value.okWide Tryd.prog W .any base t v := hval0
 have hW' := hW
 obtain ⟨p, q, hA0, hV, rfl, hfz, hnd⟩ := hW
 have hA : DataW.TrodAll enc Tryd.prog W 0 (fun _ => true) true Tryd.f6.params.toList args.toList ds p := hA0
 rw [Tryd.params6] at hA hval hsz
 obtain ⟨v0, vs0, d0, ds0, p0, q0, hargs, rfl, rfl, h0, r0⟩ := trodAll_cons hA
 obtain ⟨v1, vs1, d1, ds1, p1, q1, rfl, rfl, rfl, h1, r1⟩ := trodAll_cons r0
 obtain ⟨rfl, rfl, rfl⟩ := trodAll_nil r1
 obtain rfl : args = #[v0, v1] := by cases args; simp_all
 obtain ⟨rfl, rfl⟩ := trodVars_none hV
 obtain ⟨cs0, rfl, _⟩ := okWide_struct Tryd.underlying34 (hval 0 34 v0 rfl rfl)
 obtain ⟨a1, rfl, rfl, rfl, w1⟩ := open_int Tryd.underlying2 (hval 1 2 v1 rfl rfl) h1
 have k0 := h0
 have lt0 : ∀ x ∈ p0, x.block < W.heap.size := by obtain ⟨m, hm⟩ := k0; exact DataW.trod_lt m _ _ _ hm
 obtain ⟨x, hx, fx⟩ : ∃ x, PCbg.k34.K W x cs0.toList ∧ PCbg.Fit x := by
  obtain ⟨fuel, hf⟩ := h0
  exact PCbg.opens34 hf (fun n hn => of_decide_eq_true (List.all_eq_true.1 hsz _ (DataW.weights_mem_each (j := 0) (t := 34) rfl rfl n hn)))
 obtain ⟨A1, c1, A2, c2, e0, hc1, hr1, hc2, hr2⟩ := PCbg.k34_open hx
 obtain rfl : cs0 = #[.int .i64 x.f0, .int .u64 x.f1, .slice A1 x.f2.length c1, .slice A2 x.f3.length c2] := by cases cs0; simp_all
 clear hA0 hval0 hsz0 hsz
 refine (PCbg.CborGets.walk x a1 fx w1 A1 c1 A2 c2 W hc1 hr1 hc2 hr2 (PCbg.gok_of_laid hL)).mono fun e W' ⟨he, bel⟩ => ?_
 subst he
 exact ⟨_, rfl, _, _, _, [], _, [], hW', trodAll_mk1 (shut_bool Tryd.underlying4 _), (trodAll_cons_mk (Below.trod laidOut (by kernel_rfl) (of_decide_eq_true (by kernel_rfl)) k0 bel lt0) (trodAll_cons_mk (shut_int Tryd.underlying2 w1) trodAll_mk0)), rfl, bel.frame _, fun h => by cases h⟩
theorem over : Rows.cborGetsRow.holds Tryd.pinned (OpenSpec.ofChange Rows.cborGetsSpec) :=
 OpenClaim.holds_of_wide 6 Tryd.f6 rfl rfl rfl rfl rfl rfl rfl ⟨rfl, rfl, rfl, rfl, rfl⟩ rfl rfl rfl rfl rfl (by kernel_rfl) Tryd.func6 (by kernel_rfl)
  (of_decide_eq_true (by kernel_rfl)) (by unfold Func.isWrapper; first | (rw [if_pos (by decide +kernel)]; kernel_rfl) | (rw [if_neg (by decide +kernel)]; exact ⟨rfl, rfl⟩))
  (fun os started H enc _ => lifted os started H enc)
theorem proved : Rows.CborGetsCardSaid :=
 Claim7.holds_tied_plain_at .later [] [.handle] true (true, "3d4e24e83a7db5b68aec081c7e795acae505f64f650a2a35713d0b06746a0695") true over (fun _ h => by cases h) (by kernel_rfl) (fun _ h => by cases h) cborGets_row_tie rfl ⟨rfl, rfl⟩ (by kernel_rfl) rfl
  (fun f fn hf hfn => by
   obtain rfl : f = 6 := Option.some.inj ((show Tryd.prog.funcNamed "pyx/pyxlaw10.CborGets" = some 6 by kernel_rfl).symm.trans hf) |>.symm
   obtain rfl : fn = Tryd.f6 := (Option.some.inj (Tryd.func6.symm.trans hfn)).symm
   exact ⟨by kernel_rfl, fun j t ht => by
    rw [Tryd.params6] at ht
    have hm : t ∈ [34, 2] := by simpa using Array.mem_of_getElem? ht
    have hall : ([34, 2].all fun u => !Tryd.prog.wantsStandIn u) = true := by kernel_rfl
    exact (show Tryd.prog.wantsStandIn t = false by simpa using List.all_eq_true.1 hall t hm)⟩)
  (by kernel_rfl)
#print axioms proved
end Go.Proofs.YthdjmojpnimhjaaDoor.cborGets
namespace Go.Proofs.YthdjmojpnimhjaaDoor
theorem cborGets_holds : Rows.CborGetsCardSaid := cborGets.proved
end Go.Proofs.YthdjmojpnimhjaaDoor
