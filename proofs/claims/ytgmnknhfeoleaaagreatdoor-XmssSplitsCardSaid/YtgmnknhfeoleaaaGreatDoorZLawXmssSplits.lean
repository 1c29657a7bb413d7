import Derived.Test.YtgmnknhfeoleaaaGreatDoorRows
import Derived.Test.YtgmnknhfeoleaaaGreatDoorZXOpen
import Derived.Test.YtgmnknhfeoleaaaGreatDoorZPXmssx33
import Derived.Test.YtgmnknhfeoleaaaGreatDoorZWSized
import Derived.WalkKit
import Derived.ProofKit
import Derived.OpenShut
import Derived.ShutString
import Derived.ChangeOld
import Derived.Below
import Derived.SizedLaws
import Derived.Test.YtgmnknhfeoleaaaGreatDoorCards
import Derived.Test.YtgmnknhfeoleaaaGreatDoorTie
import Derived.LaidMore
import Derived.Lay
import Derived.LaidHandle
import Derived.SevenTiedAt
import Derived.Stop.Joined
namespace Go.Proofs.YtgmnknhfeoleaaaGreatDoor.xmssSplits
open Go.ChangeShapes Go.WideShapes Go.ChangeAt Go.RowKit
open Go.ChangeMaps (open_string shut_string)
set_option linter.unusedVariables false
open Go.Proofs.YtgmnknhfeoleaaaGreatDoor.PXmss Go.Proofs.YtgmnknhfeoleaaaGreatDoorW.PrintWords Go.Proofs.YtgmnknhfeoleaaaGreatDoorW.Open
theorem own : ownKnob Tryz.prog.godebug = none := by kernel_rfl
theorem laidOut : laidOutB Tryz.prog = true := by kernel_rfl
def IsRow (k : IntKind) (w : World) (a : Option Addr) (len cap : Nat) (zs : List Int) : Prop :=
 (a = none ∧ len = 0 ∧ cap = 0 ∧ zs = []) ∨
 ∃ x, a = some x ∧ len ≤ cap ∧ cap ≤ maxLen ∧ zs.length = cap ∧ (∀ i, i < zs.length → w.cell? (x.add i) = some (.int k (zs.getD i 0))) ∧ ∀ n ∈ zs, (Lit.int k n).wf = true
set_option maxRecDepth 100000 in
theorem lifted (os : Os) (started : os.Started) (H : Type) (enc : TypeId × Value → H) :
  ReturnsInHanded {} Tryz.checked os 6 .any (fun w args => (Rows.xmssSplitsSpec.pre enc Tryz.prog Tryz.f6 Rows.xmssSplitsRow.domain false w args ∧ laidMetH Tryz.prog Rows.xmssSplitsRow.laid w) ∧ sizedMet enc Tryz.prog Tryz.f6 (OpenSpec.ofChange Rows.xmssSplitsSpec) false w args) (Rows.xmssSplitsSpec.post enc Tryz.prog Tryz.f6 false true false false) := by
 refine PXmss.handed_and_shaped (C := Tryz.checked) (X := fun w _ => laidMetH Tryz.prog Rows.xmssSplitsRow.laid w) (fun _ _ _ hh h => h.of_heap hh) own started (by kernel_rfl) Tryz.func6
  (ChangeSpec.witness_shaped (enc := enc) (C := Tryz.checked) (os := os) (X := fun w _ => laidMetH Tryz.prog Rows.xmssSplitsRow.laid w) false (PXmss.holding0 os) #[.int .u8 0, .int .u32 0, .int .u32 0, .slice none 0 0] 8 (rfl)
   (World.shaped_of_ZipB (by kernel_rfl) (by kernel_rfl)) (by kernel_rfl) (by kernel_rfl) (by kernel_rfl)
   (PXmss.holding0_met os _)) ?_
 intro W base args ds gs before hval0 hW hcnd hsz0 hL hS _
 have hsz : (DataW.weightsEach Tryz.prog (Tryz.f6.params.toList ++ Rows.xmssSplitsSpec.plain.varTypes Tryz.prog) (ds ++ gs)).all (· ≤ reachBytes) = true := hsz0
 have hval : ∀ (j : Nat) t v, Tryz.f6.params[j]? = some t → args[j]? = some v → Value.okWide Tryz.prog W .any base t v := hval0
 have hW' := hW
 obtain ⟨p, q, hA0, hV, rfl, hfz, hnd⟩ := hW
 have hA : DataW.TrodAll enc Tryz.prog W 0 (fun _ => true) true Tryz.f6.params.toList args.toList ds p := hA0
 rw [Tryz.params6] at hA hval hsz
 obtain ⟨v0, vs0, d0, ds0, p0, q0, hargs, rfl, rfl, h0, r0⟩ := trodAll_cons hA
 obtain ⟨v1, vs1, d1, ds1, p1, q1, rfl, rfl, rfl, h1, r1⟩ := trodAll_cons r0
 obtain ⟨v2, vs2, d2, ds2, p2, q2, rfl, rfl, rfl, h2, r2⟩ := trodAll_cons r1
 obtain ⟨v3, vs3, d3, ds3, p3, q3, rfl, rfl, rfl, h3, r3⟩ := trodAll_cons r2
 obtain ⟨rfl, rfl, rfl⟩ := trodAll_nil r3
 obtain rfl : args = #[v0, v1, v2, v3] := by cases args; simp_all
 obtain ⟨rfl, rfl⟩ := trodVars_none hV
 obtain ⟨a0, rfl, rfl, rfl, w0⟩ := open_int Tryz.underlying5 (hval 0 5 v0 rfl rfl) h0
 obtain ⟨a1, rfl, rfl, rfl, w1⟩ := open_int Tryz.underlying22 (hval 1 22 v1 rfl rfl) h1
 obtain ⟨a2, rfl, rfl, rfl, w2⟩ := open_int Tryz.underlying22 (hval 2 22 v2 rfl rfl) h2
 obtain ⟨a3, len3, cap3, rfl⟩ := okWide_slice Tryz.underlying23 (hval 3 23 v3 rfl rfl)
 have k3 := h3
 have lt3 : ∀ x ∈ p3, x.block < W.heap.size := by obtain ⟨m, hm⟩ := k3; exact DataW.trod_lt m _ _ _ hm
 obtain ⟨l3, ⟨A3, c3, e3, hc3, w3⟩, y3, q3⟩ : ∃ l, Kd.K (Kd.slice 65 k65) W l [.slice a3 len3 cap3] ∧ (l.length * Tryz.prog.bytesOf 65 ≤ reachBytes ∧ ∀ x ∈ l, ((Lit.int .i64 x.f0).wf = true ∧ (Lit.int .u8 x.f1).wf = true ∧ (Lit.int .u16 x.f2).wf = true ∧ (x.f3.length * Tryz.prog.bytesOf 5 ≤ reachBytes ∧ ∀ y ∈ x.f3, (Lit.int .u8 y).wf = true))) := by
  obtain ⟨fuel, hf⟩ := h3
  have hw_ := fun n hn => of_decide_eq_true (List.all_eq_true.1 hsz _ (DataW.weights_mem_each (j := 3) (t := 23) rfl rfl n hn))
  exact (haveI : Inhabited S65 := ⟨z65⟩; opens_slice Tryz.underlying23 (by kernel_rfl) (opens_iso (f := fun x_ : S65 => (x_.f0, x_.f1, x_.f2, x_.f3)) (fun (p_ : Int × Int × Int × List Int) => (⟨p_.1, p_.2.1, p_.2.2.1, p_.2.2.2⟩ : S65)) (fun _ => rfl) (opens_struct Tryz.underlying65 (opensF_cons (by kernel_rfl) (opens_int Tryz.underlying3) (opensF_cons (by kernel_rfl) (opens_int Tryz.underlying5) (opensF_cons (by kernel_rfl) (opens_int Tryz.underlying49) (opensF_last rfl (by kernel_rfl) (opens_slice Tryz.underlying25 (by kernel_rfl) (opens_int Tryz.underlying5))))))))) hf hw_
 injection List.head_eq_of_cons_eq e3 with e1_ e2_ e3_
 subst e1_ e2_ e3_
 clear hA0 hval0 hsz0 hsz
 refine (PXmss.pyxlaw22_XmssSplits.walk Pure.XmssSplits a0 a1 a2 a3 cap3 l3 W w0 w1 w2 w3 hc3 y3 q3 (PXmss.gok_of_laid hL hS)).mono fun e W' ⟨he, bel⟩ => ?_
 subst he
 exact ⟨_, rfl, _, _, _, [], _, [], hW', trodAll_mk1 (shut_bool Tryz.underlying4 _), (trodAll_cons_mk (shut_int Tryz.underlying5 w0) (trodAll_cons_mk (shut_int Tryz.underlying22 w1) (trodAll_cons_mk (shut_int Tryz.underlying22 w2) (trodAll_cons_mk (Below.trod laidOut (by kernel_rfl) (of_decide_eq_true (by kernel_rfl)) k3 bel lt3) trodAll_mk0)))), rfl, bel.frame _, fun h => by cases h⟩
theorem over : Rows.xmssSplitsRow.holds Tryz.pinned (OpenSpec.ofChange Rows.xmssSplitsSpec) :=
 OpenClaim.holds_of_wide 6 Tryz.f6 rfl rfl rfl rfl rfl rfl rfl ⟨rfl, rfl, rfl, rfl, rfl⟩ rfl rfl rfl rfl rfl (by kernel_rfl) Tryz.func6 (by kernel_rfl)
  (of_decide_eq_true (by kernel_rfl)) (by unfold Func.isWrapper; first | (rw [if_pos (by decide +kernel)]; kernel_rfl) | (rw [if_neg (by decide +kernel)]; exact ⟨rfl, rfl⟩))
  (fun os started H enc _ => lifted os started H enc)
theorem proved : Rows.XmssSplitsCardSaid :=
 Claim7.holds_tied_plain_at .later [] [.data, .data, .data, .data, .handle, .sentinel, .sentinel, .pinned] true (true, "2db7bc53e541b3d0845c160203a0261006fa24a09c311deb1a280e9e75890b7f") true over (fun _ h => by cases h) (by kernel_rfl) (fun _ h => by cases h) xmssSplits_row_tie rfl ⟨rfl, rfl⟩ (by kernel_rfl) rfl
  (fun f fn hf hfn => by
   obtain rfl : f = 6 := Option.some.inj ((show Tryz.prog.funcNamed "pyx/pyxlaw22.XmssSplits" = some 6 by kernel_rfl).symm.trans hf) |>.symm
   obtain rfl : fn = Tryz.f6 := (Option.some.inj (Tryz.func6.symm.trans hfn)).symm
   exact ⟨by kernel_rfl, fun j t ht => by
    rw [Tryz.params6] at ht
    have hm : t ∈ [5, 22, 22, 23] := by simpa using Array.mem_of_getElem? ht
    have hall : ([5, 22, 22, 23].all fun u => !Tryz.prog.wantsStandIn u) = true := by kernel_rfl
    exact (show Tryz.prog.wantsStandIn t = false by simpa using List.all_eq_true.1 hall t hm)⟩)
  (by kernel_rfl)
#print axioms proved
end Go.Proofs.YtgmnknhfeoleaaaGreatDoor.xmssSplits
namespace Go.Proofs.YtgmnknhfeoleaaaGreatDoor
theorem xmssSplits_holds : Rows.XmssSplitsCardSaid := xmssSplits.proved
end Go.Proofs.YtgmnknhfeoleaaaGreatDoor
