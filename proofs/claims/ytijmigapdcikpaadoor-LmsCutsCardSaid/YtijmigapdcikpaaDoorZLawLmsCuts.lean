import Derived.Test.YtijmigapdcikpaaDoorRows
import Derived.Test.YtijmigapdcikpaaDoorZXOpen
import Derived.Test.YtijmigapdcikpaaDoorZPLmsx17
import Derived.Test.YtijmigapdcikpaaDoorZPureLmsCuts
import Derived.WalkKit
import Derived.ProofKit
import Derived.OpenShut
import Derived.ShutString
import Derived.ChangeOld
import Derived.Below
import Derived.SizedLaws
import Derived.Test.YtijmigapdcikpaaDoorCards
import Derived.Test.YtijmigapdcikpaaDoorTie
import Derived.LaidMore
import Derived.Lay
import Derived.LaidHandle
import Derived.SevenTiedAt
import Derived.Stop.Joined
import Derived.Test.YtijmigapdcikpaaDoorZWSized
namespace Go.Proofs.YtijmigapdcikpaaDoor.lmsCuts
open Go.ChangeShapes Go.WideShapes Go.ChangeAt Go.RowKit
open Go.ChangeMaps (open_string shut_string)
set_option linter.unusedVariables false
open Go.Proofs.YtijmigapdcikpaaDoor.PLms Go.Proofs.YtijmigapdcikpaaDoorW.PrintWords Go.Proofs.YtijmigapdcikpaaDoorW.Open
theorem own : ownKnob Tryd.prog.godebug = none := by kernel_rfl
theorem laidOut : laidOutB Tryd.prog = true := by kernel_rfl
def IsRow (k : IntKind) (w : World) (a : Option Addr) (len cap : Nat) (zs : List Int) : Prop :=
  (a = none ∧ len = 0 ∧ cap = 0 ∧ zs = []) ∨
  ∃ x, a = some x ∧ len ≤ cap ∧ cap ≤ maxLen ∧ zs.length = cap ∧ (∀ i, i < zs.length → w.cell? (x.add i) = some (.int k (zs.getD i 0))) ∧ ∀ n ∈ zs, (Lit.int k n).wf = true
set_option maxRecDepth 100000 in
theorem lifted (os : Os) (started : os.Started) (H : Type) (enc : TypeId × Value → H) :
    ReturnsInHanded {} Tryd.checked os 10 .any (fun w args => (Rows.lmsCutsSpec.pre enc Tryd.prog Tryd.f10 Rows.lmsCutsRow.domain false w args ∧ laidMetH Tryd.prog Rows.lmsCutsRow.laid w) ∧ sizedMet enc Tryd.prog Tryd.f10 (OpenSpec.ofChange Rows.lmsCutsSpec) false w args) (Rows.lmsCutsSpec.post enc Tryd.prog Tryd.f10 false true false false) := by
  refine returnsInHanded_of_change_and (C := Tryd.checked) (X := fun w _ => laidMetH Tryd.prog Rows.lmsCutsRow.laid w) (fun _ _ _ hh h => h.of_heap hh) own started (by kernel_rfl) Tryd.func10
    (ChangeSpec.witness_shaped (enc := enc) (C := Tryd.checked) (os := os) (X := fun w _ => laidMetH Tryd.prog Rows.lmsCutsRow.laid w) false (PLms.holding0 os) #[.slice none 0 0, .int .u32 0] 8 (rfl)
      (World.shaped_of_ZipB (by kernel_rfl) (by kernel_rfl)) (by kernel_rfl) (by kernel_rfl) (by kernel_rfl)
      (PLms.holding0_met os _)) ?_
  intro W base args ds gs before hval0 hW hcnd hsz0 hL _
  have hsz : (DataW.weightsEach Tryd.prog (Tryd.f10.params.toList ++ Rows.lmsCutsSpec.plain.varTypes Tryd.prog) (ds ++ gs)).all (· ≤ reachBytes) = true := hsz0
  have hval : ∀ (j : Nat) t v, Tryd.f10.params[j]? = some t → args[j]? = some v → Value.okWide Tryd.prog W .any base t v := hval0
  have hW' := hW
  obtain ⟨p, q, hA0, hV, rfl, hfz, hnd⟩ := hW
  have hA : DataW.TrodAll enc Tryd.prog W 0 (fun _ => true) true Tryd.f10.params.toList args.toList ds p := hA0
  rw [Tryd.params10] at hA hval hsz
  obtain ⟨v0, vs0, d0, ds0, p0, q0, hargs, rfl, rfl, h0, r0⟩ := trodAll_cons hA
  obtain ⟨v1, vs1, d1, ds1, p1, q1, rfl, rfl, rfl, h1, r1⟩ := trodAll_cons r0
  obtain ⟨rfl, rfl, rfl⟩ := trodAll_nil r1
  obtain rfl : args = #[v0, v1] := by cases args; simp_all
  obtain ⟨rfl, rfl⟩ := trodVars_none hV
  obtain ⟨a0, len0, cap0, rfl⟩ := okWide_slice Tryd.underlying55 (hval 0 55 v0 rfl rfl)
  have k0 := h0
  have lt0 : ∀ x ∈ p0, x.block < W.heap.size := by obtain ⟨m, hm⟩ := k0; exact DataW.trod_lt m _ _ _ hm
  obtain ⟨l0, ⟨A0, c0, e0, hc0, w0⟩, y0, q0⟩ : ∃ l, Kd.K (Kd.slice 87 k87) W l [.slice a0 len0 cap0] ∧ (l.length * Tryd.prog.bytesOf 87 ≤ reachBytes ∧ ∀ x ∈ l, ((Lit.int .i64 x.f0).wf = true ∧ (Lit.int .i64 x.f1).wf = true ∧ (Lit.int .i64 x.f2).wf = true ∧ (Lit.int .u32 x.f3).wf = true)) := by
    obtain ⟨fuel, hf⟩ := h0
    have hw_ := fun n hn => of_decide_eq_true (List.all_eq_true.1 hsz _ (DataW.weights_mem_each (j := 0) (t := 55) rfl rfl n hn))
    exact (haveI : Inhabited S87 := ⟨z87⟩; opens_slice Tryd.underlying55 (by kernel_rfl) (opens_iso (f := fun x_ : S87 => (x_.f0, x_.f1, x_.f2, x_.f3)) (fun (p_ : Int × Int × Int × Int) => (⟨p_.1, p_.2.1, p_.2.2.1, p_.2.2.2⟩ : S87)) (fun _ => rfl) (opens_struct Tryd.underlying87 (opensF_cons (by kernel_rfl) (opens_int Tryd.underlying3) (opensF_cons (by kernel_rfl) (opens_int Tryd.underlying3) (opensF_cons (by kernel_rfl) (opens_int Tryd.underlying3) (opensF_last rfl (by kernel_rfl) (opens_int Tryd.underlying47)))))))) hf hw_
  injection List.head_eq_of_cons_eq e0 with e1_ e2_ e3_
  subst e1_ e2_ e3_
  obtain ⟨a1, rfl, rfl, rfl, w1⟩ := open_int Tryd.underlying47 (hval 1 47 v1 rfl rfl) h1
  clear hA0 hval0 hsz0 hsz
  refine (PLms.pyxlaw21_LmsCuts.walk Pure.LmsCuts a0 cap0 l0 a1 W w0 hc0 y0 q0 w1 (PLms.gok_of_laid hL)).mono fun e W' ⟨he, bel⟩ => ?_
  subst he
  exact ⟨_, rfl, _, _, _, [], _, [], hW', trodAll_mk1 (shut_bool Tryd.underlying4 _), (trodAll_cons_mk (Below.trod laidOut (by kernel_rfl) (of_decide_eq_true (by kernel_rfl)) k0 bel lt0) (trodAll_cons_mk (shut_int Tryd.underlying47 w1) trodAll_mk0)), rfl, bel.frame _, fun h => by cases h⟩
theorem over : Rows.lmsCutsRow.holds Tryd.pinned (OpenSpec.ofChange Rows.lmsCutsSpec) :=
  OpenClaim.holds_of_wide 10 Tryd.f10 rfl rfl rfl rfl rfl rfl rfl ⟨rfl, rfl, rfl, rfl, rfl⟩ rfl rfl rfl rfl rfl (by kernel_rfl) Tryd.func10 (by kernel_rfl)
    (of_decide_eq_true (by kernel_rfl)) (by unfold Func.isWrapper; first | (rw [if_pos (by decide +kernel)]; kernel_rfl) | (rw [if_neg (by decide +kernel)]; exact ⟨rfl, rfl⟩))
    (fun os started H enc _ => lifted os started H enc)
theorem proved : Rows.LmsCutsCardSaid :=
  Claim7.holds_tied_plain_at .later [] [.handle, .data, .data] true (true, "0223e6ace490ae8712bdcb418058af544b7280b48d28dbb85c6da5591ff53271") true over (fun _ h => by cases h) (by kernel_rfl) (fun _ h => by cases h) lmsCuts_row_tie rfl ⟨rfl, rfl⟩ (by kernel_rfl) rfl
    (fun f fn hf hfn => by
      obtain rfl : f = 10 := Option.some.inj ((show Tryd.prog.funcNamed "pyx/pyxlaw21.LmsCuts" = some 10 by kernel_rfl).symm.trans hf) |>.symm
      obtain rfl : fn = Tryd.f10 := (Option.some.inj (Tryd.func10.symm.trans hfn)).symm
      exact ⟨by kernel_rfl, fun j t ht => by
        rw [Tryd.params10] at ht
        have hm : t ∈ [55, 47] := by simpa using Array.mem_of_getElem? ht
        have hall : ([55, 47].all fun u => !Tryd.prog.wantsStandIn u) = true := by kernel_rfl
        exact (show Tryd.prog.wantsStandIn t = false by simpa using List.all_eq_true.1 hall t hm)⟩)
    (by kernel_rfl)
#print axioms proved
end Go.Proofs.YtijmigapdcikpaaDoor.lmsCuts
namespace Go.Proofs.YtijmigapdcikpaaDoor
theorem lmsCuts_holds : Rows.LmsCutsCardSaid := lmsCuts.proved
end Go.Proofs.YtijmigapdcikpaaDoor
