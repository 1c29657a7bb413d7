/- cbor: what an argument of type 34 is (an item that holds items), and the walk of CborGets joined with its plain half -/
import Derived.Test.YthdjmojpnimhjaaDoorZXOpenB
import Derived.Test.YthdjmojpnimhjaaDoorZXCg2
namespace Go.Proofs.YthdjmojpnimhjaaDoor.PCbg
open Go.RowKit Go.Proofs.YthdjmojpnimhjaaDoorW.PrintWords Go.Proofs.YthdjmojpnimhjaaDoorW.PrintLast Go.Proofs.YthdjmojpnimhjaaDoorW.PrintMore Go.Proofs.YthdjmojpnimhjaaDoorW.Pu Go.Proofs.YthdjmojpnimhjaaDoorW.Open
set_option linter.unusedVariables false
set_option maxRecDepth 100000 in
theorem opens34 : Opens k34 Tryd.prog 34 Fit := opens_ofB fun m => by
 induction m with
 | zero => exact opensB_zero
 | succ m ih =>
  haveI : Inhabited S34 := ⟨z34⟩
  have key : OpensB (m + 1) (F34 k34) Tryd.prog 34 (fun y : S34 => (Lit.int .i64 y.f0).wf = true ∧ (Lit.int .u64 y.f1).wf = true ∧ (y.f2.length * Tryd.prog.bytesOf 5 ≤ reachBytes ∧ ∀ z ∈ y.f2, (Lit.int .u8 z).wf = true) ∧ y.f3.length * Tryd.prog.bytesOf 34 ≤ reachBytes ∧ ∀ z ∈ y.f3, Fit z) :=
   opensB_iso (f := fun x : S34 => (x.f0, x.f1, x.f2, x.f3)) (fun (p : Int × Int × List Int × List S34) => (⟨p.1, p.2.1, p.2.2.1, p.2.2.2⟩ : S34)) (fun _ => rfl) (opensB_struct Tryd.underlying34 (opensFB_cons (by kernel_rfl) (opensB_of (opens_int Tryd.underlying3)) (opensFB_cons (by kernel_rfl) (opensB_of (opens_int Tryd.underlying24)) (opensFB_cons (by kernel_rfl) (opensB_of (opens_slice Tryd.underlying22 (by kernel_rfl) (opens_int Tryd.underlying5))) (opensFB_last rfl (by kernel_rfl) (opensB_slice Tryd.underlying32 (by kernel_rfl) ih))))))
  intro H enc w base spare held fuel cs xx hm hx hw
  obtain ⟨x, hK, hQ⟩ := key hm hx hw
  refine ⟨x, ?_⟩
  obtain ⟨q0, qn, ⟨q1, qb⟩, q2, q3⟩ := hQ
  refine ⟨?_, ?_⟩
  ·obtain ⟨_, _, rfl, rfl, ⟨_, _, rfl, rfl, ⟨_, _, rfl, ⟨A1, c1, rfl, l1, g1⟩, ⟨A2, c2, rfl, l2, g2⟩⟩⟩⟩ := hK
   exact k34_mk w x l1 g1 l2 g2
  ·have e5 : Tryd.prog.bytesOf 5 = 1 := by kernel_rfl
   have e34 : Tryd.prog.bytesOf 34 = 64 := by kernel_rfl
   rw [e5] at q1
   rw [e34] at q2
   have er : reachBytes = 140737488351232 := rfl
   exact Fit.mk x (wf_i64 q0) (wf_u64 qn) (by omega) (fun y hy => wf_u8 (qb y hy)) (by omega) q3
theorem CborGets.walk (x : S34) (key : Int) (hx : Fit x) (hk : (Lit.int .i64 key).wf = true) (A1 : Option Addr) (c1 : Nat) (A2 : Option Addr) (c2 : Nat) (w : World)
  (hc1 : x.f2.length ≤ c1) (hr1 : Kd.C (Kd.int .u8) w A1 x.f2.length x.f2) (hc2 : x.f3.length ≤ c2) (hr2 : Kd.C k34 w A2 x.f3.length x.f3) (hG : GOK w) :
  Calls Tryd.prog 6 #[.agg #[.int .i64 x.f0, .int .u64 x.f1, .slice A1 x.f2.length c1, .slice A2 x.f3.length c2], .int .i64 key] w fun e w' => e = .returned (.bool true) ∧ Below w.heap.size w w' := by
 obtain ⟨k, h⟩ := Ev.rounds (gets_ev hx key (wf_i64 hk))
 exact pyxlaw10_CborGets.calls k x.f0 x.f1 (fun k_ => k_ < w.heap.size) A1 c1 x.f2 (fun k_ => k_ < w.heap.size) A2 c2 x.f3 key true w (Kd.V_mk hc1 (Kd.C_F (Kd.heap_int _) hr1)) (Kd.V_mk hc2 (Kd.C_F k34_heap hr2)) h hG rfl
end Go.Proofs.YthdjmojpnimhjaaDoor.PCbg
