/- der: what an argument of type 33 is (a node that holds nodes), and the law's walk joined with its plain half -/
import Derived.Test.YtijmigapdcikpaaDoorZXOpenB
import Derived.Test.YtijmigapdcikpaaDoorZXDs1
import Derived.Test.YtijmigapdcikpaaDoorZDsmDw
namespace Go.Proofs.YtijmigapdcikpaaDoor.PDsm
open Go.RowKit Go.Proofs.YtijmigapdcikpaaDoorW.PrintWords Go.Proofs.YtijmigapdcikpaaDoorW.PrintLast Go.Proofs.YtijmigapdcikpaaDoorW.PrintMore Go.Proofs.YtijmigapdcikpaaDoorW.Pu Go.Proofs.YtijmigapdcikpaaDoorW.Open
set_option linter.unusedVariables false
set_option maxRecDepth 100000 in
theorem opens33 : Opens k33 Tryd.prog 33 Fit := opens_ofB fun m => by
  induction m with
  | zero => exact opensB_zero
  | succ m ih =>
    haveI : Inhabited S33 := ⟨z33⟩
    have key : OpensB (m + 1) (F33 k33) Tryd.prog 33 (fun y : S33 => (Lit.int .u8 y.f0).wf = true ∧ (y.f1.length * Tryd.prog.bytesOf 5 ≤ reachBytes ∧ ∀ z ∈ y.f1, (Lit.int .u8 z).wf = true) ∧ y.f2.length * Tryd.prog.bytesOf 33 ≤ reachBytes ∧ ∀ z ∈ y.f2, Fit z) :=
      opensB_iso (f := fun x : S33 => (x.f0, x.f1, x.f2)) (fun (p : Int × List Int × List S33) => (⟨p.1, p.2.1, p.2.2⟩ : S33)) (fun _ => rfl) (opensB_struct Tryd.underlying33 (opensFB_cons (by kernel_rfl) (opensB_of (opens_int Tryd.underlying5)) (opensFB_cons (by kernel_rfl) (opensB_of (opens_slice Tryd.underlying22 (by kernel_rfl) (opens_int Tryd.underlying5))) (opensFB_last rfl (by kernel_rfl) (opensB_slice Tryd.underlying31 (by kernel_rfl) ih)))))
    intro H enc w base spare held fuel cs xx hm hx hw
    obtain ⟨x, hK, hQ⟩ := key hm hx hw
    refine ⟨x, ?_⟩
    obtain ⟨q0, ⟨q1, qb⟩, q2, q3⟩ := hQ
    refine ⟨?_, ?_⟩
    · obtain ⟨_, _, rfl, rfl, ⟨_, _, rfl, ⟨A1, c1, rfl, l1, g1⟩, ⟨A2, c2, rfl, l2, g2⟩⟩⟩ := hK
      exact k33_mk w x l1 g1 l2 g2
    · have e5 : Tryd.prog.bytesOf 5 = 1 := by kernel_rfl
      have e33 : Tryd.prog.bytesOf 33 = 56 := by kernel_rfl
      rw [e5] at q1
      rw [e33] at q2
      have er : reachBytes = 140737488351232 := rfl
      exact Fit.mk x (by omega) (fun y hy => wf_u8 (qb y hy)) (by omega) q3
open Classical in
theorem DerSame.walk (x y : S33) (hx : Fit x) (hy : Fit y) (A1 : Option Addr) (c1 : Nat) (A2 : Option Addr) (c2 : Nat) (B1 : Option Addr) (d1 : Nat) (B2 : Option Addr) (d2 : Nat) (w : World)
    (hr1 : Kd.C (Kd.int .u8) w A1 x.f1.length x.f1) (hc1 : x.f1.length ≤ c1) (hr2 : Kd.C k33 w A2 x.f2.length x.f2) (hc2 : x.f2.length ≤ c2) (hs1 : Kd.C (Kd.int .u8) w B1 y.f1.length y.f1) (hd1 : y.f1.length ≤ d1) (hs2 : Kd.C k33 w B2 y.f2.length y.f2) (hd2 : y.f2.length ≤ d2) (hG : GOK w) :
    Calls Tryd.prog 4 #[.agg #[.int .u8 x.f0, .slice A1 x.f1.length c1, .slice A2 x.f2.length c2], .agg #[.int .u8 y.f0, .slice B1 y.f1.length d1, .slice B2 y.f2.length d2]] w fun e w' => e = .returned (.bool true) ∧ Below w.heap.size w w' := by
  obtain ⟨fa, kF, hF⟩ := few_ev hx
  obtain ⟨fb, kH, hH⟩ := few_ev hy
  obtain ⟨kg, hg⟩ := given_ev hx
  obtain ⟨kh, hh⟩ := given_ev hy
  obtain ⟨ks, hs⟩ := der_same_ev hx hy (nodes_ev hx y hy)
  obtain ⟨kt, ht⟩ := same33_ev hx y
  obtain ⟨ku, hu⟩ := der_same_ev hx hx (nodes_ev hx x hx)
  have hu' := hu ku (Nat.le_refl _)
  rw [decide_eq_true rfl] at hu'
  exact DerSame.calls x.f0 A1 c1 x.f1 A2 c2 x.f2 y.f0 B1 d1 y.f1 B2 d2 y.f2 w hr1 hc1 hr2 hc2 hs1 hd1 hs2 hd2 hG 200 kF kH kg kh ks kt ku fa fb _ (gTL x.f2) (gTL y.f2) (by kernel_rfl) (hF kF (Nat.le_refl _)) (hH kH (Nat.le_refl _)) (hg kg (Nat.le_refl _)) (hh kh (Nat.le_refl _)) (hs ks (Nat.le_refl _)) (ht kt (Nat.le_refl _)) hu'
end Go.Proofs.YtijmigapdcikpaaDoor.PDsm
