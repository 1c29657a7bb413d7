import Derived.Test.YtohmnlmeamkmjaaDoorZParApart1
import Derived.Test.YtohmnlmeamkmjaaDoorZParApart2
import Derived.Test.YtohmnlmeamkmjaaDoorZParApart3
namespace Go.Proofs.YtohmnlmeamkmjaaDoor.PParams
open Go.RowKit Go.Proofs.YtohmnlmeamkmjaaDoorW.PrintWords Go.Proofs.YtohmnlmeamkmjaaDoorW.PrintLast Go.Proofs.YtohmnlmeamkmjaaDoorW.PrintMore
attribute [local go_sem] max2_int min2_int max_two min_two max_three min_three max_four min_four
set_option linter.unusedVariables false
set_option linter.unusedSimpArgs false
def pyxlaw13_ParamsApart.Pure : Prop := ∀ (a0 : Int) (a1 : Int), (Lit.int .u8 a0).wf = true → (Lit.int .u8 a1).wf = true → ∃ k, pyxlaw13_ParamsApart.f k a0 a1 = some true
theorem pyxlaw13_ParamsApart.walk (P : pyxlaw13_ParamsApart.Pure) (a0 : Int) (a1 : Int) (w : World) (w0 : (Lit.int .u8 a0).wf = true) (w1 : (Lit.int .u8 a1).wf = true) (hG : GOK w) :
    Calls Tryd.prog 12 #[.int .u8 a0, .int .u8 a1] w fun e w' => e = .returned (.bool true) ∧ Below w.heap.size w w' := by
  obtain ⟨k, h⟩ := P a0 a1 w0 w1
  obtain ⟨i, hi, e⟩ : ∃ i : Nat, i < 25 ∧ wrap64 (1 + Int.tmod (wrap64 a0) 25) = ((i + 1 : Nat) : Int) := by
    have h9 : 0 ≤ a0 ∧ a0 < 256 := by
      have w9 := w0
      simp only [Lit.wf, Bool.and_eq_true, decide_eq_true_eq, show IntKind.u8.min = 0 from rfl, show IntKind.u8.max = 255 from rfl] at w9
      omega
    obtain ⟨h1, h2⟩ := h9
    refine ⟨(a0 % 25).toNat, by omega, ?_⟩
    have e1 : wrap64 a0 = a0 := by unfold wrap64; omega
    rw [e1, Int.tmod_eq_emod_of_nonneg h1]
    unfold wrap64
    omega
  have hx : ∀ x, params_Get.f k (wrap64 (1 + (Int.tmod (wrap64 (a0)) 25))) = some x → x = withB (prow (i + 1)) true := fun x hx => by
    rw [e] at hx
    obtain ⟨k', h1, h2⟩ := together (params_Get.mono _) (params_Get.mono _) ⟨k, hx⟩ ⟨60, get_row (i + 1) (by omega) (by omega)⟩
    exact Option.some.inj (h1.symm.trans h2)
  have hz : (prow (i + 1)).2.2.2.2.2.2.2.2.1 = 0 ∨ (prow (i + 1)).2.2.2.2.2.2.2.2.2 = 0 := by
    rcases (show i = 0 ∨ i = 1 ∨ i = 2 ∨ i = 3 ∨ i = 4 ∨ i = 5 ∨ i = 6 ∨ i = 7 ∨ i = 8 ∨ i = 9 ∨ i = 10 ∨ i = 11 ∨ i = 12 ∨ i = 13 ∨ i = 14 ∨ i = 15 ∨ i = 16 ∨ i = 17 ∨ i = 18 ∨ i = 19 ∨ i = 20 ∨ i = 21 ∨ i = 22 ∨ i = 23 ∨ i = 24 by omega) with rfl | rfl | rfl | rfl | rfl | rfl | rfl | rfl | rfl | rfl | rfl | rfl | rfl | rfl | rfl | rfl | rfl | rfl | rfl | rfl | rfl | rfl | rfl | rfl | rfl
    all_goals first | exact .inr rfl | exact .inl rfl
  have hcalls : Calls Tryd.prog 12 #[.int .u8 a0, .int .u8 a1] w fun e w' => e = .returned (.bool true) ∧ Below w.heap.size w w' := by
    by_cases z1 : (prow (i + 1)).2.2.2.2.2.2.2.2.1 = 0
    · by_cases z2 : (prow (i + 1)).2.2.2.2.2.2.2.2.2 = 0
      · exact pyxlaw13_ParamsApart.calls1 k a0 a1 true w h hG rfl (fun x h9 => by rw [hx x h9]; exact ⟨z1, z2⟩)
      · exact pyxlaw13_ParamsApart.calls2 k a0 a1 true w h hG rfl (fun x h9 => by rw [hx x h9]; exact ⟨z1, z2⟩)
    · exact pyxlaw13_ParamsApart.calls3 k a0 a1 true w h hG rfl (fun x h9 => by rw [hx x h9]; exact ⟨z1, hz.resolve_left z1⟩)
  refine hcalls.mono ?_
  rintro e w' ⟨rfl, hd⟩
  exact ⟨rfl, hd⟩
end Go.Proofs.YtohmnlmeamkmjaaDoor.PParams
