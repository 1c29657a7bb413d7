/- ParamsApart, the pure half. -/
import Derived.Test.YtohmnlmeamkmjaaDoorZPParamsx29
import Derived.Test.YtohmnlmeamkmjaaDoorZXPure
namespace Go.Proofs.YtohmnlmeamkmjaaDoor.Pure
open Go.RowKit Go.Proofs.YtohmnlmeamkmjaaDoor.PParams Go.Proofs.YtohmnlmeamkmjaaDoorW.PrintWords Go.Proofs.YtohmnlmeamkmjaaDoorW.PrintLast Go.Proofs.YtohmnlmeamkmjaaDoorW.PrintMore Go.Proofs.YtohmnlmeamkmjaaDoorW.Pu
def apB (A B : Int) : Option Bool := ((params_Get.f 64 A).bind fun bt407 => ((params_Get.f 64 B).bind fun bt421 => (if bt407.2.2.2.2.2.2.2.2.2.2 = true then (pyxlaw13_ParamsApart.j0 64 (!bt421.2.2.2.2.2.2.2.2.2.2) bt407.1 bt407.2.1 bt407.2.2.1 bt407.2.2.2.1 bt407.2.2.2.2.1 bt407.2.2.2.2.2.1 bt407.2.2.2.2.2.2.1 bt407.2.2.2.2.2.2.2.1 bt407.2.2.2.2.2.2.2.2.1 bt407.2.2.2.2.2.2.2.2.2.1 bt421.1 bt421.2.1 bt421.2.2.1 bt421.2.2.2.1 bt421.2.2.2.2.1 bt421.2.2.2.2.2.1 bt421.2.2.2.2.2.2.1 bt421.2.2.2.2.2.2.2.1 bt421.2.2.2.2.2.2.2.2.1 bt421.2.2.2.2.2.2.2.2.2.1) else (pyxlaw13_ParamsApart.j0 64 true bt407.1 bt407.2.1 bt407.2.2.1 bt407.2.2.2.1 bt407.2.2.2.2.1 bt407.2.2.2.2.2.1 bt407.2.2.2.2.2.2.1 bt407.2.2.2.2.2.2.2.1 bt407.2.2.2.2.2.2.2.2.1 bt407.2.2.2.2.2.2.2.2.2.1 bt421.1 bt421.2.1 bt421.2.2.1 bt421.2.2.2.1 bt421.2.2.2.2.1 bt421.2.2.2.2.2.1 bt421.2.2.2.2.2.2.1 bt421.2.2.2.2.2.2.2.1 bt421.2.2.2.2.2.2.2.2.1 bt421.2.2.2.2.2.2.2.2.2.1))))
def apI (i j : Nat) : Bool := match apB ((i + 1 : Nat) : Int) ((j + 1 : Nat) : Int) with | some true => true | _ => false
def apRow (i : Nat) : Bool := (List.range 25).all fun j => apI i j
theorem ap_of {i j : Nat} (hj : j < 25) (h : apRow i = true) : apB ((i + 1 : Nat) : Int) ((j + 1 : Nat) : Int) = some true := by
  have h2 := List.all_eq_true.1 h j (List.mem_range.2 hj)
  unfold apI at h2
  split at h2
  · assumption
  · cases h2
set_option maxRecDepth 100000 in
theorem ap_rows (i : Nat) (h : i < 25) : apRow i = true := by
  rcases (show i = 0 ∨ i = 1 ∨ i = 2 ∨ i = 3 ∨ i = 4 ∨ i = 5 ∨ i = 6 ∨ i = 7 ∨ i = 8 ∨ i = 9 ∨ i = 10 ∨ i = 11 ∨ i = 12 ∨ i = 13 ∨ i = 14 ∨ i = 15 ∨ i = 16 ∨ i = 17 ∨ i = 18 ∨ i = 19 ∨ i = 20 ∨ i = 21 ∨ i = 22 ∨ i = 23 ∨ i = 24 by omega) with rfl | rfl | rfl | rfl | rfl | rfl | rfl | rfl | rfl | rfl | rfl | rfl | rfl | rfl | rfl | rfl | rfl | rfl | rfl | rfl | rfl | rfl | rfl | rfl | rfl
  all_goals
    show _ = true
    kernel_rfl
theorem ap_alg {a : Int} (h : 0 ≤ a ∧ a < 256) : ∃ i : Nat, i < 25 ∧ wrap64 (1 + Int.tmod (wrap64 a) 25) = ((i + 1 : Nat) : Int) := by
  obtain ⟨h1, h2⟩ := h
  refine ⟨(a % 25).toNat, by omega, ?_⟩
  have e1 : wrap64 a = a := by unfold wrap64; omega
  rw [e1, Int.tmod_eq_emod_of_nonneg h1]
  unfold wrap64
  omega
theorem ParamsApart : pyxlaw13_ParamsApart.Pure := by
  intro a0 a1 h0 h1
  obtain ⟨i, hi, ei⟩ := ap_alg (wf_u8 h0)
  obtain ⟨j, hj, ej⟩ := ap_alg (wf_u8 h1)
  refine ⟨64, ?_⟩
  rw [pyxlaw13_ParamsApart.f, pyxlaw13_awake.eval, Option.bind_some, if_pos rfl, ei, ej]
  exact ap_of hj (ap_rows i hi)
end Go.Proofs.YtohmnlmeamkmjaaDoor.Pure
