/- Base64Digits: no condition. -/
import Derived.Test.YtnidoimhlfcifaaDoorXB64d
namespace Go.Proofs.YtnidoimhlfcifaaDoor.Pure
open Go.RowKit Go.Proofs.YtnidoimhlfcifaaDoor.PB64 Go.Proofs.YtnidoimhlfcifaaDoorW.PrintWords Go.Proofs.YtnidoimhlfcifaaDoorW.PrintMore Go.Proofs.YtnidoimhlfcifaaDoorW.PrintLast Go.Proofs.YtnidoimhlfcifaaDoorW.Pu
set_option linter.unusedVariables false
theorem Base64Digits : pyxlaw04_Base64Digits.Pure := by
  intro a v c ha hv hc
  have hc' := wf_u8 hc
  refine Ev.rounds (g := fun k => pyxlaw04_Base64Digits.f k a v c) ?_
  refine Ev.bind awake_ev (Ev.congr (fun k => if_pos rfl) ?_)
  have h1 := rvalue_ev a c hc'.1 hc'.2
  have h2 := rdigit_ev a v
  have hd : (decide (0 ≤ v ∧ v < ((tb a).size : Int)) == (dig a v != 0)) = true := by
    unfold dig
    by_cases g : 0 ≤ v ∧ v < ((tb a).size : Int)
    · rw [decide_eq_true g, if_pos g]
      have h12 : a = 1 ∨ a = 2 := by
        by_cases n1 : a = 1
        · exact .inl n1
        · by_cases n2 : a = 2
          · exact .inr n2
          · rw [tb_no n1 n2] at g
            have : (⟨#[]⟩ : ByteArray).size = 0 := rfl
            rw [this] at g
            omega
      have h3 := (vof_dig h12 g.1 (by rw [tb_size h12] at g; omega)).2.2
      simpa using h3
    · rw [decide_eq_false g, if_neg g]; rfl
  refine Ev.congr (fun k => by rw [digit_eq, Option.bind_some, value_eq, Option.bind_some]) (Ev.bind h1 (Ev.bind h2 (Ev.const' (r := true) fun k => ?_)))
  rw [if_pos rfl, if_pos hd, if_pos (by simp), beq_self_eq_true]

end Go.Proofs.YtnidoimhlfcifaaDoor.Pure
