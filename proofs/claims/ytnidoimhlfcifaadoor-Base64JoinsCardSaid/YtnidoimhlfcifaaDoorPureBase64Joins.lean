/- Base64Joins: no condition. -/
import Derived.Test.YtnidoimhlfcifaaDoorXB64d
namespace Go.Proofs.YtnidoimhlfcifaaDoor.Pure
open Go.RowKit Go.Proofs.YtnidoimhlfcifaaDoor.PB64 Go.Proofs.YtnidoimhlfcifaaDoorW.PrintWords Go.Proofs.YtnidoimhlfcifaaDoorW.PrintMore Go.Proofs.YtnidoimhlfcifaaDoorW.PrintLast Go.Proofs.YtnidoimhlfcifaaDoorW.Pu
set_option linter.unusedVariables false
theorem join_ev {a b : List Int} (h : a.length + b.length < 1000000) : Ev (fun k => pyxref01_Join.f k [a, b]) (a ++ b) := by
  have h2 : Ev (fun k => pyxref01_Join.l0 k [a, b] (a ++ b) ((2 : Nat) : Int)) (a ++ b) := Ev.last fun k => by rw [pyxref01_Join.l0, if_neg (by simp)]
  have h1 : Ev (fun k => pyxref01_Join.l0 k [a, b] a ((1 : Nat) : Int)) (a ++ b) := Ev.step' h2 fun k => by
    rw [pyxref01_Join.l0, if_pos (by simp), if_pos (by omega), show rd_L2 [a, b] ((1 : Nat) : Int) = b from rfl, if_pos (by omega), wsucc (by omega)]
  have h0 : Ev (fun k => pyxref01_Join.l0 k [a, b] [] ((0 : Nat) : Int)) (a ++ b) := Ev.step' h1 fun k => by
    rw [pyxref01_Join.l0, if_pos (by simp), if_pos (by omega), show rd_L2 [a, b] ((0 : Nat) : Int) = a from rfl, if_pos (by rw [List.length_nil]; omega), wsucc (by omega), List.nil_append]
  exact Ev.congr (fun k => rfl) h0
theorem Base64Joins : pyxlaw04_Base64Joins.Pure := by
  intro a l m ha _ hl hw _ hm hw2
  have hb : IsBytes l := fun x hx => wf_u8 (hw x hx)
  have hc : IsBytes m := fun x hx => wf_u8 (hw2 x hx)
  refine Ev.rounds (g := fun k => pyxlaw04_Base64Joins.f k a l m) ?_
  refine Ev.bind awake_ev (Ev.congr (fun k => if_pos rfl) ?_)
  have hA : Ev (fun k => pyxlaw04_Base64Joins.j0 k a l m true) true := Ev.step' (Ev.bind awake_ev (Ev.now true)) fun k => by rw [pyxlaw04_Base64Joins.j0, if_pos rfl]
  by_cases c1 : (l.length : Int) > 300
  · exact Ev.congr (fun k => by rw [if_pos c1]) hA
  refine Ev.congr (fun k => if_neg c1) ?_
  by_cases c2 : (m.length : Int) > 300
  · exact Ev.congr (fun k => by rw [if_pos c2]) hA
  refine Ev.congr (fun k => if_neg c2) ?_
  by_cases c3 : (l.length : Int) % 3 = 0
  · rw [show (((l.length : Int) % 3) != 0) = false by rw [c3]; rfl]
    have hj := join_ev (a := l) (b := m) (by omega)
    have hlm : IsBytes (l ++ m) := fun b hb' => by
      rcases List.mem_append.1 hb' with h | h
      · exact hb b h
      · exact hc b h
    refine Ev.step' (Ev.bind hj ?_) fun k => by rw [pyxlaw04_Base64Joins.j0, if_neg (by decide)]
    refine Ev.const' fun k => ?_
    by_cases h12 : a = 1 ∨ a = 2
    · have e1 := encN_len h12 hb
      have e2 := encN_len h12 hc
      rw [enc_ev h12 hlm (by rw [List.length_append]; omega), enc_ev h12 hb (by omega), enc_ev h12 hc (by omega), Option.bind_some, Option.bind_some, Option.bind_some]
      rw [if_pos (by rw [str_len, str_len, e1, e2]; split <;> omega), encN_append hb hc (by omega), str_append, beq_self_eq_true]
    · rw [enc_no (fun h => h12 (.inl h)) (fun h => h12 (.inr h)), enc_no (fun h => h12 (.inl h)) (fun h => h12 (.inr h)), enc_no (fun h => h12 (.inl h)) (fun h => h12 (.inr h)), Option.bind_some, Option.bind_some, Option.bind_some]
      rw [if_pos (by decide), show (⟨#[]⟩ : ByteArray) ++ ⟨#[]⟩ = ⟨#[]⟩ from bytes_ext (by rw [data_append]; rfl), beq_self_eq_true]
  · rw [show (((l.length : Int) % 3) != 0) = true by simpa using c3]
    exact hA

end Go.Proofs.YtnidoimhlfcifaaDoor.Pure
