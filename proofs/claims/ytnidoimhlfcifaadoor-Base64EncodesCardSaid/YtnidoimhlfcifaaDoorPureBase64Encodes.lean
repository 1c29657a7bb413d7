/- Base64Encodes: no condition. -/
import Derived.Test.YtnidoimhlfcifaaDoorXB64d
namespace Go.Proofs.YtnidoimhlfcifaaDoor.Pure
open Go.RowKit Go.Proofs.YtnidoimhlfcifaaDoor.PB64 Go.Proofs.YtnidoimhlfcifaaDoorW.PrintWords Go.Proofs.YtnidoimhlfcifaaDoorW.PrintMore Go.Proofs.YtnidoimhlfcifaaDoorW.PrintLast Go.Proofs.YtnidoimhlfcifaaDoorW.Pu
set_option linter.unusedVariables false
theorem length_eq {a : Int} (ha : a = 1 ∨ a = 2) {n : Nat} (hn : n ≤ 1000000) : base64_Length.f a (n : Int) = some (((if a = 1 then (n + 2) / 3 * 4 else (n * 4 + 2) / 3 : Nat)) : Int) := by
  unfold base64_Length.f
  rw [if_neg (by omega)]
  rcases ha with rfl | rfl
  · rw [if_pos rfl, if_pos rfl, w64 (x := (n : Int) + 2) (by omega) (by omega), tdiv_nn (by omega), w64 (x := _ / 3) (by omega) (by omega), w64 (by omega) (by omega)]
    rfl
  · rw [if_neg (by decide), if_pos rfl, if_neg (by decide), w64 (x := (n : Int) * 4) (by omega) (by omega), w64 (x := _ + 2) (by omega) (by omega), tdiv_nn (by omega), w64 (by omega) (by omega)]
    rfl
theorem Base64Encodes : pyxlaw04_Base64Encodes.Pure := by
  intro a l ha hm hl hw
  have hb : IsBytes l := fun x hx => wf_u8 (hw x hx)
  refine Ev.rounds (g := fun k => pyxlaw04_Base64Encodes.f k a l) ?_
  refine Ev.bind awake_ev (Ev.congr (fun k => if_pos rfl) ?_)
  by_cases c : (l.length : Int) > 500
  · rw [decide_eq_true c]
    exact Ev.step' (Ev.bind awake_ev (Ev.now true)) fun k => by rw [pyxlaw04_Base64Encodes.j0, if_pos rfl]
  · rw [decide_eq_false c]
    by_cases h12 : a = 1 ∨ a = 2
    · have g1 := enc_ev h12 hb (by omega)
      have g2 := renc_ev h12 hb (by omega)
      have hlen := encN_len h12 hb
      have hsz : (strOfNums (encN a l)).size ≤ 1000000000 := by
        rw [str_len, hlen]
        split <;> omega
      have g3 := decode_ev a (strOfNums (encN a l)) hsz
      rw [decS_enc h12 hb] at g3
      have g4 := same_ev l l (by omega)
      rw [decide_eq_true rfl] at g4
      have g5 : Ev (fun k => pyxlaw04_Base64Encodes.j1 k a l (strOfNums (encN a l)) false) true := by
        rcases h12 with rfl | rfl
        · refine Ev.step' ?_ fun k => by rw [pyxlaw04_Base64Encodes.j1, if_neg (by decide)]
          exact Ev.bind g3 (Ev.congr (fun k => by rw [if_pos rfl, if_pos rfl]) (Ev.bind g4 (Ev.now true)))
        · refine Ev.step' ?_ fun k => by rw [pyxlaw04_Base64Encodes.j1, if_neg (by decide)]
          exact Ev.bind g3 (Ev.congr (fun k => by rw [if_neg (by decide), if_pos rfl, if_pos rfl]) (Ev.bind g4 (Ev.now true)))
      have e : (((strOfNums (encN a l)).size : Int) != (((if a = 1 then (l.length + 2) / 3 * 4 else (l.length * 4 + 2) / 3 : Nat)) : Int)) = false := by
        rw [str_len, hlen]; simp
      have g6 : Ev (fun k => (pyxref04_Encode.f k a l).bind fun t184 => (if (strOfNums (encN a l)).toList = t184.toList then ((base64_Length.f a (l.length : Int)).bind fun t185 => (pyxlaw04_Base64Encodes.j1 k a l (strOfNums (encN a l)) (((strOfNums (encN a l)).size : Int) != t185))) else (pyxlaw04_Base64Encodes.j1 k a l (strOfNums (encN a l)) true))) true :=
        Ev.bind g2 (Ev.congr (fun k => by rw [if_pos rfl, length_eq h12 (by omega), Option.bind_some, e]) g5)
      exact Ev.step' g6 fun k => by rw [pyxlaw04_Base64Encodes.j0, if_neg (by decide), g1, Option.bind_some]
    · have n1 : a ≠ 1 := fun h => h12 (.inl h)
      have n2 : a ≠ 2 := fun h => h12 (.inr h)
      have g1 := enc_no n1 n2 l
      have g2 := renc_no n1 n2 hb (by omega)
      have g3 := decode_ev a ⟨#[]⟩ (by decide)
      rw [decS_no n1 n2] at g3
      have g5 : Ev (fun k => pyxlaw04_Base64Encodes.j1 k a l ⟨#[]⟩ false) true :=
by
        refine Ev.step' ?_ fun k => by rw [pyxlaw04_Base64Encodes.j1, if_neg (by decide)]
        exact Ev.bind g3 (Ev.const' (r := true) fun k => by rw [if_neg n1, if_neg n2, if_neg (by decide)]; rfl)
      have hL : base64_Length.f a (l.length : Int) = some 0 := by
        unfold base64_Length.f
        rw [if_neg (by omega), if_neg n1, if_neg n2]
      have g6 : Ev (fun k => (pyxref04_Encode.f k a l).bind fun t184 => (if (⟨#[]⟩ : ByteArray).toList = t184.toList then ((base64_Length.f a (l.length : Int)).bind fun t185 => (pyxlaw04_Base64Encodes.j1 k a l ⟨#[]⟩ ((((⟨#[]⟩ : ByteArray)).size : Int) != t185))) else (pyxlaw04_Base64Encodes.j1 k a l ⟨#[]⟩ true))) true :=
        Ev.bind g2 (Ev.congr (fun k => by rw [if_pos rfl, hL, Option.bind_some]; rfl) g5)
      exact Ev.step' g6 fun k => by rw [pyxlaw04_Base64Encodes.j0, if_neg (by decide), g1, Option.bind_some]

end Go.Proofs.YtnidoimhlfcifaaDoor.Pure
