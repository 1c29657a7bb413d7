/- Base64Changes: no condition. -/
import Derived.Test.YtnidoimhlfcifaaDoorXB64d
namespace Go.Proofs.YtnidoimhlfcifaaDoor.Pure
open Go.RowKit Go.Proofs.YtnidoimhlfcifaaDoor.PB64 Go.Proofs.YtnidoimhlfcifaaDoorW.PrintWords Go.Proofs.YtnidoimhlfcifaaDoorW.PrintMore Go.Proofs.YtnidoimhlfcifaaDoorW.PrintLast Go.Proofs.YtnidoimhlfcifaaDoorW.Pu
set_option linter.unusedVariables false
theorem rest_ev {a : Int} {l : List Int} (hl : l.length ≤ 300) {s : ByteArray} (hs : s = strOfNums (encN a l)) {t u : ByteArray} (ht : t.size ≤ 1000000) (hu : u.size ≤ 1000000) (hne : u ≠ s) :
    Ev (fun k => (base64_Decode.f k a t).bind fun bt221 => ((base64_Decode.f k a u).bind fun bt228 => (if t.toList = s.toList then (if bt228.2 = true then ((pyxref01_Same.f k bt228.1 l).bind fun t232 => (some (!t232))) else (some true)) else (if bt221.2 = true then ((pyxref01_Same.f k bt221.1 l).bind fun t233 => (if t233 = true then (some false) else (if bt228.2 = true then ((pyxref01_Same.f k bt228.1 l).bind fun t234 => (some (!t234))) else (some true)))) else (if bt228.2 = true then ((pyxref01_Same.f k bt228.1 l).bind fun t235 => (some (!t235))) else (some true)))))) true := by
  have bt := decS_bytes a t
  have bu := decS_bytes a u
  refine Ev.bind (decode_ev a t (by omega)) (Ev.bind (decode_ev a u (by omega)) ?_)
  have tail : Ev (fun k => if (decS a u).2 = true then ((pyxref01_Same.f k (decS a u).1 l).bind fun t232 => (some (!t232))) else (some true)) true := by
    by_cases d : (decS a u).2 = true
    · have h := same_ev (decS a u).1 l (by omega)
      rw [decide_eq_false (decS_other (hs ▸ hne) d)] at h
      exact Ev.congr (fun k => by rw [if_pos d]) (Ev.bind h (Ev.now true))
    · exact Ev.const' fun k => by rw [if_neg d]
  by_cases e : t.toList = s.toList
  · exact Ev.congr (fun k => by rw [if_pos e]) tail
  · refine Ev.congr (fun k => if_neg e) ?_
    by_cases d : (decS a t).2 = true
    · have h := same_ev (decS a t).1 l (by omega)
      rw [decide_eq_false (decS_other (fun h' => e ((toList_iff _ _).2 (h'.trans hs.symm))) d)] at h
      exact Ev.congr (fun k => by rw [if_pos d]) (Ev.bind h (Ev.congr (fun k => by rw [if_neg (by decide)]) tail))
    · exact Ev.congr (fun k => by rw [if_neg d]) tail
theorem Base64Changes : pyxlaw04_Base64Changes.Pure := by
  intro a l x2 x3 ha _ hl hw hx2 hx3
  have hb : IsBytes l := fun x hx => wf_u8 (hw x hx)
  have h2 := wf_u16 hx2
  have h3 := wf_u8 hx3
  refine Ev.rounds (g := fun k => pyxlaw04_Base64Changes.f k a l x2 x3) ?_
  refine Ev.bind awake_ev (Ev.congr (fun k => if_pos rfl) ?_)
  have hA : Ev (fun k => pyxlaw04_Base64Changes.j0 k a l x2 x3 true) true := Ev.step' (Ev.bind awake_ev (Ev.now true)) fun k => by rw [pyxlaw04_Base64Changes.j0, if_pos rfl]
  by_cases c1 : (l.length : Int) > 300
  · exact Ev.congr (fun k => by rw [if_pos c1]) hA
  refine Ev.congr (fun k => if_neg c1) ?_
  by_cases c2 : (l.length : Int) = 0
  · exact Ev.congr (fun k => by rw [if_pos c2]) hA
  refine Ev.congr (fun k => if_neg c2) ?_
  by_cases h12 : a = 1 ∨ a = 2
  · have key : Ev (fun k => pyxlaw04_Base64Changes.j0 k a l x2 x3 false) true := by
      have g1 := enc_ev h12 hb (by omega)
      have g2 := renc_ev h12 hb (by omega)
      have hlen := encN_len h12 hb
      have hpos : 1 ≤ (strOfNums (encN a l)).size ∧ (strOfNums (encN a l)).size ≤ 1000 := by
        rw [str_len, hlen]
        split <;> omega
      generalize hS : strOfNums (encN a l) = S at *
      have e0 : wrap64 x2 = x2 := w64 (by omega) (by omega)
      have e1 : Int.tmod x2 (S.size : Int) = x2 % (S.size : Int) := tmod_nn h2.1
      have e2 : 0 ≤ x2 % (S.size : Int) ∧ x2 % (S.size : Int) < (S.size : Int) := ⟨Int.emod_nonneg _ (by omega), Int.emod_lt_of_pos _ (by omega)⟩
      generalize hi : x2 % (S.size : Int) = i at *
      have e3 : wrap64 (i + 1) = i + 1 := w64 (by omega) (by omega)
      have z1 : (strOfNums [x3]).size = 1 := by rw [str_len]; rfl
      have z2 : (S.extract 0 i.toNat).size ≤ S.size := by rw [ByteArray.size_extract]; omega
      have z3 : (S.extract (i + 1).toNat S.size).size ≤ S.size := by rw [ByteArray.size_extract]; omega
      have z4 : ((S.extract 0 i.toNat) ++ (strOfNums [x3])).size ≤ S.size + 1 := by rw [ByteArray.size_append, z1]; omega
      have r := rest_ev (a := a) (l := l) (by omega) (s := S) hS.symm (t := (S.extract 0 i.toNat) ++ (strOfNums [x3]) ++ (S.extract (i + 1).toNat S.size)) (u := S ++ strOfNums [x3]) (by rw [ByteArray.size_append]; omega) (by rw [ByteArray.size_append]; omega) (ne_of_append (by omega))
      have r2 : Ev (fun k => (base64_Decode.f k a ((S.extract 0 i.toNat) ++ (strOfNums [x3]) ++ (S.extract (i + 1).toNat S.size))).bind fun bt221 => ((some (([x3] : List Int) : List Int)).bind fun y225 => (if S.size + (strOfNums y225).size ≤ 9223372036854775807 then ((base64_Decode.f k a (S ++ (strOfNums y225))).bind fun bt228 => (if ((S.extract 0 i.toNat) ++ (strOfNums [x3]) ++ (S.extract (i + 1).toNat S.size)).toList = S.toList then (if bt228.2 = true then ((pyxref01_Same.f k bt228.1 l).bind fun t232 => (some (!t232))) else (some true)) else (if bt221.2 = true then ((pyxref01_Same.f k bt221.1 l).bind fun t233 => (if t233 = true then (some false) else (if bt228.2 = true then ((pyxref01_Same.f k bt228.1 l).bind fun t234 => (some (!t234))) else (some true)))) else (if bt228.2 = true then ((pyxref01_Same.f k bt228.1 l).bind fun t235 => (some (!t235))) else (some true))))) else none))) true := by
        refine Ev.congr (fun k => ?_) r
        simp only [Option.bind_some, z1, if_pos (show S.size + 1 ≤ 9223372036854775807 by omega)]
      refine Ev.step' (Ev.bind g2 (Ev.congr (fun k => ?_) r2)) fun k => by rw [pyxlaw04_Base64Changes.j0, if_neg (by decide), g1, Option.bind_some]
      rw [if_pos rfl, if_neg (by omega), e0, e1, if_pos (by omega), if_pos (by omega), Option.bind_some, if_pos (by omega), e3, if_pos (by omega), if_pos (by omega), if_pos (by omega)]
    rcases h12 with rfl | rfl
    · exact Ev.congr (fun k => by rw [if_pos rfl]) key
    · exact Ev.congr (fun k => by rw [if_neg (by decide)]; rfl) key
  · have n1 : a ≠ 1 := fun h => h12 (.inl h)
    have n2 : a ≠ 2 := fun h => h12 (.inr h)
    refine Ev.congr (fun k => ?_) hA
    rw [if_neg n1, show (a != 2) = true from bne_iff_ne.2 n2]

end Go.Proofs.YtnidoimhlfcifaaDoor.Pure
