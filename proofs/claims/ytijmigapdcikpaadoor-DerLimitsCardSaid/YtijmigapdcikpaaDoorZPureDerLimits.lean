/- DerLimits: the pure half. -/
import Derived.Test.YtijmigapdcikpaaDoorZPDerx14
import Derived.Test.YtijmigapdcikpaaDoorZXDer4
import Derived.KernelRfl
namespace Go.Proofs.YtijmigapdcikpaaDoor.Pure
open Go.RowKit Go.Proofs.YtijmigapdcikpaaDoor.PDer Go.Proofs.YtijmigapdcikpaaDoorW.PrintWords Go.Proofs.YtijmigapdcikpaaDoorW.PrintLast Go.Proofs.YtijmigapdcikpaaDoorW.PrintMore Go.Proofs.YtijmigapdcikpaaDoorW.Pu
theorem pick (n i : Int) (hn : 0 ≤ n ∧ n < 3000) (h0 : 0 ≤ i) (h1 : i < 9) : ∃ N, rd [127, 128, 255, 256, 65535, 65536, 1048571, 1048572, n] i = N ∧ 0 ≤ N ∧ N ≤ 1048572 := by
  have : i = 0 ∨ i = 1 ∨ i = 2 ∨ i = 3 ∨ i = 4 ∨ i = 5 ∨ i = 6 ∨ i = 7 ∨ i = 8 := by omega
  rcases this with rfl | rfl | rfl | rfl | rfl | rfl | rfl | rfl | rfl
  · exact ⟨127, rfl, by decide⟩
  · exact ⟨128, rfl, by decide⟩
  · exact ⟨255, rfl, by decide⟩
  · exact ⟨256, rfl, by decide⟩
  · exact ⟨65535, rfl, by decide⟩
  · exact ⟨65536, rfl, by decide⟩
  · exact ⟨1048571, rfl, by decide⟩
  · exact ⟨1048572, rfl, by decide⟩
  · exact ⟨n, rfl, by omega⟩
theorem DerLimits : pyxlaw08_DerLimits.Pure := by
  intro a0 a1 h0 h1
  have b0 := wf_u32 h0
  have b1 := wf_u8 h1
  refine ⟨64, ?_⟩
  unfold pyxlaw08_DerLimits.f
  rw [pyxlaw08_awake.eval, Option.bind_some, if_pos rfl, Option.bind_some, w64 (x := a0) (by omega) (by omega), w64 (x := a1) (by omega) (by omega), Int.tmod_eq_emod_of_nonneg b0.1, Int.tmod_eq_emod_of_nonneg b1.1, if_pos (by omega), if_pos (by simp; omega)]
  obtain ⟨N, hN, n0, n1⟩ := pick (a0 % 3000) (a1 % 9) (by omega) (by omega) (by omega)
  rw [hN, if_pos n0, if_pos (by omega), Option.bind_some]
  obtain ⟨m, rfl⟩ := Int.eq_ofNat_of_zero_le n0
  rw [Int.toNat_natCast]
  have hl : (List.replicate m (0 : Int)).length = m := by simp
  have hb : ∀ x ∈ List.replicate m (0 : Int), 0 ≤ x ∧ x < 256 := fun x hx => by rw [List.eq_of_mem_replicate hx]; omega
  generalize List.replicate m (0 : Int) = L at hl hb ⊢
  subst hl
  have hq := hdr_len (L.length : Int)
  have hv := leaf_valid L (by omega)
  have he := leaf_enc L (by omega)
  by_cases c : (L.length : Int) > 1048571
  · have e1 : (L.length : Int) = 1048572 := by omega
    have hv2 : der_Valid.f 64 4 L [] = some false := by
      rw [hv, e1]
      rfl
    have hen : der_Encode.f 64 4 L [] = some ([], some (.code 12)) := by
      unfold der_Encode.f
      rw [hv2]
      rfl
    have hpz : ∀ Z : List Int, Z.length = 1048577 → der_Parse.f 64 Z = some (0, [], [], some (.fault 1 1048576)) := by
      intro Z hz
      unfold der_Parse.f
      rw [if_pos (by omega)]
    rw [hen, Option.bind_some, if_pos c, if_pos (by decide), hpz _ (by rw [List.length_replicate]), Option.bind_some]
    dsimp only
    rw [if_pos (by simp), show pyxlaw08_code.f (some (E.code 12)) = some 12 by kernel_rfl, Option.bind_some, if_pos rfl, hv2, Option.bind_some, if_neg (by decide)]
    show (Option.bind (pyxlaw08_told.f (some (E.fault 1 1048576)) 1 1048576) fun t => some t) = some true
    kernel_rfl
  · have hs : (L.length : Int) + 1 + ((hdr (L.length : Int)).length : Int) ≤ 1048576 := by omega
    have hv2 : der_Valid.f 64 4 L [] = some true := by rw [hv, decide_eq_true hs]
    have hen : der_Encode.f 64 4 L [] = some (4 :: (hdr (L.length : Int) ++ L), none) := by
      unfold der_Encode.f
      rw [hv2, he]
      rfl
    have hp := leaf_parse L hb (by omega)
    obtain ⟨T, ht, htl⟩ := text_len 56 4 L (by omega)
    rw [hen, Option.bind_some, if_neg c]
    dsimp only
    rw [hp, Option.bind_some, if_pos (show (none : Option E).isNone = true from rfl), ht, Option.bind_some, if_pos (show ((4 :: (hdr (L.length : Int) ++ L)).length : Int) = (T.length : Int) by rw [htl]; simp; omega)]
    dsimp only
    rw [if_pos (show (none : Option E).isNone = true from rfl), if_pos rfl]
    rfl
end Go.Proofs.YtijmigapdcikpaaDoor.Pure
