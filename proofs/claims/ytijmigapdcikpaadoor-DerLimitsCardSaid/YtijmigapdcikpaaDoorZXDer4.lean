/- der: leaves that are encoded and read again; plain lemmas, no condition. -/
import Derived.Test.YtijmigapdcikpaaDoorZXDer3
namespace Go.Proofs.YtijmigapdcikpaaDoor.PDer
open Go.RowKit Go.Proofs.YtijmigapdcikpaaDoorW.PrintWords Go.Proofs.YtijmigapdcikpaaDoorW.PrintLast Go.Proofs.YtijmigapdcikpaaDoorW.PrintMore Go.Proofs.YtijmigapdcikpaaDoorW.Pu
set_option linter.unusedVariables false
set_option linter.unusedSimpArgs false
theorem hdr_len (n : Int) : 1 ≤ (hdr n).length ∧ (hdr n).length ≤ 4 := by
  unfold hdr
  by_cases c1 : n < 128
  · rw [if_pos c1]; simp
  rw [if_neg c1]
  by_cases c2 : n < 256
  · rw [if_pos c2]; simp
  rw [if_neg c2]
  by_cases c3 : n < 65536
  · rw [if_pos c3]; simp
  · rw [if_neg c3]; simp
theorem hdr_bytes (n : Int) (h0 : 0 ≤ n) : ∀ x ∈ hdr n, 0 ≤ x ∧ x < 256 := by
  intro x hx
  unfold hdr at hx
  by_cases c1 : n < 128
  · rw [if_pos c1] at hx; simp at hx; omega
  rw [if_neg c1] at hx
  by_cases c2 : n < 256
  · rw [if_pos c2] at hx; simp at hx; omega
  rw [if_neg c2] at hx
  by_cases c3 : n < 65536
  · rw [if_pos c3] at hx; simp at hx; omega
  · rw [if_neg c3] at hx; simp at hx; omega
theorem hdr_read (t n : Int) (C : List Int) (h0 : 0 ≤ n) (h1 : n < 16777216) (e : Int) (he : e = 1 + ((hdr n).length : Int) + (C.length : Int)) : lenR (t :: (hdr n ++ C)) 1 e = .inr (n, 1 + ((hdr n).length : Int)) := by
  unfold hdr at he ⊢
  by_cases c1 : n < 128
  · rw [if_pos c1] at he ⊢
    have r1 : rd (t :: ([n] ++ C)) 1 = n := rfl
    unfold lenR
    rw [r1, if_neg (by simp at he; omega), if_pos c1]
    rfl
  rw [if_neg c1] at he ⊢
  by_cases c2 : n < 256
  · rw [if_pos c2] at he ⊢
    have r1 : rd (t :: ([129, n % 256] ++ C)) 1 = 129 := rfl
    have r2 : rd (t :: ([129, n % 256] ++ C)) (1 + 1) = n % 256 := rfl
    unfold lenR
    rw [r1, r2, if_neg (by simp at he; omega), if_neg (by decide), if_neg (by decide), if_pos rfl, if_neg (by simp at he; omega), if_neg (by omega), show n % 256 = n by omega]
    rfl
  rw [if_neg c2] at he ⊢
  by_cases c3 : n < 65536
  · rw [if_pos c3] at he ⊢
    have r1 : rd (t :: ([130, n / 256 % 256, n % 256] ++ C)) 1 = 130 := rfl
    have r2 : rd (t :: ([130, n / 256 % 256, n % 256] ++ C)) (1 + 1) = n / 256 % 256 := rfl
    have r3 : rd (t :: ([130, n / 256 % 256, n % 256] ++ C)) (1 + 2) = n % 256 := rfl
    unfold lenR
    rw [r1, r2, r3, if_neg (by simp at he; omega), if_neg (by decide), if_neg (by decide), if_neg (by decide), if_pos rfl, if_neg (by simp at he; omega), if_neg (by omega), show n / 256 % 256 * 256 + n % 256 = n by omega]
    rfl
  · rw [if_neg c3] at he ⊢
    have r1 : rd (t :: ([131, n / 65536 % 256, n / 256 % 256, n % 256] ++ C)) 1 = 131 := rfl
    have r2 : rd (t :: ([131, n / 65536 % 256, n / 256 % 256, n % 256] ++ C)) (1 + 1) = n / 65536 % 256 := rfl
    have r3 : rd (t :: ([131, n / 65536 % 256, n / 256 % 256, n % 256] ++ C)) (1 + 2) = n / 256 % 256 := rfl
    have r4 : rd (t :: ([131, n / 65536 % 256, n / 256 % 256, n % 256] ++ C)) (1 + 3) = n % 256 := rfl
    unfold lenR
    rw [r1, r2, r3, r4, if_neg (by simp at he; omega), if_neg (by decide), if_neg (by decide), if_neg (by decide), if_neg (by decide), if_neg (by simp at he; omega), if_neg (by omega), show (n / 65536 % 256 * 256 + n / 256 % 256) * 256 + n % 256 = n by omega]
    rfl
theorem leaf_enc (L : List Int) (h : L.length < 16777216) : encM 64 4 L [] = some (4 :: (hdr (L.length : Int) ++ L)) :=
  enc_of 63 4 L [] L (by decide) (by omega) (by decide) rfl h
theorem leaf_valid (L : List Int) (h : L.length < 16777216) : der_Valid.f 64 4 L [] = some (decide ((L.length : Int) + 1 + ((hdr (L.length : Int)).length : Int) ≤ 1048576)) := by
  unfold der_Valid.f
  rw [show der_Depth.f 64 4 L [] = some 1 by rw [der_Depth.f, der_Depth.l0, if_neg (by simp)]; kernel_rfl, Option.bind_some, if_pos (by decide), show der_shaped.f 64 4 L [] = some true by rw [der_shaped.f, if_pos (by simp), show der_right.f 4 = some true by kernel_rfl, Option.bind_some, if_pos rfl, show der_composed.f 4 = some false by kernel_rfl, Option.bind_some, if_neg (by decide), if_neg (by simp)]; rfl, Option.bind_some, if_pos rfl]
  rw [show der_size.f 64 4 L [] = der_size.l0 63 (L.length : Int) ([] : List S26) (([] : List S26).length : Int) 0 by rw [der_size.f], size_of 62 _ (by decide) (by omega) (by omega) [] 0 (by simp)]
  rfl
theorem leaf_parse (L : List Int) (hb : ∀ x ∈ L, 0 ≤ x ∧ x < 256) (h : L.length + 1 + (hdr (L.length : Int)).length ≤ 1048576) : der_Parse.f 64 (4 :: (hdr (L.length : Int) ++ L)) = some (4, L, [], none) := by
  have hlen : ((4 :: (hdr (L.length : Int) ++ L)).length : Int) = 1 + ((hdr (L.length : Int)).length : Int) + (L.length : Int) := by simp; omega
  have hE : ∀ x ∈ (4 :: (hdr (L.length : Int) ++ L)), 0 ≤ x ∧ x < 256 := by
    intro x hx
    rcases List.mem_cons.1 hx with rfl | hx
    · omega
    rcases List.mem_append.1 hx with hx | hx
    · exact hdr_bytes _ (by omega) x hx
    · exact hb x hx
  have hr := hdr_read 4 (L.length : Int) L (by omega) (by omega) _ hlen
  have hq := hdr_len (L.length : Int)
  obtain ⟨q, hp⟩ := prog_len (4 :: (hdr (L.length : Int) ++ L)) 1 _ hE (by decide) (Int.le_refl _) (by omega) 54
  rw [hr] at hp
  replace hp : der_reader_length.f 63 (4 :: (hdr (L.length : Int) ++ L)) 1 ((4 :: (hdr (L.length : Int) ++ L)).length : Int) = some ((L.length : Int), none, 1 + ((hdr (L.length : Int)).length : Int)) := hp
  unfold der_Parse.f
  rw [if_neg (by omega), nodeM, if_neg (by omega), if_pos (by omega), show rd (4 :: (hdr (L.length : Int) ++ L)) 0 = 4 from rfl, show der_right.f 4 = some true by kernel_rfl, Option.bind_some, if_neg (by decide), if_neg (by decide), show (0 : Int) + 1 = 1 from rfl, hp, Option.bind_some]
  dsimp only
  rw [if_neg (show ¬ ((none : Option E).isSome = true) by simp), if_pos (by omega), if_neg (by omega), show der_composed.f 4 = some false by kernel_rfl, Option.bind_some, if_pos rfl, Option.bind_some]
  dsimp only
  rw [if_neg (show ¬ ((none : Option E).isSome = true) by simp), if_neg (by omega)]
  have hd : ((4 :: (hdr (L.length : Int) ++ L)).drop (1 + ((hdr (L.length : Int)).length : Int)).toNat).take (L.length : Int).toNat = L := by
    rw [show (1 + ((hdr (L.length : Int)).length : Int)).toNat = (hdr (L.length : Int)).length + 1 by omega, List.drop_succ_cons, List.drop_left, Int.toNat_natCast, List.take_length]
  rw [hd]
end Go.Proofs.YtijmigapdcikpaaDoor.PDer
