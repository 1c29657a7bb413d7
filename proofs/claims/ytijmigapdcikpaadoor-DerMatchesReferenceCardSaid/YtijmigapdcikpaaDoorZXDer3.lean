/- der: leaves: their encoding, validity and reading; plain lemmas, no condition. -/
import Derived.Test.YtijmigapdcikpaaDoorZPDerx14
import Derived.Test.YtijmigapdcikpaaDoorZXDer2
namespace Go.Proofs.YtijmigapdcikpaaDoor.PDer
open Go.RowKit Go.Proofs.YtijmigapdcikpaaDoorW.PrintWords Go.Proofs.YtijmigapdcikpaaDoorW.PrintLast Go.Proofs.YtijmigapdcikpaaDoorW.PrintMore Go.Proofs.YtijmigapdcikpaaDoorW.Pu
set_option linter.unusedVariables false
set_option linter.unusedSimpArgs false
def hdr (n : Int) : List Int := if n < 128 then [n] else if n < 256 then [129, n % 256] else if n < 65536 then [130, n / 256 % 256, n % 256] else [131, n / 65536 % 256, n / 256 % 256, n % 256]
theorem enc_of (k : Nat) (t : Int) (l1 : List Int) (l2 : List (S26)) (C : List Int) (hk : 3 ≤ k) (h1 : l1.length < 1000000000) (h2 : l2.length < 1000000000) (hC : contE k l2 l1 = some C) (hl : C.length < 16777216) :
    encM (k + 1) t l1 l2 = some (t :: (hdr (C.length : Int) ++ C)) := by
  rw [encM, if_pos ⟨h1, h2⟩, hC, Option.bind_some]
  unfold hdr
  by_cases c1 : C.length < 128
  · rw [if_pos c1, if_pos (by omega)]
    rfl
  rw [if_neg c1, if_neg (show ¬ (C.length : Int) < 128 by omega), if_pos (by omega), width_at _ (by omega) (by omega) hk, Option.bind_some]
  unfold wid
  by_cases c2 : (C.length : Int) < 256
  · rw [if_pos c2, if_pos c2, if_pos rfl]
    rfl
  rw [if_neg c2, if_neg c2]
  by_cases c3 : (C.length : Int) < 65536
  · rw [if_pos c3, if_pos c3, if_neg (by decide), if_pos rfl]
    rfl
  · rw [if_neg c3, if_neg c3, if_neg (by decide), if_neg (by decide), if_pos rfl]
    rfl
theorem size_of (k : Nat) (n : Int) (hk : 3 ≤ k) (h0 : 0 ≤ n) (h1 : n < 16777216) (l : List (S26)) (i : Int) (hi : (l.length : Int) ≤ i) : der_size.l0 (k + 1) n l (l.length : Int) i = some (n + 1 + ((hdr n).length : Int)) := by
  rw [der_size.l0, if_neg (show ¬ i < (l.length : Int) by omega), w64 (x := n + 2) (by omega) (by omega)]
  unfold hdr
  by_cases c1 : n < 128
  · rw [if_pos c1, if_pos c1]
    exact congrArg some (by simp; omega)
  rw [if_neg c1, if_neg c1, width_at n (by omega) h1 hk, Option.bind_some]
  unfold wid
  by_cases c2 : n < 256
  · rw [if_pos c2, if_pos c2, w64 (by omega) (by omega)]
    exact congrArg some (by simp; omega)
  rw [if_neg c2, if_neg c2]
  by_cases c3 : n < 65536
  · rw [if_pos c3, if_pos c3, w64 (by omega) (by omega)]
    exact congrArg some (by simp; omega)
  · rw [if_neg c3, if_neg c3, w64 (by omega) (by omega)]
    exact congrArg some (by simp; omega)
def digs (n : Int) : List Int := if n < 256 then [n] else if n < 65536 then [n / 256, n % 256] else [n / 65536, n / 256 % 256, n % 256]
theorem num_step (k : Nat) (x : Int) (acc : List Int) (h0 : 0 < x) (h1 : x < 16777216) (ha : acc.length < 1000) : pyxref08_Number.l0 (k + 1) x acc = pyxref08_Number.l0 k (x / 256) (x % 256 :: acc) := by
  rw [pyxref08_Number.l0, if_pos h0, Option.bind_some, if_pos (by simp; omega), Int.tmod_eq_emod_of_nonneg (by omega), Int.tdiv_eq_ediv_of_nonneg (by omega), w64 (x := x / 256) (by omega) (by omega)]
  rw [show x % 256 % 256 = x % 256 by omega]
  rfl
theorem num_end (k : Nat) (x : Int) (acc : List Int) (h0 : x ≤ 0) : pyxref08_Number.l0 (k + 1) x acc = some acc := by
  rw [pyxref08_Number.l0, if_neg (by omega)]
theorem num_eq (k : Nat) (n : Int) (h0 : 0 < n) (h1 : n < 16777216) : pyxref08_Number.f (k + 4) n = some (digs n) := by
  unfold pyxref08_Number.f digs
  rw [num_step _ _ _ h0 h1 (by simp)]
  by_cases c1 : n < 256
  · rw [if_pos c1, num_end _ _ _ (by omega), show n % 256 = n by omega]
  rw [if_neg c1, num_step _ _ _ (by omega) (by omega) (by simp)]
  by_cases c2 : n < 65536
  · rw [if_pos c2, num_end _ _ _ (by omega), show n / 256 % 256 = n / 256 by omega]
  rw [if_neg c2, num_step _ _ _ (by omega) (by omega) (by simp), num_end _ _ _ (by omega), show n / 256 / 256 % 256 = n / 65536 by omega]
theorem digs_len (n : Int) (h0 : 0 < n) : ((digs n).length : Int) = wid n := by
  unfold digs wid
  by_cases c1 : n < 256
  · rw [if_pos c1, if_pos c1]; rfl
  rw [if_neg c1, if_neg c1]
  by_cases c2 : n < 65536
  · rw [if_pos c2, if_pos c2]; rfl
  · rw [if_neg c2, if_neg c2]; rfl
end Go.Proofs.YtijmigapdcikpaaDoor.PDer
