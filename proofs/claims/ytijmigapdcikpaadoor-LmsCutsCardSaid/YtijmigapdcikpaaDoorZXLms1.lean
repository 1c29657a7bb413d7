/- Heights, chains and sizes: the layer's and the reference's. -/
import Derived.Test.YtijmigapdcikpaaDoorZPLmsx14
import Derived.Test.YtijmigapdcikpaaDoorZPLmsx7
namespace Go.Proofs.YtijmigapdcikpaaDoor.PLms
open Go.RowKit
theorem w64_ {x : Int} (h0 : 0 ≤ x) (h1 : x < 9000000000000000000) : wrap64 x = x := by unfold wrap64; omega
theorem rheight (t : Int) : pyxref21_Height.f t = some (hgt t).1 := by
  unfold pyxref21_Height.f hgt
  by_cases a : t < 5
  · rw [if_pos a, if_neg (by omega)]
  · rw [if_neg a]
    by_cases b : t > 9
    · rw [if_pos b, if_neg (by omega)]
    · rw [if_neg b, if_pos (by omega)]
      congr 1
      unfold wrap64
      simp only
      omega
theorem rchains (t : Int) : pyxref21_Chains.f t = some (chn t).1 := by
  unfold pyxref21_Chains.f chn
  split
  · rfl
  · split
    · rfl
    · split
      · rfl
      · split <;> rfl
theorem hgt_pos (t : Int) : (hgt t).2 = decide ((hgt t).1 > 0) := by
  unfold hgt
  split
  · simp; omega
  · rfl
theorem chn_pos (t : Int) : (chn t).2 = decide ((chn t).1 > 0) := by
  unfold chn
  split
  · rfl
  · split
    · rfl
    · split
      · rfl
      · split <;> rfl
theorem hgt_le (t : Int) : 0 ≤ (hgt t).1 ∧ (hgt t).1 ≤ 25 := by unfold hgt; split <;> simp <;> omega
theorem chn_le (t : Int) : 0 ≤ (chn t).1 ∧ (chn t).1 ≤ 265 := by
  unfold chn
  split
  · simp
  · split
    · simp
    · split
      · simp
      · split <;> simp
theorem rsize (k : Nat) (t o : Int) : pyxref21_Size.f (k + 1) t o = some (szf t o) := by
  have h1 := hgt_le t
  have h2 := chn_le o
  unfold pyxref21_Size.f pyxref21_Size.j0 szf
  simp only [rheight, rchains, Option.bind_some]
  rw [hgt_pos, chn_pos]
  by_cases a : (hgt t).1 = 0
  · simp [a]
  · rw [if_neg a]
    by_cases b : (chn o).1 = 0
    · simp [b]
    · have b' : ((chn o).1 == 0) = false := beq_eq_false_iff_ne.mpr b
      have p1 : decide ((hgt t).1 > 0) = true := decide_eq_true (by omega)
      have p2 : decide ((chn o).1 > 0) = true := decide_eq_true (by omega)
      rw [b', p1, p2]
      rw [if_neg (by decide), if_pos ⟨rfl, rfl⟩]
      congr 1
      unfold wrap64
      omega
end Go.Proofs.YtijmigapdcikpaaDoor.PLms
