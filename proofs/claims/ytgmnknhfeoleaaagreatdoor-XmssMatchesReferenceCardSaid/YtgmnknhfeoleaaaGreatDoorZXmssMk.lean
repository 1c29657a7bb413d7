/- The reference's key of algorithm 23 has a key's algorithm in the program: no condition. -/
import Derived.Test.YtgmnknhfeoleaaaGreatDoorZXmssSpread
import Derived.Test.YtgmnknhfeoleaaaGreatDoorZPXmssx19
import Derived.Test.YtgmnknhfeoleaaaGreatDoorZPXmssx17
namespace Go.Proofs.YtgmnknhfeoleaaaGreatDoor.PXmss
open Go.RowKit Go.Proofs.YtgmnknhfeoleaaaGreatDoorW.PrintWords Go.Proofs.YtgmnknhfeoleaaaGreatDoorW.PrintLast Go.Proofs.YtgmnknhfeoleaaaGreatDoorW.PrintMore Go.Proofs.YtgmnknhfeoleaaaGreatDoorW.Pu
theorem mk23_type : (params_ByType.f 4).map (fun b => (b.1, b.2.2.2.1, b.2.2.2.2.2.2.2.2.2.2)) = some (23, 132, true) := by kernel_rfl
theorem mk23_ex : ∃ k l, pyxref22_MakeKey.f k 23 1 = some l ∧ xmss_Key.f l = some (23, none) := by
  obtain ⟨r, ⟨k, hk⟩, r2, r3⟩ := spread_ev 1 128 (by decide)
  refine ⟨k, [0, 0, 0, 4] ++ r, ?_, ?_⟩
  · rw [pyxref22_MakeKey.f, Option.bind_some, show pyxref22_Numbers.f 23 = some [64, 10, 131] from by kernel_rfl, Option.bind_some, if_pos (by decide)]
    have hk' : pyxref15_Spread.f k 1 ((128 : Nat) : Int) = some r := hk k (Nat.le_refl _)
    have e1 : wrap64 (2 * rd [64, 10, 131] 0) = ((128 : Nat) : Int) := by kernel_rfl
    have e2 : wrap64 (23 - 19) % 256 = 4 := by kernel_rfl
    rw [e1, e2, hk', Option.bind_some, if_pos (by rw [r3]; decide)]
  · have hb : bytesOk ([0, 0, 0, 4] ++ r) = true := by
      rw [bytesOk, List.all_eq_true]
      intro x hx
      have : 0 ≤ x ∧ x < 256 := by
        rcases List.mem_append.1 hx with hx | hx
        · simp only [List.mem_cons, List.not_mem_nil, or_false] at hx
          rcases hx with rfl | rfl | rfl | rfl <;> omega
        · exact r2 x hx
      simpa using this
    have hl : ([0, 0, 0, 4] ++ r).length = 132 := by rw [List.length_append, r3]; rfl
    have hv : v256 (([0, 0, 0, 4] ++ r).take 4) % 4294967296 = 4 := by
      rw [List.take_append_of_le_length (by decide)]
      decide
    obtain ⟨b, hb1, hb2⟩ := Option.map_eq_some_iff.1 mk23_type
    simp only [Prod.mk.injEq] at hb2
    obtain ⟨h1, h2, h3⟩ := hb2
    rw [xmss_Key.f, if_pos ⟨hb, by rw [hl]; decide⟩, if_neg (by rw [hl]; decide), hv, hb1, Option.bind_some, h3, if_pos rfl, hl, h2, if_pos (show ((132 : Nat) : Int) = 132 from rfl), h1]
end Go.Proofs.YtgmnknhfeoleaaaGreatDoor.PXmss
