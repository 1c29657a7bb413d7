/- XmssSizes, the pure half. -/
import Derived.Test.YtgmnknhfeoleaaaGreatDoorZPXmssx28
import Derived.Test.YtgmnknhfeoleaaaGreatDoorZXXm1
namespace Go.Proofs.YtgmnknhfeoleaaaGreatDoor.Pure
open Go.RowKit Go.Proofs.YtgmnknhfeoleaaaGreatDoor.PXmss Go.Proofs.YtgmnknhfeoleaaaGreatDoorW.PrintWords Go.Proofs.YtgmnknhfeoleaaaGreatDoorW.PrintLast Go.Proofs.YtgmnknhfeoleaaaGreatDoorW.PrintMore Go.Proofs.YtgmnknhfeoleaaaGreatDoorW.Pu
theorem XmssSizes : pyxlaw22_XmssSizes.Pure := by
  intro a0 h0
  have h := wf_u16 h0
  obtain ⟨n, rfl⟩ := Int.eq_ofNat_of_zero_le h.1
  have hw : wrap64 (n : Int) = (n : Int) := w64 (by omega) (by omega)
  obtain ⟨l, hl⟩ : ∃ l, l = List.replicate n (0 : Int) := ⟨_, rfl⟩
  have hlen : l.length = n := by rw [hl]; simp
  have hb : IsBytes l := fun y hy => by rw [hl] at hy; rw [List.eq_of_mem_replicate hy]; omega
  obtain ⟨a, e, c, t, h1, h2, h3, h4, h5⟩ := sig_agree l hb (by omega)
  obtain ⟨k, hk⟩ := h2
  refine ⟨k, ?_⟩
  have hs : pyxref22_Signature.f k l = some (a, c, t) := hk k (Nat.le_refl _)
  have hbs : ∃ s, params_BySize.f 5 (n : Int) = some s ∧ ((a == 0) == ((s.length : Int) == 0)) = true := by
    rw [xmss_Signature.f, if_pos ⟨bytesOk_of hb, by omega⟩, hlen] at h1
    by_cases hn : (n : Int) ≠ 2500 ∧ (n : Int) ≠ 2692 ∧ (n : Int) ≠ 2820 ∧ (n : Int) ≠ 9092 ∧ (n : Int) ≠ 9476 ∧ (n : Int) ≠ 9732
    · rw [bysize_none _ hn] at h1
      have : a = 0 := by
        have h6 : (0, some (E.fault 6 0)) = (a, e) := Option.some.inj h1
        exact (Prod.mk.inj h6).1.symm
      exact ⟨[], bysize_none _ hn, by rw [this]; decide⟩
    · have hv : v256 (l.take 4) = 0 := by
        have : l.take 4 = [0, 0, 0, 0] := by rw [hl, List.take_replicate, show min 4 n = 4 by omega]; rfl
        rw [this]; decide
      have hc : c = 0 := by
        by_cases hc : c = 0
        · exact hc
        · obtain ⟨_, _, h7 | h7⟩ := h5 hc
          · rw [hlen] at h7
            exact absurd h7 hn
          · rw [hv] at h7
            exact absurd h7 (by decide)
      obtain ⟨_, h8, h9⟩ := h4 hc
      rcases (show (n : Int) = 2500 ∨ (n : Int) = 2692 ∨ (n : Int) = 2820 ∨ (n : Int) = 9092 ∨ (n : Int) = 9476 ∨ (n : Int) = 9732 by omega) with hs | hs | hs | hs | hs | hs
      · exact ⟨_, by rw [hs]; exact bysize_20, by rw [beq_eq_false_iff_ne.mpr (show a ≠ 0 by omega)]; decide⟩
      · exact ⟨_, by rw [hs]; exact bysize_21, by rw [beq_eq_false_iff_ne.mpr (show a ≠ 0 by omega)]; decide⟩
      · exact ⟨_, by rw [hs]; exact bysize_22, by rw [beq_eq_false_iff_ne.mpr (show a ≠ 0 by omega)]; decide⟩
      · exact ⟨_, by rw [hs]; exact bysize_23, by rw [beq_eq_false_iff_ne.mpr (show a ≠ 0 by omega)]; decide⟩
      · exact ⟨_, by rw [hs]; exact bysize_24, by rw [beq_eq_false_iff_ne.mpr (show a ≠ 0 by omega)]; decide⟩
      · exact ⟨_, by rw [hs]; exact bysize_25, by rw [beq_eq_false_iff_ne.mpr (show a ≠ 0 by omega)]; decide⟩
  obtain ⟨s, hs1, hs2⟩ := hbs
  rw [pyxlaw22_XmssSizes.f, pyxlaw22_awake.f, Option.bind_some, if_pos rfl, hw, if_pos (by omega), if_pos (by omega), Int.toNat_natCast, ← hl, h1, Option.bind_some, hs, Option.bind_some, if_pos rfl, h3, Option.bind_some, if_pos rfl, hs1, Option.bind_some, hs2]
end Go.Proofs.YtgmnknhfeoleaaaGreatDoor.Pure
