/- The reference's Read; both agree. -/
import Derived.Test.YtohmnlmeamkmjaaDoorZXOid5
namespace Go.Proofs.YtohmnlmeamkmjaaDoor.POid
open Go.RowKit Go.Proofs.YtohmnlmeamkmjaaDoorW.PrintWords Go.Proofs.YtohmnlmeamkmjaaDoorW.PrintLast Go.Proofs.YtohmnlmeamkmjaaDoorW.PrintMore Go.Proofs.YtohmnlmeamkmjaaDoorW.Pu
def RR (b : List Int) : List Int × Bool := match rdO b [] 0 false with | none => ([], false) | some o => (o, true)
theorem read_ev (b : List Int) (hb : ∀ c ∈ b, 0 ≤ c ∧ c < 256) (hl : b.length ≤ 1000000) : oid_Read.f b = some (RR b) := by
  rw [oid_Read.f, if_pos ⟨by unfold u8B; rw [List.all_eq_true]; exact fun n hn => decide_eq_true (hb n hn), hl⟩]
  rfl
theorem RR_cont {l : List Int} (hu : IsU32 l) (hv : validB l = true) : RR (cont l) = (l, true) := by
  unfold RR
  rw [read_cont hu hv]
theorem cont_byte {l : List Int} (hu : IsU32 l) : ∀ c ∈ cont l, 0 ≤ c ∧ c < 256 := by
  intro c hc
  unfold cont at hc
  split at hc
  · rename_i hv
    have hl := valid_len hv
    rw [List.mem_append] at hc
    rcases hc with hc | hc
    · have hr0 : 0 ≤ rd l 0 ∧ rd l 0 < 4294967296 := hu _ (rd_mem (show 0 < l.length by omega))
      have hr1 : 0 ≤ rd l 1 ∧ rd l 1 < 4294967296 := hu _ (rd_mem (show 1 < l.length by omega))
      exact ggo_byte 9 _ 0 (by omega) (.inl rfl) c hc
    · obtain ⟨n, hn, hc⟩ := List.mem_flatMap.1 hc
      exact ggo_byte 9 n 0 (hu n (List.mem_of_mem_drop hn)).1 (.inl rfl) c hc
  · simp at hc
theorem cont_len (l : List Int) : (cont l).length ≤ 189 := by
  unfold cont
  split
  · rename_i hv
    have hl := valid_len hv
    have h1 := ggo_len 9 (40 * rd l 0 + rd l 1) 0
    have h2 := flat_le (l.drop 2)
    rw [List.length_drop] at h2
    rw [List.length_append]
    omega
  · simp
theorem cont_ev {l : List Int} (hu : IsU32 l) : oid_Content.f l = some (cont l) := by
  rw [oid_Content.f, if_pos (by unfold u32B; rw [List.all_eq_true]; exact fun n hn => decide_eq_true (hu n hn))]
end Go.Proofs.YtohmnlmeamkmjaaDoor.POid
