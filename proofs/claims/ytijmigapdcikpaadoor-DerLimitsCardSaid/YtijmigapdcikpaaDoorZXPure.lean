/- Plain lemmas on whole numbers, lists and bits, for the pure statements of this seat's laws: no condition. -/
import Derived.Test.YtijmigapdcikpaaDoorZWWords
import Derived.Test.YtijmigapdcikpaaDoorZWMore
import Derived.Laws.BitsAllLaws
import Derived.Laws.Bits64
namespace Go.Proofs.YtijmigapdcikpaaDoorW.Pu
open Go.RowKit Go.Proofs.YtijmigapdcikpaaDoorW.PrintWords Go.Proofs.YtijmigapdcikpaaDoorW.PrintMore
theorem w64 {x : Int} (h0 : -9223372036854775808 ≤ x) (h1 : x ≤ 9223372036854775807) : wrap64 x = x := by unfold wrap64; omega
theorem wf_u8 {x : Int} (h : (Lit.int .u8 x).wf = true) : 0 ≤ x ∧ x < 256 := by
  simp only [Lit.wf, Bool.and_eq_true, decide_eq_true_eq, show IntKind.u8.min = 0 from rfl, show IntKind.u8.max = 255 from rfl] at h; omega
theorem wf_u32 {x : Int} (h : (Lit.int .u32 x).wf = true) : 0 ≤ x ∧ x < 4294967296 := by
  simp only [Lit.wf, Bool.and_eq_true, decide_eq_true_eq, show IntKind.u32.min = 0 from rfl, show IntKind.u32.max = 4294967295 from rfl] at h; omega
def IsBits (l : List Int) : Prop := ∀ b ∈ l, b = 0 ∨ b = 1
theorem IsBits.take {l : List Int} (h : IsBits l) (n : Nat) : IsBits (l.take n) := fun b hb => h b (List.mem_of_mem_take hb)
theorem IsBits.drop {l : List Int} (h : IsBits l) (n : Nat) : IsBits (l.drop n) := fun b hb => h b (List.mem_of_mem_drop hb)
end Go.Proofs.YtijmigapdcikpaaDoorW.Pu
