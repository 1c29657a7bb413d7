/- Plain lemmas on whole numbers, lists and bits, for the pure statements of this seat's laws: no condition. -/
import Derived.Test.YtohmnlmeamkmjaaDoorZWWords
import Derived.Test.YtohmnlmeamkmjaaDoorZWMore
import Derived.Laws.BitsAllLaws
import Derived.Laws.Bits64
namespace Go.Proofs.YtohmnlmeamkmjaaDoorW.Pu
open Go.RowKit Go.Proofs.YtohmnlmeamkmjaaDoorW.PrintWords Go.Proofs.YtohmnlmeamkmjaaDoorW.PrintMore
def IsBits (l : List Int) : Prop := ∀ b ∈ l, b = 0 ∨ b = 1
theorem IsBits.take {l : List Int} (h : IsBits l) (n : Nat) : IsBits (l.take n) := fun b hb => h b (List.mem_of_mem_take hb)
theorem IsBits.drop {l : List Int} (h : IsBits l) (n : Nat) : IsBits (l.drop n) := fun b hb => h b (List.mem_of_mem_drop hb)
end Go.Proofs.YtohmnlmeamkmjaaDoorW.Pu
