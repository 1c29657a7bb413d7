/- der: the width of a length, the length that is read; plain lemmas, no condition. -/
import Derived.Test.YtijmigapdcikpaaDoorZPDerx8
import Derived.Test.YtijmigapdcikpaaDoorZXPure
namespace Go.Proofs.YtijmigapdcikpaaDoor.PDer
open Go.RowKit Go.Proofs.YtijmigapdcikpaaDoorW.PrintWords Go.Proofs.YtijmigapdcikpaaDoorW.PrintLast Go.Proofs.YtijmigapdcikpaaDoorW.PrintMore
set_option linter.unusedVariables false
set_option linter.unusedSimpArgs false
def wid (n : Int) : Int := if n < 256 then 1 else if n < 65536 then 2 else 3
theorem width_small : ((List.range 128).all fun i => der_width.f 3 ((i : Int) + 128) == some 1) = true := by kernel_rfl
theorem width_mid : ((List.range 255).all fun i => der_width.f 3 (((i : Int) + 1) * 256) == some 2) = true := by kernel_rfl
theorem width_big : ((List.range 255).all fun i => der_width.f 3 (((i : Int) + 1) * 65536) == some 3) = true := by kernel_rfl
theorem wid_of (n m : Int) (hn : 0 ≤ n) (h1 : n < 16777216) (hm : 0 ≤ m) (hm1 : m < 16777216) (h : (256 ≤ n ∧ n < 65536 ∧ m / 256 = n / 256) ∨ (65536 ≤ n ∧ m / 65536 = n / 65536)) : der_width.f 3 n = der_width.f 3 m := by
  have e : ∀ x : Int, 0 ≤ x → x < 16777216 → IntKind.u64.wrap x = x := fun x a b => by rw [IntKind.wrap_u64]; omega
  rw [der_width.f, der_width.f, bits_Len.f, bits_Len.f, bits_Len64.f, bits_Len64.f, e n hn h1, e m hm hm1, if_neg (show ¬ n ≥ 4294967296 by omega), if_neg (show ¬ m ≥ 4294967296 by omega)]
  rcases h with ⟨a, b, c⟩ | ⟨a, c⟩
  · rw [bits_Len64.j0, bits_Len64.j0]
    rw [if_neg (show ¬ n ≥ 65536 by omega), if_neg (show ¬ m ≥ 65536 by omega), if_pos (show n ≥ 256 by omega), if_pos (show m ≥ 256 by omega), c]
  · rw [bits_Len64.j0, bits_Len64.j0]
    have c2 : m / 65536 = n / 65536 := c
    rw [if_pos (show n ≥ 65536 by omega), if_pos (show m ≥ 65536 by omega), c2, if_neg (show ¬ n / 65536 ≥ 256 by omega)]
theorem width_eq (n : Int) (h0 : 128 ≤ n) (h1 : n < 16777216) : der_width.f 3 n = some (wid n) := by
  unfold wid
  by_cases c1 : n < 256
  · rw [if_pos c1]
    have := List.all_eq_true.1 width_small (n - 128).toNat (by rw [List.mem_range]; omega)
    rw [show ((n - 128).toNat : Int) + 128 = n by omega] at this
    exact eq_of_beq this
  rw [if_neg c1]
  by_cases c2 : n < 65536
  · rw [if_pos c2]
    have := List.all_eq_true.1 width_mid (n / 256 - 1).toNat (by rw [List.mem_range]; omega)
    rw [show ((n / 256 - 1).toNat : Int) + 1 = n / 256 by omega] at this
    rw [wid_of n (n / 256 * 256) (by omega) h1 (by omega) (by omega) (.inl ⟨by omega, c2, by omega⟩)]
    exact eq_of_beq this
  · rw [if_neg c2]
    have := List.all_eq_true.1 width_big (n / 65536 - 1).toNat (by rw [List.mem_range]; omega)
    rw [show ((n / 65536 - 1).toNat : Int) + 1 = n / 65536 by omega] at this
    rw [wid_of n (n / 65536 * 65536) (by omega) h1 (by omega) (by omega) (.inr ⟨by omega, by omega⟩)]
    exact eq_of_beq this
theorem width_at {k : Nat} (n : Int) (h0 : 128 ≤ n) (h1 : n < 16777216) (hk : 3 ≤ k) : der_width.f k n = some (wid n) := by
  induction k with
  | zero => omega
  | succ k ih =>
    by_cases c : k = 2
    · subst c; exact width_eq n h0 h1
    · exact der_width.mono _ _ _ (ih (by omega))
end Go.Proofs.YtijmigapdcikpaaDoor.PDer
