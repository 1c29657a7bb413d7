import Derived.Test.YtohmnlmeamkmjaaDoorZPParamsx0
import Derived.Test.YtohmnlmeamkmjaaDoorZPParamsx6
namespace Go.Proofs.YtohmnlmeamkmjaaDoor.PParams
open Go.RowKit Go.Proofs.YtohmnlmeamkmjaaDoorW.PrintWords Go.Proofs.YtohmnlmeamkmjaaDoorW.PrintLast Go.Proofs.YtohmnlmeamkmjaaDoorW.PrintMore
set_option linter.unusedVariables false
set_option linter.unusedSimpArgs false
theorem dec_len {n : Nat} (h : n < 18446744073709551616) : (Lib.decDigits n).length ≤ 20 := by
  rcases Nat.eq_zero_or_pos n with h0 | h0
  · subst h0; rw [Lib.decDigits]; simp
  · rw [Lib.decDigits_length]
    have := Lib.numDigits_eq n h0 h
    split at this <;> omega
def pyxref02_Decimal.f (a0 : Int) : Option ByteArray := if 0 ≤ a0 ∧ a0 < 9223372036854775808 then some (dec a0.toNat) else none
theorem digit_cut (d : Nat) (h : d < 10) : ∀ W, (Instr.slice 9 (.string { data := #[48, 49, 50, 51, 52, 53, 54, 55, 56, 57] }) (some (.int .i64 (d : Int))) (some (.int .i64 ((d : Int) + 1))) none).run Tryd.prog W = .ok (.string ⟨#[UInt8.ofNat (48 + d)]⟩) W := by
  intro W
  rw [run_slice_string W 9 _ .i64 .i64 (d : Int) ((d : Int) + 1) Tryd.underlying9 (by omega) (by omega) (by show (d : Int) + 1 ≤ ((10 : Nat) : Int); omega)]
  congr 2
  have : ∀ d : Fin 10, (ByteArray.extract { data := #[48, 49, 50, 51, 52, 53, 54, 55, 56, 57] } ((d.val : Int)).toNat ((d.val : Int) + 1).toNat) = ⟨#[UInt8.ofNat (48 + d.val)]⟩ := by decide
  exact this ⟨d, h⟩
set_option maxRecDepth 100000 in
theorem decimal_calls : ∀ (n : Nat), n < 9223372036854775808 → ∀ w : World, Calls Tryd.prog 44 #[.int .i64 (n : Int)] w fun e w' => e = .returned (.string ⟨(Lib.decDigits n).toArray⟩) ∧ ∃ m, w' = w.drewN m := by
  intro n
  induction n using Nat.strongRecOn with
  | ind n ih =>
    intro hn w
    have b1 : decide ((n : Int) < -9) = false := decide_eq_false (by omega)
    have b2 : decide ((n : Int) < 0) = false := decide_eq_false (by omega)
    by_cases c : n < 10
    · have b3 : decide ((n : Int) < 10) = true := decide_eq_true (by omega)
      have e1 : Lib.decDigits n = [UInt8.ofNat (48 + n)] := by rw [Lib.decDigits, dif_pos c]
      have hsl := digit_cut n c
      rw [e1]
      clear ih
      go_enter Tryd.func44, Tryd.ntmps44
      go_wp2
      go_ret
      exact ⟨by simp, 0, rfl⟩
    · have b3 : decide ((n : Int) < 10) = false := decide_eq_false (by omega)
      have e1 : Lib.decDigits n = Lib.decDigits (n / 10) ++ [UInt8.ofNat (48 + n % 10)] := by rw [Lib.decDigits, dif_neg c]
      have hq := fun m => ih (n / 10) (by omega) (by omega) (w.drewN m)
      have hdl := dec_len (n := n / 10) (by omega)
      rw [e1]
      generalize Lib.decDigits (n / 10) = X at hq hdl ⊢
      have t1 : Int.tdiv (n : Int) 10 = ((n / 10 : Nat) : Int) := by rw [Int.tdiv_eq_ediv_of_nonneg (by omega)]; omega
      have t2 : Int.tmod (n : Int) 10 = ((n % 10 : Nat) : Int) := by rw [Int.tmod_eq_emod_of_nonneg (by omega)]; omega
      have hsl := digit_cut (n % 10) (by omega)
      have hadd : ∀ W, (binOp .add 9 (.string ⟨X.toArray⟩) (.string ⟨#[UInt8.ofNat (48 + n % 10)]⟩)).run Tryd.prog W = .ok (.string (⟨X.toArray⟩ ++ ⟨#[UInt8.ofNat (48 + n % 10)]⟩)) W := by
        intro W
        simp [binOp, Op.stringOp]
        show ((X.toArray.size : Nat) : Int) + ((1 : Nat) : Int) ≤ 9223372036854775807
        rw [List.size_toArray]
        omega
      have HQ := Aside0.mk hq
      clear ih hq
      generalize hd : n / 10 = d at *
      generalize hr : n % 10 = q at *
      have hq63 : (q : Int) < 10 := by omega
      go_enter Tryd.func44, Tryd.ntmps44
      go_wp2
      go_quiet (exact Calls.quiet_of (HQ.out _))
      go_wp2
      go_ret
      refine ⟨?_, nq, rfl⟩
      show Ending.returned (Value.string (⟨X.toArray⟩ ++ ⟨#[48 + UInt8.ofNat q]⟩)) = _
      congr 2
      exact ByteArray.ext (by simp [ByteArray.data_append])
theorem pyxref02_Decimal.calls (a0 : Int) (r : ByteArray) (w : World) (h : pyxref02_Decimal.f a0 = some r) :
    Calls Tryd.prog 44 #[.int .i64 a0] w fun e w' => e = .returned (.string r) ∧ Below w.heap.size w w' := by
  rw [pyxref02_Decimal.f] at h
  by_cases c : 0 ≤ a0 ∧ a0 < 9223372036854775808
  · rw [if_pos c] at h
    obtain rfl := Option.some.inj h
    obtain ⟨n, rfl⟩ := Int.eq_ofNat_of_zero_le c.1
    rw [Int.toNat_natCast, dec_eq (by omega)]
    refine (decimal_calls n (by omega) w).mono ?_
    rintro e w' ⟨rfl, m, rfl⟩
    exact ⟨rfl, pw_below_drewN (Below.refl _ _) _⟩
  · rw [if_neg c] at h
    cases h
end Go.Proofs.YtohmnlmeamkmjaaDoor.PParams
