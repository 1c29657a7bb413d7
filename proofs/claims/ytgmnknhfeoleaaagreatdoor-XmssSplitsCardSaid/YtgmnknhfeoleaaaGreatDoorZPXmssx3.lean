import Derived.Test.YtgmnknhfeoleaaaGreatDoorZQ
import Derived.Test.YtgmnknhfeoleaaaGreatDoorZPXmssx0
namespace Go.Proofs.YtgmnknhfeoleaaaGreatDoor.PXmss
open Go.RowKit Go.Proofs.YtgmnknhfeoleaaaGreatDoorW.PrintWords Go.Proofs.YtgmnknhfeoleaaaGreatDoorW.PrintLast Go.Proofs.YtgmnknhfeoleaaaGreatDoorW.PrintMore
attribute [local go_sem] max2_int min2_int max_two min_two max_three min_three max_four min_four
set_option linter.unusedVariables false
set_option linter.unusedSimpArgs false
def params_nist.f (a0 : Int) (a1 : Int) : Option (List Int) := some (([2, 16, 840, 1, 101, 3, 4, (a0) % 4294967296, (a1) % 4294967296] : List Int))
set_option maxHeartbeats 8000000 in
set_option maxRecDepth 100000 in
theorem params_nist.calls (a0 : Int) (a1 : Int) (r : List Int) (w : World) (h : params_nist.f a0 a1 = some r) :
  Calls Tryz.prog 39 #[.int .i64 a0, .int .i64 a1] w fun e w' => ∃ v0_ : Value, e = .returned (v0_) ∧ Kd.R (Kd.int .u32) 22 w' w.heap.size (fun _ => True) v0_ r ∧ Below w.heap.size w w' := by
 have HB := Aside0.mk (Below.refl w.heap.size w)
 have H : (some (([2, 16, 840, 1, 101, 3, 4, (a0) % 4294967296, (a1) % 4294967296] : List Int))) = some r := h
 clear h
 obtain ⟨y101, hy101⟩ : ∃ y_ : List Int, y_ = (([2, 16, 840, 1, 101, 3, 4, (a0) % 4294967296, (a1) % 4294967296] : List Int)) := ⟨_, rfl⟩
 replace H : (some y101) = some r := by first | (rw [hy101]; with_reducible exact H) | (have H2_ := (Option.bind_some _ _).symm.trans H; rw [hy101]; with_reducible exact H2_) | (have H2_ := (Option.bind_some _ _).symm.trans H; with_reducible exact H2_) | with_reducible exact H | (rw [hy101]; exact H) | exact H
 have Ny101 := Aside0.mk hy101
 clear hy101
 obtain rfl := Option.some.inj H
 go_enter Tryz.func39, Tryz.ntmps39
 go_wp2_with (first | ((with_reducible refine gate_dst (N := 9) rfl ?_); refine Kd.R_lit (Kd.int .u32) _ 22 ?hg (N := 9) ?hd (xs := ([2, 16, 840, 1, 101, 3, 4, (a0) % 4294967296, (a1) % 4294967296] : List Int)) (inner := [.int .u32 2, .int .u32 16, .int .u32 840, .int .u32 1, .int .u32 101, .int .u32 3, .int .u32 4, .int .u32 ((a0) % 4294967296), .int .u32 ((a1) % 4294967296)]) (ok := fun _ => True) (okp := fun _ => True) ?hr ?hp (fun _ hk => hk) trivial (Below.refl _ _) (Nat.le_refl _) (by simp) ?_; (case hd => rfl); (case hg => rfl); (case hr => first | (go_simp; done) | (go_simp; rfl)); (case hp => exact (Reps.one (show Kd.M (Kd.int .u32) _ _ _ 2 [.int .u32 2] from rfl) (Reps.one (show Kd.M (Kd.int .u32) _ _ _ 16 [.int .u32 16] from rfl) (Reps.one (show Kd.M (Kd.int .u32) _ _ _ 840 [.int .u32 840] from rfl) (Reps.one (show Kd.M (Kd.int .u32) _ _ _ 1 [.int .u32 1] from rfl) (Reps.one (show Kd.M (Kd.int .u32) _ _ _ 101 [.int .u32 101] from rfl) (Reps.one (show Kd.M (Kd.int .u32) _ _ _ 3 [.int .u32 3] from rfl) (Reps.one (show Kd.M (Kd.int .u32) _ _ _ 4 [.int .u32 4] from rfl) (Reps.one (show Kd.M (Kd.int .u32) _ _ _ ((a0) % 4294967296) [.int .u32 ((a0) % 4294967296)] from rfl) (Reps.one (show Kd.M (Kd.int .u32) _ _ _ ((a1) % 4294967296) [.int .u32 ((a1) % 4294967296)] from rfl) (Reps.none _ _))))))))))); intro v102 w3 ho4 hb hg_ hnew_; clear hg_ hnew_; (first | rw [← Ny101.out] at ho4 | (simp only [Int.reduceToNat] at ho4; rw [← Ny101.out] at ho4)); have n0_ := Aside0.mk (Kd.R_lower ho4 (below_size q30_)); have n1_ := Aside0.mk (below_step q30_ hb); clear HB; have HO103 := n0_; have HB := n1_; clear n0_ n1_; clear hb ho4))
 go_ret
 exact ⟨_, by first | rfl | (simp [errW_none, errW_some] <;> rfl) | (simp [*, errW_none, errW_some] <;> rfl), by (with_reducible repeat (first | apply Kd.R_alloc | apply Kd.R_drewN | apply Kd.R_drew)); exact HO103.out, by repeat (first | (with_reducible first | exact HB.out | apply below_alloc | apply pw_below_drewN | apply below_drew1) | exact HB.out)⟩
end Go.Proofs.YtgmnknhfeoleaaaGreatDoor.PXmss

namespace Go.Proofs.YtgmnknhfeoleaaaGreatDoor.PXmss
open Go.RowKit Go.Proofs.YtgmnknhfeoleaaaGreatDoorW.PrintWords Go.Proofs.YtgmnknhfeoleaaaGreatDoorW.PrintLast Go.Proofs.YtgmnknhfeoleaaaGreatDoorW.PrintMore
set_option linter.unusedVariables false
set_option linter.unusedSimpArgs false
open Go.Sort Go.Lib in
set_option maxHeartbeats 6400000 in
set_option maxRecDepth 100000 in
theorem int_FormatUint (u : Nat) (hu64 : u < 18446744073709551616) (w : World) (htab : Lib.TabIs Tryz.prog w "internal/strconv.uint64pow10" .u64 Lib.pow10Tab) :
  Calls Tryz.prog 101 #[.int .u64 u, .int .i64 10] w fun e w' => e = .returned (.string ⟨(Lib.decDigits u).toArray⟩) ∧ ∃ k os, w' = Sort.grow (w.drewN k) os := by
 by_cases hs : u < 100
 ·have b1 : decide ((u : Int) < 100) = true := decide_eq_true (by omega)
  have w1 : wrap64 (u : Int) = u := by unfold wrap64; omega
  go_enter Tryz.func101, Tryz.ntmps101
  go_wp2_with (go_at_call 88; refine (Tryz.internal_strconv_small u hs _).mono ?_; rintro e w' ⟨rfl, rfl⟩)
  go_ret
  exact ⟨rfl, 0, #[], by simp [World.drewN_zero]⟩
 ·have hu1 : 1 ≤ u := by omega
  have b1 : decide ((u : Int) < 100) = false := decide_eq_false (by omega)
  have hnd20 : Lib.nDigits u ≤ 20 := by have := Lib.numDigits_eq u hu1 hu64; split at this <;> omega
  have hb3 : Lib.nDigits u ≤ 24 := by omega
  have hal : Tryz.prog.arrayLen 168 = 24 := by kernel_rfl
  have hsl1 : ∀ W, (Instr.sliceAt 168 (.pointer (some ⟨w.heap.size, 0, none⟩)) none (some (.int .i64 (Lib.nDigits u : Int))) none).run Tryz.prog W = .ok (.slice (some ⟨w.heap.size, 0, none⟩) (Lib.nDigits u) 24) W := fun W => by
   rw [run_sliceAt_array_h W 168 ⟨w.heap.size, 0, none⟩ (by simp [Program.arrayLen, Program.elem, Tryz.underlying168]) .i64 (Lib.nDigits u : Int) (by omega) (by rw [hal]; omega)]
   go_simp
  have hH0 : Holds (fun (b : UInt8) => Value.int .u8 (b.toNat : Int)) (w.alloc (.cells Lib.zeros24 168)) w.heap.size 0 (Array.replicate (Lib.nDigits u) 0) := fun j hj => by
   have hj' : j < Lib.nDigits u := by simpa using hj
   refine ⟨?_, World.frozen?_alloc_new _ _ _ _⟩
   rw [World.cell?_alloc_new, Lib.zeros24_at _ (by omega), getElem!_pos _ j hj]
   simp
  have hfmt := Tryz.internal_strconv_formatBase10 w.heap.size 0 24 u (Array.replicate (Lib.nDigits u) 0) (w.alloc (.cells Lib.zeros24 168)) hH0 (by rw [Array.size_replicate]; exact Lib.lt_pow_nDigits u) hu64 (by rw [Array.size_replicate]; omega)
  rw [Array.size_replicate] at hfmt
  have HH0 := Lib.hid hH0
  clear hH0 hal
  go_enter Tryz.func101, Tryz.ntmps101
  go_wp2_with (first
   | (go_at_call 89; refine (Tryz.internal_strconv_numDigits u hu1 hu64 _ (Lib.tabIs_alloc htab _)).mono ?_; rintro e w' ⟨rfl, rfl⟩))
  go_at_call 90
  refine hfmt.mono ?_
  rintro e w' ⟨rfl, k, v', dk, rfl, hF⟩
  have hal : Tryz.prog.arrayLen 168 = 24 := by kernel_rfl
  have hcv : (convert 25 9 (.slice (some ⟨w.heap.size, 0, none⟩) (Lib.nDigits u) 24)).run Tryz.prog ((putRow (fun (b : UInt8) => Value.int .u8 (b.toNat : Int)) (w.alloc (.cells Lib.zeros24 168)) w.heap.size 0 dk).drewN k) = .ok (.string ⟨(Lib.decDigits u).toArray⟩) ((putRow (fun (b : UInt8) => Value.int .u8 (b.toNat : Int)) (w.alloc (.cells Lib.zeros24 168)) w.heap.size 0 dk).drewN k) := by
   have h := run_convert_bytes_back (P := Tryz.prog) ((putRow (fun (b : UInt8) => Value.int .u8 (b.toNat : Int)) (w.alloc (.cells Lib.zeros24 168)) w.heap.size 0 dk).drewN k) 25 9 5 ⟨w.heap.size, 0, none⟩ 24 (Lib.decDigits u) Tryz.underlying25 Tryz.underlying5 Tryz.underlying9 (fun j hj => by
    rw [Lib.row_is_numeral hF j hj, Lib.add_plain, World.cell?_drewN]
    exact cell?_putRow (fun (b : UInt8) => Value.int .u8 (b.toNat : Int)) _ w.heap.size 0 _ dk HH0.out (by rw [hF.size, Array.size_replicate]) j (by rw [hF.size]; rw [Lib.decDigits_length] at hj; exact hj))
   rw [Lib.decDigits_length] at h
   exact h
  have hsl2 : ∀ W, (Instr.sliceAt 168 (.pointer (some ⟨w.heap.size, 0, none⟩)) none (some (.int .i64 (Lib.nDigits u : Int))) none).run Tryz.prog W = .ok (.slice (some ⟨w.heap.size, 0, none⟩) (Lib.nDigits u) 24) W := fun W => by
   rw [run_sliceAt_array_h W 168 ⟨w.heap.size, 0, none⟩ (by simp [Program.arrayLen, Program.elem, Tryz.underlying168]) .i64 (Lib.nDigits u : Int) (by omega) (by rw [hal]; omega)]
   go_simp
  clear hal
  go_wp2
  go_ret
  refine ⟨rfl, k, ?_⟩
  rw [alloc_eq_grow]
  obtain ⟨os', _, e⟩ := putRow_grow_new (fun (b : UInt8) => Value.int .u8 (b.toNat : Int)) w #[_] w.heap.size 0 dk (Nat.le_refl _)
  exact ⟨os', by rw [e]; rfl⟩
def dgo : Nat → Nat → List UInt8 → List UInt8
 | 0, _, acc => acc
 | f + 1, n, acc => if n < 10 then UInt8.ofNat (48 + n) :: acc else dgo f (n / 10) (UInt8.ofNat (48 + n % 10) :: acc)
theorem dgo_eq : ∀ (f n : Nat) (acc : List UInt8), n < 10 ^ f → 0 < f → dgo f n acc = Lib.decDigits n ++ acc := by
 intro f
 induction f with
 | zero => intro n acc _ h; exact absurd h (by decide)
 | succ f ih =>
  intro n acc h _
  rw [dgo, Lib.decDigits]
  by_cases c : n < 10
  ·rw [if_pos c, dif_pos c]; rfl
  ·rw [if_neg c, dif_neg c]
   have hf : 0 < f := by
    rcases Nat.eq_zero_or_pos f with h0 | h0
    ·subst h0; simp at h; omega
    ·exact h0
   rw [ih _ _ (by rw [Nat.pow_succ] at h; omega) hf, List.append_assoc]
   rfl
def dec (n : Nat) : ByteArray := ⟨(dgo 20 n []).toArray⟩
theorem dec_eq {n : Nat} (h : n < 18446744073709551616) : dec n = ⟨(Lib.decDigits n).toArray⟩ := by
 rw [dec, dgo_eq 20 n [] (Nat.lt_of_lt_of_le h (by decide)) (by decide), List.append_nil]
def strconv_FormatUint.f (a0 a1 : Int) : Option ByteArray := if (0 ≤ a0 ∧ a0 < 18446744073709551616) ∧ a1 = 10 then some (dec a0.toNat) else none
theorem strconv_FormatUint.calls (a0 a1 : Int) (r : ByteArray) (w : World) (h : strconv_FormatUint.f a0 a1 = some r) (hG : GOK w) :
  Calls Tryz.prog 84 #[.int .u64 a0, .int .i64 a1] w fun e w' => e = .returned (.string r) ∧ Below w.heap.size w w' := by
 rw [strconv_FormatUint.f] at h
 by_cases c : (0 ≤ a0 ∧ a0 < 18446744073709551616) ∧ a1 = 10
 ·rw [if_pos c] at h
  obtain rfl := Option.some.inj h
  obtain ⟨⟨h0, h1⟩, rfl⟩ := c
  obtain ⟨u, rfl⟩ := Int.eq_ofNat_of_zero_le h0
  have hu : u < 18446744073709551616 := by omega
  rw [Int.toNat_natCast, dec_eq hu]
  go_enter Tryz.func84, Tryz.ntmps84
  go_wp2_with (go_at_call 101; ((with_reducible refine (int_FormatUint u hu _ hG.tab).mono ?_); rintro e w' ⟨rfl, k, os, rfl⟩))
  go_ret
  exact ⟨rfl, Lib.below_grow _ _ (Nat.le_refl _) _ _⟩
 ·rw [if_neg c] at h
  cases h
end Go.Proofs.YtgmnknhfeoleaaaGreatDoor.PXmss

namespace Go.Proofs.YtgmnknhfeoleaaaGreatDoor.PXmss
open Go.RowKit Go.Proofs.YtgmnknhfeoleaaaGreatDoorW.PrintWords Go.Proofs.YtgmnknhfeoleaaaGreatDoorW.PrintLast Go.Proofs.YtgmnknhfeoleaaaGreatDoorW.PrintMore
set_option linter.unusedVariables false
set_option linter.unusedSimpArgs false
def strconv_Itoa.f (a0 : Int) : Option ByteArray := if 0 ≤ a0 ∧ a0 < 1000000000 then some (dec a0.toNat) else none
theorem strconv_Itoa.calls (a0 : Int) (r : ByteArray) (w : World) (h : strconv_Itoa.f a0 = some r) (hG : GOK w) :
  Calls Tryz.prog 59 #[.int .i64 a0] w fun e w' => e = .returned (.string r) ∧ Below w.heap.size w w' := by
 rw [strconv_Itoa.f] at h
 by_cases c : 0 ≤ a0 ∧ a0 < 1000000000
 ·rw [if_pos c] at h
  obtain rfl := Option.some.inj h
  obtain ⟨h0, h1⟩ := c
  obtain ⟨u, rfl⟩ := Int.eq_ofNat_of_zero_le h0
  have e : Lib.itoa (u : Int) = Lib.decDigits u := Lib.itoa_nonneg u
  rw [Int.toNat_natCast, dec_eq (by omega), ← e]
  refine (Tryz.strconv_Itoa (u : Int) (by omega) (by omega) w hG.tab).mono ?_
  rintro ev w' ⟨rfl, k, os, rfl⟩
  exact ⟨rfl, Lib.below_grow _ _ (Nat.le_refl _) _ _⟩
 ·rw [if_neg c] at h
  cases h
end Go.Proofs.YtgmnknhfeoleaaaGreatDoor.PXmss
