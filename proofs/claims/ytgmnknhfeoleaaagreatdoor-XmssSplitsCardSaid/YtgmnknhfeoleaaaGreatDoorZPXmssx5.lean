import Derived.Test.YtgmnknhfeoleaaaGreatDoorZParSlh1
import Derived.Test.YtgmnknhfeoleaaaGreatDoorZParSlh2
import Derived.Test.YtgmnknhfeoleaaaGreatDoorZParSlh3
import Derived.Test.YtgmnknhfeoleaaaGreatDoorZParSlh4
import Derived.Test.YtgmnknhfeoleaaaGreatDoorZPXmssx0
namespace Go.Proofs.YtgmnknhfeoleaaaGreatDoor.PXmss
open Go.RowKit Go.Proofs.YtgmnknhfeoleaaaGreatDoorW.PrintWords Go.Proofs.YtgmnknhfeoleaaaGreatDoorW.PrintLast Go.Proofs.YtgmnknhfeoleaaaGreatDoorW.PrintMore
set_option linter.unusedVariables false
set_option linter.unusedSimpArgs false
def slhT : Nat → Int × Int × ByteArray × Int × Int × Int × Int × List Int × Int × Int
 | 7 => (0, 3, ((⟨#[83, 76, 72, 45, 68, 83, 65, 45, 83, 72, 65, 50, 45]⟩ : ByteArray) ++ (⟨#[49, 50, 56]⟩ : ByteArray) ++ (⟨#[115]⟩ : ByteArray)), 32, 64, 0, 7856, [2, 16, 840, 1, 101, 3, 4, 3, 20], -51, 0)
 | 8 => (0, 3, ((⟨#[83, 76, 72, 45, 68, 83, 65, 45, 83, 72, 65, 50, 45]⟩ : ByteArray) ++ (⟨#[49, 50, 56]⟩ : ByteArray) ++ (⟨#[102]⟩ : ByteArray)), 32, 64, 0, 17088, [2, 16, 840, 1, 101, 3, 4, 3, 21], -52, 0)
 | 9 => (0, 3, ((⟨#[83, 76, 72, 45, 68, 83, 65, 45, 83, 72, 65, 50, 45]⟩ : ByteArray) ++ (⟨#[49, 57, 50]⟩ : ByteArray) ++ (⟨#[115]⟩ : ByteArray)), 48, 96, 0, 16224, [2, 16, 840, 1, 101, 3, 4, 3, 22], -53, 0)
 | 10 => (0, 3, ((⟨#[83, 76, 72, 45, 68, 83, 65, 45, 83, 72, 65, 50, 45]⟩ : ByteArray) ++ (⟨#[49, 57, 50]⟩ : ByteArray) ++ (⟨#[102]⟩ : ByteArray)), 48, 96, 0, 35664, [2, 16, 840, 1, 101, 3, 4, 3, 23], -54, 0)
 | 11 => (0, 3, ((⟨#[83, 76, 72, 45, 68, 83, 65, 45, 83, 72, 65, 50, 45]⟩ : ByteArray) ++ (⟨#[50, 53, 54]⟩ : ByteArray) ++ (⟨#[115]⟩ : ByteArray)), 64, 128, 0, 29792, [2, 16, 840, 1, 101, 3, 4, 3, 24], -55, 0)
 | 12 => (0, 3, ((⟨#[83, 76, 72, 45, 68, 83, 65, 45, 83, 72, 65, 50, 45]⟩ : ByteArray) ++ (⟨#[50, 53, 54]⟩ : ByteArray) ++ (⟨#[102]⟩ : ByteArray)), 64, 128, 0, 49856, [2, 16, 840, 1, 101, 3, 4, 3, 25], -56, 0)
 | 13 => (0, 3, ((⟨#[83, 76, 72, 45, 68, 83, 65, 45, 83, 72, 65, 75, 69, 45]⟩ : ByteArray) ++ (⟨#[49, 50, 56]⟩ : ByteArray) ++ (⟨#[115]⟩ : ByteArray)), 32, 64, 0, 7856, [2, 16, 840, 1, 101, 3, 4, 3, 26], -57, 0)
 | 14 => (0, 3, ((⟨#[83, 76, 72, 45, 68, 83, 65, 45, 83, 72, 65, 75, 69, 45]⟩ : ByteArray) ++ (⟨#[49, 50, 56]⟩ : ByteArray) ++ (⟨#[102]⟩ : ByteArray)), 32, 64, 0, 17088, [2, 16, 840, 1, 101, 3, 4, 3, 27], -58, 0)
 | 15 => (0, 3, ((⟨#[83, 76, 72, 45, 68, 83, 65, 45, 83, 72, 65, 75, 69, 45]⟩ : ByteArray) ++ (⟨#[49, 57, 50]⟩ : ByteArray) ++ (⟨#[115]⟩ : ByteArray)), 48, 96, 0, 16224, [2, 16, 840, 1, 101, 3, 4, 3, 28], -59, 0)
 | 16 => (0, 3, ((⟨#[83, 76, 72, 45, 68, 83, 65, 45, 83, 72, 65, 75, 69, 45]⟩ : ByteArray) ++ (⟨#[49, 57, 50]⟩ : ByteArray) ++ (⟨#[102]⟩ : ByteArray)), 48, 96, 0, 35664, [2, 16, 840, 1, 101, 3, 4, 3, 29], -60, 0)
 | 17 => (0, 3, ((⟨#[83, 76, 72, 45, 68, 83, 65, 45, 83, 72, 65, 75, 69, 45]⟩ : ByteArray) ++ (⟨#[50, 53, 54]⟩ : ByteArray) ++ (⟨#[115]⟩ : ByteArray)), 64, 128, 0, 29792, [2, 16, 840, 1, 101, 3, 4, 3, 30], -61, 0)
 | 18 => (0, 3, ((⟨#[83, 76, 72, 45, 68, 83, 65, 45, 83, 72, 65, 75, 69, 45]⟩ : ByteArray) ++ (⟨#[50, 53, 54]⟩ : ByteArray) ++ (⟨#[102]⟩ : ByteArray)), 64, 128, 0, 49856, [2, 16, 840, 1, 101, 3, 4, 3, 31], -62, 0)
 | _ => (0, 0, (⟨#[]⟩ : ByteArray), 0, 0, 0, 0, [], 0, 0)
def params_slh.f (a0 : Int) : Option (Int × Int × ByteArray × Int × Int × Int × Int × List Int × Int × Int) := if 7 ≤ a0 ∧ a0 ≤ 18 then some (slhT a0.toNat) else none
set_option maxRecDepth 100000 in
theorem params_slh.calls (a0 : Int) (r1 : Int) (r2 : Int) (r3 : ByteArray) (r4 : Int) (r5 : Int) (r6 : Int) (r7 : Int) (r8 : List Int) (r9 : Int) (r10 : Int) (w : World) (h : params_slh.f a0 = some (r1, r2, r3, r4, r5, r6, r7, r8, r9, r10)) (hG : GOK w) :
  Calls Tryz.prog 36 #[.int .i64 a0] w fun e w' => ∃ v7_ : Value, e = .returned (.agg #[.int .i64 r1, .int .i64 r2, .string r3, .int .i64 r4, .int .i64 r5, .int .i64 r6, .int .i64 r7, v7_, .int .i64 r9, .int .u32 r10]) ∧ Kd.R (Kd.int .u32) 22 w' w.heap.size (fun _ => True) v7_ r8 ∧ Below w.heap.size w w' := by
 by_cases c : 7 ≤ a0 ∧ a0 ≤ 18
 ·rcases (show a0 = 7 ∨ a0 = 8 ∨ a0 = 9 ∨ a0 = 10 ∨ a0 = 11 ∨ a0 = 12 ∨ a0 = 13 ∨ a0 = 14 ∨ a0 = 15 ∨ a0 = 16 ∨ a0 = 17 ∨ a0 = 18 by omega) with rfl | rfl | rfl | rfl | rfl | rfl | rfl | rfl | rfl | rfl | rfl | rfl
  ·rw [params_slh.f, if_pos c] at h
   have h := Option.some.inj h
   simp only [Prod.mk.injEq, slhT] at h
   obtain ⟨rfl, rfl, rfl, rfl, rfl, rfl, rfl, rfl, rfl, rfl⟩ := h
   exact slh_7 w hG
  ·rw [params_slh.f, if_pos c] at h
   have h := Option.some.inj h
   simp only [Prod.mk.injEq, slhT] at h
   obtain ⟨rfl, rfl, rfl, rfl, rfl, rfl, rfl, rfl, rfl, rfl⟩ := h
   exact slh_8 w hG
  ·rw [params_slh.f, if_pos c] at h
   have h := Option.some.inj h
   simp only [Prod.mk.injEq, slhT] at h
   obtain ⟨rfl, rfl, rfl, rfl, rfl, rfl, rfl, rfl, rfl, rfl⟩ := h
   exact slh_9 w hG
  ·rw [params_slh.f, if_pos c] at h
   have h := Option.some.inj h
   simp only [Prod.mk.injEq, slhT] at h
   obtain ⟨rfl, rfl, rfl, rfl, rfl, rfl, rfl, rfl, rfl, rfl⟩ := h
   exact slh_10 w hG
  ·rw [params_slh.f, if_pos c] at h
   have h := Option.some.inj h
   simp only [Prod.mk.injEq, slhT] at h
   obtain ⟨rfl, rfl, rfl, rfl, rfl, rfl, rfl, rfl, rfl, rfl⟩ := h
   exact slh_11 w hG
  ·rw [params_slh.f, if_pos c] at h
   have h := Option.some.inj h
   simp only [Prod.mk.injEq, slhT] at h
   obtain ⟨rfl, rfl, rfl, rfl, rfl, rfl, rfl, rfl, rfl, rfl⟩ := h
   exact slh_12 w hG
  ·rw [params_slh.f, if_pos c] at h
   have h := Option.some.inj h
   simp only [Prod.mk.injEq, slhT] at h
   obtain ⟨rfl, rfl, rfl, rfl, rfl, rfl, rfl, rfl, rfl, rfl⟩ := h
   exact slh_13 w hG
  ·rw [params_slh.f, if_pos c] at h
   have h := Option.some.inj h
   simp only [Prod.mk.injEq, slhT] at h
   obtain ⟨rfl, rfl, rfl, rfl, rfl, rfl, rfl, rfl, rfl, rfl⟩ := h
   exact slh_14 w hG
  ·rw [params_slh.f, if_pos c] at h
   have h := Option.some.inj h
   simp only [Prod.mk.injEq, slhT] at h
   obtain ⟨rfl, rfl, rfl, rfl, rfl, rfl, rfl, rfl, rfl, rfl⟩ := h
   exact slh_15 w hG
  ·rw [params_slh.f, if_pos c] at h
   have h := Option.some.inj h
   simp only [Prod.mk.injEq, slhT] at h
   obtain ⟨rfl, rfl, rfl, rfl, rfl, rfl, rfl, rfl, rfl, rfl⟩ := h
   exact slh_16 w hG
  ·rw [params_slh.f, if_pos c] at h
   have h := Option.some.inj h
   simp only [Prod.mk.injEq, slhT] at h
   obtain ⟨rfl, rfl, rfl, rfl, rfl, rfl, rfl, rfl, rfl, rfl⟩ := h
   exact slh_17 w hG
  ·rw [params_slh.f, if_pos c] at h
   have h := Option.some.inj h
   simp only [Prod.mk.injEq, slhT] at h
   obtain ⟨rfl, rfl, rfl, rfl, rfl, rfl, rfl, rfl, rfl, rfl⟩ := h
   exact slh_18 w hG
 ·rw [params_slh.f, if_neg c] at h
  cases h
end Go.Proofs.YtgmnknhfeoleaaaGreatDoor.PXmss
