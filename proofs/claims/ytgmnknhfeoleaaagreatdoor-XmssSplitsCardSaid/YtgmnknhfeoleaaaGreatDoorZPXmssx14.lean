import Derived.Test.YtgmnknhfeoleaaaGreatDoorZQ
import Derived.Test.YtgmnknhfeoleaaaGreatDoorZPXmssx0
import Derived.Test.YtgmnknhfeoleaaaGreatDoorZPXmssx13
namespace Go.Proofs.YtgmnknhfeoleaaaGreatDoor.PXmss
open Go.RowKit Go.Proofs.YtgmnknhfeoleaaaGreatDoorW.PrintWords Go.Proofs.YtgmnknhfeoleaaaGreatDoorW.PrintLast Go.Proofs.YtgmnknhfeoleaaaGreatDoorW.PrintMore
set_option linter.unusedVariables false
set_option linter.unusedSimpArgs false
def prow : Nat → Int × Int × ByteArray × Int × Int × Int × Int × List Int × Int × Int
 | 1 => (1, 1, ⟨#[77, 76, 45, 75, 69, 77, 45, 53, 49, 50]⟩, 800, 1632, 64, 0, [2, 16, 840, 1, 101, 3, 4, 4, 1], -111, 0)
 | 2 => (2, 1, ⟨#[77, 76, 45, 75, 69, 77, 45, 55, 54, 56]⟩, 1184, 2400, 64, 0, [2, 16, 840, 1, 101, 3, 4, 4, 2], -112, 0)
 | 3 => (3, 1, ⟨#[77, 76, 45, 75, 69, 77, 45, 49, 48, 50, 52]⟩, 1568, 3168, 64, 0, [2, 16, 840, 1, 101, 3, 4, 4, 3], -113, 0)
 | 4 => (4, 2, ⟨#[77, 76, 45, 68, 83, 65, 45, 52, 52]⟩, 1312, 2560, 32, 2420, [2, 16, 840, 1, 101, 3, 4, 3, 17], -48, 0)
 | 5 => (5, 2, ⟨#[77, 76, 45, 68, 83, 65, 45, 54, 53]⟩, 1952, 4032, 32, 3309, [2, 16, 840, 1, 101, 3, 4, 3, 18], -49, 0)
 | 6 => (6, 2, ⟨#[77, 76, 45, 68, 83, 65, 45, 56, 55]⟩, 2592, 4896, 32, 4627, [2, 16, 840, 1, 101, 3, 4, 3, 19], -50, 0)
 | 7 => (7, 3, ⟨#[83, 76, 72, 45, 68, 83, 65, 45, 83, 72, 65, 50, 45, 49, 50, 56, 115]⟩, 32, 64, 0, 7856, [2, 16, 840, 1, 101, 3, 4, 3, 20], -51, 0)
 | 8 => (8, 3, ⟨#[83, 76, 72, 45, 68, 83, 65, 45, 83, 72, 65, 50, 45, 49, 50, 56, 102]⟩, 32, 64, 0, 17088, [2, 16, 840, 1, 101, 3, 4, 3, 21], -52, 0)
 | 9 => (9, 3, ⟨#[83, 76, 72, 45, 68, 83, 65, 45, 83, 72, 65, 50, 45, 49, 57, 50, 115]⟩, 48, 96, 0, 16224, [2, 16, 840, 1, 101, 3, 4, 3, 22], -53, 0)
 | 10 => (10, 3, ⟨#[83, 76, 72, 45, 68, 83, 65, 45, 83, 72, 65, 50, 45, 49, 57, 50, 102]⟩, 48, 96, 0, 35664, [2, 16, 840, 1, 101, 3, 4, 3, 23], -54, 0)
 | 11 => (11, 3, ⟨#[83, 76, 72, 45, 68, 83, 65, 45, 83, 72, 65, 50, 45, 50, 53, 54, 115]⟩, 64, 128, 0, 29792, [2, 16, 840, 1, 101, 3, 4, 3, 24], -55, 0)
 | 12 => (12, 3, ⟨#[83, 76, 72, 45, 68, 83, 65, 45, 83, 72, 65, 50, 45, 50, 53, 54, 102]⟩, 64, 128, 0, 49856, [2, 16, 840, 1, 101, 3, 4, 3, 25], -56, 0)
 | 13 => (13, 3, ⟨#[83, 76, 72, 45, 68, 83, 65, 45, 83, 72, 65, 75, 69, 45, 49, 50, 56, 115]⟩, 32, 64, 0, 7856, [2, 16, 840, 1, 101, 3, 4, 3, 26], -57, 0)
 | 14 => (14, 3, ⟨#[83, 76, 72, 45, 68, 83, 65, 45, 83, 72, 65, 75, 69, 45, 49, 50, 56, 102]⟩, 32, 64, 0, 17088, [2, 16, 840, 1, 101, 3, 4, 3, 27], -58, 0)
 | 15 => (15, 3, ⟨#[83, 76, 72, 45, 68, 83, 65, 45, 83, 72, 65, 75, 69, 45, 49, 57, 50, 115]⟩, 48, 96, 0, 16224, [2, 16, 840, 1, 101, 3, 4, 3, 28], -59, 0)
 | 16 => (16, 3, ⟨#[83, 76, 72, 45, 68, 83, 65, 45, 83, 72, 65, 75, 69, 45, 49, 57, 50, 102]⟩, 48, 96, 0, 35664, [2, 16, 840, 1, 101, 3, 4, 3, 29], -60, 0)
 | 17 => (17, 3, ⟨#[83, 76, 72, 45, 68, 83, 65, 45, 83, 72, 65, 75, 69, 45, 50, 53, 54, 115]⟩, 64, 128, 0, 29792, [2, 16, 840, 1, 101, 3, 4, 3, 30], -61, 0)
 | 18 => (18, 3, ⟨#[83, 76, 72, 45, 68, 83, 65, 45, 83, 72, 65, 75, 69, 45, 50, 53, 54, 102]⟩, 64, 128, 0, 49856, [2, 16, 840, 1, 101, 3, 4, 3, 31], -62, 0)
 | 19 => (19, 4, ⟨#[72, 83, 83, 47, 76, 77, 83]⟩, 0, 0, 0, 0, [1, 2, 840, 113549, 1, 9, 16, 3, 17], 0, 0)
 | 20 => (20, 5, ⟨#[88, 77, 83, 83, 45, 83, 72, 65, 50, 95, 49, 48, 95, 50, 53, 54]⟩, 68, 0, 0, 2500, [1, 3, 6, 1, 5, 5, 7, 6, 34], 0, 1)
 | 21 => (21, 5, ⟨#[88, 77, 83, 83, 45, 83, 72, 65, 50, 95, 49, 54, 95, 50, 53, 54]⟩, 68, 0, 0, 2692, [1, 3, 6, 1, 5, 5, 7, 6, 34], 0, 2)
 | 22 => (22, 5, ⟨#[88, 77, 83, 83, 45, 83, 72, 65, 50, 95, 50, 48, 95, 50, 53, 54]⟩, 68, 0, 0, 2820, [1, 3, 6, 1, 5, 5, 7, 6, 34], 0, 3)
 | 23 => (23, 5, ⟨#[88, 77, 83, 83, 45, 83, 72, 65, 50, 95, 49, 48, 95, 53, 49, 50]⟩, 132, 0, 0, 9092, [1, 3, 6, 1, 5, 5, 7, 6, 34], 0, 4)
 | 24 => (24, 5, ⟨#[88, 77, 83, 83, 45, 83, 72, 65, 50, 95, 49, 54, 95, 53, 49, 50]⟩, 132, 0, 0, 9476, [1, 3, 6, 1, 5, 5, 7, 6, 34], 0, 5)
 | 25 => (25, 5, ⟨#[88, 77, 83, 83, 45, 83, 72, 65, 50, 95, 50, 48, 95, 53, 49, 50]⟩, 132, 0, 0, 9732, [1, 3, 6, 1, 5, 5, 7, 6, 34], 0, 6)
 | _ => (0, 0, ⟨#[]⟩, 0, 0, 0, 0, [], 0, 0)
def withB (p : Int × Int × ByteArray × Int × Int × Int × Int × List Int × Int × Int) (b : Bool) : Int × Int × ByteArray × Int × Int × Int × Int × List Int × Int × Int × Bool := (p.1, p.2.1, p.2.2.1, p.2.2.2.1, p.2.2.2.2.1, p.2.2.2.2.2.1, p.2.2.2.2.2.2.1, p.2.2.2.2.2.2.2.1, p.2.2.2.2.2.2.2.2.1, p.2.2.2.2.2.2.2.2.2, b)
set_option maxRecDepth 100000 in
theorem get_row (a : Nat) (h1 : 1 ≤ a) (h2 : a ≤ 25) : params_Get.f 60 (a : Int) = some (withB (prow a) true) := by
 rcases (show a = 1 ∨ a = 2 ∨ a = 3 ∨ a = 4 ∨ a = 5 ∨ a = 6 ∨ a = 7 ∨ a = 8 ∨ a = 9 ∨ a = 10 ∨ a = 11 ∨ a = 12 ∨ a = 13 ∨ a = 14 ∨ a = 15 ∨ a = 16 ∨ a = 17 ∨ a = 18 ∨ a = 19 ∨ a = 20 ∨ a = 21 ∨ a = 22 ∨ a = 23 ∨ a = 24 ∨ a = 25 by omega) with rfl | rfl | rfl | rfl | rfl | rfl | rfl | rfl | rfl | rfl | rfl | rfl | rfl | rfl | rfl | rfl | rfl | rfl | rfl | rfl | rfl | rfl | rfl | rfl | rfl
 ·kernel_rfl
 ·kernel_rfl
 ·kernel_rfl
 ·kernel_rfl
 ·kernel_rfl
 ·kernel_rfl
 ·kernel_rfl
 ·kernel_rfl
 ·kernel_rfl
 ·kernel_rfl
 ·kernel_rfl
 ·kernel_rfl
 ·kernel_rfl
 ·kernel_rfl
 ·kernel_rfl
 ·kernel_rfl
 ·kernel_rfl
 ·kernel_rfl
 ·kernel_rfl
 ·kernel_rfl
 ·kernel_rfl
 ·kernel_rfl
 ·kernel_rfl
 ·kernel_rfl
 ·kernel_rfl
def algs (h : Nat → Bool) : Nat → List Int
 | 0 => []
 | n + 1 => algs h n ++ (if h (n + 1) then [((n + 1 : Nat) : Int)] else [])
theorem algs_len (h : Nat → Bool) : ∀ n, (algs h n).length ≤ n := by
 intro n
 induction n with
 | zero => simp [algs]
 | succ n ih =>
  rw [algs, List.length_append]
  split
  ·simp; omega
  ·simp; omega
theorem info_intp : (Tryz.prog.info? 3).map (fun i => (i.zero, i.size, i.bytes)) = some (some (.int .i64 0), 1, 8) := by kernel_rfl
def oneP (h : Nat → Bool) : Int × Int × ByteArray × Int × Int × Int × Int × List Int × Int × Int × Bool := match algs h 25 with
 | [] => withB (prow 0) false
 | a :: _ => withB (prow a.toNat) true
theorem algs_in (h : Nat → Bool) : ∀ n a, a ∈ algs h n → ∃ i : Nat, a = (i : Int) ∧ 1 ≤ i ∧ i ≤ n ∧ h i = true := by
 intro n
 induction n with
 | zero => intro a ha; simp [algs] at ha
 | succ n ih =>
  intro a ha
  rw [algs, List.mem_append] at ha
  rcases ha with ha | ha
  ·obtain ⟨i, e, h1, h2, h3⟩ := ih a ha
   exact ⟨i, e, h1, by omega, h3⟩
  ·split at ha
   ·rename_i hh
    simp only [List.mem_singleton] at ha
    exact ⟨n + 1, ha, by omega, by omega, hh⟩
   ·cases ha
set_option maxHeartbeats 4000000 in
set_option maxRecDepth 100000 in
theorem byType_clo (p1 p2 : Int) (p3 : ByteArray) (p4 p5 p6 p7 : Int) (v : Value) (p9 p10 : Int) (n : Int) (q : Nat) (W : World) (hc : W.cell? ⟨q, 0, none⟩ = some (.int .u32 n)) :
  Calls Tryz.prog 55 #[.agg #[.int .i64 p1, .int .i64 p2, .string p3, .int .i64 p4, .int .i64 p5, .int .i64 p6, .int .i64 p7, v, .int .i64 p9, .int .u32 p10], .pointer (some ⟨q, 0, none⟩)] W fun e w' => e = .returned (.bool (n != 0 && p10 == n)) ∧ Below W.heap.size W w' := by
 have hu := Tryz.underlying45
 have hq := World.block_lt_of_cell? W _ hc
 go_enter Tryz.func55, Tryz.ntmps55
 go_wp2
 all_goals
  go_ret
  exact ⟨by first | rfl | (simp_all; done) | (simp_all; rfl), by repeat (first | exact Below.refl _ _ | apply below_alloc)⟩
set_option maxHeartbeats 4000000 in
set_option maxRecDepth 100000 in
theorem bySize_clo (p1 p2 : Int) (p3 : ByteArray) (p4 p5 p6 p7 : Int) (v : Value) (p9 p10 : Int) (fam sig : Int) (q1 q2 : Nat) (W : World) (hs : W.cell? ⟨q1, 0, none⟩ = some (.int .i64 sig)) (hf : W.cell? ⟨q2, 0, none⟩ = some (.int .i64 fam)) :
  Calls Tryz.prog 41 #[.agg #[.int .i64 p1, .int .i64 p2, .string p3, .int .i64 p4, .int .i64 p5, .int .i64 p6, .int .i64 p7, v, .int .i64 p9, .int .u32 p10], .pointer (some ⟨q1, 0, none⟩), .pointer (some ⟨q2, 0, none⟩)] W fun e w' => e = .returned (.bool (sig != 0 && p2 == fam && p7 == sig)) ∧ Below W.heap.size W w' := by
 have hu := Tryz.underlying45
 have hq := World.block_lt_of_cell? W _ hs
 have hq2 := World.block_lt_of_cell? W _ hf
 go_enter Tryz.func41, Tryz.ntmps41
 go_wp2
 all_goals
  go_ret
  exact ⟨by first | rfl | (simp_all; done) | (simp_all; rfl), by repeat (first | exact Below.refl _ _ | apply below_alloc)⟩
set_option maxHeartbeats 8000000 in
set_option maxRecDepth 100000 in
theorem list_size (h : Nat → Bool) (q0 q1 : Nat) (w : World) (hG : GOK w)
  (HF : ∀ (a : Nat) (p1 p2 : Int) (p3 : ByteArray) (p4 p5 p6 p7 : Int) (p8 : List Int) (p9 p10 : Int) (v : Value) (W : World), 1 ≤ a → a ≤ 25 → prow a = (p1, p2, p3, p4, p5, p6, p7, p8, p9, p10) → Below w.heap.size w W → Kd.R (Kd.int .u32) 22 W w.heap.size (fun _ => True) v p8 → Calls Tryz.prog 41 #[(.agg #[.int .i64 p1, .int .i64 p2, .string p3, .int .i64 p4, .int .i64 p5, .int .i64 p6, .int .i64 p7, v, .int .i64 p9, .int .u32 p10]), .pointer (some ⟨q0, 0, none⟩), .pointer (some ⟨q1, 0, none⟩)] W fun e w' => e = .returned (.bool (h a)) ∧ Below W.heap.size W w') :
  Calls Tryz.prog 40 #[.func (.func 41) #[] #[.pointer (some ⟨q0, 0, none⟩), .pointer (some ⟨q1, 0, none⟩)]] w fun e w' => ∃ v, e = .returned v ∧ Kd.R (Kd.int .i64) 3 w' w.heap.size (fun _ => True) v (algs h 25) ∧ Below w.heap.size w w' := by
 have HG := Aside0.mk hG
 have HFF := Aside0.mk HF
 clear hG HF
 have hu37 := Tryz.underlying45
 go_enter Tryz.func40, Tryz.ntmps40
 go_wp2
 go_loopg [3, 4] 25 (fun kq v3 v4 wr => ∃ (i : Nat) (out : List Int), v4 = .int .i64 ((i + 1 : Nat) : Int) ∧ Aside0 (i ≤ 25 ∧ kq = 25 - i) ∧ Aside0 (out = algs h i) ∧ Aside0 (Kd.R (Kd.int .i64) 3 wr w.heap.size (fun _ => True) v3 out) ∧ Aside0 (Below w.heap.size w wr))
 case atStart => exact ⟨0, [], rfl, ⟨by omega⟩, ⟨rfl⟩, ⟨Kd.R_nil _ _ _ _ _⟩, ⟨Below.refl _ _⟩⟩
 case round =>
  obtain ⟨i, out, rfl, HI, HO, HR, HB⟩ := hrel
  obtain ⟨hi, hk⟩ := HI.out
  obtain ⟨A3, c3, rfl⟩ := Kd.R_slice HR.out
  by_cases ci : i < 25
  ·have cb : decide (((i + 1 : Nat) : Int) ≤ 25) = true := decide_eq_true (by omega)
   have cb2 : decide (i + 1 ≤ 25) = true := decide_eq_true (by omega)
   obtain ⟨p1, p2, p3, p4, p5, p6, p7, p8, p9, p10, hp⟩ : ∃ p1 p2 p3 p4 p5 p6 p7 p8 p9 p10, prow (i + 1) = (p1, p2, p3, p4, p5, p6, p7, p8, p9, p10) := ⟨_, _, _, _, _, _, _, _, _, _, rfl⟩
   have hget := get_row (i + 1) (by omega) (by omega)
   rw [hp] at hget
   simp only [withB] at hget
   have hf := fun v W => HFF.out (i + 1) p1 p2 p3 p4 p5 p6 p7 p8 p9 p10 v W (by omega) (by omega) hp
   have hal : algs h (i + 1) = out ++ (if h (i + 1) then [((i + 1 : Nat) : Int)] else []) := by rw [algs, ← HO.out]
   have hlen := algs_len h i
   rw [← HO.out] at hlen
   have w1 : wrap64 (((i + 1 : Nat) : Int) + 1) = ((i + 1 + 1 : Nat) : Int) := by unfold wrap64; omega
   have HGET := Aside0.mk hget
   have HF1 := Aside0.mk hf
   have HAL := Aside0.mk hal
   have HI2 := Aside0.mk (show i < 25 ∧ gk = 25 - i from ⟨ci, hk⟩)
   have HLEN := Aside0.mk hlen
   clear hget hf hal hp hi hk HI hlen
   generalize hA : ((i + 1 : Nat) : Int) = A at *
   cases hh : h (i + 1) with
   | true =>
    go_wp2_with (first | (go_at_call 19; ((with_reducible refine (params_Get.calls 60 A p1 p2 p3 p4 p5 p6 p7 p8 p9 p10 true _ HGET.out (GOK.below HG.out HB.out)).mono ?_); rintro e w2 ⟨v_, rfl, ho0, hb⟩; obtain ⟨Ao, co, rfl⟩ := Kd.R_slice ho0; have HB2 := Aside0.mk (below_step HB.out hb); have HR2 := Aside0.mk (Kd.R_below HR.out hb); have HV := Aside0.mk (Kd.R_lower ho0 (below_size HB.out)); clear ho0 hb)) | (go_at_call 41; ((with_reducible refine (HF1.out (.slice Ao p8.length co) _ q59_ q61_).mono ?_); rintro e w3 ⟨rfl, hb⟩; rw [hh]; have HB3 := Aside0.mk (below_step q59_ hb); have HR3 := Aside0.mk (Kd.R_below q60_ hb); clear hb)) | ((with_reducible refine gate_builtin (b := .append) (xs := #[.tmp 19, .tmp 21]) rfl ?_); at_builtin; refine Kd.R_append (Kd.int .i64) (w0 := w) w.heap.size rfl (.tmp 19) (.tmp 21) 41 3 (.int .i64 0) 8 rfl Tryz.underlying41 info_intp rfl (by decide) (by omega) (.slice A3 out.length c3) out A [.int .i64 A] (fun _ => True) (fun _ => False) rfl rfl ?aP (fun _ hk => hk.elim) ?aF ?aO ?aB ?aS ?aL ?_; (case aP => exact rfl); (case aB => exact HB3.out); (case aF => exact (fun _ _ => trivial)); (case aO => exact HR3.out); (case aS => exact (below_size HB3.out)); (case aL => have := HLEN.out; have := HI2.out.1; omega); intro v1 w4 h1 hb1 hgr hat; have HR4 := Aside0.mk h1; have HB4 := Aside0.mk hb1; clear h1 hb1 hgr hat))
    go_roundg (25 - (i + 1))
    case measure => have := HI2.out; omega
    case rel => exact ⟨i + 1, _, by (congr 1; have := HI2.out.1; rw [← hA]; first | omega | (unfold wrap64; omega)), ⟨by have := HI2.out; omega⟩, ⟨by rw [HAL.out, hh]; rfl⟩, HR4, HB4⟩
   | false =>
    go_wp2_with (first | (go_at_call 19; ((with_reducible refine (params_Get.calls 60 A p1 p2 p3 p4 p5 p6 p7 p8 p9 p10 true _ HGET.out (GOK.below HG.out HB.out)).mono ?_); rintro e w2 ⟨v_, rfl, ho0, hb⟩; obtain ⟨Ao, co, rfl⟩ := Kd.R_slice ho0; have HB2 := Aside0.mk (below_step HB.out hb); have HR2 := Aside0.mk (Kd.R_below HR.out hb); have HV := Aside0.mk (Kd.R_lower ho0 (below_size HB.out)); clear ho0 hb)) | (go_at_call 41; ((with_reducible refine (HF1.out (.slice Ao p8.length co) _ q59_ q61_).mono ?_); rintro e w3 ⟨rfl, hb⟩; rw [hh]; have HB3 := Aside0.mk (below_step q59_ hb); have HR3 := Aside0.mk (Kd.R_below q60_ hb); clear hb)))
    go_roundg (25 - (i + 1))
    case measure => have := HI2.out; omega
    case rel => exact ⟨i + 1, _, by (congr 1; have := HI2.out.1; rw [← hA]; first | omega | (unfold wrap64; omega)), ⟨by have := HI2.out; omega⟩, ⟨by rw [HAL.out, hh]; simp⟩, HR3, HB3⟩
  ·have cb : decide (((i + 1 : Nat) : Int) ≤ 25) = false := decide_eq_false (by omega)
   have cb2 : decide (i + 1 ≤ 25) = false := decide_eq_false (by omega)
   have hi25 : i = 25 := by omega
   subst hi25
   clear HI hi hk
   go_wp2
   go_ret
   exact ⟨_, rfl, by rw [← HO.out]; exact HR.out, HB.out⟩
def params_BySize.f (a0 a1 : Int) : Option (List Int) := some (algs (fun a => a1 != 0 && (prow a).2.1 == a0 && (prow a).2.2.2.2.2.2.1 == a1) 25)
set_option maxHeartbeats 8000000 in
set_option maxRecDepth 100000 in
theorem params_BySize.calls (a0 a1 : Int) (r : List Int) (w : World) (h : params_BySize.f a0 a1 = some r) (hG : GOK w) :
  Calls Tryz.prog 20 #[.int .i64 a0, .int .i64 a1] w fun e w' => ∃ v0_ : Value, e = .returned v0_ ∧ Kd.R (Kd.int .i64) 3 w' w.heap.size (fun _ => True) v0_ r ∧ Below w.heap.size w w' := by
 obtain rfl := Option.some.inj h
 clear h
 have HL := Aside0.mk (fun (W : World) (hs : W.cell? ⟨w.heap.size + 1, 0, none⟩ = some (.int .i64 a1)) (hf : W.cell? ⟨w.heap.size, 0, none⟩ = some (.int .i64 a0)) (hB : Below w.heap.size w W) => list_size (fun a => a1 != 0 && (prow a).2.1 == a0 && (prow a).2.2.2.2.2.2.1 == a1) (w.heap.size + 1) w.heap.size W (GOK.below hG hB) (fun a p1 p2 p3 p4 p5 p6 p7 p8 p9 p10 v W' h1 h2 hp hb hv => by
  have hc := (hb.cell (p := ⟨w.heap.size + 1, 0, none⟩) (World.block_lt_of_cell? W _ hs)).trans hs
  have hc2 := (hb.cell (p := ⟨w.heap.size, 0, none⟩) (World.block_lt_of_cell? W _ hf)).trans hf
  have hk := bySize_clo p1 p2 p3 p4 p5 p6 p7 v p9 p10 a0 a1 (w.heap.size + 1) w.heap.size W' hc hc2
  simp only [hp]
  exact hk))
 clear hG
 go_enter Tryz.func20, Tryz.ntmps20
 go_wp2_with (go_at_call 40; ((with_reducible refine (HL.out _ (by simp) (by simp) (by repeat (first | exact Below.refl _ _ | apply below_alloc | apply pw_below_drewN))).mono ?_); rintro e w2 ⟨v_, rfl, ho0, hb⟩; have HO := Aside0.mk ho0; have HB := Aside0.mk hb; clear ho0 hb; obtain ⟨A9, c9, rfl⟩ := Kd.R_slice HO.out))
 go_ret
 exact ⟨_, rfl, Kd.R_lower HO.out (by simp; try omega), below_step (by repeat (first | exact Below.refl _ _ | apply below_alloc | apply pw_below_drewN)) HB.out⟩
end Go.Proofs.YtgmnknhfeoleaaaGreatDoor.PXmss
