import Derived.Test.YtgmnknhfeoleaaaGreatDoorZQ
import Derived.Test.YtgmnknhfeoleaaaGreatDoorZSq
import Derived.Test.YtgmnknhfeoleaaaGreatDoorZPXmssx0
import Derived.Test.YtgmnknhfeoleaaaGreatDoorZPXmssx8
import Derived.Test.YtgmnknhfeoleaaaGreatDoorZPXmssx13
import Derived.Test.YtgmnknhfeoleaaaGreatDoorZPXmssx14
namespace Go.Proofs.YtgmnknhfeoleaaaGreatDoor.PXmss
open Go.RowKit Go.Proofs.YtgmnknhfeoleaaaGreatDoorW.PrintWords Go.Proofs.YtgmnknhfeoleaaaGreatDoorW.PrintLast Go.Proofs.YtgmnknhfeoleaaaGreatDoorW.PrintMore
set_option linter.unusedVariables false
set_option linter.unusedSimpArgs false
set_option maxHeartbeats 8000000 in
set_option maxRecDepth 100000 in
theorem list_type (h : Nat → Bool) (q0 : Nat) (w : World) (hG : GOK w)
  (HF : ∀ (a : Nat) (p1 p2 : Int) (p3 : ByteArray) (p4 p5 p6 p7 : Int) (p8 : List Int) (p9 p10 : Int) (v : Value) (W : World), 1 ≤ a → a ≤ 25 → prow a = (p1, p2, p3, p4, p5, p6, p7, p8, p9, p10) → Below w.heap.size w W → Kd.R (Kd.int .u32) 22 W w.heap.size (fun _ => True) v p8 → Calls Tryz.prog 55 #[(.agg #[.int .i64 p1, .int .i64 p2, .string p3, .int .i64 p4, .int .i64 p5, .int .i64 p6, .int .i64 p7, v, .int .i64 p9, .int .u32 p10]), .pointer (some ⟨q0, 0, none⟩)] W fun e w' => e = .returned (.bool (h a)) ∧ Below W.heap.size W w') :
  Calls Tryz.prog 40 #[.func (.func 55) #[] #[.pointer (some ⟨q0, 0, none⟩)]] w fun e w' => ∃ v, e = .returned v ∧ Kd.R (Kd.int .i64) 3 w' w.heap.size (fun _ => True) v (algs h 25) ∧ Below w.heap.size w w' := by
 have HG := Aside0.mk hG
 have HFF := Aside0.mk HF
 clear hG HF
 have hu37 := Tryz.underlying45
 go_enter Tryz.func40, Tryz.ntmps40
 go_wp2
 go_loopg [3, 4] 25 (fun kq v3 v4 wr => ∃ (i : Nat) (out : List Int), v4 = .int .i64 ((i + 1 : Nat) : Int) ∧ Aside0 (i ≤ 25 ∧ kq = 25 - i) ∧ Aside0 (out = algs h i) ∧ Aside0 (Kd.R (Kd.int .i64) 3 wr w.heap.size (fun _ => True) v3 out) ∧ Aside0 (Below w.heap.size w wr))
 case atStart => exact ⟨0, [], rfl, ⟨by omega⟩, ⟨rfl⟩, ⟨Kd.R_nil _ _ _ _ _⟩, ⟨Below.refl _ _⟩⟩
 case round =>
  obtain ⟨i, out, rfl, HI, HO, HR, HB⟩ := hrel
  obtain ⟨hi, hk⟩ := HI.out
  obtain ⟨A3, c3, rfl⟩ := Kd.R_slice HR.out
  by_cases ci : i < 25
  ·have cb : decide (((i + 1 : Nat) : Int) ≤ 25) = true := decide_eq_true (by omega)
   have cb2 : decide (i + 1 ≤ 25) = true := decide_eq_true (by omega)
   obtain ⟨p1, p2, p3, p4, p5, p6, p7, p8, p9, p10, hp⟩ : ∃ p1 p2 p3 p4 p5 p6 p7 p8 p9 p10, prow (i + 1) = (p1, p2, p3, p4, p5, p6, p7, p8, p9, p10) := ⟨_, _, _, _, _, _, _, _, _, _, rfl⟩
   have hget := get_row (i + 1) (by omega) (by omega)
   rw [hp] at hget
   simp only [withB] at hget
   have hf := fun v W => HFF.out (i + 1) p1 p2 p3 p4 p5 p6 p7 p8 p9 p10 v W (by omega) (by omega) hp
   have hal : algs h (i + 1) = out ++ (if h (i + 1) then [((i + 1 : Nat) : Int)] else []) := by rw [algs, ← HO.out]
   have hlen := algs_len h i
   rw [← HO.out] at hlen
   have w1 : wrap64 (((i + 1 : Nat) : Int) + 1) = ((i + 1 + 1 : Nat) : Int) := by unfold wrap64; omega
   have HGET := Aside0.mk hget
   have HF1 := Aside0.mk hf
   have HAL := Aside0.mk hal
   have HI2 := Aside0.mk (show i < 25 ∧ gk = 25 - i from ⟨ci, hk⟩)
   have HLEN := Aside0.mk hlen
   clear hget hf hal hp hi hk HI hlen
   generalize hA : ((i + 1 : Nat) : Int) = A at *
   cases hh : h (i + 1) with
   | true =>
    go_wp2_with (first | (go_at_call 19; ((with_reducible refine (params_Get.calls 60 A p1 p2 p3 p4 p5 p6 p7 p8 p9 p10 true _ HGET.out (GOK.below HG.out HB.out)).mono ?_); rintro e w2 ⟨v_, rfl, ho0, hb⟩; obtain ⟨Ao, co, rfl⟩ := Kd.R_slice ho0; have HB2 := Aside0.mk (below_step HB.out hb); have HR2 := Aside0.mk (Kd.R_below HR.out hb); have HV := Aside0.mk (Kd.R_lower ho0 (below_size HB.out)); clear ho0 hb)) | (go_at_call 55; ((with_reducible refine (HF1.out (.slice Ao p8.length co) _ q59_ q61_).mono ?_); rintro e w3 ⟨rfl, hb⟩; rw [hh]; have HB3 := Aside0.mk (below_step q59_ hb); have HR3 := Aside0.mk (Kd.R_below q60_ hb); clear hb)) | ((with_reducible refine gate_builtin (b := .append) (xs := #[.tmp 19, .tmp 21]) rfl ?_); at_builtin; refine Kd.R_append (Kd.int .i64) (w0 := w) w.heap.size rfl (.tmp 19) (.tmp 21) 41 3 (.int .i64 0) 8 rfl Tryz.underlying41 info_intp rfl (by decide) (by omega) (.slice A3 out.length c3) out A [.int .i64 A] (fun _ => True) (fun _ => False) rfl rfl ?aP (fun _ hk => hk.elim) ?aF ?aO ?aB ?aS ?aL ?_; (case aP => exact rfl); (case aB => exact HB3.out); (case aF => exact (fun _ _ => trivial)); (case aO => exact HR3.out); (case aS => exact (below_size HB3.out)); (case aL => have := HLEN.out; have := HI2.out.1; omega); intro v1 w4 h1 hb1 hgr hat; have HR4 := Aside0.mk h1; have HB4 := Aside0.mk hb1; clear h1 hb1 hgr hat))
    go_roundg (25 - (i + 1))
    case measure => have := HI2.out; omega
    case rel => exact ⟨i + 1, _, by (congr 1; have := HI2.out.1; rw [← hA]; first | omega | (unfold wrap64; omega)), ⟨by have := HI2.out; omega⟩, ⟨by rw [HAL.out, hh]; rfl⟩, HR4, HB4⟩
   | false =>
    go_wp2_with (first | (go_at_call 19; ((with_reducible refine (params_Get.calls 60 A p1 p2 p3 p4 p5 p6 p7 p8 p9 p10 true _ HGET.out (GOK.below HG.out HB.out)).mono ?_); rintro e w2 ⟨v_, rfl, ho0, hb⟩; obtain ⟨Ao, co, rfl⟩ := Kd.R_slice ho0; have HB2 := Aside0.mk (below_step HB.out hb); have HR2 := Aside0.mk (Kd.R_below HR.out hb); have HV := Aside0.mk (Kd.R_lower ho0 (below_size HB.out)); clear ho0 hb)) | (go_at_call 55; ((with_reducible refine (HF1.out (.slice Ao p8.length co) _ q59_ q61_).mono ?_); rintro e w3 ⟨rfl, hb⟩; rw [hh]; have HB3 := Aside0.mk (below_step q59_ hb); have HR3 := Aside0.mk (Kd.R_below q60_ hb); clear hb)))
    go_roundg (25 - (i + 1))
    case measure => have := HI2.out; omega
    case rel => exact ⟨i + 1, _, by (congr 1; have := HI2.out.1; rw [← hA]; first | omega | (unfold wrap64; omega)), ⟨by have := HI2.out; omega⟩, ⟨by rw [HAL.out, hh]; simp⟩, HR3, HB3⟩
  ·have cb : decide (((i + 1 : Nat) : Int) ≤ 25) = false := decide_eq_false (by omega)
   have cb2 : decide (i + 1 ≤ 25) = false := decide_eq_false (by omega)
   have hi25 : i = 25 := by omega
   subst hi25
   clear HI hi hk
   go_wp2
   go_ret
   exact ⟨_, rfl, by rw [← HO.out]; exact HR.out, HB.out⟩
set_option maxHeartbeats 8000000 in
set_option maxRecDepth 100000 in
theorem one_type (h : Nat → Bool) (q0 : Nat) (w : World) (hG : GOK w)
  (HF : ∀ (a : Nat) (p1 p2 : Int) (p3 : ByteArray) (p4 p5 p6 p7 : Int) (p8 : List Int) (p9 p10 : Int) (v : Value) (W : World), 1 ≤ a → a ≤ 25 → prow a = (p1, p2, p3, p4, p5, p6, p7, p8, p9, p10) → Below w.heap.size w W → Kd.R (Kd.int .u32) 22 W w.heap.size (fun _ => True) v p8 → Calls Tryz.prog 55 #[(.agg #[.int .i64 p1, .int .i64 p2, .string p3, .int .i64 p4, .int .i64 p5, .int .i64 p6, .int .i64 p7, v, .int .i64 p9, .int .u32 p10]), .pointer (some ⟨q0, 0, none⟩)] W fun e w' => e = .returned (.bool (h a)) ∧ Below W.heap.size W w')
  (r1 r2 : Int) (r3 : ByteArray) (r4 r5 r6 r7 : Int) (r8 : List Int) (r9 r10 : Int) (r11 : Bool) (hr : oneP h = (r1, r2, r3, r4, r5, r6, r7, r8, r9, r10, r11)) :
  Calls Tryz.prog 54 #[.func (.func 55) #[] #[.pointer (some ⟨q0, 0, none⟩)]] w fun e w' => ∃ v7_ : Value, e = .returned (.tuple #[.agg #[.int .i64 r1, .int .i64 r2, .string r3, .int .i64 r4, .int .i64 r5, .int .i64 r6, .int .i64 r7, v7_, .int .i64 r9, .int .u32 r10], .bool r11]) ∧ Kd.R (Kd.int .u32) 22 w' w.heap.size (fun _ => True) v7_ r8 ∧ Below w.heap.size w w' := by
 have HL := Aside0.mk (fun (W : World) (hB : Below w.heap.size w W) => list_type h q0 W (GOK.below hG hB) (fun a p1 p2 p3 p4 p5 p6 p7 p8 p9 p10 v W' h1 h2 hp hb hv => HF a p1 p2 p3 p4 p5 p6 p7 p8 p9 p10 v W' h1 h2 hp (below_step hB hb) (Kd.R_lower hv (below_size hB))))
 have HG := Aside0.mk hG
 have HB := Aside0.mk (Below.refl w.heap.size w)
 clear hG HF
 have hu37 := Tryz.underlying45
 rw [oneP] at hr
 have hin := algs_in h 25
 generalize algs h 25 = L at HL hr hin
 cases L with
 | nil =>
  simp only [withB, prow, Prod.mk.injEq] at hr
  obtain ⟨rfl, rfl, rfl, rfl, rfl, rfl, rfl, rfl, rfl, rfl, rfl⟩ := hr
  clear hin
  have d0 : ((([] : List Int).length : Int) == 0) = true := rfl
  have d1 : decide ((([] : List Int).length : Int) = 0) = true := rfl
  go_enter Tryz.func54, Tryz.ntmps54
  go_wp2_with (first | ((with_reducible refine gate_dst (N := 2) rfl ?_); refine box_event ?hg (N := 2) ?hd (cs := #[.int .i64 0, .int .i64 0, .string (⟨#[]⟩ : ByteArray), .int .i64 0, .int .i64 0, .int .i64 0, .int .i64 0, .slice none 0 0, .int .i64 0, .int .u32 0]) (t := 45) ?hr ?_; (case hd => rfl); (case hg => rfl); (case hr => first | (go_simp; done) | (go_simp; rfl)); intro gb hg w5 hbox hb; have n0_ := Aside0.mk (below_step q30_ hb); have n1_ := Aside0.mk (hbox); have n2_ := Aside0.mk ((by rw [hg]; exact (below_size q30_) : w.heap.size ≤ gb)); clear HB; have HB := n0_; have BK := n1_; have GE := n2_; clear n0_ n1_ n2_; clear hb hbox hg) | (go_at_call 40; ((with_reducible refine (HL.out _ q28_).mono ?_); rintro e w6 ⟨v_, rfl, ho0, hb⟩; have n0_ := Aside0.mk (blk_below (g := gb) (o := .cells #[.int .i64 0, .int .i64 0, .string (⟨#[]⟩ : ByteArray), .int .i64 0, .int .i64 0, .int .i64 0, .int .i64 0, .slice none 0 0, .int .i64 0, .int .u32 0] 45 (0, 0)) q42_ hb); have n1_ := Aside0.mk (below_step q28_ hb); have n2_ := Aside0.mk (Kd.R_lower ho0 (below_size q28_)); clear BK HB ho0 hb; have BK := n0_; have HB := n1_; have HO := n2_; clear n0_ n1_ n2_; obtain ⟨A, c, rfl⟩ := Kd.R_slice HO.out; obtain ⟨hcz_0, hcz_1, hcz_2, hcz_3, hcz_4, hcz_5, hcz_6, hcz_7, hcz_8, hcz_9⟩ := cells10_ BK.out; obtain ⟨hfz_0, hfz_1, hfz_2, hfz_3, hfz_4, hfz_5, hfz_6, hfz_7, hfz_8, hfz_9⟩ := frz10_ BK.out)))
  refine bodyPost_ret (results_ct rfl _ _ gb 45 #[.int .i64 0, .int .i64 0, .string (⟨#[]⟩ : ByteArray), .int .i64 0, .int .i64 0, .int .i64 0, .int .i64 0, .slice none 0 0, .int .i64 0, .int .u32 0] (0, 0) _ rfl q31_ Tryz.underlying45 rfl (by kernel_rfl)) rfl ?_
  exact ⟨_, rfl, Kd.R_nil _ _ _ _ _, q28_⟩
 | cons a l =>
  obtain ⟨i, hi, h1, h2, _⟩ := hin a (by simp)
  have hget : params_Get.f 60 a = some (r1, r2, r3, r4, r5, r6, r7, r8, r9, r10, r11) := by
   rw [hi, get_row i h1 h2, ← hr]
   show _ = some (withB (prow a.toNat) true)
   rw [hi, Int.toNat_natCast]
  have HGET := Aside0.mk hget
  clear hget hr hin hi h1 h2
  have d0 : (((a :: l).length : Int) == 0) = false := by rw [beq_eq_false_iff_ne, List.length_cons]; omega
  have i0 : (0 < (a :: l).length) = True := eq_true (by simp)
  have j0 : ((0 : Int) < ((a :: l).length : Int)) = True := eq_true (by rw [List.length_cons]; omega)
  go_enter Tryz.func54, Tryz.ntmps54
  go_wp2_with (first | ((with_reducible refine gate_dst (N := 2) rfl ?_); refine box_event ?hg (N := 2) ?hd (cs := #[.int .i64 0, .int .i64 0, .string (⟨#[]⟩ : ByteArray), .int .i64 0, .int .i64 0, .int .i64 0, .int .i64 0, .slice none 0 0, .int .i64 0, .int .u32 0]) (t := 45) ?hr ?_; (case hd => rfl); (case hg => rfl); (case hr => first | (go_simp; done) | (go_simp; rfl)); intro gb hg w5 hbox hb; have n0_ := Aside0.mk (below_step q30_ hb); have n1_ := Aside0.mk (hbox); have n2_ := Aside0.mk ((by rw [hg]; exact (below_size q30_) : w.heap.size ≤ gb)); clear HB; have HB := n0_; have BK := n1_; have GE := n2_; clear n0_ n1_ n2_; clear hb hbox hg) | (go_at_call 40; ((with_reducible refine (HL.out _ q28_).mono ?_); rintro e w6 ⟨v_, rfl, ho0, hb⟩; have n0_ := Aside0.mk (blk_below (g := gb) (o := .cells #[.int .i64 0, .int .i64 0, .string (⟨#[]⟩ : ByteArray), .int .i64 0, .int .i64 0, .int .i64 0, .int .i64 0, .slice none 0 0, .int .i64 0, .int .u32 0] 45 (0, 0)) q42_ hb); have n1_ := Aside0.mk (below_step q28_ hb); have n2_ := Aside0.mk (Kd.R_lower ho0 (below_size q28_)); clear BK HB ho0 hb; have BK := n0_; have HB := n1_; have HO := n2_; clear n0_ n1_ n2_; obtain ⟨A, c, rfl⟩ := Kd.R_slice HO.out; obtain ⟨b, o, rfl, _, _, hblk, hcell⟩ := row_plain (Kd.R_reads' HO.out).2.2 (by simp); have x0 : w6.cell? ⟨b, o, none⟩ = some (.int .i64 a) := (hcell 0 (by simp)); clear hcell)) | (go_at_call 19; ((with_reducible refine (params_Get.calls 60 a r1 r2 r3 r4 r5 r6 r7 r8 r9 r10 r11 _ HGET.out (GOK.below HG.out q28_)).mono ?_); rintro e w7 ⟨v_, rfl, ho0, hb⟩; have n0_ := Aside0.mk (blk_below (g := gb) (o := .cells #[.int .i64 0, .int .i64 0, .string (⟨#[]⟩ : ByteArray), .int .i64 0, .int .i64 0, .int .i64 0, .int .i64 0, .slice none 0 0, .int .i64 0, .int .u32 0] 45 (0, 0)) q42_ hb); have n1_ := Aside0.mk (below_step q28_ hb); have n2_ := Aside0.mk (Kd.R_lower ho0 (below_size q28_)); clear BK HB HO ho0 hb; have BK := n0_; have HB := n1_; have HO := n2_; clear n0_ n1_ n2_; obtain ⟨Ao8, co8, rfl⟩ := Kd.R_slice HO.out; obtain ⟨hcz_0, hcz_1, hcz_2, hcz_3, hcz_4, hcz_5, hcz_6, hcz_7, hcz_8, hcz_9⟩ := cells10_ BK.out; obtain ⟨hfz_0, hfz_1, hfz_2, hfz_3, hfz_4, hfz_5, hfz_6, hfz_7, hfz_8, hfz_9⟩ := frz10_ BK.out)))
  refine bodyPost_ret (results_ct rfl _ _ gb 45 #[.int .i64 r1, .int .i64 r2, .string r3, .int .i64 r4, .int .i64 r5, .int .i64 r6, .int .i64 r7, .slice Ao8 r8.length co8, .int .i64 r9, .int .u32 r10] (0, 0) _ rfl q31_ Tryz.underlying45 rfl (by kernel_rfl)) rfl ?_
  exact ⟨_, rfl, by (with_reducible repeat (first | apply Kd.R_alloc | apply Kd.R_drewN | apply Kd.R_drew)); exact farR_0123456789_ (Kd.R_types HO.out BK.out (by decide)), q28_⟩
def params_ByType.f (a0 : Int) : Option (Int × Int × ByteArray × Int × Int × Int × Int × List Int × Int × Int × Bool) := some (oneP (fun a => a0 != 0 && (prow a).2.2.2.2.2.2.2.2.2 == a0))
set_option maxHeartbeats 8000000 in
set_option maxRecDepth 100000 in
theorem params_ByType.calls (a0 : Int) (r1 r2 : Int) (r3 : ByteArray) (r4 r5 r6 r7 : Int) (r8 : List Int) (r9 r10 : Int) (r11 : Bool) (w : World) (h : params_ByType.f a0 = some (r1, r2, r3, r4, r5, r6, r7, r8, r9, r10, r11)) (hG : GOK w) :
  Calls Tryz.prog 31 #[.int .u32 a0] w fun e w' => ∃ v7_ : Value, e = .returned (.tuple #[.agg #[.int .i64 r1, .int .i64 r2, .string r3, .int .i64 r4, .int .i64 r5, .int .i64 r6, .int .i64 r7, v7_, .int .i64 r9, .int .u32 r10], .bool r11]) ∧ Kd.R (Kd.int .u32) 22 w' w.heap.size (fun _ => True) v7_ r8 ∧ Below w.heap.size w w' := by
 have hr := Option.some.inj h
 have HONE := Aside0.mk (fun (W : World) (hq : W.cell? ⟨w.heap.size, 0, none⟩ = some (.int .u32 a0)) (hB : Below w.heap.size w W) => one_type (fun a => a0 != 0 && (prow a).2.2.2.2.2.2.2.2.2 == a0) w.heap.size W (GOK.below hG hB) (fun a p1 p2 p3 p4 p5 p6 p7 p8 p9 p10 v W' h1 h2 hp hb hv => by
  have hc := (hb.cell (p := ⟨w.heap.size, 0, none⟩) (World.block_lt_of_cell? W _ hq)).trans hq
  have hk := byType_clo p1 p2 p3 p4 p5 p6 p7 v p9 p10 a0 w.heap.size W' hc
  show Calls _ _ _ _ fun e w' => e = .returned (.bool ((fun a => a0 != 0 && (prow a).2.2.2.2.2.2.2.2.2 == a0) a)) ∧ _
  simp only [hp]
  exact hk) r1 r2 r3 r4 r5 r6 r7 r8 r9 r10 r11 hr)
 have HB := Aside0.mk (Below.refl w.heap.size w)
 clear hr h hG
 have hu37 := Tryz.underlying45
 go_enter Tryz.func31, Tryz.ntmps31
 go_wp2_with (first | ((with_reducible refine gate_dst (N := 2) rfl ?_); refine box_event ?hg (N := 2) ?hd (cs := #[.int .i64 0, .int .i64 0, .string (⟨#[]⟩ : ByteArray), .int .i64 0, .int .i64 0, .int .i64 0, .int .i64 0, .slice none 0 0, .int .i64 0, .int .u32 0]) (t := 45) ?hr ?_; (case hd => rfl); (case hg => rfl); (case hr => first | (go_simp; done) | (go_simp; rfl)); intro gb hg w5 hbox hb; have n9_ := hb; have n0_ := Aside0.mk (below_step q30_ hb); have n1_ := Aside0.mk (hbox); have n2_ := Aside0.mk ((by rw [hg]; exact (below_size q30_) : w.heap.size ≤ gb)); clear HB; have HB := n0_; have BK := n1_; have GE := n2_; clear n0_ n1_ n2_; have HQ := Aside0.mk (show w5.cell? ⟨w.heap.size, 0, none⟩ = some (.int .u32 a0) from (n9_.cell (p := ⟨w.heap.size, 0, none⟩) (by simp)).trans (by simp)); clear n9_ hbox hg) | (go_at_call 54; ((with_reducible refine (HONE.out _ (by first | exact HQ.out | (simp; exact HQ.out)) q28_).mono ?_); rintro e w6 ⟨v_, rfl, ho0, hb⟩; have n0_ := Aside0.mk (blk_below (g := gb) (o := .cells #[.int .i64 0, .int .i64 0, .string (⟨#[]⟩ : ByteArray), .int .i64 0, .int .i64 0, .int .i64 0, .int .i64 0, .slice none 0 0, .int .i64 0, .int .u32 0] 45 (0, 0)) q42_ hb); have n1_ := Aside0.mk (below_step q28_ hb); have n2_ := Aside0.mk (Kd.R_lower ho0 (below_size q28_)); clear BK HB ho0 hb; have BK := n0_; have HB := n1_; have HO := n2_; clear n0_ n1_ n2_; obtain ⟨Ao8, co8, rfl⟩ := Kd.R_slice HO.out; obtain ⟨hcz_0, hcz_1, hcz_2, hcz_3, hcz_4, hcz_5, hcz_6, hcz_7, hcz_8, hcz_9⟩ := cells10_ BK.out; obtain ⟨hfz_0, hfz_1, hfz_2, hfz_3, hfz_4, hfz_5, hfz_6, hfz_7, hfz_8, hfz_9⟩ := frz10_ BK.out)))
 refine bodyPost_ret (results_ct rfl _ _ gb 45 #[.int .i64 r1, .int .i64 r2, .string r3, .int .i64 r4, .int .i64 r5, .int .i64 r6, .int .i64 r7, .slice Ao8 r8.length co8, .int .i64 r9, .int .u32 r10] (0, 0) _ rfl q31_ Tryz.underlying45 rfl (by kernel_rfl)) rfl ?_
 exact ⟨_, rfl, by (with_reducible repeat (first | apply Kd.R_alloc | apply Kd.R_drewN | apply Kd.R_drew)); exact farR_0123456789_ (Kd.R_types HO.out BK.out (by decide)), q28_⟩
end Go.Proofs.YtgmnknhfeoleaaaGreatDoor.PXmss
