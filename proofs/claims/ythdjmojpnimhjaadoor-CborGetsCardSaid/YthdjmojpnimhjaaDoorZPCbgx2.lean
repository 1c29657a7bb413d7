import Derived.Test.YthdjmojpnimhjaaDoorZPCbgx0
import Derived.Test.YthdjmojpnimhjaaDoorZPCbgx1
namespace Go.Proofs.YthdjmojpnimhjaaDoor.PCbg
open Go.RowKit Go.Proofs.YthdjmojpnimhjaaDoorW.PrintWords Go.Proofs.YthdjmojpnimhjaaDoorW.PrintLast Go.Proofs.YthdjmojpnimhjaaDoorW.PrintMore
set_option linter.unusedVariables false
set_option linter.unusedSimpArgs false
def cbor_head.g (k : Nat) (a n : Int) : Int → List Int → Option (List Int)
 | _, [] => some []
 | i, s :: ss => (wire_Put.f k s n).bind fun r => if r.2 = true then (if r.1.length < 1000 then some (Go.bits .or .u8 (wrap64 (a * 32) % 256) (24 + i) :: r.1) else none) else cbor_head.g k a n (i + 1) ss
def cbor_head.f (k : Nat) (a n : Int) : Option (List Int) := if n < 24 then some [Go.bits .or .u8 (wrap64 (a * 32) % 256) (n % 256)] else cbor_head.g k a n 0 [1, 2, 4, 8]
theorem cbor_head.g_mono (a n : Int) (k : Nat) : ∀ l i, LeO (cbor_head.g k a n i l) (cbor_head.g (k + 1) a n i l)
 | [], _ => LeO.refl _
 | s :: ss, i => by
  rw [cbor_head.g, cbor_head.g]
  exact LeO.bind (wire_Put.mono _ _ _) (fun r => LeO.ite (LeO.refl _) (cbor_head.g_mono a n k ss _))
theorem cbor_head.mono : ∀ a0 a1 k, LeO (cbor_head.f k a0 a1) (cbor_head.f (k + 1) a0 a1) := by
 intro a0 a1 k
 unfold cbor_head.f
 exact LeO.ite (LeO.refl _) (cbor_head.g_mono _ _ _ _ _)
set_option maxHeartbeats 8000000 in
set_option maxRecDepth 100000 in
theorem cbor_head.calls (k : Nat) (a n : Int) (r : List Int) (w : World) (h : cbor_head.f k a n = some r) :
  Calls Tryd.prog 93 #[.int .i64 a, .int .u64 n] w fun e w' => ∃ v0_ : Value, e = .returned v0_ ∧ Kd.R (Kd.int .u8) 5 w' w.heap.size (fun _ => True) v0_ r ∧ Below w.heap.size w w' := by
 unfold cbor_head.f at h
 by_cases c : n < 24
 ·rw [if_pos c] at h
  obtain rfl := Option.some.inj h
  have cb : decide (n < 24) = true := decide_eq_true c
  clear h
  go_enter Tryd.func93, Tryd.ntmps93
  go_wp2_with ((with_reducible refine gate_dst (N := 19) rfl ?_); refine Kd.R_lit (Kd.int .u8) _ 5 ?hg (N := 19) ?hd (xs := [Go.bits .or .u8 (wrap64 (a * 32) % 256) (n % 256)]) (inner := [.int .u8 (Go.bits .or .u8 (wrap64 (a * 32) % 256) (n % 256))]) (ok := fun _ => True) (okp := fun _ => True) ?hr ?hp (fun _ hk => hk) trivial (Below.refl _ _) (Nat.le_refl _) (by simp) ?_; (case hd => rfl); (case hg => rfl); (case hr => first | (go_simp; done) | (go_simp; rfl)); (case hp => exact (Reps.one (show Kd.M (Kd.int .u8) _ _ _ (Go.bits .or .u8 (wrap64 (a * 32) % 256) (n % 256)) [.int .u8 (Go.bits .or .u8 (wrap64 (a * 32) % 256) (n % 256))] from rfl) (Reps.none _ _))); intro v1 w1 ho hb hg_ hnew_; clear hg_ hnew_; have HO := Aside0.mk ho; have HB := Aside0.mk hb; clear hb ho)
  go_ret
  exact ⟨_, rfl, HO.out, HB.out⟩
 rw [if_neg c] at h
 have cb : decide (n < 24) = false := decide_eq_false c
 have HH := Aside0.mk h
 clear h c
 go_enter Tryd.func93, Tryd.ntmps93
 go_wp2
 go_loopg [21] 4 (fun kq v21 W => ∃ (i : Nat), v21 = .int .i64 (i : Int) ∧ Aside0 (i ≤ 4 ∧ kq = 4 - i ∧ cbor_head.g k a n (i : Int) (([1, 2, 4, 8] : List Int).drop i) = some r) ∧ Aside0 (Below w.heap.size w W))
 case atStart => exact ⟨0, rfl, ⟨by omega, by omega, HH.out⟩, ⟨by repeat (first | exact Below.refl _ _ | apply below_drew1 | apply pw_below_drewN)⟩⟩
 case round =>
  obtain ⟨i, rfl, HI, HB⟩ := hrel
  have hi4 := HI.out.1
  have hh := HI.out.2.2
  have hcase : i = 0 ∨ i = 1 ∨ i = 2 ∨ i = 3 ∨ i = 4 := by omega
  rcases hcase with rfl | rfl | rfl | rfl | rfl
  ·have hh : cbor_head.g k a n 0 (1 :: ([1, 2, 4, 8] : List Int).drop 1) = some r := hh
   rw [cbor_head.g] at hh
   obtain ⟨⟨x1, x2⟩, hp, hh⟩ := Option.bind_eq_some_iff.mp hh
   have HP := Aside0.mk hp
   clear hp
   dsimp only at hh
   have hix : ∀ W, Sem.run Tryd.prog (Instr.index 169 (.agg #[.int .i64 1, .int .i64 2, .int .i64 4, .int .i64 8]) (.int .i64 0)) W = .ok (.int .i64 1) W := fun _ => by kernel_rfl
   have c4 : decide (((0 : Nat) : Int) < 4) = true := rfl
   cases x2 with
   | true =>
    rw [if_pos rfl] at hh
    by_cases cl : x1.length < 1000
    case neg => rw [if_neg cl] at hh; cases hh
    rw [if_pos cl] at hh
    obtain rfl := Option.some.inj hh
    have HL := Aside0.mk cl
    clear hh cl
    go_wp2_with (first | (go_at_call 119; ((with_reducible refine (wire_Put.calls k 1 n x1 true _ HP.out).mono ?_); rintro ev w' ⟨v0, rfl, hR, hb⟩; obtain ⟨A5, c5, rfl⟩ := Kd.R_slice hR; have HR := Aside0.mk hR; have HBP := Aside0.mk (below_step HB.out hb); have HBQ := Aside0.mk hb; clear hR hb)) | ((with_reducible refine gate_dst (N := 37) rfl ?_); refine Kd.R_lit (Kd.int .u8) _ 5 ?hg (N := 37) ?hd (xs := [Go.bits .or .u8 (wrap64 (a * 32) % 256) (24 + 0)]) (inner := [.int .u8 (Go.bits .or .u8 (wrap64 (a * 32) % 256) (24 + 0))]) (ok := fun _ => True) (okp := fun _ => True) ?hr ?hp (fun _ hk => hk) trivial (Below.refl _ _) (Nat.le_refl _) (by simp) ?_; (case hd => rfl); (case hg => rfl); (case hr => first | (go_simp; done) | (go_simp; rfl)); (case hp => exact (Reps.one (show Kd.M (Kd.int .u8) _ _ _ (Go.bits .or .u8 (wrap64 (a * 32) % 256) (24 + 0)) [.int .u8 (Go.bits .or .u8 (wrap64 (a * 32) % 256) (24 + 0))] from rfl) (Reps.none _ _))); intro v1 w1 ho hb hg_ hnew_; clear hg_ hnew_; have HO := Aside0.mk (Kd.R_lower ho HBP.out.size); have HBL := Aside0.mk (below_step HBP.out hb); have HR2 := Aside0.mk (Kd.R_below HR.out hb); obtain ⟨A6, c6, rfl⟩ := Kd.R_slice ho; clear hb ho) | ((with_reducible refine gate_builtin (b := .append) (xs := #[.tmp 37, .tmp 38]) rfl ?_); at_builtin; refine Kd.R_append_rows (Kd.int .u8) (w0 := w) w.heap.size rfl (.tmp 37) (.tmp 38) 22 5 (.int .u8 0) 1 rfl Tryd.underlying22 info5 rfl (by decide) (by omega) (.slice A6 1 c6) [Go.bits .or .u8 (wrap64 (a * 32) % 256) (24 + 0)] x1 _ _ _ (fun _ => True) (fun _ => False) rfl rfl ?aO ?aR (fun _ _ h => h) (fun _ h => h.elim) ?aF ?aB ?aS ?aL ?_; (case aR => exact (Kd.R_reads' HR2.out).2.2); (case aB => exact HBL.out); (case aF => exact fun _ _ => trivial); (case aO => exact HO.out); (case aS => exact HBL.out.size); (case aL => have := HL.out; simp only [List.length_cons, List.length_nil]; omega); intro v8 w8 ho hb hg hat; have HB2 := Aside0.mk hb; have HO2 := Aside0.mk ho; clear ho hb hg hat))
    go_ret
    exact ⟨_, rfl, HO2.out, HB2.out⟩
   | false =>
    rw [if_neg (by decide)] at hh
    have HH2 := Aside0.mk hh
    clear hh
    go_wp2_with ((go_at_call 119; ((with_reducible refine (wire_Put.calls k 1 n x1 false _ HP.out).mono ?_); rintro ev w' ⟨v0, rfl, hR, hb⟩; obtain ⟨A5, c5, rfl⟩ := Kd.R_slice hR; have HR := Aside0.mk hR; have HBP := Aside0.mk (below_step HB.out hb); have HBQ := Aside0.mk hb; clear hR hb)))
    go_roundg 3
    case measure => have := HI.out.2.1; omega
    case rel => exact ⟨1, by first | rfl | decide, ⟨by omega, by omega, HH2.out⟩, HBP⟩
  ·have hh : cbor_head.g k a n 1 (2 :: ([1, 2, 4, 8] : List Int).drop 2) = some r := hh
   rw [cbor_head.g] at hh
   obtain ⟨⟨x1, x2⟩, hp, hh⟩ := Option.bind_eq_some_iff.mp hh
   have HP := Aside0.mk hp
   clear hp
   dsimp only at hh
   have hix : ∀ W, Sem.run Tryd.prog (Instr.index 169 (.agg #[.int .i64 1, .int .i64 2, .int .i64 4, .int .i64 8]) (.int .i64 1)) W = .ok (.int .i64 2) W := fun _ => by kernel_rfl
   have c4 : decide (((1 : Nat) : Int) < 4) = true := rfl
   cases x2 with
   | true =>
    rw [if_pos rfl] at hh
    by_cases cl : x1.length < 1000
    case neg => rw [if_neg cl] at hh; cases hh
    rw [if_pos cl] at hh
    obtain rfl := Option.some.inj hh
    have HL := Aside0.mk cl
    clear hh cl
    go_wp2_with (first | (go_at_call 119; ((with_reducible refine (wire_Put.calls k 2 n x1 true _ HP.out).mono ?_); rintro ev w' ⟨v0, rfl, hR, hb⟩; obtain ⟨A5, c5, rfl⟩ := Kd.R_slice hR; have HR := Aside0.mk hR; have HBP := Aside0.mk (below_step HB.out hb); have HBQ := Aside0.mk hb; clear hR hb)) | ((with_reducible refine gate_dst (N := 37) rfl ?_); refine Kd.R_lit (Kd.int .u8) _ 5 ?hg (N := 37) ?hd (xs := [Go.bits .or .u8 (wrap64 (a * 32) % 256) (24 + 1)]) (inner := [.int .u8 (Go.bits .or .u8 (wrap64 (a * 32) % 256) (24 + 1))]) (ok := fun _ => True) (okp := fun _ => True) ?hr ?hp (fun _ hk => hk) trivial (Below.refl _ _) (Nat.le_refl _) (by simp) ?_; (case hd => rfl); (case hg => rfl); (case hr => first | (go_simp; done) | (go_simp; rfl)); (case hp => exact (Reps.one (show Kd.M (Kd.int .u8) _ _ _ (Go.bits .or .u8 (wrap64 (a * 32) % 256) (24 + 1)) [.int .u8 (Go.bits .or .u8 (wrap64 (a * 32) % 256) (24 + 1))] from rfl) (Reps.none _ _))); intro v1 w1 ho hb hg_ hnew_; clear hg_ hnew_; have HO := Aside0.mk (Kd.R_lower ho HBP.out.size); have HBL := Aside0.mk (below_step HBP.out hb); have HR2 := Aside0.mk (Kd.R_below HR.out hb); obtain ⟨A6, c6, rfl⟩ := Kd.R_slice ho; clear hb ho) | ((with_reducible refine gate_builtin (b := .append) (xs := #[.tmp 37, .tmp 38]) rfl ?_); at_builtin; refine Kd.R_append_rows (Kd.int .u8) (w0 := w) w.heap.size rfl (.tmp 37) (.tmp 38) 22 5 (.int .u8 0) 1 rfl Tryd.underlying22 info5 rfl (by decide) (by omega) (.slice A6 1 c6) [Go.bits .or .u8 (wrap64 (a * 32) % 256) (24 + 1)] x1 _ _ _ (fun _ => True) (fun _ => False) rfl rfl ?aO ?aR (fun _ _ h => h) (fun _ h => h.elim) ?aF ?aB ?aS ?aL ?_; (case aR => exact (Kd.R_reads' HR2.out).2.2); (case aB => exact HBL.out); (case aF => exact fun _ _ => trivial); (case aO => exact HO.out); (case aS => exact HBL.out.size); (case aL => have := HL.out; simp only [List.length_cons, List.length_nil]; omega); intro v8 w8 ho hb hg hat; have HB2 := Aside0.mk hb; have HO2 := Aside0.mk ho; clear ho hb hg hat))
    go_ret
    exact ⟨_, rfl, HO2.out, HB2.out⟩
   | false =>
    rw [if_neg (by decide)] at hh
    have HH2 := Aside0.mk hh
    clear hh
    go_wp2_with ((go_at_call 119; ((with_reducible refine (wire_Put.calls k 2 n x1 false _ HP.out).mono ?_); rintro ev w' ⟨v0, rfl, hR, hb⟩; obtain ⟨A5, c5, rfl⟩ := Kd.R_slice hR; have HR := Aside0.mk hR; have HBP := Aside0.mk (below_step HB.out hb); have HBQ := Aside0.mk hb; clear hR hb)))
    go_roundg 2
    case measure => have := HI.out.2.1; omega
    case rel => exact ⟨2, by first | rfl | decide, ⟨by omega, by omega, HH2.out⟩, HBP⟩
  ·have hh : cbor_head.g k a n 2 (4 :: ([1, 2, 4, 8] : List Int).drop 3) = some r := hh
   rw [cbor_head.g] at hh
   obtain ⟨⟨x1, x2⟩, hp, hh⟩ := Option.bind_eq_some_iff.mp hh
   have HP := Aside0.mk hp
   clear hp
   dsimp only at hh
   have hix : ∀ W, Sem.run Tryd.prog (Instr.index 169 (.agg #[.int .i64 1, .int .i64 2, .int .i64 4, .int .i64 8]) (.int .i64 2)) W = .ok (.int .i64 4) W := fun _ => by kernel_rfl
   have c4 : decide (((2 : Nat) : Int) < 4) = true := rfl
   cases x2 with
   | true =>
    rw [if_pos rfl] at hh
    by_cases cl : x1.length < 1000
    case neg => rw [if_neg cl] at hh; cases hh
    rw [if_pos cl] at hh
    obtain rfl := Option.some.inj hh
    have HL := Aside0.mk cl
    clear hh cl
    go_wp2_with (first | (go_at_call 119; ((with_reducible refine (wire_Put.calls k 4 n x1 true _ HP.out).mono ?_); rintro ev w' ⟨v0, rfl, hR, hb⟩; obtain ⟨A5, c5, rfl⟩ := Kd.R_slice hR; have HR := Aside0.mk hR; have HBP := Aside0.mk (below_step HB.out hb); have HBQ := Aside0.mk hb; clear hR hb)) | ((with_reducible refine gate_dst (N := 37) rfl ?_); refine Kd.R_lit (Kd.int .u8) _ 5 ?hg (N := 37) ?hd (xs := [Go.bits .or .u8 (wrap64 (a * 32) % 256) (24 + 2)]) (inner := [.int .u8 (Go.bits .or .u8 (wrap64 (a * 32) % 256) (24 + 2))]) (ok := fun _ => True) (okp := fun _ => True) ?hr ?hp (fun _ hk => hk) trivial (Below.refl _ _) (Nat.le_refl _) (by simp) ?_; (case hd => rfl); (case hg => rfl); (case hr => first | (go_simp; done) | (go_simp; rfl)); (case hp => exact (Reps.one (show Kd.M (Kd.int .u8) _ _ _ (Go.bits .or .u8 (wrap64 (a * 32) % 256) (24 + 2)) [.int .u8 (Go.bits .or .u8 (wrap64 (a * 32) % 256) (24 + 2))] from rfl) (Reps.none _ _))); intro v1 w1 ho hb hg_ hnew_; clear hg_ hnew_; have HO := Aside0.mk (Kd.R_lower ho HBP.out.size); have HBL := Aside0.mk (below_step HBP.out hb); have HR2 := Aside0.mk (Kd.R_below HR.out hb); obtain ⟨A6, c6, rfl⟩ := Kd.R_slice ho; clear hb ho) | ((with_reducible refine gate_builtin (b := .append) (xs := #[.tmp 37, .tmp 38]) rfl ?_); at_builtin; refine Kd.R_append_rows (Kd.int .u8) (w0 := w) w.heap.size rfl (.tmp 37) (.tmp 38) 22 5 (.int .u8 0) 1 rfl Tryd.underlying22 info5 rfl (by decide) (by omega) (.slice A6 1 c6) [Go.bits .or .u8 (wrap64 (a * 32) % 256) (24 + 2)] x1 _ _ _ (fun _ => True) (fun _ => False) rfl rfl ?aO ?aR (fun _ _ h => h) (fun _ h => h.elim) ?aF ?aB ?aS ?aL ?_; (case aR => exact (Kd.R_reads' HR2.out).2.2); (case aB => exact HBL.out); (case aF => exact fun _ _ => trivial); (case aO => exact HO.out); (case aS => exact HBL.out.size); (case aL => have := HL.out; simp only [List.length_cons, List.length_nil]; omega); intro v8 w8 ho hb hg hat; have HB2 := Aside0.mk hb; have HO2 := Aside0.mk ho; clear ho hb hg hat))
    go_ret
    exact ⟨_, rfl, HO2.out, HB2.out⟩
   | false =>
    rw [if_neg (by decide)] at hh
    have HH2 := Aside0.mk hh
    clear hh
    go_wp2_with ((go_at_call 119; ((with_reducible refine (wire_Put.calls k 4 n x1 false _ HP.out).mono ?_); rintro ev w' ⟨v0, rfl, hR, hb⟩; obtain ⟨A5, c5, rfl⟩ := Kd.R_slice hR; have HR := Aside0.mk hR; have HBP := Aside0.mk (below_step HB.out hb); have HBQ := Aside0.mk hb; clear hR hb)))
    go_roundg 1
    case measure => have := HI.out.2.1; omega
    case rel => exact ⟨3, by first | rfl | decide, ⟨by omega, by omega, HH2.out⟩, HBP⟩
  ·have hh : cbor_head.g k a n 3 (8 :: ([1, 2, 4, 8] : List Int).drop 4) = some r := hh
   rw [cbor_head.g] at hh
   obtain ⟨⟨x1, x2⟩, hp, hh⟩ := Option.bind_eq_some_iff.mp hh
   have HP := Aside0.mk hp
   clear hp
   dsimp only at hh
   have hix : ∀ W, Sem.run Tryd.prog (Instr.index 169 (.agg #[.int .i64 1, .int .i64 2, .int .i64 4, .int .i64 8]) (.int .i64 3)) W = .ok (.int .i64 8) W := fun _ => by kernel_rfl
   have c4 : decide (((3 : Nat) : Int) < 4) = true := rfl
   cases x2 with
   | true =>
    rw [if_pos rfl] at hh
    by_cases cl : x1.length < 1000
    case neg => rw [if_neg cl] at hh; cases hh
    rw [if_pos cl] at hh
    obtain rfl := Option.some.inj hh
    have HL := Aside0.mk cl
    clear hh cl
    go_wp2_with (first | (go_at_call 119; ((with_reducible refine (wire_Put.calls k 8 n x1 true _ HP.out).mono ?_); rintro ev w' ⟨v0, rfl, hR, hb⟩; obtain ⟨A5, c5, rfl⟩ := Kd.R_slice hR; have HR := Aside0.mk hR; have HBP := Aside0.mk (below_step HB.out hb); have HBQ := Aside0.mk hb; clear hR hb)) | ((with_reducible refine gate_dst (N := 37) rfl ?_); refine Kd.R_lit (Kd.int .u8) _ 5 ?hg (N := 37) ?hd (xs := [Go.bits .or .u8 (wrap64 (a * 32) % 256) (24 + 3)]) (inner := [.int .u8 (Go.bits .or .u8 (wrap64 (a * 32) % 256) (24 + 3))]) (ok := fun _ => True) (okp := fun _ => True) ?hr ?hp (fun _ hk => hk) trivial (Below.refl _ _) (Nat.le_refl _) (by simp) ?_; (case hd => rfl); (case hg => rfl); (case hr => first | (go_simp; done) | (go_simp; rfl)); (case hp => exact (Reps.one (show Kd.M (Kd.int .u8) _ _ _ (Go.bits .or .u8 (wrap64 (a * 32) % 256) (24 + 3)) [.int .u8 (Go.bits .or .u8 (wrap64 (a * 32) % 256) (24 + 3))] from rfl) (Reps.none _ _))); intro v1 w1 ho hb hg_ hnew_; clear hg_ hnew_; have HO := Aside0.mk (Kd.R_lower ho HBP.out.size); have HBL := Aside0.mk (below_step HBP.out hb); have HR2 := Aside0.mk (Kd.R_below HR.out hb); obtain ⟨A6, c6, rfl⟩ := Kd.R_slice ho; clear hb ho) | ((with_reducible refine gate_builtin (b := .append) (xs := #[.tmp 37, .tmp 38]) rfl ?_); at_builtin; refine Kd.R_append_rows (Kd.int .u8) (w0 := w) w.heap.size rfl (.tmp 37) (.tmp 38) 22 5 (.int .u8 0) 1 rfl Tryd.underlying22 info5 rfl (by decide) (by omega) (.slice A6 1 c6) [Go.bits .or .u8 (wrap64 (a * 32) % 256) (24 + 3)] x1 _ _ _ (fun _ => True) (fun _ => False) rfl rfl ?aO ?aR (fun _ _ h => h) (fun _ h => h.elim) ?aF ?aB ?aS ?aL ?_; (case aR => exact (Kd.R_reads' HR2.out).2.2); (case aB => exact HBL.out); (case aF => exact fun _ _ => trivial); (case aO => exact HO.out); (case aS => exact HBL.out.size); (case aL => have := HL.out; simp only [List.length_cons, List.length_nil]; omega); intro v8 w8 ho hb hg hat; have HB2 := Aside0.mk hb; have HO2 := Aside0.mk ho; clear ho hb hg hat))
    go_ret
    exact ⟨_, rfl, HO2.out, HB2.out⟩
   | false =>
    rw [if_neg (by decide)] at hh
    have HH2 := Aside0.mk hh
    clear hh
    go_wp2_with ((go_at_call 119; ((with_reducible refine (wire_Put.calls k 8 n x1 false _ HP.out).mono ?_); rintro ev w' ⟨v0, rfl, hR, hb⟩; obtain ⟨A5, c5, rfl⟩ := Kd.R_slice hR; have HR := Aside0.mk hR; have HBP := Aside0.mk (below_step HB.out hb); have HBQ := Aside0.mk hb; clear hR hb)))
    go_roundg 0
    case measure => have := HI.out.2.1; omega
    case rel => exact ⟨4, by first | rfl | decide, ⟨by omega, by omega, HH2.out⟩, HBP⟩
  ·have hh : cbor_head.g k a n 4 [] = some r := hh
   have c4 : decide (((4 : Nat) : Int) < 4) = false := rfl
   rw [cbor_head.g] at hh
   obtain rfl := Option.some.inj hh
   clear hh
   go_wp2
   go_ret
   exact ⟨_, rfl, Kd.R_nil _ _ _ _ _, HB.out⟩
end Go.Proofs.YthdjmojpnimhjaaDoor.PCbg
