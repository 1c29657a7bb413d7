import Derived.Test.YthdjmojpnimhjaaDoorZPCbgx0
import Derived.Test.YthdjmojpnimhjaaDoorZPCbgx5
import Derived.Test.YthdjmojpnimhjaaDoorZPCbgx8
namespace Go.Proofs.YthdjmojpnimhjaaDoor.PCbg
open Go.RowKit Go.Proofs.YthdjmojpnimhjaaDoorW.PrintWords Go.Proofs.YthdjmojpnimhjaaDoorW.PrintLast Go.Proofs.YthdjmojpnimhjaaDoorW.PrintMore
set_option linter.unusedVariables false
set_option linter.unusedSimpArgs false
def cbor_Valid.f (k : Nat) (a0_0 a0_1 : Int) (l0_2 : List Int) (l0_3 : List (S27)) : Option Bool := (cbor_depth.f k a0_0 a0_1 l0_2 l0_3).bind fun d => if d ≤ 8 then (cbor_shaped.f k a0_0 a0_1 l0_2 l0_3).bind fun s => if s = true then (encM k a0_0 a0_1 l0_2 l0_3).bind fun r => if r.length < 1000000000 then some (decide ((r.length : Int) ≤ 1048576)) else none else some false else some false
theorem cbor_Valid.mono : ∀ a0 a1 a2 a3 k, LeO (cbor_Valid.f k a0 a1 a2 a3) (cbor_Valid.f (k + 1) a0 a1 a2 a3) := by
 intro a0 a1 a2 a3 k
 unfold cbor_Valid.f
 exact LeO.bind (cbor_depth.mono _ _ _ _ _) (fun d => LeO.ite (LeO.bind (cbor_shaped.mono _ _ _ _ _) (fun s => LeO.ite (LeO.bind ((encM_mono k).1 _ _ _ _) (fun r => LeO.ite (LeO.refl _) (LeO.refl _))) (LeO.refl _))) (LeO.refl _))
set_option maxHeartbeats 8000000 in
set_option maxRecDepth 100000 in
theorem cbor_Valid.calls (k : Nat) (a0_0 : Int) (a0_1 : Int) (A0_2 : Option Addr) (c0_2 : Nat) (l0_2 : List Int) (A0_3 : Option Addr) (c0_3 : Nat) (l0_3 : List (S27)) (r : Bool) (w : World) (hr0_2 : Kd.C (Kd.int .u8) w A0_2 l0_2.length l0_2) (hc0_2 : l0_2.length ≤ c0_2) (hr0_3 : Kd.C k27 w A0_3 l0_3.length l0_3) (hc0_3 : l0_3.length ≤ c0_3) (h : cbor_Valid.f k a0_0 a0_1 l0_2 l0_3 = some r) :
  Calls Tryd.prog 23 #[.agg #[.int .i64 a0_0, .int .u64 a0_1, .slice A0_2 l0_2.length c0_2, .slice A0_3 l0_3.length c0_3]] w fun e w' => e = .returned (.bool r) ∧ Below w.heap.size w w' := by
 unfold cbor_Valid.f at h
 obtain ⟨d, hd, h⟩ := Option.bind_eq_some_iff.mp h
 have HD := Aside0.mk hd
 have hu := Tryd.underlying27
 have b1 := below_alloc (Below.refl w.heap.size w) (Obj.cells #[.int .i64 a0_0, .int .u64 a0_1, .slice A0_2 l0_2.length c0_2, .slice A0_3 l0_3.length c0_3] 27)
 have HB1 := Aside0.mk b1
 have BN := Aside0.mk (blk_new w (Obj.cells #[.int .i64 a0_0, .int .u64 a0_1, .slice A0_2 l0_2.length c0_2, .slice A0_3 l0_3.length c0_3] 27))
 obtain ⟨z0, z1, z2, z3, z4, z5, z6, z7⟩ := row4 BN.out
 have HR := Aside0.mk (And.intro (And.intro hr0_2 hc0_2) (And.intro hr0_3 hc0_3))
 clear hd b1 hr0_2 hc0_2 hr0_3 hc0_3
 by_cases c1 : d ≤ 8
 case neg =>
  rw [if_neg c1] at h
  have d1 : decide (d ≤ 8) = false := decide_eq_false c1
  obtain rfl := Option.some.inj h
  clear h c1
  go_enter Tryd.func23, Tryd.ntmps23
  go_wp2_with ((go_at_call 59; ((with_reducible refine (cbor_depth.calls k a0_0 a0_1 A0_2 c0_2 l0_2 A0_3 c0_3 l0_3 d _ (Kd.C_below HR.out.1.1 HB1.out) HR.out.1.2 (Kd.C_below HR.out.2.1 HB1.out) HR.out.2.2 HD.out).mono ?_); rintro ev w2 ⟨rfl, hb⟩; have BD := Aside0.mk (below_step HB1.out hb); have BND := Aside0.mk (blk_below BN.out hb); obtain ⟨y0, y1, y2, y3, y4, y5, y6, y7⟩ := row4 BND.out; clear hb)))
  go_ret
  exact ⟨rfl, BD.out⟩
 rw [if_pos c1] at h
 have d1 : decide (d ≤ 8) = true := decide_eq_true c1
 obtain ⟨s, hs, h⟩ := Option.bind_eq_some_iff.mp h
 have HS := Aside0.mk hs
 clear hs c1
 cases s with
 | false =>
  rw [if_neg (by decide)] at h
  obtain rfl := Option.some.inj h
  clear h
  go_enter Tryd.func23, Tryd.ntmps23
  go_wp2_with (first | (go_at_call 59; ((with_reducible refine (cbor_depth.calls k a0_0 a0_1 A0_2 c0_2 l0_2 A0_3 c0_3 l0_3 d _ (Kd.C_below HR.out.1.1 HB1.out) HR.out.1.2 (Kd.C_below HR.out.2.1 HB1.out) HR.out.2.2 HD.out).mono ?_); rintro ev w2 ⟨rfl, hb⟩; have BD := Aside0.mk (below_step HB1.out hb); have BND := Aside0.mk (blk_below BN.out hb); obtain ⟨y0, y1, y2, y3, y4, y5, y6, y7⟩ := row4 BND.out; clear hb)) | (go_at_call 60; ((with_reducible refine (cbor_shaped.calls k a0_0 a0_1 A0_2 c0_2 l0_2 A0_3 c0_3 l0_3 false _ (Kd.C_below HR.out.1.1 BD.out) HR.out.1.2 (Kd.C_below HR.out.2.1 BD.out) HR.out.2.2 HS.out).mono ?_); rintro ev w3 ⟨rfl, hb⟩; have BS := Aside0.mk (below_step BD.out hb); have BNS := Aside0.mk (blk_below BND.out hb); obtain ⟨x0, x1, x2, x3, x4, x5, x6, x7⟩ := row4 BNS.out; clear hb)))
  go_ret
  exact ⟨rfl, BS.out⟩
 | true =>
  rw [if_pos rfl] at h
  obtain ⟨x, hx, h⟩ := Option.bind_eq_some_iff.mp h
  by_cases c2 : x.length < 1000000000
  case neg => rw [if_neg c2] at h; cases h
  rw [if_pos c2] at h
  obtain rfl := Option.some.inj h
  have HX := Aside0.mk hx
  have HXL := Aside0.mk c2
  clear h hx c2
  go_enter Tryd.func23, Tryd.ntmps23
  go_wp2_with (first | (go_at_call 59; ((with_reducible refine (cbor_depth.calls k a0_0 a0_1 A0_2 c0_2 l0_2 A0_3 c0_3 l0_3 d _ (Kd.C_below HR.out.1.1 HB1.out) HR.out.1.2 (Kd.C_below HR.out.2.1 HB1.out) HR.out.2.2 HD.out).mono ?_); rintro ev w2 ⟨rfl, hb⟩; have BD := Aside0.mk (below_step HB1.out hb); have BND := Aside0.mk (blk_below BN.out hb); obtain ⟨y0, y1, y2, y3, y4, y5, y6, y7⟩ := row4 BND.out; clear hb)) | (go_at_call 60; ((with_reducible refine (cbor_shaped.calls k a0_0 a0_1 A0_2 c0_2 l0_2 A0_3 c0_3 l0_3 true _ (Kd.C_below HR.out.1.1 BD.out) HR.out.1.2 (Kd.C_below HR.out.2.1 BD.out) HR.out.2.2 HS.out).mono ?_); rintro ev w3 ⟨rfl, hb⟩; have BS := Aside0.mk (below_step BD.out hb); have BNS := Aside0.mk (blk_below BND.out hb); obtain ⟨x0, x1, x2, x3, x4, x5, x6, x7⟩ := row4 BNS.out; clear hb)) | (go_at_call 57; ((with_reducible refine ((app_all k).use w _ w.heap.size (.slice none 0 0) [] a0_0 a0_1 A0_2 c0_2 l0_2 A0_3 c0_3 l0_3 x BS.out (Nat.le_refl _) BS.out.size (Kd.R_nil _ _ _ _ _) HR.out.1.1 HR.out.1.2 HR.out.2.1 HR.out.2.2 HX.out (by have := HXL.out; simp only [List.length_nil]; omega)).mono ?_); rintro ev w5 ⟨v', rfl, hr, hb⟩; rw [List.nil_append] at hr; obtain ⟨A6, c6, rfl⟩ := Kd.R_slice hr; have HOX := Aside0.mk hr; have BX := Aside0.mk (BS.out.trans hb); clear hr hb)))
  go_ret
  exact ⟨by first | rfl | (simp; done) | simp, BX.out⟩
def cbor_Encode.f (k : Nat) (a0_0 a0_1 : Int) (l0_2 : List Int) (l0_3 : List (S27)) : Option (List Int × Option E) := (cbor_Valid.f k a0_0 a0_1 l0_2 l0_3).bind fun b => if b = false then some ([], some (.code 12)) else (encM k a0_0 a0_1 l0_2 l0_3).bind fun r => if r.length < 1000000000 then some (r, none) else none
theorem cbor_Encode.mono : ∀ a0 a1 a2 a3 k, LeO (cbor_Encode.f k a0 a1 a2 a3) (cbor_Encode.f (k + 1) a0 a1 a2 a3) := by
 intro a0 a1 a2 a3 k
 unfold cbor_Encode.f
 exact LeO.bind (cbor_Valid.mono _ _ _ _ _) (fun b => LeO.ite (LeO.refl _) (LeO.bind ((encM_mono k).1 _ _ _ _) (fun r => LeO.refl _)))
set_option maxHeartbeats 8000000 in
set_option maxRecDepth 100000 in
theorem cbor_Encode.calls (k : Nat) (a0_0 : Int) (a0_1 : Int) (A0_2 : Option Addr) (c0_2 : Nat) (l0_2 : List Int) (A0_3 : Option Addr) (c0_3 : Nat) (l0_3 : List (S27)) (r1 : List Int) (r2 : Option E) (w : World) (hr0_2 : Kd.C (Kd.int .u8) w A0_2 l0_2.length l0_2) (hc0_2 : l0_2.length ≤ c0_2) (hr0_3 : Kd.C k27 w A0_3 l0_3.length l0_3) (hc0_3 : l0_3.length ≤ c0_3) (h : cbor_Encode.f k a0_0 a0_1 l0_2 l0_3 = some (r1, r2)) :
  Calls Tryd.prog 19 #[.agg #[.int .i64 a0_0, .int .u64 a0_1, .slice A0_2 l0_2.length c0_2, .slice A0_3 l0_3.length c0_3]] w fun e w' => ∃ v1_ : Value, e = .returned (.tuple #[v1_, errW r2]) ∧ Kd.R (Kd.int .u8) 5 w' w.heap.size (fun _ => True) v1_ r1 ∧ Below w.heap.size w w' := by
 unfold cbor_Encode.f at h
 obtain ⟨b, hb, h⟩ := Option.bind_eq_some_iff.mp h
 have HV := Aside0.mk hb
 have hu := Tryd.underlying27
 have b1 := below_alloc (Below.refl w.heap.size w) (Obj.cells #[.int .i64 a0_0, .int .u64 a0_1, .slice A0_2 l0_2.length c0_2, .slice A0_3 l0_3.length c0_3] 27)
 have HB1 := Aside0.mk b1
 have BN := Aside0.mk (blk_new w (Obj.cells #[.int .i64 a0_0, .int .u64 a0_1, .slice A0_2 l0_2.length c0_2, .slice A0_3 l0_3.length c0_3] 27))
 obtain ⟨z0, z1, z2, z3, z4, z5, z6, z7⟩ := row4 BN.out
 have HR := Aside0.mk (And.intro (And.intro hr0_2 hc0_2) (And.intro hr0_3 hc0_3))
 clear hb b1 hr0_2 hc0_2 hr0_3 hc0_3
 cases b with
 | false =>
  rw [if_pos rfl] at h
  simp only [Option.some.injEq, Prod.mk.injEq] at h
  obtain ⟨rfl, rfl⟩ := h
  go_enter Tryd.func19, Tryd.ntmps19
  go_wp2_with ((go_at_call 23; ((with_reducible refine (cbor_Valid.calls k a0_0 a0_1 A0_2 c0_2 l0_2 A0_3 c0_3 l0_3 false _ (Kd.C_below HR.out.1.1 HB1.out) HR.out.1.2 (Kd.C_below HR.out.2.1 HB1.out) HR.out.2.2 HV.out).mono ?_); rintro ev w2 ⟨rfl, hb⟩; have BV := Aside0.mk (below_step HB1.out hb); have BNV := Aside0.mk (blk_below BN.out hb); obtain ⟨y0, y1, y2, y3, y4, y5, y6, y7⟩ := row4 BNV.out; clear hb)))
  go_ret2
  exact ⟨_, rfl, Kd.R_nil _ _ _ _ _, BV.out⟩
 | true =>
  rw [if_neg (by decide)] at h
  obtain ⟨x, hx, h⟩ := Option.bind_eq_some_iff.mp h
  by_cases c2 : x.length < 1000000000
  case neg => rw [if_neg c2] at h; cases h
  rw [if_pos c2] at h
  simp only [Option.some.injEq, Prod.mk.injEq] at h
  obtain ⟨rfl, rfl⟩ := h
  have HX := Aside0.mk hx
  have HXL := Aside0.mk c2
  clear hx c2
  go_enter Tryd.func19, Tryd.ntmps19
  go_wp2_with (first | (go_at_call 23; ((with_reducible refine (cbor_Valid.calls k a0_0 a0_1 A0_2 c0_2 l0_2 A0_3 c0_3 l0_3 true _ (Kd.C_below HR.out.1.1 HB1.out) HR.out.1.2 (Kd.C_below HR.out.2.1 HB1.out) HR.out.2.2 HV.out).mono ?_); rintro ev w2 ⟨rfl, hb⟩; have BV := Aside0.mk (below_step HB1.out hb); have BNV := Aside0.mk (blk_below BN.out hb); obtain ⟨y0, y1, y2, y3, y4, y5, y6, y7⟩ := row4 BNV.out; clear hb)) | (go_at_call 57; ((with_reducible refine ((app_all k).use w _ w.heap.size (.slice none 0 0) [] a0_0 a0_1 A0_2 c0_2 l0_2 A0_3 c0_3 l0_3 x BV.out (Nat.le_refl _) BV.out.size (Kd.R_nil _ _ _ _ _) HR.out.1.1 HR.out.1.2 HR.out.2.1 HR.out.2.2 HX.out (by have := HXL.out; simp only [List.length_nil]; omega)).mono ?_); rintro ev w5 ⟨v', rfl, hr, hb⟩; rw [List.nil_append] at hr; obtain ⟨A6, c6, rfl⟩ := Kd.R_slice hr; have HOX := Aside0.mk hr; have BX := Aside0.mk (BV.out.trans hb); clear hr hb)))
  go_ret2
  exact ⟨_, rfl, HOX.out, BX.out⟩
end Go.Proofs.YthdjmojpnimhjaaDoor.PCbg
