import Derived.Test.YthdjmojpnimhjaaDoorZQ
import Derived.Test.YthdjmojpnimhjaaDoorZPCbgx0
import Derived.Test.YthdjmojpnimhjaaDoorZPCbgx2
import Derived.Test.YthdjmojpnimhjaaDoorZPCbgx3
import Derived.Test.YthdjmojpnimhjaaDoorZPCbgx4
namespace Go.Proofs.YthdjmojpnimhjaaDoor.PCbg
open Go.RowKit Go.Proofs.YthdjmojpnimhjaaDoorW.PrintWords Go.Proofs.YthdjmojpnimhjaaDoorW.PrintLast Go.Proofs.YthdjmojpnimhjaaDoorW.PrintMore
set_option linter.unusedVariables false
set_option linter.unusedSimpArgs false
theorem row4 {w : World} {g : Nat} {t : TypeId} {a b c d : Value} (h : w.heap[g]? = some (.cells #[a, b, c, d] t (0, 0))) : w.cell? ⟨g, 0, none⟩ = some a ∧ w.cell? ⟨g, 1, none⟩ = some b ∧ w.cell? ⟨g, 2, none⟩ = some c ∧ w.cell? ⟨g, 3, none⟩ = some d ∧ w.frozen? ⟨g, 0, none⟩ = false ∧ w.frozen? ⟨g, 1, none⟩ = false ∧ w.frozen? ⟨g, 2, none⟩ = false ∧ w.frozen? ⟨g, 3, none⟩ = false :=
 ⟨(blk_cell h 0).trans rfl, (blk_cell h 1).trans rfl, (blk_cell h 2).trans rfl, (blk_cell h 3).trans rfl, blk_frozen h 0, blk_frozen h 1, blk_frozen h 2, blk_frozen h 3⟩
mutual
def encM : Nat → Int → Int → List Int → List (S27) → Option (List Int)
 | 0, _, _, _, _ => none
 | k + 1, t, n, b, l => if b.length < 1000000000 ∧ l.length < 1000000000 then (cbor_number.f k t n b l).bind fun m => (cbor_head.f k t m).bind fun h => if h.length < 1000 then (encsM k l).bind fun r => some (h ++ b ++ r) else none else none
def encsM : Nat → List (S27) → Option (List Int)
 | 0, _ => none
 | _ + 1, [] => some []
 | k + 1, x :: xs => (encM k x.f0 x.f1 x.f2 x.f3).bind fun a => (encsM k xs).bind fun c => some (a ++ c)
end
def AppC (k : Nat) : Prop := ∀ (w0 w : World) (base : Nat) (v : Value) (xs : List Int) (t n : Int) (A1 : Option Addr) (c1 : Nat) (l1 : List Int) (A2 : Option Addr) (c2 : Nat) (l2 : List (S27)) (r : List Int) (hB : Below w0.heap.size w0 w) (hb0 : w0.heap.size ≤ base) (hbs : base ≤ w.heap.size) (hR : Kd.R (Kd.int .u8) 5 w base (fun _ => True) v xs) (hr1 : Kd.C (Kd.int .u8) w0 A1 l1.length l1) (hc1 : l1.length ≤ c1) (hr2 : Kd.C k27 w0 A2 l2.length l2) (hc2 : l2.length ≤ c2) (h : encM k t n l1 l2 = some r) (hx : xs.length + r.length < 1000000000000), Calls Tryd.prog 57 #[v, .agg #[.int .i64 t, .int .u64 n, .slice A1 l1.length c1, .slice A2 l2.length c2]] w fun e w' => ∃ v' : Value, e = .returned v' ∧ Kd.R (Kd.int .u8) 5 w' base (fun _ => True) v' (xs ++ r) ∧ Below base w w'
theorem AppC.use {k : Nat} (H : AppC k) (w0 w : World) (base : Nat) (v : Value) (xs : List Int) (t n : Int) (A1 : Option Addr) (c1 : Nat) (l1 : List Int) (A2 : Option Addr) (c2 : Nat) (l2 : List (S27)) (r : List Int) (hB : Below w0.heap.size w0 w) (hb0 : w0.heap.size ≤ base) (hbs : base ≤ w.heap.size) (hR : Kd.R (Kd.int .u8) 5 w base (fun _ => True) v xs) (hr1 : Kd.C (Kd.int .u8) w0 A1 l1.length l1) (hc1 : l1.length ≤ c1) (hr2 : Kd.C k27 w0 A2 l2.length l2) (hc2 : l2.length ≤ c2) (h : encM k t n l1 l2 = some r) (hx : xs.length + r.length < 1000000000000) : Calls Tryd.prog 57 #[v, .agg #[.int .i64 t, .int .u64 n, .slice A1 l1.length c1, .slice A2 l2.length c2]] w fun e w' => ∃ v' : Value, e = .returned v' ∧ Kd.R (Kd.int .u8) 5 w' base (fun _ => True) v' (xs ++ r) ∧ Below base w w' := H w0 w base v xs t n A1 c1 l1 A2 c2 l2 r hB hb0 hbs hR hr1 hc1 hr2 hc2 h hx
def cbor_appended.T1 : Bool × List (List Nat × List Nat) := (true, [([], []), ([], []), ([1], [1]), ([], []), ([3], [3]), ([2, 4, 4], [2, 4]), ([0, 5, 5], [0, 5]), ([], []), ([7], [7]), ([6, 8, 6], [6, 8]), ([9, 9, 0, 1, 2, 3, 4, 5, 6, 7, 8, 9], [0, 9])])
def cbor_appended.B1 : List Nat := [0, 0, 2, 0, 8, 30, 63, 0, 128, 511, 1023]
theorem cbor_appended.tab1 : rtab .any (opsOf Tryd.f57 1) = cbor_appended.T1 := by kernel_rfl
theorem cbor_appended.bits1 : waitsOk cbor_appended.T1.2 cbor_appended.B1 = true := by kernel_rfl
set_option maxHeartbeats 16000000 in
set_option maxRecDepth 100000 in
theorem app_step (k : Nat) (ih : ∀ j, j < k + 1 → AppC j) : AppC (k + 1) := by
 intro w0 w base v xs t n A1 c1 l1 A2 c2 l2 r hB hb0 hbs hR hr1 hc1 hr2 hc2 h hx
 have hu := Tryd.underlying27
 rw [encM] at h
 by_cases q1 : l1.length < 1000000000 ∧ l2.length < 1000000000
 case neg => rw [if_neg q1] at h; cases h
 rw [if_pos q1] at h
 obtain ⟨m, hm, h⟩ := Option.bind_eq_some_iff.mp h
 obtain ⟨hd, hhd, h⟩ := Option.bind_eq_some_iff.mp h
 by_cases q2 : hd.length < 1000
 case neg => rw [if_neg q2] at h; cases h
 rw [if_pos q2] at h
 obtain ⟨rs, hrs, h⟩ := Option.bind_eq_some_iff.mp h
 have hrr := Option.some.inj h
 have HRR := Aside0.mk hrr
 have HB0 := Aside0.mk hB
 have HM := Aside0.mk hm
 have HHD := Aside0.mk hhd
 have HRS := Aside0.mk hrs
 have HQ := Aside0.mk q1
 have HQ2 := Aside0.mk q2
 have HX0 := Aside0.mk (show xs.length + (hd.length + l1.length + rs.length) < 1000000000000 by have h_ := congrArg List.length hrr; simp only [List.length_append] at h_; omega)
 have hlt := Kd.R_lt hR
 obtain ⟨A, c, rfl⟩ := Kd.R_slice hR
 have b1 := below_alloc (Below.refl w.heap.size w) (Obj.cells #[.int .i64 t, .int .u64 n, .slice A1 l1.length c1, .slice A2 l2.length c2] 27)
 have HB1 := Aside0.mk (b1)
 have HR1 := Aside0.mk (And.intro hr1 hc1)
 have HR2 := Aside0.mk (And.intro hr2 hc2)
 have HO0 := Aside0.mk (Kd.R_below hR b1)
 have HBW := Aside0.mk (below_alloc hB (Obj.cells #[.int .i64 t, .int .u64 n, .slice A1 l1.length c1, .slice A2 l2.length c2] 27))
 have BN := Aside0.mk (blk_new w (Obj.cells #[.int .i64 t, .int .u64 n, .slice A1 l1.length c1, .slice A2 l2.length c2] 27))
 have hs1 : (w.alloc (Obj.cells #[.int .i64 t, .int .u64 n, .slice A1 l1.length c1, .slice A2 l2.length c2] 27)).heap.size = w.heap.size + 1 := by simp
 have HSZ := Aside0.mk (And.intro hb0 (And.intro hbs hs1))
 have HLT := Aside0.mk hlt
 obtain ⟨z0, z1, z2, z3, z4, z5, z6, z7⟩ := row4 BN.out
 clear h hrr hm hhd hrs hlt hR b1 hr1 hc1 hr2 hc2 hB hb0 hbs q1 q2 hx hs1
 go_enter Tryd.func57, Tryd.ntmps57
 go_wp2
 have BD := Aside0.mk (blk_drew BN.out)
 have HOD := Aside0.mk (Kd.R_drew HO0.out)
 have HWD := Aside0.mk (below_drew HBW.out)
 have HBD := Aside0.mk (below_drew (Below.refl (w.alloc (Obj.cells #[.int .i64 t, .int .u64 n, .slice A1 l1.length c1, .slice A2 l2.length c2] 27)).heap.size (w.alloc (Obj.cells #[.int .i64 t, .int .u64 n, .slice A1 l1.length c1, .slice A2 l2.length c2] 27))))
 clear BN HO0
 refine start_ (n := 11) (S := fun w' => w'.cell? ⟨w.heap.size, 0, none⟩ = some (.int .i64 t) ∧ w'.cell? ⟨w.heap.size, 1, none⟩ = some (.int .u64 n) ∧ w'.cell? ⟨w.heap.size, 2, none⟩ = some (.slice A1 l1.length c1) ∧ w'.cell? ⟨w.heap.size, 3, none⟩ = some (.slice A2 l2.length c2)) (ds := []) #[false, false, false, false, false, false, false, false, false, false, false] (by kernel_rfl) rfl rfl ⟨(blk_cell BD.out 0).trans rfl, (blk_cell BD.out 1).trans rfl, (blk_cell BD.out 2).trans rfl, (blk_cell BD.out 3).trans rfl⟩ (fun hHeld => ?_); refine with_tabW cbor_appended.tab1 cbor_appended.bits1 (fun HT_ HW_ => ?_)
 generalize (w.alloc (Obj.cells #[.int .i64 t, .int .u64 n, .slice A1 l1.length c1, .slice A2 l2.length c2] 27)).drew = wd at BD HOD HWD HBD hHeld ⊢
 refine pure_ (i := 0) (N := (some 7)) (v := ?_) (a' := ?_) #[true, false, false, false, false, false, false, false, false, false, false] rfl rfl (any_of HT_.out (by kernel_rfl)) (fun _ _ _ h => h) (Or.inl ⟨by rfl, ?_⟩) ?_ ?_
 rotate_left
 ·intro w'
  go_simp
  with_reducible rfl
 rotate_left
 ·simp only [Act.put, List.setIfInBounds_toArray, List.set_cons_zero, List.set_cons_succ, i64_w, i32_w]
  rfl
 refine pure_ (i := 1) (N := (some 8)) (v := ?_) (a' := ?_) #[true, true, false, false, false, false, false, false, false, false, false] rfl rfl (any_of HT_.out (by kernel_rfl)) (fun _ _ _ h => h) (Or.inl ⟨by rfl, ?_⟩) ?_ ?_
 rotate_left
 ·intro w'
  go_simp
  with_reducible rfl
 rotate_left
 ·simp only [Act.put, List.setIfInBounds_toArray, List.set_cons_zero, List.set_cons_succ, i64_w, i32_w]
  rfl
 refine take_ (i := 2) (N := (some 9)) (v := ?_) (a' := ?_) #[true, true, true, false, false, false, false, false, false, false, false] rfl rfl (take_ofW HT_.out HW_.out (by kernel_rfl)) (fun _ _ _ h => h) (Or.inl ⟨by rfl, ?_⟩) hHeld ?_ ?_
 rotate_left
 ·rintro w' ⟨s0, s1, s2, s3⟩
  go_simp
  with_reducible rfl
 rotate_left
 ·simp only [Act.put, List.setIfInBounds_toArray, List.set_cons_zero, List.set_cons_succ, i64_w, i32_w]
  rfl
 refine take_ (i := 3) (N := (some 10)) (v := ?_) (a' := ?_) #[true, true, true, true, false, false, false, false, false, false, false] rfl rfl (take_ofW HT_.out HW_.out (by kernel_rfl)) (fun _ _ _ h => h) (Or.inl ⟨by rfl, ?_⟩) hHeld ?_ ?_
 rotate_left
 ·rintro w' ⟨s0, s1, s2, s3⟩
  go_simp
  with_reducible rfl
 rotate_left
 ·simp only [Act.put, List.setIfInBounds_toArray, List.set_cons_zero, List.set_cons_succ, i64_w, i32_w]
  rfl
 refine pure_ (i := 7) (N := (some 14)) (v := ?_) (a' := ?_) #[true, true, true, true, false, false, false, true, false, false, false] rfl rfl (any_of HT_.out (by kernel_rfl)) (fun _ _ _ h => h) (Or.inl ⟨by rfl, ?_⟩) ?_ ?_
 rotate_left
 ·intro w'
  go_simp
  with_reducible rfl
 rotate_left
 ·simp only [Act.put, List.setIfInBounds_toArray, List.set_cons_zero, List.set_cons_succ, i64_w, i32_w]
  rfl
 refine take_ (i := 8) (N := (some 15)) (v := ?_) (a' := ?_) #[true, true, true, true, false, false, false, true, true, false, false] rfl rfl (take_ofW HT_.out HW_.out (by kernel_rfl)) (fun _ _ _ h => h) (Or.inl ⟨by rfl, ?_⟩) hHeld ?_ ?_
 rotate_left
 ·rintro w' ⟨s0, s1, s2, s3⟩
  go_simp
  with_reducible rfl
 rotate_left
 ·simp only [Act.put, List.setIfInBounds_toArray, List.set_cons_zero, List.set_cons_succ, i64_w, i32_w]
  rfl
 refine one_ (i := 4) (N := (some 11)) #[true, true, true, true, true, false, false, true, true, false, false] rfl rfl (one_of HT_.out (by kernel_rfl)) (by decide) (fun K hK => ?_)
 refine goes_ Tryd.func94 (by kernel_rfl) rfl #[.agg #[.int .i64 t, .int .u64 n, .slice A1 l1.length c1, .slice A2 l2.length c2]] (by rfl) rfl rfl q43_ ?_
 with_reducible refine (cbor_number.calls k t n A1 c1 l1 A2 c2 l2 m _ (Kd.C_below HR1.out.1 HWD.out) HR1.out.2 (Kd.C_below HR2.out.1 HWD.out) HR2.out.2 HM.out).mono ?_
 rintro e w2 ⟨rfl, hb⟩
 refine ⟨_, rfl, ?_⟩
 have HB2 := Aside0.mk (below_step HBD.out hb); have HE2 := Aside0.mk hb; have BN2 := Aside0.mk (blk_below BD.out hb)
 clear hb
 refine hK.out _ _ ⟨(blk_cell BN2.out 0).trans rfl, (blk_cell BN2.out 1).trans rfl, (blk_cell BN2.out 2).trans rfl, (blk_cell BN2.out 3).trans rfl⟩ (fun hHeld => ?_)
 clear hK K
 refine norm_ (a' := ?_) ?_ ?_
 rotate_left
 ·show Act.put _ (some 11) _ = _
  simp only [Act.put, List.setIfInBounds_toArray, List.set_cons_zero, List.set_cons_succ, i64_w, i32_w]
  rfl
 refine one_ (i := 5) (N := (some 12)) #[true, true, true, true, true, true, false, true, true, false, false] rfl rfl (one_of HT_.out (by kernel_rfl)) (by decide) (fun K hK => ?_)
 refine goes_ Tryd.func93 (by kernel_rfl) rfl #[.int .i64 t, .int .u64 m] (by rfl) rfl rfl q43_ ?_
 with_reducible refine (cbor_head.calls k t m hd _ HHD.out).mono ?_
 rintro e w3 ⟨v0, rfl, hr, hb⟩
 refine ⟨_, rfl, ?_⟩
 obtain ⟨A6, c6, rfl⟩ := Kd.R_slice hr; have HB3 := Aside0.mk (below_step HB2.out hb); have HD := Aside0.mk hr; have HO := Aside0.mk (Kd.R_below HOD.out (below_step HE2.out hb)); have BN3 := Aside0.mk (blk_below BN2.out hb); have HW3 := Aside0.mk (below_step HBW.out HB3.out); have HS := Aside0.mk (show base ≤ w3.heap.size by have h1_ := HB3.out.size; have h2_ := HSZ.out; omega)
 clear hr hb
 refine hK.out _ _ ⟨(blk_cell BN3.out 0).trans rfl, (blk_cell BN3.out 1).trans rfl, (blk_cell BN3.out 2).trans rfl, (blk_cell BN3.out 3).trans rfl⟩ (fun hHeld => ?_)
 clear hK K
 refine norm_ (a' := ?_) ?_ ?_
 rotate_left
 ·show Act.put _ (some 12) _ = _
  simp only [Act.put, List.setIfInBounds_toArray, List.set_cons_zero, List.set_cons_succ, i64_w, i32_w]
  rfl
 refine one_ (i := 6) (N := (some 13)) #[true, true, true, true, true, true, true, true, true, false, false] rfl rfl (one_of HT_.out (by kernel_rfl)) (by decide) (fun K hK => ?_)
 refine Kd.R_append_rows_step (Kd.int .u8) (w0 := w3) base (by rfl) (.tmp 7) (.tmp 12) 22 5 (.int .u8 0) 1 rfl Tryd.underlying22 info5 rfl (by decide) (by decide) (.slice A xs.length c) xs hd _ _ _ (fun _ => True) (fun _ => False) rfl rfl ?aO ?aR (fun _ _ h => h) (fun _ h => h.elim) ?aF ?aB ?aS ?aL ?_
 case aR => exact (Kd.R_reads' HD.out).2.2
 case aB => exact Below.refl _ _
 case aF => exact fun _ _ => trivial
 case aO => exact HO.out
 case aS => exact HS.out
 case aL => have := HX0.out; (try simp only [List.length_append, List.length_cons, List.length_nil]); omega
 intro v4 w4 ho hb hg hat
 have BN4 := Aside0.mk (blk_grown BN3.out hg (fun he => by have h1_ := HLT.out _ he.symm; omega)); have HB4 := Aside0.mk hb; have HW4 := Aside0.mk (HW3.out.trans (hb.mono HSZ.out.1)); have HS4 := Aside0.mk (Nat.le_trans HS.out hb.size)
 have HLT4 := Aside0.mk (show ∀ k_, v4.ownBlock = some k_ → k_ ≠ w.heap.size from fun k_ he => by have h1_ := HLT.out; have h2_ := HB3.out.size; have h3_ := HSZ.out.2.2; rcases hat with hat | ⟨b_, hat, hbb⟩ <;> rw [hat] at he <;> first | (have h4_ := h1_ _ he; omega) | (have h5_ := Option.some.inj he; omega))
 have ho2 := Kd.R_slice ho; simp only [List.length_append] at ho2; obtain ⟨A7, c7, rfl⟩ := ho2; have HO4 := Aside0.mk ho
 clear ho hb hg hat
 refine hK.out _ _ ⟨(blk_cell BN4.out 0).trans rfl, (blk_cell BN4.out 1).trans rfl, (blk_cell BN4.out 2).trans rfl, (blk_cell BN4.out 3).trans rfl⟩ (fun hHeld => ?_)
 clear hK K
 refine norm_ (a' := ?_) ?_ ?_
 rotate_left
 ·show Act.put _ (some 13) _ = _
  simp only [Act.put, List.setIfInBounds_toArray, List.set_cons_zero, List.set_cons_succ, i64_w, i32_w]
  rfl
 refine one_ (i := 9) (N := (some 16)) #[true, true, true, true, true, true, true, true, true, true, false] rfl rfl (one_of HT_.out (by kernel_rfl)) (by decide) (fun K hK => ?_)
 refine Kd.R_append_rows_step (Kd.int .u8) (w0 := w4) base (by rfl) (.tmp 13) (.tmp 15) 22 5 (.int .u8 0) 1 rfl Tryd.underlying22 info5 rfl (by decide) (by decide) (.slice A7 (xs.length + hd.length) c7) (xs ++ hd) l1 _ _ _ (fun _ => True) (fun _ => False) rfl rfl ?aO ?aR (fun _ _ h => h) (fun _ h => h.elim) ?aF ?aB ?aS ?aL ?_
 case aR => exact Kd.C_below HR1.out.1 HW4.out
 case aB => exact Below.refl _ _
 case aF => exact fun _ _ => trivial
 case aO => exact HO4.out
 case aS => exact HS4.out
 case aL => have := HX0.out; (try simp only [List.length_append, List.length_cons, List.length_nil]); omega
 intro v5 w5 ho hb hg hat
 have BN5 := Aside0.mk (blk_grown BN4.out hg (fun he => HLT4.out _ he.symm rfl)); have HB5 := Aside0.mk (HB4.out.trans hb); have ho2 := Kd.R_slice ho; simp only [List.length_append] at ho2; obtain ⟨A8, c8, rfl⟩ := ho2; have HO5 := Aside0.mk ho; obtain ⟨x0, x1, x2, x3, x4, x5, x6, x7⟩ := row4 BN5.out
 clear ho hb hg hat
 refine hK.out _ _ ⟨(blk_cell BN5.out 0).trans rfl, (blk_cell BN5.out 1).trans rfl, (blk_cell BN5.out 2).trans rfl, (blk_cell BN5.out 3).trans rfl⟩ (fun hHeld => ?_)
 clear hK K
 refine norm_ (a' := ?_) ?_ ?_
 rotate_left
 ·show Act.put _ (some 16) _ = _
  simp only [Act.put, List.setIfInBounds_toArray, List.set_cons_zero, List.set_cons_succ, i64_w, i32_w]
  rfl
 refine pure_ (i := 10) (N := (some 0)) (v := ?_) (a' := ?_) #[true, true, true, true, true, true, true, true, true, true, true] rfl rfl (any_of HT_.out (by kernel_rfl)) (fun _ _ _ h => h) (Or.inl ⟨by rfl, ?_⟩) ?_ ?_
 rotate_left
 ·intro w'
  go_simp
  with_reducible rfl
 rotate_left
 ·simp only [Act.put, List.setIfInBounds_toArray, List.set_cons_zero, List.set_cons_succ, i64_w, i32_w]
  rfl
 refine done_ (done_of HT_.out (by kernel_rfl)) ?_
 try go_wp2
 go_loopg [0, 20] k (fun kq v0_ v20 W => ∃ (i : Nat) (acc rest : List Int), v20 = .int .i64 (i : Int) ∧ Aside0 (i ≤ l2.length ∧ kq ≤ k ∧ encsM kq (l2.drop i) = some rest ∧ acc ++ rest = xs ++ r) ∧ Aside0 (Kd.R (Kd.int .u8) 5 W base (fun _ => True) v0_ acc) ∧ Aside0 (Below base w W))
 case atStart =>
  exact ⟨0, xs ++ hd ++ l1, rs, rfl, ⟨by omega, Nat.le_refl _, HRS.out, by rw [← HRR.out]; simp⟩, HO5, ⟨((HB1.out.mono HSZ.out.2.1).trans (HB3.out.mono (by have := HSZ.out; omega))).trans HB5.out⟩⟩
 case round =>
  obtain ⟨i, acc, rest, rfl, HI, HC0, HBW2⟩ := hrel
  have hI := HI.out.2.2.1
  have hE := HI.out.2.2.2
  clear z0 z1 z2 z3 z4 z5 z6 z7 x0 x1 x2 x3 x4 x5 x6 x7
  have HLL : Aside0 (acc.length + rest.length < 1000000000000) := by
   have h1_ := congrArg List.length hE
   have h2_ := congrArg List.length HRR.out
   simp only [List.length_append] at h1_ h2_
   exact ⟨by have := HX0.out; omega⟩
  have HEE := Aside0.mk hE
  clear hE
  cases gk with
  | zero => exact absurd hI (by simp [encsM])
  | succ kq =>
  have HWW := Aside0.mk (HB0.out.trans (HBW2.out.mono HSZ.out.1))
  by_cases ci : i < l2.length
  ·have cb : decide ((i : Int) < (l2.length : Int)) = true := decide_eq_true (by omega)
   have cb2 : decide (i < l2.length) = true := decide_eq_true ci
   obtain ⟨ad, B1_, d1, B2_, d2, ea, x0, x1, x2, x3, m1, k1, m2, k2⟩ := at_T27 HR2.out.1 (i : Int) (by omega) (by omega)
   cases ea
   rw [List.drop_eq_getElem_cons ci] at hI
   have er : rd_T27 l2 (i : Int) = l2[i] := by
    unfold rd_T27
    rw [Int.toNat_natCast, List.getD_eq_getElem?_getD, List.getElem?_eq_getElem ci]
    rfl
   rw [← er] at hI
   clear er
   generalize rd_T27 l2 (i : Int) = x at *
   rw [encsM] at hI
   obtain ⟨r', hr', hI⟩ := Option.bind_eq_some_iff.mp hI
   obtain ⟨r2, hr2, hI⟩ := Option.bind_eq_some_iff.mp hI
   obtain rfl := Option.some.inj hI
   replace x0 := (HWW.out.cell (World.block_lt_of_cell? w0 _ x0)).trans x0
   replace x1 := (HWW.out.cell (World.block_lt_of_cell? w0 _ x1)).trans x1
   replace x2 := (HWW.out.cell (World.block_lt_of_cell? w0 _ x2)).trans x2
   replace x3 := (HWW.out.cell (World.block_lt_of_cell? w0 _ x3)).trans x3
   rw [Int.toNat_natCast] at x0 x1 x2 x3
   have hi0 : (0 ≤ (i : Int)) = True := eq_true (by omega)
   have hi1 : ((i : Int) < (l2.length : Int)) = True := eq_true (by omega)
   have ew : wrap64 ((i : Int) + 1) = (i : Int) + 1 := by unfold wrap64; have := HQ.out; omega
   have KK := Aside0.mk (And.intro (And.intro m1 k1) (And.intro m2 k2))
   have HR' := Aside0.mk hr'
   have HI2 := Aside0.mk hr2
   have b7 := below_alloc (Below.refl wr.heap.size wr) (Obj.cells #[.int .i64 x.f0, .int .u64 x.f1, .slice B1_ x.f2.length d1, .slice B2_ x.f3.length d2] 27)
   have HB7 := Aside0.mk b7
   have HWW2 := Aside0.mk (below_alloc HWW.out (Obj.cells #[.int .i64 x.f0, .int .u64 x.f1, .slice B1_ x.f2.length d1, .slice B2_ x.f3.length d2] 27))
   obtain ⟨u0, u1, u2, u3, u4, u5, u6, u7⟩ := row4 (blk_new wr (Obj.cells #[.int .i64 x.f0, .int .u64 x.f1, .slice B1_ x.f2.length d1, .slice B2_ x.f3.length d2] 27))
   have HC7 := Aside0.mk (Kd.R_below HC0.out b7)
   have HSR := Aside0.mk (show base ≤ wr.heap.size by have h2_ := HBW2.out.size; have h3_ := HSZ.out; omega)
   obtain ⟨A5, c5, rfl⟩ := Kd.R_slice HC0.out
   clear m1 k1 m2 k2 hr' hr2 hI b7
   go_wp2_with (go_at_call 57; ((with_reducible refine ((ih kq (by have := HI.out; omega)).use w0 _ base (.slice A5 acc.length c5) acc x.f0 x.f1 B1_ d1 x.f2 B2_ d2 x.f3 r' HWW2.out (by have := HSZ.out; omega) (Nat.le_trans HSR.out HB7.out.size) HC7.out KK.out.1.2 KK.out.1.1 KK.out.2.2 KK.out.2.1 HR'.out (by have := HLL.out; simp only [List.length_append] at this; omega)).mono ?_); rintro ev w6 ⟨v', rfl, hr, hb⟩; have HC8 := Aside0.mk hr; have HB8 := Aside0.mk hb; clear hr hb))
   go_roundg kq
   case measure => omega
   case rel => exact ⟨i + 1, acc ++ r', r2, by go_num, ⟨by omega, by have := HI.out; omega, HI2.out, by rw [← HEE.out]; simp⟩, HC8, ⟨(HBW2.out.trans (HB7.out.mono HSR.out)).trans HB8.out⟩⟩
  ·have cb : decide ((i : Int) < (l2.length : Int)) = false := decide_eq_false (by omega)
   have cb2 : decide (i < l2.length) = false := decide_eq_false ci
   rw [List.drop_eq_nil_of_le (by omega), encsM] at hI
   obtain rfl := (Option.some.inj hI).symm
   have eE : acc = xs ++ r := by have h_ := HEE.out; rw [List.append_nil] at h_; exact h_
   have HEQ := Aside0.mk eE
   clear eE
   obtain ⟨A5, c5, rfl⟩ := Kd.R_slice HC0.out
   go_wp2
   go_ret
   exact ⟨_, rfl, by rw [← HEQ.out]; exact HC0.out, HBW2.out⟩
theorem app_all : ∀ k, AppC k := by
 intro k
 induction k using Nat.strongRecOn with
 | _ k ih =>
  cases k with
  | zero =>
   intro w0 w base v xs t n A1 c1 l1 A2 c2 l2 r hB hb0 hbs hR hr1 hc1 hr2 hc2 h hx
   exact absurd h (by simp [encM])
  | succ k => exact app_step k ih
def prn (c : Int) : Bool := decide (32 ≤ c) && decide (c ≤ 126)
def badIx : List Int → Int → Int
 | [], _ => -1
 | c :: cs, i => if prn c = true then badIx cs (i + 1) else i
set_option maxHeartbeats 4000000 in
set_option maxRecDepth 100000 in
theorem printable_calls (c : Int) (w : World) : Calls Tryd.prog 97 #[.int .u8 c] w fun e w' => e = .returned (.bool (prn c)) ∧ Below w.heap.size w w' := by
 by_cases h1 : 32 ≤ c
 ·have z1 : decide (32 ≤ c) = true := decide_eq_true h1
  by_cases h2 : c ≤ 126
  ·have z2 : decide (c ≤ 126) = true := decide_eq_true h2
   go_enter Tryd.func97, Tryd.ntmps97
   go_wp2
   go_ret
   exact ⟨by simp [prn, h1, h2], by repeat (first | exact Below.refl _ _ | apply below_drew1 | apply pw_below_drewN)⟩
  ·have z2 : decide (c ≤ 126) = false := decide_eq_false h2
   go_enter Tryd.func97, Tryd.ntmps97
   go_wp2
   go_ret
   exact ⟨by simp [prn, h1, h2], by repeat (first | exact Below.refl _ _ | apply below_drew1 | apply pw_below_drewN)⟩
 ·have z1 : decide (32 ≤ c) = false := decide_eq_false h1
  go_enter Tryd.func97, Tryd.ntmps97
  go_wp2
  go_ret
  exact ⟨by rw [prn, z1]; rfl, by repeat (first | exact Below.refl _ _ | apply below_drew1 | apply pw_below_drewN)⟩
theorem rd_dropI {l : List Int} {i : Nat} (h : i < l.length) : l.drop i = rd l (i : Int) :: l.drop (i + 1) := by
 rw [List.drop_eq_getElem_cons h]
 have e : rd l (i : Int) = l[i] := by
  rw [rd, Int.toNat_natCast, List.getD_eq_getElem?_getD, List.getElem?_eq_getElem h]
  rfl
 rw [e]
set_option maxHeartbeats 4000000 in
set_option maxRecDepth 100000 in
theorem clo_shp (c : Int) (b : Bool) (w : World) (h : prn c = b) : Calls Tryd.prog 96 #[.int .u8 c] w fun e w' => e = .returned (.bool (!b)) ∧ Below w.heap.size w w' := by
 subst h
 go_enter Tryd.func96, Tryd.ntmps96
 go_wp2_with (go_at_call 97; ((with_reducible refine (printable_calls c _).mono ?_); rintro ev w' ⟨rfl, hb'⟩; have HB := Aside0.mk hb'; clear hb'))
 go_ret
 exact ⟨rfl, HB.out⟩
set_option maxHeartbeats 4000000 in
set_option maxRecDepth 100000 in
theorem index_shp (w : World) (A : Option Addr) (c : Nat) (l : List Int) (hC : Kd.C (Kd.int .u8) w A l.length l) (hl : l.length < 1000000000000) :
  Calls Tryd.prog 117 #[.slice A l.length c, .func (.func 96) #[] #[]] w fun e w' => e = .returned (.int .i64 (badIx l 0)) ∧ Below w.heap.size w w' := by
 have HC := Aside0.mk hC
 have HL := Aside0.mk hl
 clear hC hl
 go_enter Tryd.func117, Tryd.ntmps117
 go_wp2
 go_loopg [8] l.length (fun kq v8 w' => ∃ (i : Nat), v8 = .int .i64 (i : Int) ∧ Aside0 (i ≤ l.length ∧ kq = l.length - i ∧ badIx (l.drop i) (i : Int) = badIx l 0) ∧ Aside0 (Below w.heap.size w w'))
 case atStart => exact ⟨0, rfl, ⟨by omega, by omega, rfl⟩, ⟨Below.refl _ _⟩⟩
 case round =>
  obtain ⟨i, rfl, HI, HB⟩ := hrel
  by_cases ci : i < l.length
  ·have ci' : decide ((i : Int) < (l.length : Int)) = true := decide_eq_true (by omega)
   have ci2 : decide (i < l.length) = true := decide_eq_true ci
   obtain ⟨ad, ea, x0⟩ := Kd.at_int HC.out (i : Int) (by omega) (by omega)
   cases ea
   have hstep := HI.out.2.2
   rw [rd_dropI ci, badIx] at hstep
   have HS := Aside0.mk hstep
   have HII := Aside0.mk ci
   clear hstep
   generalize rd l (i : Int) = x at *
   replace x0 := (HB.out.cell (World.block_lt_of_cell? w _ x0)).trans x0
   have hi0 : (0 ≤ (i : Int)) = True := eq_true (by omega)
   have hi1 : ((i : Int) < (l.length : Int)) = True := eq_true (by omega)
   clear ci
   rw [Int.toNat_natCast] at x0
   cases hp : prn x with
   | true =>
    have HP := Aside0.mk hp
    clear hp
    go_wp2_with (go_at_call 96; ((with_reducible refine (clo_shp x true _ HP.out).mono ?_); rintro ev w' ⟨rfl, hb'⟩; have HB2 := Aside0.mk (below_step HB.out hb'); clear hb'))
    have h_ := HII.out
    have hl_ := HL.out
    have hk_ := HI.out.2.1
    have hs_ : badIx (l.drop (i + 1)) ((i : Int) + 1) = badIx l 0 := by have h_ := HS.out; rw [HP.out, if_pos rfl] at h_; exact h_
    go_roundg (gk - 1)
    case measure => omega
    case rel => exact ⟨i + 1, by rw [show wrap64 ((i : Int) + 1) = ((i + 1 : Nat) : Int) by unfold wrap64; omega], ⟨by omega, by omega, hs_⟩, HB2⟩
   | false =>
    have HP := Aside0.mk hp
    clear hp
    have HSS : Aside0 ((i : Int) = badIx l 0) := ⟨by have h_ := HS.out; rw [HP.out, if_neg (by decide)] at h_; exact h_⟩
    go_wp2_with (go_at_call 96; ((with_reducible refine (clo_shp x false _ HP.out).mono ?_); rintro ev w' ⟨rfl, hb'⟩; have HB2 := Aside0.mk (below_step HB.out hb'); clear hb'))
    go_ret
    exact ⟨by rw [← HSS.out]; rfl, HB2.out⟩
  ·have ci' : decide ((i : Int) < (l.length : Int)) = false := decide_eq_false (by omega)
   have ci2 : decide (i < l.length) = false := decide_eq_false ci
   have hfin := HI.out.2.2
   rw [List.drop_eq_nil_of_le (by omega), badIx] at hfin
   have HFIN := Aside0.mk hfin
   clear hfin
   go_wp2
   go_ret
   exact ⟨by rw [← HFIN.out]; rfl, HB.out⟩
set_option maxHeartbeats 4000000 in
set_option maxRecDepth 100000 in
theorem clo_rdr (c : Int) (b : Bool) (w : World) (h : prn c = b) : Calls Tryd.prog 118 #[.int .u8 c] w fun e w' => e = .returned (.bool (!b)) ∧ Below w.heap.size w w' := by
 subst h
 go_enter Tryd.func118, Tryd.ntmps118
 go_wp2_with (go_at_call 97; ((with_reducible refine (printable_calls c _).mono ?_); rintro ev w' ⟨rfl, hb'⟩; have HB := Aside0.mk hb'; clear hb'))
 go_ret
 exact ⟨rfl, HB.out⟩
set_option maxHeartbeats 4000000 in
set_option maxRecDepth 100000 in
theorem index_rdr (w : World) (A : Option Addr) (c : Nat) (l : List Int) (hC : Kd.C (Kd.int .u8) w A l.length l) (hl : l.length < 1000000000000) :
  Calls Tryd.prog 117 #[.slice A l.length c, .func (.func 118) #[] #[]] w fun e w' => e = .returned (.int .i64 (badIx l 0)) ∧ Below w.heap.size w w' := by
 have HC := Aside0.mk hC
 have HL := Aside0.mk hl
 clear hC hl
 go_enter Tryd.func117, Tryd.ntmps117
 go_wp2
 go_loopg [8] l.length (fun kq v8 w' => ∃ (i : Nat), v8 = .int .i64 (i : Int) ∧ Aside0 (i ≤ l.length ∧ kq = l.length - i ∧ badIx (l.drop i) (i : Int) = badIx l 0) ∧ Aside0 (Below w.heap.size w w'))
 case atStart => exact ⟨0, rfl, ⟨by omega, by omega, rfl⟩, ⟨Below.refl _ _⟩⟩
 case round =>
  obtain ⟨i, rfl, HI, HB⟩ := hrel
  by_cases ci : i < l.length
  ·have ci' : decide ((i : Int) < (l.length : Int)) = true := decide_eq_true (by omega)
   have ci2 : decide (i < l.length) = true := decide_eq_true ci
   obtain ⟨ad, ea, x0⟩ := Kd.at_int HC.out (i : Int) (by omega) (by omega)
   cases ea
   have hstep := HI.out.2.2
   rw [rd_dropI ci, badIx] at hstep
   have HS := Aside0.mk hstep
   have HII := Aside0.mk ci
   clear hstep
   generalize rd l (i : Int) = x at *
   replace x0 := (HB.out.cell (World.block_lt_of_cell? w _ x0)).trans x0
   have hi0 : (0 ≤ (i : Int)) = True := eq_true (by omega)
   have hi1 : ((i : Int) < (l.length : Int)) = True := eq_true (by omega)
   clear ci
   rw [Int.toNat_natCast] at x0
   cases hp : prn x with
   | true =>
    have HP := Aside0.mk hp
    clear hp
    go_wp2_with (go_at_call 118; ((with_reducible refine (clo_rdr x true _ HP.out).mono ?_); rintro ev w' ⟨rfl, hb'⟩; have HB2 := Aside0.mk (below_step HB.out hb'); clear hb'))
    have h_ := HII.out
    have hl_ := HL.out
    have hk_ := HI.out.2.1
    have hs_ : badIx (l.drop (i + 1)) ((i : Int) + 1) = badIx l 0 := by have h_ := HS.out; rw [HP.out, if_pos rfl] at h_; exact h_
    go_roundg (gk - 1)
    case measure => omega
    case rel => exact ⟨i + 1, by rw [show wrap64 ((i : Int) + 1) = ((i + 1 : Nat) : Int) by unfold wrap64; omega], ⟨by omega, by omega, hs_⟩, HB2⟩
   | false =>
    have HP := Aside0.mk hp
    clear hp
    have HSS : Aside0 ((i : Int) = badIx l 0) := ⟨by have h_ := HS.out; rw [HP.out, if_neg (by decide)] at h_; exact h_⟩
    go_wp2_with (go_at_call 118; ((with_reducible refine (clo_rdr x false _ HP.out).mono ?_); rintro ev w' ⟨rfl, hb'⟩; have HB2 := Aside0.mk (below_step HB.out hb'); clear hb'))
    go_ret
    exact ⟨by rw [← HSS.out]; rfl, HB2.out⟩
  ·have ci' : decide ((i : Int) < (l.length : Int)) = false := decide_eq_false (by omega)
   have ci2 : decide (i < l.length) = false := decide_eq_false ci
   have hfin := HI.out.2.2
   rw [List.drop_eq_nil_of_le (by omega), badIx] at hfin
   have HFIN := Aside0.mk hfin
   clear hfin
   go_wp2
   go_ret
   exact ⟨by rw [← HFIN.out]; rfl, HB.out⟩
theorem contains_bytes (w : World) (A : Option Addr) (c : Nat) (l : List Int) (hC : Kd.C (Kd.int .u8) w A l.length l) (hl : l.length < 1000000000000) :
  Calls Tryd.prog 95 #[.slice A l.length c, .func (.func 96) #[] #[]] w fun e w' => e = .returned (.bool (decide (0 ≤ badIx l 0))) ∧ Below w.heap.size w w' := by
 have HI := Aside0.mk (index_shp w A c l hC hl)
 clear hC
 generalize badIx l 0 = q at *
 go_enter Tryd.func95, Tryd.ntmps95
 go_wp2_with (go_at_call 117; ((with_reducible refine (HI.out).mono ?_); rintro ev w' ⟨rfl, hb'⟩; have HB := Aside0.mk hb'; clear hb'))
 go_ret
 exact ⟨rfl, HB.out⟩
def allO (p : S27 → Option Bool) : List (S27) → Option Bool
 | [] => some true
 | x :: xs => (p x).bind fun r => if r = true then allO p xs else some false
theorem allO_drop {p : S27 → Option Bool} {l : List (S27)} {i : Nat} (h : i < l.length) : allO p (l.drop i) = (p (rd_T27 l (i : Int))).bind fun r => if r = true then allO p (l.drop (i + 1)) else some false := by
 rw [List.drop_eq_getElem_cons h]
 have e : rd_T27 l (i : Int) = l[i] := by
  unfold rd_T27
  rw [Int.toNat_natCast, List.getD_eq_getElem?_getD, List.getElem?_eq_getElem h]
  rfl
 rw [e]
 rfl
set_option maxHeartbeats 4000000 in
set_option maxRecDepth 100000 in
theorem index_items (w : World) (A : Option Addr) (c : Nat) (l : List (S27)) (p : S27 → Option Bool) (hC : Kd.C k27 w A l.length l) (hl : l.length < 1000000000)
  (HF : ∀ (W : World) (x : S27) (r : Bool) (A1 : Option Addr) (c1 : Nat) (A2 : Option Addr) (c2 : Nat), Below w.heap.size w W → p x = some r → Kd.C (Kd.int .u8) W A1 x.f2.length x.f2 → x.f2.length ≤ c1 → Kd.C k27 W A2 x.f3.length x.f3 → x.f3.length ≤ c2 →
   Calls Tryd.prog 99 #[.agg #[.int .i64 x.f0, .int .u64 x.f1, .slice A1 x.f2.length c1, .slice A2 x.f3.length c2]] W fun e w' => e = .returned (.bool (!r)) ∧ Below W.heap.size W w') (b : Bool) (hb : allO p l = some b) :
  Calls Tryd.prog 120 #[.slice A l.length c, .func (.func 99) #[] #[]] w fun e w' => (∃ x, e = .returned (.int .i64 x) ∧ decide (0 ≤ x) = !b) ∧ Below w.heap.size w w' := by
 have HC := Aside0.mk hC
 have HL := Aside0.mk hl
 have HB0 := Aside0.mk hb
 have HFF := Aside0.mk HF
 have hu := Tryd.underlying27
 clear hC hl hb HF
 go_enter Tryd.func120, Tryd.ntmps120
 go_wp2
 go_loopg [8] l.length (fun kq v8 w' => ∃ (i : Nat), v8 = .int .i64 (i : Int) ∧ Aside0 (i ≤ l.length ∧ kq = l.length - i ∧ allO p (l.drop i) = some b) ∧ Aside0 (Below w.heap.size w w'))
 case atStart => exact ⟨0, rfl, ⟨by omega, by omega, HB0.out⟩, ⟨Below.refl _ _⟩⟩
 case round =>
  obtain ⟨i, rfl, HI, HB⟩ := hrel
  by_cases ci : i < l.length
  ·have ci' : decide ((i : Int) < (l.length : Int)) = true := decide_eq_true (by omega)
   have ci2 : decide (i < l.length) = true := decide_eq_true ci
   obtain ⟨ad, A1, c1, A2, c2, ea, x0, x1, x2, x3, l1, k1, l2, k2⟩ := at_T27 HC.out (i : Int) (by omega) (by omega)
   cases ea
   have hstep := HI.out.2.2
   rw [allO_drop ci] at hstep
   obtain ⟨r, hr, hstep⟩ := Option.bind_eq_some_iff.mp hstep
   have HS := Aside0.mk hstep
   have HR := Aside0.mk hr
   have HII := Aside0.mk ci
   generalize rd_T27 l (i : Int) = x at *
   replace x0 := (HB.out.cell (World.block_lt_of_cell? w _ x0)).trans x0
   replace x1 := (HB.out.cell (World.block_lt_of_cell? w _ x1)).trans x1
   replace x2 := (HB.out.cell (World.block_lt_of_cell? w _ x2)).trans x2
   replace x3 := (HB.out.cell (World.block_lt_of_cell? w _ x3)).trans x3
   have K1 := Aside0.mk (And.intro (Kd.C_below k1 HB.out) l1)
   have K2 := Aside0.mk (And.intro (Kd.C_below k2 HB.out) l2)
   have hi0 : (0 ≤ (i : Int)) = True := eq_true (by omega)
   have hi1 : ((i : Int) < (l.length : Int)) = True := eq_true (by omega)
   clear k1 l1 k2 l2 hstep hr ci
   rw [Int.toNat_natCast] at x0 x1 x2 x3
   cases r with
   | true =>
    go_wp2_with (go_at_call 99; ((with_reducible refine (HFF.out _ x true A1 c1 A2 c2 HB.out HR.out K1.out.1 K1.out.2 K2.out.1 K2.out.2).mono ?_); rintro ev w' ⟨rfl, hb'⟩; have HB2 := Aside0.mk (below_step HB.out hb'); clear hb'))
    have h_ := HII.out
    have hl_ := HL.out
    have hk_ := HI.out.2.1
    have hs_ : allO p (l.drop (i + 1)) = some b := by have h_ := HS.out; simpa using h_
    go_roundg (gk - 1)
    case measure => omega
    case rel => exact ⟨i + 1, by rw [show wrap64 ((i : Int) + 1) = ((i + 1 : Nat) : Int) by unfold wrap64; omega], ⟨by omega, by omega, hs_⟩, HB2⟩
   | false =>
    have hs_ := HS.out
    rw [if_neg (by decide)] at hs_
    obtain rfl := Option.some.inj hs_
    clear hs_
    go_wp2_with (go_at_call 99; ((with_reducible refine (HFF.out _ x false A1 c1 A2 c2 HB.out HR.out K1.out.1 K1.out.2 K2.out.1 K2.out.2).mono ?_); rintro ev w' ⟨rfl, hb'⟩; have HB2 := Aside0.mk (below_step HB.out hb'); clear hb'))
    go_ret
    exact ⟨⟨_, rfl, decide_eq_true (by omega)⟩, HB2.out⟩
  ·have ci' : decide ((i : Int) < (l.length : Int)) = false := decide_eq_false (by omega)
   have ci2 : decide (i < l.length) = false := decide_eq_false ci
   have hfin := HI.out.2.2
   rw [List.drop_eq_nil_of_le (by omega)] at hfin
   obtain rfl : true = b := Option.some.inj hfin
   clear hfin
   go_wp2
   go_ret
   exact ⟨⟨_, rfl, rfl⟩, HB.out⟩
theorem contains_items (w : World) (A : Option Addr) (c : Nat) (l : List (S27)) (p : S27 → Option Bool) (hC : Kd.C k27 w A l.length l) (hl : l.length < 1000000000)
  (HF : ∀ (W : World) (x : S27) (r : Bool) (A1 : Option Addr) (c1 : Nat) (A2 : Option Addr) (c2 : Nat), Below w.heap.size w W → p x = some r → Kd.C (Kd.int .u8) W A1 x.f2.length x.f2 → x.f2.length ≤ c1 → Kd.C k27 W A2 x.f3.length x.f3 → x.f3.length ≤ c2 →
   Calls Tryd.prog 99 #[.agg #[.int .i64 x.f0, .int .u64 x.f1, .slice A1 x.f2.length c1, .slice A2 x.f3.length c2]] W fun e w' => e = .returned (.bool (!r)) ∧ Below W.heap.size W w') (b : Bool) (hb : allO p l = some b) :
  Calls Tryd.prog 98 #[.slice A l.length c, .func (.func 99) #[] #[]] w fun e w' => e = .returned (.bool (!b)) ∧ Below w.heap.size w w' := by
 have HI := Aside0.mk (index_items w A c l p hC hl HF b hb)
 clear hC HF hb
 go_enter Tryd.func98, Tryd.ntmps98
 go_wp2_with (go_at_call 120; ((with_reducible refine (HI.out).mono ?_); rintro ev w' ⟨⟨x, rfl, hx⟩, hb'⟩; have HB := Aside0.mk hb'; clear hb'))
 go_ret
 exact ⟨rfl, HB.out⟩
theorem allO_mono {p q : S27 → Option Bool} (h : ∀ x, LeO (p x) (q x)) : ∀ l, LeO (allO p l) (allO q l)
 | [] => LeO.refl _
 | x :: xs => LeO.bind (h x) (fun r => LeO.ite (allO_mono h xs) (LeO.refl _))
def badM (t n : Int) (b : List Int) (l : List (S27)) : Bool := if t = 0 ∨ t = 1 then decide (0 < b.length + l.length) else if t = 2 then decide (0 < n) || decide (0 < l.length) else if t = 3 then decide (0 < n) || decide (0 < l.length) || decide (0 ≤ badIx b 0) else if t = 4 then decide (0 < n) || decide (0 < b.length) else if t = 5 then decide (0 < n) || decide (0 < b.length) || decide (l.length % 2 = 1) else true
def ordM : Nat → List (S27) → Bool → List Int → Option Bool
 | 0, _, _, _ => none
 | _ + 1, [], _, _ => some true
 | k + 1, x :: xs, f, last => (encM k x.f0 x.f1 x.f2 x.f3).bind fun key => if key.length < 1000000000 then (if f = true ∧ 0 ≤ Lib.compareBytes (Lib.bytesOf last) (Lib.bytesOf key) then some false else ordM k (xs.drop 1) true key) else none
def cbor_shaped.f : Nat → Int → Int → List Int → List (S27) → Option Bool
 | 0, _, _, _, _ => none
 | k + 1, t, n, b, l => if b.length < 1000000000 ∧ l.length < 1000000000 then (if badM t n b l = true then some false else (allO (fun x => cbor_shaped.f k x.f0 x.f1 x.f2 x.f3) l).bind fun r => if r = true then (if t = 5 then ordM k l false [] else some true) else some false) else none
theorem cbor_number.mono' (t n : Int) (b : List Int) (l : List (S27)) (k : Nat) : LeO (cbor_number.f k t n b l) (cbor_number.f (k + 1) t n b l) := cbor_number.mono t n b l k
theorem encM_mono : ∀ k, (∀ t n b l, LeO (encM k t n b l) (encM (k + 1) t n b l)) ∧ (∀ l, LeO (encsM k l) (encsM (k + 1) l))
 | 0 => ⟨fun _ _ _ _ r h => by simp [encM] at h, fun _ r h => by simp [encsM] at h⟩
 | k + 1 => by
  obtain ⟨i1, i2⟩ := encM_mono k
  refine ⟨fun t n b l => ?_, fun l => ?_⟩
  ·rw [encM, encM]
   exact LeO.ite (LeO.bind (cbor_number.mono' t n b l k) (fun m => LeO.bind (cbor_head.mono t m k) (fun h => LeO.ite (LeO.bind (i2 l) (fun _ => LeO.refl _)) (LeO.refl _)))) (LeO.refl _)
  ·cases l with
   | nil => rw [encsM, encsM]; exact LeO.refl _
   | cons x xs => rw [encsM, encsM]; exact LeO.bind (i1 _ _ _ _) (fun _ => LeO.bind (i2 xs) (fun _ => LeO.refl _))
theorem ordM_mono : ∀ k l f last, LeO (ordM k l f last) (ordM (k + 1) l f last)
 | 0, _, _, _ => fun r h => by simp [ordM] at h
 | k + 1, [], _, _ => by rw [ordM, ordM]; exact LeO.refl _
 | k + 1, x :: xs, f, last => by
  rw [ordM, ordM]
  exact LeO.bind ((encM_mono k).1 _ _ _ _) (fun key => LeO.ite (LeO.ite (LeO.refl _) (ordM_mono k _ _ _)) (LeO.refl _))
theorem cbor_shaped.mono : ∀ a0 a1 a2 a3 k, LeO (cbor_shaped.f k a0 a1 a2 a3) (cbor_shaped.f (k + 1) a0 a1 a2 a3) := by
 intro a0 a1 a2 a3 k
 induction k generalizing a0 a1 a2 a3 with
 | zero => intro r h; simp [cbor_shaped.f] at h
 | succ k ih =>
  rw [cbor_shaped.f, cbor_shaped.f]
  exact LeO.ite (LeO.ite (LeO.refl _) (LeO.bind (allO_mono (fun x => ih x.f0 x.f1 x.f2 x.f3) _) (fun r => LeO.ite (LeO.ite (ordM_mono k _ _ _) (LeO.refl _)) (LeO.refl _)))) (LeO.refl _)
set_option maxHeartbeats 40000000 in
set_option maxRecDepth 100000 in
theorem cbor_shaped.calls (k : Nat) : ∀ (a0_0 : Int) (a0_1 : Int) (A0_2 : Option Addr) (c0_2 : Nat) (l0_2 : List Int) (A0_3 : Option Addr) (c0_3 : Nat) (l0_3 : List (S27)) (r : Bool) (w : World) (hr0_2 : Kd.C (Kd.int .u8) w A0_2 l0_2.length l0_2) (hc0_2 : l0_2.length ≤ c0_2) (hr0_3 : Kd.C k27 w A0_3 l0_3.length l0_3) (hc0_3 : l0_3.length ≤ c0_3) (h : cbor_shaped.f k a0_0 a0_1 l0_2 l0_3 = some r),
  Calls Tryd.prog 60 #[.agg #[.int .i64 a0_0, .int .u64 a0_1, .slice A0_2 l0_2.length c0_2, .slice A0_3 l0_3.length c0_3]] w fun e w' => e = .returned (.bool r) ∧ Below w.heap.size w w' := by
 induction k with
 | zero => intro _ _ _ _ _ _ _ _ _ _ _ _ _ _ h; cases h
 | succ k ih =>
  intro t n A1 c1 b A2 c2 l r w hr1 hc1 hr2 hc2 h
  rw [cbor_shaped.f] at h
  by_cases hl : b.length < 1000000000 ∧ l.length < 1000000000
  case neg => rw [if_neg hl] at h; cases h
  rw [if_pos hl] at h
  have hu := Tryd.underlying27
  have hclo : ∀ (W : World) (x : S27) (r : Bool) (A1 : Option Addr) (c1 : Nat) (A2 : Option Addr) (c2 : Nat), Below w.heap.size w W → cbor_shaped.f k x.f0 x.f1 x.f2 x.f3 = some r → Kd.C (Kd.int .u8) W A1 x.f2.length x.f2 → x.f2.length ≤ c1 → Kd.C k27 W A2 x.f3.length x.f3 → x.f3.length ≤ c2 →
    Calls Tryd.prog 99 #[.agg #[.int .i64 x.f0, .int .u64 x.f1, .slice A1 x.f2.length c1, .slice A2 x.f3.length c2]] W fun e w' => e = .returned (.bool (!r)) ∧ Below W.heap.size W w' := by
   intro W x r A1 c1 A2 c2 _ hx h1 l1 h2 l2
   have HI := Aside0.mk (fun (W' : World) (hb : Below W.heap.size W W') => ih x.f0 x.f1 A1 c1 x.f2 A2 c2 x.f3 r W' (Kd.C_below h1 hb) l1 (Kd.C_below h2 hb) l2 hx)
   clear ih h1 h2 hr1 hr2
   go_enter Tryd.func99, Tryd.ntmps99
   go_wp2_with (go_at_call 60; ((with_reducible refine (HI.out _ (by repeat (first | exact Below.refl _ _ | apply below_alloc))).mono ?_); rintro ev w' ⟨rfl, hb'⟩; have HB := Aside0.mk (below_step (below_alloc (Below.refl _ _) _) hb'); clear hb'))
   go_ret
   exact ⟨rfl, HB.out⟩
  have HCLO := Aside0.mk hclo
  have HR1 := Aside0.mk (And.intro hr1 hl.1)
  have HR2 := Aside0.mk (And.intro hr2 hl.2)
  have HLL := Aside0.mk hl
  have BN := Aside0.mk (blk_new w (Obj.cells #[.int .i64 t, .int .u64 n, .slice A1 b.length c1, .slice A2 l.length c2] 27))
  have BW := Aside0.mk (below_alloc (Below.refl w.heap.size w) (Obj.cells #[.int .i64 t, .int .u64 n, .slice A1 b.length c1, .slice A2 l.length c2] 27))
  have ew : wrap64 ((b.length : Int) + (l.length : Int)) = (b.length : Int) + (l.length : Int) := by unfold wrap64; omega
  obtain ⟨z0, z1, z2, z3, z4, z5, z6, z7⟩ := row4 BN.out
  clear hclo ih hr1 hr2 hl
  by_cases t0 : t = 0
  ·subst t0
   by_cases s0 : 0 < b.length + l.length
   ·have hbad : badM 0 n b l = true := by rw [badM, if_pos (by omega)]; exact decide_eq_true s0
    have y1 : decide (0 < (b.length : Int) + (l.length : Int)) = true := decide_eq_true (by omega)
    have y2 : decide (0 < b.length + l.length) = true := decide_eq_true s0
    rw [if_pos hbad] at h
    obtain rfl := Option.some.inj h
    clear h
    go_enter Tryd.func60, Tryd.ntmps60
    go_wp2
    go_ret
    exact ⟨rfl, BW.out⟩
   ·have hbad : badM 0 n b l = false := by rw [badM, if_pos (by omega)]; exact decide_eq_false s0
    have y1 : decide (0 < (b.length : Int) + (l.length : Int)) = false := decide_eq_false (by omega)
    have y2 : decide (0 < b.length + l.length) = false := decide_eq_false s0
    rw [if_neg (by rw [hbad]; decide)] at h
    obtain ⟨q, hq, h⟩ := Option.bind_eq_some_iff.mp h
    have HQ := Aside0.mk hq
    clear hq
    cases q with
    | false =>
     rw [if_neg (by decide)] at h
     obtain rfl := Option.some.inj h
     clear h
     go_enter Tryd.func60, Tryd.ntmps60
     go_wp2_with ((go_at_call 98; ((with_reducible refine (contains_items _ A2 c2 l (fun x => cbor_shaped.f k x.f0 x.f1 x.f2 x.f3) (Kd.C_below HR2.out.1 BW.out) HR2.out.2 (fun W x r A1 c1 A2 c2 hb => HCLO.out W x r A1 c1 A2 c2 (below_step BW.out hb)) false HQ.out).mono ?_); rintro ev w3 ⟨rfl, hb'⟩; have BW3 := Aside0.mk (below_step BW.out hb'); have BN3 := Aside0.mk (blk_below BN.out hb'); obtain ⟨x0, x1, x2, x3, x4, x5, x6, x7⟩ := row4 BN3.out; clear hb')))
     go_ret
     exact ⟨rfl, BW3.out⟩
    | true =>
     rw [if_pos rfl] at h
     rw [if_neg (by decide)] at h
     obtain rfl := Option.some.inj h
     clear h
     go_enter Tryd.func60, Tryd.ntmps60
     go_wp2_with ((go_at_call 98; ((with_reducible refine (contains_items _ A2 c2 l (fun x => cbor_shaped.f k x.f0 x.f1 x.f2 x.f3) (Kd.C_below HR2.out.1 BW.out) HR2.out.2 (fun W x r A1 c1 A2 c2 hb => HCLO.out W x r A1 c1 A2 c2 (below_step BW.out hb)) true HQ.out).mono ?_); rintro ev w3 ⟨rfl, hb'⟩; have BW3 := Aside0.mk (below_step BW.out hb'); have BN3 := Aside0.mk (blk_below BN.out hb'); obtain ⟨x0, x1, x2, x3, x4, x5, x6, x7⟩ := row4 BN3.out; clear hb')))
     refine wp_loop_rounds 1 ?_
     simp only [rounds_succ]
     go_wp2
     go_ret
     exact ⟨rfl, BW3.out⟩
  by_cases t1 : t = 1
  ·subst t1
   by_cases s0 : 0 < b.length + l.length
   ·have hbad : badM 1 n b l = true := by rw [badM, if_pos (by omega)]; exact decide_eq_true s0
    have y1 : decide (0 < (b.length : Int) + (l.length : Int)) = true := decide_eq_true (by omega)
    have y2 : decide (0 < b.length + l.length) = true := decide_eq_true s0
    rw [if_pos hbad] at h
    obtain rfl := Option.some.inj h
    clear h
    go_enter Tryd.func60, Tryd.ntmps60
    go_wp2
    go_ret
    exact ⟨rfl, BW.out⟩
   ·have hbad : badM 1 n b l = false := by rw [badM, if_pos (by omega)]; exact decide_eq_false s0
    have y1 : decide (0 < (b.length : Int) + (l.length : Int)) = false := decide_eq_false (by omega)
    have y2 : decide (0 < b.length + l.length) = false := decide_eq_false s0
    rw [if_neg (by rw [hbad]; decide)] at h
    obtain ⟨q, hq, h⟩ := Option.bind_eq_some_iff.mp h
    have HQ := Aside0.mk hq
    clear hq
    cases q with
    | false =>
     rw [if_neg (by decide)] at h
     obtain rfl := Option.some.inj h
     clear h
     go_enter Tryd.func60, Tryd.ntmps60
     go_wp2_with ((go_at_call 98; ((with_reducible refine (contains_items _ A2 c2 l (fun x => cbor_shaped.f k x.f0 x.f1 x.f2 x.f3) (Kd.C_below HR2.out.1 BW.out) HR2.out.2 (fun W x r A1 c1 A2 c2 hb => HCLO.out W x r A1 c1 A2 c2 (below_step BW.out hb)) false HQ.out).mono ?_); rintro ev w3 ⟨rfl, hb'⟩; have BW3 := Aside0.mk (below_step BW.out hb'); have BN3 := Aside0.mk (blk_below BN.out hb'); obtain ⟨x0, x1, x2, x3, x4, x5, x6, x7⟩ := row4 BN3.out; clear hb')))
     go_ret
     exact ⟨rfl, BW3.out⟩
    | true =>
     rw [if_pos rfl] at h
     rw [if_neg (by decide)] at h
     obtain rfl := Option.some.inj h
     clear h
     go_enter Tryd.func60, Tryd.ntmps60
     go_wp2_with ((go_at_call 98; ((with_reducible refine (contains_items _ A2 c2 l (fun x => cbor_shaped.f k x.f0 x.f1 x.f2 x.f3) (Kd.C_below HR2.out.1 BW.out) HR2.out.2 (fun W x r A1 c1 A2 c2 hb => HCLO.out W x r A1 c1 A2 c2 (below_step BW.out hb)) true HQ.out).mono ?_); rintro ev w3 ⟨rfl, hb'⟩; have BW3 := Aside0.mk (below_step BW.out hb'); have BN3 := Aside0.mk (blk_below BN.out hb'); obtain ⟨x0, x1, x2, x3, x4, x5, x6, x7⟩ := row4 BN3.out; clear hb')))
     refine wp_loop_rounds 1 ?_
     simp only [rounds_succ]
     go_wp2
     go_ret
     exact ⟨rfl, BW3.out⟩
  by_cases t2 : t = 2
  ·subst t2
   by_cases s1 : 0 < n
   ·have hbad : badM 2 n b l = true := by simp [badM, s1]
    have f1 : decide (0 < n) = true := decide_eq_true (by omega)
    rw [if_pos hbad] at h
    obtain rfl := Option.some.inj h
    clear h
    go_enter Tryd.func60, Tryd.ntmps60
    go_wp2
    go_ret
    exact ⟨rfl, BW.out⟩
   have s1n : (0 < n) = False := eq_false s1
   have f1 : decide (0 < n) = false := decide_eq_false (by omega)
   by_cases s2 : 0 < l.length
   ·have hbad : badM 2 n b l = true := by simp only [badM, decide_eq_true s2]; simp
    have f2a : decide (0 < (l.length : Int)) = true := decide_eq_true (by omega)
    have f2b : decide (0 < l.length) = true := decide_eq_true (by omega)
    rw [if_pos hbad] at h
    obtain rfl := Option.some.inj h
    clear h
    go_enter Tryd.func60, Tryd.ntmps60
    go_wp2
    go_ret
    exact ⟨rfl, BW.out⟩
   have f2a : decide (0 < (l.length : Int)) = false := decide_eq_false (by omega)
   have f2b : decide (0 < l.length) = false := decide_eq_false (by omega)
   have hbad : badM 2 n b l = false := by simp only [badM, decide_eq_false s1, decide_eq_false s2]; simp
   clear s1 s2 s1n
   rw [if_neg (by rw [hbad]; decide)] at h
   obtain ⟨q, hq, h⟩ := Option.bind_eq_some_iff.mp h
   have HQ := Aside0.mk hq
   clear hq
   cases q with
   | false =>
    rw [if_neg (by decide)] at h
    obtain rfl := Option.some.inj h
    clear h
    go_enter Tryd.func60, Tryd.ntmps60
    go_wp2_with ((go_at_call 98; ((with_reducible refine (contains_items _ A2 c2 l (fun x => cbor_shaped.f k x.f0 x.f1 x.f2 x.f3) (Kd.C_below HR2.out.1 BW.out) HR2.out.2 (fun W x r A1 c1 A2 c2 hb => HCLO.out W x r A1 c1 A2 c2 (below_step BW.out hb)) false HQ.out).mono ?_); rintro ev w3 ⟨rfl, hb'⟩; have BW3 := Aside0.mk (below_step BW.out hb'); have BN3 := Aside0.mk (blk_below BN.out hb'); obtain ⟨x0, x1, x2, x3, x4, x5, x6, x7⟩ := row4 BN3.out; clear hb')))
    go_ret
    exact ⟨rfl, BW3.out⟩
   | true =>
    rw [if_pos rfl] at h
    rw [if_neg (by decide)] at h
    obtain rfl := Option.some.inj h
    clear h
    go_enter Tryd.func60, Tryd.ntmps60
    go_wp2_with ((go_at_call 98; ((with_reducible refine (contains_items _ A2 c2 l (fun x => cbor_shaped.f k x.f0 x.f1 x.f2 x.f3) (Kd.C_below HR2.out.1 BW.out) HR2.out.2 (fun W x r A1 c1 A2 c2 hb => HCLO.out W x r A1 c1 A2 c2 (below_step BW.out hb)) true HQ.out).mono ?_); rintro ev w3 ⟨rfl, hb'⟩; have BW3 := Aside0.mk (below_step BW.out hb'); have BN3 := Aside0.mk (blk_below BN.out hb'); obtain ⟨x0, x1, x2, x3, x4, x5, x6, x7⟩ := row4 BN3.out; clear hb')))
    refine wp_loop_rounds 1 ?_
    simp only [rounds_succ]
    go_wp2
    go_ret
    exact ⟨rfl, BW3.out⟩
  by_cases t3 : t = 3
  ·subst t3
   by_cases s1 : 0 < n
   ·have hbad : badM 3 n b l = true := by simp [badM, s1]
    have f1 : decide (0 < n) = true := decide_eq_true (by omega)
    rw [if_pos hbad] at h
    obtain rfl := Option.some.inj h
    clear h
    go_enter Tryd.func60, Tryd.ntmps60
    go_wp2
    go_ret
    exact ⟨rfl, BW.out⟩
   have s1n : (0 < n) = False := eq_false s1
   have f1 : decide (0 < n) = false := decide_eq_false (by omega)
   by_cases s2 : 0 < l.length
   ·have hbad : badM 3 n b l = true := by simp only [badM, decide_eq_true s2]; simp
    have f2a : decide (0 < (l.length : Int)) = true := decide_eq_true (by omega)
    have f2b : decide (0 < l.length) = true := decide_eq_true (by omega)
    rw [if_pos hbad] at h
    obtain rfl := Option.some.inj h
    clear h
    go_enter Tryd.func60, Tryd.ntmps60
    go_wp2
    go_ret
    exact ⟨rfl, BW.out⟩
   have f2a : decide (0 < (l.length : Int)) = false := decide_eq_false (by omega)
   have f2b : decide (0 < l.length) = false := decide_eq_false (by omega)
   by_cases s3 : 0 ≤ badIx b 0
   ·have hbad : badM 3 n b l = true := by simp only [badM, decide_eq_true s3]; simp
    have f3 : decide (0 ≤ badIx b 0) = true := decide_eq_true s3
    clear s1 s2 s1n s3
    rw [if_pos hbad] at h
    obtain rfl := Option.some.inj h
    clear h
    go_enter Tryd.func60, Tryd.ntmps60
    go_wp2_with ((go_at_call 95; ((with_reducible refine (contains_bytes _ A1 c1 b (Kd.C_below HR1.out.1 BW.out) (by have := HR1.out.2; omega)).mono ?_); rintro ev w2 ⟨rfl, hb'⟩; have BW2 := Aside0.mk (below_step BW.out hb'); have BN2 := Aside0.mk (blk_below BN.out hb'); obtain ⟨y0, y1, y2, y3, y4, y5, y6, y7⟩ := row4 BN2.out; clear hb')))
    go_ret
    exact ⟨rfl, BW2.out⟩
   have hbad : badM 3 n b l = false := by simp only [badM, decide_eq_false s1, decide_eq_false s2, decide_eq_false s3]; simp
   have f3 : decide (0 ≤ badIx b 0) = false := decide_eq_false s3
   clear s1 s2 s1n s3
   rw [if_neg (by rw [hbad]; decide)] at h
   obtain ⟨q, hq, h⟩ := Option.bind_eq_some_iff.mp h
   have HQ := Aside0.mk hq
   clear hq
   cases q with
   | false =>
    rw [if_neg (by decide)] at h
    obtain rfl := Option.some.inj h
    clear h
    go_enter Tryd.func60, Tryd.ntmps60
    go_wp2_with (first | (go_at_call 95; ((with_reducible refine (contains_bytes _ A1 c1 b (Kd.C_below HR1.out.1 BW.out) (by have := HR1.out.2; omega)).mono ?_); rintro ev w2 ⟨rfl, hb'⟩; have BW2 := Aside0.mk (below_step BW.out hb'); have BN2 := Aside0.mk (blk_below BN.out hb'); obtain ⟨y0, y1, y2, y3, y4, y5, y6, y7⟩ := row4 BN2.out; clear hb')) | (go_at_call 98; ((with_reducible refine (contains_items _ A2 c2 l (fun x => cbor_shaped.f k x.f0 x.f1 x.f2 x.f3) (Kd.C_below HR2.out.1 BW2.out) HR2.out.2 (fun W x r A1 c1 A2 c2 hb => HCLO.out W x r A1 c1 A2 c2 (below_step BW2.out hb)) false HQ.out).mono ?_); rintro ev w3 ⟨rfl, hb'⟩; have BW3 := Aside0.mk (below_step BW2.out hb'); have BN3 := Aside0.mk (blk_below BN2.out hb'); obtain ⟨x0, x1, x2, x3, x4, x5, x6, x7⟩ := row4 BN3.out; clear hb')))
    go_ret
    exact ⟨rfl, BW3.out⟩
   | true =>
    rw [if_pos rfl] at h
    rw [if_neg (by decide)] at h
    obtain rfl := Option.some.inj h
    clear h
    go_enter Tryd.func60, Tryd.ntmps60
    go_wp2_with (first | (go_at_call 95; ((with_reducible refine (contains_bytes _ A1 c1 b (Kd.C_below HR1.out.1 BW.out) (by have := HR1.out.2; omega)).mono ?_); rintro ev w2 ⟨rfl, hb'⟩; have BW2 := Aside0.mk (below_step BW.out hb'); have BN2 := Aside0.mk (blk_below BN.out hb'); obtain ⟨y0, y1, y2, y3, y4, y5, y6, y7⟩ := row4 BN2.out; clear hb')) | (go_at_call 98; ((with_reducible refine (contains_items _ A2 c2 l (fun x => cbor_shaped.f k x.f0 x.f1 x.f2 x.f3) (Kd.C_below HR2.out.1 BW2.out) HR2.out.2 (fun W x r A1 c1 A2 c2 hb => HCLO.out W x r A1 c1 A2 c2 (below_step BW2.out hb)) true HQ.out).mono ?_); rintro ev w3 ⟨rfl, hb'⟩; have BW3 := Aside0.mk (below_step BW2.out hb'); have BN3 := Aside0.mk (blk_below BN2.out hb'); obtain ⟨x0, x1, x2, x3, x4, x5, x6, x7⟩ := row4 BN3.out; clear hb')))
    refine wp_loop_rounds 1 ?_
    simp only [rounds_succ]
    go_wp2
    go_ret
    exact ⟨rfl, BW3.out⟩
  by_cases t4 : t = 4
  ·subst t4
   by_cases s1 : 0 < n
   ·have hbad : badM 4 n b l = true := by simp [badM, s1]
    have f1 : decide (0 < n) = true := decide_eq_true (by omega)
    rw [if_pos hbad] at h
    obtain rfl := Option.some.inj h
    clear h
    go_enter Tryd.func60, Tryd.ntmps60
    go_wp2
    go_ret
    exact ⟨rfl, BW.out⟩
   have s1n : (0 < n) = False := eq_false s1
   have f1 : decide (0 < n) = false := decide_eq_false (by omega)
   by_cases s2 : 0 < b.length
   ·have hbad : badM 4 n b l = true := by simp only [badM, decide_eq_true s2]; simp
    have f2a : decide (0 < (b.length : Int)) = true := decide_eq_true (by omega)
    have f2b : decide (0 < b.length) = true := decide_eq_true (by omega)
    rw [if_pos hbad] at h
    obtain rfl := Option.some.inj h
    clear h
    go_enter Tryd.func60, Tryd.ntmps60
    go_wp2
    go_ret
    exact ⟨rfl, BW.out⟩
   have f2a : decide (0 < (b.length : Int)) = false := decide_eq_false (by omega)
   have f2b : decide (0 < b.length) = false := decide_eq_false (by omega)
   have hbad : badM 4 n b l = false := by simp only [badM, decide_eq_false s1, decide_eq_false s2]; simp
   clear s1 s2 s1n
   rw [if_neg (by rw [hbad]; decide)] at h
   obtain ⟨q, hq, h⟩ := Option.bind_eq_some_iff.mp h
   have HQ := Aside0.mk hq
   clear hq
   cases q with
   | false =>
    rw [if_neg (by decide)] at h
    obtain rfl := Option.some.inj h
    clear h
    go_enter Tryd.func60, Tryd.ntmps60
    go_wp2_with ((go_at_call 98; ((with_reducible refine (contains_items _ A2 c2 l (fun x => cbor_shaped.f k x.f0 x.f1 x.f2 x.f3) (Kd.C_below HR2.out.1 BW.out) HR2.out.2 (fun W x r A1 c1 A2 c2 hb => HCLO.out W x r A1 c1 A2 c2 (below_step BW.out hb)) false HQ.out).mono ?_); rintro ev w3 ⟨rfl, hb'⟩; have BW3 := Aside0.mk (below_step BW.out hb'); have BN3 := Aside0.mk (blk_below BN.out hb'); obtain ⟨x0, x1, x2, x3, x4, x5, x6, x7⟩ := row4 BN3.out; clear hb')))
    go_ret
    exact ⟨rfl, BW3.out⟩
   | true =>
    rw [if_pos rfl] at h
    rw [if_neg (by decide)] at h
    obtain rfl := Option.some.inj h
    clear h
    go_enter Tryd.func60, Tryd.ntmps60
    go_wp2_with ((go_at_call 98; ((with_reducible refine (contains_items _ A2 c2 l (fun x => cbor_shaped.f k x.f0 x.f1 x.f2 x.f3) (Kd.C_below HR2.out.1 BW.out) HR2.out.2 (fun W x r A1 c1 A2 c2 hb => HCLO.out W x r A1 c1 A2 c2 (below_step BW.out hb)) true HQ.out).mono ?_); rintro ev w3 ⟨rfl, hb'⟩; have BW3 := Aside0.mk (below_step BW.out hb'); have BN3 := Aside0.mk (blk_below BN.out hb'); obtain ⟨x0, x1, x2, x3, x4, x5, x6, x7⟩ := row4 BN3.out; clear hb')))
    refine wp_loop_rounds 1 ?_
    simp only [rounds_succ]
    go_wp2
    go_ret
    exact ⟨rfl, BW3.out⟩
  by_cases t5 : t = 5
  ·subst t5
   by_cases s1 : 0 < n
   ·have hbad : badM 5 n b l = true := by simp [badM, s1]
    have f1 : decide (0 < n) = true := decide_eq_true (by omega)
    rw [if_pos hbad] at h
    obtain rfl := Option.some.inj h
    clear h
    go_enter Tryd.func60, Tryd.ntmps60
    go_wp2
    go_ret
    exact ⟨rfl, BW.out⟩
   have s1n : (0 < n) = False := eq_false s1
   have f1 : decide (0 < n) = false := decide_eq_false (by omega)
   by_cases s2 : 0 < b.length
   ·have hbad : badM 5 n b l = true := by simp only [badM, decide_eq_true s2]; simp
    have f2a : decide (0 < (b.length : Int)) = true := decide_eq_true (by omega)
    have f2b : decide (0 < b.length) = true := decide_eq_true (by omega)
    rw [if_pos hbad] at h
    obtain rfl := Option.some.inj h
    clear h
    go_enter Tryd.func60, Tryd.ntmps60
    go_wp2
    go_ret
    exact ⟨rfl, BW.out⟩
   have f2a : decide (0 < (b.length : Int)) = false := decide_eq_false (by omega)
   have f2b : decide (0 < b.length) = false := decide_eq_false (by omega)
   by_cases s3 : l.length % 2 = 1
   ·have hbad : badM 5 n b l = true := by simp only [badM, decide_eq_true s3]; simp
    have f3 : ((l.length : Int) % 2 == 1) = true := beq_iff_eq.mpr (by omega)
    have f4 : (l.length % 2 == 1) = true := beq_iff_eq.mpr s3
    have f5 : Int.tmod (l.length : Int) 2 = (l.length : Int) % 2 := Int.tmod_eq_emod_of_nonneg (by omega)
    clear s1 s2 s1n s3
    rw [if_pos hbad] at h
    obtain rfl := Option.some.inj h
    clear h
    go_enter Tryd.func60, Tryd.ntmps60
    go_wp2
    go_ret
    exact ⟨rfl, BW.out⟩
   have hbad : badM 5 n b l = false := by simp only [badM, decide_eq_false s1, decide_eq_false s2, decide_eq_false s3]; simp
   have f3 : ((l.length : Int) % 2 == 1) = false := beq_eq_false_iff_ne.mpr (by omega)
   have f4 : (l.length % 2 == 1) = false := beq_eq_false_iff_ne.mpr s3
   have f5 : Int.tmod (l.length : Int) 2 = (l.length : Int) % 2 := Int.tmod_eq_emod_of_nonneg (by omega)
   clear s1 s2 s1n s3
   rw [if_neg (by rw [hbad]; decide)] at h
   obtain ⟨q, hq, h⟩ := Option.bind_eq_some_iff.mp h
   have HQ := Aside0.mk hq
   clear hq
   cases q with
   | false =>
    rw [if_neg (by decide)] at h
    obtain rfl := Option.some.inj h
    clear h
    go_enter Tryd.func60, Tryd.ntmps60
    go_wp2_with ((go_at_call 98; ((with_reducible refine (contains_items _ A2 c2 l (fun x => cbor_shaped.f k x.f0 x.f1 x.f2 x.f3) (Kd.C_below HR2.out.1 BW.out) HR2.out.2 (fun W x r A1 c1 A2 c2 hb => HCLO.out W x r A1 c1 A2 c2 (below_step BW.out hb)) false HQ.out).mono ?_); rintro ev w3 ⟨rfl, hb'⟩; have BW3 := Aside0.mk (below_step BW.out hb'); have BN3 := Aside0.mk (blk_below BN.out hb'); obtain ⟨x0, x1, x2, x3, x4, x5, x6, x7⟩ := row4 BN3.out; clear hb')))
    go_ret
    exact ⟨rfl, BW3.out⟩
   | true =>
    rw [if_pos rfl] at h
    rw [if_pos rfl] at h
    have HH := Aside0.mk h
    clear h
    go_enter Tryd.func60, Tryd.ntmps60
    go_wp2_with ((go_at_call 98; ((with_reducible refine (contains_items _ A2 c2 l (fun x => cbor_shaped.f k x.f0 x.f1 x.f2 x.f3) (Kd.C_below HR2.out.1 BW.out) HR2.out.2 (fun W x r A1 c1 A2 c2 hb => HCLO.out W x r A1 c1 A2 c2 (below_step BW.out hb)) true HQ.out).mono ?_); rintro ev w3 ⟨rfl, hb'⟩; have BW3 := Aside0.mk (below_step BW.out hb'); have BN3 := Aside0.mk (blk_below BN.out hb'); obtain ⟨x0, x1, x2, x3, x4, x5, x6, x7⟩ := row4 BN3.out; clear hb')))
    clear z0 z1 z2 z3 z4 z5 z6 z7 x0 x1 x2 x3 x4 x5 x6 x7
    go_loopg [4, 5] k (fun kq v4 v5 W => ∃ (i : Nat) (last : List Int), v5 = .int .i64 (i : Int) ∧ Aside0 (i ≤ l.length + 1 ∧ kq ≤ k ∧ ordM kq (l.drop i) (decide (0 < i)) last = some r) ∧ Aside0 (Kd.R (Kd.int .u8) 5 W w.heap.size (fun _ => True) v4 last) ∧ Aside0 (W.heap[w.heap.size]? = some (.cells #[.int .i64 5, .int .u64 n, .slice A1 b.length c1, .slice A2 l.length c2] 27 (0, 0))) ∧ Aside0 (Below w.heap.size w W))
    case atStart => exact ⟨0, [], rfl, ⟨by omega, Nat.le_refl _, HH.out⟩, ⟨Kd.R_nil _ _ _ _ _⟩, BN3, BW3⟩
    case round =>
     obtain ⟨i, last, rfl, HI, HL, HBN, HB⟩ := hrel
     have hI := HI.out.2.2
     obtain ⟨z0, z1, z2, z3, z4, z5, z6, z7⟩ := row4 HBN.out
     obtain ⟨A4, c4, rfl⟩ := Kd.R_slice HL.out
     cases gk with
     | zero => exact absurd hI (by simp [ordM])
     | succ kq =>
     by_cases ci : i < l.length
     ·have cb : decide ((i : Int) < (l.length : Int)) = true := decide_eq_true (by omega)
      have cb2 : decide (i < l.length) = true := decide_eq_true ci
      obtain ⟨ad, B1_, d1, B2_, d2, ea, x0, x1, x2, x3, m1, k1, m2, k2⟩ := at_T27 HR2.out.1 (i : Int) (by omega) (by omega)
      cases ea
      rw [List.drop_eq_getElem_cons ci] at hI
      have er : rd_T27 l (i : Int) = l[i] := by
       unfold rd_T27
       rw [Int.toNat_natCast, List.getD_eq_getElem?_getD, List.getElem?_eq_getElem ci]
       rfl
      rw [← er] at hI
      clear er
      generalize rd_T27 l (i : Int) = x at *
      rw [ordM] at hI
      obtain ⟨key, hkey, hI⟩ := Option.bind_eq_some_iff.mp hI
      by_cases ck : key.length < 1000000000
      case neg => rw [if_neg ck] at hI; cases hI
      rw [if_pos ck, List.drop_drop] at hI
      replace x0 := (HB.out.cell (World.block_lt_of_cell? w _ x0)).trans x0
      replace x1 := (HB.out.cell (World.block_lt_of_cell? w _ x1)).trans x1
      replace x2 := (HB.out.cell (World.block_lt_of_cell? w _ x2)).trans x2
      replace x3 := (HB.out.cell (World.block_lt_of_cell? w _ x3)).trans x3
      rw [Int.toNat_natCast] at x0 x1 x2 x3
      have hi0 : (0 ≤ (i : Int)) = True := eq_true (by omega)
      have hi1 : ((i : Int) < (l.length : Int)) = True := eq_true (by omega)
      have ew2 : wrap64 ((i : Int) + 2) = (i : Int) + 2 := by unfold wrap64; have := HLL.out; omega
      have KK := Aside0.mk (And.intro (And.intro m1 k1) (And.intro m2 k2))
      have HK := Aside0.mk hkey
      have HCI := Aside0.mk (And.intro ci ck)
      have HI3 := Aside0.mk hI
      clear m1 k1 m2 k2 hkey hI ck ci
      have hsz : w.heap.size ≤ wr.heap.size := HB.out.size
      have HSZ := Aside0.mk hsz
      clear hsz
      by_cases c0 : 0 < i
      ·have cp : decide (0 < (i : Int)) = true := decide_eq_true (by omega)
       have cp2 : decide (0 < i) = true := decide_eq_true c0
       by_cases cc : 0 ≤ Lib.compareBytes (Lib.bytesOf last) (Lib.bytesOf key)
       ·have hI := HI3.out
        rw [if_pos ⟨cp2, cc⟩] at hI
        obtain rfl := Option.some.inj hI
        generalize hcv : Lib.compareBytes (Lib.bytesOf last) (Lib.bytesOf key) = cv at *
        have HCV := Aside0.mk hcv
        have cd : decide (0 ≤ cv) = true := decide_eq_true cc
        clear hI hcv cc
        go_wp2_with (first | (go_at_call 57; ((with_reducible refine ((app_all kq).use w _ _ (.slice none 0 0) [] x.f0 x.f1 B1_ d1 x.f2 B2_ d2 x.f3 key HB.out HSZ.out (Nat.le_refl _) (Kd.R_nil _ _ _ _ _) KK.out.1.2 KK.out.1.1 KK.out.2.2 KK.out.2.1 HK.out (by have := HCI.out.2; simp only [List.length_nil]; omega)).mono ?_); rintro ev w6 ⟨v6, rfl, hr, hb⟩; rw [List.nil_append] at hr; obtain ⟨A6, c6, rfl⟩ := Kd.R_slice hr; have HKR := Aside0.mk (Kd.R_lower hr HSZ.out); have HLC := Aside0.mk (Kd.R_reads' (Kd.R_below HL.out hb)); have HBN2 := Aside0.mk (blk_below HBN.out hb); have HB2 := Aside0.mk (below_step HB.out hb); clear hr hb)) | (go_at_call 100; ((with_reducible refine (bytes_Compare.calls A4 c4 last A6 c6 key cv _ HLC.out.2.2 HLC.out.2.1 (Kd.R_reads' HKR.out).2.2 (Kd.R_reads' HKR.out).2.1 (by rw [bytes_Compare.f, HCV.out])).mono ?_); rintro ev w7 ⟨rfl, ⟨m7, rfl⟩⟩; have HB2 := Aside0.mk (pw_below_drewN HB2.out m7); have HKR := Aside0.mk (Kd.R_drewN HKR.out m7); have HBN2 := Aside0.mk (blk_drewN HBN2.out m7))))
        go_ret
        exact ⟨rfl, HB2.out⟩
       ·have hI := HI3.out
        rw [if_neg (fun h => cc h.2)] at hI
        generalize hcv : Lib.compareBytes (Lib.bytesOf last) (Lib.bytesOf key) = cv at *
        have HCV := Aside0.mk hcv
        have cd : decide (0 ≤ cv) = false := decide_eq_false cc
        have HI4 := Aside0.mk hI
        clear hI hcv cc
        go_wp2_with (first | (go_at_call 57; ((with_reducible refine ((app_all kq).use w _ _ (.slice none 0 0) [] x.f0 x.f1 B1_ d1 x.f2 B2_ d2 x.f3 key HB.out HSZ.out (Nat.le_refl _) (Kd.R_nil _ _ _ _ _) KK.out.1.2 KK.out.1.1 KK.out.2.2 KK.out.2.1 HK.out (by have := HCI.out.2; simp only [List.length_nil]; omega)).mono ?_); rintro ev w6 ⟨v6, rfl, hr, hb⟩; rw [List.nil_append] at hr; obtain ⟨A6, c6, rfl⟩ := Kd.R_slice hr; have HKR := Aside0.mk (Kd.R_lower hr HSZ.out); have HLC := Aside0.mk (Kd.R_reads' (Kd.R_below HL.out hb)); have HBN2 := Aside0.mk (blk_below HBN.out hb); have HB2 := Aside0.mk (below_step HB.out hb); clear hr hb)) | (go_at_call 100; ((with_reducible refine (bytes_Compare.calls A4 c4 last A6 c6 key cv _ HLC.out.2.2 HLC.out.2.1 (Kd.R_reads' HKR.out).2.2 (Kd.R_reads' HKR.out).2.1 (by rw [bytes_Compare.f, HCV.out])).mono ?_); rintro ev w7 ⟨rfl, ⟨m7, rfl⟩⟩; have HB2 := Aside0.mk (pw_below_drewN HB2.out m7); have HKR := Aside0.mk (Kd.R_drewN HKR.out m7); have HBN2 := Aside0.mk (blk_drewN HBN2.out m7))))
        go_roundg kq
        case measure => omega
        case rel => exact ⟨i + 2, key, by go_num, ⟨by have := HCI.out.1; omega, by have := HI.out; omega, by rw [show decide (0 < i + 2) = true from decide_eq_true (by omega), show i + 2 = i + 1 + 1 from rfl]; exact HI4.out⟩, HKR, HBN2, HB2⟩
      ·have cp : decide (0 < (i : Int)) = false := decide_eq_false (by omega)
       have cp2 : decide (0 < i) = false := decide_eq_false c0
       have hI := HI3.out
       rw [if_neg (fun h => by rw [cp2] at h; exact absurd h.1 (by decide))] at hI
       have HI4 := Aside0.mk hI
       clear hI
       go_wp2_with ((go_at_call 57; ((with_reducible refine ((app_all kq).use w _ _ (.slice none 0 0) [] x.f0 x.f1 B1_ d1 x.f2 B2_ d2 x.f3 key HB.out HSZ.out (Nat.le_refl _) (Kd.R_nil _ _ _ _ _) KK.out.1.2 KK.out.1.1 KK.out.2.2 KK.out.2.1 HK.out (by have := HCI.out.2; simp only [List.length_nil]; omega)).mono ?_); rintro ev w6 ⟨v6, rfl, hr, hb⟩; rw [List.nil_append] at hr; obtain ⟨A6, c6, rfl⟩ := Kd.R_slice hr; have HKR := Aside0.mk (Kd.R_lower hr HSZ.out); have HLC := Aside0.mk (Kd.R_reads' (Kd.R_below HL.out hb)); have HBN2 := Aside0.mk (blk_below HBN.out hb); have HB2 := Aside0.mk (below_step HB.out hb); clear hr hb)))
       go_roundg kq
       case measure => omega
       case rel => exact ⟨i + 2, key, by go_num, ⟨by have := HCI.out.1; omega, by have := HI.out; omega, by rw [show decide (0 < i + 2) = true from decide_eq_true (by omega), show i + 2 = i + 1 + 1 from rfl]; exact HI4.out⟩, HKR, HBN2, HB2⟩
     ·have cb : decide ((i : Int) < (l.length : Int)) = false := decide_eq_false (by omega)
      have cb2 : decide (i < l.length) = false := decide_eq_false ci
      rw [List.drop_eq_nil_of_le (by omega), ordM] at hI
      obtain rfl := Option.some.inj hI
      clear hI
      go_wp2
      go_ret
      exact ⟨rfl, HB.out⟩
  have hbad : badM t n b l = true := by simp [badM, t0, t1, t2, t3, t4, t5]
  have e0 : (t == 0) = false := beq_eq_false_iff_ne.mpr t0
  have e1 : (t == 1) = false := beq_eq_false_iff_ne.mpr t1
  have e2 : (t == 2) = false := beq_eq_false_iff_ne.mpr t2
  have e3 : (t == 3) = false := beq_eq_false_iff_ne.mpr t3
  have e4 : (t == 4) = false := beq_eq_false_iff_ne.mpr t4
  have e5 : (t == 5) = false := beq_eq_false_iff_ne.mpr t5
  rw [if_pos hbad] at h
  obtain rfl := Option.some.inj h
  clear h
  go_enter Tryd.func60, Tryd.ntmps60
  go_wp2
  go_ret
  exact ⟨rfl, BW.out⟩
end Go.Proofs.YthdjmojpnimhjaaDoor.PCbg
