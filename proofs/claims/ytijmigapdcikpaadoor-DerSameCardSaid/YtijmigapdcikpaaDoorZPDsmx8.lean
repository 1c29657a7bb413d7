import Derived.Test.YtijmigapdcikpaaDoorZPDsmx0
import Derived.Test.YtijmigapdcikpaaDoorZPDsmx1
import Derived.Test.YtijmigapdcikpaaDoorZPDsmx2
import Derived.Test.YtijmigapdcikpaaDoorZPDsmx3
import Derived.Test.YtijmigapdcikpaaDoorZPDsmx7
namespace Go.Proofs.YtijmigapdcikpaaDoor.PDsm
open Go.RowKit Go.Proofs.YtijmigapdcikpaaDoorW.PrintWords Go.Proofs.YtijmigapdcikpaaDoorW.PrintLast Go.Proofs.YtijmigapdcikpaaDoorW.PrintMore
set_option linter.unusedVariables false
set_option linter.unusedSimpArgs false
mutual
def encM : Nat → Int → List Int → List (S26) → Option (List Int)
  | 0, _, _, _ => none
  | k + 1, t, l1, l2 => if l1.length < 1000000000 ∧ l2.length < 1000000000 then (contE k l2 l1).bind fun C => if C.length < 128 then some (t :: (C.length : Int) :: C) else if C.length < 1000000000 then (der_width.f k (C.length : Int)).bind fun w => if w = 1 then some (t :: 129 :: ((C.length : Int) % 256) :: C) else if w = 2 then some (t :: 130 :: ((C.length : Int) / 256 % 256) :: ((C.length : Int) % 256) :: C) else if w = 3 then some (t :: 131 :: ((C.length : Int) / 65536 % 256) :: ((C.length : Int) / 256 % 256) :: ((C.length : Int) % 256) :: C) else none else none else none
def contE : Nat → List (S26) → List Int → Option (List Int)
  | 0, _, _ => none
  | _ + 1, [], acc => some acc
  | k + 1, x :: xs, acc => (encM k x.f0 x.f1 x.f2).bind fun r => if acc.length + r.length < 1000000000 then contE k xs (acc ++ r) else none
end
def AppC (k : Nat) : Prop := ∀ (w0 w : World) (base : Nat) (v : Value) (xs : List Int) (t : Int) (A1 : Option Addr) (c1 : Nat) (l1 : List Int) (A2 : Option Addr) (c2 : Nat) (l2 : List (S26)) (r : List Int) (hB : Below w0.heap.size w0 w) (hb0 : w0.heap.size ≤ base) (hbs : base ≤ w.heap.size) (hR : Kd.R (Kd.int .u8) 5 w base (fun _ => True) v xs) (hr1 : Kd.C (Kd.int .u8) w0 A1 l1.length l1) (hc1 : l1.length ≤ c1) (hr2 : Kd.C k26 w0 A2 l2.length l2) (hc2 : l2.length ≤ c2) (h : encM k t l1 l2 = some r) (hx : xs.length < 1000000000), Calls Tryd.prog 49 #[v, .agg #[.int .u8 t, .slice A1 l1.length c1, .slice A2 l2.length c2]] w fun e w' => ∃ v' : Value, e = .returned v' ∧ Kd.R (Kd.int .u8) 5 w' base (fun _ => True) v' (xs ++ r) ∧ Below base w w'
theorem AppC.use {k : Nat} (H : AppC k) (w0 w : World) (base : Nat) (v : Value) (xs : List Int) (t : Int) (A1 : Option Addr) (c1 : Nat) (l1 : List Int) (A2 : Option Addr) (c2 : Nat) (l2 : List (S26)) (r : List Int) (hB : Below w0.heap.size w0 w) (hb0 : w0.heap.size ≤ base) (hbs : base ≤ w.heap.size) (hR : Kd.R (Kd.int .u8) 5 w base (fun _ => True) v xs) (hr1 : Kd.C (Kd.int .u8) w0 A1 l1.length l1) (hc1 : l1.length ≤ c1) (hr2 : Kd.C k26 w0 A2 l2.length l2) (hc2 : l2.length ≤ c2) (h : encM k t l1 l2 = some r) (hx : xs.length < 1000000000) : Calls Tryd.prog 49 #[v, .agg #[.int .u8 t, .slice A1 l1.length c1, .slice A2 l2.length c2]] w fun e w' => ∃ v' : Value, e = .returned v' ∧ Kd.R (Kd.int .u8) 5 w' base (fun _ => True) v' (xs ++ r) ∧ Below base w w' := H w0 w base v xs t A1 c1 l1 A2 c2 l2 r hB hb0 hbs hR hr1 hc1 hr2 hc2 h hx
set_option maxHeartbeats 16000000 in
set_option maxRecDepth 100000 in
theorem app_step (k : Nat) (ih : ∀ j, j < k + 1 → AppC j) : AppC (k + 1) := by
  intro w0 w base v xs t A1 c1 l1 A2 c2 l2 r hB hb0 hbs hR hr1 hc1 hr2 hc2 h hx
  have hu := Tryd.underlying26
  rw [encM] at h
  by_cases q1 : l1.length < 1000000000 ∧ l2.length < 1000000000
  case neg => rw [if_neg q1] at h; cases h
  rw [if_pos q1] at h
  obtain ⟨C, hC, h⟩ := Option.bind_eq_some_iff.mp h
  have HH := Aside0.mk h
  have HCC := Aside0.mk hC
  have HQ := Aside0.mk q1
  have HX0 := Aside0.mk hx
  have hlt := Kd.R_lt hR
  obtain ⟨A, c, rfl⟩ := Kd.R_slice hR
  have b1 := below_alloc (Below.refl w.heap.size w) (Obj.cells #[.int .u8 t, .slice A1 l1.length c1, .slice A2 l2.length c2] 26)
  have HB1 := Aside0.mk (b1)
  have HR1 := Aside0.mk (And.intro (Kd.C_below hr1 (below_alloc hB (Obj.cells #[.int .u8 t, .slice A1 l1.length c1, .slice A2 l2.length c2] 26))) hc1)
  have HR2 := Aside0.mk (And.intro hr2 hc2)
  have HO0 := Aside0.mk (Kd.R_below hR b1)
  have HBW := Aside0.mk (below_alloc hB (Obj.cells #[.int .u8 t, .slice A1 l1.length c1, .slice A2 l2.length c2] 26))
  have BN := Aside0.mk (blk_new w (Obj.cells #[.int .u8 t, .slice A1 l1.length c1, .slice A2 l2.length c2] 26))
  have hs1 : (w.alloc (Obj.cells #[.int .u8 t, .slice A1 l1.length c1, .slice A2 l2.length c2] 26)).heap.size = w.heap.size + 1 := by simp
  have HSZ := Aside0.mk (And.intro hb0 (And.intro hbs hs1))
  have HLT := Aside0.mk hlt
  obtain ⟨z0, z1, z2, z3, z4, z5⟩ := row3 (blk_new w (Obj.cells #[.int .u8 t, .slice A1 l1.length c1, .slice A2 l2.length c2] 26))
  clear h hC hlt hR b1 hr1 hc1 hr2 hc2 hB hb0 hbs q1 hx hs1
  go_enter Tryd.func49, Tryd.ntmps49
  go_wp2_with (go_at_call 76; ((with_reducible refine (slices_Clone.calls A1 c1 l1 l1 _ HR1.out.1 HR1.out.2 (by rw [slices_Clone.f, if_pos (by have := HQ.out; omega)])).mono ?_); rintro ev w2 ⟨v0, rfl, hr, hb⟩; have HK0 := Aside0.mk hr; have HB2 := Aside0.mk hb; obtain ⟨y0, y1, y2, y3, y4, y5⟩ := row3 (blk_below BN.out hb); clear hr hb))
  have HBX : Aside0 (Below (w.heap.size + 1) (w.alloc (Obj.cells #[.int .u8 t, .slice A1 l1.length c1, .slice A2 l2.length c2] 26)) w2) := ⟨by rw [← HSZ.out.2.2]; exact HB2.out⟩
  go_loopg [5, 16] k (fun kq v5 v16 W => ∃ (i : Nat) (acc : List Int), v16 = .int .i64 (i : Int) ∧ Aside0 (i ≤ l2.length ∧ kq ≤ k ∧ contE kq (l2.drop i) acc = some C) ∧ Aside0 (Kd.R (Kd.int .u8) 5 W (w.heap.size + 1) (fun _ => True) v5 acc) ∧ Aside0 (Below (w.heap.size + 1) (w.alloc (Obj.cells #[.int .u8 t, .slice A1 l1.length c1, .slice A2 l2.length c2] 26)) W))
  case atStart =>
    exact ⟨0, l1, rfl, ⟨by omega, Nat.le_refl _, HCC.out⟩, ⟨by rw [← HSZ.out.2.2]; exact HK0.out⟩, HBX⟩
  case round =>
    obtain ⟨i, acc, rfl, HI, HC0, HBW2⟩ := hrel
    have hI := HI.out.2.2
    clear y0 y1 y2 y3 y4 y5 z0 z1 z2 z3 z4 z5
    cases gk with
    | zero => exact absurd hI (by simp [contE])
    | succ kq =>
    have HWW := Aside0.mk (HBW.out.trans (HBW2.out.mono (by have := HBW.out.size; have := HSZ.out; omega)))
    by_cases ci : i < l2.length
    · have cb : decide ((i : Int) < (l2.length : Int)) = true := decide_eq_true (by omega)
      have cb2 : decide (i < l2.length) = true := decide_eq_true ci
      obtain ⟨ad, B1_, d1, B2_, d2, ea, x0, x1, x2, m1, k1, m2, k2⟩ := at_T26 HR2.out.1 (i : Int) (by omega) (by omega)
      cases ea
      rw [List.drop_eq_getElem_cons ci] at hI
      have er : rd_T26 l2 (i : Int) = l2[i] := by
        unfold rd_T26
        rw [Int.toNat_natCast, List.getD_eq_getElem?_getD, List.getElem?_eq_getElem ci]
        rfl
      rw [← er] at hI
      clear er
      generalize rd_T26 l2 (i : Int) = x at *
      rw [contE] at hI
      obtain ⟨r', hr', hI⟩ := Option.bind_eq_some_iff.mp hI
      by_cases cl : acc.length + r'.length < 1000000000
      case neg => rw [if_neg cl] at hI; cases hI
      rw [if_pos cl] at hI
      replace x0 := (HWW.out.cell (World.block_lt_of_cell? w0 _ x0)).trans x0
      replace x1 := (HWW.out.cell (World.block_lt_of_cell? w0 _ x1)).trans x1
      replace x2 := (HWW.out.cell (World.block_lt_of_cell? w0 _ x2)).trans x2
      rw [Int.toNat_natCast] at x0 x1 x2
      have hi0 : (0 ≤ (i : Int)) = True := eq_true (by omega)
      have hi1 : ((i : Int) < (l2.length : Int)) = True := eq_true (by omega)
      have ew : wrap64 ((i : Int) + 1) = (i : Int) + 1 := by unfold wrap64; have := HQ.out; omega
      have KK := Aside0.mk (And.intro (And.intro m1 k1) (And.intro m2 k2))
      have HR' := Aside0.mk hr'
      have HI2 := Aside0.mk hI
      have HCL := Aside0.mk cl
      have b7 := below_alloc (Below.refl wr.heap.size wr) (Obj.cells #[.int .u8 x.f0, .slice B1_ x.f1.length d1, .slice B2_ x.f2.length d2] 26)
      have HB7 := Aside0.mk b7
      have HWW2 := Aside0.mk (below_alloc HWW.out (Obj.cells #[.int .u8 x.f0, .slice B1_ x.f1.length d1, .slice B2_ x.f2.length d2] 26))
      obtain ⟨u0, u1, u2, u3, u4, u5⟩ := row3 (blk_new wr (Obj.cells #[.int .u8 x.f0, .slice B1_ x.f1.length d1, .slice B2_ x.f2.length d2] 26))
      have HC7 := Aside0.mk (Kd.R_below HC0.out b7)
      obtain ⟨A5, c5, rfl⟩ := Kd.R_slice HC0.out
      clear m1 k1 m2 k2 hr' hI cl b7
      go_wp2_with (go_at_call 49; ((with_reducible refine ((ih kq (by have := HI.out; omega)).use w0 _ (w.heap.size + 1) (.slice A5 acc.length c5) acc x.f0 B1_ d1 x.f1 B2_ d2 x.f2 r' HWW2.out (by have := HSZ.out; omega) (by have h1_ := HB7.out.size; have h2_ := HBW2.out.size; have h3_ := HSZ.out.2.2; rw [h3_] at h2_; exact Nat.le_trans h2_ h1_) HC7.out KK.out.1.2 KK.out.1.1 KK.out.2.2 KK.out.2.1 HR'.out (by have := HCL.out; omega)).mono ?_); rintro ev w5 ⟨v', rfl, hr, hb⟩; have HC8 := Aside0.mk hr; have HB8 := Aside0.mk hb; clear hr hb))
      go_roundg kq
      case measure => omega
      case rel => exact ⟨i + 1, acc ++ r', by go_num, ⟨by omega, by have := HI.out; omega, HI2.out⟩, HC8, ⟨(HBW2.out.trans (HB7.out.mono (by have h2_ := HBW2.out.size; have h3_ := HSZ.out.2.2; rw [h3_] at h2_; exact h2_))).trans HB8.out⟩⟩
    · have cb : decide ((i : Int) < (l2.length : Int)) = false := decide_eq_false (by omega)
      have cb2 : decide (i < l2.length) = false := decide_eq_false ci
      rw [List.drop_eq_nil_of_le (by omega), contE] at hI
      have eC : C = acc := (Option.some.inj hI).symm
      subst eC
      obtain ⟨z0, z1, z2, z3, z4, z5⟩ := row3 ((HBW2.out.block w.heap.size (Nat.lt_succ_self _)).trans BN.out)
      have hO1 := Kd.R_below HO0.out (by rw [HSZ.out.2.2]; exact HBW2.out)
      have HO := Aside0.mk hO1
      have HC := Aside0.mk (Kd.R_mono (ok' := fun k_ => True ∧ some k_ ≠ (Value.slice A xs.length c).ownBlock) (Kd.R_bound HC0.out) (fun k_ hk => ⟨trivial, fun he => by have h1_ := HLT.out k_ he.symm; have h2_ := hk.2.1; omega⟩))
      have HS := Aside0.mk (show base ≤ wr.heap.size by have h1_ := HBW2.out.size; have h2_ := HSZ.out; omega)
      have HBB := Aside0.mk ((HB1.out.mono HSZ.out.2.1).trans (HBW2.out.mono (by have := HSZ.out; omega)))
      obtain ⟨A5, c5, rfl⟩ := Kd.R_slice HC0.out
      have h := HH.out
      clear hO1
      by_cases e1 : C.length < 128
      · rw [if_pos e1] at h
        obtain rfl := Option.some.inj h
        have cc : decide ((C.length : Int) < 128) = true := decide_eq_true (by omega)
        have cc2 : decide (C.length < 128) = true := decide_eq_true e1
        have HX := Aside0.mk (And.intro HX0.out e1)
        clear h e1
        go_wp2_with (first | ((with_reducible refine gate_builtin (b := .append) (xs := #[.tmp 24, .tmp 27]) rfl ?_); at_builtin; refine Kd.R_append (Kd.int .u8) (w0 := wr) base rfl (.tmp 24) (.tmp 27) 22 5 (.int .u8 0) 1 rfl Tryd.underlying22 info5 rfl (by decide) (by omega) (.slice A xs.length c) (xs) (t) [.int .u8 (t)] (fun _ => True) (fun _ => False) rfl (by first | rfl | (go_simp; done) | (go_simp; rfl)) ?aP (fun _ hk => hk.elim) ?aF ?aO ?aB ?aS ?aL ?_; (case aP => exact rfl); (case aB => exact Below.refl _ _); (case aF => exact fun _ _ => trivial); (case aO => exact HO.out); (case aS => exact HS.out); (case aL => have := HX.out; (try simp only [List.length_append, List.length_cons, List.length_nil]); omega); intro v6 w6 ho hb hg hat; have HC := Aside0.mk (Kd.R_after HC.out hg hat); have HS := Aside0.mk (Nat.le_trans HS.out hb.size); have HBB := Aside0.mk (HBB.out.trans hb); have ho2 := Kd.R_slice ho; (try simp only [List.length_append, List.length_cons, List.length_nil] at ho2); obtain ⟨A6, c6, rfl⟩ := ho2; have HO := Aside0.mk ho; clear ho hb hg hat) | ((with_reducible refine gate_builtin (b := .append) (xs := #[.tmp 32, .tmp 36]) rfl ?_); at_builtin; refine Kd.R_append (Kd.int .u8) (w0 := w6) base rfl (.tmp 32) (.tmp 36) 22 5 (.int .u8 0) 1 rfl Tryd.underlying22 info5 rfl (by decide) (by omega) (.slice A6 (xs.length + 1) c6) (xs ++ [t]) ((C.length : Int) % 256) [.int .u8 ((C.length : Int) % 256)] (fun _ => True) (fun _ => False) rfl (by first | rfl | (go_simp; done) | (go_simp; rfl)) ?aP (fun _ hk => hk.elim) ?aF ?aO ?aB ?aS ?aL ?_; (case aP => exact rfl); (case aB => exact Below.refl _ _); (case aF => exact fun _ _ => trivial); (case aO => exact HO.out); (case aS => exact HS.out); (case aL => have := HX.out; (try simp only [List.length_append, List.length_cons, List.length_nil]); omega); intro v7 w7 ho hb hg hat; have HC := Aside0.mk (Kd.R_after HC.out hg hat); have HS := Aside0.mk (Nat.le_trans HS.out hb.size); have HBB := Aside0.mk (HBB.out.trans hb); have ho2 := Kd.R_slice ho; (try simp only [List.length_append, List.length_cons, List.length_nil] at ho2); obtain ⟨A7, c7, rfl⟩ := ho2; have HO := Aside0.mk ho; clear ho hb hg hat) | ((with_reducible refine gate_builtin (b := .append) (xs := #[.tmp 62, .tmp 63]) rfl ?_); at_builtin; refine Kd.R_append_rows (Kd.int .u8) (w0 := w7) base rfl (.tmp 62) (.tmp 63) 22 5 (.int .u8 0) 1 rfl Tryd.underlying22 info5 rfl (by decide) (by omega) (.slice A7 (xs.length + 1 + 1) c7) (xs ++ [t] ++ [(C.length : Int) % 256]) C _ _ _ (fun _ => True) (fun _ => False) rfl rfl ?aO ?aR (fun _ _ h => h) (fun _ h => h.elim) ?aF ?aB ?aS ?aL ?_; (case aR => exact (Kd.R_reads' HC.out).2.2); (case aB => exact Below.refl _ _); (case aF => exact fun _ _ => trivial); (case aO => exact HO.out); (case aS => exact HS.out); (case aL => have := HX.out; (try simp only [List.length_append, List.length_cons, List.length_nil]); omega); intro v8 w8 ho hb hg hat; have HBB := Aside0.mk (HBB.out.trans hb); have HO := Aside0.mk ho; clear ho hb hg hat))
        go_ret
        have eL : xs ++ [t] ++ [(C.length : Int) % 256] ++ C = xs ++ t :: (C.length : Int) :: C := by
          rw [show (C.length : Int) % 256 = (C.length : Int) by have := HX.out.2; omega]
          simp
        have hO9 := HO.out
        rw [eL] at hO9
        exact ⟨_, rfl, hO9, HBB.out⟩
      rw [if_neg e1] at h
      by_cases e2 : C.length < 1000000000
      case neg => rw [if_neg e2] at h; cases h
      rw [if_pos e2] at h
      have cc : decide ((C.length : Int) < 128) = false := decide_eq_false (by omega)
      have cc2 : decide (C.length < 128) = false := decide_eq_false e1
      obtain ⟨wd, hwd, h⟩ := Option.bind_eq_some_iff.mp h
      have HWD := Aside0.mk hwd
      have HX := Aside0.mk (And.intro HX0.out e2)
      clear hwd e1 e2
      by_cases w1_ : wd = 1
      · rw [if_pos w1_] at h
        subst w1_
        obtain rfl := Option.some.inj h
        clear h
        go_wp2_with (first | ((with_reducible refine gate_builtin (b := .append) (xs := #[.tmp 24, .tmp 27]) rfl ?_); at_builtin; refine Kd.R_append (Kd.int .u8) (w0 := wr) base rfl (.tmp 24) (.tmp 27) 22 5 (.int .u8 0) 1 rfl Tryd.underlying22 info5 rfl (by decide) (by omega) (.slice A xs.length c) (xs) (t) [.int .u8 (t)] (fun _ => True) (fun _ => False) rfl (by first | rfl | (go_simp; done) | (go_simp; rfl)) ?aP (fun _ hk => hk.elim) ?aF ?aO ?aB ?aS ?aL ?_; (case aP => exact rfl); (case aB => exact Below.refl _ _); (case aF => exact fun _ _ => trivial); (case aO => exact HO.out); (case aS => exact HS.out); (case aL => have := HX.out; (try simp only [List.length_append, List.length_cons, List.length_nil]); omega); intro v6 w6 ho hb hg hat; have HC := Aside0.mk (Kd.R_after HC.out hg hat); have HS := Aside0.mk (Nat.le_trans HS.out hb.size); have HBB := Aside0.mk (HBB.out.trans hb); have ho2 := Kd.R_slice ho; (try simp only [List.length_append, List.length_cons, List.length_nil] at ho2); obtain ⟨A6, c6, rfl⟩ := ho2; have HO := Aside0.mk ho; clear ho hb hg hat) | (go_at_call 79; ((with_reducible refine (der_width.calls k (C.length : Int) 1 _ HWD.out).mono ?_); rintro ev w' ⟨rfl, m, rfl⟩; have HO := Aside0.mk (Kd.R_drewN HO.out m); have HC := Aside0.mk (Kd.R_drewN HC.out m); have HBB := Aside0.mk (pw_below_drewN HBB.out m); have HS := Aside0.mk (show base ≤ (w6.drewN m).heap.size from HS.out))) | ((with_reducible refine gate_builtin (b := .append) (xs := #[.tmp 41, .tmp 45]) rfl ?_); at_builtin; refine Kd.R_append (Kd.int .u8) (w0 := (w6.drewN m)) base rfl (.tmp 41) (.tmp 45) 22 5 (.int .u8 0) 1 rfl Tryd.underlying22 info5 rfl (by decide) (by omega) (.slice A6 (xs.length + 1) c6) (xs ++ [t]) (129) [.int .u8 (129)] (fun _ => True) (fun _ => False) rfl (by first | rfl | (go_simp; done) | (go_simp; rfl)) ?aP (fun _ hk => hk.elim) ?aF ?aO ?aB ?aS ?aL ?_; (case aP => exact rfl); (case aB => exact Below.refl _ _); (case aF => exact fun _ _ => trivial); (case aO => exact HO.out); (case aS => exact HS.out); (case aL => have := HX.out; (try simp only [List.length_append, List.length_cons, List.length_nil]); omega); intro v7 w7 ho hb hg hat; have HC := Aside0.mk (Kd.R_after HC.out hg hat); have HS := Aside0.mk (Nat.le_trans HS.out hb.size); have HBB := Aside0.mk (HBB.out.trans hb); have ho2 := Kd.R_slice ho; (try simp only [List.length_append, List.length_cons, List.length_nil] at ho2); obtain ⟨A7, c7, rfl⟩ := ho2; have HO := Aside0.mk ho; clear ho hb hg hat))
        refine wp_loop_rounds 2 ?_
        rw [rounds_succ]
        go_wp2_with (((with_reducible refine gate_builtin (b := .append) (xs := #[.tmp 53, .tmp 60]) rfl ?_); at_builtin; refine Kd.R_append (Kd.int .u8) (w0 := w7) base rfl (.tmp 53) (.tmp 60) 22 5 (.int .u8 0) 1 rfl Tryd.underlying22 info5 rfl (by decide) (by omega) (.slice A7 (xs.length + 1 + 1) c7) (xs ++ [t] ++ [129]) ((C.length : Int) % 256) [.int .u8 ((C.length : Int) % 256)] (fun _ => True) (fun _ => False) rfl (by first | rfl | (go_simp; done) | (go_simp; rfl)) ?aP (fun _ hk => hk.elim) ?aF ?aO ?aB ?aS ?aL ?_; (case aP => exact rfl); (case aB => exact Below.refl _ _); (case aF => exact fun _ _ => trivial); (case aO => exact HO.out); (case aS => exact HS.out); (case aL => have := HX.out; (try simp only [List.length_append, List.length_cons, List.length_nil]); omega); intro v8 w8 ho hb hg hat; have HC := Aside0.mk (Kd.R_after HC.out hg hat); have HS := Aside0.mk (Nat.le_trans HS.out hb.size); have HBB := Aside0.mk (HBB.out.trans hb); have ho2 := Kd.R_slice ho; (try simp only [List.length_append, List.length_cons, List.length_nil] at ho2); obtain ⟨A8, c8, rfl⟩ := ho2; have HO := Aside0.mk ho; clear ho hb hg hat))
        rw [rounds_succ]
        go_wp2_with (((with_reducible refine gate_builtin (b := .append) (xs := #[.tmp 62, .tmp 63]) rfl ?_); at_builtin; refine Kd.R_append_rows (Kd.int .u8) (w0 := w8) base rfl (.tmp 62) (.tmp 63) 22 5 (.int .u8 0) 1 rfl Tryd.underlying22 info5 rfl (by decide) (by omega) (.slice A8 (xs.length + 1 + 1 + 1) c8) (xs ++ [t] ++ [129] ++ [(C.length : Int) % 256]) C _ _ _ (fun _ => True) (fun _ => False) rfl rfl ?aO ?aR (fun _ _ h => h) (fun _ h => h.elim) ?aF ?aB ?aS ?aL ?_; (case aR => exact (Kd.R_reads' HC.out).2.2); (case aB => exact Below.refl _ _); (case aF => exact fun _ _ => trivial); (case aO => exact HO.out); (case aS => exact HS.out); (case aL => have := HX.out; (try simp only [List.length_append, List.length_cons, List.length_nil]); omega); intro v9 w9 ho hb hg hat; have HBB := Aside0.mk (HBB.out.trans hb); have HO := Aside0.mk ho; clear ho hb hg hat))
        go_ret
        have hO9 := HO.out
        simp only [List.append_assoc, List.cons_append, List.nil_append] at hO9
        exact ⟨_, rfl, hO9, HBB.out⟩
      rw [if_neg w1_] at h
      by_cases w2_ : wd = 2
      · rw [if_pos w2_] at h
        subst w2_
        obtain rfl := Option.some.inj h
        clear h
        go_wp2_with (first | ((with_reducible refine gate_builtin (b := .append) (xs := #[.tmp 24, .tmp 27]) rfl ?_); at_builtin; refine Kd.R_append (Kd.int .u8) (w0 := wr) base rfl (.tmp 24) (.tmp 27) 22 5 (.int .u8 0) 1 rfl Tryd.underlying22 info5 rfl (by decide) (by omega) (.slice A xs.length c) (xs) (t) [.int .u8 (t)] (fun _ => True) (fun _ => False) rfl (by first | rfl | (go_simp; done) | (go_simp; rfl)) ?aP (fun _ hk => hk.elim) ?aF ?aO ?aB ?aS ?aL ?_; (case aP => exact rfl); (case aB => exact Below.refl _ _); (case aF => exact fun _ _ => trivial); (case aO => exact HO.out); (case aS => exact HS.out); (case aL => have := HX.out; (try simp only [List.length_append, List.length_cons, List.length_nil]); omega); intro v6 w6 ho hb hg hat; have HC := Aside0.mk (Kd.R_after HC.out hg hat); have HS := Aside0.mk (Nat.le_trans HS.out hb.size); have HBB := Aside0.mk (HBB.out.trans hb); have ho2 := Kd.R_slice ho; (try simp only [List.length_append, List.length_cons, List.length_nil] at ho2); obtain ⟨A6, c6, rfl⟩ := ho2; have HO := Aside0.mk ho; clear ho hb hg hat) | (go_at_call 79; ((with_reducible refine (der_width.calls k (C.length : Int) 2 _ HWD.out).mono ?_); rintro ev w' ⟨rfl, m, rfl⟩; have HO := Aside0.mk (Kd.R_drewN HO.out m); have HC := Aside0.mk (Kd.R_drewN HC.out m); have HBB := Aside0.mk (pw_below_drewN HBB.out m); have HS := Aside0.mk (show base ≤ (w6.drewN m).heap.size from HS.out))) | ((with_reducible refine gate_builtin (b := .append) (xs := #[.tmp 41, .tmp 45]) rfl ?_); at_builtin; refine Kd.R_append (Kd.int .u8) (w0 := (w6.drewN m)) base rfl (.tmp 41) (.tmp 45) 22 5 (.int .u8 0) 1 rfl Tryd.underlying22 info5 rfl (by decide) (by omega) (.slice A6 (xs.length + 1) c6) (xs ++ [t]) (130) [.int .u8 (130)] (fun _ => True) (fun _ => False) rfl (by first | rfl | (go_simp; done) | (go_simp; rfl)) ?aP (fun _ hk => hk.elim) ?aF ?aO ?aB ?aS ?aL ?_; (case aP => exact rfl); (case aB => exact Below.refl _ _); (case aF => exact fun _ _ => trivial); (case aO => exact HO.out); (case aS => exact HS.out); (case aL => have := HX.out; (try simp only [List.length_append, List.length_cons, List.length_nil]); omega); intro v7 w7 ho hb hg hat; have HC := Aside0.mk (Kd.R_after HC.out hg hat); have HS := Aside0.mk (Nat.le_trans HS.out hb.size); have HBB := Aside0.mk (HBB.out.trans hb); have ho2 := Kd.R_slice ho; (try simp only [List.length_append, List.length_cons, List.length_nil] at ho2); obtain ⟨A7, c7, rfl⟩ := ho2; have HO := Aside0.mk ho; clear ho hb hg hat))
        refine wp_loop_rounds 3 ?_
        rw [rounds_succ]
        go_wp2_with (((with_reducible refine gate_builtin (b := .append) (xs := #[.tmp 53, .tmp 60]) rfl ?_); at_builtin; refine Kd.R_append (Kd.int .u8) (w0 := w7) base rfl (.tmp 53) (.tmp 60) 22 5 (.int .u8 0) 1 rfl Tryd.underlying22 info5 rfl (by decide) (by omega) (.slice A7 (xs.length + 1 + 1) c7) (xs ++ [t] ++ [130]) ((C.length : Int) / 256 % 256) [.int .u8 ((C.length : Int) / 256 % 256)] (fun _ => True) (fun _ => False) rfl (by first | rfl | (go_simp; done) | (go_simp; rfl)) ?aP (fun _ hk => hk.elim) ?aF ?aO ?aB ?aS ?aL ?_; (case aP => exact rfl); (case aB => exact Below.refl _ _); (case aF => exact fun _ _ => trivial); (case aO => exact HO.out); (case aS => exact HS.out); (case aL => have := HX.out; (try simp only [List.length_append, List.length_cons, List.length_nil]); omega); intro v8 w8 ho hb hg hat; have HC := Aside0.mk (Kd.R_after HC.out hg hat); have HS := Aside0.mk (Nat.le_trans HS.out hb.size); have HBB := Aside0.mk (HBB.out.trans hb); have ho2 := Kd.R_slice ho; (try simp only [List.length_append, List.length_cons, List.length_nil] at ho2); obtain ⟨A8, c8, rfl⟩ := ho2; have HO := Aside0.mk ho; clear ho hb hg hat))
        rw [rounds_succ]
        go_wp2_with (((with_reducible refine gate_builtin (b := .append) (xs := #[.tmp 53, .tmp 60]) rfl ?_); at_builtin; refine Kd.R_append (Kd.int .u8) (w0 := w8) base rfl (.tmp 53) (.tmp 60) 22 5 (.int .u8 0) 1 rfl Tryd.underlying22 info5 rfl (by decide) (by omega) (.slice A8 (xs.length + 1 + 1 + 1) c8) (xs ++ [t] ++ [130] ++ [(C.length : Int) / 256 % 256]) ((C.length : Int) % 256) [.int .u8 ((C.length : Int) % 256)] (fun _ => True) (fun _ => False) rfl (by first | rfl | (go_simp; done) | (go_simp; rfl)) ?aP (fun _ hk => hk.elim) ?aF ?aO ?aB ?aS ?aL ?_; (case aP => exact rfl); (case aB => exact Below.refl _ _); (case aF => exact fun _ _ => trivial); (case aO => exact HO.out); (case aS => exact HS.out); (case aL => have := HX.out; (try simp only [List.length_append, List.length_cons, List.length_nil]); omega); intro v9 w9 ho hb hg hat; have HC := Aside0.mk (Kd.R_after HC.out hg hat); have HS := Aside0.mk (Nat.le_trans HS.out hb.size); have HBB := Aside0.mk (HBB.out.trans hb); have ho2 := Kd.R_slice ho; (try simp only [List.length_append, List.length_cons, List.length_nil] at ho2); obtain ⟨A9, c9, rfl⟩ := ho2; have HO := Aside0.mk ho; clear ho hb hg hat))
        rw [rounds_succ]
        go_wp2_with (((with_reducible refine gate_builtin (b := .append) (xs := #[.tmp 62, .tmp 63]) rfl ?_); at_builtin; refine Kd.R_append_rows (Kd.int .u8) (w0 := w9) base rfl (.tmp 62) (.tmp 63) 22 5 (.int .u8 0) 1 rfl Tryd.underlying22 info5 rfl (by decide) (by omega) (.slice A9 (xs.length + 1 + 1 + 1 + 1) c9) (xs ++ [t] ++ [130] ++ [(C.length : Int) / 256 % 256] ++ [(C.length : Int) % 256]) C _ _ _ (fun _ => True) (fun _ => False) rfl rfl ?aO ?aR (fun _ _ h => h) (fun _ h => h.elim) ?aF ?aB ?aS ?aL ?_; (case aR => exact (Kd.R_reads' HC.out).2.2); (case aB => exact Below.refl _ _); (case aF => exact fun _ _ => trivial); (case aO => exact HO.out); (case aS => exact HS.out); (case aL => have := HX.out; (try simp only [List.length_append, List.length_cons, List.length_nil]); omega); intro v10 w10 ho hb hg hat; have HBB := Aside0.mk (HBB.out.trans hb); have HO := Aside0.mk ho; clear ho hb hg hat))
        go_ret
        have hO9 := HO.out
        simp only [List.append_assoc, List.cons_append, List.nil_append] at hO9
        exact ⟨_, rfl, hO9, HBB.out⟩
      rw [if_neg w2_] at h
      by_cases w3_ : wd = 3
      · rw [if_pos w3_] at h
        subst w3_
        obtain rfl := Option.some.inj h
        clear h
        go_wp2_with (first | ((with_reducible refine gate_builtin (b := .append) (xs := #[.tmp 24, .tmp 27]) rfl ?_); at_builtin; refine Kd.R_append (Kd.int .u8) (w0 := wr) base rfl (.tmp 24) (.tmp 27) 22 5 (.int .u8 0) 1 rfl Tryd.underlying22 info5 rfl (by decide) (by omega) (.slice A xs.length c) (xs) (t) [.int .u8 (t)] (fun _ => True) (fun _ => False) rfl (by first | rfl | (go_simp; done) | (go_simp; rfl)) ?aP (fun _ hk => hk.elim) ?aF ?aO ?aB ?aS ?aL ?_; (case aP => exact rfl); (case aB => exact Below.refl _ _); (case aF => exact fun _ _ => trivial); (case aO => exact HO.out); (case aS => exact HS.out); (case aL => have := HX.out; (try simp only [List.length_append, List.length_cons, List.length_nil]); omega); intro v6 w6 ho hb hg hat; have HC := Aside0.mk (Kd.R_after HC.out hg hat); have HS := Aside0.mk (Nat.le_trans HS.out hb.size); have HBB := Aside0.mk (HBB.out.trans hb); have ho2 := Kd.R_slice ho; (try simp only [List.length_append, List.length_cons, List.length_nil] at ho2); obtain ⟨A6, c6, rfl⟩ := ho2; have HO := Aside0.mk ho; clear ho hb hg hat) | (go_at_call 79; ((with_reducible refine (der_width.calls k (C.length : Int) 3 _ HWD.out).mono ?_); rintro ev w' ⟨rfl, m, rfl⟩; have HO := Aside0.mk (Kd.R_drewN HO.out m); have HC := Aside0.mk (Kd.R_drewN HC.out m); have HBB := Aside0.mk (pw_below_drewN HBB.out m); have HS := Aside0.mk (show base ≤ (w6.drewN m).heap.size from HS.out))) | ((with_reducible refine gate_builtin (b := .append) (xs := #[.tmp 41, .tmp 45]) rfl ?_); at_builtin; refine Kd.R_append (Kd.int .u8) (w0 := (w6.drewN m)) base rfl (.tmp 41) (.tmp 45) 22 5 (.int .u8 0) 1 rfl Tryd.underlying22 info5 rfl (by decide) (by omega) (.slice A6 (xs.length + 1) c6) (xs ++ [t]) (131) [.int .u8 (131)] (fun _ => True) (fun _ => False) rfl (by first | rfl | (go_simp; done) | (go_simp; rfl)) ?aP (fun _ hk => hk.elim) ?aF ?aO ?aB ?aS ?aL ?_; (case aP => exact rfl); (case aB => exact Below.refl _ _); (case aF => exact fun _ _ => trivial); (case aO => exact HO.out); (case aS => exact HS.out); (case aL => have := HX.out; (try simp only [List.length_append, List.length_cons, List.length_nil]); omega); intro v7 w7 ho hb hg hat; have HC := Aside0.mk (Kd.R_after HC.out hg hat); have HS := Aside0.mk (Nat.le_trans HS.out hb.size); have HBB := Aside0.mk (HBB.out.trans hb); have ho2 := Kd.R_slice ho; (try simp only [List.length_append, List.length_cons, List.length_nil] at ho2); obtain ⟨A7, c7, rfl⟩ := ho2; have HO := Aside0.mk ho; clear ho hb hg hat))
        refine wp_loop_rounds 4 ?_
        rw [rounds_succ]
        go_wp2_with (((with_reducible refine gate_builtin (b := .append) (xs := #[.tmp 53, .tmp 60]) rfl ?_); at_builtin; refine Kd.R_append (Kd.int .u8) (w0 := w7) base rfl (.tmp 53) (.tmp 60) 22 5 (.int .u8 0) 1 rfl Tryd.underlying22 info5 rfl (by decide) (by omega) (.slice A7 (xs.length + 1 + 1) c7) (xs ++ [t] ++ [131]) ((C.length : Int) / 65536 % 256) [.int .u8 ((C.length : Int) / 65536 % 256)] (fun _ => True) (fun _ => False) rfl (by first | rfl | (go_simp; done) | (go_simp; rfl)) ?aP (fun _ hk => hk.elim) ?aF ?aO ?aB ?aS ?aL ?_; (case aP => exact rfl); (case aB => exact Below.refl _ _); (case aF => exact fun _ _ => trivial); (case aO => exact HO.out); (case aS => exact HS.out); (case aL => have := HX.out; (try simp only [List.length_append, List.length_cons, List.length_nil]); omega); intro v8 w8 ho hb hg hat; have HC := Aside0.mk (Kd.R_after HC.out hg hat); have HS := Aside0.mk (Nat.le_trans HS.out hb.size); have HBB := Aside0.mk (HBB.out.trans hb); have ho2 := Kd.R_slice ho; (try simp only [List.length_append, List.length_cons, List.length_nil] at ho2); obtain ⟨A8, c8, rfl⟩ := ho2; have HO := Aside0.mk ho; clear ho hb hg hat))
        rw [rounds_succ]
        go_wp2_with (((with_reducible refine gate_builtin (b := .append) (xs := #[.tmp 53, .tmp 60]) rfl ?_); at_builtin; refine Kd.R_append (Kd.int .u8) (w0 := w8) base rfl (.tmp 53) (.tmp 60) 22 5 (.int .u8 0) 1 rfl Tryd.underlying22 info5 rfl (by decide) (by omega) (.slice A8 (xs.length + 1 + 1 + 1) c8) (xs ++ [t] ++ [131] ++ [(C.length : Int) / 65536 % 256]) ((C.length : Int) / 256 % 256) [.int .u8 ((C.length : Int) / 256 % 256)] (fun _ => True) (fun _ => False) rfl (by first | rfl | (go_simp; done) | (go_simp; rfl)) ?aP (fun _ hk => hk.elim) ?aF ?aO ?aB ?aS ?aL ?_; (case aP => exact rfl); (case aB => exact Below.refl _ _); (case aF => exact fun _ _ => trivial); (case aO => exact HO.out); (case aS => exact HS.out); (case aL => have := HX.out; (try simp only [List.length_append, List.length_cons, List.length_nil]); omega); intro v9 w9 ho hb hg hat; have HC := Aside0.mk (Kd.R_after HC.out hg hat); have HS := Aside0.mk (Nat.le_trans HS.out hb.size); have HBB := Aside0.mk (HBB.out.trans hb); have ho2 := Kd.R_slice ho; (try simp only [List.length_append, List.length_cons, List.length_nil] at ho2); obtain ⟨A9, c9, rfl⟩ := ho2; have HO := Aside0.mk ho; clear ho hb hg hat))
        rw [rounds_succ]
        go_wp2_with (((with_reducible refine gate_builtin (b := .append) (xs := #[.tmp 53, .tmp 60]) rfl ?_); at_builtin; refine Kd.R_append (Kd.int .u8) (w0 := w9) base rfl (.tmp 53) (.tmp 60) 22 5 (.int .u8 0) 1 rfl Tryd.underlying22 info5 rfl (by decide) (by omega) (.slice A9 (xs.length + 1 + 1 + 1 + 1) c9) (xs ++ [t] ++ [131] ++ [(C.length : Int) / 65536 % 256] ++ [(C.length : Int) / 256 % 256]) ((C.length : Int) % 256) [.int .u8 ((C.length : Int) % 256)] (fun _ => True) (fun _ => False) rfl (by first | rfl | (go_simp; done) | (go_simp; rfl)) ?aP (fun _ hk => hk.elim) ?aF ?aO ?aB ?aS ?aL ?_; (case aP => exact rfl); (case aB => exact Below.refl _ _); (case aF => exact fun _ _ => trivial); (case aO => exact HO.out); (case aS => exact HS.out); (case aL => have := HX.out; (try simp only [List.length_append, List.length_cons, List.length_nil]); omega); intro v10 w10 ho hb hg hat; have HC := Aside0.mk (Kd.R_after HC.out hg hat); have HS := Aside0.mk (Nat.le_trans HS.out hb.size); have HBB := Aside0.mk (HBB.out.trans hb); have ho2 := Kd.R_slice ho; (try simp only [List.length_append, List.length_cons, List.length_nil] at ho2); obtain ⟨A10, c10, rfl⟩ := ho2; have HO := Aside0.mk ho; clear ho hb hg hat))
        rw [rounds_succ]
        go_wp2_with (((with_reducible refine gate_builtin (b := .append) (xs := #[.tmp 62, .tmp 63]) rfl ?_); at_builtin; refine Kd.R_append_rows (Kd.int .u8) (w0 := w10) base rfl (.tmp 62) (.tmp 63) 22 5 (.int .u8 0) 1 rfl Tryd.underlying22 info5 rfl (by decide) (by omega) (.slice A10 (xs.length + 1 + 1 + 1 + 1 + 1) c10) (xs ++ [t] ++ [131] ++ [(C.length : Int) / 65536 % 256] ++ [(C.length : Int) / 256 % 256] ++ [(C.length : Int) % 256]) C _ _ _ (fun _ => True) (fun _ => False) rfl rfl ?aO ?aR (fun _ _ h => h) (fun _ h => h.elim) ?aF ?aB ?aS ?aL ?_; (case aR => exact (Kd.R_reads' HC.out).2.2); (case aB => exact Below.refl _ _); (case aF => exact fun _ _ => trivial); (case aO => exact HO.out); (case aS => exact HS.out); (case aL => have := HX.out; (try simp only [List.length_append, List.length_cons, List.length_nil]); omega); intro v11 w11 ho hb hg hat; have HBB := Aside0.mk (HBB.out.trans hb); have HO := Aside0.mk ho; clear ho hb hg hat))
        go_ret
        have hO9 := HO.out
        simp only [List.append_assoc, List.cons_append, List.nil_append] at hO9
        exact ⟨_, rfl, hO9, HBB.out⟩
      rw [if_neg w3_] at h
      cases h
theorem app_all : ∀ k, AppC k := by
  intro k
  induction k using Nat.strongRecOn with
  | _ k ih =>
    cases k with
    | zero =>
      intro w0 w base v xs t A1 c1 l1 A2 c2 l2 r hB hb0 hbs hR hr1 hc1 hr2 hc2 h hx
      exact absurd h (by simp [encM])
    | succ k => exact app_step k ih
theorem encM_mono : ∀ k, (∀ t l1 l2, LeO (encM k t l1 l2) (encM (k + 1) t l1 l2)) ∧ (∀ l acc, LeO (contE k l acc) (contE (k + 1) l acc))
  | 0 => ⟨fun _ _ _ r h => by simp [encM] at h, fun _ _ r h => by simp [contE] at h⟩
  | k + 1 => by
    obtain ⟨ih0, ih1⟩ := encM_mono k
    refine ⟨?_, ?_⟩
    · intro t l1 l2
      unfold encM
      repeat' first
          | (with_reducible exact ih1 _ _)
          | (with_reducible exact der_width.mono _ _)
          | (with_reducible exact LeO.refl _)
          | (with_reducible exact LeO.none _)
          | (with_reducible refine LeO.ite ?_ ?_)
          | (with_reducible refine LeO.bind ?_ (fun _ => ?_))
          | exact ih1 _ _
          | exact der_width.mono _ _
          | exact LeO.refl _
          | refine LeO.ite ?_ ?_
          | refine LeO.bind ?_ (fun _ => ?_)
    · intro l acc
      cases l with
      | nil => unfold contE; exact LeO.refl _
      | cons x xs =>
        unfold contE
        repeat' first
            | (with_reducible exact ih0 _ _ _)
            | (with_reducible exact ih1 _ _)
            | (with_reducible exact LeO.refl _)
            | (with_reducible exact LeO.none _)
            | (with_reducible refine LeO.ite ?_ ?_)
            | (with_reducible refine LeO.bind ?_ (fun _ => ?_))
            | exact ih0 _ _ _
            | exact ih1 _ _
            | exact LeO.refl _
            | refine LeO.ite ?_ ?_
            | refine LeO.bind ?_ (fun _ => ?_)
def der_Encode.f (k : Nat) (a0_0 : Int) (l0_1 : List Int) (l0_2 : List (S26)) : Option (List Int × Option E) := (der_Valid.f k a0_0 l0_1 l0_2).bind fun b => if b = false then some ([], some (.code 12)) else (encM k a0_0 l0_1 l0_2).bind fun r => some (r, none)
theorem der_Encode.mono : ∀ a0 a1 a2 k, LeO (der_Encode.f k a0 a1 a2) (der_Encode.f (k + 1) a0 a1 a2) := by
  intro a0 a1 a2 k
  unfold der_Encode.f
  repeat' first
      | (with_reducible exact (encM_mono k).1 _ _ _)
      | (with_reducible exact der_Valid.mono _ _ _ _)
      | (with_reducible exact LeO.refl _)
      | (with_reducible exact LeO.none _)
      | (with_reducible refine LeO.ite ?_ ?_)
      | (with_reducible refine LeO.bind ?_ (fun _ => ?_))
      | exact (encM_mono k).1 _ _ _
      | exact der_Valid.mono _ _ _ _
      | exact LeO.refl _
      | refine LeO.ite ?_ ?_
      | refine LeO.bind ?_ (fun _ => ?_)
set_option maxHeartbeats 8000000 in
set_option maxRecDepth 100000 in
theorem der_Encode.calls (k : Nat) (a0_0 : Int) (A0_1 : Option Addr) (c0_1 : Nat) (l0_1 : List Int) (A0_2 : Option Addr) (c0_2 : Nat) (l0_2 : List (S26)) (r1 : List Int) (r2 : Option E) (w : World) (hr0_1 : Kd.C (Kd.int .u8) w A0_1 l0_1.length l0_1) (hc0_1 : l0_1.length ≤ c0_1) (hr0_2 : Kd.C k26 w A0_2 l0_2.length l0_2) (hc0_2 : l0_2.length ≤ c0_2) (h : der_Encode.f k a0_0 l0_1 l0_2 = some (r1, r2)) :
    Calls Tryd.prog 16 #[.agg #[.int .u8 a0_0, .slice A0_1 l0_1.length c0_1, .slice A0_2 l0_2.length c0_2]] w fun e w' => ∃ v1_ : Value, e = .returned (.tuple #[v1_, errW r2]) ∧ Kd.R (Kd.int .u8) 5 w' w.heap.size (fun _ => True) v1_ r1 ∧ Below w.heap.size w w' := by
  unfold der_Encode.f at h
  obtain ⟨b, hb, h⟩ := Option.bind_eq_some_iff.mp h
  have HV := Aside0.mk hb
  have hu := Tryd.underlying26
  have b1 := below_alloc (Below.refl w.heap.size w) (Obj.cells #[.int .u8 a0_0, .slice A0_1 l0_1.length c0_1, .slice A0_2 l0_2.length c0_2] 26)
  have HB1 := Aside0.mk b1
  have BN := Aside0.mk (blk_new w (Obj.cells #[.int .u8 a0_0, .slice A0_1 l0_1.length c0_1, .slice A0_2 l0_2.length c0_2] 26))
  obtain ⟨z0, z1, z2, z3, z4, z5⟩ := row3 BN.out
  have HR := Aside0.mk (And.intro (And.intro hr0_1 hc0_1) (And.intro hr0_2 hc0_2))
  have HR1 := Aside0.mk (And.intro (Kd.C_below hr0_1 b1) (Kd.C_below hr0_2 b1))
  have hs1 : (w.alloc (Obj.cells #[.int .u8 a0_0, .slice A0_1 l0_1.length c0_1, .slice A0_2 l0_2.length c0_2] 26)).heap.size = w.heap.size + 1 := by simp
  have HS1 := Aside0.mk hs1
  clear hb b1 hr0_1 hc0_1 hr0_2 hc0_2 hs1
  cases b with
  | false =>
    rw [if_pos rfl] at h
    simp only [Option.some.injEq, Prod.mk.injEq] at h
    obtain ⟨rfl, rfl⟩ := h
    go_enter Tryd.func16, Tryd.ntmps16
    go_wp2_with (go_at_call 23; ((with_reducible refine (der_Valid.calls k a0_0 A0_1 c0_1 l0_1 A0_2 c0_2 l0_2 false _ HR1.out.1 HR.out.1.2 HR1.out.2 HR.out.2.2 HV.out).mono ?_); rintro ev w2 ⟨rfl, hb⟩; have HB2 := Aside0.mk hb; clear hb))
    go_ret2
    exact ⟨_, rfl, Kd.R_nil _ _ _ _ _, below_step HB1.out HB2.out⟩
  | true =>
    rw [if_neg (by decide)] at h
    obtain ⟨r, hr, h⟩ := Option.bind_eq_some_iff.mp h
    simp only [Option.some.injEq, Prod.mk.injEq] at h
    obtain ⟨rfl, rfl⟩ := h
    have HE := Aside0.mk hr
    clear hr
    go_enter Tryd.func16, Tryd.ntmps16
    go_wp2_with (first | (go_at_call 23; ((with_reducible refine (der_Valid.calls k a0_0 A0_1 c0_1 l0_1 A0_2 c0_2 l0_2 true _ HR1.out.1 HR.out.1.2 HR1.out.2 HR.out.2.2 HV.out).mono ?_); rintro ev w2 ⟨rfl, hb⟩; have HB2 := Aside0.mk hb; obtain ⟨y0, y1, y2, y3, y4, y5⟩ := row3 (blk_below BN.out hb); have HBW := Aside0.mk (below_step HB1.out hb); clear hb)) | (go_at_call 49; ((with_reducible refine ((app_all k).use w w2 w.heap.size (.slice none 0 0) [] a0_0 A0_1 c0_1 l0_1 A0_2 c0_2 l0_2 r HBW.out (Nat.le_refl _) HBW.out.size (Kd.R_nil _ _ _ _ _) HR.out.1.1 HR.out.1.2 HR.out.2.1 HR.out.2.2 HE.out (by decide)).mono ?_); rintro ev w5 ⟨v', rfl, hR, hb⟩; have HO := Aside0.mk hR; have HB5 := Aside0.mk hb; clear hR hb)))
    go_ret2
    exact ⟨_, rfl, HO.out, HBW.out.trans HB5.out⟩
end Go.Proofs.YtijmigapdcikpaaDoor.PDsm
