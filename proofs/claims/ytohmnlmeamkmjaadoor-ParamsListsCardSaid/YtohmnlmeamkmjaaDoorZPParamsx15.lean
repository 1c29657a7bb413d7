import Derived.Test.YtohmnlmeamkmjaaDoorZPParamsx0
import Derived.Test.YtohmnlmeamkmjaaDoorZPParamsx12
import Derived.Test.YtohmnlmeamkmjaaDoorZPParamsx13
import Derived.Test.YtohmnlmeamkmjaaDoorZPParamsx14
namespace Go.Proofs.YtohmnlmeamkmjaaDoor.PParams
open Go.RowKit Go.Proofs.YtohmnlmeamkmjaaDoorW.PrintWords Go.Proofs.YtohmnlmeamkmjaaDoorW.PrintLast Go.Proofs.YtohmnlmeamkmjaaDoorW.PrintMore
set_option linter.unusedVariables false
set_option linter.unusedSimpArgs false
theorem drop_rd1 (l : List Int) {i : Nat} (h : i < l.length) : l.drop i = rd l (i : Int) :: l.drop (i + 1) := by
  rw [List.drop_eq_getElem_cons h]
  unfold rd
  rw [Int.toNat_natCast, List.getD_eq_getElem?_getD, List.getElem?_eq_getElem h]
  rfl
theorem eq_l0 (a b : List Int) (hlen : a.length = b.length) (hn : a.length < 4611686018427387904) : ∀ d i : Nat, a.length - i = d → i ≤ a.length →
    slices_Equal_uint32_uint32.l0 (d + 1) a b (a.length : Int) (i : Int) = some (decide (a.drop i = b.drop i)) := by
  intro d
  induction d with
  | zero =>
    intro i hd hi
    rw [show a.drop i = [] from List.drop_eq_nil_of_le (by omega), show b.drop i = [] from List.drop_eq_nil_of_le (by omega), slices_Equal_uint32_uint32.l0, if_neg (by omega)]
    rfl
  | succ d ih =>
    intro i hd hi
    have h1 : i < a.length := by omega
    have h2 : i < b.length := by omega
    rw [drop_rd1 a h1, drop_rd1 b h2]
    have w1 : wrap64 ((i : Int) + 1) = ((i + 1 : Nat) : Int) := by unfold wrap64; omega
    by_cases hr : rd a i = rd b i
    · have e : decide (rd a ↑i :: List.drop (i + 1) a = rd b ↑i :: List.drop (i + 1) b) = decide (a.drop (i + 1) = b.drop (i + 1)) := by rw [hr]; simp
      rw [e, slices_Equal_uint32_uint32.l0, if_pos (by omega), if_pos (by omega), if_pos (by omega), if_pos (by omega), if_pos hr, w1]
      exact ih (i + 1) (by omega) (by omega)
    · have e : decide (rd a ↑i :: List.drop (i + 1) a = rd b ↑i :: List.drop (i + 1) b) = false := by simp [hr]
      rw [e, slices_Equal_uint32_uint32.l0, if_pos (by omega), if_pos (by omega), if_pos (by omega), if_pos (by omega), if_neg hr]
theorem eq_f (a b : List Int) (hn : a.length < 4611686018427387904) : slices_Equal_uint32_uint32.f (a.length + 1) a b = some (decide (a = b)) := by
  by_cases h : a.length = b.length
  · have := eq_l0 a b h hn a.length 0 (by omega) (by omega)
    simp only [List.drop_zero] at this
    rw [slices_Equal_uint32_uint32.f, if_pos (by omega)]
    exact this
  · have e : decide (a = b) = false := by simp; intro h'; exact h (by rw [h'])
    rw [e, slices_Equal_uint32_uint32.f, if_neg (by omega)]
set_option maxRecDepth 100000 in
theorem row_len (a : Nat) (h1 : 1 ≤ a) (h2 : a ≤ 25) : (prow a).2.2.2.2.2.2.2.1.length < 4611686018427387904 := by
  rcases (show a = 1 ∨ a = 2 ∨ a = 3 ∨ a = 4 ∨ a = 5 ∨ a = 6 ∨ a = 7 ∨ a = 8 ∨ a = 9 ∨ a = 10 ∨ a = 11 ∨ a = 12 ∨ a = 13 ∨ a = 14 ∨ a = 15 ∨ a = 16 ∨ a = 17 ∨ a = 18 ∨ a = 19 ∨ a = 20 ∨ a = 21 ∨ a = 22 ∨ a = 23 ∨ a = 24 ∨ a = 25 by omega) with rfl | rfl | rfl | rfl | rfl | rfl | rfl | rfl | rfl | rfl | rfl | rfl | rfl | rfl | rfl | rfl | rfl | rfl | rfl | rfl | rfl | rfl | rfl | rfl | rfl
  all_goals
    simp only [prow]
    decide
set_option maxHeartbeats 4000000 in
set_option maxRecDepth 100000 in
theorem byOID_clo (p1 p2 : Int) (p3 : ByteArray) (p4 p5 p6 p7 : Int) (p8 : List Int) (p9 p10 : Int) (v : Value) (A : Option Addr) (c : Nat) (l : List Int) (q base : Nat) (W : World) (hn : p8.length < 4611686018427387904) (hq : W.cell? ⟨q, 0, none⟩ = some (.slice A l.length c)) (hl : Kd.C (Kd.int .u32) W A l.length l) (hc : l.length ≤ c) (hv : Kd.R (Kd.int .u32) 33 W base (fun _ => True) v p8) :
    Calls Tryd.prog 55 #[(.agg #[.int .i64 p1, .int .i64 p2, .string p3, .int .i64 p4, .int .i64 p5, .int .i64 p6, .int .i64 p7, v, .int .i64 p9, .int .u32 p10]), .pointer (some ⟨q, 0, none⟩)] W fun e w' => e = .returned (.bool (decide (p8 = l))) ∧ Below W.heap.size W w' := by
  have hu := Tryd.underlying37
  have hqb := World.block_lt_of_cell? W _ hq
  obtain ⟨A8, c8, rfl⟩ := Kd.R_slice hv
  have h8 := Kd.R_reads' hv
  have HE := Aside0.mk (fun (o : Obj) => slices_Equal_uint32_uint32.calls (p8.length + 1) A8 c8 p8 A c l (decide (p8 = l)) (W.alloc o) (Kd.R_reads' (Kd.R_alloc hv o)).2.2 h8.2.1 (Kd.C_alloc hl o) hc (eq_f p8 l hn))
  go_enter Tryd.func55, Tryd.ntmps55
  go_wp2_with (go_at_call 23; ((with_reducible refine (HE.out _).mono ?_); rintro e w2 ⟨rfl, ⟨q_, rfl⟩⟩))
  go_ret
  exact ⟨rfl, by repeat (first | exact Below.refl _ _ | apply below_alloc | apply pw_below_drewN)⟩
set_option maxHeartbeats 8000000 in
set_option maxRecDepth 100000 in
theorem list_oid (h : Nat → Bool) (q0 : Nat) (w : World) (hG : GOK w)
    (HF : ∀ (a : Nat) (p1 p2 : Int) (p3 : ByteArray) (p4 p5 p6 p7 : Int) (p8 : List Int) (p9 p10 : Int) (v : Value) (W : World), 1 ≤ a → a ≤ 25 → prow a = (p1, p2, p3, p4, p5, p6, p7, p8, p9, p10) → Below w.heap.size w W → Kd.R (Kd.int .u32) 33 W w.heap.size (fun _ => True) v p8 → Calls Tryd.prog 55 #[(.agg #[.int .i64 p1, .int .i64 p2, .string p3, .int .i64 p4, .int .i64 p5, .int .i64 p6, .int .i64 p7, v, .int .i64 p9, .int .u32 p10]), .pointer (some ⟨q0, 0, none⟩)] W fun e w' => e = .returned (.bool (h a)) ∧ Below W.heap.size W w') :
    Calls Tryd.prog 54 #[.func (.func 55) #[] #[.pointer (some ⟨q0, 0, none⟩)]] w fun e w' => ∃ v, e = .returned v ∧ Kd.R (Kd.int .i64) 3 w' w.heap.size (fun _ => True) v (algs h 25) ∧ Below w.heap.size w w' := by
  have HG := Aside0.mk hG
  have HFF := Aside0.mk HF
  clear hG HF
  have hu37 := Tryd.underlying37
  go_enter Tryd.func54, Tryd.ntmps54
  go_wp2
  go_loopg [3, 4] 25 (fun kq v3 v4 wr => ∃ (i : Nat) (out : List Int), v4 = .int .i64 ((i + 1 : Nat) : Int) ∧ Aside0 (i ≤ 25 ∧ kq = 25 - i) ∧ Aside0 (out = algs h i) ∧ Aside0 (Kd.R (Kd.int .i64) 3 wr w.heap.size (fun _ => True) v3 out) ∧ Aside0 (Below w.heap.size w wr))
  case atStart => exact ⟨0, [], rfl, ⟨by omega⟩, ⟨rfl⟩, ⟨Kd.R_nil _ _ _ _ _⟩, ⟨Below.refl _ _⟩⟩
  case round =>
    obtain ⟨i, out, rfl, HI, HO, HR, HB⟩ := hrel
    obtain ⟨hi, hk⟩ := HI.out
    obtain ⟨A3, c3, rfl⟩ := Kd.R_slice HR.out
    by_cases ci : i < 25
    · have cb : decide (((i + 1 : Nat) : Int) ≤ 25) = true := decide_eq_true (by omega)
      have cb2 : decide (i + 1 ≤ 25) = true := decide_eq_true (by omega)
      obtain ⟨p1, p2, p3, p4, p5, p6, p7, p8, p9, p10, hp⟩ : ∃ p1 p2 p3 p4 p5 p6 p7 p8 p9 p10, prow (i + 1) = (p1, p2, p3, p4, p5, p6, p7, p8, p9, p10) := ⟨_, _, _, _, _, _, _, _, _, _, rfl⟩
      have hget := get_row (i + 1) (by omega) (by omega)
      rw [hp] at hget
      simp only [withB] at hget
      have hf := fun v W => HFF.out (i + 1) p1 p2 p3 p4 p5 p6 p7 p8 p9 p10 v W (by omega) (by omega) hp
      have hal : algs h (i + 1) = out ++ (if h (i + 1) then [((i + 1 : Nat) : Int)] else []) := by rw [algs, ← HO.out]
      have hlen := algs_len h i
      rw [← HO.out] at hlen
      have w1 : wrap64 (((i + 1 : Nat) : Int) + 1) = ((i + 1 + 1 : Nat) : Int) := by unfold wrap64; omega
      have HGET := Aside0.mk hget
      have HF1 := Aside0.mk hf
      have HAL := Aside0.mk hal
      have HI2 := Aside0.mk (show i < 25 ∧ gk = 25 - i from ⟨ci, hk⟩)
      have HLEN := Aside0.mk hlen
      clear hget hf hal hp hi hk HI hlen
      generalize hA : ((i + 1 : Nat) : Int) = A at *
      cases hh : h (i + 1) with
      | true =>
        go_wp2_with (first | (go_at_call 28; ((with_reducible refine (params_Get.calls 60 A p1 p2 p3 p4 p5 p6 p7 p8 p9 p10 true _ HGET.out (GOK.below HG.out HB.out)).mono ?_); rintro e w2 ⟨v_, rfl, ho0, hb⟩; obtain ⟨Ao, co, rfl⟩ := Kd.R_slice ho0; have HB2 := Aside0.mk (below_step HB.out hb); have HR2 := Aside0.mk (Kd.R_below HR.out hb); have HV := Aside0.mk (Kd.R_lower ho0 (below_size HB.out)); clear ho0 hb)) | (go_at_call 55; ((with_reducible refine (HF1.out (.slice Ao p8.length co) _ (by repeat (first | exact HB2.out | apply below_alloc | apply pw_below_drewN | apply below_drew1)) (by repeat (first | exact HV.out | apply Kd.R_alloc | apply Kd.R_drewN | apply Kd.R_drew))).mono ?_); rintro e w3 ⟨rfl, hb⟩; rw [hh]; have HB3 := Aside0.mk (below_step (by repeat (first | exact HB2.out | apply below_alloc | apply pw_below_drewN | apply below_drew1)) hb); have HR3 := Aside0.mk (Kd.R_below (by repeat (first | exact HR2.out | apply Kd.R_alloc | apply Kd.R_drewN | apply Kd.R_drew)) hb); clear hb)) | ((with_reducible refine gate_builtin (b := .append) (xs := #[.tmp 19, .tmp 21]) rfl ?_); at_builtin; refine Kd.R_append (Kd.int .i64) (w0 := w) w.heap.size rfl (.tmp 19) (.tmp 21) 45 3 (.int .i64 0) 8 rfl Tryd.underlying45 info_intp rfl (by decide) (by omega) (.slice A3 out.length c3) out A [.int .i64 A] (fun _ => True) (fun _ => False) rfl rfl ?aP (fun _ hk => hk.elim) ?aF ?aO ?aB ?aS ?aL ?_; (case aP => exact rfl); (case aB => exact HB3.out); (case aF => exact (fun _ _ => trivial)); (case aO => exact HR3.out); (case aS => exact (below_size HB3.out)); (case aL => have := HLEN.out; have := HI2.out.1; omega); intro v1 w4 h1 hb1 hgr hat; have HR4 := Aside0.mk h1; have HB4 := Aside0.mk hb1; clear h1 hb1 hgr hat))
        go_roundg (25 - (i + 1))
        case measure => have := HI2.out; omega
        case rel => exact ⟨i + 1, _, by (congr 1; have := HI2.out.1; rw [← hA]; first | omega | (unfold wrap64; omega)), ⟨by have := HI2.out; omega⟩, ⟨by rw [HAL.out, hh]; rfl⟩, HR4, HB4⟩
      | false =>
        go_wp2_with (first | (go_at_call 28; ((with_reducible refine (params_Get.calls 60 A p1 p2 p3 p4 p5 p6 p7 p8 p9 p10 true _ HGET.out (GOK.below HG.out HB.out)).mono ?_); rintro e w2 ⟨v_, rfl, ho0, hb⟩; obtain ⟨Ao, co, rfl⟩ := Kd.R_slice ho0; have HB2 := Aside0.mk (below_step HB.out hb); have HR2 := Aside0.mk (Kd.R_below HR.out hb); have HV := Aside0.mk (Kd.R_lower ho0 (below_size HB.out)); clear ho0 hb)) | (go_at_call 55; ((with_reducible refine (HF1.out (.slice Ao p8.length co) _ (by repeat (first | exact HB2.out | apply below_alloc | apply pw_below_drewN | apply below_drew1)) (by repeat (first | exact HV.out | apply Kd.R_alloc | apply Kd.R_drewN | apply Kd.R_drew))).mono ?_); rintro e w3 ⟨rfl, hb⟩; rw [hh]; have HB3 := Aside0.mk (below_step (by repeat (first | exact HB2.out | apply below_alloc | apply pw_below_drewN | apply below_drew1)) hb); have HR3 := Aside0.mk (Kd.R_below (by repeat (first | exact HR2.out | apply Kd.R_alloc | apply Kd.R_drewN | apply Kd.R_drew)) hb); clear hb)))
        go_roundg (25 - (i + 1))
        case measure => have := HI2.out; omega
        case rel => exact ⟨i + 1, _, by (congr 1; have := HI2.out.1; rw [← hA]; first | omega | (unfold wrap64; omega)), ⟨by have := HI2.out; omega⟩, ⟨by rw [HAL.out, hh]; simp⟩, HR3, HB3⟩
    · have cb : decide (((i + 1 : Nat) : Int) ≤ 25) = false := decide_eq_false (by omega)
      have cb2 : decide (i + 1 ≤ 25) = false := decide_eq_false (by omega)
      have hi25 : i = 25 := by omega
      subst hi25
      clear HI hi hk
      go_wp2
      go_ret
      exact ⟨_, rfl, by rw [← HO.out]; exact HR.out, HB.out⟩
def params_ByOID.f (l0 : List Int) : Option (List Int) := some (algs (fun a => decide ((prow a).2.2.2.2.2.2.2.1 = l0)) 25)
set_option maxHeartbeats 8000000 in
set_option maxRecDepth 100000 in
theorem params_ByOID.calls (A0 : Option Addr) (c0 : Nat) (l0 : List Int) (r : List Int) (w : World) (hr0 : Kd.C (Kd.int .u32) w A0 l0.length l0) (hc0 : l0.length ≤ c0) (h : params_ByOID.f l0 = some r) (hG : GOK w) :
    Calls Tryd.prog 33 #[.slice A0 l0.length c0] w fun e w' => ∃ v0_ : Value, e = .returned v0_ ∧ Kd.R (Kd.int .i64) 3 w' w.heap.size (fun _ => True) v0_ r ∧ Below w.heap.size w w' := by
  obtain rfl := Option.some.inj h
  clear h
  have HL := Aside0.mk (fun (W : World) (hs : W.cell? ⟨w.heap.size, 0, none⟩ = some (.slice A0 l0.length c0)) (hB : Below w.heap.size w W) => list_oid (fun a => decide ((prow a).2.2.2.2.2.2.2.1 = l0)) w.heap.size W (GOK.below hG hB) (fun a p1 p2 p3 p4 p5 p6 p7 p8 p9 p10 v W' h1 h2 hp hb hv => by
    have hc := (hb.cell (p := ⟨w.heap.size, 0, none⟩) (World.block_lt_of_cell? W _ hs)).trans hs
    have hln := row_len a h1 h2
    rw [hp] at hln
    have hk := byOID_clo p1 p2 p3 p4 p5 p6 p7 p8 p9 p10 v A0 c0 l0 w.heap.size W.heap.size W' hln hc (Kd.C_below hr0 (below_step hB hb)) hc0 hv
    simp only [hp]
    exact hk))
  clear hG
  go_enter Tryd.func33, Tryd.ntmps33
  go_wp2_with (go_at_call 54; ((with_reducible refine (HL.out _ (by simp) (by repeat (first | exact Below.refl _ _ | apply below_alloc | apply pw_below_drewN))).mono ?_); rintro e w2 ⟨v_, rfl, ho0, hb⟩; have HO := Aside0.mk ho0; have HB := Aside0.mk hb; clear ho0 hb; obtain ⟨A9, c9, rfl⟩ := Kd.R_slice HO.out))
  go_ret
  exact ⟨_, rfl, Kd.R_lower HO.out (by simp; try omega), below_step (by repeat (first | exact Below.refl _ _ | apply below_alloc | apply pw_below_drewN)) HB.out⟩
end Go.Proofs.YtohmnlmeamkmjaaDoor.PParams
