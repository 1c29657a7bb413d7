import Derived.Test.YtijmigapdcikpaaDoorZPLmsx0
import Derived.Test.YtijmigapdcikpaaDoorZPLmsx1
import Derived.Test.YtijmigapdcikpaaDoorZPLmsx3
import Derived.Test.YtijmigapdcikpaaDoorZPLmsx4
import Derived.Test.YtijmigapdcikpaaDoorZPLmsx6
import Derived.Test.YtijmigapdcikpaaDoorZPLmsx7
import Derived.Test.YtijmigapdcikpaaDoorZPLmsx8
import Derived.Test.YtijmigapdcikpaaDoorZPLmsx9
namespace Go.Proofs.YtijmigapdcikpaaDoor.PLms
open Go.RowKit Go.Proofs.YtijmigapdcikpaaDoorW.PrintWords Go.Proofs.YtijmigapdcikpaaDoorW.PrintLast Go.Proofs.YtijmigapdcikpaaDoorW.PrintMore
attribute [local go_sem] max2_int min2_int max_two min_two max_three min_three max_four min_four
set_option linter.unusedVariables false
set_option linter.unusedSimpArgs false
attribute [local go_sem high] eqA70
def pyxref21_HSS.f (k : Nat) (a0 : Int) (a1 : Int) (a2 : Int) (a3 : Int) : Option (List Int) := (pyxref21_words.f k (([a0] : List Int))).bind fun t167 => ((pyxref21_LMS.f k a1 a2 a3).bind fun t170 => (if t167.length + t170.length < 140737488355328 then (some (t167 ++ t170)) else (none)))
theorem pyxref21_HSS.mono : ∀ a0 a1 a2 a3 k, LeO (pyxref21_HSS.f k a0 a1 a2 a3) (pyxref21_HSS.f (k + 1) a0 a1 a2 a3) := by
  intro a0 a1 a2 a3 k
  unfold pyxref21_HSS.f
  repeat' first
      | (with_reducible exact pyxref21_LMS.mono _ _ _ _)
      | (with_reducible exact pyxref21_words.mono _ _)
      | (with_reducible exact LeO.refl _)
      | (with_reducible exact LeO.none _)
      | (with_reducible refine LeO.ite ?_ ?_)
      | (with_reducible refine LeO.bind ?_ (fun _ => ?_))
      | exact pyxref21_LMS.mono _ _ _ _
      | exact pyxref21_words.mono _ _
      | exact LeO.none _
      | refine LeO.ite ?_ ?_
      | refine LeO.bind ?_ (fun _ => ?_)
set_option maxHeartbeats 8000000 in
set_option maxRecDepth 100000 in
theorem pyxref21_HSS.calls (k : Nat) (a0 : Int) (a1 : Int) (a2 : Int) (a3 : Int) (r : List Int) (w : World) (h : pyxref21_HSS.f k a0 a1 a2 a3 = some r) :
    Calls Tryd.prog 41 #[.int .i64 a0, .int .i64 a1, .int .i64 a2, .int .u32 a3] w fun e w' => ∃ v0_ : Value, e = .returned (v0_) ∧ Kd.R (Kd.int .u8) 5 w' w.heap.size (fun _ => True) v0_ r ∧ Below w.heap.size w w' := by
  have HB := Aside0.mk (Below.refl w.heap.size w)
  have H : ((pyxref21_words.f k (([a0] : List Int))).bind fun t167 => ((pyxref21_LMS.f k a1 a2 a3).bind fun t170 => (if t167.length + t170.length < 140737488355328 then (some (t167 ++ t170)) else (none)))) = some r := h
  clear h
  obtain ⟨y164, hy164⟩ : ∃ y_ : List Int, y_ = (([a0] : List Int)) := ⟨_, rfl⟩
  replace H : ((pyxref21_words.f k y164).bind fun t167 => ((pyxref21_LMS.f k a1 a2 a3).bind fun t170 => (if t167.length + t170.length < 140737488355328 then (some (t167 ++ t170)) else (none)))) = some r := by first | (rw [hy164]; with_reducible exact H) | (have H2_ := (Option.bind_some _ _).symm.trans H; rw [hy164]; with_reducible exact H2_) | (have H2_ := (Option.bind_some _ _).symm.trans H; with_reducible exact H2_) | with_reducible exact H | (rw [hy164]; exact H) | exact H
  have Ny164 := Aside0.mk hy164
  clear hy164
  replace H := Option.bind_eq_some_iff.mp H
  obtain ⟨t167, A50, H⟩ := H
  replace H : ((pyxref21_LMS.f k a1 a2 a3).bind fun t170 => (if t167.length + t170.length < 140737488355328 then (some (t167 ++ t170)) else (none))) = some r := H
  have A5 := Aside0.mk A50
  clear A50
  replace H := Option.bind_eq_some_iff.mp H
  obtain ⟨t170, A60, H⟩ := H
  replace H : (if t167.length + t170.length < 140737488355328 then (some (t167 ++ t170)) else (none)) = some r := H
  have A6 := Aside0.mk A60
  clear A60
  by_cases c7 : t167.length + t170.length < 140737488355328
  · rw [if_pos c7] at H
    have LMc7 := Aside0.mk c7
    clear c7
    obtain ⟨y173, hy173⟩ : ∃ y_ : List Int, y_ = (t167 ++ t170) := ⟨_, rfl⟩
    replace H : (some y173) = some r := by first | (rw [hy173]; with_reducible exact H) | (have H2_ := (Option.bind_some _ _).symm.trans H; rw [hy173]; with_reducible exact H2_) | (have H2_ := (Option.bind_some _ _).symm.trans H; with_reducible exact H2_) | with_reducible exact H | (rw [hy173]; exact H) | exact H
    have Ny173 := Aside0.mk hy173
    clear hy173
    obtain rfl := Option.some.inj H
    go_enter Tryd.func41, Tryd.ntmps41
    go_wp2_with (first | ((with_reducible refine gate_dst (N := 10) rfl ?_); refine Kd.R_lit (Kd.int .i64) _ 3 ?hg (N := 10) ?hd (xs := ([a0] : List Int)) (inner := [.int .i64 a0]) (ok := fun _ => True) (okp := fun _ => True) ?hr ?hp (fun _ hk => hk) trivial (Below.refl _ _) (Nat.le_refl _) (by simp) ?_; (case hd => rfl); (case hg => rfl); (case hr => first | (go_simp; done) | (go_simp; rfl)); (case hp => exact (Reps.one (show Kd.M (Kd.int .i64) _ _ _ a0 [.int .i64 a0] from rfl) (Reps.none _ _))); intro v165 w8 ho9 hb hg_ hnew_; clear hg_ hnew_; (first | rw [← Ny164.out] at ho9 | (simp only [Int.reduceToNat] at ho9; rw [← Ny164.out] at ho9)); have n0_ := Aside0.mk (Kd.R_lower ho9 (below_size (by repeat (first | (with_reducible first | exact HB.out | apply below_alloc | apply pw_below_drewN | apply below_drew1) | exact HB.out)))); have n1_ := Aside0.mk (below_step (by repeat (first | (with_reducible first | exact HB.out | apply below_alloc | apply pw_below_drewN | apply below_drew1) | exact HB.out)) hb); clear HB; have HO166 := n0_; have HB := n1_; clear n0_ n1_; clear hb ho9; obtain ⟨Ao10, co10, eo10⟩ := Kd.R_slice HO166.out; subst eo10) | ((with_reducible refine gate_callee (f := 58) rfl ?_); refine goesL_ (some 11) rfl rfl Tryd.func58 (by kernel_rfl) rfl #[.slice Ao10 y164.length co10] rfl (by (try simp only [List.map_toArray, List.map_cons, List.map_nil]); first | done | rfl | (simp only [List.length_drop, List.length_take]; rfl)) ?_; (with_reducible refine (pyxref21_words.calls k _ _ y164 t167 _ ?side1 ?side2 A5.out).mono ?_); (case side1 => repeat (first | exact (Kd.R_reads' HO166.out).2.2 | (with_reducible refine Kd.C_alloc ?_ _) | (with_reducible refine Kd.C_drewN ?_ _) | (with_reducible refine Kd.C_drew ?_))); (case side2 => exact (Kd.R_reads' HO166.out).2.1); rintro e w11 ⟨v168, rfl, ho0, hb⟩; refine ⟨_, rfl, ?_⟩; have n0_ := Aside0.mk (Kd.R_below (by (with_reducible repeat (first | apply Kd.R_alloc | apply Kd.R_drewN | apply Kd.R_drew)); exact HO166.out) hb); have n1_ := Aside0.mk (Kd.R_lower ho0 (below_size (by repeat (first | (with_reducible first | exact HB.out | apply below_alloc | apply pw_below_drewN | apply below_drew1) | exact HB.out)))); have n2_ := Aside0.mk (below_step (by repeat (first | (with_reducible first | exact HB.out | apply below_alloc | apply pw_below_drewN | apply below_drew1) | exact HB.out)) hb); clear HO166; clear HB; have HO166 := n0_; have HO169 := n1_; have HB := n2_; clear n0_ n1_ n2_; (try clear hb); (try clear hb2); (try clear hk); (try clear hi); (try clear ho0)) | ((with_reducible refine gate_callee (f := 60) rfl ?_); refine goesL_ (some 15) rfl rfl Tryd.func60 (by kernel_rfl) rfl #[.int .i64 a1, .int .i64 a2, .int .u32 a3] rfl (by (try simp only [List.map_toArray, List.map_cons, List.map_nil]); first | done | rfl | (simp only [List.length_drop, List.length_take]; rfl)) ?_; (with_reducible refine (pyxref21_LMS.calls k a1 a2 a3 t170 _ A6.out).mono ?_); rintro e w12 ⟨v171, rfl, ho0, hb⟩; refine ⟨_, rfl, ?_⟩; have n0_ := Aside0.mk (Kd.R_below (by (with_reducible repeat (first | apply Kd.R_alloc | apply Kd.R_drewN | apply Kd.R_drew)); exact HO166.out) hb); have n1_ := Aside0.mk (Kd.R_elder' (by (with_reducible repeat (first | apply Kd.R_alloc | apply Kd.R_drewN | apply Kd.R_drew)); exact HO169.out) (Kd.R_base ho0) hb); have n2_ := Aside0.mk (Kd.R_lower (Kd.R_new' ho0 (Kd.R_lt (by (with_reducible repeat (first | apply Kd.R_alloc | apply Kd.R_drewN | apply Kd.R_drew)); exact HO169.out))) (below_size (by repeat (first | (with_reducible first | exact HB.out | apply below_alloc | apply pw_below_drewN | apply below_drew1) | exact HB.out)))); have n3_ := Aside0.mk (below_step (by repeat (first | (with_reducible first | exact HB.out | apply below_alloc | apply pw_below_drewN | apply below_drew1) | exact HB.out)) hb); clear HO166; clear HO169; clear HB; have HO166 := n0_; have HO169 := n1_; have HO172 := n2_; have HB := n3_; clear n0_ n1_ n2_ n3_; (try clear hb); (try clear hb2); (try clear hk); (try clear hi); (try clear ho0); obtain ⟨Ao14, co14, eo14⟩ := Kd.R_slice HO172.out; subst eo14) | ((with_reducible refine gate_builtin (b := .append) (xs := #[.tmp 11, .tmp 15]) rfl ?_); at_builtin; refine Kd.R_append_rows (Kd.int .u8) (w0 := w) w.heap.size rfl (.tmp 11) (.tmp 15) 22 5 (.int .u8 0) 1 rfl Tryd.underlying22 info5 rfl (by decide) (by omega) v168 t167 t170 _ _ _ (fun k_ => some k_ ≠ (.slice Ao14 t170.length co14 : Value).ownBlock) (fun _ => False) rfl rfl ?aO ?aR (fun _ _ h => h) (fun _ h => h.elim) ?aF ?aB ?aS ?aL ?_; (case aR => repeat (first | exact (Kd.R_reads' HO172.out).2.2 | (with_reducible refine Kd.C_alloc ?_ _) | (with_reducible refine Kd.C_drewN ?_ _) | (with_reducible refine Kd.C_drew ?_))); (case aB => exact (by repeat (first | (with_reducible first | exact HB.out | apply below_alloc | apply pw_below_drewN | apply below_drew1) | exact HB.out))); (case aF => exact (fun k_ hk => Kd.fresh' (Kd.R_lt (by (with_reducible repeat (first | apply Kd.R_alloc | apply Kd.R_drewN | apply Kd.R_drew)); exact HO172.out)) k_ hk)); (case aO => exact (by (with_reducible repeat (first | apply Kd.R_alloc | apply Kd.R_drewN | apply Kd.R_drew)); exact Kd.R_mono HO169.out (fun _ hk => hk.2))); (case aS => exact (below_size (by repeat (first | (with_reducible first | exact HB.out | apply below_alloc | apply pw_below_drewN | apply below_drew1) | exact HB.out)))); (case aL => have := LMc7.out; omega); intro v174 w13 ho hb hg hat; rw [← Ny173.out] at ho; have n0_ := Aside0.mk (Kd.R_over' (by (with_reducible repeat (first | apply Kd.R_alloc | apply Kd.R_drewN | apply Kd.R_drew)); exact HO166.out) (Kd.R_typed (by (with_reducible repeat (first | apply Kd.R_alloc | apply Kd.R_drewN | apply Kd.R_drew)); exact HO169.out)) (by decide) hg); have n1_ := Aside0.mk (Kd.R_after (ok := (fun _ => True)) (by (with_reducible repeat (first | apply Kd.R_alloc | apply Kd.R_drewN | apply Kd.R_drew)); exact HO172.out) hg hat); have n2_ := Aside0.mk (hb); have n3_ := Aside0.mk (ho); clear HO166; clear HO172; clear HB; clear HO169; have HO166 := n0_; have HO172 := n1_; have HB := n2_; have HO175 := n3_; clear n0_ n1_ n2_ n3_; clear ho hb hg hat))
    go_ret
    exact ⟨_, by first | rfl | (simp [errW_none, errW_some] <;> rfl) | (simp [*, errW_none, errW_some] <;> rfl), by (with_reducible repeat (first | apply Kd.R_alloc | apply Kd.R_drewN | apply Kd.R_drew)); exact Kd.R_mono HO175.out (fun _ hk => trivial), by repeat (first | (with_reducible first | exact HB.out | apply below_alloc | apply pw_below_drewN | apply below_drew1) | exact HB.out)⟩
  · rw [if_neg c7] at H
    exact absurd H (by simp)
def pyxlaw21_awake.f (k : Nat)  : Option (Bool) := (lms_Signature.f 3 4 5).bind fun t176 => ((some (([0, 0, 0, 0] : List Int) : List Int)).bind fun y179 => (if y179.length + t176.length < 140737488355328 then ((some (y179 ++ t176 : List Int)).bind fun y182 => ((lms_Parse.f y182).bind fun bt185 => (if (bt185.1.length : Int) = 1 then ((lms_Size.f 5 4).bind fun t189 => (if t189 = 1292 then (if (t176.length : Int) = 1292 then (if bt185.2.isNone = true then (if 0 < (bt185.1.length : Int) then (if (((rd_T70 bt185.1 0).f0) == 5 && (((rd_T70 bt185.1 0).f1) == 4 && (((rd_T70 bt185.1 0).f2) == 3 && (((rd_T70 bt185.1 0).f3) == 4 && (((rd_T70 bt185.1 0).f4) == 1292))))) = true then ((pyxref21_HSS.f k 1 5 4 7).bind fun t192 => ((lms_CheckKey.f t192).bind fun t195 => (if t195.isNone = true then ((lms_CheckKey.f ([] : List Int)).bind fun t197 => ((pyxlaw21_told.f t197 3 0).bind fun t198 => (if t198 = true then ((lms_Signature.f 0 5 5).bind fun t199 => (if (t199.length : Int) = 0 then (if 9 ≤ (y182.length : Int) then ((lms_CheckSignature.f (y182.take 9)).bind fun t206 => ((pyxlaw21_told.f t206 3 9).bind fun t207 => (some t207))) else (none)) else (some false))) else (some false)))) else (some false)))) else (some false)) else (none)) else (some false)) else (some false)) else (some false))) else (some false)))) else (none)))
theorem pyxlaw21_awake.mono : ∀ k, LeO (pyxlaw21_awake.f k ) (pyxlaw21_awake.f (k + 1) ) := by
  intro  k
  unfold pyxlaw21_awake.f
  repeat' first
      | (with_reducible exact pyxref21_HSS.mono _ _ _ _ _)
      | (with_reducible exact LeO.refl _)
      | (with_reducible exact LeO.none _)
      | (with_reducible refine LeO.ite ?_ ?_)
      | (with_reducible refine LeO.bind ?_ (fun _ => ?_))
      | exact pyxref21_HSS.mono _ _ _ _ _
      | exact LeO.none _
      | refine LeO.ite ?_ ?_
      | refine LeO.bind ?_ (fun _ => ?_)
theorem pyxlaw21_awake.eval : pyxlaw21_awake.f 4000 = some true := by kernel_rfl
theorem pyxlaw21_awake.only {k : Nat} {r : Bool} (h : pyxlaw21_awake.f k = some r) : r = true := by
  obtain ⟨k', h1, h2⟩ := together pyxlaw21_awake.mono pyxlaw21_awake.mono ⟨k, h⟩ ⟨4000, pyxlaw21_awake.eval⟩
  exact Option.some.inj (h1.symm.trans h2)
set_option maxHeartbeats 8000000 in
set_option maxRecDepth 100000 in
theorem pyxlaw21_awake.calls (k : Nat)  (r : Bool) (w : World) (h : pyxlaw21_awake.f k  = some r) (hG : GOK w) :
    Calls Tryd.prog 26 #[] w fun e w' => e = .returned (.bool r) ∧ Below w.heap.size w w' := by
  have HG := Aside0.mk hG
  clear hG
  have HT := Aside0.mk (pyxlaw21_awake.only h)
  have hu70 := Tryd.underlying70
  have hu65 := Tryd.underlying65
  have hu28 := Tryd.underlying28
  have HB := Aside0.mk (Below.refl w.heap.size w)
  have H : ((lms_Signature.f 3 4 5).bind fun t176 => ((some (([0, 0, 0, 0] : List Int) : List Int)).bind fun y179 => (if y179.length + t176.length < 140737488355328 then ((some (y179 ++ t176 : List Int)).bind fun y182 => ((lms_Parse.f y182).bind fun bt185 => (if (bt185.1.length : Int) = 1 then ((lms_Size.f 5 4).bind fun t189 => (if t189 = 1292 then (if (t176.length : Int) = 1292 then (if bt185.2.isNone = true then (if 0 < (bt185.1.length : Int) then (if (((rd_T70 bt185.1 0).f0) == 5 && (((rd_T70 bt185.1 0).f1) == 4 && (((rd_T70 bt185.1 0).f2) == 3 && (((rd_T70 bt185.1 0).f3) == 4 && (((rd_T70 bt185.1 0).f4) == 1292))))) = true then ((pyxref21_HSS.f k 1 5 4 7).bind fun t192 => ((lms_CheckKey.f t192).bind fun t195 => (if t195.isNone = true then ((lms_CheckKey.f ([] : List Int)).bind fun t197 => ((pyxlaw21_told.f t197 3 0).bind fun t198 => (if t198 = true then ((lms_Signature.f 0 5 5).bind fun t199 => (if (t199.length : Int) = 0 then (if 9 ≤ (y182.length : Int) then ((lms_CheckSignature.f (y182.take 9)).bind fun t206 => ((pyxlaw21_told.f t206 3 9).bind fun t207 => (some t207))) else (none)) else (some false))) else (some false)))) else (some false)))) else (some false)) else (none)) else (some false)) else (some false)) else (some false))) else (some false)))) else (none)))) = some r := h
  clear h
  replace H := Option.bind_eq_some_iff.mp H
  obtain ⟨t176, A10, H⟩ := H
  replace H : ((some (([0, 0, 0, 0] : List Int) : List Int)).bind fun y179 => (if y179.length + t176.length < 140737488355328 then ((some (y179 ++ t176 : List Int)).bind fun y182 => ((lms_Parse.f y182).bind fun bt185 => (if (bt185.1.length : Int) = 1 then ((lms_Size.f 5 4).bind fun t189 => (if t189 = 1292 then (if (t176.length : Int) = 1292 then (if bt185.2.isNone = true then (if 0 < (bt185.1.length : Int) then (if (((rd_T70 bt185.1 0).f0) == 5 && (((rd_T70 bt185.1 0).f1) == 4 && (((rd_T70 bt185.1 0).f2) == 3 && (((rd_T70 bt185.1 0).f3) == 4 && (((rd_T70 bt185.1 0).f4) == 1292))))) = true then ((pyxref21_HSS.f k 1 5 4 7).bind fun t192 => ((lms_CheckKey.f t192).bind fun t195 => (if t195.isNone = true then ((lms_CheckKey.f ([] : List Int)).bind fun t197 => ((pyxlaw21_told.f t197 3 0).bind fun t198 => (if t198 = true then ((lms_Signature.f 0 5 5).bind fun t199 => (if (t199.length : Int) = 0 then (if 9 ≤ (y182.length : Int) then ((lms_CheckSignature.f (y182.take 9)).bind fun t206 => ((pyxlaw21_told.f t206 3 9).bind fun t207 => (some t207))) else (none)) else (some false))) else (some false)))) else (some false)))) else (some false)) else (none)) else (some false)) else (some false)) else (some false))) else (some false)))) else (none))) = some r := H
  have A1 := Aside0.mk A10
  clear A10
  obtain ⟨y179, hy179⟩ : ∃ y_ : List Int, y_ = (([0, 0, 0, 0] : List Int)) := ⟨_, rfl⟩
  replace H : (if y179.length + t176.length < 140737488355328 then ((some (y179 ++ t176 : List Int)).bind fun y182 => ((lms_Parse.f y182).bind fun bt185 => (if (bt185.1.length : Int) = 1 then ((lms_Size.f 5 4).bind fun t189 => (if t189 = 1292 then (if (t176.length : Int) = 1292 then (if bt185.2.isNone = true then (if 0 < (bt185.1.length : Int) then (if (((rd_T70 bt185.1 0).f0) == 5 && (((rd_T70 bt185.1 0).f1) == 4 && (((rd_T70 bt185.1 0).f2) == 3 && (((rd_T70 bt185.1 0).f3) == 4 && (((rd_T70 bt185.1 0).f4) == 1292))))) = true then ((pyxref21_HSS.f k 1 5 4 7).bind fun t192 => ((lms_CheckKey.f t192).bind fun t195 => (if t195.isNone = true then ((lms_CheckKey.f ([] : List Int)).bind fun t197 => ((pyxlaw21_told.f t197 3 0).bind fun t198 => (if t198 = true then ((lms_Signature.f 0 5 5).bind fun t199 => (if (t199.length : Int) = 0 then (if 9 ≤ (y182.length : Int) then ((lms_CheckSignature.f (y182.take 9)).bind fun t206 => ((pyxlaw21_told.f t206 3 9).bind fun t207 => (some t207))) else (none)) else (some false))) else (some false)))) else (some false)))) else (some false)) else (none)) else (some false)) else (some false)) else (some false))) else (some false)))) else (none)) = some r := by first | (rw [hy179]; with_reducible exact H) | (have H2_ := (Option.bind_some _ _).symm.trans H; rw [hy179]; with_reducible exact H2_) | (have H2_ := (Option.bind_some _ _).symm.trans H; with_reducible exact H2_) | with_reducible exact H | (rw [hy179]; exact H) | exact H
  have Ny179 := Aside0.mk hy179
  clear hy179
  by_cases c2 : y179.length + t176.length < 140737488355328
  · rw [if_pos c2] at H
    have LMc2 := Aside0.mk c2
    clear c2
    obtain ⟨y182, hy182⟩ : ∃ y_ : List Int, y_ = (y179 ++ t176) := ⟨_, rfl⟩
    replace H : ((lms_Parse.f y182).bind fun bt185 => (if (bt185.1.length : Int) = 1 then ((lms_Size.f 5 4).bind fun t189 => (if t189 = 1292 then (if (t176.length : Int) = 1292 then (if bt185.2.isNone = true then (if 0 < (bt185.1.length : Int) then (if (((rd_T70 bt185.1 0).f0) == 5 && (((rd_T70 bt185.1 0).f1) == 4 && (((rd_T70 bt185.1 0).f2) == 3 && (((rd_T70 bt185.1 0).f3) == 4 && (((rd_T70 bt185.1 0).f4) == 1292))))) = true then ((pyxref21_HSS.f k 1 5 4 7).bind fun t192 => ((lms_CheckKey.f t192).bind fun t195 => (if t195.isNone = true then ((lms_CheckKey.f ([] : List Int)).bind fun t197 => ((pyxlaw21_told.f t197 3 0).bind fun t198 => (if t198 = true then ((lms_Signature.f 0 5 5).bind fun t199 => (if (t199.length : Int) = 0 then (if 9 ≤ (y182.length : Int) then ((lms_CheckSignature.f (y182.take 9)).bind fun t206 => ((pyxlaw21_told.f t206 3 9).bind fun t207 => (some t207))) else (none)) else (some false))) else (some false)))) else (some false)))) else (some false)) else (none)) else (some false)) else (some false)) else (some false))) else (some false))) = some r := by first | (rw [hy182]; with_reducible exact H) | (have H2_ := (Option.bind_some _ _).symm.trans H; rw [hy182]; with_reducible exact H2_) | (have H2_ := (Option.bind_some _ _).symm.trans H; with_reducible exact H2_) | with_reducible exact H | (rw [hy182]; exact H) | exact H
    have Ny182 := Aside0.mk hy182
    clear hy182
    replace H := Option.bind_eq_some_iff.mp H
    obtain ⟨⟨t185, t186⟩, A30, H⟩ := H
    replace H : (if (t185.length : Int) = 1 then ((lms_Size.f 5 4).bind fun t189 => (if t189 = 1292 then (if (t176.length : Int) = 1292 then (if t186.isNone = true then (if 0 < (t185.length : Int) then (if (((rd_T70 t185 0).f0) == 5 && (((rd_T70 t185 0).f1) == 4 && (((rd_T70 t185 0).f2) == 3 && (((rd_T70 t185 0).f3) == 4 && (((rd_T70 t185 0).f4) == 1292))))) = true then ((pyxref21_HSS.f k 1 5 4 7).bind fun t192 => ((lms_CheckKey.f t192).bind fun t195 => (if t195.isNone = true then ((lms_CheckKey.f ([] : List Int)).bind fun t197 => ((pyxlaw21_told.f t197 3 0).bind fun t198 => (if t198 = true then ((lms_Signature.f 0 5 5).bind fun t199 => (if (t199.length : Int) = 0 then (if 9 ≤ (y182.length : Int) then ((lms_CheckSignature.f (y182.take 9)).bind fun t206 => ((pyxlaw21_told.f t206 3 9).bind fun t207 => (some t207))) else (none)) else (some false))) else (some false)))) else (some false)))) else (some false)) else (none)) else (some false)) else (some false)) else (some false))) else (some false)) = some r := H
    have A3 := Aside0.mk A30
    clear A30
    by_cases c4 : (t185.length : Int) = 1
    · rw [if_pos c4] at H
      have c4b0 : ((t185.length : Int) == 1) = true := beq_iff_eq.mpr c4
      have c4b1 : ((t185.length : Int) != 1) = false := bne_eq_false_iff_eq.mpr c4
      clear c4
      replace H := Option.bind_eq_some_iff.mp H
      obtain ⟨t189, A50, H⟩ := H
      replace H : (if t189 = 1292 then (if (t176.length : Int) = 1292 then (if t186.isNone = true then (if 0 < (t185.length : Int) then (if (((rd_T70 t185 0).f0) == 5 && (((rd_T70 t185 0).f1) == 4 && (((rd_T70 t185 0).f2) == 3 && (((rd_T70 t185 0).f3) == 4 && (((rd_T70 t185 0).f4) == 1292))))) = true then ((pyxref21_HSS.f k 1 5 4 7).bind fun t192 => ((lms_CheckKey.f t192).bind fun t195 => (if t195.isNone = true then ((lms_CheckKey.f ([] : List Int)).bind fun t197 => ((pyxlaw21_told.f t197 3 0).bind fun t198 => (if t198 = true then ((lms_Signature.f 0 5 5).bind fun t199 => (if (t199.length : Int) = 0 then (if 9 ≤ (y182.length : Int) then ((lms_CheckSignature.f (y182.take 9)).bind fun t206 => ((pyxlaw21_told.f t206 3 9).bind fun t207 => (some t207))) else (none)) else (some false))) else (some false)))) else (some false)))) else (some false)) else (none)) else (some false)) else (some false)) else (some false)) = some r := H
      have A5 := Aside0.mk A50
      clear A50
      by_cases c6 : t189 = 1292
      · rw [if_pos c6] at H
        have c6b0 : (t189 == 1292) = true := beq_iff_eq.mpr c6
        have c6b1 : (t189 != 1292) = false := bne_eq_false_iff_eq.mpr c6
        clear c6
        by_cases c7 : (t176.length : Int) = 1292
        · rw [if_pos c7] at H
          have c7b0 : ((t176.length : Int) == 1292) = true := beq_iff_eq.mpr c7
          have c7b1 : ((t176.length : Int) != 1292) = false := bne_eq_false_iff_eq.mpr c7
          clear c7
          rcases t186 with _ | q190
          · have H1 : (if 0 < (t185.length : Int) then (if (((rd_T70 t185 0).f0) == 5 && (((rd_T70 t185 0).f1) == 4 && (((rd_T70 t185 0).f2) == 3 && (((rd_T70 t185 0).f3) == 4 && (((rd_T70 t185 0).f4) == 1292))))) = true then ((pyxref21_HSS.f k 1 5 4 7).bind fun t192 => ((lms_CheckKey.f t192).bind fun t195 => (if t195.isNone = true then ((lms_CheckKey.f ([] : List Int)).bind fun t197 => ((pyxlaw21_told.f t197 3 0).bind fun t198 => (if t198 = true then ((lms_Signature.f 0 5 5).bind fun t199 => (if (t199.length : Int) = 0 then (if 9 ≤ (y182.length : Int) then ((lms_CheckSignature.f (y182.take 9)).bind fun t206 => ((pyxlaw21_told.f t206 3 9).bind fun t207 => (some t207))) else (none)) else (some false))) else (some false)))) else (some false)))) else (some false)) else (none)) = some r := by rw [if_pos (show (none : Option E).isNone = true by rfl)] at H; exact H
            clear H
            have H := H1
            clear H1
            try simp only [errW_none, errW_some]
            by_cases c8 : 0 < (t185.length : Int)
            · rw [if_pos c8] at H
              have c8b0 : decide (0 < (t185.length : Int)) = true := decide_eq_true c8
              have c8b1 : decide (0 < t185.length) = true := decide_eq_true (by omega)
              clear c8
              by_cases c9 : (((rd_T70 t185 0).f0) == 5 && (((rd_T70 t185 0).f1) == 4 && (((rd_T70 t185 0).f2) == 3 && (((rd_T70 t185 0).f3) == 4 && (((rd_T70 t185 0).f4) == 1292))))) = true
              · rw [if_pos c9] at H
                have c9b0 : (((rd_T70 t185 0).f0) == 5 && (((rd_T70 t185 0).f1) == 4 && (((rd_T70 t185 0).f2) == 3 && (((rd_T70 t185 0).f3) == 4 && (((rd_T70 t185 0).f4) == 1292))))) = true := c9
                (try (have c9b1 : decide (((rd_T70 t185 0).f0) = 5 && (((rd_T70 t185 0).f1) == 4 && (((rd_T70 t185 0).f2) == 3 && (((rd_T70 t185 0).f3) == 4 && (((rd_T70 t185 0).f4) == 1292))))) = true := by simpa using c9))
                (try (have c9b2 : (((rd_T70 t185 0).f0) == 5 && (((rd_T70 t185 0).f1) == 4 && (((rd_T70 t185 0).f2) == 3 && (((rd_T70 t185 0).f3) == 4 && (((rd_T70 t185 0).f4) == 1292))))) = true := by simpa using c9))
                clear c9
                replace H := Option.bind_eq_some_iff.mp H
                obtain ⟨t192, A100, H⟩ := H
                replace H : ((lms_CheckKey.f t192).bind fun t195 => (if t195.isNone = true then ((lms_CheckKey.f ([] : List Int)).bind fun t197 => ((pyxlaw21_told.f t197 3 0).bind fun t198 => (if t198 = true then ((lms_Signature.f 0 5 5).bind fun t199 => (if (t199.length : Int) = 0 then (if 9 ≤ (y182.length : Int) then ((lms_CheckSignature.f (y182.take 9)).bind fun t206 => ((pyxlaw21_told.f t206 3 9).bind fun t207 => (some t207))) else (none)) else (some false))) else (some false)))) else (some false))) = some r := H
                have A10 := Aside0.mk A100
                clear A100
                replace H := Option.bind_eq_some_iff.mp H
                obtain ⟨t195, A110, H⟩ := H
                replace H : (if t195.isNone = true then ((lms_CheckKey.f ([] : List Int)).bind fun t197 => ((pyxlaw21_told.f t197 3 0).bind fun t198 => (if t198 = true then ((lms_Signature.f 0 5 5).bind fun t199 => (if (t199.length : Int) = 0 then (if 9 ≤ (y182.length : Int) then ((lms_CheckSignature.f (y182.take 9)).bind fun t206 => ((pyxlaw21_told.f t206 3 9).bind fun t207 => (some t207))) else (none)) else (some false))) else (some false)))) else (some false)) = some r := H
                have A11 := Aside0.mk A110
                clear A110
                rcases t195 with _ | q196
                · have H1 : ((lms_CheckKey.f ([] : List Int)).bind fun t197 => ((pyxlaw21_told.f t197 3 0).bind fun t198 => (if t198 = true then ((lms_Signature.f 0 5 5).bind fun t199 => (if (t199.length : Int) = 0 then (if 9 ≤ (y182.length : Int) then ((lms_CheckSignature.f (y182.take 9)).bind fun t206 => ((pyxlaw21_told.f t206 3 9).bind fun t207 => (some t207))) else (none)) else (some false))) else (some false)))) = some r := by rw [if_pos (show (none : Option E).isNone = true by rfl)] at H; exact H
                  clear H
                  have H := H1
                  clear H1
                  try simp only [errW_none, errW_some]
                  replace H := Option.bind_eq_some_iff.mp H
                  obtain ⟨t197, A120, H⟩ := H
                  replace H : ((pyxlaw21_told.f t197 3 0).bind fun t198 => (if t198 = true then ((lms_Signature.f 0 5 5).bind fun t199 => (if (t199.length : Int) = 0 then (if 9 ≤ (y182.length : Int) then ((lms_CheckSignature.f (y182.take 9)).bind fun t206 => ((pyxlaw21_told.f t206 3 9).bind fun t207 => (some t207))) else (none)) else (some false))) else (some false))) = some r := H
                  have A12 := Aside0.mk A120
                  clear A120
                  replace H := Option.bind_eq_some_iff.mp H
                  obtain ⟨t198, A130, H⟩ := H
                  replace H : (if t198 = true then ((lms_Signature.f 0 5 5).bind fun t199 => (if (t199.length : Int) = 0 then (if 9 ≤ (y182.length : Int) then ((lms_CheckSignature.f (y182.take 9)).bind fun t206 => ((pyxlaw21_told.f t206 3 9).bind fun t207 => (some t207))) else (none)) else (some false))) else (some false)) = some r := H
                  have A13 := Aside0.mk A130
                  clear A130
                  by_cases c14 : t198 = true
                  · subst c14
                    have H1 : ((lms_Signature.f 0 5 5).bind fun t199 => (if (t199.length : Int) = 0 then (if 9 ≤ (y182.length : Int) then ((lms_CheckSignature.f (y182.take 9)).bind fun t206 => ((pyxlaw21_told.f t206 3 9).bind fun t207 => (some t207))) else (none)) else (some false))) = some r := by rw [if_pos rfl] at H; exact H
                    clear H
                    have H := H1
                    clear H1
                    replace H := Option.bind_eq_some_iff.mp H
                    obtain ⟨t199, A150, H⟩ := H
                    replace H : (if (t199.length : Int) = 0 then (if 9 ≤ (y182.length : Int) then ((lms_CheckSignature.f (y182.take 9)).bind fun t206 => ((pyxlaw21_told.f t206 3 9).bind fun t207 => (some t207))) else (none)) else (some false)) = some r := H
                    have A15 := Aside0.mk A150
                    clear A150
                    by_cases c16 : (t199.length : Int) = 0
                    · rw [if_pos c16] at H
                      have c16b0 : ((t199.length : Int) == 0) = true := beq_iff_eq.mpr c16
                      have c16b1 : ((t199.length : Int) != 0) = false := bne_eq_false_iff_eq.mpr c16
                      clear c16
                      by_cases c17 : 9 ≤ (y182.length : Int)
                      · rw [if_pos c17] at H
                        have c17b0 := eq_true c17
                        have c17b1 : decide (9 ≤ (y182.length : Int)) = true := decide_eq_true c17
                        clear c17
                        obtain ⟨y202, hy202⟩ : ∃ y_ : List Int, y_ = (y182.take 9) := ⟨_, rfl⟩
                        replace H : ((lms_CheckSignature.f y202).bind fun t206 => ((pyxlaw21_told.f t206 3 9).bind fun t207 => (some t207))) = some r := by first | (rw [hy202]; with_reducible exact H) | (have H2_ := (Option.bind_some _ _).symm.trans H; rw [hy202]; with_reducible exact H2_) | (have H2_ := (Option.bind_some _ _).symm.trans H; with_reducible exact H2_) | with_reducible exact H | (rw [hy202]; exact H) | exact H
                        have Ny202 := Aside0.mk hy202
                        clear hy202
                        replace H := Option.bind_eq_some_iff.mp H
                        obtain ⟨t206, A180, H⟩ := H
                        replace H : ((pyxlaw21_told.f t206 3 9).bind fun t207 => (some t207)) = some r := H
                        have A18 := Aside0.mk A180
                        clear A180
                        replace H := Option.bind_eq_some_iff.mp H
                        obtain ⟨t207, A190, H⟩ := H
                        replace H : (some t207) = some r := H
                        have A19 := Aside0.mk A190
                        clear A190
                        obtain rfl := Option.some.inj H
                        go_enter Tryd.func26, Tryd.ntmps26
                        go_wp2_with (first | ((with_reducible refine gate_callee (f := 39) rfl ?_); refine goesL_ (some 5) rfl rfl Tryd.func39 (by kernel_rfl) rfl #[.int .u32 3, .int .u32 4, .int .u32 5] rfl (by (try simp only [List.map_toArray, List.map_cons, List.map_nil]); first | done | rfl | (simp only [List.length_drop, List.length_take]; rfl)) ?_; (with_reducible refine (lms_Signature.calls 3 4 5 t176 _ A1.out (by first | exact GOK.below HG.out (by repeat (first | (with_reducible first | exact HB.out | apply below_alloc | apply pw_below_drewN | apply below_drew1) | exact HB.out)) | (repeat (first | exact HG.out | apply GOK.drewN | apply GOK.drew)))).mono ?_); rintro e w20 ⟨v177, rfl, ho0, hb⟩; refine ⟨_, rfl, ?_⟩; have n0_ := Aside0.mk (Kd.R_lower ho0 (below_size (by repeat (first | (with_reducible first | exact HB.out | apply below_alloc | apply pw_below_drewN | apply below_drew1) | exact HB.out)))); have n1_ := Aside0.mk (below_step (by repeat (first | (with_reducible first | exact HB.out | apply below_alloc | apply pw_below_drewN | apply below_drew1) | exact HB.out)) hb); clear HB; have HO178 := n0_; have HB := n1_; clear n0_ n1_; (try clear hb); (try clear hb2); (try clear hk); (try clear hi); (try clear ho0)) | ((with_reducible refine gate_dst (N := 6) rfl ?_); (try (refine gate_guard (by rfl) ?_; dsimp only)); refine Kd.R_lit (Kd.int .u8) _ 5 ?hg (N := 6) ?hd (xs := ([0, 0, 0, 0] : List Int)) (inner := [.int .u8 0, .int .u8 0, .int .u8 0, .int .u8 0]) (ok := fun _ => True) (okp := fun _ => True) ?hr ?hp (fun _ hk => hk) trivial (Below.refl _ _) (Nat.le_refl _) (by simp) ?_; (case hd => rfl); (case hg => rfl); (case hr => first | (go_simp; done) | (go_simp; rfl)); (case hp => exact (Reps.one (show Kd.M (Kd.int .u8) _ _ _ 0 [.int .u8 0] from rfl) (Reps.one (show Kd.M (Kd.int .u8) _ _ _ 0 [.int .u8 0] from rfl) (Reps.one (show Kd.M (Kd.int .u8) _ _ _ 0 [.int .u8 0] from rfl) (Reps.one (show Kd.M (Kd.int .u8) _ _ _ 0 [.int .u8 0] from rfl) (Reps.none _ _)))))); intro v180 w21 ho22 hb hg_ hnew_; clear hg_ hnew_; (first | rw [← Ny179.out] at ho22 | (simp only [Int.reduceToNat] at ho22; rw [← Ny179.out] at ho22)); have n0_ := Aside0.mk (Kd.R_elder' (by (with_reducible repeat (first | apply Kd.R_alloc | apply Kd.R_drewN | apply Kd.R_drew)); exact HO178.out) (Kd.R_base ho22) hb); have n1_ := Aside0.mk (Kd.R_lower (Kd.R_new' ho22 (Kd.R_lt (by (with_reducible repeat (first | apply Kd.R_alloc | apply Kd.R_drewN | apply Kd.R_drew)); exact HO178.out))) (below_size (by repeat (first | (with_reducible first | exact HB.out | apply below_alloc | apply pw_below_drewN | apply below_drew1) | exact HB.out)))); have n2_ := Aside0.mk (below_step (by repeat (first | (with_reducible first | exact HB.out | apply below_alloc | apply pw_below_drewN | apply below_drew1) | exact HB.out)) hb); clear HO178; clear HB; have HO178 := n0_; have HO181 := n1_; have HB := n2_; clear n0_ n1_ n2_; clear hb ho22; obtain ⟨Ao24, co24, eo24⟩ := Kd.R_slice HO178.out; subst eo24) | ((with_reducible refine gate_builtin (b := .append) (xs := #[.tmp 6, .tmp 7]) rfl ?_); (try (refine gate_guard (by rfl) ?_; dsimp only)); at_builtin; refine Kd.R_append_rows (Kd.int .u8) (w0 := w) w.heap.size rfl (.tmp 6) (.tmp 7) 22 5 (.int .u8 0) 1 rfl Tryd.underlying22 info5 rfl (by decide) (by omega) v180 y179 t176 _ _ _ (fun k_ => some k_ ≠ (.slice Ao24 t176.length co24 : Value).ownBlock) (fun _ => False) rfl rfl ?aO ?aR (fun _ _ h => h) (fun _ h => h.elim) ?aF ?aB ?aS ?aL ?_; (case aR => repeat (first | exact (Kd.R_reads' HO178.out).2.2 | (with_reducible refine Kd.C_alloc ?_ _) | (with_reducible refine Kd.C_drewN ?_ _) | (with_reducible refine Kd.C_drew ?_))); (case aB => exact (by repeat (first | (with_reducible first | exact HB.out | apply below_alloc | apply pw_below_drewN | apply below_drew1) | exact HB.out))); (case aF => exact (fun k_ hk => Kd.fresh' (Kd.R_lt (by (with_reducible repeat (first | apply Kd.R_alloc | apply Kd.R_drewN | apply Kd.R_drew)); exact HO178.out)) k_ hk)); (case aO => exact (by (with_reducible repeat (first | apply Kd.R_alloc | apply Kd.R_drewN | apply Kd.R_drew)); exact Kd.R_mono HO181.out (fun _ hk => hk.2))); (case aS => exact (below_size (by repeat (first | (with_reducible first | exact HB.out | apply below_alloc | apply pw_below_drewN | apply below_drew1) | exact HB.out)))); (case aL => have := LMc2.out; omega); intro v183 w23 ho hb hg hat; rw [← Ny182.out] at ho; have n0_ := Aside0.mk (Kd.R_after (ok := (fun _ => True)) (by (with_reducible repeat (first | apply Kd.R_alloc | apply Kd.R_drewN | apply Kd.R_drew)); exact HO178.out) hg hat); have n1_ := Aside0.mk (hb); have n2_ := Aside0.mk (ho); clear HO178; clear HB; clear HO181; have HO178 := n0_; have HB := n1_; have HO184 := n2_; clear n0_ n1_ n2_; clear ho hb hg hat; obtain ⟨Ao25, co25, eo25⟩ := Kd.R_slice HO184.out; subst eo25) | ((with_reducible refine gate_callee (f := 30) rfl ?_); refine goesL_ (some 11) rfl rfl Tryd.func30 (by kernel_rfl) rfl #[.slice Ao25 y182.length co25] rfl (by (try simp only [List.map_toArray, List.map_cons, List.map_nil]); first | done | rfl | (simp only [List.length_drop, List.length_take]; rfl)) ?_; (with_reducible refine (lms_Parse.calls _ _ y182 t185 none _ ?side1 ?side2 A3.out (by first | exact GOK.below HG.out (by repeat (first | (with_reducible first | exact HB.out | apply below_alloc | apply pw_below_drewN | apply below_drew1) | exact HB.out)) | (repeat (first | exact HG.out | apply GOK.drewN | apply GOK.drew)))).mono ?_); (case side1 => repeat (first | exact (Kd.R_reads' HO184.out).2.2 | (with_reducible refine Kd.C_alloc ?_ _) | (with_reducible refine Kd.C_drewN ?_ _) | (with_reducible refine Kd.C_drew ?_))); (case side2 => exact (Kd.R_reads' HO184.out).2.1); rintro e w26 ⟨v187, rfl, ho0, hb⟩; refine ⟨_, rfl, ?_⟩; have n0_ := Aside0.mk (Kd.R_below (by (with_reducible repeat (first | apply Kd.R_alloc | apply Kd.R_drewN | apply Kd.R_drew)); exact HO178.out) hb); have n1_ := Aside0.mk (Kd.R_below (by (with_reducible repeat (first | apply Kd.R_alloc | apply Kd.R_drewN | apply Kd.R_drew)); exact HO184.out) hb); have n2_ := Aside0.mk (Kd.R_lower ho0 (below_size (by repeat (first | (with_reducible first | exact HB.out | apply below_alloc | apply pw_below_drewN | apply below_drew1) | exact HB.out)))); have n3_ := Aside0.mk (below_step (by repeat (first | (with_reducible first | exact HB.out | apply below_alloc | apply pw_below_drewN | apply below_drew1) | exact HB.out)) hb); clear HO178; clear HO184; clear HB; have HO178 := n0_; have HO184 := n1_; have HO188 := n2_; have HB := n3_; clear n0_ n1_ n2_ n3_; (try clear hb); (try clear hb2); (try clear hk); (try clear hi); (try clear ho0); (try simp only [errW_none, errW_some]); obtain ⟨Ao27, co27, eo27⟩ := Kd.R_slice HO188.out; subst eo27) | ((with_reducible refine gate_callee (f := 37) rfl ?_); refine goesL_ (some 17) rfl rfl Tryd.func37 (by kernel_rfl) rfl #[.int .u32 5, .int .u32 4] rfl (by (try simp only [List.map_toArray, List.map_cons, List.map_nil]); first | done | rfl | (simp only [List.length_drop, List.length_take]; rfl)) ?_; (with_reducible refine (lms_Size.calls 5 4 t189 _ A5.out (by first | exact GOK.below HG.out (by repeat (first | (with_reducible first | exact HB.out | apply below_alloc | apply pw_below_drewN | apply below_drew1) | exact HB.out)) | (repeat (first | exact HG.out | apply GOK.drewN | apply GOK.drew)))).mono ?_); rintro e w' ⟨rfl, ⟨nd, rfl⟩⟩; refine ⟨_, rfl, ?_⟩; have p191 : 0 ≤ (0 : Int) := (by omega); have q191 : 0 < (t185.length : Int) := of_decide_eq_true (by first | (with_reducible assumption) | assumption); obtain ⟨ad191, e191, hx191_0, hx191_1, hx191_2, hx191_3, hx191_4⟩ := at_T70 (Kd.R_reads' HO188.out).2.2 0 p191 q191; cases e191; have qi191 : (0 < t185.length) = True := eq_true (by omega); (try rw [show ((0 : Int)).toNat = 0 from rfl] at hx191_0); (try rw [show 0 * 5 = 0 from rfl] at hx191_0); (try rw [Addr.add_zero'] at hx191_0); (try rw [show ((0 : Int)).toNat = 0 from rfl] at hx191_1); (try rw [show 0 * 5 = 0 from rfl] at hx191_1); (try rw [Addr.add_zero'] at hx191_1); (try rw [show ((0 : Int)).toNat = 0 from rfl] at hx191_2); (try rw [show 0 * 5 = 0 from rfl] at hx191_2); (try rw [Addr.add_zero'] at hx191_2); (try rw [show ((0 : Int)).toNat = 0 from rfl] at hx191_3); (try rw [show 0 * 5 = 0 from rfl] at hx191_3); (try rw [Addr.add_zero'] at hx191_3); (try rw [show ((0 : Int)).toNat = 0 from rfl] at hx191_4); (try rw [show 0 * 5 = 0 from rfl] at hx191_4); (try rw [Addr.add_zero'] at hx191_4); replace p191 := eq_true p191; replace q191 := eq_true q191) | (go_at_call 41; (with_reducible refine (pyxref21_HSS.calls k 1 5 4 7 t192 _ A10.out).mono ?_); rintro e w28 ⟨v193, rfl, ho0, hb⟩; have n0_ := Aside0.mk (Kd.R_elder' (by (with_reducible repeat (first | apply Kd.R_alloc | apply Kd.R_drewN | apply Kd.R_drew)); exact HO178.out) (Kd.R_base ho0) hb); have n1_ := Aside0.mk (Kd.R_elder' (by (with_reducible repeat (first | apply Kd.R_alloc | apply Kd.R_drewN | apply Kd.R_drew)); exact HO184.out) (Kd.R_base ho0) hb); have n2_ := Aside0.mk (Kd.R_below (by (with_reducible repeat (first | apply Kd.R_alloc | apply Kd.R_drewN | apply Kd.R_drew)); exact HO188.out) hb); have n3_ := Aside0.mk (Kd.R_lower (Kd.R_new' (Kd.R_new' ho0 (Kd.R_lt (by (with_reducible repeat (first | apply Kd.R_alloc | apply Kd.R_drewN | apply Kd.R_drew)); exact HO178.out))) (Kd.R_lt (by (with_reducible repeat (first | apply Kd.R_alloc | apply Kd.R_drewN | apply Kd.R_drew)); exact HO184.out))) (below_size (by repeat (first | (with_reducible first | exact HB.out | apply below_alloc | apply pw_below_drewN | apply below_drew1) | exact HB.out)))); have n4_ := Aside0.mk (below_step (by repeat (first | (with_reducible first | exact HB.out | apply below_alloc | apply pw_below_drewN | apply below_drew1) | exact HB.out)) hb); clear HO178; clear HO184; clear HO188; clear HB; have HO178 := n0_; have HO184 := n1_; have HO188 := n2_; have HO194 := n3_; have HB := n4_; clear n0_ n1_ n2_ n3_ n4_; (try clear hb); (try clear hb2); (try clear hk); (try clear hi); (try clear ho0); obtain ⟨Ao29, co29, eo29⟩ := Kd.R_slice HO194.out; subst eo29) | (go_at_call 43; (with_reducible refine (lms_CheckKey.calls _ _ t192 none _ ?side1 ?side2 A11.out (by first | exact GOK.below HG.out (by repeat (first | (with_reducible first | exact HB.out | apply below_alloc | apply pw_below_drewN | apply below_drew1) | exact HB.out)) | (repeat (first | exact HG.out | apply GOK.drewN | apply GOK.drew)))).mono ?_); (case side1 => repeat (first | exact (Kd.R_reads' HO194.out).2.2 | (with_reducible refine Kd.C_alloc ?_ _) | (with_reducible refine Kd.C_drewN ?_ _) | (with_reducible refine Kd.C_drew ?_))); (case side2 => exact (Kd.R_reads' HO194.out).2.1); rintro e w30 ⟨rfl, hb⟩; have n0_ := Aside0.mk (Kd.R_below (by (with_reducible repeat (first | apply Kd.R_alloc | apply Kd.R_drewN | apply Kd.R_drew)); exact HO178.out) hb); have n1_ := Aside0.mk (Kd.R_below (by (with_reducible repeat (first | apply Kd.R_alloc | apply Kd.R_drewN | apply Kd.R_drew)); exact HO184.out) hb); have n2_ := Aside0.mk (Kd.R_below (by (with_reducible repeat (first | apply Kd.R_alloc | apply Kd.R_drewN | apply Kd.R_drew)); exact HO188.out) hb); have n3_ := Aside0.mk (Kd.R_below (by (with_reducible repeat (first | apply Kd.R_alloc | apply Kd.R_drewN | apply Kd.R_drew)); exact HO194.out) hb); have n4_ := Aside0.mk (below_step (by repeat (first | (with_reducible first | exact HB.out | apply below_alloc | apply pw_below_drewN | apply below_drew1) | exact HB.out)) hb); clear HO178; clear HO184; clear HO188; clear HO194; clear HB; have HO178 := n0_; have HO184 := n1_; have HO188 := n2_; have HO194 := n3_; have HB := n4_; clear n0_ n1_ n2_ n3_ n4_; (try clear hb); (try clear hb2); (try clear hk); (try clear hi); (try simp only [errW_none, errW_some])) | (go_at_call 43; (refine (lms_CheckKey.calls _ _ ([] : List Int) t197 _ ?side1 ?side2 A12.out (by first | exact GOK.below HG.out (by repeat (first | (with_reducible first | exact HB.out | apply below_alloc | apply pw_below_drewN | apply below_drew1) | exact HB.out)) | (repeat (first | exact HG.out | apply GOK.drewN | apply GOK.drew)))).mono ?_); (case side1 => exact Kd.C_nil _ _); (case side2 => exact Nat.le_refl _); rintro e w31 ⟨rfl, hb⟩; have n0_ := Aside0.mk (Kd.R_below (by (with_reducible repeat (first | apply Kd.R_alloc | apply Kd.R_drewN | apply Kd.R_drew)); exact HO178.out) hb); have n1_ := Aside0.mk (Kd.R_below (by (with_reducible repeat (first | apply Kd.R_alloc | apply Kd.R_drewN | apply Kd.R_drew)); exact HO184.out) hb); have n2_ := Aside0.mk (Kd.R_below (by (with_reducible repeat (first | apply Kd.R_alloc | apply Kd.R_drewN | apply Kd.R_drew)); exact HO188.out) hb); have n3_ := Aside0.mk (Kd.R_below (by (with_reducible repeat (first | apply Kd.R_alloc | apply Kd.R_drewN | apply Kd.R_drew)); exact HO194.out) hb); have n4_ := Aside0.mk (below_step (by repeat (first | (with_reducible first | exact HB.out | apply below_alloc | apply pw_below_drewN | apply below_drew1) | exact HB.out)) hb); clear HO178; clear HO184; clear HO188; clear HO194; clear HB; have HO178 := n0_; have HO184 := n1_; have HO188 := n2_; have HO194 := n3_; have HB := n4_; clear n0_ n1_ n2_ n3_ n4_; (try clear hb); (try clear hb2); (try clear hk); (try clear hi); (try simp only [errW_none, errW_some]); have CA13 := fun W => pyxlaw21_told.calls t197 3 0 true W A13.out; try simp only [errW_none, errW_some] at CA13) | (go_at_call 32; (with_reducible refine (CA13 _ (by first | exact GOK.below HG.out (by repeat (first | (with_reducible first | exact HB.out | apply below_alloc | apply pw_below_drewN | apply below_drew1) | exact HB.out)) | (repeat (first | exact HG.out | apply GOK.drewN | apply GOK.drew)))).mono ?_); rintro e w32 ⟨rfl, hb⟩; have n0_ := Aside0.mk (Kd.R_below (by (with_reducible repeat (first | apply Kd.R_alloc | apply Kd.R_drewN | apply Kd.R_drew)); exact HO178.out) hb); have n1_ := Aside0.mk (Kd.R_below (by (with_reducible repeat (first | apply Kd.R_alloc | apply Kd.R_drewN | apply Kd.R_drew)); exact HO184.out) hb); have n2_ := Aside0.mk (Kd.R_below (by (with_reducible repeat (first | apply Kd.R_alloc | apply Kd.R_drewN | apply Kd.R_drew)); exact HO188.out) hb); have n3_ := Aside0.mk (Kd.R_below (by (with_reducible repeat (first | apply Kd.R_alloc | apply Kd.R_drewN | apply Kd.R_drew)); exact HO194.out) hb); have n4_ := Aside0.mk (below_step (by repeat (first | (with_reducible first | exact HB.out | apply below_alloc | apply pw_below_drewN | apply below_drew1) | exact HB.out)) hb); clear HO178; clear HO184; clear HO188; clear HO194; clear HB; have HO178 := n0_; have HO184 := n1_; have HO188 := n2_; have HO194 := n3_; have HB := n4_; clear n0_ n1_ n2_ n3_ n4_; (try clear hb); (try clear hb2); (try clear hk); (try clear hi)) | (go_at_call 39; (with_reducible refine (lms_Signature.calls 0 5 5 t199 _ A15.out (by first | exact GOK.below HG.out (by repeat (first | (with_reducible first | exact HB.out | apply below_alloc | apply pw_below_drewN | apply below_drew1) | exact HB.out)) | (repeat (first | exact HG.out | apply GOK.drewN | apply GOK.drew)))).mono ?_); rintro e w33 ⟨v200, rfl, ho0, hb⟩; have n0_ := Aside0.mk (Kd.R_elder' (by (with_reducible repeat (first | apply Kd.R_alloc | apply Kd.R_drewN | apply Kd.R_drew)); exact HO178.out) (Kd.R_base ho0) hb); have n1_ := Aside0.mk (Kd.R_elder' (by (with_reducible repeat (first | apply Kd.R_alloc | apply Kd.R_drewN | apply Kd.R_drew)); exact HO184.out) (Kd.R_base ho0) hb); have n2_ := Aside0.mk (Kd.R_below (by (with_reducible repeat (first | apply Kd.R_alloc | apply Kd.R_drewN | apply Kd.R_drew)); exact HO188.out) hb); have n3_ := Aside0.mk (Kd.R_elder' (by (with_reducible repeat (first | apply Kd.R_alloc | apply Kd.R_drewN | apply Kd.R_drew)); exact HO194.out) (Kd.R_base ho0) hb); have n4_ := Aside0.mk (Kd.R_lower (Kd.R_new' (Kd.R_new' (Kd.R_new' ho0 (Kd.R_lt (by (with_reducible repeat (first | apply Kd.R_alloc | apply Kd.R_drewN | apply Kd.R_drew)); exact HO178.out))) (Kd.R_lt (by (with_reducible repeat (first | apply Kd.R_alloc | apply Kd.R_drewN | apply Kd.R_drew)); exact HO184.out))) (Kd.R_lt (by (with_reducible repeat (first | apply Kd.R_alloc | apply Kd.R_drewN | apply Kd.R_drew)); exact HO194.out))) (below_size (by repeat (first | (with_reducible first | exact HB.out | apply below_alloc | apply pw_below_drewN | apply below_drew1) | exact HB.out)))); have n5_ := Aside0.mk (below_step (by repeat (first | (with_reducible first | exact HB.out | apply below_alloc | apply pw_below_drewN | apply below_drew1) | exact HB.out)) hb); clear HO178; clear HO184; clear HO188; clear HO194; clear HB; have HO178 := n0_; have HO184 := n1_; have HO188 := n2_; have HO194 := n3_; have HO201 := n4_; have HB := n5_; clear n0_ n1_ n2_ n3_ n4_ n5_; (try clear hb); (try clear hb2); (try clear hk); (try clear hi); (try clear ho0); obtain ⟨Ao34, co34, eo34⟩ := Kd.R_slice HO201.out; subst eo34; have q35 : (9 : Int) ≤ ((y182.length : Int) : Int) := of_decide_eq_true (by first | (with_reducible assumption) | assumption); obtain ⟨i035, hi035, _, hsz35, _⟩ := info_parts info5; have hroom35 : y182.length ≤ co25 := (Kd.R_reads' HO184.out).2.1; have hC35 : Kd.C (Kd.int .u8) _ Ao25 y182.length y182 := (Kd.R_reads' HO184.out).2.2; have hcut35 := cut_to (P := Tryd.prog) 22 5 .i64 Tryd.underlying22 hi035 Ao25 y182.length co25 9 (by omega) q35 hroom35; have hr35 := Kd.C_take (m := 9) hC35 (by omega); have hy35 : y202.length = (9 : Int).toNat := (by rw [Ny202.out, List.length_take]; omega); rw [← Ny202.out] at hr35; rw [← hy35] at hcut35; have HR205 := Aside0.mk hr35; have HC205 := Aside0.mk (show y202.length ≤ co25 from by omega); clear hr35 hC35 hroom35 hi035 hsz35; have KY35 := Aside0.mk hy35; clear hy35; have KL35 := Aside0.mk (show 9 ≤ y182.length from by omega); replace q35 := eq_true q35) | (go_at_call 40; (with_reducible refine (lms_CheckSignature.calls _ _ y202 t206 _ ?side1 ?side2 A18.out (by first | exact GOK.below HG.out (by repeat (first | (with_reducible first | exact HB.out | apply below_alloc | apply pw_below_drewN | apply below_drew1) | exact HB.out)) | (repeat (first | exact HG.out | apply GOK.drewN | apply GOK.drew)))).mono ?_); (case side1 => repeat (first | exact (by repeat (first | (with_reducible exact HR205.out) | (with_reducible refine Kd.C_alloc ?_ _) | (with_reducible refine Kd.C_drewN ?_ _) | (with_reducible refine Kd.C_drew ?_) | exact HR205.out)) | (with_reducible refine Kd.C_alloc ?_ _) | (with_reducible refine Kd.C_drewN ?_ _) | (with_reducible refine Kd.C_drew ?_))); (case side2 => exact HC205.out); rintro e w36 ⟨rfl, hb⟩; have n0_ := Aside0.mk (Kd.R_below (by (with_reducible repeat (first | apply Kd.R_alloc | apply Kd.R_drewN | apply Kd.R_drew)); exact HO178.out) hb); have n1_ := Aside0.mk (Kd.R_below (by (with_reducible repeat (first | apply Kd.R_alloc | apply Kd.R_drewN | apply Kd.R_drew)); exact HO184.out) hb); have n2_ := Aside0.mk (Kd.R_below (by (with_reducible repeat (first | apply Kd.R_alloc | apply Kd.R_drewN | apply Kd.R_drew)); exact HO188.out) hb); have n3_ := Aside0.mk (Kd.R_below (by (with_reducible repeat (first | apply Kd.R_alloc | apply Kd.R_drewN | apply Kd.R_drew)); exact HO194.out) hb); have n4_ := Aside0.mk (Kd.R_below (by (with_reducible repeat (first | apply Kd.R_alloc | apply Kd.R_drewN | apply Kd.R_drew)); exact HO201.out) hb); have n5_ := Aside0.mk (Kd.C_below (by repeat (first | (with_reducible exact HR205.out) | (with_reducible refine Kd.C_alloc ?_ _) | (with_reducible refine Kd.C_drewN ?_ _) | (with_reducible refine Kd.C_drew ?_) | exact HR205.out)) hb); have n6_ := Aside0.mk (below_step (by repeat (first | (with_reducible first | exact HB.out | apply below_alloc | apply pw_below_drewN | apply below_drew1) | exact HB.out)) hb); clear HO178; clear HO184; clear HO188; clear HO194; clear HO201; clear HR205; clear HB; have HO178 := n0_; have HO184 := n1_; have HO188 := n2_; have HO194 := n3_; have HO201 := n4_; have HR205 := n5_; have HB := n6_; clear n0_ n1_ n2_ n3_ n4_ n5_ n6_; (try clear hb); (try clear hb2); (try clear hk); (try clear hi); (try simp only [errW_none, errW_some]); have CA19 := fun W => pyxlaw21_told.calls t206 3 9 t207 W A19.out; try simp only [errW_none, errW_some] at CA19) | (go_at_call 32; (with_reducible refine (CA19 _ (by first | exact GOK.below HG.out (by repeat (first | (with_reducible first | exact HB.out | apply below_alloc | apply pw_below_drewN | apply below_drew1) | exact HB.out)) | (repeat (first | exact HG.out | apply GOK.drewN | apply GOK.drew)))).mono ?_); rintro e w37 ⟨rfl, hb⟩; have n0_ := Aside0.mk (Kd.R_below (by (with_reducible repeat (first | apply Kd.R_alloc | apply Kd.R_drewN | apply Kd.R_drew)); exact HO178.out) hb); have n1_ := Aside0.mk (Kd.R_below (by (with_reducible repeat (first | apply Kd.R_alloc | apply Kd.R_drewN | apply Kd.R_drew)); exact HO184.out) hb); have n2_ := Aside0.mk (Kd.R_below (by (with_reducible repeat (first | apply Kd.R_alloc | apply Kd.R_drewN | apply Kd.R_drew)); exact HO188.out) hb); have n3_ := Aside0.mk (Kd.R_below (by (with_reducible repeat (first | apply Kd.R_alloc | apply Kd.R_drewN | apply Kd.R_drew)); exact HO194.out) hb); have n4_ := Aside0.mk (Kd.R_below (by (with_reducible repeat (first | apply Kd.R_alloc | apply Kd.R_drewN | apply Kd.R_drew)); exact HO201.out) hb); have n5_ := Aside0.mk (Kd.C_below (by repeat (first | (with_reducible exact HR205.out) | (with_reducible refine Kd.C_alloc ?_ _) | (with_reducible refine Kd.C_drewN ?_ _) | (with_reducible refine Kd.C_drew ?_) | exact HR205.out)) hb); have n6_ := Aside0.mk (below_step (by repeat (first | (with_reducible first | exact HB.out | apply below_alloc | apply pw_below_drewN | apply below_drew1) | exact HB.out)) hb); clear HO178; clear HO184; clear HO188; clear HO194; clear HO201; clear HR205; clear HB; have HO178 := n0_; have HO184 := n1_; have HO188 := n2_; have HO194 := n3_; have HO201 := n4_; have HR205 := n5_; have HB := n6_; clear n0_ n1_ n2_ n3_ n4_ n5_ n6_; (try clear hb); (try clear hb2); (try clear hk); (try clear hi)))
                        go_ret
                        exact ⟨by first | rfl | (simp [errW_none, errW_some] <;> rfl) | (simp [*, errW_none, errW_some] <;> rfl), by repeat (first | (with_reducible first | exact HB.out | apply below_alloc | apply pw_below_drewN | apply below_drew1) | exact HB.out)⟩
                      · rw [if_neg c17] at H
                        exact absurd H (by simp)
                    · rw [if_neg c16] at H
                      have c16b0 : ((t199.length : Int) == 0) = false := beq_eq_false_iff_ne.mpr c16
                      have c16b1 : ((t199.length : Int) != 0) = true := bne_iff_ne.mpr c16
                      have c16b2 : ¬ (t199 = []) := fun h_ => c16 (by rw [h_]; rfl)
                      exact absurd ((Option.some.inj H).trans HT.out) (by decide)
                  · replace c14 := Bool.eq_false_iff.mpr c14
                    subst c14
                    have H1 : (some false) = some r := by rw [if_neg (show ¬ (false = true) by decide)] at H; exact H
                    clear H
                    have H := H1
                    clear H1
                    exact absurd ((Option.some.inj H).trans HT.out) (by decide)
                · have H1 : (some false) = some r := by rw [if_neg (show ¬ (some q196).isNone = true by simp)] at H; exact H
                  clear H
                  have H := H1
                  clear H1
                  try simp only [errW_none, errW_some]
                  exact absurd ((Option.some.inj H).trans HT.out) (by decide)
              · rw [if_neg c9] at H
                have c9b0 : (((rd_T70 t185 0).f0) == 5 && (((rd_T70 t185 0).f1) == 4 && (((rd_T70 t185 0).f2) == 3 && (((rd_T70 t185 0).f3) == 4 && (((rd_T70 t185 0).f4) == 1292))))) = false := by simpa using c9
                (try (have c9b1 : decide (((rd_T70 t185 0).f0) = 5 && (((rd_T70 t185 0).f1) == 4 && (((rd_T70 t185 0).f2) == 3 && (((rd_T70 t185 0).f3) == 4 && (((rd_T70 t185 0).f4) == 1292))))) = false := by simpa using c9))
                (try (have c9b2 : (((rd_T70 t185 0).f0) == 5 && (((rd_T70 t185 0).f1) == 4 && (((rd_T70 t185 0).f2) == 3 && (((rd_T70 t185 0).f3) == 4 && (((rd_T70 t185 0).f4) == 1292))))) = false := by simpa using c9))
                (try (have c9b3 : ¬ (((rd_T70 t185 0).f0) = 5 && (((rd_T70 t185 0).f1) == 4 && (((rd_T70 t185 0).f2) == 3 && (((rd_T70 t185 0).f3) == 4 && (((rd_T70 t185 0).f4) == 1292))))) := by simpa using c9))
                clear c9
                exact absurd ((Option.some.inj H).trans HT.out) (by decide)
            · rw [if_neg c8] at H
              exact absurd H (by simp)
          · have H1 : (some false) = some r := by rw [if_neg (show ¬ (some q190).isNone = true by simp)] at H; exact H
            clear H
            have H := H1
            clear H1
            try simp only [errW_none, errW_some]
            exact absurd ((Option.some.inj H).trans HT.out) (by decide)
        · rw [if_neg c7] at H
          have c7b0 : ((t176.length : Int) == 1292) = false := beq_eq_false_iff_ne.mpr c7
          have c7b1 : ((t176.length : Int) != 1292) = true := bne_iff_ne.mpr c7
          exact absurd ((Option.some.inj H).trans HT.out) (by decide)
      · rw [if_neg c6] at H
        have c6b0 : (t189 == 1292) = false := beq_eq_false_iff_ne.mpr c6
        have c6b1 : (t189 != 1292) = true := bne_iff_ne.mpr c6
        exact absurd ((Option.some.inj H).trans HT.out) (by decide)
    · rw [if_neg c4] at H
      have c4b0 : ((t185.length : Int) == 1) = false := beq_eq_false_iff_ne.mpr c4
      have c4b1 : ((t185.length : Int) != 1) = true := bne_iff_ne.mpr c4
      exact absurd ((Option.some.inj H).trans HT.out) (by decide)
  · rw [if_neg c2] at H
    exact absurd H (by simp)
def pyxlaw21_few.l0 : Nat → List (S87) → Int → Option (Bool)
  | 0, _, _ => none
  | k + 1, x0, x3 => if x3 < (x0.length : Int) then (if 0 ≤ x3 then (if ((rd_T87 x0 x3).f0) < 0 then (some false) else (if ((rd_T87 x0 x3).f0) ≥ 4294967296 then (some false) else (if ((rd_T87 x0 x3).f1) < 0 then (some false) else (if ((rd_T87 x0 x3).f1) ≥ 4294967296 then (some false) else (if ((rd_T87 x0 x3).f2) < 0 then (some false) else (if ((rd_T87 x0 x3).f2) ≥ 4294967296 then (some false) else (pyxlaw21_few.l0 k x0 (wrap64 (x3 + 1))))))))) else (none)) else (if (x0.length : Int) ≥ 1 then (some (decide ((x0.length : Int) ≤ 10))) else (some false))
def pyxlaw21_few.f (k : Nat) (l0 : List (S87)) : Option (Bool) := pyxlaw21_few.l0 k l0 0
set_option maxHeartbeats 8000000 in
set_option maxRecDepth 100000 in
theorem pyxlaw21_few.calls (k : Nat) (A0 : Option Addr) (c0 : Nat) (l0 : List (S87)) (r : Bool) (w : World) (hr0 : Kd.C k87 w A0 l0.length l0) (hc0 : l0.length ≤ c0) (h : pyxlaw21_few.f k l0 = some r) :
    Calls Tryd.prog 27 #[.slice A0 l0.length c0] w fun e w' => e = .returned (.bool r) ∧ Drawn0 w w' := by
  have HR0 := Aside0.mk hr0
  have HC0 := Aside0.mk hc0
  clear hr0 hc0
  have H : (pyxlaw21_few.l0 k l0 0) = some r := h
  clear h
  have H' := Aside0.mk H
  clear H
  go_enter Tryd.func27, Tryd.ntmps27
  go_wp2
  go_loopg [3] k (fun kq v3 w' => ∃ (x3_1 : Int), v3 = .int .i64 x3_1 ∧ Aside0 (pyxlaw21_few.l0 kq l0 x3_1 = some r) ∧ Aside0 (kq ≤ k) ∧ Drawn0 w w')
  case atStart => exact ⟨(0), (by first | rfl | (simp; done) | (simp [*]; done)), H', ⟨Nat.le_refl _⟩, by repeat (first | exact Drawn0.refl _ | apply Drawn0.step)⟩
  case round =>
    clear H'
    obtain ⟨x3_1, rfl, HA, HK1, ⟨m1, rfl⟩⟩ := hrel
    cases gk with
    | zero => exact absurd HA.out (by simp [pyxlaw21_few.l0])
    | succ k1 =>
      have H := HA.out
      clear HA
      simp only [pyxlaw21_few.l0] at H
      by_cases c2 : x3_1 < (l0.length : Int)
      · rw [if_pos c2] at H
        have c2b0 : decide (x3_1 < (l0.length : Int)) = true := decide_eq_true c2
        clear c2
        by_cases c3 : 0 ≤ x3_1
        · rw [if_pos c3] at H
          have c3b0 : decide (0 ≤ x3_1) = true := decide_eq_true c3
          clear c3
          by_cases c4 : ((rd_T87 l0 x3_1).f0) < 0
          · rw [if_pos c4] at H
            have c4b0 : decide (((rd_T87 l0 x3_1).f0) < 0) = true := decide_eq_true c4
            clear c4
            obtain rfl := Option.some.inj H
            have p208 : 0 ≤ (x3_1 : Int) := of_decide_eq_true (by first | (with_reducible assumption) | assumption)
            have q208 : x3_1 < (l0.length : Int) := of_decide_eq_true (by first | (with_reducible assumption) | assumption)
            obtain ⟨ad208, e208, hx208_0, hx208_1, hx208_2, hx208_3⟩ := at_T87 HR0.out x3_1 p208 q208
            cases e208
            replace p208 := eq_true p208
            replace q208 := eq_true q208
            go_wp2
            go_ret
            exact ⟨by first | rfl | (simp; done) | (simp [*]; done), by repeat (first | exact Drawn0.refl _ | apply Drawn0.step)⟩
          · rw [if_neg c4] at H
            have c4b0 : decide (((rd_T87 l0 x3_1).f0) < 0) = false := decide_eq_false c4
            clear c4
            by_cases c5 : ((rd_T87 l0 x3_1).f0) ≥ 4294967296
            · rw [if_pos c5] at H
              have c5b0 : decide (4294967296 ≤ ((rd_T87 l0 x3_1).f0)) = true := decide_eq_true c5
              clear c5
              obtain rfl := Option.some.inj H
              have p208 : 0 ≤ (x3_1 : Int) := of_decide_eq_true (by first | (with_reducible assumption) | assumption)
              have q208 : x3_1 < (l0.length : Int) := of_decide_eq_true (by first | (with_reducible assumption) | assumption)
              obtain ⟨ad208, e208, hx208_0, hx208_1, hx208_2, hx208_3⟩ := at_T87 HR0.out x3_1 p208 q208
              cases e208
              replace p208 := eq_true p208
              replace q208 := eq_true q208
              have p209 : 0 ≤ (x3_1 : Int) := of_decide_eq_true (by first | (with_reducible assumption) | assumption)
              have q209 : x3_1 < (l0.length : Int) := of_decide_eq_true (by first | (with_reducible assumption) | assumption)
              obtain ⟨ad209, e209, hx209_0, hx209_1, hx209_2, hx209_3⟩ := at_T87 HR0.out x3_1 p209 q209
              obtain rfl : ad208 = ad209 := (by injection e209)
              replace p209 := eq_true p209
              replace q209 := eq_true q209
              go_wp2
              go_ret
              exact ⟨by first | rfl | (simp; done) | (simp [*]; done), by repeat (first | exact Drawn0.refl _ | apply Drawn0.step)⟩
            · rw [if_neg c5] at H
              have c5b0 : decide (4294967296 ≤ ((rd_T87 l0 x3_1).f0)) = false := decide_eq_false c5
              clear c5
              by_cases c6 : ((rd_T87 l0 x3_1).f1) < 0
              · rw [if_pos c6] at H
                have c6b0 : decide (((rd_T87 l0 x3_1).f1) < 0) = true := decide_eq_true c6
                clear c6
                obtain rfl := Option.some.inj H
                have p208 : 0 ≤ (x3_1 : Int) := of_decide_eq_true (by first | (with_reducible assumption) | assumption)
                have q208 : x3_1 < (l0.length : Int) := of_decide_eq_true (by first | (with_reducible assumption) | assumption)
                obtain ⟨ad208, e208, hx208_0, hx208_1, hx208_2, hx208_3⟩ := at_T87 HR0.out x3_1 p208 q208
                cases e208
                replace p208 := eq_true p208
                replace q208 := eq_true q208
                have p209 : 0 ≤ (x3_1 : Int) := of_decide_eq_true (by first | (with_reducible assumption) | assumption)
                have q209 : x3_1 < (l0.length : Int) := of_decide_eq_true (by first | (with_reducible assumption) | assumption)
                obtain ⟨ad209, e209, hx209_0, hx209_1, hx209_2, hx209_3⟩ := at_T87 HR0.out x3_1 p209 q209
                obtain rfl : ad208 = ad209 := (by injection e209)
                replace p209 := eq_true p209
                replace q209 := eq_true q209
                have p210 : 0 ≤ (x3_1 : Int) := of_decide_eq_true (by first | (with_reducible assumption) | assumption)
                have q210 : x3_1 < (l0.length : Int) := of_decide_eq_true (by first | (with_reducible assumption) | assumption)
                obtain ⟨ad210, e210, hx210_0, hx210_1, hx210_2, hx210_3⟩ := at_T87 HR0.out x3_1 p210 q210
                obtain rfl : ad208 = ad210 := (by injection e210)
                replace p210 := eq_true p210
                replace q210 := eq_true q210
                go_wp2
                go_ret
                exact ⟨by first | rfl | (simp; done) | (simp [*]; done), by repeat (first | exact Drawn0.refl _ | apply Drawn0.step)⟩
              · rw [if_neg c6] at H
                have c6b0 : decide (((rd_T87 l0 x3_1).f1) < 0) = false := decide_eq_false c6
                clear c6
                by_cases c7 : ((rd_T87 l0 x3_1).f1) ≥ 4294967296
                · rw [if_pos c7] at H
                  have c7b0 : decide (4294967296 ≤ ((rd_T87 l0 x3_1).f1)) = true := decide_eq_true c7
                  clear c7
                  obtain rfl := Option.some.inj H
                  have p208 : 0 ≤ (x3_1 : Int) := of_decide_eq_true (by first | (with_reducible assumption) | assumption)
                  have q208 : x3_1 < (l0.length : Int) := of_decide_eq_true (by first | (with_reducible assumption) | assumption)
                  obtain ⟨ad208, e208, hx208_0, hx208_1, hx208_2, hx208_3⟩ := at_T87 HR0.out x3_1 p208 q208
                  cases e208
                  replace p208 := eq_true p208
                  replace q208 := eq_true q208
                  have p209 : 0 ≤ (x3_1 : Int) := of_decide_eq_true (by first | (with_reducible assumption) | assumption)
                  have q209 : x3_1 < (l0.length : Int) := of_decide_eq_true (by first | (with_reducible assumption) | assumption)
                  obtain ⟨ad209, e209, hx209_0, hx209_1, hx209_2, hx209_3⟩ := at_T87 HR0.out x3_1 p209 q209
                  obtain rfl : ad208 = ad209 := (by injection e209)
                  replace p209 := eq_true p209
                  replace q209 := eq_true q209
                  have p210 : 0 ≤ (x3_1 : Int) := of_decide_eq_true (by first | (with_reducible assumption) | assumption)
                  have q210 : x3_1 < (l0.length : Int) := of_decide_eq_true (by first | (with_reducible assumption) | assumption)
                  obtain ⟨ad210, e210, hx210_0, hx210_1, hx210_2, hx210_3⟩ := at_T87 HR0.out x3_1 p210 q210
                  obtain rfl : ad208 = ad210 := (by injection e210)
                  replace p210 := eq_true p210
                  replace q210 := eq_true q210
                  have p211 : 0 ≤ (x3_1 : Int) := of_decide_eq_true (by first | (with_reducible assumption) | assumption)
                  have q211 : x3_1 < (l0.length : Int) := of_decide_eq_true (by first | (with_reducible assumption) | assumption)
                  obtain ⟨ad211, e211, hx211_0, hx211_1, hx211_2, hx211_3⟩ := at_T87 HR0.out x3_1 p211 q211
                  obtain rfl : ad208 = ad211 := (by injection e211)
                  replace p211 := eq_true p211
                  replace q211 := eq_true q211
                  go_wp2
                  go_ret
                  exact ⟨by first | rfl | (simp; done) | (simp [*]; done), by repeat (first | exact Drawn0.refl _ | apply Drawn0.step)⟩
                · rw [if_neg c7] at H
                  have c7b0 : decide (4294967296 ≤ ((rd_T87 l0 x3_1).f1)) = false := decide_eq_false c7
                  clear c7
                  by_cases c8 : ((rd_T87 l0 x3_1).f2) < 0
                  · rw [if_pos c8] at H
                    have c8b0 : decide (((rd_T87 l0 x3_1).f2) < 0) = true := decide_eq_true c8
                    clear c8
                    obtain rfl := Option.some.inj H
                    have p208 : 0 ≤ (x3_1 : Int) := of_decide_eq_true (by first | (with_reducible assumption) | assumption)
                    have q208 : x3_1 < (l0.length : Int) := of_decide_eq_true (by first | (with_reducible assumption) | assumption)
                    obtain ⟨ad208, e208, hx208_0, hx208_1, hx208_2, hx208_3⟩ := at_T87 HR0.out x3_1 p208 q208
                    cases e208
                    replace p208 := eq_true p208
                    replace q208 := eq_true q208
                    have p209 : 0 ≤ (x3_1 : Int) := of_decide_eq_true (by first | (with_reducible assumption) | assumption)
                    have q209 : x3_1 < (l0.length : Int) := of_decide_eq_true (by first | (with_reducible assumption) | assumption)
                    obtain ⟨ad209, e209, hx209_0, hx209_1, hx209_2, hx209_3⟩ := at_T87 HR0.out x3_1 p209 q209
                    obtain rfl : ad208 = ad209 := (by injection e209)
                    replace p209 := eq_true p209
                    replace q209 := eq_true q209
                    have p210 : 0 ≤ (x3_1 : Int) := of_decide_eq_true (by first | (with_reducible assumption) | assumption)
                    have q210 : x3_1 < (l0.length : Int) := of_decide_eq_true (by first | (with_reducible assumption) | assumption)
                    obtain ⟨ad210, e210, hx210_0, hx210_1, hx210_2, hx210_3⟩ := at_T87 HR0.out x3_1 p210 q210
                    obtain rfl : ad208 = ad210 := (by injection e210)
                    replace p210 := eq_true p210
                    replace q210 := eq_true q210
                    have p211 : 0 ≤ (x3_1 : Int) := of_decide_eq_true (by first | (with_reducible assumption) | assumption)
                    have q211 : x3_1 < (l0.length : Int) := of_decide_eq_true (by first | (with_reducible assumption) | assumption)
                    obtain ⟨ad211, e211, hx211_0, hx211_1, hx211_2, hx211_3⟩ := at_T87 HR0.out x3_1 p211 q211
                    obtain rfl : ad208 = ad211 := (by injection e211)
                    replace p211 := eq_true p211
                    replace q211 := eq_true q211
                    have p212 : 0 ≤ (x3_1 : Int) := of_decide_eq_true (by first | (with_reducible assumption) | assumption)
                    have q212 : x3_1 < (l0.length : Int) := of_decide_eq_true (by first | (with_reducible assumption) | assumption)
                    obtain ⟨ad212, e212, hx212_0, hx212_1, hx212_2, hx212_3⟩ := at_T87 HR0.out x3_1 p212 q212
                    obtain rfl : ad208 = ad212 := (by injection e212)
                    replace p212 := eq_true p212
                    replace q212 := eq_true q212
                    go_wp2
                    go_ret
                    exact ⟨by first | rfl | (simp; done) | (simp [*]; done), by repeat (first | exact Drawn0.refl _ | apply Drawn0.step)⟩
                  · rw [if_neg c8] at H
                    have c8b0 : decide (((rd_T87 l0 x3_1).f2) < 0) = false := decide_eq_false c8
                    clear c8
                    by_cases c9 : ((rd_T87 l0 x3_1).f2) ≥ 4294967296
                    · rw [if_pos c9] at H
                      have c9b0 : decide (4294967296 ≤ ((rd_T87 l0 x3_1).f2)) = true := decide_eq_true c9
                      clear c9
                      obtain rfl := Option.some.inj H
                      have p208 : 0 ≤ (x3_1 : Int) := of_decide_eq_true (by first | (with_reducible assumption) | assumption)
                      have q208 : x3_1 < (l0.length : Int) := of_decide_eq_true (by first | (with_reducible assumption) | assumption)
                      obtain ⟨ad208, e208, hx208_0, hx208_1, hx208_2, hx208_3⟩ := at_T87 HR0.out x3_1 p208 q208
                      cases e208
                      replace p208 := eq_true p208
                      replace q208 := eq_true q208
                      have p209 : 0 ≤ (x3_1 : Int) := of_decide_eq_true (by first | (with_reducible assumption) | assumption)
                      have q209 : x3_1 < (l0.length : Int) := of_decide_eq_true (by first | (with_reducible assumption) | assumption)
                      obtain ⟨ad209, e209, hx209_0, hx209_1, hx209_2, hx209_3⟩ := at_T87 HR0.out x3_1 p209 q209
                      obtain rfl : ad208 = ad209 := (by injection e209)
                      replace p209 := eq_true p209
                      replace q209 := eq_true q209
                      have p210 : 0 ≤ (x3_1 : Int) := of_decide_eq_true (by first | (with_reducible assumption) | assumption)
                      have q210 : x3_1 < (l0.length : Int) := of_decide_eq_true (by first | (with_reducible assumption) | assumption)
                      obtain ⟨ad210, e210, hx210_0, hx210_1, hx210_2, hx210_3⟩ := at_T87 HR0.out x3_1 p210 q210
                      obtain rfl : ad208 = ad210 := (by injection e210)
                      replace p210 := eq_true p210
                      replace q210 := eq_true q210
                      have p211 : 0 ≤ (x3_1 : Int) := of_decide_eq_true (by first | (with_reducible assumption) | assumption)
                      have q211 : x3_1 < (l0.length : Int) := of_decide_eq_true (by first | (with_reducible assumption) | assumption)
                      obtain ⟨ad211, e211, hx211_0, hx211_1, hx211_2, hx211_3⟩ := at_T87 HR0.out x3_1 p211 q211
                      obtain rfl : ad208 = ad211 := (by injection e211)
                      replace p211 := eq_true p211
                      replace q211 := eq_true q211
                      have p212 : 0 ≤ (x3_1 : Int) := of_decide_eq_true (by first | (with_reducible assumption) | assumption)
                      have q212 : x3_1 < (l0.length : Int) := of_decide_eq_true (by first | (with_reducible assumption) | assumption)
                      obtain ⟨ad212, e212, hx212_0, hx212_1, hx212_2, hx212_3⟩ := at_T87 HR0.out x3_1 p212 q212
                      obtain rfl : ad208 = ad212 := (by injection e212)
                      replace p212 := eq_true p212
                      replace q212 := eq_true q212
                      have p213 : 0 ≤ (x3_1 : Int) := of_decide_eq_true (by first | (with_reducible assumption) | assumption)
                      have q213 : x3_1 < (l0.length : Int) := of_decide_eq_true (by first | (with_reducible assumption) | assumption)
                      obtain ⟨ad213, e213, hx213_0, hx213_1, hx213_2, hx213_3⟩ := at_T87 HR0.out x3_1 p213 q213
                      obtain rfl : ad208 = ad213 := (by injection e213)
                      replace p213 := eq_true p213
                      replace q213 := eq_true q213
                      go_wp2
                      go_ret
                      exact ⟨by first | rfl | (simp; done) | (simp [*]; done), by repeat (first | exact Drawn0.refl _ | apply Drawn0.step)⟩
                    · rw [if_neg c9] at H
                      have c9b0 : decide (4294967296 ≤ ((rd_T87 l0 x3_1).f2)) = false := decide_eq_false c9
                      clear c9
                      have H' := Aside0.mk H
                      clear H
                      have p208 : 0 ≤ (x3_1 : Int) := of_decide_eq_true (by first | (with_reducible assumption) | assumption)
                      have q208 : x3_1 < (l0.length : Int) := of_decide_eq_true (by first | (with_reducible assumption) | assumption)
                      obtain ⟨ad208, e208, hx208_0, hx208_1, hx208_2, hx208_3⟩ := at_T87 HR0.out x3_1 p208 q208
                      cases e208
                      replace p208 := eq_true p208
                      replace q208 := eq_true q208
                      have p209 : 0 ≤ (x3_1 : Int) := of_decide_eq_true (by first | (with_reducible assumption) | assumption)
                      have q209 : x3_1 < (l0.length : Int) := of_decide_eq_true (by first | (with_reducible assumption) | assumption)
                      obtain ⟨ad209, e209, hx209_0, hx209_1, hx209_2, hx209_3⟩ := at_T87 HR0.out x3_1 p209 q209
                      obtain rfl : ad208 = ad209 := (by injection e209)
                      replace p209 := eq_true p209
                      replace q209 := eq_true q209
                      have p210 : 0 ≤ (x3_1 : Int) := of_decide_eq_true (by first | (with_reducible assumption) | assumption)
                      have q210 : x3_1 < (l0.length : Int) := of_decide_eq_true (by first | (with_reducible assumption) | assumption)
                      obtain ⟨ad210, e210, hx210_0, hx210_1, hx210_2, hx210_3⟩ := at_T87 HR0.out x3_1 p210 q210
                      obtain rfl : ad208 = ad210 := (by injection e210)
                      replace p210 := eq_true p210
                      replace q210 := eq_true q210
                      have p211 : 0 ≤ (x3_1 : Int) := of_decide_eq_true (by first | (with_reducible assumption) | assumption)
                      have q211 : x3_1 < (l0.length : Int) := of_decide_eq_true (by first | (with_reducible assumption) | assumption)
                      obtain ⟨ad211, e211, hx211_0, hx211_1, hx211_2, hx211_3⟩ := at_T87 HR0.out x3_1 p211 q211
                      obtain rfl : ad208 = ad211 := (by injection e211)
                      replace p211 := eq_true p211
                      replace q211 := eq_true q211
                      have p212 : 0 ≤ (x3_1 : Int) := of_decide_eq_true (by first | (with_reducible assumption) | assumption)
                      have q212 : x3_1 < (l0.length : Int) := of_decide_eq_true (by first | (with_reducible assumption) | assumption)
                      obtain ⟨ad212, e212, hx212_0, hx212_1, hx212_2, hx212_3⟩ := at_T87 HR0.out x3_1 p212 q212
                      obtain rfl : ad208 = ad212 := (by injection e212)
                      replace p212 := eq_true p212
                      replace q212 := eq_true q212
                      have p213 : 0 ≤ (x3_1 : Int) := of_decide_eq_true (by first | (with_reducible assumption) | assumption)
                      have q213 : x3_1 < (l0.length : Int) := of_decide_eq_true (by first | (with_reducible assumption) | assumption)
                      obtain ⟨ad213, e213, hx213_0, hx213_1, hx213_2, hx213_3⟩ := at_T87 HR0.out x3_1 p213 q213
                      obtain rfl : ad208 = ad213 := (by injection e213)
                      replace p213 := eq_true p213
                      replace q213 := eq_true q213
                      go_wp2
                      go_roundg k1
                      case measure => have := HK1.out; omega
                      case rel => exact ⟨(wrap64 (x3_1 + 1)), (by first | rfl | (simp; done) | (simp [*]; done)), H', ⟨by have := HK1.out; omega⟩, by repeat (first | exact Drawn0.refl _ | apply Drawn0.step)⟩
        · rw [if_neg c3] at H
          exact absurd H (by simp)
      · rw [if_neg c2] at H
        have c2b0 : decide (x3_1 < (l0.length : Int)) = false := decide_eq_false c2
        clear c2
        by_cases c10 : (l0.length : Int) ≥ 1
        · rw [if_pos c10] at H
          have c10b0 : decide (1 ≤ (l0.length : Int)) = true := decide_eq_true c10
          have c10b1 : decide (1 ≤ l0.length) = true := decide_eq_true (by omega)
          clear c10
          obtain rfl := Option.some.inj H
          go_wp2
          go_ret
          exact ⟨by first | rfl | (simp; done) | (simp [*]; done), by repeat (first | exact Drawn0.refl _ | apply Drawn0.step)⟩
        · rw [if_neg c10] at H
          have c10b0 : decide (1 ≤ (l0.length : Int)) = false := decide_eq_false c10
          have c10b1 : decide (1 ≤ l0.length) = false := decide_eq_false (by omega)
          clear c10
          obtain rfl := Option.some.inj H
          go_wp2
          go_ret
          exact ⟨by first | rfl | (simp; done) | (simp [*]; done), by repeat (first | exact Drawn0.refl _ | apply Drawn0.step)⟩
end Go.Proofs.YtijmigapdcikpaaDoor.PLms
