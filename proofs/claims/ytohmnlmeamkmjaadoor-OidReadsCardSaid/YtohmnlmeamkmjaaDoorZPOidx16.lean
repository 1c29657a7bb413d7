import Derived.Test.YtohmnlmeamkmjaaDoorZPOidx0
import Derived.Test.YtohmnlmeamkmjaaDoorZPOidx5
import Derived.Test.YtohmnlmeamkmjaaDoorZPOidx6
import Derived.Test.YtohmnlmeamkmjaaDoorZPOidx8
import Derived.Test.YtohmnlmeamkmjaaDoorZPOidx9
import Derived.Test.YtohmnlmeamkmjaaDoorZPOidx11
import Derived.Test.YtohmnlmeamkmjaaDoorZPOidx13
namespace Go.Proofs.YtohmnlmeamkmjaaDoor.POid
open Go.RowKit Go.Proofs.YtohmnlmeamkmjaaDoorW.PrintWords Go.Proofs.YtohmnlmeamkmjaaDoorW.PrintLast Go.Proofs.YtohmnlmeamkmjaaDoorW.PrintMore
attribute [local go_sem] max2_int min2_int max_two min_two max_three min_three max_four min_four
set_option linter.unusedVariables false
set_option linter.unusedSimpArgs false
mutual
def pyxref09_Read.l0 : Nat → List Int → List Int → Int → Int → Option (List Int × Bool)
  | 0, _, _, _, _ => none
  | k + 1, x0, x4, x5, x6 => if x6 < (x0.length : Int) then (if 0 ≤ x6 then (if (wrap64 ((wrap64 (x5 * 128)) + (Int.tmod (wrap64 (rd x0 x6)) 128))) > 4294967375 then (some (([] : List Int), false)) else (if (rd x0 x6) ≥ 128 then (pyxref09_Read.l0 k x0 x4 (wrap64 ((wrap64 (x5 * 128)) + (Int.tmod (wrap64 (rd x0 x6)) 128))) (wrap64 (x6 + 1))) else (if (x4.length : Int) > 0 then (if x4.length < 35184372088832 then (pyxref09_Read.l0 k x0 (x4 ++ [(wrap64 ((wrap64 (x5 * 128)) + (Int.tmod (wrap64 (rd x0 x6)) 128))) % 4294967296]) 0 (wrap64 (x6 + 1))) else (none)) else (if (wrap64 ((wrap64 (x5 * 128)) + (Int.tmod (wrap64 (rd x0 x6)) 128))) < 40 then (pyxref09_Read.l0 k x0 (([0, (wrap64 ((wrap64 (x5 * 128)) + (Int.tmod (wrap64 (rd x0 x6)) 128))) % 4294967296] : List Int)) 0 (wrap64 (x6 + 1))) else (if (wrap64 ((wrap64 (x5 * 128)) + (Int.tmod (wrap64 (rd x0 x6)) 128))) < 80 then (pyxref09_Read.l0 k x0 (([1, (wrap64 ((wrap64 ((wrap64 (x5 * 128)) + (Int.tmod (wrap64 (rd x0 x6)) 128))) - 40)) % 4294967296] : List Int)) 0 (wrap64 (x6 + 1))) else (pyxref09_Read.l0 k x0 (([2, (wrap64 ((wrap64 ((wrap64 (x5 * 128)) + (Int.tmod (wrap64 (rd x0 x6)) 128))) - 80)) % 4294967296] : List Int)) 0 (wrap64 (x6 + 1)))))))) else (none)) else ((pyxref09_Content.f k x4).bind fun t235 => ((pyxref09_Valid.f k x4).bind fun t238 => (if t238 = true then (pyxref09_Read.j1 k x0 x4 t235 ((t235.length : Int) != (x0.length : Int))) else (pyxref09_Read.j1 k x0 x4 t235 true))))
def pyxref09_Read.j1 : Nat → List Int → List Int → List Int → Bool → Option (List Int × Bool)
  | 0, _, _, _, _ => none
  | k + 1, x0, x4, x7, x65 => if x65 = true then (some (([] : List Int), false)) else (pyxref09_Read.l1 k x0 x4 x7 0)
def pyxref09_Read.l1 : Nat → List Int → List Int → List Int → Int → Option (List Int × Bool)
  | 0, _, _, _, _ => none
  | k + 1, x0, x4, x7, x8 => if x8 < (x7.length : Int) then (if 0 ≤ x8 then (if x8 < (x0.length : Int) then (if (rd x7 x8) = (rd x0 x8) then (pyxref09_Read.l1 k x0 x4 x7 (wrap64 (x8 + 1))) else (some (([] : List Int), false))) else (none)) else (none)) else (some (x4, true))
end
def pyxref09_Read.f (k : Nat) (l0 : List Int) : Option (List Int × Bool) := pyxref09_Read.l0 k l0 ([] : List Int) 0 0
set_option maxHeartbeats 8000000 in
set_option maxRecDepth 100000 in
theorem pyxref09_Read.calls (k : Nat) (A0 : Option Addr) (c0 : Nat) (l0 : List Int) (r1 : List Int) (r2 : Bool) (w : World) (hr0 : Kd.C (Kd.int .u8) w A0 l0.length l0) (hc0 : l0.length ≤ c0) (h : pyxref09_Read.f k l0 = some (r1, r2)) :
    Calls Tryd.prog 25 #[.slice A0 l0.length c0] w fun e w' => ∃ v0_ : Value, e = .returned (.tuple #[v0_, .bool r2]) ∧ Kd.R (Kd.int .u32) 33 w' w.heap.size (fun _ => True) v0_ r1 ∧ Below w.heap.size w w' := by
  have HR0 := Aside0.mk hr0
  have HC0 := Aside0.mk hc0
  clear hr0 hc0
  have HB := Aside0.mk (Below.refl w.heap.size w)
  have H : (pyxref09_Read.l0 k l0 ([] : List Int) 0 0) = some (r1, r2) := h
  clear h
  have H' := Aside0.mk H
  clear H
  go_enter Tryd.func25, Tryd.ntmps25
  go_wp2
  repeat (go_quiet (fail); try go_wp2)
  go_loopg [4, 5, 6] k (fun kq v4 v5 v6 w' => ∃ (x4_1 : List Int) (x5_1 : Int) (x6_1 : Int), v5 = .int .i64 x5_1 ∧ v6 = .int .i64 x6_1 ∧ Aside0 (pyxref09_Read.l0 kq l0 x4_1 x5_1 x6_1 = some (r1, r2)) ∧ Aside0 (kq ≤ k) ∧ Aside0 (Kd.R (Kd.int .u32) 33 w' w.heap.size (fun _ => True) v4 x4_1) ∧ Aside0 (Below w.heap.size w w'))
  case atStart => exact ⟨(([] : List Int)), (0), (0), (by first | rfl | (simp; done) | (simp [*]; done)), (by first | rfl | (simp; done) | (simp [*]; done)), H', ⟨Nat.le_refl _⟩, ⟨by first | exact Kd.R_nil _ _ _ _ _ | exact Kd.N_nil _ _ _ _ _ | exact Kd.V_nil _ _ _ _ _ | exact Kd.Q_nil _ _ _ _ _ | exact Kd.S_nil _ _ _ _ _⟩, ⟨by repeat (first | (with_reducible first | exact HB.out | apply below_alloc | apply pw_below_drewN | apply below_drew1) | exact HB.out)⟩⟩
  case round =>
    clear H'
    obtain ⟨x4_1, x5_1, x6_1, rfl, rfl, HA, HK1, HO_4, HB⟩ := hrel
    cases gk with
    | zero => exact absurd HA.out (by simp [pyxref09_Read.l0])
    | succ k1 =>
      have H := HA.out
      clear HA
      simp only [pyxref09_Read.l0] at H
      by_cases c2 : x6_1 < (l0.length : Int)
      · rw [if_pos c2] at H
        have c2b0 : decide (x6_1 < (l0.length : Int)) = true := decide_eq_true c2
        clear c2
        by_cases c3 : 0 ≤ x6_1
        · rw [if_pos c3] at H
          have c3b0 : decide (0 ≤ x6_1) = true := decide_eq_true c3
          clear c3
          by_cases c4 : (wrap64 ((wrap64 (x5_1 * 128)) + (Int.tmod (wrap64 (rd l0 x6_1)) 128))) > 4294967375
          · rw [if_pos c4] at H
            have c4b0 : decide (4294967375 < (wrap64 ((wrap64 (x5_1 * 128)) + (Int.tmod (wrap64 (rd l0 x6_1)) 128)))) = true := decide_eq_true c4
            clear c4
            simp only [Option.some.injEq, Prod.mk.injEq] at H
            obtain ⟨rfl, rfl⟩ := H
            have p221 : 0 ≤ (x6_1 : Int) := of_decide_eq_true (by first | (with_reducible assumption) | assumption)
            have q221 : x6_1 < (l0.length : Int) := of_decide_eq_true (by first | (with_reducible assumption) | assumption)
            obtain ⟨ad221, e221, hx221_0⟩ := Kd.at_int HR0.out x6_1 p221 q221
            cases e221
            replace hx221_0 := (HB.out.cell (World.block_lt_of_cell? w _ hx221_0)).trans hx221_0
            replace p221 := eq_true p221
            replace q221 := eq_true q221
            go_wp2
            repeat (go_quiet (fail); try go_wp2)
            go_ret2
            exact ⟨_, by first | rfl | (simp [errW_none, errW_some] <;> rfl) | (simp [*, errW_none, errW_some] <;> rfl), by first | exact Kd.R_nil _ _ _ _ _ | exact Kd.N_nil _ _ _ _ _ | exact Kd.V_nil _ _ _ _ _ | exact Kd.Q_nil _ _ _ _ _ | exact Kd.S_nil _ _ _ _ _, by repeat (first | (with_reducible first | exact HB.out | apply below_alloc | apply pw_below_drewN | apply below_drew1) | exact HB.out)⟩
          · rw [if_neg c4] at H
            have c4b0 : decide (4294967375 < (wrap64 ((wrap64 (x5_1 * 128)) + (Int.tmod (wrap64 (rd l0 x6_1)) 128)))) = false := decide_eq_false c4
            clear c4
            by_cases c5 : (rd l0 x6_1) ≥ 128
            · rw [if_pos c5] at H
              have c5b0 : decide (128 ≤ (rd l0 x6_1)) = true := decide_eq_true c5
              clear c5
              have H' := Aside0.mk H
              clear H
              have p221 : 0 ≤ (x6_1 : Int) := of_decide_eq_true (by first | (with_reducible assumption) | assumption)
              have q221 : x6_1 < (l0.length : Int) := of_decide_eq_true (by first | (with_reducible assumption) | assumption)
              obtain ⟨ad221, e221, hx221_0⟩ := Kd.at_int HR0.out x6_1 p221 q221
              cases e221
              replace hx221_0 := (HB.out.cell (World.block_lt_of_cell? w _ hx221_0)).trans hx221_0
              replace p221 := eq_true p221
              replace q221 := eq_true q221
              have p222 : 0 ≤ (x6_1 : Int) := of_decide_eq_true (by first | (with_reducible assumption) | assumption)
              have q222 : x6_1 < (l0.length : Int) := of_decide_eq_true (by first | (with_reducible assumption) | assumption)
              obtain ⟨ad222, e222, hx222_0⟩ := Kd.at_int HR0.out x6_1 p222 q222
              obtain rfl : ad221 = ad222 := (by injection e222)
              replace hx222_0 := (HB.out.cell (World.block_lt_of_cell? w _ hx222_0)).trans hx222_0
              replace p222 := eq_true p222
              replace q222 := eq_true q222
              go_wp2
              repeat (go_quiet (fail); try go_wp2)
              go_roundg k1
              case measure => have := HK1.out; omega
              case rel => exact ⟨(x4_1), (wrap64 ((wrap64 (x5_1 * 128)) + (Int.tmod (wrap64 (rd l0 x6_1)) 128))), (wrap64 (x6_1 + 1)), (by first | rfl | (simp; done) | (simp [*]; done)), (by first | rfl | (simp; done) | (simp [*]; done)), H', ⟨by have := HK1.out; omega⟩, ⟨by (with_reducible repeat (first | apply Kd.R_alloc | apply Kd.R_drewN | apply Kd.R_drew)); exact HO_4.out⟩, ⟨by repeat (first | (with_reducible first | exact HB.out | apply below_alloc | apply pw_below_drewN | apply below_drew1) | exact HB.out)⟩⟩
            · rw [if_neg c5] at H
              have c5b0 : decide (128 ≤ (rd l0 x6_1)) = false := decide_eq_false c5
              clear c5
              by_cases c6 : (x4_1.length : Int) > 0
              · rw [if_pos c6] at H
                have c6b0 : decide (0 < (x4_1.length : Int)) = true := decide_eq_true c6
                have c6b1 : decide (0 < x4_1.length) = true := decide_eq_true (by omega)
                clear c6
                by_cases c7 : x4_1.length < 35184372088832
                · rw [if_pos c7] at H
                  have LMc7 := Aside0.mk c7
                  clear c7
                  obtain ⟨y223, hy223⟩ : ∃ y_ : List Int, y_ = (x4_1 ++ [(wrap64 ((wrap64 (x5_1 * 128)) + (Int.tmod (wrap64 (rd l0 x6_1)) 128))) % 4294967296]) := ⟨_, rfl⟩
                  replace H : (pyxref09_Read.l0 k1 l0 y223 0 (wrap64 (x6_1 + 1))) = some (r1, r2) := by first | (rw [hy223]; with_reducible exact H) | (have H2_ := (Option.bind_some _ _).symm.trans H; rw [hy223]; with_reducible exact H2_) | (have H2_ := (Option.bind_some _ _).symm.trans H; with_reducible exact H2_) | with_reducible exact H | (rw [hy223]; exact H) | exact H
                  have Ny223 := Aside0.mk hy223
                  clear hy223
                  have H' := Aside0.mk H
                  clear H
                  have p221 : 0 ≤ (x6_1 : Int) := of_decide_eq_true (by first | (with_reducible assumption) | assumption)
                  have q221 : x6_1 < (l0.length : Int) := of_decide_eq_true (by first | (with_reducible assumption) | assumption)
                  obtain ⟨ad221, e221, hx221_0⟩ := Kd.at_int HR0.out x6_1 p221 q221
                  cases e221
                  replace hx221_0 := (HB.out.cell (World.block_lt_of_cell? w _ hx221_0)).trans hx221_0
                  replace p221 := eq_true p221
                  replace q221 := eq_true q221
                  have p222 : 0 ≤ (x6_1 : Int) := of_decide_eq_true (by first | (with_reducible assumption) | assumption)
                  have q222 : x6_1 < (l0.length : Int) := of_decide_eq_true (by first | (with_reducible assumption) | assumption)
                  obtain ⟨ad222, e222, hx222_0⟩ := Kd.at_int HR0.out x6_1 p222 q222
                  obtain rfl : ad221 = ad222 := (by injection e222)
                  replace hx222_0 := (HB.out.cell (World.block_lt_of_cell? w _ hx222_0)).trans hx222_0
                  replace p222 := eq_true p222
                  replace q222 := eq_true q222
                  obtain ⟨Ao8, co8, eo8⟩ := Kd.R_slice HO_4.out
                  subst eo8
                  go_wp2_with (first | ((with_reducible refine gate_builtin (b := .append) (xs := #[.tmp 34, .tmp 37]) rfl ?_); (try (refine gate_guard (by rfl) ?_; dsimp only)); at_builtin; refine Kd.R_append (Kd.int .u32) (w0 := w) w.heap.size rfl (.tmp 34) (.tmp 37) 22 33 (.int .u32 0) 4 rfl Tryd.underlying22 info33 rfl (by decide) (by omega) (.slice Ao8 x4_1.length co8) x4_1 ((wrap64 ((wrap64 (x5_1 * 128)) + (Int.tmod (wrap64 (rd l0 x6_1)) 128))) % 4294967296) [.int .u32 ((wrap64 ((wrap64 (x5_1 * 128)) + (Int.tmod (wrap64 (rd l0 x6_1)) 128))) % 4294967296)] (fun _ => True) (fun _ => False) rfl rfl ?aP (fun _ hk => hk.elim) ?aF ?aO ?aB ?aS ?aL ?_; (case aP => exact rfl); (case aB => exact (by repeat (first | (with_reducible first | exact HB.out | apply below_alloc | apply pw_below_drewN | apply below_drew1) | exact HB.out))); (case aF => exact (fun _ _ => trivial)); (case aO => exact (by (with_reducible repeat (first | apply Kd.R_alloc | apply Kd.R_drewN | apply Kd.R_drew)); exact HO_4.out)); (case aS => exact (below_size (by repeat (first | (with_reducible first | exact HB.out | apply below_alloc | apply pw_below_drewN | apply below_drew1) | exact HB.out)))); (case aL => have := LMc7.out; omega); intro v224 w9 ho hb hg hat; rw [← Ny223.out] at ho; have n0_ := Aside0.mk (hb); have n1_ := Aside0.mk (ho); clear HB; clear HO_4; have HB := n0_; have HO225 := n1_; clear n0_ n1_; clear ho hb hg hat))
                  repeat (go_quiet (first | ((with_reducible refine gate_builtin (b := .append) (xs := #[.tmp 34, .tmp 37]) rfl ?_); (try (refine gate_guard (by rfl) ?_; dsimp only)); at_builtin; refine Kd.R_append (Kd.int .u32) (w0 := w) w.heap.size rfl (.tmp 34) (.tmp 37) 22 33 (.int .u32 0) 4 rfl Tryd.underlying22 info33 rfl (by decide) (by omega) (.slice Ao8 x4_1.length co8) x4_1 ((wrap64 ((wrap64 (x5_1 * 128)) + (Int.tmod (wrap64 (rd l0 x6_1)) 128))) % 4294967296) [.int .u32 ((wrap64 ((wrap64 (x5_1 * 128)) + (Int.tmod (wrap64 (rd l0 x6_1)) 128))) % 4294967296)] (fun _ => True) (fun _ => False) rfl rfl ?aP (fun _ hk => hk.elim) ?aF ?aO ?aB ?aS ?aL ?_; (case aP => exact rfl); (case aB => exact (by repeat (first | (with_reducible first | exact HB.out | apply below_alloc | apply pw_below_drewN | apply below_drew1) | exact HB.out))); (case aF => exact (fun _ _ => trivial)); (case aO => exact (by (with_reducible repeat (first | apply Kd.R_alloc | apply Kd.R_drewN | apply Kd.R_drew)); exact HO_4.out)); (case aS => exact (below_size (by repeat (first | (with_reducible first | exact HB.out | apply below_alloc | apply pw_below_drewN | apply below_drew1) | exact HB.out)))); (case aL => have := LMc7.out; omega); intro v224 w9 ho hb hg hat; rw [← Ny223.out] at ho; have n0_ := Aside0.mk (hb); have n1_ := Aside0.mk (ho); clear HB; clear HO_4; have HB := n0_; have HO225 := n1_; clear n0_ n1_; clear ho hb hg hat)); try go_wp2_with (first | ((with_reducible refine gate_builtin (b := .append) (xs := #[.tmp 34, .tmp 37]) rfl ?_); (try (refine gate_guard (by rfl) ?_; dsimp only)); at_builtin; refine Kd.R_append (Kd.int .u32) (w0 := w) w.heap.size rfl (.tmp 34) (.tmp 37) 22 33 (.int .u32 0) 4 rfl Tryd.underlying22 info33 rfl (by decide) (by omega) (.slice Ao8 x4_1.length co8) x4_1 ((wrap64 ((wrap64 (x5_1 * 128)) + (Int.tmod (wrap64 (rd l0 x6_1)) 128))) % 4294967296) [.int .u32 ((wrap64 ((wrap64 (x5_1 * 128)) + (Int.tmod (wrap64 (rd l0 x6_1)) 128))) % 4294967296)] (fun _ => True) (fun _ => False) rfl rfl ?aP (fun _ hk => hk.elim) ?aF ?aO ?aB ?aS ?aL ?_; (case aP => exact rfl); (case aB => exact (by repeat (first | (with_reducible first | exact HB.out | apply below_alloc | apply pw_below_drewN | apply below_drew1) | exact HB.out))); (case aF => exact (fun _ _ => trivial)); (case aO => exact (by (with_reducible repeat (first | apply Kd.R_alloc | apply Kd.R_drewN | apply Kd.R_drew)); exact HO_4.out)); (case aS => exact (below_size (by repeat (first | (with_reducible first | exact HB.out | apply below_alloc | apply pw_below_drewN | apply below_drew1) | exact HB.out)))); (case aL => have := LMc7.out; omega); intro v224 w9 ho hb hg hat; rw [← Ny223.out] at ho; have n0_ := Aside0.mk (hb); have n1_ := Aside0.mk (ho); clear HB; clear HO_4; have HB := n0_; have HO225 := n1_; clear n0_ n1_; clear ho hb hg hat)))
                  go_roundg k1
                  case measure => have := HK1.out; omega
                  case rel => exact ⟨(y223), (0), (wrap64 (x6_1 + 1)), (by first | rfl | (simp; done) | (simp [*]; done)), (by first | rfl | (simp; done) | (simp [*]; done)), H', ⟨by have := HK1.out; omega⟩, ⟨by (with_reducible repeat (first | apply Kd.R_alloc | apply Kd.R_drewN | apply Kd.R_drew)); exact HO225.out⟩, ⟨by repeat (first | (with_reducible first | exact HB.out | apply below_alloc | apply pw_below_drewN | apply below_drew1) | exact HB.out)⟩⟩
                · rw [if_neg c7] at H
                  exact absurd H (by simp)
              · rw [if_neg c6] at H
                have c6b0 : decide (0 < (x4_1.length : Int)) = false := decide_eq_false c6
                have c6b1 : decide (0 < x4_1.length) = false := decide_eq_false (by omega)
                clear c6
                by_cases c10 : (wrap64 ((wrap64 (x5_1 * 128)) + (Int.tmod (wrap64 (rd l0 x6_1)) 128))) < 40
                · rw [if_pos c10] at H
                  have c10b0 : decide ((wrap64 ((wrap64 (x5_1 * 128)) + (Int.tmod (wrap64 (rd l0 x6_1)) 128))) < 40) = true := decide_eq_true c10
                  clear c10
                  obtain ⟨y226, hy226⟩ : ∃ y_ : List Int, y_ = (([0, (wrap64 ((wrap64 (x5_1 * 128)) + (Int.tmod (wrap64 (rd l0 x6_1)) 128))) % 4294967296] : List Int)) := ⟨_, rfl⟩
                  replace H : (pyxref09_Read.l0 k1 l0 y226 0 (wrap64 (x6_1 + 1))) = some (r1, r2) := by first | (rw [hy226]; with_reducible exact H) | (have H2_ := (Option.bind_some _ _).symm.trans H; rw [hy226]; with_reducible exact H2_) | (have H2_ := (Option.bind_some _ _).symm.trans H; with_reducible exact H2_) | with_reducible exact H | (rw [hy226]; exact H) | exact H
                  have Ny226 := Aside0.mk hy226
                  clear hy226
                  have H' := Aside0.mk H
                  clear H
                  have p221 : 0 ≤ (x6_1 : Int) := of_decide_eq_true (by first | (with_reducible assumption) | assumption)
                  have q221 : x6_1 < (l0.length : Int) := of_decide_eq_true (by first | (with_reducible assumption) | assumption)
                  obtain ⟨ad221, e221, hx221_0⟩ := Kd.at_int HR0.out x6_1 p221 q221
                  cases e221
                  replace hx221_0 := (HB.out.cell (World.block_lt_of_cell? w _ hx221_0)).trans hx221_0
                  replace p221 := eq_true p221
                  replace q221 := eq_true q221
                  have p222 : 0 ≤ (x6_1 : Int) := of_decide_eq_true (by first | (with_reducible assumption) | assumption)
                  have q222 : x6_1 < (l0.length : Int) := of_decide_eq_true (by first | (with_reducible assumption) | assumption)
                  obtain ⟨ad222, e222, hx222_0⟩ := Kd.at_int HR0.out x6_1 p222 q222
                  obtain rfl : ad221 = ad222 := (by injection e222)
                  replace hx222_0 := (HB.out.cell (World.block_lt_of_cell? w _ hx222_0)).trans hx222_0
                  replace p222 := eq_true p222
                  replace q222 := eq_true q222
                  obtain ⟨Ao11, co11, eo11⟩ := Kd.R_slice HO_4.out
                  subst eo11
                  go_wp2_with (first | ((with_reducible refine gate_dst (N := 43) rfl ?_); (try (refine gate_guard (by rfl) ?_; dsimp only)); refine Kd.R_lit (Kd.int .u32) _ 33 ?hg (N := 43) ?hd (xs := ([0, (wrap64 ((wrap64 (x5_1 * 128)) + (Int.tmod (wrap64 (rd l0 x6_1)) 128))) % 4294967296] : List Int)) (inner := [.int .u32 0, .int .u32 ((wrap64 ((wrap64 (x5_1 * 128)) + (Int.tmod (wrap64 (rd l0 x6_1)) 128))) % 4294967296)]) (ok := fun _ => True) (okp := fun _ => True) ?hr ?hp (fun _ hk => hk) trivial (Below.refl _ _) (Nat.le_refl _) (by simp) ?_; (case hd => rfl); (case hg => rfl); (case hr => first | (go_simp; done) | (go_simp; rfl)); (case hp => exact (Reps.one (show Kd.M (Kd.int .u32) _ _ _ 0 [.int .u32 0] from rfl) (Reps.one (show Kd.M (Kd.int .u32) _ _ _ ((wrap64 ((wrap64 (x5_1 * 128)) + (Int.tmod (wrap64 (rd l0 x6_1)) 128))) % 4294967296) [.int .u32 ((wrap64 ((wrap64 (x5_1 * 128)) + (Int.tmod (wrap64 (rd l0 x6_1)) 128))) % 4294967296)] from rfl) (Reps.none _ _)))); intro v227 w12 ho13 hb hg_ hnew_; clear hg_ hnew_; (first | rw [← Ny226.out] at ho13 | (simp only [Int.reduceToNat] at ho13; rw [← Ny226.out] at ho13)); have n0_ := Aside0.mk (Kd.R_elder' (by (with_reducible repeat (first | apply Kd.R_alloc | apply Kd.R_drewN | apply Kd.R_drew)); exact HO_4.out) (Kd.R_base ho13) hb); have n1_ := Aside0.mk (Kd.R_lower (Kd.R_new' ho13 (Kd.R_lt (by (with_reducible repeat (first | apply Kd.R_alloc | apply Kd.R_drewN | apply Kd.R_drew)); exact HO_4.out))) (below_size (by repeat (first | (with_reducible first | exact HB.out | apply below_alloc | apply pw_below_drewN | apply below_drew1) | exact HB.out)))); have n2_ := Aside0.mk (below_step (by repeat (first | (with_reducible first | exact HB.out | apply below_alloc | apply pw_below_drewN | apply below_drew1) | exact HB.out)) hb); clear HO_4; clear HB; have HO_4 := n0_; have HO228 := n1_; have HB := n2_; clear n0_ n1_ n2_; clear hb ho13))
                  repeat (go_quiet (first | ((with_reducible refine gate_dst (N := 43) rfl ?_); (try (refine gate_guard (by rfl) ?_; dsimp only)); refine Kd.R_lit (Kd.int .u32) _ 33 ?hg (N := 43) ?hd (xs := ([0, (wrap64 ((wrap64 (x5_1 * 128)) + (Int.tmod (wrap64 (rd l0 x6_1)) 128))) % 4294967296] : List Int)) (inner := [.int .u32 0, .int .u32 ((wrap64 ((wrap64 (x5_1 * 128)) + (Int.tmod (wrap64 (rd l0 x6_1)) 128))) % 4294967296)]) (ok := fun _ => True) (okp := fun _ => True) ?hr ?hp (fun _ hk => hk) trivial (Below.refl _ _) (Nat.le_refl _) (by simp) ?_; (case hd => rfl); (case hg => rfl); (case hr => first | (go_simp; done) | (go_simp; rfl)); (case hp => exact (Reps.one (show Kd.M (Kd.int .u32) _ _ _ 0 [.int .u32 0] from rfl) (Reps.one (show Kd.M (Kd.int .u32) _ _ _ ((wrap64 ((wrap64 (x5_1 * 128)) + (Int.tmod (wrap64 (rd l0 x6_1)) 128))) % 4294967296) [.int .u32 ((wrap64 ((wrap64 (x5_1 * 128)) + (Int.tmod (wrap64 (rd l0 x6_1)) 128))) % 4294967296)] from rfl) (Reps.none _ _)))); intro v227 w12 ho13 hb hg_ hnew_; clear hg_ hnew_; (first | rw [← Ny226.out] at ho13 | (simp only [Int.reduceToNat] at ho13; rw [← Ny226.out] at ho13)); have n0_ := Aside0.mk (Kd.R_elder' (by (with_reducible repeat (first | apply Kd.R_alloc | apply Kd.R_drewN | apply Kd.R_drew)); exact HO_4.out) (Kd.R_base ho13) hb); have n1_ := Aside0.mk (Kd.R_lower (Kd.R_new' ho13 (Kd.R_lt (by (with_reducible repeat (first | apply Kd.R_alloc | apply Kd.R_drewN | apply Kd.R_drew)); exact HO_4.out))) (below_size (by repeat (first | (with_reducible first | exact HB.out | apply below_alloc | apply pw_below_drewN | apply below_drew1) | exact HB.out)))); have n2_ := Aside0.mk (below_step (by repeat (first | (with_reducible first | exact HB.out | apply below_alloc | apply pw_below_drewN | apply below_drew1) | exact HB.out)) hb); clear HO_4; clear HB; have HO_4 := n0_; have HO228 := n1_; have HB := n2_; clear n0_ n1_ n2_; clear hb ho13)); try go_wp2_with (first | ((with_reducible refine gate_dst (N := 43) rfl ?_); (try (refine gate_guard (by rfl) ?_; dsimp only)); refine Kd.R_lit (Kd.int .u32) _ 33 ?hg (N := 43) ?hd (xs := ([0, (wrap64 ((wrap64 (x5_1 * 128)) + (Int.tmod (wrap64 (rd l0 x6_1)) 128))) % 4294967296] : List Int)) (inner := [.int .u32 0, .int .u32 ((wrap64 ((wrap64 (x5_1 * 128)) + (Int.tmod (wrap64 (rd l0 x6_1)) 128))) % 4294967296)]) (ok := fun _ => True) (okp := fun _ => True) ?hr ?hp (fun _ hk => hk) trivial (Below.refl _ _) (Nat.le_refl _) (by simp) ?_; (case hd => rfl); (case hg => rfl); (case hr => first | (go_simp; done) | (go_simp; rfl)); (case hp => exact (Reps.one (show Kd.M (Kd.int .u32) _ _ _ 0 [.int .u32 0] from rfl) (Reps.one (show Kd.M (Kd.int .u32) _ _ _ ((wrap64 ((wrap64 (x5_1 * 128)) + (Int.tmod (wrap64 (rd l0 x6_1)) 128))) % 4294967296) [.int .u32 ((wrap64 ((wrap64 (x5_1 * 128)) + (Int.tmod (wrap64 (rd l0 x6_1)) 128))) % 4294967296)] from rfl) (Reps.none _ _)))); intro v227 w12 ho13 hb hg_ hnew_; clear hg_ hnew_; (first | rw [← Ny226.out] at ho13 | (simp only [Int.reduceToNat] at ho13; rw [← Ny226.out] at ho13)); have n0_ := Aside0.mk (Kd.R_elder' (by (with_reducible repeat (first | apply Kd.R_alloc | apply Kd.R_drewN | apply Kd.R_drew)); exact HO_4.out) (Kd.R_base ho13) hb); have n1_ := Aside0.mk (Kd.R_lower (Kd.R_new' ho13 (Kd.R_lt (by (with_reducible repeat (first | apply Kd.R_alloc | apply Kd.R_drewN | apply Kd.R_drew)); exact HO_4.out))) (below_size (by repeat (first | (with_reducible first | exact HB.out | apply below_alloc | apply pw_below_drewN | apply below_drew1) | exact HB.out)))); have n2_ := Aside0.mk (below_step (by repeat (first | (with_reducible first | exact HB.out | apply below_alloc | apply pw_below_drewN | apply below_drew1) | exact HB.out)) hb); clear HO_4; clear HB; have HO_4 := n0_; have HO228 := n1_; have HB := n2_; clear n0_ n1_ n2_; clear hb ho13)))
                  go_roundg k1
                  case measure => have := HK1.out; omega
                  case rel => exact ⟨(y226), (0), (wrap64 (x6_1 + 1)), (by first | rfl | (simp; done) | (simp [*]; done)), (by first | rfl | (simp; done) | (simp [*]; done)), H', ⟨by have := HK1.out; omega⟩, ⟨by (with_reducible repeat (first | apply Kd.R_alloc | apply Kd.R_drewN | apply Kd.R_drew)); exact Kd.R_mono HO228.out (fun _ hk => trivial)⟩, ⟨by repeat (first | (with_reducible first | exact HB.out | apply below_alloc | apply pw_below_drewN | apply below_drew1) | exact HB.out)⟩⟩
                · rw [if_neg c10] at H
                  have c10b0 : decide ((wrap64 ((wrap64 (x5_1 * 128)) + (Int.tmod (wrap64 (rd l0 x6_1)) 128))) < 40) = false := decide_eq_false c10
                  clear c10
                  by_cases c14 : (wrap64 ((wrap64 (x5_1 * 128)) + (Int.tmod (wrap64 (rd l0 x6_1)) 128))) < 80
                  · rw [if_pos c14] at H
                    have c14b0 : decide ((wrap64 ((wrap64 (x5_1 * 128)) + (Int.tmod (wrap64 (rd l0 x6_1)) 128))) < 80) = true := decide_eq_true c14
                    clear c14
                    obtain ⟨y229, hy229⟩ : ∃ y_ : List Int, y_ = (([1, (wrap64 ((wrap64 ((wrap64 (x5_1 * 128)) + (Int.tmod (wrap64 (rd l0 x6_1)) 128))) - 40)) % 4294967296] : List Int)) := ⟨_, rfl⟩
                    replace H : (pyxref09_Read.l0 k1 l0 y229 0 (wrap64 (x6_1 + 1))) = some (r1, r2) := by first | (rw [hy229]; with_reducible exact H) | (have H2_ := (Option.bind_some _ _).symm.trans H; rw [hy229]; with_reducible exact H2_) | (have H2_ := (Option.bind_some _ _).symm.trans H; with_reducible exact H2_) | with_reducible exact H | (rw [hy229]; exact H) | exact H
                    have Ny229 := Aside0.mk hy229
                    clear hy229
                    have H' := Aside0.mk H
                    clear H
                    have p221 : 0 ≤ (x6_1 : Int) := of_decide_eq_true (by first | (with_reducible assumption) | assumption)
                    have q221 : x6_1 < (l0.length : Int) := of_decide_eq_true (by first | (with_reducible assumption) | assumption)
                    obtain ⟨ad221, e221, hx221_0⟩ := Kd.at_int HR0.out x6_1 p221 q221
                    cases e221
                    replace hx221_0 := (HB.out.cell (World.block_lt_of_cell? w _ hx221_0)).trans hx221_0
                    replace p221 := eq_true p221
                    replace q221 := eq_true q221
                    have p222 : 0 ≤ (x6_1 : Int) := of_decide_eq_true (by first | (with_reducible assumption) | assumption)
                    have q222 : x6_1 < (l0.length : Int) := of_decide_eq_true (by first | (with_reducible assumption) | assumption)
                    obtain ⟨ad222, e222, hx222_0⟩ := Kd.at_int HR0.out x6_1 p222 q222
                    obtain rfl : ad221 = ad222 := (by injection e222)
                    replace hx222_0 := (HB.out.cell (World.block_lt_of_cell? w _ hx222_0)).trans hx222_0
                    replace p222 := eq_true p222
                    replace q222 := eq_true q222
                    obtain ⟨Ao15, co15, eo15⟩ := Kd.R_slice HO_4.out
                    subst eo15
                    go_wp2_with (first | ((with_reducible refine gate_dst (N := 49) rfl ?_); (try (refine gate_guard (by rfl) ?_; dsimp only)); refine Kd.R_lit (Kd.int .u32) _ 33 ?hg (N := 49) ?hd (xs := ([1, (wrap64 ((wrap64 ((wrap64 (x5_1 * 128)) + (Int.tmod (wrap64 (rd l0 x6_1)) 128))) - 40)) % 4294967296] : List Int)) (inner := [.int .u32 1, .int .u32 ((wrap64 ((wrap64 ((wrap64 (x5_1 * 128)) + (Int.tmod (wrap64 (rd l0 x6_1)) 128))) - 40)) % 4294967296)]) (ok := fun _ => True) (okp := fun _ => True) ?hr ?hp (fun _ hk => hk) trivial (Below.refl _ _) (Nat.le_refl _) (by simp) ?_; (case hd => rfl); (case hg => rfl); (case hr => first | (go_simp; done) | (go_simp; rfl)); (case hp => exact (Reps.one (show Kd.M (Kd.int .u32) _ _ _ 1 [.int .u32 1] from rfl) (Reps.one (show Kd.M (Kd.int .u32) _ _ _ ((wrap64 ((wrap64 ((wrap64 (x5_1 * 128)) + (Int.tmod (wrap64 (rd l0 x6_1)) 128))) - 40)) % 4294967296) [.int .u32 ((wrap64 ((wrap64 ((wrap64 (x5_1 * 128)) + (Int.tmod (wrap64 (rd l0 x6_1)) 128))) - 40)) % 4294967296)] from rfl) (Reps.none _ _)))); intro v230 w16 ho17 hb hg_ hnew_; clear hg_ hnew_; (first | rw [← Ny229.out] at ho17 | (simp only [Int.reduceToNat] at ho17; rw [← Ny229.out] at ho17)); have n0_ := Aside0.mk (Kd.R_elder' (by (with_reducible repeat (first | apply Kd.R_alloc | apply Kd.R_drewN | apply Kd.R_drew)); exact HO_4.out) (Kd.R_base ho17) hb); have n1_ := Aside0.mk (Kd.R_lower (Kd.R_new' ho17 (Kd.R_lt (by (with_reducible repeat (first | apply Kd.R_alloc | apply Kd.R_drewN | apply Kd.R_drew)); exact HO_4.out))) (below_size (by repeat (first | (with_reducible first | exact HB.out | apply below_alloc | apply pw_below_drewN | apply below_drew1) | exact HB.out)))); have n2_ := Aside0.mk (below_step (by repeat (first | (with_reducible first | exact HB.out | apply below_alloc | apply pw_below_drewN | apply below_drew1) | exact HB.out)) hb); clear HO_4; clear HB; have HO_4 := n0_; have HO231 := n1_; have HB := n2_; clear n0_ n1_ n2_; clear hb ho17))
                    repeat (go_quiet (first | ((with_reducible refine gate_dst (N := 49) rfl ?_); (try (refine gate_guard (by rfl) ?_; dsimp only)); refine Kd.R_lit (Kd.int .u32) _ 33 ?hg (N := 49) ?hd (xs := ([1, (wrap64 ((wrap64 ((wrap64 (x5_1 * 128)) + (Int.tmod (wrap64 (rd l0 x6_1)) 128))) - 40)) % 4294967296] : List Int)) (inner := [.int .u32 1, .int .u32 ((wrap64 ((wrap64 ((wrap64 (x5_1 * 128)) + (Int.tmod (wrap64 (rd l0 x6_1)) 128))) - 40)) % 4294967296)]) (ok := fun _ => True) (okp := fun _ => True) ?hr ?hp (fun _ hk => hk) trivial (Below.refl _ _) (Nat.le_refl _) (by simp) ?_; (case hd => rfl); (case hg => rfl); (case hr => first | (go_simp; done) | (go_simp; rfl)); (case hp => exact (Reps.one (show Kd.M (Kd.int .u32) _ _ _ 1 [.int .u32 1] from rfl) (Reps.one (show Kd.M (Kd.int .u32) _ _ _ ((wrap64 ((wrap64 ((wrap64 (x5_1 * 128)) + (Int.tmod (wrap64 (rd l0 x6_1)) 128))) - 40)) % 4294967296) [.int .u32 ((wrap64 ((wrap64 ((wrap64 (x5_1 * 128)) + (Int.tmod (wrap64 (rd l0 x6_1)) 128))) - 40)) % 4294967296)] from rfl) (Reps.none _ _)))); intro v230 w16 ho17 hb hg_ hnew_; clear hg_ hnew_; (first | rw [← Ny229.out] at ho17 | (simp only [Int.reduceToNat] at ho17; rw [← Ny229.out] at ho17)); have n0_ := Aside0.mk (Kd.R_elder' (by (with_reducible repeat (first | apply Kd.R_alloc | apply Kd.R_drewN | apply Kd.R_drew)); exact HO_4.out) (Kd.R_base ho17) hb); have n1_ := Aside0.mk (Kd.R_lower (Kd.R_new' ho17 (Kd.R_lt (by (with_reducible repeat (first | apply Kd.R_alloc | apply Kd.R_drewN | apply Kd.R_drew)); exact HO_4.out))) (below_size (by repeat (first | (with_reducible first | exact HB.out | apply below_alloc | apply pw_below_drewN | apply below_drew1) | exact HB.out)))); have n2_ := Aside0.mk (below_step (by repeat (first | (with_reducible first | exact HB.out | apply below_alloc | apply pw_below_drewN | apply below_drew1) | exact HB.out)) hb); clear HO_4; clear HB; have HO_4 := n0_; have HO231 := n1_; have HB := n2_; clear n0_ n1_ n2_; clear hb ho17)); try go_wp2_with (first | ((with_reducible refine gate_dst (N := 49) rfl ?_); (try (refine gate_guard (by rfl) ?_; dsimp only)); refine Kd.R_lit (Kd.int .u32) _ 33 ?hg (N := 49) ?hd (xs := ([1, (wrap64 ((wrap64 ((wrap64 (x5_1 * 128)) + (Int.tmod (wrap64 (rd l0 x6_1)) 128))) - 40)) % 4294967296] : List Int)) (inner := [.int .u32 1, .int .u32 ((wrap64 ((wrap64 ((wrap64 (x5_1 * 128)) + (Int.tmod (wrap64 (rd l0 x6_1)) 128))) - 40)) % 4294967296)]) (ok := fun _ => True) (okp := fun _ => True) ?hr ?hp (fun _ hk => hk) trivial (Below.refl _ _) (Nat.le_refl _) (by simp) ?_; (case hd => rfl); (case hg => rfl); (case hr => first | (go_simp; done) | (go_simp; rfl)); (case hp => exact (Reps.one (show Kd.M (Kd.int .u32) _ _ _ 1 [.int .u32 1] from rfl) (Reps.one (show Kd.M (Kd.int .u32) _ _ _ ((wrap64 ((wrap64 ((wrap64 (x5_1 * 128)) + (Int.tmod (wrap64 (rd l0 x6_1)) 128))) - 40)) % 4294967296) [.int .u32 ((wrap64 ((wrap64 ((wrap64 (x5_1 * 128)) + (Int.tmod (wrap64 (rd l0 x6_1)) 128))) - 40)) % 4294967296)] from rfl) (Reps.none _ _)))); intro v230 w16 ho17 hb hg_ hnew_; clear hg_ hnew_; (first | rw [← Ny229.out] at ho17 | (simp only [Int.reduceToNat] at ho17; rw [← Ny229.out] at ho17)); have n0_ := Aside0.mk (Kd.R_elder' (by (with_reducible repeat (first | apply Kd.R_alloc | apply Kd.R_drewN | apply Kd.R_drew)); exact HO_4.out) (Kd.R_base ho17) hb); have n1_ := Aside0.mk (Kd.R_lower (Kd.R_new' ho17 (Kd.R_lt (by (with_reducible repeat (first | apply Kd.R_alloc | apply Kd.R_drewN | apply Kd.R_drew)); exact HO_4.out))) (below_size (by repeat (first | (with_reducible first | exact HB.out | apply below_alloc | apply pw_below_drewN | apply below_drew1) | exact HB.out)))); have n2_ := Aside0.mk (below_step (by repeat (first | (with_reducible first | exact HB.out | apply below_alloc | apply pw_below_drewN | apply below_drew1) | exact HB.out)) hb); clear HO_4; clear HB; have HO_4 := n0_; have HO231 := n1_; have HB := n2_; clear n0_ n1_ n2_; clear hb ho17)))
                    go_roundg k1
                    case measure => have := HK1.out; omega
                    case rel => exact ⟨(y229), (0), (wrap64 (x6_1 + 1)), (by first | rfl | (simp; done) | (simp [*]; done)), (by first | rfl | (simp; done) | (simp [*]; done)), H', ⟨by have := HK1.out; omega⟩, ⟨by (with_reducible repeat (first | apply Kd.R_alloc | apply Kd.R_drewN | apply Kd.R_drew)); exact Kd.R_mono HO231.out (fun _ hk => trivial)⟩, ⟨by repeat (first | (with_reducible first | exact HB.out | apply below_alloc | apply pw_below_drewN | apply below_drew1) | exact HB.out)⟩⟩
                  · rw [if_neg c14] at H
                    have c14b0 : decide ((wrap64 ((wrap64 (x5_1 * 128)) + (Int.tmod (wrap64 (rd l0 x6_1)) 128))) < 80) = false := decide_eq_false c14
                    clear c14
                    obtain ⟨y232, hy232⟩ : ∃ y_ : List Int, y_ = (([2, (wrap64 ((wrap64 ((wrap64 (x5_1 * 128)) + (Int.tmod (wrap64 (rd l0 x6_1)) 128))) - 80)) % 4294967296] : List Int)) := ⟨_, rfl⟩
                    replace H : (pyxref09_Read.l0 k1 l0 y232 0 (wrap64 (x6_1 + 1))) = some (r1, r2) := by first | (rw [hy232]; with_reducible exact H) | (have H2_ := (Option.bind_some _ _).symm.trans H; rw [hy232]; with_reducible exact H2_) | (have H2_ := (Option.bind_some _ _).symm.trans H; with_reducible exact H2_) | with_reducible exact H | (rw [hy232]; exact H) | exact H
                    have Ny232 := Aside0.mk hy232
                    clear hy232
                    have H' := Aside0.mk H
                    clear H
                    have p221 : 0 ≤ (x6_1 : Int) := of_decide_eq_true (by first | (with_reducible assumption) | assumption)
                    have q221 : x6_1 < (l0.length : Int) := of_decide_eq_true (by first | (with_reducible assumption) | assumption)
                    obtain ⟨ad221, e221, hx221_0⟩ := Kd.at_int HR0.out x6_1 p221 q221
                    cases e221
                    replace hx221_0 := (HB.out.cell (World.block_lt_of_cell? w _ hx221_0)).trans hx221_0
                    replace p221 := eq_true p221
                    replace q221 := eq_true q221
                    have p222 : 0 ≤ (x6_1 : Int) := of_decide_eq_true (by first | (with_reducible assumption) | assumption)
                    have q222 : x6_1 < (l0.length : Int) := of_decide_eq_true (by first | (with_reducible assumption) | assumption)
                    obtain ⟨ad222, e222, hx222_0⟩ := Kd.at_int HR0.out x6_1 p222 q222
                    obtain rfl : ad221 = ad222 := (by injection e222)
                    replace hx222_0 := (HB.out.cell (World.block_lt_of_cell? w _ hx222_0)).trans hx222_0
                    replace p222 := eq_true p222
                    replace q222 := eq_true q222
                    obtain ⟨Ao18, co18, eo18⟩ := Kd.R_slice HO_4.out
                    subst eo18
                    go_wp2_with (first | ((with_reducible refine gate_dst (N := 53) rfl ?_); (try (refine gate_guard (by rfl) ?_; dsimp only)); refine Kd.R_lit (Kd.int .u32) _ 33 ?hg (N := 53) ?hd (xs := ([2, (wrap64 ((wrap64 ((wrap64 (x5_1 * 128)) + (Int.tmod (wrap64 (rd l0 x6_1)) 128))) - 80)) % 4294967296] : List Int)) (inner := [.int .u32 2, .int .u32 ((wrap64 ((wrap64 ((wrap64 (x5_1 * 128)) + (Int.tmod (wrap64 (rd l0 x6_1)) 128))) - 80)) % 4294967296)]) (ok := fun _ => True) (okp := fun _ => True) ?hr ?hp (fun _ hk => hk) trivial (Below.refl _ _) (Nat.le_refl _) (by simp) ?_; (case hd => rfl); (case hg => rfl); (case hr => first | (go_simp; done) | (go_simp; rfl)); (case hp => exact (Reps.one (show Kd.M (Kd.int .u32) _ _ _ 2 [.int .u32 2] from rfl) (Reps.one (show Kd.M (Kd.int .u32) _ _ _ ((wrap64 ((wrap64 ((wrap64 (x5_1 * 128)) + (Int.tmod (wrap64 (rd l0 x6_1)) 128))) - 80)) % 4294967296) [.int .u32 ((wrap64 ((wrap64 ((wrap64 (x5_1 * 128)) + (Int.tmod (wrap64 (rd l0 x6_1)) 128))) - 80)) % 4294967296)] from rfl) (Reps.none _ _)))); intro v233 w19 ho20 hb hg_ hnew_; clear hg_ hnew_; (first | rw [← Ny232.out] at ho20 | (simp only [Int.reduceToNat] at ho20; rw [← Ny232.out] at ho20)); have n0_ := Aside0.mk (Kd.R_elder' (by (with_reducible repeat (first | apply Kd.R_alloc | apply Kd.R_drewN | apply Kd.R_drew)); exact HO_4.out) (Kd.R_base ho20) hb); have n1_ := Aside0.mk (Kd.R_lower (Kd.R_new' ho20 (Kd.R_lt (by (with_reducible repeat (first | apply Kd.R_alloc | apply Kd.R_drewN | apply Kd.R_drew)); exact HO_4.out))) (below_size (by repeat (first | (with_reducible first | exact HB.out | apply below_alloc | apply pw_below_drewN | apply below_drew1) | exact HB.out)))); have n2_ := Aside0.mk (below_step (by repeat (first | (with_reducible first | exact HB.out | apply below_alloc | apply pw_below_drewN | apply below_drew1) | exact HB.out)) hb); clear HO_4; clear HB; have HO_4 := n0_; have HO234 := n1_; have HB := n2_; clear n0_ n1_ n2_; clear hb ho20))
                    repeat (go_quiet (first | ((with_reducible refine gate_dst (N := 53) rfl ?_); (try (refine gate_guard (by rfl) ?_; dsimp only)); refine Kd.R_lit (Kd.int .u32) _ 33 ?hg (N := 53) ?hd (xs := ([2, (wrap64 ((wrap64 ((wrap64 (x5_1 * 128)) + (Int.tmod (wrap64 (rd l0 x6_1)) 128))) - 80)) % 4294967296] : List Int)) (inner := [.int .u32 2, .int .u32 ((wrap64 ((wrap64 ((wrap64 (x5_1 * 128)) + (Int.tmod (wrap64 (rd l0 x6_1)) 128))) - 80)) % 4294967296)]) (ok := fun _ => True) (okp := fun _ => True) ?hr ?hp (fun _ hk => hk) trivial (Below.refl _ _) (Nat.le_refl _) (by simp) ?_; (case hd => rfl); (case hg => rfl); (case hr => first | (go_simp; done) | (go_simp; rfl)); (case hp => exact (Reps.one (show Kd.M (Kd.int .u32) _ _ _ 2 [.int .u32 2] from rfl) (Reps.one (show Kd.M (Kd.int .u32) _ _ _ ((wrap64 ((wrap64 ((wrap64 (x5_1 * 128)) + (Int.tmod (wrap64 (rd l0 x6_1)) 128))) - 80)) % 4294967296) [.int .u32 ((wrap64 ((wrap64 ((wrap64 (x5_1 * 128)) + (Int.tmod (wrap64 (rd l0 x6_1)) 128))) - 80)) % 4294967296)] from rfl) (Reps.none _ _)))); intro v233 w19 ho20 hb hg_ hnew_; clear hg_ hnew_; (first | rw [← Ny232.out] at ho20 | (simp only [Int.reduceToNat] at ho20; rw [← Ny232.out] at ho20)); have n0_ := Aside0.mk (Kd.R_elder' (by (with_reducible repeat (first | apply Kd.R_alloc | apply Kd.R_drewN | apply Kd.R_drew)); exact HO_4.out) (Kd.R_base ho20) hb); have n1_ := Aside0.mk (Kd.R_lower (Kd.R_new' ho20 (Kd.R_lt (by (with_reducible repeat (first | apply Kd.R_alloc | apply Kd.R_drewN | apply Kd.R_drew)); exact HO_4.out))) (below_size (by repeat (first | (with_reducible first | exact HB.out | apply below_alloc | apply pw_below_drewN | apply below_drew1) | exact HB.out)))); have n2_ := Aside0.mk (below_step (by repeat (first | (with_reducible first | exact HB.out | apply below_alloc | apply pw_below_drewN | apply below_drew1) | exact HB.out)) hb); clear HO_4; clear HB; have HO_4 := n0_; have HO234 := n1_; have HB := n2_; clear n0_ n1_ n2_; clear hb ho20)); try go_wp2_with (first | ((with_reducible refine gate_dst (N := 53) rfl ?_); (try (refine gate_guard (by rfl) ?_; dsimp only)); refine Kd.R_lit (Kd.int .u32) _ 33 ?hg (N := 53) ?hd (xs := ([2, (wrap64 ((wrap64 ((wrap64 (x5_1 * 128)) + (Int.tmod (wrap64 (rd l0 x6_1)) 128))) - 80)) % 4294967296] : List Int)) (inner := [.int .u32 2, .int .u32 ((wrap64 ((wrap64 ((wrap64 (x5_1 * 128)) + (Int.tmod (wrap64 (rd l0 x6_1)) 128))) - 80)) % 4294967296)]) (ok := fun _ => True) (okp := fun _ => True) ?hr ?hp (fun _ hk => hk) trivial (Below.refl _ _) (Nat.le_refl _) (by simp) ?_; (case hd => rfl); (case hg => rfl); (case hr => first | (go_simp; done) | (go_simp; rfl)); (case hp => exact (Reps.one (show Kd.M (Kd.int .u32) _ _ _ 2 [.int .u32 2] from rfl) (Reps.one (show Kd.M (Kd.int .u32) _ _ _ ((wrap64 ((wrap64 ((wrap64 (x5_1 * 128)) + (Int.tmod (wrap64 (rd l0 x6_1)) 128))) - 80)) % 4294967296) [.int .u32 ((wrap64 ((wrap64 ((wrap64 (x5_1 * 128)) + (Int.tmod (wrap64 (rd l0 x6_1)) 128))) - 80)) % 4294967296)] from rfl) (Reps.none _ _)))); intro v233 w19 ho20 hb hg_ hnew_; clear hg_ hnew_; (first | rw [← Ny232.out] at ho20 | (simp only [Int.reduceToNat] at ho20; rw [← Ny232.out] at ho20)); have n0_ := Aside0.mk (Kd.R_elder' (by (with_reducible repeat (first | apply Kd.R_alloc | apply Kd.R_drewN | apply Kd.R_drew)); exact HO_4.out) (Kd.R_base ho20) hb); have n1_ := Aside0.mk (Kd.R_lower (Kd.R_new' ho20 (Kd.R_lt (by (with_reducible repeat (first | apply Kd.R_alloc | apply Kd.R_drewN | apply Kd.R_drew)); exact HO_4.out))) (below_size (by repeat (first | (with_reducible first | exact HB.out | apply below_alloc | apply pw_below_drewN | apply below_drew1) | exact HB.out)))); have n2_ := Aside0.mk (below_step (by repeat (first | (with_reducible first | exact HB.out | apply below_alloc | apply pw_below_drewN | apply below_drew1) | exact HB.out)) hb); clear HO_4; clear HB; have HO_4 := n0_; have HO234 := n1_; have HB := n2_; clear n0_ n1_ n2_; clear hb ho20)))
                    go_roundg k1
                    case measure => have := HK1.out; omega
                    case rel => exact ⟨(y232), (0), (wrap64 (x6_1 + 1)), (by first | rfl | (simp; done) | (simp [*]; done)), (by first | rfl | (simp; done) | (simp [*]; done)), H', ⟨by have := HK1.out; omega⟩, ⟨by (with_reducible repeat (first | apply Kd.R_alloc | apply Kd.R_drewN | apply Kd.R_drew)); exact Kd.R_mono HO234.out (fun _ hk => trivial)⟩, ⟨by repeat (first | (with_reducible first | exact HB.out | apply below_alloc | apply pw_below_drewN | apply below_drew1) | exact HB.out)⟩⟩
        · rw [if_neg c3] at H
          exact absurd H (by simp)
      · rw [if_neg c2] at H
        have c2b0 : decide (x6_1 < (l0.length : Int)) = false := decide_eq_false c2
        clear c2
        replace H := Option.bind_eq_some_iff.mp H
        obtain ⟨t235, A210, H⟩ := H
        replace H : ((pyxref09_Valid.f k1 x4_1).bind fun t238 => (if t238 = true then (pyxref09_Read.j1 k1 l0 x4_1 t235 ((t235.length : Int) != (l0.length : Int))) else (pyxref09_Read.j1 k1 l0 x4_1 t235 true))) = some (r1, r2) := H
        have A21 := Aside0.mk A210
        clear A210
        have HC22 := Aside0.mk H
        clear H
        obtain ⟨Ao23, co23, eo23⟩ := Kd.R_slice HO_4.out
        subst eo23
        go_upto_region 19 with (first | (go_at_call 20; (with_reducible refine (pyxref09_Content.calls k1 _ _ x4_1 t235 _ ?side1 ?side2 A21.out).mono ?_); (case side1 => repeat (first | exact (Kd.R_reads' HO_4.out).2.2 | (with_reducible refine Kd.C_alloc ?_ _) | (with_reducible refine Kd.C_drewN ?_ _) | (with_reducible refine Kd.C_drew ?_))); (case side2 => exact (Kd.R_reads' HO_4.out).2.1); rintro e w24 ⟨v236, rfl, ho0, hb⟩; have n0_ := Aside0.mk (Kd.R_below (by (with_reducible repeat (first | apply Kd.R_alloc | apply Kd.R_drewN | apply Kd.R_drew)); exact HO_4.out) hb); have n1_ := Aside0.mk (Kd.R_lower ho0 (below_size (by repeat (first | (with_reducible first | exact HB.out | apply below_alloc | apply pw_below_drewN | apply below_drew1) | exact HB.out)))); have n2_ := Aside0.mk (below_step (by repeat (first | (with_reducible first | exact HB.out | apply below_alloc | apply pw_below_drewN | apply below_drew1) | exact HB.out)) hb); clear HO_4; clear HB; have HO_4 := n0_; have HO237 := n1_; have HB := n2_; clear n0_ n1_ n2_; (try clear hb); (try clear hb2); (try clear hk); (try clear hi); (try clear ho0)))
        repeat (go_quiet (first | (go_at_call 20; (with_reducible refine (pyxref09_Content.calls k1 _ _ x4_1 t235 _ ?side1 ?side2 A21.out).mono ?_); (case side1 => repeat (first | exact (Kd.R_reads' HO_4.out).2.2 | (with_reducible refine Kd.C_alloc ?_ _) | (with_reducible refine Kd.C_drewN ?_ _) | (with_reducible refine Kd.C_drew ?_))); (case side2 => exact (Kd.R_reads' HO_4.out).2.1); rintro e w24 ⟨v236, rfl, ho0, hb⟩; have n0_ := Aside0.mk (Kd.R_below (by (with_reducible repeat (first | apply Kd.R_alloc | apply Kd.R_drewN | apply Kd.R_drew)); exact HO_4.out) hb); have n1_ := Aside0.mk (Kd.R_lower ho0 (below_size (by repeat (first | (with_reducible first | exact HB.out | apply below_alloc | apply pw_below_drewN | apply below_drew1) | exact HB.out)))); have n2_ := Aside0.mk (below_step (by repeat (first | (with_reducible first | exact HB.out | apply below_alloc | apply pw_below_drewN | apply below_drew1) | exact HB.out)) hb); clear HO_4; clear HB; have HO_4 := n0_; have HO237 := n1_; have HB := n2_; clear n0_ n1_ n2_; (try clear hb); (try clear hb2); (try clear hk); (try clear hi); (try clear ho0))); go_upto_region 19 with (first | (go_at_call 20; (with_reducible refine (pyxref09_Content.calls k1 _ _ x4_1 t235 _ ?side1 ?side2 A21.out).mono ?_); (case side1 => repeat (first | exact (Kd.R_reads' HO_4.out).2.2 | (with_reducible refine Kd.C_alloc ?_ _) | (with_reducible refine Kd.C_drewN ?_ _) | (with_reducible refine Kd.C_drew ?_))); (case side2 => exact (Kd.R_reads' HO_4.out).2.1); rintro e w24 ⟨v236, rfl, ho0, hb⟩; have n0_ := Aside0.mk (Kd.R_below (by (with_reducible repeat (first | apply Kd.R_alloc | apply Kd.R_drewN | apply Kd.R_drew)); exact HO_4.out) hb); have n1_ := Aside0.mk (Kd.R_lower ho0 (below_size (by repeat (first | (with_reducible first | exact HB.out | apply below_alloc | apply pw_below_drewN | apply below_drew1) | exact HB.out)))); have n2_ := Aside0.mk (below_step (by repeat (first | (with_reducible first | exact HB.out | apply below_alloc | apply pw_below_drewN | apply below_drew1) | exact HB.out)) hb); clear HO_4; clear HB; have HO_4 := n0_; have HO237 := n1_; have HB := n2_; clear n0_ n1_ n2_; (try clear hb); (try clear hb2); (try clear hk); (try clear hi); (try clear ho0))))
        (try simp only [Act.put, List.setIfInBounds_toArray, List.set_cons_zero, List.set_cons_succ])
        go_cut [65] (fun v65 wc => ∃ (kq : Nat) (x65_21 : Bool), v65 = .bool x65_21 ∧ Aside0 (pyxref09_Read.j1 kq l0 x4_1 t235 x65_21 = some (r1, r2)) ∧ Aside0 (kq ≤ k1) ∧ Aside0 (Kd.R (Kd.int .u32) 33 wc w.heap.size (fun _ => True) (.slice Ao23 x4_1.length co23) x4_1) ∧ Aside0 (Kd.R (Kd.int .u8) 5 wc w.heap.size (fun _ => True) v236 t235) ∧ Aside0 (Below w.heap.size w wc))
        case first =>
          have H := HC22.out
          clear HC22
          replace H := Option.bind_eq_some_iff.mp H
          obtain ⟨t238, A250, H⟩ := H
          replace H : (if t238 = true then (pyxref09_Read.j1 k1 l0 x4_1 t235 ((t235.length : Int) != (l0.length : Int))) else (pyxref09_Read.j1 k1 l0 x4_1 t235 true)) = some (r1, r2) := H
          have A25 := Aside0.mk A250
          clear A250
          by_cases c26 : t238 = true
          · subst c26
            have H1 : (pyxref09_Read.j1 k1 l0 x4_1 t235 ((t235.length : Int) != (l0.length : Int))) = some (r1, r2) := by rw [if_pos rfl] at H; exact H
            clear H
            have H := H1
            clear H1
            have H' := Aside0.mk H
            clear H
            go_wp2_with (first | (go_at_call 17; (with_reducible refine (pyxref09_Valid.calls k1 _ _ x4_1 true _ ?side1 ?side2 A25.out).mono ?_); (case side1 => repeat (first | exact (Kd.R_reads' HO_4.out).2.2 | (with_reducible refine Kd.C_alloc ?_ _) | (with_reducible refine Kd.C_drewN ?_ _) | (with_reducible refine Kd.C_drew ?_))); (case side2 => exact (Kd.R_reads' HO_4.out).2.1); rintro e w' ⟨rfl, ⟨nd, rfl⟩⟩; (try first | exact ⟨rfl, _, World.drewN_drewN _ _ _⟩ | exact ⟨rfl, _, Eq.trans (World.drewN_drewN _ _ _) (congrArg (World.drewN _) (Nat.add_assoc _ _ _))⟩); obtain ⟨Ao27, co27, eo27⟩ := Kd.R_slice HO237.out; subst eo27))
            repeat (go_quiet (first | (go_at_call 17; (with_reducible refine (pyxref09_Valid.calls k1 _ _ x4_1 true _ ?side1 ?side2 A25.out).mono ?_); (case side1 => repeat (first | exact (Kd.R_reads' HO_4.out).2.2 | (with_reducible refine Kd.C_alloc ?_ _) | (with_reducible refine Kd.C_drewN ?_ _) | (with_reducible refine Kd.C_drew ?_))); (case side2 => exact (Kd.R_reads' HO_4.out).2.1); rintro e w' ⟨rfl, ⟨nd, rfl⟩⟩; (try first | exact ⟨rfl, _, World.drewN_drewN _ _ _⟩ | exact ⟨rfl, _, Eq.trans (World.drewN_drewN _ _ _) (congrArg (World.drewN _) (Nat.add_assoc _ _ _))⟩); obtain ⟨Ao27, co27, eo27⟩ := Kd.R_slice HO237.out; subst eo27)); try go_wp2_with (first | (go_at_call 17; (with_reducible refine (pyxref09_Valid.calls k1 _ _ x4_1 true _ ?side1 ?side2 A25.out).mono ?_); (case side1 => repeat (first | exact (Kd.R_reads' HO_4.out).2.2 | (with_reducible refine Kd.C_alloc ?_ _) | (with_reducible refine Kd.C_drewN ?_ _) | (with_reducible refine Kd.C_drew ?_))); (case side2 => exact (Kd.R_reads' HO_4.out).2.1); rintro e w' ⟨rfl, ⟨nd, rfl⟩⟩; (try first | exact ⟨rfl, _, World.drewN_drewN _ _ _⟩ | exact ⟨rfl, _, Eq.trans (World.drewN_drewN _ _ _) (congrArg (World.drewN _) (Nat.add_assoc _ _ _))⟩); obtain ⟨Ao27, co27, eo27⟩ := Kd.R_slice HO237.out; subst eo27)))
            go_meet
            case rel => exact ⟨_, (((t235.length : Int) != (l0.length : Int))), (by first | rfl | (simp; done) | (simp [*]; done)), H', ⟨by have := HK1.out; first | omega | exact Nat.le_refl _⟩, ⟨by (with_reducible repeat (first | apply Kd.R_alloc | apply Kd.R_drewN | apply Kd.R_drew)); exact HO_4.out⟩, ⟨by (with_reducible repeat (first | apply Kd.R_alloc | apply Kd.R_drewN | apply Kd.R_drew)); exact HO237.out⟩, ⟨by repeat (first | (with_reducible first | exact HB.out | apply below_alloc | apply pw_below_drewN | apply below_drew1) | exact HB.out)⟩⟩
          · replace c26 := Bool.eq_false_iff.mpr c26
            subst c26
            have H1 : (pyxref09_Read.j1 k1 l0 x4_1 t235 true) = some (r1, r2) := by rw [if_neg (show ¬ (false = true) by decide)] at H; exact H
            clear H
            have H := H1
            clear H1
            have H' := Aside0.mk H
            clear H
            go_wp2_with (first | (go_at_call 17; (with_reducible refine (pyxref09_Valid.calls k1 _ _ x4_1 false _ ?side1 ?side2 A25.out).mono ?_); (case side1 => repeat (first | exact (Kd.R_reads' HO_4.out).2.2 | (with_reducible refine Kd.C_alloc ?_ _) | (with_reducible refine Kd.C_drewN ?_ _) | (with_reducible refine Kd.C_drew ?_))); (case side2 => exact (Kd.R_reads' HO_4.out).2.1); rintro e w' ⟨rfl, ⟨nd, rfl⟩⟩; (try first | exact ⟨rfl, _, World.drewN_drewN _ _ _⟩ | exact ⟨rfl, _, Eq.trans (World.drewN_drewN _ _ _) (congrArg (World.drewN _) (Nat.add_assoc _ _ _))⟩)))
            repeat (go_quiet (first | (go_at_call 17; (with_reducible refine (pyxref09_Valid.calls k1 _ _ x4_1 false _ ?side1 ?side2 A25.out).mono ?_); (case side1 => repeat (first | exact (Kd.R_reads' HO_4.out).2.2 | (with_reducible refine Kd.C_alloc ?_ _) | (with_reducible refine Kd.C_drewN ?_ _) | (with_reducible refine Kd.C_drew ?_))); (case side2 => exact (Kd.R_reads' HO_4.out).2.1); rintro e w' ⟨rfl, ⟨nd, rfl⟩⟩; (try first | exact ⟨rfl, _, World.drewN_drewN _ _ _⟩ | exact ⟨rfl, _, Eq.trans (World.drewN_drewN _ _ _) (congrArg (World.drewN _) (Nat.add_assoc _ _ _))⟩))); try go_wp2_with (first | (go_at_call 17; (with_reducible refine (pyxref09_Valid.calls k1 _ _ x4_1 false _ ?side1 ?side2 A25.out).mono ?_); (case side1 => repeat (first | exact (Kd.R_reads' HO_4.out).2.2 | (with_reducible refine Kd.C_alloc ?_ _) | (with_reducible refine Kd.C_drewN ?_ _) | (with_reducible refine Kd.C_drew ?_))); (case side2 => exact (Kd.R_reads' HO_4.out).2.1); rintro e w' ⟨rfl, ⟨nd, rfl⟩⟩; (try first | exact ⟨rfl, _, World.drewN_drewN _ _ _⟩ | exact ⟨rfl, _, Eq.trans (World.drewN_drewN _ _ _) (congrArg (World.drewN _) (Nat.add_assoc _ _ _))⟩))))
            go_meet
            case rel => exact ⟨_, (true), (by first | rfl | (simp; done) | (simp [*]; done)), H', ⟨by have := HK1.out; first | omega | exact Nat.le_refl _⟩, ⟨by (with_reducible repeat (first | apply Kd.R_alloc | apply Kd.R_drewN | apply Kd.R_drew)); exact HO_4.out⟩, ⟨by (with_reducible repeat (first | apply Kd.R_alloc | apply Kd.R_drewN | apply Kd.R_drew)); exact HO237.out⟩, ⟨by repeat (first | (with_reducible first | exact HB.out | apply below_alloc | apply pw_below_drewN | apply below_drew1) | exact HB.out)⟩⟩
        case rest =>
          clear HC22
          try clear c1
          try clear c2
          try clear c2b0
          try clear p2
          try clear q2
          try clear hx2
          try clear c3
          try clear c3b0
          try clear c4
          try clear c4b0
          try clear c5
          try clear c5b0
          try clear c6
          try clear c6b0
          try clear c6b1
          try clear p6
          try clear c7
          try clear c10
          try clear c10b0
          try clear c14
          try clear c14b0
          try clear p22
          try clear q22
          try clear hx22
          try clear c25
          try clear c26
          try clear hx221_0
          try clear hx222_0
          try clear p221
          try clear p222
          try clear q221
          try clear q222
          obtain ⟨kq, x65_21, rfl, HA, HJ21, HO_4, HO_7, HB⟩ := hcut
          cases kq with
          | zero => exact absurd HA.out (by simp [pyxref09_Read.j1])
          | succ kj21 =>
            have H := HA.out
            clear HA
            simp only [pyxref09_Read.j1] at H
            by_cases c28 : x65_21 = true
            · subst c28
              have H1 : (some (([] : List Int), false)) = some (r1, r2) := by rw [if_pos rfl] at H; exact H
              clear H
              have H := H1
              clear H1
              simp only [Option.some.injEq, Prod.mk.injEq] at H
              obtain ⟨rfl, rfl⟩ := H
              go_wp2
              repeat (go_quiet (fail); try go_wp2)
              go_ret2
              exact ⟨_, by first | rfl | (simp [errW_none, errW_some] <;> rfl) | (simp [*, errW_none, errW_some] <;> rfl), by first | exact Kd.R_nil _ _ _ _ _ | exact Kd.N_nil _ _ _ _ _ | exact Kd.V_nil _ _ _ _ _ | exact Kd.Q_nil _ _ _ _ _ | exact Kd.S_nil _ _ _ _ _, by repeat (first | (with_reducible first | exact HB.out | apply below_alloc | apply pw_below_drewN | apply below_drew1) | exact HB.out)⟩
            · replace c28 := Bool.eq_false_iff.mpr c28
              subst c28
              have H1 : (pyxref09_Read.l1 kj21 l0 x4_1 t235 0) = some (r1, r2) := by rw [if_neg (show ¬ (false = true) by decide)] at H; exact H
              clear H
              have H := H1
              clear H1
              have H' := Aside0.mk H
              clear H
              go_wp2
              repeat (go_quiet (fail); try go_wp2)
              go_loopg [8] kj21 (fun kq v8 w' => ∃ (x8_3 : Int), v8 = .int .i64 x8_3 ∧ Aside0 (pyxref09_Read.l1 kq l0 x4_1 t235 x8_3 = some (r1, r2)) ∧ Aside0 (kq ≤ kj21) ∧ Aside0 (Kd.R (Kd.int .u32) 33 w' w.heap.size (fun _ => True) (.slice Ao23 x4_1.length co23) x4_1) ∧ Aside0 (Kd.R (Kd.int .u8) 5 w' w.heap.size (fun _ => True) v236 t235) ∧ Aside0 (Below w.heap.size w w'))
              case atStart => exact ⟨(0), (by first | rfl | (simp; done) | (simp [*]; done)), H', ⟨Nat.le_refl _⟩, ⟨by (with_reducible repeat (first | apply Kd.R_alloc | apply Kd.R_drewN | apply Kd.R_drew)); exact HO_4.out⟩, ⟨by (with_reducible repeat (first | apply Kd.R_alloc | apply Kd.R_drewN | apply Kd.R_drew)); exact HO_7.out⟩, ⟨by repeat (first | (with_reducible first | exact HB.out | apply below_alloc | apply pw_below_drewN | apply below_drew1) | exact HB.out)⟩⟩
              case round =>
                clear H'
                try clear c1
                try clear c2
                try clear c2b0
                try clear p2
                try clear q2
                try clear hx2
                try clear c3
                try clear c3b0
                try clear c4
                try clear c4b0
                try clear c5
                try clear c5b0
                try clear c6
                try clear c6b0
                try clear c6b1
                try clear p6
                try clear c7
                try clear c10
                try clear c10b0
                try clear c14
                try clear c14b0
                try clear p22
                try clear q22
                try clear hx22
                try clear c25
                try clear c26
                try clear c28
                try clear hx221_0
                try clear hx222_0
                try clear p2
                try clear p22
                try clear p221
                try clear p222
                try clear p6
                try clear q2
                try clear q22
                try clear q221
                try clear q222
                obtain ⟨x8_3, rfl, HA, HK3, HO_4, HO_7, HB⟩ := hrel
                cases gk with
                | zero => exact absurd HA.out (by simp [pyxref09_Read.l1])
                | succ k3 =>
                  have H := HA.out
                  clear HA
                  simp only [pyxref09_Read.l1] at H
                  by_cases c29 : x8_3 < (t235.length : Int)
                  · rw [if_pos c29] at H
                    have c29b0 : decide (x8_3 < (t235.length : Int)) = true := decide_eq_true c29
                    clear c29
                    by_cases c30 : 0 ≤ x8_3
                    · rw [if_pos c30] at H
                      have c30b0 : decide (0 ≤ x8_3) = true := decide_eq_true c30
                      clear c30
                      by_cases c31 : x8_3 < (l0.length : Int)
                      · rw [if_pos c31] at H
                        have c31b0 : decide (x8_3 < (l0.length : Int)) = true := decide_eq_true c31
                        clear c31
                        by_cases c32 : (rd t235 x8_3) = (rd l0 x8_3)
                        · rw [if_pos c32] at H
                          have c32b0 : ((rd t235 x8_3) == (rd l0 x8_3)) = true := beq_iff_eq.mpr c32
                          have c32b1 : ((rd t235 x8_3) != (rd l0 x8_3)) = false := bne_eq_false_iff_eq.mpr c32
                          clear c32
                          have H' := Aside0.mk H
                          clear H
                          obtain ⟨Ao33, co33, eo33⟩ := Kd.R_slice HO_7.out
                          subst eo33
                          have p239 : 0 ≤ (x8_3 : Int) := of_decide_eq_true (by first | (with_reducible assumption) | assumption)
                          have q239 : x8_3 < (t235.length : Int) := of_decide_eq_true (by first | (with_reducible assumption) | assumption)
                          obtain ⟨ad239, e239, hx239_0⟩ := Kd.at_int (Kd.R_reads' HO_7.out).2.2 x8_3 p239 q239
                          cases e239
                          replace p239 := eq_true p239
                          replace q239 := eq_true q239
                          have p240 : 0 ≤ (x8_3 : Int) := of_decide_eq_true (by first | (with_reducible assumption) | assumption)
                          have q240 : x8_3 < (l0.length : Int) := of_decide_eq_true (by first | (with_reducible assumption) | assumption)
                          obtain ⟨ad240, e240, hx240_0⟩ := Kd.at_int HR0.out x8_3 p240 q240
                          cases e240
                          replace hx240_0 := (HB.out.cell (World.block_lt_of_cell? w _ hx240_0)).trans hx240_0
                          replace p240 := eq_true p240
                          replace q240 := eq_true q240
                          go_wp2
                          repeat (go_quiet (fail); try go_wp2)
                          go_roundg k3
                          case measure => have := HK1.out; have := HJ21.out; have := HK3.out; omega
                          case rel => exact ⟨(wrap64 (x8_3 + 1)), (by first | rfl | (simp; done) | (simp [*]; done)), H', ⟨by have := HK1.out; have := HJ21.out; have := HK3.out; omega⟩, ⟨by (with_reducible repeat (first | apply Kd.R_alloc | apply Kd.R_drewN | apply Kd.R_drew)); exact HO_4.out⟩, ⟨by (with_reducible repeat (first | apply Kd.R_alloc | apply Kd.R_drewN | apply Kd.R_drew)); exact HO_7.out⟩, ⟨by repeat (first | (with_reducible first | exact HB.out | apply below_alloc | apply pw_below_drewN | apply below_drew1) | exact HB.out)⟩⟩
                        · rw [if_neg c32] at H
                          have c32b0 : ((rd t235 x8_3) == (rd l0 x8_3)) = false := beq_eq_false_iff_ne.mpr c32
                          have c32b1 : ((rd t235 x8_3) != (rd l0 x8_3)) = true := bne_iff_ne.mpr c32
                          simp only [Option.some.injEq, Prod.mk.injEq] at H
                          obtain ⟨rfl, rfl⟩ := H
                          obtain ⟨Ao34, co34, eo34⟩ := Kd.R_slice HO_7.out
                          subst eo34
                          have p239 : 0 ≤ (x8_3 : Int) := of_decide_eq_true (by first | (with_reducible assumption) | assumption)
                          have q239 : x8_3 < (t235.length : Int) := of_decide_eq_true (by first | (with_reducible assumption) | assumption)
                          obtain ⟨ad239, e239, hx239_0⟩ := Kd.at_int (Kd.R_reads' HO_7.out).2.2 x8_3 p239 q239
                          cases e239
                          replace p239 := eq_true p239
                          replace q239 := eq_true q239
                          have p240 : 0 ≤ (x8_3 : Int) := of_decide_eq_true (by first | (with_reducible assumption) | assumption)
                          have q240 : x8_3 < (l0.length : Int) := of_decide_eq_true (by first | (with_reducible assumption) | assumption)
                          obtain ⟨ad240, e240, hx240_0⟩ := Kd.at_int HR0.out x8_3 p240 q240
                          cases e240
                          replace hx240_0 := (HB.out.cell (World.block_lt_of_cell? w _ hx240_0)).trans hx240_0
                          replace p240 := eq_true p240
                          replace q240 := eq_true q240
                          go_wp2
                          repeat (go_quiet (fail); try go_wp2)
                          go_ret2
                          exact ⟨_, by first | rfl | (simp [errW_none, errW_some] <;> rfl) | (simp [*, errW_none, errW_some] <;> rfl), by first | exact Kd.R_nil _ _ _ _ _ | exact Kd.N_nil _ _ _ _ _ | exact Kd.V_nil _ _ _ _ _ | exact Kd.Q_nil _ _ _ _ _ | exact Kd.S_nil _ _ _ _ _, by repeat (first | (with_reducible first | exact HB.out | apply below_alloc | apply pw_below_drewN | apply below_drew1) | exact HB.out)⟩
                      · rw [if_neg c31] at H
                        exact absurd H (by simp)
                    · rw [if_neg c30] at H
                      exact absurd H (by simp)
                  · rw [if_neg c29] at H
                    have c29b0 : decide (x8_3 < (t235.length : Int)) = false := decide_eq_false c29
                    clear c29
                    simp only [Option.some.injEq, Prod.mk.injEq] at H
                    obtain ⟨rfl, rfl⟩ := H
                    obtain ⟨Ao35, co35, eo35⟩ := Kd.R_slice HO_7.out
                    subst eo35
                    go_wp2
                    repeat (go_quiet (fail); try go_wp2)
                    go_ret2
                    exact ⟨_, by first | rfl | (simp [errW_none, errW_some] <;> rfl) | (simp [*, errW_none, errW_some] <;> rfl), by (with_reducible repeat (first | apply Kd.R_alloc | apply Kd.R_drewN | apply Kd.R_drew)); exact HO_4.out, by repeat (first | (with_reducible first | exact HB.out | apply below_alloc | apply pw_below_drewN | apply below_drew1) | exact HB.out)⟩
def pyxlaw09_OidReads.j0 : Nat → List Int → Bool → Option (Bool)
  | 0, _, _ => none
  | k + 1, x0, x13 => if x13 = true then ((pyxlaw09_awake.f k).bind fun t242 => (some t242)) else ((oid_Read.f x0).bind fun bt243 => ((pyxref09_Read.f k x0).bind fun bt247 => ((slices_Equal_uint32_uint32.f k bt243.1 bt247.1).bind fun t251 => (if t251 = true then (if (bt243.2 == bt247.2) = true then (if bt243.2 = true then ((oid_Content.f bt243.1).bind fun t252 => ((pyxref01_Same.f k t252 x0).bind fun t255 => (some t255))) else (some true)) else (some false)) else (some false)))))
def pyxlaw09_OidReads.f (k : Nat) (l0 : List Int) : Option (Bool) := (pyxlaw09_awake.f k).bind fun t241 => (if t241 = true then (pyxlaw09_OidReads.j0 k l0 (decide ((l0.length : Int) > 300))) else (pyxlaw09_OidReads.j0 k l0 true))
set_option maxHeartbeats 8000000 in
set_option maxRecDepth 100000 in
theorem pyxlaw09_OidReads.calls (k : Nat) (A0 : Option Addr) (c0 : Nat) (l0 : List Int) (r : Bool) (w : World) (hr0 : Kd.C (Kd.int .u8) w A0 l0.length l0) (hc0 : l0.length ≤ c0) (h : pyxlaw09_OidReads.f k l0 = some r) (hG : GOK w) (hr_ : r = true) :
    Calls Tryd.prog 5 #[.slice A0 l0.length c0] w fun e w' => e = .returned (.bool r) ∧ Below w.heap.size w w' := by
  have HG := Aside0.mk hG
  clear hG
  have HT := Aside0.mk hr_
  clear hr_
  have HR0 := Aside0.mk hr0
  have HC0 := Aside0.mk hc0
  clear hr0 hc0
  have HB := Aside0.mk (Below.refl w.heap.size w)
  have H : ((pyxlaw09_awake.f k).bind fun t241 => (if t241 = true then (pyxlaw09_OidReads.j0 k l0 (decide ((l0.length : Int) > 300))) else (pyxlaw09_OidReads.j0 k l0 true))) = some r := h
  clear h
  have HC2 := Aside0.mk H
  clear H
  go_enter Tryd.func5, Tryd.ntmps5
  go_upto_region 1 with (fail)
  go_cut [13] (fun v13 wc => ∃ (kq : Nat) (x13_1 : Bool), v13 = .bool x13_1 ∧ Aside0 (pyxlaw09_OidReads.j0 kq l0 x13_1 = some r) ∧ Aside0 (kq ≤ k) ∧ Aside0 (Below w.heap.size w wc))
  case first =>
    have H := HC2.out
    clear HC2
    replace H := Option.bind_eq_some_iff.mp H
    obtain ⟨t241, A30, H⟩ := H
    replace H : (if t241 = true then (pyxlaw09_OidReads.j0 k l0 (decide ((l0.length : Int) > 300))) else (pyxlaw09_OidReads.j0 k l0 true)) = some r := H
    have A3 := Aside0.mk A30
    clear A30
    by_cases c4 : t241 = true
    · subst c4
      have H1 : (pyxlaw09_OidReads.j0 k l0 (decide ((l0.length : Int) > 300))) = some r := by rw [if_pos rfl] at H; exact H
      clear H
      have H := H1
      clear H1
      have H' := Aside0.mk H
      clear H
      go_wp2_with (first | ((with_reducible refine gate_callee (f := 13) rfl ?_); refine goesL_ (some 7) rfl rfl Tryd.func13 (by kernel_rfl) rfl #[] rfl (by (try simp only [List.map_toArray, List.map_cons, List.map_nil]); first | done | rfl | (simp only [List.length_drop, List.length_take]; rfl)) ?_; (with_reducible refine (pyxlaw09_awake.calls k  true _ A3.out (by first | exact GOK.below HG.out (by repeat (first | (with_reducible first | exact HB.out | apply below_alloc | apply pw_below_drewN | apply below_drew1) | exact HB.out)) | (repeat (first | exact HG.out | apply GOK.drewN | apply GOK.drew)))).mono ?_); rintro e w5 ⟨rfl, hb⟩; refine ⟨_, rfl, ?_⟩; have n0_ := Aside0.mk (below_step (by repeat (first | (with_reducible first | exact HB.out | apply below_alloc | apply pw_below_drewN | apply below_drew1) | exact HB.out)) hb); clear HB; have HB := n0_; clear n0_; (try clear hb); (try clear hb2); (try clear hk); (try clear hi)))
      go_meet
      case rel => exact ⟨_, (decide ((l0.length : Int) > 300)), (by first | rfl | (simp; done) | (simp [*]; done)), H', ⟨by first | omega | exact Nat.le_refl _⟩, ⟨by repeat (first | (with_reducible first | exact HB.out | apply below_alloc | apply pw_below_drewN | apply below_drew1) | exact HB.out)⟩⟩
    · replace c4 := Bool.eq_false_iff.mpr c4
      subst c4
      have H1 : (pyxlaw09_OidReads.j0 k l0 true) = some r := by rw [if_neg (show ¬ (false = true) by decide)] at H; exact H
      clear H
      have H := H1
      clear H1
      have H' := Aside0.mk H
      clear H
      go_wp2_with (first | ((with_reducible refine gate_callee (f := 13) rfl ?_); refine goesL_ (some 7) rfl rfl Tryd.func13 (by kernel_rfl) rfl #[] rfl (by (try simp only [List.map_toArray, List.map_cons, List.map_nil]); first | done | rfl | (simp only [List.length_drop, List.length_take]; rfl)) ?_; (with_reducible refine (pyxlaw09_awake.calls k  false _ A3.out (by first | exact GOK.below HG.out (by repeat (first | (with_reducible first | exact HB.out | apply below_alloc | apply pw_below_drewN | apply below_drew1) | exact HB.out)) | (repeat (first | exact HG.out | apply GOK.drewN | apply GOK.drew)))).mono ?_); rintro e w6 ⟨rfl, hb⟩; refine ⟨_, rfl, ?_⟩; have n0_ := Aside0.mk (below_step (by repeat (first | (with_reducible first | exact HB.out | apply below_alloc | apply pw_below_drewN | apply below_drew1) | exact HB.out)) hb); clear HB; have HB := n0_; clear n0_; (try clear hb); (try clear hb2); (try clear hk); (try clear hi)))
      go_meet
      case rel => exact ⟨_, (true), (by first | rfl | (simp; done) | (simp [*]; done)), H', ⟨by first | omega | exact Nat.le_refl _⟩, ⟨by repeat (first | (with_reducible first | exact HB.out | apply below_alloc | apply pw_below_drewN | apply below_drew1) | exact HB.out)⟩⟩
  case rest =>
    clear HC2
    try clear c1
    try clear p2
    try clear c4
    try clear c5
    obtain ⟨kq, x13_1, rfl, HA, HJ1, HB⟩ := hcut
    cases kq with
    | zero => exact absurd HA.out (by simp [pyxlaw09_OidReads.j0])
    | succ kj1 =>
      have H := HA.out
      clear HA
      simp only [pyxlaw09_OidReads.j0] at H
      by_cases c7 : x13_1 = true
      · subst c7
        have H1 : ((pyxlaw09_awake.f kj1).bind fun t242 => (some t242)) = some r := by rw [if_pos rfl] at H; exact H
        clear H
        have H := H1
        clear H1
        replace H := Option.bind_eq_some_iff.mp H
        obtain ⟨t242, A80, H⟩ := H
        replace H : (some t242) = some r := H
        have A8 := Aside0.mk A80
        clear A80
        obtain rfl := Option.some.inj H
        go_wp2_with (first | ((with_reducible refine gate_callee (f := 13) rfl ?_); refine goesL_ (some 14) rfl rfl Tryd.func13 (by kernel_rfl) rfl #[] rfl (by (try simp only [List.map_toArray, List.map_cons, List.map_nil]); first | done | rfl | (simp only [List.length_drop, List.length_take]; rfl)) ?_; (with_reducible refine (pyxlaw09_awake.calls kj1  t242 _ A8.out (by first | exact GOK.below HG.out (by repeat (first | (with_reducible first | exact HB.out | apply below_alloc | apply pw_below_drewN | apply below_drew1) | exact HB.out)) | (repeat (first | exact HG.out | apply GOK.drewN | apply GOK.drew)))).mono ?_); rintro e w9 ⟨rfl, hb⟩; refine ⟨_, rfl, ?_⟩; have n0_ := Aside0.mk (below_step (by repeat (first | (with_reducible first | exact HB.out | apply below_alloc | apply pw_below_drewN | apply below_drew1) | exact HB.out)) hb); clear HB; have HB := n0_; clear n0_; (try clear hb); (try clear hb2); (try clear hk); (try clear hi)))
        go_ret
        exact ⟨by first | rfl | (simp [errW_none, errW_some] <;> rfl) | (simp [*, errW_none, errW_some] <;> rfl), by repeat (first | (with_reducible first | exact HB.out | apply below_alloc | apply pw_below_drewN | apply below_drew1) | exact HB.out)⟩
      · replace c7 := Bool.eq_false_iff.mpr c7
        subst c7
        have H1 : ((oid_Read.f l0).bind fun bt243 => ((pyxref09_Read.f kj1 l0).bind fun bt247 => ((slices_Equal_uint32_uint32.f kj1 bt243.1 bt247.1).bind fun t251 => (if t251 = true then (if (bt243.2 == bt247.2) = true then (if bt243.2 = true then ((oid_Content.f bt243.1).bind fun t252 => ((pyxref01_Same.f kj1 t252 l0).bind fun t255 => (some t255))) else (some true)) else (some false)) else (some false))))) = some r := by rw [if_neg (show ¬ (false = true) by decide)] at H; exact H
        clear H
        have H := H1
        clear H1
        replace H := Option.bind_eq_some_iff.mp H
        obtain ⟨⟨t243, t244⟩, A100, H⟩ := H
        replace H : ((pyxref09_Read.f kj1 l0).bind fun bt247 => ((slices_Equal_uint32_uint32.f kj1 t243 bt247.1).bind fun t251 => (if t251 = true then (if (t244 == bt247.2) = true then (if t244 = true then ((oid_Content.f t243).bind fun t252 => ((pyxref01_Same.f kj1 t252 l0).bind fun t255 => (some t255))) else (some true)) else (some false)) else (some false)))) = some r := H
        have A10 := Aside0.mk A100
        clear A100
        replace H := Option.bind_eq_some_iff.mp H
        obtain ⟨⟨t247, t248⟩, A110, H⟩ := H
        replace H : ((slices_Equal_uint32_uint32.f kj1 t243 t247).bind fun t251 => (if t251 = true then (if (t244 == t248) = true then (if t244 = true then ((oid_Content.f t243).bind fun t252 => ((pyxref01_Same.f kj1 t252 l0).bind fun t255 => (some t255))) else (some true)) else (some false)) else (some false))) = some r := H
        have A11 := Aside0.mk A110
        clear A110
        replace H := Option.bind_eq_some_iff.mp H
        obtain ⟨t251, A120, H⟩ := H
        replace H : (if t251 = true then (if (t244 == t248) = true then (if t244 = true then ((oid_Content.f t243).bind fun t252 => ((pyxref01_Same.f kj1 t252 l0).bind fun t255 => (some t255))) else (some true)) else (some false)) else (some false)) = some r := H
        have A12 := Aside0.mk A120
        clear A120
        by_cases c13 : t251 = true
        · subst c13
          have H1 : (if (t244 == t248) = true then (if t244 = true then ((oid_Content.f t243).bind fun t252 => ((pyxref01_Same.f kj1 t252 l0).bind fun t255 => (some t255))) else (some true)) else (some false)) = some r := by rw [if_pos rfl] at H; exact H
          clear H
          have H := H1
          clear H1
          by_cases c14 : (t244 == t248) = true
          · rw [if_pos c14] at H
            have c14b0 : (t244 == t248) = true := c14
            (try (have c14b1 : decide (t244 = t248) = true := by simpa using c14))
            (try (have c14b2 : (t244 == t248) = true := by simpa using c14))
            clear c14
            by_cases c15 : t244 = true
            · subst c15
              have H1 : ((oid_Content.f t243).bind fun t252 => ((pyxref01_Same.f kj1 t252 l0).bind fun t255 => (some t255))) = some r := by rw [if_pos rfl] at H; exact H
              clear H
              have H := H1
              clear H1
              replace H := Option.bind_eq_some_iff.mp H
              obtain ⟨t252, A160, H⟩ := H
              replace H : ((pyxref01_Same.f kj1 t252 l0).bind fun t255 => (some t255)) = some r := H
              have A16 := Aside0.mk A160
              clear A160
              replace H := Option.bind_eq_some_iff.mp H
              obtain ⟨t255, A170, H⟩ := H
              replace H : (some t255) = some r := H
              have A17 := Aside0.mk A170
              clear A170
              obtain rfl := Option.some.inj H
              go_wp2_with (first | ((with_reducible refine gate_callee (f := 22) rfl ?_); refine goesL_ (some 17) rfl rfl Tryd.func22 (by kernel_rfl) rfl #[.slice A0 l0.length c0] rfl (by (try simp only [List.map_toArray, List.map_cons, List.map_nil]); first | done | rfl | (simp only [List.length_drop, List.length_take]; rfl)) ?_; (with_reducible refine (oid_Read.calls _ _ l0 t243 true _ ?side1 ?side2 A10.out).mono ?_); (case side1 => repeat (first | exact (Kd.C_below HR0.out HB.out) | (with_reducible refine Kd.C_alloc ?_ _) | (with_reducible refine Kd.C_drewN ?_ _) | (with_reducible refine Kd.C_drew ?_))); (case side2 => exact HC0.out); rintro e w18 ⟨v245, rfl, ho0, hb⟩; refine ⟨_, rfl, ?_⟩; have n0_ := Aside0.mk (Kd.R_lower ho0 (below_size (by repeat (first | (with_reducible first | exact HB.out | apply below_alloc | apply pw_below_drewN | apply below_drew1) | exact HB.out)))); have n1_ := Aside0.mk (below_step (by repeat (first | (with_reducible first | exact HB.out | apply below_alloc | apply pw_below_drewN | apply below_drew1) | exact HB.out)) hb); clear HB; have HO246 := n0_; have HB := n1_; clear n0_ n1_; (try clear hb); (try clear hb2); (try clear hk); (try clear hi); (try clear ho0)) | ((with_reducible refine gate_callee (f := 25) rfl ?_); refine goesL_ (some 22) rfl rfl Tryd.func25 (by kernel_rfl) rfl #[.slice A0 l0.length c0] rfl (by (try simp only [List.map_toArray, List.map_cons, List.map_nil]); first | done | rfl | (simp only [List.length_drop, List.length_take]; rfl)) ?_; (with_reducible refine (pyxref09_Read.calls kj1 _ _ l0 t247 t248 _ ?side1 ?side2 A11.out).mono ?_); (case side1 => repeat (first | exact (Kd.C_below HR0.out HB.out) | (with_reducible refine Kd.C_alloc ?_ _) | (with_reducible refine Kd.C_drewN ?_ _) | (with_reducible refine Kd.C_drew ?_))); (case side2 => exact HC0.out); rintro e w19 ⟨v249, rfl, ho0, hb⟩; refine ⟨_, rfl, ?_⟩; have n0_ := Aside0.mk (Kd.R_elder' (by (with_reducible repeat (first | apply Kd.R_alloc | apply Kd.R_drewN | apply Kd.R_drew)); exact HO246.out) (Kd.R_base ho0) hb); have n1_ := Aside0.mk (Kd.R_lower (Kd.R_new' ho0 (Kd.R_lt (by (with_reducible repeat (first | apply Kd.R_alloc | apply Kd.R_drewN | apply Kd.R_drew)); exact HO246.out))) (below_size (by repeat (first | (with_reducible first | exact HB.out | apply below_alloc | apply pw_below_drewN | apply below_drew1) | exact HB.out)))); have n2_ := Aside0.mk (below_step (by repeat (first | (with_reducible first | exact HB.out | apply below_alloc | apply pw_below_drewN | apply below_drew1) | exact HB.out)) hb); clear HO246; clear HB; have HO246 := n0_; have HO250 := n1_; have HB := n2_; clear n0_ n1_ n2_; (try clear hb); (try clear hb2); (try clear hk); (try clear hi); (try clear ho0); obtain ⟨Ao20, co20, eo20⟩ := Kd.R_slice HO246.out; subst eo20; obtain ⟨Ao21, co21, eo21⟩ := Kd.R_slice HO250.out; subst eo21) | ((with_reducible refine gate_callee (f := 23) rfl ?_); refine goesL_ (some 27) rfl rfl Tryd.func23 (by kernel_rfl) rfl #[.slice Ao20 t243.length co20, .slice Ao21 t247.length co21] rfl (by (try simp only [List.map_toArray, List.map_cons, List.map_nil]); first | done | rfl | (simp only [List.length_drop, List.length_take]; rfl)) ?_; (with_reducible refine (slices_Equal_uint32_uint32.calls kj1 _ _ t243 _ _ t247 true _ ?side1 ?side2 ?side3 ?side4 A12.out).mono ?_); (case side1 => repeat (first | exact (Kd.R_reads' HO246.out).2.2 | (with_reducible refine Kd.C_alloc ?_ _) | (with_reducible refine Kd.C_drewN ?_ _) | (with_reducible refine Kd.C_drew ?_))); (case side2 => exact (Kd.R_reads' HO246.out).2.1); (case side3 => repeat (first | exact (Kd.R_reads' HO250.out).2.2 | (with_reducible refine Kd.C_alloc ?_ _) | (with_reducible refine Kd.C_drewN ?_ _) | (with_reducible refine Kd.C_drew ?_))); (case side4 => exact (Kd.R_reads' HO250.out).2.1); rintro e w' ⟨rfl, ⟨nd, rfl⟩⟩; refine ⟨_, rfl, ?_⟩) | (go_at_call 15; (with_reducible refine (oid_Content.calls _ _ t243 t252 _ ?side1 ?side2 A16.out).mono ?_); (case side1 => repeat (first | exact (Kd.R_reads' HO246.out).2.2 | (with_reducible refine Kd.C_alloc ?_ _) | (with_reducible refine Kd.C_drewN ?_ _) | (with_reducible refine Kd.C_drew ?_))); (case side2 => exact (Kd.R_reads' HO246.out).2.1); rintro e w22 ⟨v253, rfl, ho0, hb⟩; have n0_ := Aside0.mk (Kd.R_below (by (with_reducible repeat (first | apply Kd.R_alloc | apply Kd.R_drewN | apply Kd.R_drew)); exact HO246.out) hb); have n1_ := Aside0.mk (Kd.R_below (by (with_reducible repeat (first | apply Kd.R_alloc | apply Kd.R_drewN | apply Kd.R_drew)); exact HO250.out) hb); have n2_ := Aside0.mk (Kd.R_lower ho0 (below_size (by repeat (first | (with_reducible first | exact HB.out | apply below_alloc | apply pw_below_drewN | apply below_drew1) | exact HB.out)))); have n3_ := Aside0.mk (below_step (by repeat (first | (with_reducible first | exact HB.out | apply below_alloc | apply pw_below_drewN | apply below_drew1) | exact HB.out)) hb); clear HO246; clear HO250; clear HB; have HO246 := n0_; have HO250 := n1_; have HO254 := n2_; have HB := n3_; clear n0_ n1_ n2_ n3_; (try clear hb); (try clear hb2); (try clear hk); (try clear hi); (try clear ho0); obtain ⟨Ao23, co23, eo23⟩ := Kd.R_slice HO254.out; subst eo23) | (go_at_call 19; (with_reducible refine (pyxref01_Same.calls kj1 _ _ t252 _ _ l0 t255 _ ?side1 ?side2 ?side3 ?side4 A17.out).mono ?_); (case side1 => repeat (first | exact (Kd.R_reads' HO254.out).2.2 | (with_reducible refine Kd.C_alloc ?_ _) | (with_reducible refine Kd.C_drewN ?_ _) | (with_reducible refine Kd.C_drew ?_))); (case side2 => exact (Kd.R_reads' HO254.out).2.1); (case side3 => repeat (first | exact (Kd.C_below HR0.out HB.out) | (with_reducible refine Kd.C_alloc ?_ _) | (with_reducible refine Kd.C_drewN ?_ _) | (with_reducible refine Kd.C_drew ?_))); (case side4 => exact HC0.out); rintro e w' ⟨rfl, ⟨nd, rfl⟩⟩))
              go_ret
              exact ⟨by first | rfl | (simp [errW_none, errW_some] <;> rfl) | (simp [*, errW_none, errW_some] <;> rfl), by repeat (first | (with_reducible first | exact HB.out | apply below_alloc | apply pw_below_drewN | apply below_drew1) | exact HB.out)⟩
            · replace c15 := Bool.eq_false_iff.mpr c15
              subst c15
              have H1 : (some true) = some r := by rw [if_neg (show ¬ (false = true) by decide)] at H; exact H
              clear H
              have H := H1
              clear H1
              obtain rfl := Option.some.inj H
              go_wp2_with (first | ((with_reducible refine gate_callee (f := 22) rfl ?_); refine goesL_ (some 17) rfl rfl Tryd.func22 (by kernel_rfl) rfl #[.slice A0 l0.length c0] rfl (by (try simp only [List.map_toArray, List.map_cons, List.map_nil]); first | done | rfl | (simp only [List.length_drop, List.length_take]; rfl)) ?_; (with_reducible refine (oid_Read.calls _ _ l0 t243 false _ ?side1 ?side2 A10.out).mono ?_); (case side1 => repeat (first | exact (Kd.C_below HR0.out HB.out) | (with_reducible refine Kd.C_alloc ?_ _) | (with_reducible refine Kd.C_drewN ?_ _) | (with_reducible refine Kd.C_drew ?_))); (case side2 => exact HC0.out); rintro e w24 ⟨v245, rfl, ho0, hb⟩; refine ⟨_, rfl, ?_⟩; have n0_ := Aside0.mk (Kd.R_lower ho0 (below_size (by repeat (first | (with_reducible first | exact HB.out | apply below_alloc | apply pw_below_drewN | apply below_drew1) | exact HB.out)))); have n1_ := Aside0.mk (below_step (by repeat (first | (with_reducible first | exact HB.out | apply below_alloc | apply pw_below_drewN | apply below_drew1) | exact HB.out)) hb); clear HB; have HO246 := n0_; have HB := n1_; clear n0_ n1_; (try clear hb); (try clear hb2); (try clear hk); (try clear hi); (try clear ho0)) | ((with_reducible refine gate_callee (f := 25) rfl ?_); refine goesL_ (some 22) rfl rfl Tryd.func25 (by kernel_rfl) rfl #[.slice A0 l0.length c0] rfl (by (try simp only [List.map_toArray, List.map_cons, List.map_nil]); first | done | rfl | (simp only [List.length_drop, List.length_take]; rfl)) ?_; (with_reducible refine (pyxref09_Read.calls kj1 _ _ l0 t247 t248 _ ?side1 ?side2 A11.out).mono ?_); (case side1 => repeat (first | exact (Kd.C_below HR0.out HB.out) | (with_reducible refine Kd.C_alloc ?_ _) | (with_reducible refine Kd.C_drewN ?_ _) | (with_reducible refine Kd.C_drew ?_))); (case side2 => exact HC0.out); rintro e w25 ⟨v249, rfl, ho0, hb⟩; refine ⟨_, rfl, ?_⟩; have n0_ := Aside0.mk (Kd.R_elder' (by (with_reducible repeat (first | apply Kd.R_alloc | apply Kd.R_drewN | apply Kd.R_drew)); exact HO246.out) (Kd.R_base ho0) hb); have n1_ := Aside0.mk (Kd.R_lower (Kd.R_new' ho0 (Kd.R_lt (by (with_reducible repeat (first | apply Kd.R_alloc | apply Kd.R_drewN | apply Kd.R_drew)); exact HO246.out))) (below_size (by repeat (first | (with_reducible first | exact HB.out | apply below_alloc | apply pw_below_drewN | apply below_drew1) | exact HB.out)))); have n2_ := Aside0.mk (below_step (by repeat (first | (with_reducible first | exact HB.out | apply below_alloc | apply pw_below_drewN | apply below_drew1) | exact HB.out)) hb); clear HO246; clear HB; have HO246 := n0_; have HO250 := n1_; have HB := n2_; clear n0_ n1_ n2_; (try clear hb); (try clear hb2); (try clear hk); (try clear hi); (try clear ho0); obtain ⟨Ao26, co26, eo26⟩ := Kd.R_slice HO246.out; subst eo26; obtain ⟨Ao27, co27, eo27⟩ := Kd.R_slice HO250.out; subst eo27) | ((with_reducible refine gate_callee (f := 23) rfl ?_); refine goesL_ (some 27) rfl rfl Tryd.func23 (by kernel_rfl) rfl #[.slice Ao26 t243.length co26, .slice Ao27 t247.length co27] rfl (by (try simp only [List.map_toArray, List.map_cons, List.map_nil]); first | done | rfl | (simp only [List.length_drop, List.length_take]; rfl)) ?_; (with_reducible refine (slices_Equal_uint32_uint32.calls kj1 _ _ t243 _ _ t247 true _ ?side1 ?side2 ?side3 ?side4 A12.out).mono ?_); (case side1 => repeat (first | exact (Kd.R_reads' HO246.out).2.2 | (with_reducible refine Kd.C_alloc ?_ _) | (with_reducible refine Kd.C_drewN ?_ _) | (with_reducible refine Kd.C_drew ?_))); (case side2 => exact (Kd.R_reads' HO246.out).2.1); (case side3 => repeat (first | exact (Kd.R_reads' HO250.out).2.2 | (with_reducible refine Kd.C_alloc ?_ _) | (with_reducible refine Kd.C_drewN ?_ _) | (with_reducible refine Kd.C_drew ?_))); (case side4 => exact (Kd.R_reads' HO250.out).2.1); rintro e w' ⟨rfl, ⟨nd, rfl⟩⟩; refine ⟨_, rfl, ?_⟩))
              go_ret
              exact ⟨by first | rfl | (simp [errW_none, errW_some] <;> rfl) | (simp [*, errW_none, errW_some] <;> rfl), by repeat (first | (with_reducible first | exact HB.out | apply below_alloc | apply pw_below_drewN | apply below_drew1) | exact HB.out)⟩
          · rw [if_neg c14] at H
            have c14b0 : (t244 == t248) = false := by simpa using c14
            (try (have c14b1 : decide (t244 = t248) = false := by simpa using c14))
            (try (have c14b2 : (t244 == t248) = false := by simpa using c14))
            (try (have c14b3 : ¬ (t244 = t248) := by simpa using c14))
            clear c14
            exact absurd ((Option.some.inj H).trans HT.out) (by decide)
        · replace c13 := Bool.eq_false_iff.mpr c13
          subst c13
          have H1 : (some false) = some r := by rw [if_neg (show ¬ (false = true) by decide)] at H; exact H
          clear H
          have H := H1
          clear H1
          exact absurd ((Option.some.inj H).trans HT.out) (by decide)
def pyxlaw09_OidReads.Pure : Prop := ∀ (l0 : List Int), l0.length ≤ maxLen → l0.length * 1 ≤ 140737488351232 → (∀ x ∈ l0, (Lit.int .u8 x).wf = true) → ∃ k, pyxlaw09_OidReads.f k l0 = some true
theorem pyxlaw09_OidReads.walk (P : pyxlaw09_OidReads.Pure) (a0 : Option Addr) (len0 cap0 : Nat) (z0 : List Int) (w : World) (w0 : (a0 = none ∧ len0 = 0 ∧ cap0 = 0 ∧ z0 = []) ∨ ∃ x, a0 = some x ∧ len0 ≤ cap0 ∧ cap0 ≤ maxLen ∧ z0.length = cap0 ∧ (∀ i, i < z0.length → w.cell? (x.add i) = some (.int .u8 (z0.getD i 0))) ∧ ∀ n ∈ z0, (Lit.int .u8 n).wf = true) (y0 : len0 * 1 ≤ 140737488351232) (hG : GOK w) :
    Calls Tryd.prog 5 #[.slice a0 len0 cap0] w fun e w' => e = .returned (.bool true) ∧ Below w.heap.size w w' := by
  obtain ⟨l0, rfl, hr0, hm0, hw0, hc0⟩ := ReadsInt.ofRowC w0
  obtain ⟨k, h⟩ := P l0 hm0 y0 hw0
  refine (pyxlaw09_OidReads.calls k _ _ l0 true w (Kd.C_of_reads (d := (0 : Int)) (h1 := fun _ => rfl) hr0) hc0 h hG rfl).mono ?_
  rintro e w' ⟨rfl, hd⟩
  exact ⟨rfl, hd⟩
end Go.Proofs.YtohmnlmeamkmjaaDoor.POid
