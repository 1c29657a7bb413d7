import Derived.Test.YtgmnknhfeoleaaaGreatDoorZQ
import Derived.Test.YtgmnknhfeoleaaaGreatDoorZSq
import Derived.Test.YtgmnknhfeoleaaaGreatDoorZPXmssx0
import Derived.Test.YtgmnknhfeoleaaaGreatDoorZPXmssx15
import Derived.Test.YtgmnknhfeoleaaaGreatDoorZPXmssx20
namespace Go.Proofs.YtgmnknhfeoleaaaGreatDoor.PXmss
open Go.RowKit Go.Proofs.YtgmnknhfeoleaaaGreatDoorW.PrintWords Go.Proofs.YtgmnknhfeoleaaaGreatDoorW.PrintLast Go.Proofs.YtgmnknhfeoleaaaGreatDoorW.PrintMore
attribute [local go_sem] max2_int min2_int max_two min_two max_three min_three max_four min_four
set_option linter.unusedVariables false
set_option linter.unusedSimpArgs false
def pyxlaw22_told.f (a0 : Option E) (a1_0 : Int) (a1_1 : Int) : Option (Bool) := if a1_0 = 0 then (if a0.isNone = true then (some true) else (some false)) else ((fault_Code.f a0).bind fun bt235 => ((fault_At.f a0).bind fun bt237 => (if bt235.2 = true then (if bt235.1 = a1_0 then (if bt237.2 = true then (some (bt237.1 == a1_1)) else (some false)) else (some false)) else (some false))))
set_option maxHeartbeats 8000000 in
set_option maxRecDepth 100000 in
theorem pyxlaw22_told.calls (a0 : Option E) (a1_0 : Int) (a1_1 : Int) (r : Bool) (w : World) (h : pyxlaw22_told.f a0 a1_0 a1_1 = some r) (hG : GOK w) :
  Calls Tryz.prog 16 #[errW a0, .agg #[.int .i64 a1_0, .int .i64 a1_1]] w fun e w' => e = .returned (.bool r) ∧ Below w.heap.size w w' := by
 have HG := Aside0.mk hG
 clear hG
 have hu34 := Tryz.underlying34
 have hu30 := Tryz.underlying30
 have HB := Aside0.mk (Below.refl w.heap.size w)
 have H : (if a1_0 = 0 then (if a0.isNone = true then (some true) else (some false)) else ((fault_Code.f a0).bind fun bt235 => ((fault_At.f a0).bind fun bt237 => (if bt235.2 = true then (if bt235.1 = a1_0 then (if bt237.2 = true then (some (bt237.1 == a1_1)) else (some false)) else (some false)) else (some false))))) = some r := h
 clear h
 by_cases c3 : a1_0 = 0
 ·rw [if_pos c3] at H
  have c3b0 : (a1_0 == 0) = true := beq_iff_eq.mpr c3
  have c3b1 : (a1_0 != 0) = false := bne_eq_false_iff_eq.mpr c3
  clear c3
  rcases a0 with _ | q234
  ·have H1 : (some true) = some r := by rw [if_pos (show (none : Option E).isNone = true by rfl)] at H; exact H
   clear H
   have H := H1
   clear H1
   simp only [errW_none, errW_some]
   obtain rfl := Option.some.inj H
   go_enter Tryz.func16, Tryz.ntmps16
   go_wp2_with (first | ((with_reducible refine gate_dst (N := 3) rfl ?_); refine box_event ?hg (N := 3) ?hd (cs := #[.int .i64 a1_0, .int .i64 a1_1]) (t := 34) ?hr ?_; (case hd => rfl); (case hg => rfl); (case hr => first | (go_simp; done) | (go_simp; rfl)); intro gb233 hg w4 hbox hb; have n0_ := Aside0.mk (below_step q30_ hb); have n1_ := Aside0.mk (hbox); have n2_ := Aside0.mk ((by rw [hg]; exact (below_size q30_) : w.heap.size ≤ gb233)); have n3_ := Aside0.mk ((by rw [hg]; exact (below_size q30_) : w.heap.size ≤ gb233)); clear HB; have HB := n0_; have BK233 := n1_; have GW233 := n2_; have GE233 := n3_; clear n0_ n1_ n2_ n3_; clear hb hbox hg; obtain ⟨hcz5_0, hcz5_1⟩ := cells2_ BK233.out; obtain ⟨hfz5_0, hfz5_1⟩ := frz2_ BK233.out))
   go_ret
   exact ⟨by first | rfl | (simp [errW_none, errW_some] <;> rfl) | (simp [*, errW_none, errW_some] <;> rfl), by repeat (first | (with_reducible first | exact HB.out | apply below_alloc | apply pw_below_drewN | apply below_drew1 | refine below_set ?_ GE233.out) | exact HB.out)⟩
  ·have H1 : (some false) = some r := by rw [if_neg (show ¬ (some q234).isNone = true by simp)] at H; exact H
   clear H
   have H := H1
   clear H1
   simp only [errW_none, errW_some]
   obtain rfl := Option.some.inj H
   go_enter Tryz.func16, Tryz.ntmps16
   go_wp2_with (first | ((with_reducible refine gate_dst (N := 3) rfl ?_); refine box_event ?hg (N := 3) ?hd (cs := #[.int .i64 a1_0, .int .i64 a1_1]) (t := 34) ?hr ?_; (case hd => rfl); (case hg => rfl); (case hr => first | (go_simp; done) | (go_simp; rfl)); intro gb233 hg w6 hbox hb; have n0_ := Aside0.mk (below_step q30_ hb); have n1_ := Aside0.mk (hbox); have n2_ := Aside0.mk ((by rw [hg]; exact (below_size q30_) : w.heap.size ≤ gb233)); have n3_ := Aside0.mk ((by rw [hg]; exact (below_size q30_) : w.heap.size ≤ gb233)); clear HB; have HB := n0_; have BK233 := n1_; have GW233 := n2_; have GE233 := n3_; clear n0_ n1_ n2_ n3_; clear hb hbox hg; obtain ⟨hcz7_0, hcz7_1⟩ := cells2_ BK233.out; obtain ⟨hfz7_0, hfz7_1⟩ := frz2_ BK233.out))
   go_ret
   exact ⟨by first | rfl | (simp [errW_none, errW_some] <;> rfl) | (simp [*, errW_none, errW_some] <;> rfl), by repeat (first | (with_reducible first | exact HB.out | apply below_alloc | apply pw_below_drewN | apply below_drew1 | refine below_set ?_ GE233.out) | exact HB.out)⟩
 ·rw [if_neg c3] at H
  have c3b0 : (a1_0 == 0) = false := beq_eq_false_iff_ne.mpr c3
  have c3b1 : (a1_0 != 0) = true := bne_iff_ne.mpr c3
  replace H := Option.bind_eq_some_iff.mp H
  obtain ⟨⟨t235, t236⟩, A80, H⟩ := H
  replace H : ((fault_At.f a0).bind fun bt237 => (if t236 = true then (if t235 = a1_0 then (if bt237.2 = true then (some (bt237.1 == a1_1)) else (some false)) else (some false)) else (some false))) = some r := H
  have A8 := Aside0.mk A80
  clear A80
  replace H := Option.bind_eq_some_iff.mp H
  obtain ⟨⟨t237, t238⟩, A90, H⟩ := H
  replace H : (if t236 = true then (if t235 = a1_0 then (if t238 = true then (some (t237 == a1_1)) else (some false)) else (some false)) else (some false)) = some r := H
  have A9 := Aside0.mk A90
  clear A90
  by_cases c10 : t236 = true
  ·subst c10
   have H1 : (if t235 = a1_0 then (if t238 = true then (some (t237 == a1_1)) else (some false)) else (some false)) = some r := by rw [if_pos rfl] at H; exact H
   clear H
   have H := H1
   clear H1
   by_cases c11 : t235 = a1_0
   ·rw [if_pos c11] at H
    have c11b0 : (t235 == a1_0) = true := beq_iff_eq.mpr c11
    have c11b1 : (t235 != a1_0) = false := bne_eq_false_iff_eq.mpr c11
    clear c11
    by_cases c12 : t238 = true
    ·subst c12
     have H1 : (some (t237 == a1_1)) = some r := by rw [if_pos rfl] at H; exact H
     clear H
     have H := H1
     clear H1
     obtain rfl := Option.some.inj H
     go_enter Tryz.func16, Tryz.ntmps16
     go_wp2_with (first | ((with_reducible refine gate_dst (N := 3) rfl ?_); refine box_event ?hg (N := 3) ?hd (cs := #[.int .i64 a1_0, .int .i64 a1_1]) (t := 34) ?hr ?_; (case hd => rfl); (case hg => rfl); (case hr => first | (go_simp; done) | (go_simp; rfl)); intro gb233 hg w13 hbox hb; have n0_ := Aside0.mk (below_step q30_ hb); have n1_ := Aside0.mk (hbox); have n2_ := Aside0.mk ((by rw [hg]; exact (below_size q30_) : w.heap.size ≤ gb233)); have n3_ := Aside0.mk ((by rw [hg]; exact (below_size q30_) : w.heap.size ≤ gb233)); clear HB; have HB := n0_; have BK233 := n1_; have GW233 := n2_; have GE233 := n3_; clear n0_ n1_ n2_ n3_; clear hb hbox hg; obtain ⟨hcz14_0, hcz14_1⟩ := cells2_ BK233.out; obtain ⟨hfz14_0, hfz14_1⟩ := frz2_ BK233.out; have CA8 := fun W => fault_Code.calls a0 t235 true W A8.out; try simp only [errW_none, errW_some] at CA8) | (go_at_call 33; (with_reducible refine (CA8 _ q8_).mono ?_); rintro e w15 ⟨rfl, hb⟩; have n0_ := Aside0.mk (blk_below (g := gb233) (o := .cells #[.int .i64 a1_0, .int .i64 a1_1] 34 (0, 0)) q35_ hb); have n1_ := Aside0.mk (below_step q23_ hb); clear BK233; clear HB; have BK233 := n0_; have HB := n1_; clear n0_ n1_; (try clear hb); (try clear hb2); (try clear hk); (try clear hi); have CA9 := fun W => fault_At.calls a0 t237 true W A9.out; try simp only [errW_none, errW_some] at CA9) | (go_at_call 34; (with_reducible refine (CA9 _).mono ?_); rintro e w16 ⟨rfl, hb⟩; have n0_ := Aside0.mk (blk_below (g := gb233) (o := .cells #[.int .i64 a1_0, .int .i64 a1_1] 34 (0, 0)) q35_ hb); have n1_ := Aside0.mk (below_step q23_ hb); clear BK233; clear HB; have BK233 := n0_; have HB := n1_; clear n0_ n1_; (try clear hb); (try clear hb2); (try clear hk); (try clear hi); obtain ⟨hcz17_0, hcz17_1⟩ := cells2_ BK233.out; obtain ⟨hfz17_0, hfz17_1⟩ := frz2_ BK233.out))
     go_ret
     exact ⟨by first | rfl | (simp [errW_none, errW_some] <;> rfl) | (simp [*, errW_none, errW_some] <;> rfl), by repeat (first | (with_reducible first | exact HB.out | apply below_alloc | apply pw_below_drewN | apply below_drew1 | refine below_set ?_ GE233.out) | exact HB.out)⟩
    ·replace c12 := Bool.eq_false_iff.mpr c12
     subst c12
     have H1 : (some false) = some r := by rw [if_neg (show ¬ (false = true) by decide)] at H; exact H
     clear H
     have H := H1
     clear H1
     obtain rfl := Option.some.inj H
     go_enter Tryz.func16, Tryz.ntmps16
     go_wp2_with (first | ((with_reducible refine gate_dst (N := 3) rfl ?_); refine box_event ?hg (N := 3) ?hd (cs := #[.int .i64 a1_0, .int .i64 a1_1]) (t := 34) ?hr ?_; (case hd => rfl); (case hg => rfl); (case hr => first | (go_simp; done) | (go_simp; rfl)); intro gb233 hg w18 hbox hb; have n0_ := Aside0.mk (below_step q30_ hb); have n1_ := Aside0.mk (hbox); have n2_ := Aside0.mk ((by rw [hg]; exact (below_size q30_) : w.heap.size ≤ gb233)); have n3_ := Aside0.mk ((by rw [hg]; exact (below_size q30_) : w.heap.size ≤ gb233)); clear HB; have HB := n0_; have BK233 := n1_; have GW233 := n2_; have GE233 := n3_; clear n0_ n1_ n2_ n3_; clear hb hbox hg; obtain ⟨hcz19_0, hcz19_1⟩ := cells2_ BK233.out; obtain ⟨hfz19_0, hfz19_1⟩ := frz2_ BK233.out; have CA8 := fun W => fault_Code.calls a0 t235 true W A8.out; try simp only [errW_none, errW_some] at CA8) | (go_at_call 33; (with_reducible refine (CA8 _ q8_).mono ?_); rintro e w20 ⟨rfl, hb⟩; have n0_ := Aside0.mk (blk_below (g := gb233) (o := .cells #[.int .i64 a1_0, .int .i64 a1_1] 34 (0, 0)) q35_ hb); have n1_ := Aside0.mk (below_step q23_ hb); clear BK233; clear HB; have BK233 := n0_; have HB := n1_; clear n0_ n1_; (try clear hb); (try clear hb2); (try clear hk); (try clear hi); have CA9 := fun W => fault_At.calls a0 t237 false W A9.out; try simp only [errW_none, errW_some] at CA9) | (go_at_call 34; (with_reducible refine (CA9 _).mono ?_); rintro e w21 ⟨rfl, hb⟩; have n0_ := Aside0.mk (blk_below (g := gb233) (o := .cells #[.int .i64 a1_0, .int .i64 a1_1] 34 (0, 0)) q35_ hb); have n1_ := Aside0.mk (below_step q23_ hb); clear BK233; clear HB; have BK233 := n0_; have HB := n1_; clear n0_ n1_; (try clear hb); (try clear hb2); (try clear hk); (try clear hi); obtain ⟨hcz22_0, hcz22_1⟩ := cells2_ BK233.out; obtain ⟨hfz22_0, hfz22_1⟩ := frz2_ BK233.out))
     go_ret
     exact ⟨by first | rfl | (simp [errW_none, errW_some] <;> rfl) | (simp [*, errW_none, errW_some] <;> rfl), by repeat (first | (with_reducible first | exact HB.out | apply below_alloc | apply pw_below_drewN | apply below_drew1 | refine below_set ?_ GE233.out) | exact HB.out)⟩
   ·rw [if_neg c11] at H
    have c11b0 : (t235 == a1_0) = false := beq_eq_false_iff_ne.mpr c11
    have c11b1 : (t235 != a1_0) = true := bne_iff_ne.mpr c11
    obtain rfl := Option.some.inj H
    go_enter Tryz.func16, Tryz.ntmps16
    go_wp2_with (first | ((with_reducible refine gate_dst (N := 3) rfl ?_); refine box_event ?hg (N := 3) ?hd (cs := #[.int .i64 a1_0, .int .i64 a1_1]) (t := 34) ?hr ?_; (case hd => rfl); (case hg => rfl); (case hr => first | (go_simp; done) | (go_simp; rfl)); intro gb233 hg w23 hbox hb; have n0_ := Aside0.mk (below_step q30_ hb); have n1_ := Aside0.mk (hbox); have n2_ := Aside0.mk ((by rw [hg]; exact (below_size q30_) : w.heap.size ≤ gb233)); have n3_ := Aside0.mk ((by rw [hg]; exact (below_size q30_) : w.heap.size ≤ gb233)); clear HB; have HB := n0_; have BK233 := n1_; have GW233 := n2_; have GE233 := n3_; clear n0_ n1_ n2_ n3_; clear hb hbox hg; obtain ⟨hcz24_0, hcz24_1⟩ := cells2_ BK233.out; obtain ⟨hfz24_0, hfz24_1⟩ := frz2_ BK233.out; have CA8 := fun W => fault_Code.calls a0 t235 true W A8.out; try simp only [errW_none, errW_some] at CA8) | (go_at_call 33; (with_reducible refine (CA8 _ q8_).mono ?_); rintro e w25 ⟨rfl, hb⟩; have n0_ := Aside0.mk (blk_below (g := gb233) (o := .cells #[.int .i64 a1_0, .int .i64 a1_1] 34 (0, 0)) q35_ hb); have n1_ := Aside0.mk (below_step q23_ hb); clear BK233; clear HB; have BK233 := n0_; have HB := n1_; clear n0_ n1_; (try clear hb); (try clear hb2); (try clear hk); (try clear hi); have CA9 := fun W => fault_At.calls a0 t237 t238 W A9.out; try simp only [errW_none, errW_some] at CA9) | (go_at_call 34; (with_reducible refine (CA9 _).mono ?_); rintro e w26 ⟨rfl, hb⟩; have n0_ := Aside0.mk (blk_below (g := gb233) (o := .cells #[.int .i64 a1_0, .int .i64 a1_1] 34 (0, 0)) q35_ hb); have n1_ := Aside0.mk (below_step q23_ hb); clear BK233; clear HB; have BK233 := n0_; have HB := n1_; clear n0_ n1_; (try clear hb); (try clear hb2); (try clear hk); (try clear hi); obtain ⟨hcz27_0, hcz27_1⟩ := cells2_ BK233.out; obtain ⟨hfz27_0, hfz27_1⟩ := frz2_ BK233.out))
    go_ret
    exact ⟨by first | rfl | (simp [errW_none, errW_some] <;> rfl) | (simp [*, errW_none, errW_some] <;> rfl), by repeat (first | (with_reducible first | exact HB.out | apply below_alloc | apply pw_below_drewN | apply below_drew1 | refine below_set ?_ GE233.out) | exact HB.out)⟩
  ·replace c10 := Bool.eq_false_iff.mpr c10
   subst c10
   have H1 : (some false) = some r := by rw [if_neg (show ¬ (false = true) by decide)] at H; exact H
   clear H
   have H := H1
   clear H1
   obtain rfl := Option.some.inj H
   go_enter Tryz.func16, Tryz.ntmps16
   go_wp2_with (first | ((with_reducible refine gate_dst (N := 3) rfl ?_); refine box_event ?hg (N := 3) ?hd (cs := #[.int .i64 a1_0, .int .i64 a1_1]) (t := 34) ?hr ?_; (case hd => rfl); (case hg => rfl); (case hr => first | (go_simp; done) | (go_simp; rfl)); intro gb233 hg w28 hbox hb; have n0_ := Aside0.mk (below_step q30_ hb); have n1_ := Aside0.mk (hbox); have n2_ := Aside0.mk ((by rw [hg]; exact (below_size q30_) : w.heap.size ≤ gb233)); have n3_ := Aside0.mk ((by rw [hg]; exact (below_size q30_) : w.heap.size ≤ gb233)); clear HB; have HB := n0_; have BK233 := n1_; have GW233 := n2_; have GE233 := n3_; clear n0_ n1_ n2_ n3_; clear hb hbox hg; obtain ⟨hcz29_0, hcz29_1⟩ := cells2_ BK233.out; obtain ⟨hfz29_0, hfz29_1⟩ := frz2_ BK233.out; have CA8 := fun W => fault_Code.calls a0 t235 false W A8.out; try simp only [errW_none, errW_some] at CA8) | (go_at_call 33; (with_reducible refine (CA8 _ q8_).mono ?_); rintro e w30 ⟨rfl, hb⟩; have n0_ := Aside0.mk (blk_below (g := gb233) (o := .cells #[.int .i64 a1_0, .int .i64 a1_1] 34 (0, 0)) q35_ hb); have n1_ := Aside0.mk (below_step q23_ hb); clear BK233; clear HB; have BK233 := n0_; have HB := n1_; clear n0_ n1_; (try clear hb); (try clear hb2); (try clear hk); (try clear hi); have CA9 := fun W => fault_At.calls a0 t237 t238 W A9.out; try simp only [errW_none, errW_some] at CA9) | (go_at_call 34; (with_reducible refine (CA9 _).mono ?_); rintro e w31 ⟨rfl, hb⟩; have n0_ := Aside0.mk (blk_below (g := gb233) (o := .cells #[.int .i64 a1_0, .int .i64 a1_1] 34 (0, 0)) q35_ hb); have n1_ := Aside0.mk (below_step q23_ hb); clear BK233; clear HB; have BK233 := n0_; have HB := n1_; clear n0_ n1_; (try clear hb); (try clear hb2); (try clear hk); (try clear hi)))
   go_ret
   exact ⟨by first | rfl | (simp [errW_none, errW_some] <;> rfl) | (simp [*, errW_none, errW_some] <;> rfl), by repeat (first | (with_reducible first | exact HB.out | apply below_alloc | apply pw_below_drewN | apply below_drew1 | refine below_set ?_ GE233.out) | exact HB.out)⟩
theorem rest_ok {w0 w : World} {g : Nat} {l : List Int} {p : Nat} (h : RD w0 w g l p) :
  Calls Tryz.prog 43 #[.pointer (some ⟨g, 0, none⟩)] w fun e w' => ∃ v, e = .returned v ∧ Kd.R (Kd.int .u8) 5 w' w.heap.size (fun _ => True) v (l.drop p) ∧ RD w0 w' g l l.length ∧ KeepBut w w' g none := by
 have hp : p ≤ l.length := h.choose_spec.choose_spec.2.2.1
 have hl := left_q h
 go_enter Tryz.func43, Tryz.ntmps43
 go_wp2_with (first | (go_at_call 62; refine hl.mono ?_; rintro e w1 ⟨rfl, m, rfl⟩) | (go_at_call 53; refine (take_ok (w0 := w0) (w := w.drewN m) (g := g) (l := l) (p := p) (h.drewN m) (l.length - p) (by omega)).mono ?_; rintro e w2 ⟨v, rfl, hR, hD, hK⟩; have HR := Aside0.mk hR; have HD := Aside0.mk hD; have HK := Aside0.mk hK; clear hR hD hK))
 go_ret
 have e1 : (l.drop p).take (l.length - p) = l.drop p := List.take_of_length_le (by simp)
 have e2 : p + (l.length - p) = l.length := by omega
 have HR' := HR.out
 have HD' := HD.out
 rw [e1] at HR'
 rw [e2] at HD'
 exact ⟨v, rfl, HR', HD', HK.out⟩
end Go.Proofs.YtgmnknhfeoleaaaGreatDoor.PXmss
