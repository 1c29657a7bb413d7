import Derived.Test.YthdjmojpnimhjaaDoorZQ
import Derived.Test.YthdjmojpnimhjaaDoorZPCbgx0
namespace Go.Proofs.YthdjmojpnimhjaaDoor.PCbg
open Go.RowKit Go.Proofs.YthdjmojpnimhjaaDoorW.PrintWords Go.Proofs.YthdjmojpnimhjaaDoorW.PrintLast Go.Proofs.YthdjmojpnimhjaaDoorW.PrintMore
attribute [local go_sem] max2_int min2_int max_two min_two max_three min_three max_four min_four
set_option linter.unusedVariables false
set_option linter.unusedSimpArgs false
def wire_width.f (a0 : Int) : Option (Bool) := if a0 = 1 then (some true) else (if a0 = 2 then (some true) else (if a0 = 4 then (some true) else (some (a0 == 8))))
set_option maxHeartbeats 8000000 in
set_option maxRecDepth 100000 in
theorem wire_width.calls (a0 : Int) (r : Bool) (w : World) (h : wire_width.f a0 = some r) :
  Calls Tryd.prog 115 #[.int .i64 a0] w fun e w' => e = .returned (.bool r) ∧ Drawn0 w w' := by
 have H : (if a0 = 1 then (some true) else (if a0 = 2 then (some true) else (if a0 = 4 then (some true) else (some (a0 == 8))))) = some r := h
 clear h
 by_cases c2 : a0 = 1
 ·rw [if_pos c2] at H
  have c2b0 : (a0 == 1) = true := beq_iff_eq.mpr c2
  have c2b1 : (a0 != 1) = false := bne_eq_false_iff_eq.mpr c2
  clear c2
  obtain rfl := Option.some.inj H
  go_enter Tryd.func115, Tryd.ntmps115
  go_wp2
  go_ret
  exact ⟨by first | rfl | (simp; done) | (simp [*]; done), by repeat (first | exact Drawn0.refl _ | apply Drawn0.step)⟩
 ·rw [if_neg c2] at H
  have c2b0 : (a0 == 1) = false := beq_eq_false_iff_ne.mpr c2
  have c2b1 : (a0 != 1) = true := bne_iff_ne.mpr c2
  by_cases c3 : a0 = 2
  ·rw [if_pos c3] at H
   have c3b0 : (a0 == 2) = true := beq_iff_eq.mpr c3
   have c3b1 : (a0 != 2) = false := bne_eq_false_iff_eq.mpr c3
   clear c3
   obtain rfl := Option.some.inj H
   go_enter Tryd.func115, Tryd.ntmps115
   go_wp2
   go_ret
   exact ⟨by first | rfl | (simp; done) | (simp [*]; done), by repeat (first | exact Drawn0.refl _ | apply Drawn0.step)⟩
  ·rw [if_neg c3] at H
   have c3b0 : (a0 == 2) = false := beq_eq_false_iff_ne.mpr c3
   have c3b1 : (a0 != 2) = true := bne_iff_ne.mpr c3
   by_cases c4 : a0 = 4
   ·rw [if_pos c4] at H
    have c4b0 : (a0 == 4) = true := beq_iff_eq.mpr c4
    have c4b1 : (a0 != 4) = false := bne_eq_false_iff_eq.mpr c4
    clear c4
    obtain rfl := Option.some.inj H
    go_enter Tryd.func115, Tryd.ntmps115
    go_wp2
    go_ret
    exact ⟨by first | rfl | (simp; done) | (simp [*]; done), by repeat (first | exact Drawn0.refl _ | apply Drawn0.step)⟩
   ·rw [if_neg c4] at H
    have c4b0 : (a0 == 4) = false := beq_eq_false_iff_ne.mpr c4
    have c4b1 : (a0 != 4) = true := bne_iff_ne.mpr c4
    obtain rfl := Option.some.inj H
    go_enter Tryd.func115, Tryd.ntmps115
    go_wp2
    go_ret
    exact ⟨by first | rfl | (simp; done) | (simp [*]; done), by repeat (first | exact Drawn0.refl _ | apply Drawn0.step)⟩
def slices_Clone.f (l0 : List Int) : Option (List Int) := if l0.length < 140737488355328 then some l0 else none
set_option maxHeartbeats 8000000 in
set_option maxRecDepth 100000 in
theorem slices_Clone.calls (A0 : Option Addr) (c0 : Nat) (l0 : List Int) (r : List Int) (w : World) (hr0 : Kd.C (Kd.int .u8) w A0 l0.length l0) (hc0 : l0.length ≤ c0) (h : slices_Clone.f l0 = some r) :
  Calls Tryd.prog 85 #[.slice A0 l0.length c0] w fun e w' => ∃ v0_ : Value, e = .returned v0_ ∧ Kd.R (Kd.int .u8) 5 w' w.heap.size (fun _ => True) v0_ r ∧ Below w.heap.size w w' := by
 unfold slices_Clone.f at h
 by_cases cl : l0.length < 140737488355328
 ·rw [if_pos cl] at h
  obtain rfl := Option.some.inj h
  clear h
  have q1 : ∀ (W : World) (a : Option Addr) (n c n' c' : Nat), (binOp .eql 22 (.slice a n c) (.slice none n' c')).run Tryd.prog W = .ok (.bool a.isNone) W := fun W a n c n' c' => Lib.run_eql_slice_nil W _ _ a n c n' c' Tryd.underlying22
  cases A0 with
  | none =>
   obtain rfl : l0 = [] := by
    cases l0 with
    | nil => rfl
    | cons x xs =>
     obtain ⟨ad, ea, _⟩ := Kd.at_int hr0 0 (by omega) (by simp)
     cases ea
   go_enter Tryd.func85, Tryd.ntmps85
   go_wp2
   go_ret
   exact ⟨_, rfl, Kd.R_nil _ _ _ _ _, Below.refl _ _⟩
  | some ad =>
   have HR0 := Aside0.mk hr0
   clear hr0
   go_enter Tryd.func85, Tryd.ntmps85
   go_wp2_with (first | ((with_reducible refine gate_dst (N := 5) rfl ?_); refine Kd.R_lit (Kd.int .u8) _ 5 ?hg (N := 5) ?hd (xs := ([] : List Int)) (inner := []) (ok := fun _ => True) (okp := fun _ => True) ?hr ?hp (fun _ hk => hk) trivial (Below.refl _ _) (Nat.le_refl _) (by simp) ?_; (case hd => rfl); (case hg => rfl); (case hr => first | (go_simp; done) | (go_simp; rfl)); (case hp => exact (Reps.none _ _)); intro v1 w1 ho hb hg_ hnew_; clear hg_ hnew_; have HO := Aside0.mk ho; have HB := Aside0.mk hb; clear ho hb) | ((with_reducible refine gate_builtin (b := .append) (xs := #[.tmp 5, .tmp 6]) rfl ?_); at_builtin; refine Kd.R_append_rows (Kd.int .u8) (w0 := w) w.heap.size rfl (.tmp 5) (.tmp 6) 22 5 (.int .u8 0) 1 rfl Tryd.underlying22 info5 rfl (by decide) (by omega) v1 ([] : List Int) l0 _ _ _ (fun _ => True) (fun _ => False) rfl rfl ?aO ?aR (fun _ _ h => h) (fun _ h => h.elim) ?aF ?aB ?aS ?aL ?_; (case aO => exact HO.out); (case aR => exact Kd.C_below HR0.out HB.out); (case aF => exact fun _ _ => trivial); (case aB => exact HB.out); (case aS => exact below_size HB.out); (case aL => rw [List.length_nil]; omega); intro v2 w2 ho hb _ _; rw [List.nil_append] at ho; have HO2 := Aside0.mk ho; have HB2 := Aside0.mk hb; clear ho hb))
   go_ret
   exact ⟨_, rfl, HO2.out, HB2.out⟩
 ·rw [if_neg cl] at h
  cases h
def IsS130 (w0 W : World) (g : Nat) (f0 : List Int) (f1 : Int) : Prop := ∃ A0 c0, W.heap[g]? = some (.cells #[.slice A0 f0.length c0, .int .i64 f1] 130 (0, 0)) ∧ w0.heap.size ≤ g ∧ (Kd.C (Kd.int .u8) w0 A0 f0.length f0 ∧ f0.length ≤ c0)
theorem IsS130.grown {w0 W : World} {g : Nat} {f0 : List Int} {f1 : Int} {W1 : World} {row : Option Nat} (h : IsS130 w0 W g f0 f1) (hw : W.grownBy W1 row) (hne : some g ≠ row) : IsS130 w0 W1 g f0 f1 := by
 obtain ⟨A0, c0, hb, hg, hr0⟩ := h
 exact ⟨A0, c0, blk_grown hb hw hne, hg, hr0⟩
theorem IsS130.kept {w0 W : World} {g : Nat} {f0 : List Int} {f1 : Int} {W1 : World} {S : Nat → Prop} (h : IsS130 w0 W g f0 f1) (hk : Kept W W1 S) (hne : ¬ S g) : IsS130 w0 W1 g f0 f1 := by
 obtain ⟨A0, c0, hb, hg, hr0⟩ := h
 exact ⟨A0, c0, blk_kept hb hk hne, hg, hr0⟩
theorem IsS130.below {w0 W : World} {g : Nat} {f0 : List Int} {f1 : Int} {W1 : World} (h : IsS130 w0 W g f0 f1) (hw : Below W.heap.size W W1) : IsS130 w0 W1 g f0 f1 := h.grown (grown_of_below hw none) (by simp)
theorem IsS130.alloc {w0 W : World} {g : Nat} {f0 : List Int} {f1 : Int} (h : IsS130 w0 W g f0 f1) (o : Obj) : IsS130 w0 (W.alloc o) g f0 f1 := h.below (below_alloc (Below.refl _ _) o)
theorem IsS130.drewN {w0 W : World} {g : Nat} {f0 : List Int} {f1 : Int} (h : IsS130 w0 W g f0 f1) (m : Nat) : IsS130 w0 (W.drewN m) g f0 f1 := h
theorem IsS130.drew {w0 W : World} {g : Nat} {f0 : List Int} {f1 : Int} (h : IsS130 w0 W g f0 f1) : IsS130 w0 W.drew g f0 f1 := h
theorem IsS130.at_ {w0 W : World} {g : Nat} {f0 : List Int} {f1 : Int} {w' : World} {m : Nat} (hq : W.drewN m = w') (h : IsS130 w0 W g f0 f1) : IsS130 w0 w' g f0 f1 := by subst hq; exact IsS130.drewN h m
theorem IsS130.apart {w0 W : World} {g : Nat} {f0 : List Int} {f1 : Int} {α : Type} {d : Kd α} {e : Nat} {base : Nat} {ok : Nat → Prop} {v : Value} {xs : List α} (h : IsS130 w0 W g f0 f1) (ho : d.R e W base ok v xs) (ht : ∀ q, q ∈ e :: d.E → q ≠ 130) : d.R e W base (fun k => ok k ∧ k ≠ g) v xs := by
 obtain ⟨A0, c0, hb, hg, hr0⟩ := h
 exact Kd.R_types ho hb ht
theorem IsS130.own_ne {w0 W : World} {g : Nat} {f0 : List Int} {f1 : Int} {α : Type} {d : Kd α} {e : Nat} {base : Nat} {ok : Nat → Prop} {v : Value} {xs : List α} (h : IsS130 w0 W g f0 f1) (ho : d.R e W base ok v xs) (ht : e ≠ 130) : some g ≠ v.ownBlock := by
 obtain ⟨A0, c0, hb, hg, hr0⟩ := h
 exact Kd.R_ne ho hb ht
theorem IsS130.lt {w0 W : World} {g : Nat} {f0 : List Int} {f1 : Int} (h : IsS130 w0 W g f0 f1) : g < W.heap.size := by
 obtain ⟨A0, c0, hb, hg, hr0⟩ := h
 exact blk_lt hb
theorem IsS130.ge {w0 W : World} {g : Nat} {f0 : List Int} {f1 : Int} (h : IsS130 w0 W g f0 f1) : w0.heap.size ≤ g := by
 obtain ⟨A0, c0, hb, hg, hr0⟩ := h
 exact hg
theorem IsS130.far {w0 W : World} {g : Nat} {f0 : List Int} {f1 : Int} {p : Addr} (h : IsS130 w0 W g f0 f1) (hne : g ≠ p.block) (u : Value) : IsS130 w0 (W.setCell p u) g f0 f1 := by
 obtain ⟨A0, c0, hb, hg, hr0⟩ := h
 exact ⟨A0, c0, blk_far hb hne u, hg, hr0⟩
def RD (w0 W : World) (g : Nat) (l : List Int) (p : Nat) : Prop :=
 ∃ (A : Option Addr) (c : Nat), W.heap[g]? = some (.cells #[.slice A l.length c, .int .i64 (p : Int)] 130 (0, 0)) ∧ Kd.R (Kd.int .u8) 5 W w0.heap.size (fun k => k ≠ g) (.slice A l.length c) l ∧ p ≤ l.length ∧ l.length < 1000000000000 ∧ w0.heap.size ≤ g ∧ Below w0.heap.size w0 W
theorem RD.below {w0 W W' : World} {g : Nat} {l : List Int} {p : Nat} (h : RD w0 W g l p) (hb : Below W.heap.size W W') : RD w0 W' g l p := by
 obtain ⟨A, c, h1, h2, h3, h4, h5, h6⟩ := h
 exact ⟨A, c, blk_below h1 hb, Kd.R_below h2 hb, h3, h4, h5, below_step h6 hb⟩
theorem RD.drewN {w0 W : World} {g : Nat} {l : List Int} {p : Nat} (h : RD w0 W g l p) (m : Nat) : RD w0 (W.drewN m) g l p := by
 obtain ⟨A, c, h1, h2, h3, h4, h5, h6⟩ := h
 exact ⟨A, c, h1, Kd.R_drewN h2 m, h3, h4, h5, pw_below_drewN h6 m⟩
theorem RD.all {w0 W : World} {g : Nat} {l : List Int} {p : Nat} (h : RD w0 W g l p) : Below w0.heap.size w0 W := by
 obtain ⟨A, c, h1, h2, h3, h4, h5, h6⟩ := h
 exact h6
theorem RD.row {w0 W : World} {g : Nat} {l : List Int} {p : Nat} (h : RD w0 W g l p) {b : Nat} {ok : Nat → Prop} {v : Value} {xs : List Int} (hr : Kd.R (Kd.int .u8) 5 W b ok v xs) : Kd.R (Kd.int .u8) 5 W b (fun k => k ≠ g) v xs := by
 obtain ⟨A, c, h1, h2, h3, h4, h5, h6⟩ := h
 exact Kd.R_mono (Kd.R_types hr h1 (by decide)) (fun _ h => h.2)
theorem RD.set {w0 W : World} {g : Nat} {l : List Int} {p : Nat} (h : RD w0 W g l p) {q : Nat} (hq : q ≤ l.length) : RD w0 (W.setCell ⟨g, 1, none⟩ (.int .i64 (q : Int))) g l q := by
 obtain ⟨A, c, h1, h2, h3, h4, h5, h6⟩ := h
 exact ⟨A, c, by simpa using blk_set h1 1 (.int .i64 (q : Int)), Kd.R_far h2 (fun _ hk => hk) _, hq, h4, h5, below_set h6 h5⟩
theorem cut_lhm {P : Program} (t e : TypeId) {i : TypeInfo} (ht : P.underlying t = some (.slice e)) (hi : P.info? e = some i) (hsz : i.size = 1) (A : Option Addr) (n c p m : Nat) (h2 : p + m ≤ c) :
  ∀ W : World, (Instr.slice t (.slice A n c) (some (.int .i64 (p : Int))) (some (.int .i64 ((p + m : Nat) : Int))) (some (.int .i64 ((p + m : Nat) : Int)))).run P W = .ok (.slice (if m = 0 then A else A.map (·.add (p * 1))) m m) W := by
 intro W
 have hel : P.elem t = e := by simp [Program.elem, ht]
 have hu : P.underlying t = some (.slice (P.elem t)) := by rw [hel]; exact ht
 rw [run_slice_lhm W t A n c hu .i64 .i64 .i64 (p : Int) ((p + m : Nat) : Int) ((p + m : Nat) : Int) (by omega) (by omega) (by omega) (by omega), hel]
 simp [sizeOf, typeInfo, hi, hsz, sliced, Result.andThen]
 have e1 : ((p : Int) + (m : Int)).toNat = p + m := by omega
 rw [e1]
 refine ⟨?_, by omega⟩
 by_cases hm : m = 0
 ·rw [if_pos (by omega), if_pos hm]
 ·rw [if_neg (by omega), if_neg hm]
theorem cut_C {W : World} {A : Option Addr} {l : List Int} {c p m : Nat} (h : Kd.C (Kd.int .u8) W A l.length l) (hp : p + m ≤ l.length) (hc : l.length ≤ c) :
  Kd.C (Kd.int .u8) W (if m = 0 then A else A.map (·.add (p * 1))) ((l.drop p).take m).length ((l.drop p).take m) := by
 have e : (l.drop p).take m = (l.take (p + m)).drop p := by rw [List.drop_take]; simp
 have h2 := Kd.C_mid (lo := p) (hi := p + m) (c := c) h (by omega) hp hc
 rw [← e] at h2
 by_cases hm : m = 0
 ·subst hm
  rw [List.take_zero]
  exact ⟨rfl, by simp, fun h => absurd h (by simp)⟩
 ·rw [if_neg (show ¬ c = p by omega)] at h2
  rw [if_neg hm]
  exact h2
theorem wire_New.calls (A0 : Option Addr) (c0 : Nat) (l0 : List Int) (w0 w : World) (hB : Below w0.heap.size w0 w) (hr0 : Kd.C (Kd.int .u8) w A0 l0.length l0) (hc0 : l0.length ≤ c0) (hl : l0.length < 1000000000000) :
  Calls Tryd.prog 51 #[.slice A0 l0.length c0] w fun e w' => ∃ g, e = .returned (.pointer (some ⟨g, 0, none⟩)) ∧ RD w0 w' g l0 0 ∧ Below w.heap.size w w' := by
 go_enter Tryd.func51, Tryd.ntmps51
 go_wp2_with (go_at_call 85; refine (slices_Clone.calls A0 c0 l0 l0 _ hr0 hc0 (by rw [slices_Clone.f, if_pos (by omega)])).mono ?_)
 rintro e w1 ⟨v, rfl, hR, hb⟩
 obtain ⟨A, c, rfl⟩ := Kd.R_slice hR
 go_wp2
 go_ret
 have hbk : (w1.alloc (.cells #[.slice A l0.length c, .int .i64 0] 130)).heap[w1.heap.size]? = some (.cells #[.slice A l0.length c, .int .i64 0] 130 (0, 0)) := by simpa using heap_alloc_new w1 _
 exact ⟨w1.heap.size, rfl, ⟨A, c, hbk, Kd.R_lower (Kd.R_mono (Kd.R_types (Kd.R_alloc hR _) hbk (by decide)) (fun _ h => h.2)) hB.size, by omega, hl, Nat.le_trans hB.size hb.size, below_step hB (below_alloc hb _)⟩, below_alloc hb _⟩
theorem left_q {w0 w : World} {g : Nat} {l : List Int} {p : Nat} (h : RD w0 w g l p) :
  Calls Tryd.prog 53 #[.pointer (some ⟨g, 0, none⟩)] w fun e w' => e = .returned (.int .i64 ((l.length - p : Nat) : Int)) ∧ ∃ m, w' = w.drewN m := by
 obtain ⟨A, c, h1, h2, h3, h4, h5, h6⟩ := h
 have c0 : w.cell? ⟨g, 0, none⟩ = some (.slice A l.length c) := (blk_cell h1 0).trans rfl
 have c1 : w.cell? ⟨g, 1, none⟩ = some (.int .i64 (p : Int)) := (blk_cell h1 1).trans rfl
 have e1 : wrap64 ((l.length : Int) - (p : Int)) = ((l.length - p : Nat) : Int) := by unfold wrap64; omega
 go_enter Tryd.func53, Tryd.ntmps53
 go_wp2
 repeat (go_quiet (fail); try go_wp2)
 go_ret
 exact ⟨congrArg (fun z => Ending.returned (.int .i64 z)) (show (l.length : Int) - (p : Int) = ((l.length - p : Nat) : Int) by omega), _, rfl⟩
theorem at_q {w0 w : World} {g : Nat} {l : List Int} {p : Nat} (h : RD w0 w g l p) :
  Calls Tryd.prog 54 #[.pointer (some ⟨g, 0, none⟩)] w fun e w' => e = .returned (.int .i64 (p : Int)) ∧ w' = w := by
 obtain ⟨A, c, h1, h2, h3, h4, h5, h6⟩ := h
 have c1 : w.cell? ⟨g, 1, none⟩ = some (.int .i64 (p : Int)) := (blk_cell h1 1).trans rfl
 go_enter Tryd.func54, Tryd.ntmps54
 go_wp2
 go_ret
 exact ⟨rfl, rfl⟩
theorem take_no {w0 w : World} {g : Nat} {l : List Int} {p : Nat} (h : RD w0 w g l p) (n : Int) (hn : n < 0 ∨ ((l.length - p : Nat) : Int) < n) :
  Calls Tryd.prog 116 #[.pointer (some ⟨g, 0, none⟩), .int .i64 n] w fun e w' => e = .returned (.tuple #[.slice none 0 0, .bool false]) ∧ ∃ m, w' = w.drewN m := by
 by_cases c : n < 0
 ·have cb : decide (n < 0) = true := decide_eq_true c
  go_enter Tryd.func116, Tryd.ntmps116
  go_wp2
  go_ret2
  exact ⟨rfl, 0, rfl⟩
 ·have cb : decide (n < 0) = false := decide_eq_false c
  have hl := left_q h
  generalize hz : ((l.length - p : Nat) : Int) = z at hl hn
  have cc : decide (z < n) = true := decide_eq_true (by omega)
  go_enter Tryd.func116, Tryd.ntmps116
  go_wp2_with (go_at_call 53; refine hl.mono ?_; rintro e w1 ⟨rfl, m, rfl⟩)
  go_wp2
  go_ret2
  exact ⟨rfl, m, rfl⟩
set_option maxHeartbeats 4000000 in
theorem take_ok {w0 w : World} {g : Nat} {l : List Int} {p : Nat} (h : RD w0 w g l p) (n : Nat) (hn : p + n ≤ l.length) :
  Calls Tryd.prog 116 #[.pointer (some ⟨g, 0, none⟩), .int .i64 (n : Int)] w fun e w' => ∃ v, e = .returned (.tuple #[v, .bool true]) ∧ Kd.R (Kd.int .u8) 5 w' w.heap.size (fun _ => True) v ((l.drop p).take n) ∧ RD w0 w' g l (p + n) ∧ KeepBut w w' g none := by
 have hl := left_q h
 obtain ⟨i0, hi0, _, hsz, _⟩ := info_parts info5
 obtain ⟨A, c, h1, h2, h3, h4, h5, h6⟩ := h
 have hc0 : w.cell? ⟨g, 0, none⟩ = some (.slice A l.length c) := (blk_cell h1 0).trans rfl
 have hc1 : w.cell? ⟨g, 1, none⟩ = some (.int .i64 (p : Int)) := (blk_cell h1 1).trans rfl
 have hf1 := blk_frozen h1 1
 obtain ⟨_, hcap, hC⟩ := Kd.R_reads' h2
 have hcut := cut_lhm (P := Tryd.prog) 22 5 Tryd.underlying22 hi0 hsz A l.length c p n (by omega)
 have cb : decide ((n : Int) < 0) = false := decide_eq_false (by omega)
 generalize hz : ((l.length - p : Nat) : Int) = z at hl
 have cc : decide (z < (n : Int)) = false := decide_eq_false (by omega)
 have e1 : wrap64 ((p : Int) + (n : Int)) = ((p + n : Nat) : Int) := by unfold wrap64; omega
 go_enter Tryd.func116, Tryd.ntmps116
 go_wp2_with (go_at_call 53; refine hl.mono ?_; rintro e w1 ⟨rfl, m, rfl⟩)
 clear hl
 have HX := Aside0.mk h2
 have HC := Aside0.mk hC
 clear h2 hC hi0 hsz
 go_quiet (fail)
 obtain ⟨A', hA'⟩ : ∃ A', A' = (if p + n = p then A else Option.map (fun x => x.add p) A) := ⟨_, rfl⟩
 have en : p + n - p = n := by omega
 rw [← hA', en]
 have HA := Aside0.mk hA'
 clear hA' en hcut cc cb
 have hc1' : ((w.drewN m).drewN nq).cell? ⟨g, 1, none⟩ = some (.int .i64 (p : Int)) := hc1
 have hf1' : ((w.drewN m).drewN nq).frozen? ⟨g, 1, none⟩ = false := hf1
 generalize hW : (w.drewN m).drewN nq = W at hc1' hf1' ⊢
 have HW := Aside0.mk hW
 clear hW hc0 hc1 hf1
 have hb0 : Below w.heap.size w W := by rw [← HW.out]; exact pw_below_drewN (pw_below_drewN (Below.refl _ _) _) _
 have h1' : W.heap[g]? = some (.cells #[.slice A l.length c, .int .i64 (p : Int)] 130 (0, 0)) := blk_below h1 hb0
 have hR1 := Kd.R_far (p := ⟨g, 1, none⟩) (Kd.R_below HX.out hb0) (fun _ hk => hk) (.int .i64 ((p : Int) + (n : Int)))
 have hlen : ((l.drop p).take n).length = n := by simp; omega
 have hcl := slices_Clone.calls A' n ((l.drop p).take n) ((l.drop p).take n) (W.setCell ⟨g, 1, none⟩ (.int .i64 ((p : Int) + (n : Int)))) (by
  have h_ := cut_C (p := p) (m := n) (Kd.R_reads' hR1).2.2 hn hcap
  have e_ : (if n = 0 then A else A.map (·.add (p * 1))) = A' := by
   rw [HA.out]
   by_cases q : n = 0
   ·rw [if_pos q, if_pos (by omega)]
   ·rw [if_neg q, if_neg (by omega)]; simp
  rw [e_] at h_
  exact h_) (by omega) (by rw [slices_Clone.f, if_pos (by omega)])
 rw [hlen] at hcl
 have HR1 := Aside0.mk hR1
 have HB0 := Aside0.mk hb0
 have H1 := Aside0.mk h1'
 clear hR1 hb0 h1' hlen h1
 go_wp2_with (go_at_call 85; refine hcl.mono ?_; rintro e w2 ⟨v, rfl, hR, hb⟩; have HR := Aside0.mk hR; have HB := Aside0.mk hb; clear hR hb hcl)
 go_ret2
 have hRD : RD w0 (W.setCell ⟨g, 1, none⟩ (.int .i64 ((p : Int) + (n : Int)))) g l (p + n) := ⟨A, c, by simpa using blk_set H1.out 1 (.int .i64 ((p : Int) + (n : Int))), HR1.out, hn, h4, h5, below_set (below_step h6 HB0.out) h5⟩
 have hK := KeepBut.set_ (KeepBut.of_below HB0.out g none) 1 (.int .i64 ((p : Int) + (n : Int)))
 exact ⟨v, rfl, Kd.R_lower HR.out hK.1, hRD.below HB.out, KeepBut.trans hK (KeepBut.of_below HB.out g none) (.inl rfl)⟩
theorem word_no {w0 w : World} {g : Nat} {l : List Int} {p : Nat} (h : RD w0 w g l p) (n : Int) (hw : wire_width.f n = some true) (hn : ((l.length - p : Nat) : Int) < n) :
  Calls Tryd.prog 86 #[.pointer (some ⟨g, 0, none⟩), .int .i64 n] w fun e w' => e = .returned (.tuple #[.int .u64 0, .bool false]) ∧ ∃ m, w' = w.drewN m := by
 go_enter Tryd.func86, Tryd.ntmps86
 go_wp2_with (first | (go_at_call 115; refine (wire_width.calls n true _ hw).mono ?_; rintro e w1 ⟨rfl, m, rfl⟩) | (go_at_call 116; refine (take_no (w := w.drewN m) (h.drewN m) n (.inr hn)).mono ?_; rintro e w2 ⟨rfl, m2, rfl⟩))
 refine wp_loop_rounds 1 ?_
 rw [rounds_succ]
 go_wp2
 go_ret2
 exact ⟨rfl, _, rfl⟩
def v256 (l : List Int) : Int := l.foldl (fun x c => x * 256 + c) 0
theorem v256_snoc (l : List Int) (c : Int) : v256 (l ++ [c]) = v256 l * 256 + c := by simp [v256]
theorem v256_go : ∀ (l : List Int) (a : Int), 0 ≤ a → (∀ x ∈ l, 0 ≤ x ∧ x < 256) → 0 ≤ l.foldl (fun x c => x * 256 + c) a ∧ l.foldl (fun x c => x * 256 + c) a < (a + 1) * 256 ^ l.length := by
 intro l
 induction l with
 | nil => intro a h _; simp; omega
 | cons c l ih =>
  intro a h hl
  have hc := hl c (by simp)
  obtain ⟨h0, h1⟩ := ih (a * 256 + c) (by omega) (fun x hx => hl x (by simp [hx]))
  refine ⟨h0, Int.lt_of_lt_of_le h1 ?_⟩
  rw [List.length_cons, Int.pow_succ, Int.mul_comm (256 ^ l.length) 256, ← Int.mul_assoc]
  exact Int.mul_le_mul_of_nonneg_right (by omega) (Int.pow_nonneg (by decide))
theorem v256_bd (l : List Int) (h : ∀ x ∈ l, 0 ≤ x ∧ x < 256) : 0 ≤ v256 l ∧ v256 l < 256 ^ l.length := by
 have := v256_go l 0 (by decide) h
 rw [Int.zero_add, Int.one_mul] at this
 exact this
theorem pow256 {m : Nat} (h : m ≤ 7) : (256 : Int) ^ m ≤ 72057594037927936 := by
 have : ∀ m : Fin 8, (256 : Int) ^ m.val ≤ 72057594037927936 := by decide
 exact this ⟨m, by omega⟩
theorem shl8 {x : Int} (h0 : 0 ≤ x) (h1 : x < 72057594037927936) : shl .u64 x 8 = x * 256 := by
 unfold shl
 rw [show ((8 : Int).toNat) = 8 from rfl, Nat.min_eq_left (by simp [IntKind.bits]), show (2 : Int) ^ 8 = 256 from rfl, IntKind.wrap_u64]
 omega
theorem or8 {x c : Int} (h0 : 0 ≤ x) (h1 : x < 72057594037927936) (c0 : 0 ≤ c) (c1 : c < 256) : Go.bits .or .u64 (x * 256) c = x * 256 + c :=
 bits_join .u64 64 (by decide) (fun n a b => by rw [IntKind.wrap_u64]; omega) 8 (x * 256) c (by omega) (by omega) (by omega) c0 c1 (by omega)
set_option maxHeartbeats 4000000 in
theorem word_ok {w0 w : World} {g : Nat} {l : List Int} {p : Nat} (h : RD w0 w g l p) (hby : ∀ x ∈ l, 0 ≤ x ∧ x < 256) (n : Nat) (hn8 : n ≤ 8) (hw : wire_width.f (n : Int) = some true) (hn : p + n ≤ l.length) :
  Calls Tryd.prog 86 #[.pointer (some ⟨g, 0, none⟩), .int .i64 (n : Int)] w fun e w' => e = .returned (.tuple #[.int .u64 (v256 ((l.drop p).take n)), .bool true]) ∧ RD w0 w' g l (p + n) ∧ KeepBut w w' g none := by
 generalize hL : (l.drop p).take n = L
 have hLl : L.length = n := by rw [← hL]; simp; omega
 have hLb : ∀ x ∈ L, 0 ≤ x ∧ x < 256 := fun x hx => hby x (by rw [← hL] at hx; exact List.mem_of_mem_drop (List.mem_of_mem_take hx))
 have HLB := Aside0.mk hLb
 clear hLb
 go_enter Tryd.func86, Tryd.ntmps86
 go_wp2_with (first | (go_at_call 115; refine (wire_width.calls (n : Int) true _ hw).mono ?_; rintro e w1 ⟨rfl, m, rfl⟩) | (go_at_call 116; refine (take_ok (w := w.drewN m) (h.drewN m) n hn).mono ?_; rintro e w2 ⟨v, rfl, hR, hD, hK⟩; rw [hL] at hR; obtain ⟨A, c, rfl⟩ := Kd.R_slice hR; have HR := Aside0.mk hR; have HD := Aside0.mk hD; have HK := Aside0.mk hK; clear hR hD hK))
 have hC := (Kd.R_reads' HR.out).2.2
 have HC := Aside0.mk hC
 clear hC
 go_loopg [8, 22] n (fun kq v8 v22 w' => ∃ (i : Nat), v8 = .int .u64 (v256 (L.take i)) ∧ v22 = .int .i64 (i : Int) ∧ Aside0 (i ≤ n ∧ kq = n - i) ∧ w' = w2)
 case atStart => exact ⟨0, rfl, rfl, ⟨by omega⟩, rfl⟩
 case round =>
  obtain ⟨i, rfl, rfl, HI, rfl⟩ := hrel
  obtain ⟨hi, hk⟩ := HI.out
  clear HI
  by_cases ci : i < n
  ·have cb : decide ((i : Int) < (n : Int)) = true := decide_eq_true (by omega)
   obtain ⟨ad, ea, hx⟩ := Kd.at_int HC.out (i : Int) (by omega) (by rw [hLl]; omega)
   cases ea
   have hi0 : (0 ≤ (i : Int)) = True := eq_true (by omega)
   have hi1 : ((i : Int) < (n : Int)) = True := eq_true (by omega)
   have es : L.take (i + 1) = L.take i ++ [rd L (i : Int)] := by
    have hlt : i < L.length := by omega
    rw [List.take_succ_eq_append_getElem hlt]
    congr 2
    show L[i] = L.getD i 0
    rw [List.getD, List.getElem?_eq_getElem hlt]
    rfl
   have hcb : 0 ≤ rd L (i : Int) ∧ rd L (i : Int) < 256 := by
    have hlt : i < L.length := by omega
    have e_ : rd L (i : Int) = L[i] := by
     show L.getD i 0 = L[i]
     rw [List.getD, List.getElem?_eq_getElem hlt]
     rfl
    rw [e_]
    exact HLB.out _ (List.getElem_mem hlt)
   have hxb := v256_bd (L.take i) (fun x hx => HLB.out x (List.mem_of_mem_take hx))
   have hp7 := pow256 (m := (L.take i).length) (by rw [List.length_take]; omega)
   have ev := v256_snoc (L.take i) (rd L (i : Int))
   rw [← es] at ev
   generalize hX : v256 (L.take i) = X at hxb ev ⊢
   generalize hY : rd L (i : Int) = Y at hcb ev hx
   have h1 : shl .u64 X 8 = X * 256 := shl8 hxb.1 (by omega)
   have h2 : Go.bits .or .u64 (X * 256) Y = X * 256 + Y := or8 hxb.1 (by omega) hcb.1 hcb.2
   have h3 : IntKind.u64.wrap Y = Y := by rw [IntKind.wrap_u64]; omega
   have h4 : wrap64 ((i : Int) + 1) = ((i + 1 : Nat) : Int) := by unfold wrap64; omega
   have h5 : Go.bits .or .u64 (IntKind.u64.wrap (X * 256)) Y = X * 256 + Y := by rw [show IntKind.u64.wrap (X * 256) = X * 256 by rw [IntKind.wrap_u64]; omega]; exact h2
   have EV := Aside0.mk ev
   have H5 := Aside0.mk h5
   clear h5
   rw [Int.toNat_natCast] at hx
   clear es ev hX hY hxb hp7 hcb
   have HI2 := Aside0.mk (show i < n ∧ i ≤ n ∧ gk = n - i from ⟨ci, hi, hk⟩)
   have HN2 := Aside0.mk (show n ≤ 8 ∧ L.length = n from ⟨hn8, hLl⟩)
   clear hn8 hLl hL hi hk ci hn hw
   go_wp2
   have ci := HI2.out.1
   have hk := HI2.out.2.2
   go_roundg (gk - 1)
   case measure => omega
   case rel => exact ⟨i + 1, by rw [EV.out]; first | rfl | rw [H5.out], by first | rfl | (rw [← h4]), ⟨by omega⟩, rfl⟩
  ·have cb : decide ((i : Int) < (n : Int)) = false := decide_eq_false (by omega)
   have e_ : L.take i = L := List.take_of_length_le (by omega)
   rw [e_]
   go_wp2
   go_ret2
   exact ⟨rfl, HD.out, HK.out⟩
def fault_New.f (c n : Int) : Option (Option E) := some (some (.fault c n))
theorem fault_New.calls (c n : Int) (r : Option E) (w : World) (h : fault_New.f c n = some r) :
  Calls Tryd.prog 50 #[.int .i64 c, .int .i64 n] w fun ev w' => ev = .returned (errW r) ∧ Below w.heap.size w w' := by
 obtain rfl := Option.some.inj h
 clear h
 go_enter Tryd.func50, Tryd.ntmps50
 go_wp2
 go_ret
 exact ⟨rfl, by repeat (first | exact Below.refl _ _ | apply below_alloc)⟩
mutual
def wire_Put.j0 : Nat → Int → Int → Bool → Option (List Int × Bool)
 | 0, _, _, _ => none
 | k + 1, x0, x1, x21 => if x21 = true then (some (([] : List Int), false)) else (if 0 ≤ x0 then (if (x0 : Int).toNat ≤ 281474976710656 then ((some (List.replicate (x0 : Int).toNat 0 : List Int)).bind fun y102 => (wire_Put.l0 k x0 x1 y102 (y102.length : Int) 0)) else (none)) else (none))
def wire_Put.l0 : Nat → Int → Int → List Int → Int → Int → Option (List Int × Bool)
 | 0, _, _, _, _, _ => none
 | k + 1, x0, x1, x6, x25, x26 => if x26 < x25 then (if 0 ≤ (wrap64 (8 * (wrap64 ((wrap64 (x0 - 1)) - x26)))) then (if 0 ≤ x26 then (if x26 < (x6.length : Int) then (wire_Put.l0 k x0 x1 (x6.set (x26 : Int).toNat ((shr .u64 x1 (wrap64 (8 * (wrap64 ((wrap64 (x0 - 1)) - x26))))) % 256)) x25 (wrap64 (x26 + 1))) else (none)) else (none)) else (none)) else (some (x6, true))
end
def wire_Put.f (k : Nat) (a0 : Int) (a1 : Int) : Option (List Int × Bool) := (wire_width.f a0).bind fun t101 => (if t101 = true then (if a0 < 8 then (if 0 ≤ (wrap64 (8 * a0)) then (wire_Put.j0 k a0 a1 (decide ((shr .u64 a1 (wrap64 (8 * a0))) > 0))) else (none)) else (wire_Put.j0 k a0 a1 false)) else (wire_Put.j0 k a0 a1 true))
theorem wire_Put.mono_l : ∀ k, (∀ y0 y1 y2, LeO (wire_Put.j0 k y0 y1 y2) (wire_Put.j0 (k + 1) y0 y1 y2)) ∧ (∀ y0 y1 y2 y3 y4, LeO (wire_Put.l0 k y0 y1 y2 y3 y4) (wire_Put.l0 (k + 1) y0 y1 y2 y3 y4))
 | 0 => ⟨fun _ _ _ r h => by simp [wire_Put.j0] at h, fun _ _ _ _ _ r h => by simp [wire_Put.l0] at h⟩
 | k + 1 => by
  obtain ⟨ih0, ih1⟩ := wire_Put.mono_l k
  refine ⟨?_, ?_⟩
  ·intro y0 y1 y2
   unfold wire_Put.j0
   repeat' first
   | (with_reducible exact ih0 _ _ _)
   | (with_reducible exact ih1 _ _ _ _ _)
   | (with_reducible exact LeO.refl _)
   | (with_reducible exact LeO.none _)
   | (with_reducible refine LeO.ite ?_ ?_)
   | (with_reducible refine LeO.bind ?_ (fun _ => ?_))
   | exact ih0 _ _ _
   | exact ih1 _ _ _ _ _
   | exact LeO.none _
   | refine LeO.ite ?_ ?_
   | refine LeO.bind ?_ (fun _ => ?_)
  ·intro y0 y1 y2 y3 y4
   unfold wire_Put.l0
   repeat' first
   | (with_reducible exact ih0 _ _ _)
   | (with_reducible exact ih1 _ _ _ _ _)
   | (with_reducible exact LeO.refl _)
   | (with_reducible exact LeO.none _)
   | (with_reducible refine LeO.ite ?_ ?_)
   | (with_reducible refine LeO.bind ?_ (fun _ => ?_))
   | exact ih0 _ _ _
   | exact ih1 _ _ _ _ _
   | exact LeO.none _
   | refine LeO.ite ?_ ?_
   | refine LeO.bind ?_ (fun _ => ?_)
theorem wire_Put.mono : ∀ a0 a1 k, LeO (wire_Put.f k a0 a1) (wire_Put.f (k + 1) a0 a1) := by
 intro a0 a1 k
 obtain ⟨ih0, ih1⟩ := wire_Put.mono_l k
 unfold wire_Put.f
 repeat' first
   | (with_reducible exact ih0 _ _ _)
   | (with_reducible exact ih1 _ _ _ _ _)
   | (with_reducible exact LeO.refl _)
   | (with_reducible exact LeO.none _)
   | (with_reducible refine LeO.ite ?_ ?_)
   | (with_reducible refine LeO.bind ?_ (fun _ => ?_))
   | exact ih0 _ _ _
   | exact ih1 _ _ _ _ _
   | exact LeO.none _
   | refine LeO.ite ?_ ?_
   | refine LeO.bind ?_ (fun _ => ?_)
set_option maxHeartbeats 8000000 in
set_option maxRecDepth 100000 in
theorem wire_Put.calls (k : Nat) (a0 : Int) (a1 : Int) (r1 : List Int) (r2 : Bool) (w : World) (h : wire_Put.f k a0 a1 = some (r1, r2)) :
  Calls Tryd.prog 119 #[.int .i64 a0, .int .u64 a1] w fun e w' => ∃ v0_ : Value, e = .returned (.tuple #[v0_, .bool r2]) ∧ Kd.R (Kd.int .u8) 5 w' w.heap.size (fun _ => True) v0_ r1 ∧ Below w.heap.size w w' := by
 have HB := Aside0.mk (Below.refl w.heap.size w)
 have H : ((wire_width.f a0).bind fun t101 => (if t101 = true then (if a0 < 8 then (if 0 ≤ (wrap64 (8 * a0)) then (wire_Put.j0 k a0 a1 (decide ((shr .u64 a1 (wrap64 (8 * a0))) > 0))) else (none)) else (wire_Put.j0 k a0 a1 false)) else (wire_Put.j0 k a0 a1 true))) = some (r1, r2) := h
 clear h
 have HC3 := Aside0.mk H
 clear H
 go_enter Tryd.func119, Tryd.ntmps119
 go_upto_region 1 with (fail)
 go_cut [21] (fun v21 wc => ∃ (kq : Nat) (x21_2 : Bool), v21 = .bool x21_2 ∧ Aside0 (wire_Put.j0 kq a0 a1 x21_2 = some (r1, r2)) ∧ Aside0 (kq ≤ k) ∧ Aside0 (Below w.heap.size w wc))
 case first =>
  have H := HC3.out
  clear HC3
  replace H := Option.bind_eq_some_iff.mp H
  obtain ⟨t101, A40, H⟩ := H
  replace H : (if t101 = true then (if a0 < 8 then (if 0 ≤ (wrap64 (8 * a0)) then (wire_Put.j0 k a0 a1 (decide ((shr .u64 a1 (wrap64 (8 * a0))) > 0))) else (none)) else (wire_Put.j0 k a0 a1 false)) else (wire_Put.j0 k a0 a1 true)) = some (r1, r2) := H
  have A4 := Aside0.mk A40
  clear A40
  by_cases c5 : t101 = true
  ·subst c5
   have H1 : (if a0 < 8 then (if 0 ≤ (wrap64 (8 * a0)) then (wire_Put.j0 k a0 a1 (decide ((shr .u64 a1 (wrap64 (8 * a0))) > 0))) else (none)) else (wire_Put.j0 k a0 a1 false)) = some (r1, r2) := by rw [if_pos rfl] at H; exact H
   clear H
   have H := H1
   clear H1
   by_cases c6 : a0 < 8
   ·rw [if_pos c6] at H
    have c6b0 : decide (a0 < 8) = true := decide_eq_true c6
    clear c6
    (first | rw [c6b0] | (simp only [i64_w, i32_w]; rw [c6b0]) | skip)
    obtain ⟨ji7, hji7⟩ : ∃ j_ : Int, (wrap64 (8 * a0)) = j_ := ⟨_, rfl⟩
    replace H : (if 0 ≤ (ji7) then (wire_Put.j0 k a0 a1 (decide ((shr .u64 a1 (ji7)) > 0))) else (none)) = some (r1, r2) := by first | (rw [hji7] at H; exact H) | (simp only [hji7] at H ⊢; exact H)
    (try rw [hji7] at A4)
    have hji7w : (IntKind.i64.wrap (8 * a0)) = ji7 := (i64_w _).trans hji7
    by_cases c8 : 0 ≤ (ji7)
    ·rw [if_pos c8] at H
     have c8b0 := eq_true c8
     have c8b1 : decide (0 ≤ (ji7)) = true := decide_eq_true c8
     clear c8
     obtain ⟨ji9, hji9⟩ : ∃ j_ : Int, (shr .u64 a1 (ji7)) = j_ := ⟨_, rfl⟩
     replace H : (wire_Put.j0 k a0 a1 (decide ((ji9) > 0))) = some (r1, r2) := by first | (rw [hji9] at H; exact H) | (simp only [hji9] at H ⊢; exact H)
     (try rw [hji9] at A4)
     have hji9_ : (a1 / 2 ^ min (ji7).toNat 64) = ji9 := hji9
     have hji9z : (ji7) ≤ 64 → (a1 / 2 ^ (ji7).toNat) = ji9 := shr_small hji9
     have H' := Aside0.mk H
     clear H
     go_wp2_with (first | ((with_reducible refine gate_callee (f := 115) rfl ?_); refine goesL_ (some 9) rfl rfl Tryd.func115 (by kernel_rfl) rfl #[.int .i64 a0] rfl q43_ ?_; (with_reducible refine (wire_width.calls a0 true _ A4.out).mono ?_); rintro e w' ⟨rfl, ⟨nd, rfl⟩⟩; refine ⟨_, rfl, ?_⟩))
     go_meet
     case rel => exact ⟨_, (decide ((ji9) > 0)), (by first | rfl | (simp; done) | (simp only [← hji9] <;> (first | rfl | simp)) | (simp [*]; done)), H', ⟨by first | omega | exact Nat.le_refl _⟩, ⟨by repeat (first | (with_reducible first | exact HB.out | apply below_alloc | apply pw_below_drewN | apply below_drew1) | exact HB.out)⟩⟩
    ·rw [if_neg c8] at H
     exact absurd H (by simp)
   ·rw [if_neg c6] at H
    have c6b0 : decide (a0 < 8) = false := decide_eq_false c6
    clear c6
    (first | rw [c6b0] | (simp only [i64_w, i32_w]; rw [c6b0]) | skip)
    have H' := Aside0.mk H
    clear H
    go_wp2_with (first | ((with_reducible refine gate_callee (f := 115) rfl ?_); refine goesL_ (some 9) rfl rfl Tryd.func115 (by kernel_rfl) rfl #[.int .i64 a0] rfl q43_ ?_; (with_reducible refine (wire_width.calls a0 true _ A4.out).mono ?_); rintro e w' ⟨rfl, ⟨nd, rfl⟩⟩; refine ⟨_, rfl, ?_⟩))
    go_meet
    case rel => exact ⟨_, (false), q97_, H', ⟨by first | omega | exact Nat.le_refl _⟩, ⟨by repeat (first | (with_reducible first | exact HB.out | apply below_alloc | apply pw_below_drewN | apply below_drew1) | exact HB.out)⟩⟩
  ·replace c5 := Bool.eq_false_iff.mpr c5
   subst c5
   have H1 : (wire_Put.j0 k a0 a1 true) = some (r1, r2) := by rw [if_neg (show ¬ (false = true) by decide)] at H; exact H
   clear H
   have H := H1
   clear H1
   have H' := Aside0.mk H
   clear H
   go_wp2_with (first | ((with_reducible refine gate_callee (f := 115) rfl ?_); refine goesL_ (some 9) rfl rfl Tryd.func115 (by kernel_rfl) rfl #[.int .i64 a0] rfl q43_ ?_; (with_reducible refine (wire_width.calls a0 false _ A4.out).mono ?_); rintro e w' ⟨rfl, ⟨nd, rfl⟩⟩; refine ⟨_, rfl, ?_⟩))
   go_meet
   case rel => exact ⟨_, (true), q97_, H', ⟨by first | omega | exact Nat.le_refl _⟩, ⟨by repeat (first | (with_reducible first | exact HB.out | apply below_alloc | apply pw_below_drewN | apply below_drew1) | exact HB.out)⟩⟩
 case rest =>
  clear HC3
  try clear c1
  try clear p2
  try clear c5
  try clear c6
  try clear c6b0
  try clear p6
  try clear c8
  try clear c8b0
  try clear c8b1
  obtain ⟨kq, x21_2, rfl, HA, HJ2, HB⟩ := hcut
  cases kq with
  | zero => exact absurd HA.out (by simp [wire_Put.j0])
  | succ kj2 =>
   have H := HA.out
   clear HA
   simp only [wire_Put.j0] at H
   by_cases c10 : x21_2 = true
   ·subst c10
    have H1 : (some (([] : List Int), false)) = some (r1, r2) := by rw [if_pos rfl] at H; exact H
    clear H
    have H := H1
    clear H1
    simp only [Option.some.injEq, Prod.mk.injEq] at H
    obtain ⟨rfl, rfl⟩ := H
    go_wp2
    go_ret2
    exact ⟨_, by first | rfl | (simp [errW_none, errW_some] <;> rfl) | (simp [*, errW_none, errW_some] <;> rfl), by first | exact Kd.R_nil _ _ _ _ _ | exact Kd.N_nil _ _ _ _ _ | exact Kd.V_nil _ _ _ _ _ | exact Kd.Q_nil _ _ _ _ _ | exact Kd.S_nil _ _ _ _ _, by repeat (first | (with_reducible first | exact HB.out | apply below_alloc | apply pw_below_drewN | apply below_drew1) | exact HB.out)⟩
   ·replace c10 := Bool.eq_false_iff.mpr c10
    subst c10
    have H1 : (if 0 ≤ a0 then (if (a0 : Int).toNat ≤ 281474976710656 then ((some (List.replicate (a0 : Int).toNat 0 : List Int)).bind fun y102 => (wire_Put.l0 kj2 a0 a1 y102 (y102.length : Int) 0)) else (none)) else (none)) = some (r1, r2) := by rw [if_neg (show ¬ (false = true) by decide)] at H; exact H
    clear H
    have H := H1
    clear H1
    by_cases c11 : 0 ≤ a0
    ·rw [if_pos c11] at H
     have c11b0 := eq_true c11
     have c11b1 : decide (0 ≤ a0) = true := decide_eq_true c11
     clear c11
     by_cases c12 : (a0 : Int).toNat ≤ 281474976710656
     ·rw [if_pos c12] at H
      have c12b0 := eq_true c12
      have c12b1 : decide ((a0 : Int).toNat ≤ 281474976710656) = true := decide_eq_true c12
      clear c12
      obtain ⟨y102, hy102⟩ : ∃ y_ : List Int, y_ = (List.replicate (a0 : Int).toNat 0) := ⟨_, rfl⟩
      replace H : (wire_Put.l0 kj2 a0 a1 y102 (y102.length : Int) 0) = some (r1, r2) := by first | (rw [hy102]; with_reducible exact H) | (have H2_ := (Option.bind_some _ _).symm.trans H; rw [hy102]; with_reducible exact H2_) | (have H2_ := (Option.bind_some _ _).symm.trans H; with_reducible exact H2_) | with_reducible exact H | (rw [hy102]; exact H) | exact H
      have Ny102 := Aside0.mk hy102
      clear hy102
      have H' := Aside0.mk H
      clear H
      go_wp2_with (first | ((with_reducible refine gate_dst (N := 23) rfl ?_); refine Kd.R_make (Kd.int .u8) _ 5 rfl (N := 23) rfl 22 _ _ rfl a0 rfl rfl Tryd.underlying22 (.int .u8 0) 1 info5 rfl (by decide) (by omega) 0 (ok := fun _ => True) (okp := fun _ => True) rfl (fun _ hk => hk) trivial (of_decide_eq_true q95_) (Nat.le_trans (Nat.mul_le_mul_right _ (of_decide_eq_true q95_ : a0.toNat ≤ 281474976710656)) (by omega)) (Below.refl _ _) (Nat.le_refl _) ?_; intro v103 w13 ho14 hb hg_ hnew_; clear hg_ hnew_; (first | rw [← Ny102.out] at ho14 | (simp only [Int.reduceToNat] at ho14; rw [← Ny102.out] at ho14)); have n0_ := Aside0.mk (Kd.R_lower ho14 (below_size q44_)); have n1_ := Aside0.mk (below_step q44_ hb); clear HB; have HO104 := n0_; have HB := n1_; clear n0_ n1_; clear hb ho14; obtain ⟨Ao15, co15, eo15⟩ := Kd.R_slice HO104.out; subst eo15))
      go_loopg [26] kj2 (fun kq v26 w' => ∃ (x6_2 : List Int) (x26_2 : Int), v26 = .int .i64 x26_2 ∧ Aside0 (wire_Put.l0 kq a0 a1 x6_2 (y102.length : Int) x26_2 = some (r1, r2)) ∧ Aside0 (kq ≤ kj2) ∧ Aside0 (Kd.R (Kd.int .u8) 5 w' w.heap.size (fun _ => True) (.slice Ao15 y102.length co15) x6_2) ∧ Aside0 (Below w.heap.size w w'))
      case atStart => exact ⟨(y102), (0), q97_, H', ⟨Nat.le_refl _⟩, ⟨by (with_reducible repeat (first | apply Kd.R_alloc | apply Kd.R_drewN | apply Kd.R_drew)); exact HO104.out⟩, ⟨by repeat (first | (with_reducible first | exact HB.out | apply below_alloc | apply pw_below_drewN | apply below_drew1) | exact HB.out)⟩⟩
      case round =>
       clear H'
       try clear c1
       try clear p2
       try clear c5
       try clear c6
       try clear c6b0
       try clear p6
       try clear c8
       try clear c8b0
       try clear c8b1
       try clear c10
       try clear c11
       try clear c11b0
       try clear c11b1
       try clear c12
       try clear c12b0
       try clear c12b1
       try clear p2
       try clear p6
       obtain ⟨x6_2, x26_2, rfl, HA, HK2, HO_6, HB⟩ := hrel
       have hl6_2 := (Kd.R_reads' HO_6.out).1
       rw [hl6_2] at HO_6
       (try simp only [hl6_2])
       cases gk with
       | zero => exact absurd HA.out (by simp [wire_Put.l0])
       | succ k2 =>
        have H := HA.out
        clear HA
        simp only [wire_Put.l0] at H
        by_cases c16 : x26_2 < (y102.length : Int)
        ·rw [if_pos c16] at H
         have c16b0 : decide (x26_2 < (y102.length : Int)) = true := decide_eq_true c16
         have c16b0x : decide (x26_2 < (x6_2.length : Int)) = true := by rw [← hl6_2]; exact c16b0
         clear c16
         obtain ⟨ji17, hji17⟩ : ∃ j_ : Int, (wrap64 (8 * (wrap64 ((wrap64 (a0 - 1)) - x26_2)))) = j_ := ⟨_, rfl⟩
         replace H : (if 0 ≤ (ji17) then (if 0 ≤ x26_2 then (if x26_2 < (x6_2.length : Int) then (wire_Put.l0 k2 a0 a1 (x6_2.set (x26_2 : Int).toNat ((shr .u64 a1 (ji17)) % 256)) (y102.length : Int) (wrap64 (x26_2 + 1))) else (none)) else (none)) else (none)) = some (r1, r2) := by first | (rw [hji17] at H; exact H) | (simp only [hji17] at H ⊢; exact H)
         have hji17w : (IntKind.i64.wrap (8 * (wrap64 ((wrap64 (a0 - 1)) - x26_2)))) = ji17 := (i64_w _).trans hji17
         by_cases c18 : 0 ≤ (ji17)
         ·rw [if_pos c18] at H
          have c18b0 := eq_true c18
          have c18b1 : decide (0 ≤ (ji17)) = true := decide_eq_true c18
          clear c18
          obtain ⟨ji19, hji19⟩ : ∃ j_ : Int, (shr .u64 a1 (ji17)) = j_ := ⟨_, rfl⟩
          replace H : (if 0 ≤ x26_2 then (if x26_2 < (x6_2.length : Int) then (wire_Put.l0 k2 a0 a1 (x6_2.set (x26_2 : Int).toNat ((ji19) % 256)) (y102.length : Int) (wrap64 (x26_2 + 1))) else (none)) else (none)) = some (r1, r2) := by first | (rw [hji19] at H; exact H) | (simp only [hji19] at H ⊢; exact H)
          have hji19_ : (a1 / 2 ^ min (ji17).toNat 64) = ji19 := hji19
          have hji19z : (ji17) ≤ 64 → (a1 / 2 ^ (ji17).toNat) = ji19 := shr_small hji19
          by_cases c20 : 0 ≤ x26_2
          ·rw [if_pos c20] at H
           have c20b0 : decide (0 ≤ x26_2) = true := decide_eq_true c20
           clear c20
           by_cases c21 : x26_2 < (x6_2.length : Int)
           ·rw [if_pos c21] at H
            have c21b0 : decide (x26_2 < (x6_2.length : Int)) = true := decide_eq_true c21
            clear c21
            obtain ⟨y105, hy105⟩ : ∃ y_ : List Int, y_ = (x6_2.set (x26_2 : Int).toNat ((ji19) % 256)) := ⟨_, rfl⟩
            replace H : (wire_Put.l0 k2 a0 a1 y105 (y102.length : Int) (wrap64 (x26_2 + 1))) = some (r1, r2) := by first | (rw [hy105]; with_reducible exact H) | (have H2_ := (Option.bind_some _ _).symm.trans H; rw [hy105]; with_reducible exact H2_) | (have H2_ := (Option.bind_some _ _).symm.trans H; with_reducible exact H2_) | with_reducible exact H | (rw [hy105]; exact H) | exact H
            have Ny105 := Aside0.mk hy105
            clear hy105
            have H' := Aside0.mk H
            clear H
            have p22 : 0 ≤ (x26_2 : Int) := of_decide_eq_true q95_
            have q22 : (x26_2 : Int) < ((x6_2.length : Int) : Int) := of_decide_eq_true q95_
            obtain ⟨go22, co22, eo22, gb22, gl22, cl22, HG22⟩ := Kd.R_form HO_6.out (by omega)
            (first | cases eo22 | (injection eo22 with ea_ en_ ec_; (first | subst ea_ | (injection ea_ with ea_; subst ea_)); subst ec_; clear en_))
            have GB22 := Aside0.mk gb22
            have GG22 := Aside0.mk HG22
            clear gb22 gl22 HG22
            obtain ⟨hx22_0, hf22_0⟩ := Kd.R_celln 0 HO_6.out (x26_2 : Int) p22 q22
            replace p22 := eq_true p22
            replace q22 := eq_true q22
            have HP23 := Kd.R_putg HO_6.out (x26_2 : Int) ((ji19) % 256)
            go_wp2_with (first | ((with_reducible refine gate_store (t := 5) (p := 39) rfl ?_); refine store_event (t := 5) (p := 39) (v := ?vo_w24) (w1 := (wr.setCell ⟨go22, (x26_2 : Int).toNat, none⟩ (.int .u8 ((ji19) % 256)))) ?hg ?ho ?hn ?hr ?_; (case ho => rfl); (case hg => rfl); (case hn => rfl); (case hr => first | (go_simp; done) | (go_simp; rfl)); intro w24 hw; have hg : wr.grownBy w24 (some go22) := (by rw [hw]; exact HP23.2); have hp_ : Kd.R (Kd.int .u8) 5 w24 w.heap.size (fun _ => True) (.slice (some ⟨go22, 0, none⟩) x6_2.length co15) y105 := (by rw [hw, Ny105.out]; exact HP23.1); clear HP23; have n0_ := Aside0.mk (hp_); have n1_ := Aside0.mk ((by rw [hw]; exact below_set (HB.out) GB22.out : Below w.heap.size w w24)); clear HO_6; clear HB; have HO_6 := n0_; have HB := n1_; clear n0_ n1_; clear hg hw hp_))
            (try simp only [← hl6_2])
            go_roundg k2
            case measure => have := HJ2.out; have := HK2.out; omega
            case rel => exact ⟨(y105), (wrap64 (x26_2 + 1)), q97_, H', ⟨by have := HJ2.out; have := HK2.out; omega⟩, ⟨by (try simp only [hl6_2]); (with_reducible repeat (first | apply Kd.R_alloc | apply Kd.R_drewN | apply Kd.R_drew)); exact HO_6.out⟩, ⟨by repeat (first | (with_reducible first | exact HB.out | apply below_alloc | apply pw_below_drewN | apply below_drew1) | exact HB.out)⟩⟩
           ·rw [if_neg c21] at H
            exact absurd H (by simp)
          ·rw [if_neg c20] at H
           exact absurd H (by simp)
         ·rw [if_neg c18] at H
          exact absurd H (by simp)
        ·rw [if_neg c16] at H
         have c16b0 : decide (x26_2 < (y102.length : Int)) = false := decide_eq_false c16
         have c16b0x : decide (x26_2 < (x6_2.length : Int)) = false := by rw [← hl6_2]; exact c16b0
         clear c16
         simp only [Option.some.injEq, Prod.mk.injEq] at H
         obtain ⟨rfl, rfl⟩ := H
         go_wp2
         go_ret2
         exact ⟨_, by first | rfl | (simp [errW_none, errW_some] <;> rfl) | (simp [*, errW_none, errW_some] <;> rfl), by (with_reducible repeat (first | apply Kd.R_alloc | apply Kd.R_drewN | apply Kd.R_drew)); exact HO_6.out, by repeat (first | (with_reducible first | exact HB.out | apply below_alloc | apply pw_below_drewN | apply below_drew1) | exact HB.out)⟩
     ·rw [if_neg c12] at H
      exact absurd H (by simp)
    ·rw [if_neg c11] at H
     exact absurd H (by simp)
end Go.Proofs.YthdjmojpnimhjaaDoor.PCbg
