import Derived.Test.YthdjmojpnimhjaaDoorZQ
import Derived.Test.YthdjmojpnimhjaaDoorZPCbgx0
import Derived.Test.YthdjmojpnimhjaaDoorZPCbgx1
import Derived.Test.YthdjmojpnimhjaaDoorZPCbgx2
import Derived.Test.YthdjmojpnimhjaaDoorZPCbgx4
import Derived.Test.YthdjmojpnimhjaaDoorZPCbgx5
namespace Go.Proofs.YthdjmojpnimhjaaDoor.PCbg
open Go.RowKit Go.Proofs.YthdjmojpnimhjaaDoorW.PrintWords Go.Proofs.YthdjmojpnimhjaaDoorW.PrintLast Go.Proofs.YthdjmojpnimhjaaDoorW.PrintMore
set_option linter.unusedVariables false
set_option linter.unusedSimpArgs false
def RI (w0 W : World) (g h : Nat) (l : List Int) (p : Nat) : Prop :=
 RD w0 W h l p ∧ ∃ (A : Option Addr) (c : Nat), W.heap[g]? = some (.cells #[.slice A l.length c, .pointer (some ⟨h, 0, none⟩), .func (.func 52) #[.pointer (some ⟨g, 0, none⟩)] #[]] 95 (0, 0)) ∧ Kd.C (Kd.int .u8) w0 A l.length l ∧ l.length ≤ c ∧ w0.heap.size ≤ g ∧ g ≠ h
theorem RI.below {w0 W W' : World} {g h : Nat} {l : List Int} {p : Nat} (H : RI w0 W g h l p) (hb : Below W.heap.size W W') : RI w0 W' g h l p := by
 obtain ⟨hr, A, c, h1, h2, h3, h4, h5⟩ := H
 exact ⟨hr.below hb, A, c, blk_below h1 hb, h2, h3, h4, h5⟩
theorem RI.drewN {w0 W : World} {g h : Nat} {l : List Int} {p : Nat} (H : RI w0 W g h l p) (m : Nat) : RI w0 (W.drewN m) g h l p := H.below (pw_below_drewN (Below.refl _ _) m)
theorem RI.drew {w0 W : World} {g h : Nat} {l : List Int} {p : Nat} (H : RI w0 W g h l p) : RI w0 W.drew g h l p := H.below (below_drew1 (Below.refl _ _))
theorem RI.all {w0 W : World} {g h : Nat} {l : List Int} {p : Nat} (H : RI w0 W g h l p) : Below w0.heap.size w0 W := H.1.all
theorem RI.step {w0 W W' : World} {g h : Nat} {l : List Int} {p q : Nat} (H : RI w0 W g h l p) (hr : RD w0 W' h l q) (hk : KeepBut W W' h none) : RI w0 W' g h l q := by
 obtain ⟨_, A, c, h1, h2, h3, h4, h5⟩ := H
 exact ⟨hr, A, c, hk.blk h1 h5 (by simp), h2, h3, h4, h5⟩
theorem RI.facts {w0 W : World} {g h : Nat} {l : List Int} {p : Nat} (H : RI w0 W g h l p) :
  ∃ A c, W.cell? ⟨g, 0, none⟩ = some (.slice A l.length c) ∧ W.cell? ⟨g, 1, none⟩ = some (.pointer (some ⟨h, 0, none⟩)) ∧ W.cell? ⟨g, 2, none⟩ = some (.func (.func 52) #[.pointer (some ⟨g, 0, none⟩)] #[]) ∧ Kd.C (Kd.int .u8) W A l.length l ∧ l.length ≤ c := by
 obtain ⟨hr, A, c, h1, h2, h3, h4, h5⟩ := H
 exact ⟨A, c, (blk_cell h1 0).trans rfl, (blk_cell h1 1).trans rfl, (blk_cell h1 2).trans rfl, Kd.C_below h2 hr.all, h3⟩
theorem RD.far {w0 W : World} {h : Nat} {l : List Int} {p : Nat} (H : RD w0 W h l p) {n : Nat} {cs : Array Value} {t : TypeId} (hb : W.heap[n]? = some (.cells cs t (0, 0))) (ht : ∀ q, q ∈ 5 :: (Kd.int .u8).E → q ≠ t) (hh : h ≠ n) (hn : w0.heap.size ≤ n) (j : Nat) (u : Value) : RD w0 (W.setCell ⟨n, j, none⟩ u) h l p := by
 obtain ⟨A, c, h1, h2, h3, h4, h5, h6⟩ := H
 exact ⟨A, c, blk_far h1 hh u, Kd.R_mono (Kd.R_far (p := ⟨n, j, none⟩) (Kd.R_types h2 hb ht) (fun k hk => hk.2) u) (fun k hk => hk.1), h3, h4, h5, h6.setCell hn _⟩
theorem RI.far {w0 W : World} {g h : Nat} {l : List Int} {p : Nat} (H : RI w0 W g h l p) {n : Nat} {cs : Array Value} {t : TypeId} (hb : W.heap[n]? = some (.cells cs t (0, 0))) (ht : ∀ q, q ∈ 5 :: (Kd.int .u8).E → q ≠ t) (hg : g ≠ n) (hh : h ≠ n) (hn : w0.heap.size ≤ n) (j : Nat) (u : Value) : RI w0 (W.setCell ⟨n, j, none⟩ u) g h l p := by
 obtain ⟨hr, A, c, h1, h2, h3, h4, h5⟩ := H
 exact ⟨hr.far hb ht hh hn j u, A, c, blk_far h1 hg u, h2, h3, h4, h5⟩
theorem RI.le {w0 W : World} {g h : Nat} {l : List Int} {p : Nat} (H : RI w0 W g h l p) : p ≤ l.length := by
 obtain ⟨⟨A, c, h1, h2, h3, _⟩, _⟩ := H
 exact h3
theorem word_q {w0 w : World} {g h : Nat} {l : List Int} {p : Nat} (H : RI w0 w g h l p) (hby : ∀ x ∈ l, 0 ≤ x ∧ x < 256) (s : Int) (n : Nat) (e : (n : Int) = s) (hn8 : n ≤ 8) (hw : wire_width.f s = some true) (hn : p + n ≤ l.length) (v : Int) (hv : v256 ((l.drop p).take n) = v) :
  Calls Tryd.prog 86 #[.pointer (some ⟨h, 0, none⟩), .int .i64 s] w fun e w' => e = .returned (.tuple #[.int .u64 v, .bool true]) ∧ RI w0 w' g h l (p + n) ∧ KeepBut w w' h none := by
 subst e
 subst hv
 exact (word_ok H.1 hby n hn8 hw hn).mono (fun ev w' h => ⟨h.1, H.step h.2.1 h.2.2, h.2.2⟩)
theorem word_qno {w0 w : World} {g h : Nat} {l : List Int} {p : Nat} (H : RI w0 w g h l p) (s : Int) (n : Nat) (e : (n : Int) = s) (hw : wire_width.f s = some true) (hn : l.length < p + n) :
  Calls Tryd.prog 86 #[.pointer (some ⟨h, 0, none⟩), .int .i64 s] w fun e w' => e = .returned (.tuple #[.int .u64 0, .bool false]) ∧ ∃ m, w' = w.drewN m := by
 subst e
 have := H.le
 exact word_no H.1 _ hw (by omega)
theorem take_q {w0 w : World} {g h : Nat} {l : List Int} {p : Nat} (H : RI w0 w g h l p) (s : Int) (n : Nat) (e : (n : Int) = s) (hn : p + n ≤ l.length) (LL : List Int) (hL : (l.drop p).take n = LL) :
  Calls Tryd.prog 116 #[.pointer (some ⟨h, 0, none⟩), .int .i64 s] w fun e w' => ∃ v, e = .returned (.tuple #[v, .bool true]) ∧ Kd.R (Kd.int .u8) 5 w' w.heap.size (fun _ => True) v LL ∧ RI w0 w' g h l (p + n) ∧ KeepBut w w' h none := by
 subst e
 subst hL
 exact (take_ok H.1 n hn).mono (fun ev w' h => by obtain ⟨v, h1, h2, h3, h4⟩ := h; exact ⟨v, h1, h2, H.step h3 h4, h4⟩)
theorem atc_q {w0 w : World} {g h : Nat} {l : List Int} {p : Nat} (H : RI w0 w g h l p) : Calls Tryd.prog 54 #[.pointer (some ⟨h, 0, none⟩)] w fun e w' => e = .returned (.int .i64 (p : Int)) ∧ w' = w := at_q H.1
theorem left_qq {w0 w : World} {g h : Nat} {l : List Int} {p : Nat} (H : RI w0 w g h l p) (x : Int) (hx : ((l.length - p : Nat) : Int) = x) : Calls Tryd.prog 53 #[.pointer (some ⟨h, 0, none⟩)] w fun e w' => e = .returned (.int .i64 x) ∧ ∃ m, w' = w.drewN m := by
 subst hx
 exact left_q H.1
set_option maxHeartbeats 4000000 in
set_option maxRecDepth 100000 in
theorem short_q {w0 w : World} {g h : Nat} {l : List Int} {p : Nat} (H : RI w0 w g h l p) :
  Calls Tryd.prog 87 #[.pointer (some ⟨g, 0, none⟩)] w fun ev w' => ev = .returned (errW (some (.fault 3 (l.length : Int)))) ∧ Below w.heap.size w w' := by
 obtain ⟨A, c, f0, f1, f2, fc, fl⟩ := H.facts
 clear fc
 go_enter Tryd.func87, Tryd.ntmps87
 go_wp2_with (go_at_call 50; ((with_reducible refine (fault_New.calls 3 (l.length : Int) _ _ rfl).mono ?_); rintro ev w' ⟨rfl, hb⟩; have HB := Aside0.mk hb; clear hb))
 go_ret
 exact ⟨rfl, HB.out⟩
def szN (low : Int) : Nat := if low = 24 then 1 else if low = 25 then 2 else if low = 26 then 4 else 8
def numM (k : Nat) (l : List Int) (p : Nat) (low at_ : Int) : Option (Int × Option E × Nat) :=
 if low < 24 then some (low, none, p) else if low ≤ 27 then (if l.length < p + szN low then some (0, some (.fault 3 (l.length : Int)), p) else (cbor_head.f k 0 (v256 ((l.drop p).take (szN low)))).bind fun hd => if hd.length = szN low + 1 then some (v256 ((l.drop p).take (szN low)), none, p + szN low) else some (0, some (.fault 6 at_), p + szN low)) else none
set_option maxHeartbeats 16000000 in
set_option maxRecDepth 100000 in
theorem num_calls (k : Nat) {w0 w : World} {g h : Nat} {l : List Int} {p : Nat} (H : RI w0 w g h l p) (hby : ∀ x ∈ l, 0 ≤ x ∧ x < 256) (low at_ : Int) (hlo : 0 ≤ low ∧ low < 256) (r : Int) (e : Option E) (q : Nat) (hm : numM k l p low at_ = some (r, e, q)) :
  Calls Tryd.prog 88 #[.pointer (some ⟨g, 0, none⟩), .int .u8 low, .int .i64 at_] w fun ev w' => ev = .returned (.tuple #[.int .u64 r, errW e]) ∧ RI w0 w' g h l q ∧ KeepBut w w' h none := by
 unfold numM at hm
 have HI := Aside0.mk H
 have HBY := Aside0.mk hby
 obtain ⟨A, c, f0, f1, f2, fc, fl⟩ := H.facts
 clear fc H hby
 by_cases c1 : low < 24
 ·rw [if_pos c1] at hm
  have b1 : decide (low < 24) = true := decide_eq_true c1
  have eu : IntKind.u64.wrap low = low := by unfold IntKind.wrap; simp [IntKind.bits, IntKind.signed]; omega
  simp only [Option.some.injEq, Prod.mk.injEq] at hm
  obtain ⟨rfl, rfl, rfl⟩ := hm
  go_enter Tryd.func88, Tryd.ntmps88
  go_wp2
  go_ret2
  exact ⟨rfl, HI.out, KeepBut.refl _ _ _⟩
 rw [if_neg c1] at hm
 by_cases c2 : low ≤ 27
 case neg => rw [if_neg c2] at hm; cases hm
 rw [if_pos c2] at hm
 have hcase : low = 24 ∨ low = 25 ∨ low = 26 ∨ low = 27 := by omega
 clear c1 c2
 rcases hcase with rfl | rfl | rfl | rfl
 ·have es : szN 24 = 1 := rfl
  rw [es] at hm
  by_cases c3 : l.length < p + 1
  ·rw [if_pos c3] at hm
   simp only [Option.some.injEq, Prod.mk.injEq] at hm
   obtain ⟨rfl, rfl, rfl⟩ := hm
   have HC3 := Aside0.mk c3
   clear c3 es
   go_enter Tryd.func88, Tryd.ntmps88
   go_wp2_with (first | (go_at_call 86; ((with_reducible refine (word_qno HI.out 1 1 rfl rfl HC3.out).mono ?_); rintro ev w' ⟨rfl, m, rfl⟩)) | (go_at_call 87; ((with_reducible refine (short_q (HI.out.drewN m)).mono ?_); rintro ev w' ⟨rfl, hb⟩; have HB := Aside0.mk hb; clear hb)))
   go_ret2
   exact ⟨rfl, (HI.out.drewN m).below HB.out, (KeepBut.of_below (pw_below_drewN (Below.refl _ _) m) h none).trans (KeepBut.of_below HB.out h none) (.inl rfl)⟩
  rw [if_neg c3] at hm
  obtain ⟨hd, hhd, hm⟩ := Option.bind_eq_some_iff.mp hm
  have HC3 := Aside0.mk (show p + 1 ≤ l.length by omega)
  have HHD := Aside0.mk hhd
  clear c3 hhd es
  generalize hv : v256 ((l.drop p).take 1) = v at hm HHD
  have HV := Aside0.mk hv
  clear hv
  by_cases c4 : hd.length = 1 + 1
  ·rw [if_pos c4] at hm
   simp only [Option.some.injEq, Prod.mk.injEq] at hm
   obtain ⟨rfl, rfl, rfl⟩ := hm
   have b4 : ((hd.length : Int) != 2) = false := bne_eq_false_iff_eq.mpr (by omega)
   have b5 : (hd.length != 2) = false := bne_eq_false_iff_eq.mpr c4
   clear c4
   go_enter Tryd.func88, Tryd.ntmps88
   go_wp2_with (first | (go_at_call 86; ((with_reducible refine (word_q HI.out HBY.out 1 1 rfl (by decide) rfl HC3.out v HV.out).mono ?_); rintro ev w2 ⟨rfl, hI, hK⟩; have HI2 := Aside0.mk hI; have HK2 := Aside0.mk hK; obtain ⟨A2, cc2, g0, g1, g2, gc, gl⟩ := hI.facts; clear gc hI hK)) | (go_at_call 93; ((with_reducible refine (cbor_head.calls k 0 v hd _ HHD.out).mono ?_); rintro ev w3 ⟨v0, rfl, hr, hb⟩; obtain ⟨A6, c6, rfl⟩ := Kd.R_slice hr; have HB := Aside0.mk hb; clear hr hb)))
   go_ret2
   exact ⟨rfl, HI2.out.below HB.out, HK2.out.trans (KeepBut.of_below HB.out h none) (.inl rfl)⟩
  ·rw [if_neg c4] at hm
   simp only [Option.some.injEq, Prod.mk.injEq] at hm
   obtain ⟨rfl, rfl, rfl⟩ := hm
   have b4 : ((hd.length : Int) != 2) = true := bne_iff_ne.mpr (by omega)
   have b5 : (hd.length != 2) = true := bne_iff_ne.mpr c4
   clear c4
   go_enter Tryd.func88, Tryd.ntmps88
   go_wp2_with (first | (go_at_call 86; ((with_reducible refine (word_q HI.out HBY.out 1 1 rfl (by decide) rfl HC3.out v HV.out).mono ?_); rintro ev w2 ⟨rfl, hI, hK⟩; have HI2 := Aside0.mk hI; have HK2 := Aside0.mk hK; obtain ⟨A2, cc2, g0, g1, g2, gc, gl⟩ := hI.facts; clear gc hI hK)) | (go_at_call 93; ((with_reducible refine (cbor_head.calls k 0 v hd _ HHD.out).mono ?_); rintro ev w3 ⟨v0, rfl, hr, hb⟩; obtain ⟨A6, c6, rfl⟩ := Kd.R_slice hr; have HB := Aside0.mk hb; clear hr hb)) | (go_at_call 50; ((with_reducible refine (fault_New.calls 6 at_ _ _ rfl).mono ?_); rintro ev w4 ⟨rfl, hb⟩; have HB4 := Aside0.mk hb; clear hb)))
   go_ret2
   exact ⟨rfl, (HI2.out.below HB.out).below HB4.out, (HK2.out.trans (KeepBut.of_below HB.out h none) (.inl rfl)).trans (KeepBut.of_below HB4.out h none) (.inl rfl)⟩
 ·have es : szN 25 = 2 := rfl
  rw [es] at hm
  by_cases c3 : l.length < p + 2
  ·rw [if_pos c3] at hm
   simp only [Option.some.injEq, Prod.mk.injEq] at hm
   obtain ⟨rfl, rfl, rfl⟩ := hm
   have HC3 := Aside0.mk c3
   clear c3 es
   go_enter Tryd.func88, Tryd.ntmps88
   go_wp2_with (first | (go_at_call 86; ((with_reducible refine (word_qno HI.out 2 2 rfl rfl HC3.out).mono ?_); rintro ev w' ⟨rfl, m, rfl⟩)) | (go_at_call 87; ((with_reducible refine (short_q (HI.out.drewN m)).mono ?_); rintro ev w' ⟨rfl, hb⟩; have HB := Aside0.mk hb; clear hb)))
   go_ret2
   exact ⟨rfl, (HI.out.drewN m).below HB.out, (KeepBut.of_below (pw_below_drewN (Below.refl _ _) m) h none).trans (KeepBut.of_below HB.out h none) (.inl rfl)⟩
  rw [if_neg c3] at hm
  obtain ⟨hd, hhd, hm⟩ := Option.bind_eq_some_iff.mp hm
  have HC3 := Aside0.mk (show p + 2 ≤ l.length by omega)
  have HHD := Aside0.mk hhd
  clear c3 hhd es
  generalize hv : v256 ((l.drop p).take 2) = v at hm HHD
  have HV := Aside0.mk hv
  clear hv
  by_cases c4 : hd.length = 2 + 1
  ·rw [if_pos c4] at hm
   simp only [Option.some.injEq, Prod.mk.injEq] at hm
   obtain ⟨rfl, rfl, rfl⟩ := hm
   have b4 : ((hd.length : Int) != 3) = false := bne_eq_false_iff_eq.mpr (by omega)
   have b5 : (hd.length != 3) = false := bne_eq_false_iff_eq.mpr c4
   clear c4
   go_enter Tryd.func88, Tryd.ntmps88
   go_wp2_with (first | (go_at_call 86; ((with_reducible refine (word_q HI.out HBY.out 2 2 rfl (by decide) rfl HC3.out v HV.out).mono ?_); rintro ev w2 ⟨rfl, hI, hK⟩; have HI2 := Aside0.mk hI; have HK2 := Aside0.mk hK; obtain ⟨A2, cc2, g0, g1, g2, gc, gl⟩ := hI.facts; clear gc hI hK)) | (go_at_call 93; ((with_reducible refine (cbor_head.calls k 0 v hd _ HHD.out).mono ?_); rintro ev w3 ⟨v0, rfl, hr, hb⟩; obtain ⟨A6, c6, rfl⟩ := Kd.R_slice hr; have HB := Aside0.mk hb; clear hr hb)))
   go_ret2
   exact ⟨rfl, HI2.out.below HB.out, HK2.out.trans (KeepBut.of_below HB.out h none) (.inl rfl)⟩
  ·rw [if_neg c4] at hm
   simp only [Option.some.injEq, Prod.mk.injEq] at hm
   obtain ⟨rfl, rfl, rfl⟩ := hm
   have b4 : ((hd.length : Int) != 3) = true := bne_iff_ne.mpr (by omega)
   have b5 : (hd.length != 3) = true := bne_iff_ne.mpr c4
   clear c4
   go_enter Tryd.func88, Tryd.ntmps88
   go_wp2_with (first | (go_at_call 86; ((with_reducible refine (word_q HI.out HBY.out 2 2 rfl (by decide) rfl HC3.out v HV.out).mono ?_); rintro ev w2 ⟨rfl, hI, hK⟩; have HI2 := Aside0.mk hI; have HK2 := Aside0.mk hK; obtain ⟨A2, cc2, g0, g1, g2, gc, gl⟩ := hI.facts; clear gc hI hK)) | (go_at_call 93; ((with_reducible refine (cbor_head.calls k 0 v hd _ HHD.out).mono ?_); rintro ev w3 ⟨v0, rfl, hr, hb⟩; obtain ⟨A6, c6, rfl⟩ := Kd.R_slice hr; have HB := Aside0.mk hb; clear hr hb)) | (go_at_call 50; ((with_reducible refine (fault_New.calls 6 at_ _ _ rfl).mono ?_); rintro ev w4 ⟨rfl, hb⟩; have HB4 := Aside0.mk hb; clear hb)))
   go_ret2
   exact ⟨rfl, (HI2.out.below HB.out).below HB4.out, (HK2.out.trans (KeepBut.of_below HB.out h none) (.inl rfl)).trans (KeepBut.of_below HB4.out h none) (.inl rfl)⟩
 ·have es : szN 26 = 4 := rfl
  rw [es] at hm
  by_cases c3 : l.length < p + 4
  ·rw [if_pos c3] at hm
   simp only [Option.some.injEq, Prod.mk.injEq] at hm
   obtain ⟨rfl, rfl, rfl⟩ := hm
   have HC3 := Aside0.mk c3
   clear c3 es
   go_enter Tryd.func88, Tryd.ntmps88
   go_wp2_with (first | (go_at_call 86; ((with_reducible refine (word_qno HI.out 4 4 rfl rfl HC3.out).mono ?_); rintro ev w' ⟨rfl, m, rfl⟩)) | (go_at_call 87; ((with_reducible refine (short_q (HI.out.drewN m)).mono ?_); rintro ev w' ⟨rfl, hb⟩; have HB := Aside0.mk hb; clear hb)))
   go_ret2
   exact ⟨rfl, (HI.out.drewN m).below HB.out, (KeepBut.of_below (pw_below_drewN (Below.refl _ _) m) h none).trans (KeepBut.of_below HB.out h none) (.inl rfl)⟩
  rw [if_neg c3] at hm
  obtain ⟨hd, hhd, hm⟩ := Option.bind_eq_some_iff.mp hm
  have HC3 := Aside0.mk (show p + 4 ≤ l.length by omega)
  have HHD := Aside0.mk hhd
  clear c3 hhd es
  generalize hv : v256 ((l.drop p).take 4) = v at hm HHD
  have HV := Aside0.mk hv
  clear hv
  by_cases c4 : hd.length = 4 + 1
  ·rw [if_pos c4] at hm
   simp only [Option.some.injEq, Prod.mk.injEq] at hm
   obtain ⟨rfl, rfl, rfl⟩ := hm
   have b4 : ((hd.length : Int) != 5) = false := bne_eq_false_iff_eq.mpr (by omega)
   have b5 : (hd.length != 5) = false := bne_eq_false_iff_eq.mpr c4
   clear c4
   go_enter Tryd.func88, Tryd.ntmps88
   go_wp2_with (first | (go_at_call 86; ((with_reducible refine (word_q HI.out HBY.out 4 4 rfl (by decide) rfl HC3.out v HV.out).mono ?_); rintro ev w2 ⟨rfl, hI, hK⟩; have HI2 := Aside0.mk hI; have HK2 := Aside0.mk hK; obtain ⟨A2, cc2, g0, g1, g2, gc, gl⟩ := hI.facts; clear gc hI hK)) | (go_at_call 93; ((with_reducible refine (cbor_head.calls k 0 v hd _ HHD.out).mono ?_); rintro ev w3 ⟨v0, rfl, hr, hb⟩; obtain ⟨A6, c6, rfl⟩ := Kd.R_slice hr; have HB := Aside0.mk hb; clear hr hb)))
   go_ret2
   exact ⟨rfl, HI2.out.below HB.out, HK2.out.trans (KeepBut.of_below HB.out h none) (.inl rfl)⟩
  ·rw [if_neg c4] at hm
   simp only [Option.some.injEq, Prod.mk.injEq] at hm
   obtain ⟨rfl, rfl, rfl⟩ := hm
   have b4 : ((hd.length : Int) != 5) = true := bne_iff_ne.mpr (by omega)
   have b5 : (hd.length != 5) = true := bne_iff_ne.mpr c4
   clear c4
   go_enter Tryd.func88, Tryd.ntmps88
   go_wp2_with (first | (go_at_call 86; ((with_reducible refine (word_q HI.out HBY.out 4 4 rfl (by decide) rfl HC3.out v HV.out).mono ?_); rintro ev w2 ⟨rfl, hI, hK⟩; have HI2 := Aside0.mk hI; have HK2 := Aside0.mk hK; obtain ⟨A2, cc2, g0, g1, g2, gc, gl⟩ := hI.facts; clear gc hI hK)) | (go_at_call 93; ((with_reducible refine (cbor_head.calls k 0 v hd _ HHD.out).mono ?_); rintro ev w3 ⟨v0, rfl, hr, hb⟩; obtain ⟨A6, c6, rfl⟩ := Kd.R_slice hr; have HB := Aside0.mk hb; clear hr hb)) | (go_at_call 50; ((with_reducible refine (fault_New.calls 6 at_ _ _ rfl).mono ?_); rintro ev w4 ⟨rfl, hb⟩; have HB4 := Aside0.mk hb; clear hb)))
   go_ret2
   exact ⟨rfl, (HI2.out.below HB.out).below HB4.out, (HK2.out.trans (KeepBut.of_below HB.out h none) (.inl rfl)).trans (KeepBut.of_below HB4.out h none) (.inl rfl)⟩
 ·have es : szN 27 = 8 := rfl
  rw [es] at hm
  by_cases c3 : l.length < p + 8
  ·rw [if_pos c3] at hm
   simp only [Option.some.injEq, Prod.mk.injEq] at hm
   obtain ⟨rfl, rfl, rfl⟩ := hm
   have HC3 := Aside0.mk c3
   clear c3 es
   go_enter Tryd.func88, Tryd.ntmps88
   go_wp2_with (first | (go_at_call 86; ((with_reducible refine (word_qno HI.out 8 8 rfl rfl HC3.out).mono ?_); rintro ev w' ⟨rfl, m, rfl⟩)) | (go_at_call 87; ((with_reducible refine (short_q (HI.out.drewN m)).mono ?_); rintro ev w' ⟨rfl, hb⟩; have HB := Aside0.mk hb; clear hb)))
   go_ret2
   exact ⟨rfl, (HI.out.drewN m).below HB.out, (KeepBut.of_below (pw_below_drewN (Below.refl _ _) m) h none).trans (KeepBut.of_below HB.out h none) (.inl rfl)⟩
  rw [if_neg c3] at hm
  obtain ⟨hd, hhd, hm⟩ := Option.bind_eq_some_iff.mp hm
  have HC3 := Aside0.mk (show p + 8 ≤ l.length by omega)
  have HHD := Aside0.mk hhd
  clear c3 hhd es
  generalize hv : v256 ((l.drop p).take 8) = v at hm HHD
  have HV := Aside0.mk hv
  clear hv
  by_cases c4 : hd.length = 8 + 1
  ·rw [if_pos c4] at hm
   simp only [Option.some.injEq, Prod.mk.injEq] at hm
   obtain ⟨rfl, rfl, rfl⟩ := hm
   have b4 : ((hd.length : Int) != 9) = false := bne_eq_false_iff_eq.mpr (by omega)
   have b5 : (hd.length != 9) = false := bne_eq_false_iff_eq.mpr c4
   clear c4
   go_enter Tryd.func88, Tryd.ntmps88
   go_wp2_with (first | (go_at_call 86; ((with_reducible refine (word_q HI.out HBY.out 8 8 rfl (by decide) rfl HC3.out v HV.out).mono ?_); rintro ev w2 ⟨rfl, hI, hK⟩; have HI2 := Aside0.mk hI; have HK2 := Aside0.mk hK; obtain ⟨A2, cc2, g0, g1, g2, gc, gl⟩ := hI.facts; clear gc hI hK)) | (go_at_call 93; ((with_reducible refine (cbor_head.calls k 0 v hd _ HHD.out).mono ?_); rintro ev w3 ⟨v0, rfl, hr, hb⟩; obtain ⟨A6, c6, rfl⟩ := Kd.R_slice hr; have HB := Aside0.mk hb; clear hr hb)))
   go_ret2
   exact ⟨rfl, HI2.out.below HB.out, HK2.out.trans (KeepBut.of_below HB.out h none) (.inl rfl)⟩
  ·rw [if_neg c4] at hm
   simp only [Option.some.injEq, Prod.mk.injEq] at hm
   obtain ⟨rfl, rfl, rfl⟩ := hm
   have b4 : ((hd.length : Int) != 9) = true := bne_iff_ne.mpr (by omega)
   have b5 : (hd.length != 9) = true := bne_iff_ne.mpr c4
   clear c4
   go_enter Tryd.func88, Tryd.ntmps88
   go_wp2_with (first | (go_at_call 86; ((with_reducible refine (word_q HI.out HBY.out 8 8 rfl (by decide) rfl HC3.out v HV.out).mono ?_); rintro ev w2 ⟨rfl, hI, hK⟩; have HI2 := Aside0.mk hI; have HK2 := Aside0.mk hK; obtain ⟨A2, cc2, g0, g1, g2, gc, gl⟩ := hI.facts; clear gc hI hK)) | (go_at_call 93; ((with_reducible refine (cbor_head.calls k 0 v hd _ HHD.out).mono ?_); rintro ev w3 ⟨v0, rfl, hr, hb⟩; obtain ⟨A6, c6, rfl⟩ := Kd.R_slice hr; have HB := Aside0.mk hb; clear hr hb)) | (go_at_call 50; ((with_reducible refine (fault_New.calls 6 at_ _ _ rfl).mono ?_); rintro ev w4 ⟨rfl, hb⟩; have HB4 := Aside0.mk hb; clear hb)))
   go_ret2
   exact ⟨rfl, (HI2.out.below HB.out).below HB4.out, (HK2.out.trans (KeepBut.of_below HB.out h none) (.inl rfl)).trans (KeepBut.of_below HB4.out h none) (.inl rfl)⟩
theorem badIx_bd : ∀ (l : List Int) (i : Int), badIx l i = -1 ∨ (i ≤ badIx l i ∧ badIx l i < i + l.length)
 | [], _ => .inl rfl
 | c :: cs, i => by
  rw [badIx]
  by_cases h : prn c = true
  ·rw [if_pos h]
   rcases badIx_bd cs (i + 1) with h1 | h1
   ·exact .inl h1
   ·exact .inr ⟨by omega, by simp only [List.length_cons]; omega⟩
  ·rw [if_neg h]
   exact .inr ⟨Int.le_refl _, by simp only [List.length_cons]; omega⟩
theorem index_rdq (w : World) (A : Option Addr) (c : Nat) (l : List Int) (bi : Int) (hC : Kd.C (Kd.int .u8) w A l.length l) (hl : l.length < 1000000000000) (h : badIx l 0 = bi) :
  Calls Tryd.prog 117 #[.slice A l.length c, .func (.func 118) #[] #[]] w fun e w' => e = .returned (.int .i64 bi) ∧ Below w.heap.size w w' := by
 subst h
 exact index_rdr w A c l hC hl
def bytM (l : List Int) (p : Nat) (n : Int) (tx : Bool) : List Int × Option E × Nat :=
 if ((l.length - p : Nat) : Int) < n then ([], some (.fault 3 (l.length : Int)), p) else if tx = true ∧ 0 ≤ badIx ((l.drop p).take n.toNat) 0 then ([], some (.fault 5 ((p : Int) + badIx ((l.drop p).take n.toNat) 0)), p + n.toNat) else ((l.drop p).take n.toNat, none, p + n.toNat)
set_option maxHeartbeats 16000000 in
set_option maxRecDepth 100000 in
theorem byt_calls {w0 w : World} {g h : Nat} {l : List Int} {p : Nat} (H : RI w0 w g h l p) (hl : l.length ≤ 1048576) (n : Int) (h0 : 0 ≤ n) (tx : Bool) (r : List Int) (e : Option E) (q : Nat) (hm : bytM l p n tx = (r, e, q)) :
  Calls Tryd.prog 89 #[.pointer (some ⟨g, 0, none⟩), .int .u64 n, .bool tx] w fun ev w' => ∃ v, ev = .returned (.tuple #[v, errW e]) ∧ Kd.R (Kd.int .u8) 5 w' w.heap.size (fun _ => True) v r ∧ RI w0 w' g h l q ∧ KeepBut w w' h none := by
 unfold bytM at hm
 have HI := Aside0.mk H
 obtain ⟨A, c, f0, f1, f2, fc, fl⟩ := H.facts
 have hle := H.le
 clear fc H
 obtain ⟨x, hx⟩ : ∃ x : Int, ((l.length - p : Nat) : Int) = x := ⟨_, rfl⟩
 have hx0 : 0 ≤ x ∧ x ≤ 1048576 ∧ x = (l.length : Int) - (p : Int) := by omega
 rw [hx] at hm
 have HX := Aside0.mk hx
 have eu : IntKind.u64.wrap x = x := by unfold IntKind.wrap; simp [IntKind.bits, IntKind.signed]; omega
 by_cases c1 : x < n
 ·rw [if_pos c1] at hm
  have b1 : decide (x < n) = true := decide_eq_true c1
  simp only [Prod.mk.injEq] at hm
  obtain ⟨rfl, rfl, rfl⟩ := hm
  clear c1 hx hx0
  go_enter Tryd.func89, Tryd.ntmps89
  go_wp2_with (first | (go_at_call 54; ((with_reducible refine (atc_q HI.out).mono ?_); rintro ev w1 ⟨rfl, e1⟩; have e1 := e1.symm; subst e1)) | (go_at_call 53; ((with_reducible refine (left_qq HI.out x HX.out).mono ?_); rintro ev w1 ⟨rfl, m, rfl⟩)) | (go_at_call 87; ((with_reducible refine (short_q (HI.out.drewN m)).mono ?_); rintro ev w' ⟨rfl, hb⟩; have HB := Aside0.mk hb; clear hb)))
  go_ret2
  exact ⟨_, rfl, Kd.R_nil _ _ _ _ _, (HI.out.drewN m).below HB.out, (KeepBut.of_below (pw_below_drewN (Below.refl _ _) m) h none).trans (KeepBut.of_below HB.out h none) (.inl rfl)⟩
 rw [if_neg c1] at hm
 have b1 : decide (x < n) = false := decide_eq_false c1
 have ew : wrap64 n = n := by unfold wrap64; omega
 generalize hLL : (l.drop p).take n.toNat = LL at hm
 have hLn : LL.length = n.toNat := by rw [← hLL]; simp; omega
 have HLL := Aside0.mk hLL
 have HT := Aside0.mk (And.intro (show p + n.toNat ≤ l.length by omega) (show ((n.toNat : Nat) : Int) = n by omega))
 have HLN := Aside0.mk (show LL.length < 1000000000000 by omega)
 have hbd := badIx_bd LL 0
 generalize hbi : badIx LL 0 = bi at hm hbd
 have HBI := Aside0.mk hbi
 have ep : wrap64 ((p : Int) + bi) = (p : Int) + bi := by unfold wrap64; omega
 clear c1 hx hLL hbi hx0 hLn hbd hle
 cases tx with
 | false =>
  rw [if_neg (by simp)] at hm
  simp only [Prod.mk.injEq] at hm
  obtain ⟨rfl, rfl, rfl⟩ := hm
  go_enter Tryd.func89, Tryd.ntmps89
  go_wp2_with (first | (go_at_call 54; ((with_reducible refine (atc_q HI.out).mono ?_); rintro ev w1 ⟨rfl, e1⟩; have e1 := e1.symm; subst e1)) | (go_at_call 53; ((with_reducible refine (left_qq HI.out x HX.out).mono ?_); rintro ev w1 ⟨rfl, m, rfl⟩; have HI1 := Aside0.mk (HI.out.drewN m); have HK1 := Aside0.mk (KeepBut.of_below (pw_below_drewN (Below.refl w.heap.size w) m) h none))) | (go_at_call 116; ((with_reducible refine (take_q HI1.out n n.toNat HT.out.2 HT.out.1 LL HLL.out).mono ?_); rintro ev w2 ⟨v, rfl, hr, hI, hK⟩; obtain ⟨A7, c7, rfl⟩ := Kd.R_slice hr; have HRR := Aside0.mk (Kd.R_lower hr HK1.out.1); have HI2 := Aside0.mk hI; have HK2 := Aside0.mk hK; obtain ⟨A2, cc2, g0, g1, g2, gc, gl⟩ := hI.facts; clear gc hI hK hr)) | (go_at_call 117; ((with_reducible refine (index_rdq _ A7 c7 LL bi (Kd.R_reads' HRR.out).2.2 HLN.out HBI.out).mono ?_); rintro ev w4 ⟨rfl, hb⟩; have HB4 := Aside0.mk hb; clear hb)))
  go_ret2
  exact ⟨_, rfl, Kd.R_below HRR.out HB4.out, HI2.out.below HB4.out, (HK1.out.trans HK2.out (.inl rfl)).trans (KeepBut.of_below HB4.out h none) (.inl rfl)⟩
 | true =>
  by_cases c2 : 0 ≤ bi
  ·rw [if_pos ⟨rfl, c2⟩] at hm
   have b2 : decide (0 ≤ bi) = true := decide_eq_true c2
   simp only [Prod.mk.injEq] at hm
   obtain ⟨rfl, rfl, rfl⟩ := hm
   clear c2
   go_enter Tryd.func89, Tryd.ntmps89
   go_wp2_with (first | (go_at_call 54; ((with_reducible refine (atc_q HI.out).mono ?_); rintro ev w1 ⟨rfl, e1⟩; have e1 := e1.symm; subst e1)) | (go_at_call 53; ((with_reducible refine (left_qq HI.out x HX.out).mono ?_); rintro ev w1 ⟨rfl, m, rfl⟩; have HI1 := Aside0.mk (HI.out.drewN m); have HK1 := Aside0.mk (KeepBut.of_below (pw_below_drewN (Below.refl w.heap.size w) m) h none))) | (go_at_call 116; ((with_reducible refine (take_q HI1.out n n.toNat HT.out.2 HT.out.1 LL HLL.out).mono ?_); rintro ev w2 ⟨v, rfl, hr, hI, hK⟩; obtain ⟨A7, c7, rfl⟩ := Kd.R_slice hr; have HRR := Aside0.mk (Kd.R_lower hr HK1.out.1); have HI2 := Aside0.mk hI; have HK2 := Aside0.mk hK; obtain ⟨A2, cc2, g0, g1, g2, gc, gl⟩ := hI.facts; clear gc hI hK hr)) | (go_at_call 117; ((with_reducible refine (index_rdq _ A7 c7 LL bi (Kd.R_reads' HRR.out).2.2 HLN.out HBI.out).mono ?_); rintro ev w4 ⟨rfl, hb⟩; have HB4 := Aside0.mk hb; clear hb)) | (go_at_call 50; ((with_reducible refine (fault_New.calls 5 ((p : Int) + bi) _ _ rfl).mono ?_); rintro ev w5 ⟨rfl, hb⟩; have HB5 := Aside0.mk hb; clear hb)))
   go_ret2
   exact ⟨_, rfl, Kd.R_nil _ _ _ _ _, (HI2.out.below HB4.out).below HB5.out, ((HK1.out.trans HK2.out (.inl rfl)).trans (KeepBut.of_below HB4.out h none) (.inl rfl)).trans (KeepBut.of_below HB5.out h none) (.inl rfl)⟩
  ·rw [if_neg (fun h => c2 h.2)] at hm
   have b2 : decide (0 ≤ bi) = false := decide_eq_false c2
   simp only [Prod.mk.injEq] at hm
   obtain ⟨rfl, rfl, rfl⟩ := hm
   clear c2
   go_enter Tryd.func89, Tryd.ntmps89
   go_wp2_with (first | (go_at_call 54; ((with_reducible refine (atc_q HI.out).mono ?_); rintro ev w1 ⟨rfl, e1⟩; have e1 := e1.symm; subst e1)) | (go_at_call 53; ((with_reducible refine (left_qq HI.out x HX.out).mono ?_); rintro ev w1 ⟨rfl, m, rfl⟩; have HI1 := Aside0.mk (HI.out.drewN m); have HK1 := Aside0.mk (KeepBut.of_below (pw_below_drewN (Below.refl w.heap.size w) m) h none))) | (go_at_call 116; ((with_reducible refine (take_q HI1.out n n.toNat HT.out.2 HT.out.1 LL HLL.out).mono ?_); rintro ev w2 ⟨v, rfl, hr, hI, hK⟩; obtain ⟨A7, c7, rfl⟩ := Kd.R_slice hr; have HRR := Aside0.mk (Kd.R_lower hr HK1.out.1); have HI2 := Aside0.mk hI; have HK2 := Aside0.mk hK; obtain ⟨A2, cc2, g0, g1, g2, gc, gl⟩ := hI.facts; clear gc hI hK hr)) | (go_at_call 117; ((with_reducible refine (index_rdq _ A7 c7 LL bi (Kd.R_reads' HRR.out).2.2 HLN.out HBI.out).mono ?_); rintro ev w4 ⟨rfl, hb⟩; have HB4 := Aside0.mk hb; clear hb)))
   go_ret2
   exact ⟨_, rfl, Kd.R_below HRR.out HB4.out, HI2.out.below HB4.out, (HK1.out.trans HK2.out (.inl rfl)).trans (KeepBut.of_below HB4.out h none) (.inl rfl)⟩
mutual
def oneM : Nat → List Int → Nat → Int → Option (Int × Int × List Int × List (S27) × Option E × Nat)
 | 0, _, _, _ => none
 | k + 1, l, p, a => if l.length ≤ p then some (0, 0, [], [], some (.fault 3 (l.length : Int)), p) else if 5 < rd l p / 32 ∨ 27 < rd l p % 32 then some (0, 0, [], [], some (.fault 5 (p : Int)), p + 1) else if 8 ≤ a then some (0, 0, [], [], some (.fault 2 (p : Int)), p + 1) else (numM k l (p + 1) (rd l p % 32) (p : Int)).bind fun y => if y.2.1.isSome = true then some (0, 0, [], [], y.2.1, y.2.2) else if rd l p / 32 < 2 then some (rd l p / 32, y.1, [], [], none, y.2.2) else if 0 ≤ y.1 ∧ y.1 < 18446744073709551616 then (if rd l p / 32 < 4 then (if (bytM l y.2.2 y.1 (decide (rd l p / 32 = 3))).2.1.isSome = true then some (0, 0, [], [], (bytM l y.2.2 y.1 (decide (rd l p / 32 = 3))).2.1, (bytM l y.2.2 y.1 (decide (rd l p / 32 = 3))).2.2) else some (rd l p / 32, 0, (bytM l y.2.2 y.1 (decide (rd l p / 32 = 3))).1, [], none, (bytM l y.2.2 y.1 (decide (rd l p / 32 = 3))).2.2)) else (kidsM k l y.2.2 y.1 (decide (rd l p / 32 = 5)) a 0 [] []).bind fun z => if z.2.1.isSome = true then some (0, 0, [], [], z.2.1, z.2.2) else some (rd l p / 32, 0, [], z.1, none, z.2.2)) else none
def kidsM : Nat → List Int → Nat → Int → Bool → Int → Int → List Int → List (S27) → Option (List (S27) × Option E × Nat)
 | 0, _, _, _, _, _, _, _, _ => none
 | k + 1, l, q, n, m, a, i, last, acc => if i < n then (if 0 ≤ i ∧ n < 18446744073709551616 ∧ 0 ≤ a ∧ a < 8 ∧ acc.length < 1000000000 then (oneM k l q (a + 1)).bind fun y => if y.2.2.2.2.1.isSome = true then some ([], y.2.2.2.2.1, y.2.2.2.2.2) else if m = false then kidsM k l y.2.2.2.2.2 n m a (i + 1) last (acc ++ [⟨y.1, y.2.1, y.2.2.1, y.2.2.2.1⟩]) else if q ≤ y.2.2.2.2.2 then (if 0 < i ∧ 0 ≤ Lib.compareBytes (Lib.bytesOf last) (Lib.bytesOf ((l.take y.2.2.2.2.2).drop q)) then some ([], some (.fault 7 (q : Int)), y.2.2.2.2.2) else (oneM k l y.2.2.2.2.2 (a + 1)).bind fun z => if z.2.2.2.2.1.isSome = true then some ([], z.2.2.2.2.1, z.2.2.2.2.2) else kidsM k l z.2.2.2.2.2 n m a (i + 1) ((l.take y.2.2.2.2.2).drop q) (acc ++ [⟨y.1, y.2.1, y.2.2.1, y.2.2.2.1⟩] ++ [⟨z.1, z.2.1, z.2.2.1, z.2.2.2.1⟩])) else none else none) else some (acc, none, q)
end
def OneC (k : Nat) : Prop := ∀ (w0 w : World) (g h : Nat) (l : List Int) (p : Nat) (a : Int) (r1 r2 : Int) (r3 : List Int) (r4 : List (S27)) (r5 : Option E) (r6 : Nat), RI w0 w g h l p → (∀ x ∈ l, 0 ≤ x ∧ x < 256) → l.length ≤ 1048576 → oneM k l p a = some (r1, r2, r3, r4, r5, r6) →
 Calls Tryd.prog 52 #[.pointer (some ⟨g, 0, none⟩), .int .i64 a] w fun ev w' => ∃ v1_ v2_ : Value, ev = .returned (.tuple #[.agg #[.int .i64 r1, .int .u64 r2, v1_, v2_], errW r5]) ∧ Kd.R (Kd.int .u8) 5 w' w.heap.size (fun _ => True) v1_ r3 ∧ Kd.R k27 27 w' w.heap.size (fun k_ => some k_ ≠ (v1_ : Value).ownBlock) v2_ r4 ∧ RI w0 w' g h l r6 ∧ KeepBut w w' h none
theorem OneC.use {k : Nat} (H : OneC k) (w0 w : World) (g h : Nat) (l : List Int) (p : Nat) (a : Int) (r1 r2 : Int) (r3 : List Int) (r4 : List (S27)) (r5 : Option E) (r6 : Nat) (hI : RI w0 w g h l p) (hb : ∀ x ∈ l, 0 ≤ x ∧ x < 256) (hl : l.length ≤ 1048576) (h1 : oneM k l p a = some (r1, r2, r3, r4, r5, r6)) :
 Calls Tryd.prog 52 #[.pointer (some ⟨g, 0, none⟩), .int .i64 a] w fun ev w' => ∃ v1_ v2_ : Value, ev = .returned (.tuple #[.agg #[.int .i64 r1, .int .u64 r2, v1_, v2_], errW r5]) ∧ Kd.R (Kd.int .u8) 5 w' w.heap.size (fun _ => True) v1_ r3 ∧ Kd.R k27 27 w' w.heap.size (fun k_ => some k_ ≠ (v1_ : Value).ownBlock) v2_ r4 ∧ RI w0 w' g h l r6 ∧ KeepBut w w' h none := H w0 w g h l p a r1 r2 r3 r4 r5 r6 hI hb hl h1
theorem RI.grown {w0 W W' : World} {g h : Nat} {l : List Int} {p : Nat} (H : RI w0 W g h l p) {b : Nat} {ok : Nat → Prop} {v : Value} {acc : List (S27)} (ho : Kd.R k27 27 W b ok v acc) (hg : W.grownBy W' v.ownBlock) (hb : Below b W W') (h0 : w0.heap.size ≤ b) : RI w0 W' g h l p := by
 obtain ⟨⟨A, c, h1, h2, h3, h4, h5, h6⟩, A2, c2, k1, k2, k3, k4, k5⟩ := H
 refine ⟨⟨A, c, blk_grown h1 hg (Kd.R_ne ho h1 (by decide)), ?_, h3, h4, h5, h6.trans (hb.mono h0)⟩, A2, c2, blk_grown k1 hg (Kd.R_ne ho k1 (by decide)), k2, k3, k4, k5⟩
 refine Kd.R_mono (Kd.R_grown (Kd.R_bound h2) hg (fun k hk => ?_)) (fun k hk => hk.1)
 obtain ⟨_, _, _, q, hq, cells', hc⟩ := hk
 have hq5 : q = 5 := by
  rcases List.mem_cons.1 hq with h_ | h_
  ·exact h_
  ·simp [Kd.int, Kd.scalar] at h_
 subst hq5
 exact Kd.R_ne ho hc (by decide)
theorem keepB {w W W' : World} {h b : Nat} (hk : KeepBut w W h none) (hb : Below b W W') (h0 : w.heap.size ≤ b) : KeepBut w W' h none :=
 ⟨Nat.le_trans hk.1 hb.size, fun i hi hg hr => (hb.block i (by omega)).trans (hk.2 i hi hg hr)⟩
theorem elemR0 {α : Type} {d : Kd α} {e : Nat} {w5 w6 : World} {Bc B0 : Nat} {v u : Value} {xs : List α} (hR : d.R e w5 Bc (fun _ => True) v xs) (hb : Below w5.heap.size w5 w6) (h0 : B0 ≤ Bc) (hu : ∀ k, u.ownBlock = some k → k < Bc) :
  d.R e w6 B0 (fun k => B0 ≤ k ∧ some k ≠ u.ownBlock) v xs := by
 have h1 := Kd.R_below (Kd.R_mono (ok' := fun k => Bc ≤ k) (Kd.R_bound hR) (fun k hk => hk.2.1)) hb
 exact Kd.R_lower (Kd.R_mono h1 (fun k hk => ⟨Nat.le_trans h0 hk, fun he => Nat.lt_irrefl k (Nat.lt_of_lt_of_le (hu k he.symm) hk)⟩)) h0
theorem accR0 {α : Type} {d : Kd α} {e : Nat} {wr w5 w6 : World} {g B0 : Nat} {u : Value} {acc : List α} (hO : d.R e wr B0 (fun k => B0 ≤ k) u acc) (hK : KeepBut wr w5 g none) (hg : g < B0) (hb : Below w5.heap.size w5 w6) : d.R e w6 B0 (fun k => B0 ≤ k) u acc :=
 Kd.R_below (Kd.R_keep hO hK (fun k (hk : B0 ≤ k) => Nat.ne_of_gt (Nat.lt_of_lt_of_le hg hk))) hb
theorem RI.facts0 {w0 W : World} {g h : Nat} {l : List Int} {p : Nat} (H : RI w0 W g h l p) :
  ∃ A c, W.cell? ⟨g, 0, none⟩ = some (.slice A l.length c) ∧ W.cell? ⟨g, 1, none⟩ = some (.pointer (some ⟨h, 0, none⟩)) ∧ W.cell? ⟨g, 2, none⟩ = some (.func (.func 52) #[.pointer (some ⟨g, 0, none⟩)] #[]) ∧ Kd.C (Kd.int .u8) w0 A l.length l ∧ l.length ≤ c := by
 obtain ⟨hr, A, c, h1, h2, h3, h4, h5⟩ := H
 exact ⟨A, c, (blk_cell h1 0).trans rfl, (blk_cell h1 1).trans rfl, (blk_cell h1 2).trans rfl, h2, h3⟩
theorem RI.lt {w0 W : World} {g h : Nat} {l : List Int} {p : Nat} (H : RI w0 W g h l p) : g < W.heap.size ∧ h < W.heap.size ∧ w0.heap.size ≤ W.heap.size := by
 obtain ⟨⟨A, c, h1, h2, h3, h4, h5, h6⟩, A2, c2, k1, k2, k3, k4, k5⟩ := H
 exact ⟨blk_lt k1, blk_lt h1, h6.size⟩
theorem cutQ {W : World} {A : Option Addr} {l : List Int} {c : Nat} (p q : Nat) (h1 : p ≤ q) (h2 : q ≤ l.length) (hC : Kd.C (Kd.int .u8) W A l.length l) (hc : l.length ≤ c) :
  ∃ A5 c5, (∀ W' : World, (Instr.slice 22 (.slice A l.length c) (some (.int .i64 (p : Int))) (some (.int .i64 (q : Int))) none).run Tryd.prog W' = .ok (.slice A5 ((l.take q).drop p).length c5) W') ∧ Kd.C (Kd.int .u8) W A5 ((l.take q).drop p).length ((l.take q).drop p) ∧ ((l.take q).drop p).length ≤ c5 := by
 obtain ⟨i0, hi0, _, hsz, _⟩ := info_parts info5
 have hy : ((l.take q).drop p).length = q - p := by simp; omega
 refine ⟨if c = p then A else A.map (·.add (p * 1)), c - p, fun W' => ?_, ?_, ?_⟩
 ·rw [hy]
  have h3 := cut_mid (P := Tryd.prog) 22 5 .i64 .i64 Tryd.underlying22 hi0 1 hsz A l.length c (p : Int) (q : Int) (by omega) (by omega) (by omega) hc W'
  simpa using h3
 ·have h3 := Kd.C_mid (lo := p) (hi := q) (c := c) hC (by omega) (by omega) hc
  exact h3
 ·rw [hy]; omega
def KidsC (k : Nat) : Prop := ∀ (w0 w : World) (g h : Nat) (l : List Int) (p : Nat) (n : Int) (m : Bool) (a : Int) (r1 : List (S27)) (r2 : Option E) (r3 : Nat), RI w0 w g h l p → (∀ x ∈ l, 0 ≤ x ∧ x < 256) → l.length ≤ 1048576 → kidsM k l p n m a 0 [] [] = some (r1, r2, r3) →
 Calls Tryd.prog 90 #[.pointer (some ⟨g, 0, none⟩), .int .u64 n, .bool m, .int .i64 a] w fun ev w' => ∃ v_ : Value, ev = .returned (.tuple #[v_, errW r2]) ∧ Kd.R k27 27 w' w.heap.size (fun _ => True) v_ r1 ∧ RI w0 w' g h l r3 ∧ KeepBut w w' h none
def cbor_kids.T12 : Bool × List (List Nat × List Nat) := (true, [([], []), ([0], [0]), ([1], [1]), ([2], [2]), ([], []), ([], []), ([5], [5]), ([6], [6]), ([7], [7]), ([8], [8]), ([3, 4, 9], [3, 4, 9]), ([10, 9, 0, 1, 2, 3, 4, 5, 6, 7, 8, 9, 10], [10])])
def cbor_kids.B12 : List Nat := [0, 1, 3, 7, 0, 0, 32, 96, 224, 480, 1023, 2047]
theorem cbor_kids.tab12 : rtab .any (opsOf Tryd.f90 12) = cbor_kids.T12 := by kernel_rfl
theorem cbor_kids.bits12 : waitsOk cbor_kids.T12.2 cbor_kids.B12 = true := by kernel_rfl
set_option maxHeartbeats 40000000 in
set_option maxRecDepth 100000 in
theorem kids_calls (k : Nat) (ih : ∀ j, j < k → OneC j) : KidsC k := by
 intro w0 w g h l p n m a r1 r2 r3 hI hby hl hm
 have hu := Tryd.underlying27
 have HM := Aside0.mk hm
 have HI0 := Aside0.mk hI
 have HL := Aside0.mk (And.intro hby hl)
 have HLT := Aside0.mk hI.lt
 clear hI hby hl hm
 go_enter Tryd.func90, Tryd.ntmps90
 go_wp2
 go_loopg [10, 11, 12] k (fun kq v10 v11 v12 W => ∃ (q : Nat) (i : Int) (last : List Int) (acc : List (S27)) (A4 : Option Addr) (c4 : Nat), v11 = .slice A4 last.length c4 ∧ v12 = .int .u64 i ∧ Aside0 (kidsM kq l q n m a i last acc = some (r1, r2, r3)) ∧ Aside0 (kq ≤ k) ∧ Aside0 (Kd.R k27 27 W w.heap.size (fun k_ => w.heap.size ≤ k_) v10 acc) ∧ Aside0 (RI w0 W g h l q) ∧ Aside0 (KeepBut w W h none) ∧ Aside0 (Kd.C (Kd.int .u8) w0 A4 last.length last ∧ last.length ≤ c4))
 case atStart => exact ⟨p, 0, [], [], none, 0, rfl, rfl, HM, ⟨Nat.le_refl _⟩, ⟨Kd.R_nil _ _ _ _ _⟩, HI0, ⟨KeepBut.refl _ _ _⟩, ⟨(Kd.R_reads' (Kd.R_nil (Kd.int .u8) 5 w0 0 (fun _ => True))).2.2, Nat.le_refl _⟩⟩
 case round =>
  obtain ⟨q, i, last, acc, A4, c4, rfl, rfl, HA, HKQ, HO, HI, HK, HC4⟩ := hrel
  have h_ := HA.out
  obtain ⟨Au, cu, rfl⟩ := Kd.R_slice HO.out
  cases gk with
  | zero => exact absurd h_ (by simp [kidsM])
  | succ kq =>
  rw [kidsM] at h_
  obtain ⟨A2, cc2, f0, f1, f2, fc, fl⟩ := HI.out.facts
  have hle := HI.out.le
  by_cases ci : i < n
  case neg =>
   rw [if_neg ci] at h_
   have cb : decide (i < n) = false := decide_eq_false ci
   simp only [Option.some.injEq, Prod.mk.injEq] at h_
   obtain ⟨rfl, rfl, rfl⟩ := h_
   clear fc
   go_wp2
   go_ret2
   exact ⟨_, rfl, Kd.R_mono HO.out (fun _ _ => trivial), HI.out, HK.out⟩
  rw [if_pos ci] at h_
  have cb : decide (i < n) = true := decide_eq_true ci
  by_cases cr : 0 ≤ i ∧ n < 18446744073709551616 ∧ 0 ≤ a ∧ a < 8 ∧ acc.length < 1000000000
  case neg => rw [if_neg cr] at h_; cases h_
  rw [if_pos cr] at h_
  have ea : wrap64 (a + 1) = a + 1 := by unfold wrap64; omega
  have ei : IntKind.u64.wrap (i + 1) = i + 1 := by unfold IntKind.wrap; simp [IntKind.bits, IntKind.signed]; omega
  have HCR := Aside0.mk cr
  obtain ⟨⟨t5, n5, bs, ks, err, q2⟩, hy, h_⟩ := Option.bind_eq_some_iff.mp h_
  dsimp only at h_
  have HY := Aside0.mk hy
  have HFC := Aside0.mk fc
  clear hy cr ci fc
  cases err with
  | some x =>
   rw [if_pos (show (some x).isSome = true from rfl)] at h_
   simp only [Option.some.injEq, Prod.mk.injEq] at h_
   obtain ⟨rfl, rfl, rfl⟩ := h_
   clear hle
   go_wp2_with (first | (go_at_call 54; ((with_reducible refine (atc_q HI.out).mono ?_); rintro ev w1 ⟨rfl, e1⟩; have e1 := e1.symm; subst e1)) | (go_at_call 52; ((with_reducible refine ((ih kq (by have := HKQ.out; omega)).use w0 _ g h l q (a + 1) t5 n5 bs ks (some x) q2 HI.out HL.out.1 HL.out.2 HY.out).mono ?_); rintro ev w5 ⟨v1, v2, rfl, hR1, hR2, hI', hK'⟩; obtain ⟨A7, c7, rfl⟩ := Kd.R_slice hR1; obtain ⟨A8, c8, rfl⟩ := Kd.R_slice hR2; have HR1 := Aside0.mk hR1; have HR2 := Aside0.mk hR2; have HI5 := Aside0.mk hI'; have HKS := Aside0.mk hK'; have HK5 := Aside0.mk (HK.out.trans hK' (.inl rfl)); have hb6 := below_alloc (Below.refl w5.heap.size w5) (Obj.cells #[.int .i64 t5, .int .u64 n5, .slice A7 bs.length c7, .slice A8 ks.length c8] 27); have HB6 := Aside0.mk hb6; have HI6 := Aside0.mk (hI'.below hb6); have HK6 := Aside0.mk (HK5.out.trans (KeepBut.of_below hb6 h none) (.inl rfl)); obtain ⟨b1, b2, b3, b4, b5, b6, b7, b8⟩ := row4 (blk_new w5 (Obj.cells #[.int .i64 t5, .int .u64 n5, .slice A7 bs.length c7, .slice A8 ks.length c8] 27)); obtain ⟨A9, cc9, g0, g1, g2, gc, gl⟩ := (hI'.below hb6).facts; clear gc gl hb6 hR1 hR2 hI' hK'; (try simp only [errW_none, errW_some]))))
   go_ret2
   exact ⟨_, by first | rfl | (simp [errW_none, errW_some] <;> rfl), Kd.R_nil _ _ _ _ _, HI6.out, HK6.out⟩
  | none =>
   rw [if_neg (by simp)] at h_
   cases m with
   | false =>
    rw [if_pos rfl] at h_
    have HH := Aside0.mk h_
    clear h_ hle
    go_wp2_with (first | (go_at_call 54; ((with_reducible refine (atc_q HI.out).mono ?_); rintro ev w1 ⟨rfl, e1⟩; have e1 := e1.symm; subst e1)) | (go_at_call 52; ((with_reducible refine ((ih kq (by have := HKQ.out; omega)).use w0 _ g h l q (a + 1) t5 n5 bs ks (none) q2 HI.out HL.out.1 HL.out.2 HY.out).mono ?_); rintro ev w5 ⟨v1, v2, rfl, hR1, hR2, hI', hK'⟩; obtain ⟨A7, c7, rfl⟩ := Kd.R_slice hR1; obtain ⟨A8, c8, rfl⟩ := Kd.R_slice hR2; have HR1 := Aside0.mk hR1; have HR2 := Aside0.mk hR2; have HI5 := Aside0.mk hI'; have HKS := Aside0.mk hK'; have HK5 := Aside0.mk (HK.out.trans hK' (.inl rfl)); have hb6 := below_alloc (Below.refl w5.heap.size w5) (Obj.cells #[.int .i64 t5, .int .u64 n5, .slice A7 bs.length c7, .slice A8 ks.length c8] 27); have HB6 := Aside0.mk hb6; have HI6 := Aside0.mk (hI'.below hb6); have HK6 := Aside0.mk (HK5.out.trans (KeepBut.of_below hb6 h none) (.inl rfl)); obtain ⟨b1, b2, b3, b4, b5, b6, b7, b8⟩ := row4 (blk_new w5 (Obj.cells #[.int .i64 t5, .int .u64 n5, .slice A7 bs.length c7, .slice A8 ks.length c8] 27)); obtain ⟨A9, cc9, g0, g1, g2, gc, gl⟩ := (hI'.below hb6).facts; clear gc gl hb6 hR1 hR2 hI' hK'; (try simp only [errW_none, errW_some]))) | ((with_reducible refine gate_builtin (b := .append) (xs := #[.tmp 41, .tmp 43]) rfl ?_); at_builtin; refine Kd.R_append k27 (w0 := (w5.alloc (Obj.cells #[.int .i64 t5, .int .u64 n5, .slice A7 bs.length c7, .slice A8 ks.length c8] 27))) w.heap.size rfl (.tmp 41) (.tmp 43) 25 27 (.agg #[(.int .i64 0), (.int .u64 0), (.slice none 0 0), (.slice none 0 0)]) 64 rfl Tryd.underlying25 info27 rfl (by decide) (by omega) (.slice Au acc.length cu) acc (⟨t5, n5, bs, ks⟩ : S27) [.int .i64 t5, .int .u64 n5, .slice A7 bs.length c7, .slice A8 ks.length c8] (fun k_ => w.heap.size ≤ k_) (fun k_ => w.heap.size ≤ k_ ∧ some k_ ≠ (Value.slice Au acc.length cu).ownBlock) rfl q98_ ?aP (fun _ hk => hk) ?aF ?aO ?aB ?aS ?aL ?_; (case aP => exact k27_mkM _ _ _ (⟨t5, n5, bs, ks⟩ : S27) (elemR0 HR1.out HB6.out HK.out.1 (Kd.R_lt HO.out)) (elemR0 (Kd.R_mono HR2.out (fun _ _ => trivial)) HB6.out HK.out.1 (Kd.R_lt HO.out))); (case aB => exact Below.refl _ _); (case aS => exact HK6.out.1); (case aF => exact fun k_ hk_ => Nat.le_trans HK6.out.1 hk_); (case aO => exact accR0 HO.out HKS.out HLT.out.2.1 HB6.out); (case aL => have := HCR.out.2.2.2.2; (try simp only [List.length_append, List.length_cons, List.length_nil]); omega); intro v' w7 ho hb7 hg7 _; have HI7 := Aside0.mk ((HI6.out).grown (accR0 HO.out HKS.out HLT.out.2.1 HB6.out) hg7 hb7 HLT.out.2.2); have HK7 := Aside0.mk (keepB HK6.out hb7 (Nat.le_refl _)); have ho2 := Kd.R_slice ho; (try simp only [List.length_append, List.length_cons, List.length_nil] at ho2); obtain ⟨A10, cA10, rfl⟩ := ho2; have HO7 := Aside0.mk ho; obtain ⟨A11, cc11, y0, y1, y2, yc, yl⟩ := HI7.out.facts0; have HF0 := Aside0.mk (And.intro yc yl); clear yc yl ho hb7 hg7))
    go_roundg kq
    case measure => omega
    case rel => exact ⟨q2, i + 1, last, acc ++ [(⟨t5, n5, bs, ks⟩ : S27)], A4, c4, rfl, by first | rfl | (rw [ei]), HH, ⟨by have := HKQ.out; omega⟩, HO7, HI7, HK7, HC4⟩
   | true =>
    rw [if_neg (by decide)] at h_
    by_cases cq : q ≤ q2
    case neg => rw [if_neg cq] at h_; cases h_
    rw [if_pos cq] at h_
    generalize hkey : (l.take q2).drop q = key at h_
    have HH := Aside0.mk h_
    have HKEY := Aside0.mk hkey
    have HCQ := Aside0.mk cq
    clear h_ hle hkey cq
    go_wp2_with (first | (go_at_call 54; ((with_reducible refine (atc_q HI.out).mono ?_); rintro ev w1 ⟨rfl, e1⟩; have e1 := e1.symm; subst e1)) | (go_at_call 52; ((with_reducible refine ((ih kq (by have := HKQ.out; omega)).use w0 _ g h l q (a + 1) t5 n5 bs ks (none) q2 HI.out HL.out.1 HL.out.2 HY.out).mono ?_); rintro ev w5 ⟨v1, v2, rfl, hR1, hR2, hI', hK'⟩; obtain ⟨A7, c7, rfl⟩ := Kd.R_slice hR1; obtain ⟨A8, c8, rfl⟩ := Kd.R_slice hR2; have HR1 := Aside0.mk hR1; have HR2 := Aside0.mk hR2; have HI5 := Aside0.mk hI'; have HKS := Aside0.mk hK'; have HK5 := Aside0.mk (HK.out.trans hK' (.inl rfl)); have hb6 := below_alloc (Below.refl w5.heap.size w5) (Obj.cells #[.int .i64 t5, .int .u64 n5, .slice A7 bs.length c7, .slice A8 ks.length c8] 27); have HB6 := Aside0.mk hb6; have HI6 := Aside0.mk (hI'.below hb6); have HK6 := Aside0.mk (HK5.out.trans (KeepBut.of_below hb6 h none) (.inl rfl)); obtain ⟨b1, b2, b3, b4, b5, b6, b7, b8⟩ := row4 (blk_new w5 (Obj.cells #[.int .i64 t5, .int .u64 n5, .slice A7 bs.length c7, .slice A8 ks.length c8] 27)); obtain ⟨A9, cc9, g0, g1, g2, gc, gl⟩ := (hI'.below hb6).facts; clear gc gl hb6 hR1 hR2 hI' hK'; (try simp only [errW_none, errW_some]))) | ((with_reducible refine gate_builtin (b := .append) (xs := #[.tmp 41, .tmp 43]) rfl ?_); at_builtin; refine Kd.R_append k27 (w0 := (w5.alloc (Obj.cells #[.int .i64 t5, .int .u64 n5, .slice A7 bs.length c7, .slice A8 ks.length c8] 27))) w.heap.size rfl (.tmp 41) (.tmp 43) 25 27 (.agg #[(.int .i64 0), (.int .u64 0), (.slice none 0 0), (.slice none 0 0)]) 64 rfl Tryd.underlying25 info27 rfl (by decide) (by omega) (.slice Au acc.length cu) acc (⟨t5, n5, bs, ks⟩ : S27) [.int .i64 t5, .int .u64 n5, .slice A7 bs.length c7, .slice A8 ks.length c8] (fun k_ => w.heap.size ≤ k_) (fun k_ => w.heap.size ≤ k_ ∧ some k_ ≠ (Value.slice Au acc.length cu).ownBlock) rfl q98_ ?aP (fun _ hk => hk) ?aF ?aO ?aB ?aS ?aL ?_; (case aP => exact k27_mkM _ _ _ (⟨t5, n5, bs, ks⟩ : S27) (elemR0 HR1.out HB6.out HK.out.1 (Kd.R_lt HO.out)) (elemR0 (Kd.R_mono HR2.out (fun _ _ => trivial)) HB6.out HK.out.1 (Kd.R_lt HO.out))); (case aB => exact Below.refl _ _); (case aS => exact HK6.out.1); (case aF => exact fun k_ hk_ => Nat.le_trans HK6.out.1 hk_); (case aO => exact accR0 HO.out HKS.out HLT.out.2.1 HB6.out); (case aL => have := HCR.out.2.2.2.2; (try simp only [List.length_append, List.length_cons, List.length_nil]); omega); intro v' w7 ho hb7 hg7 _; have HI7 := Aside0.mk ((HI6.out).grown (accR0 HO.out HKS.out HLT.out.2.1 HB6.out) hg7 hb7 HLT.out.2.2); have HK7 := Aside0.mk (keepB HK6.out hb7 (Nat.le_refl _)); have ho2 := Kd.R_slice ho; (try simp only [List.length_append, List.length_cons, List.length_nil] at ho2); obtain ⟨A10, cA10, rfl⟩ := ho2; have HO7 := Aside0.mk ho; obtain ⟨A11, cc11, y0, y1, y2, yc, yl⟩ := HI7.out.facts0; have HF0 := Aside0.mk (And.intro yc yl); clear yc yl ho hb7 hg7))
    have HI7d := Aside0.mk (HI7.out.drew)
    have HK7d := Aside0.mk (HK7.out.trans (KeepBut.of_below (below_drew1 (Below.refl w7.heap.size w7)) h none) (.inl rfl))
    have HO7d := Aside0.mk (Kd.R_drew HO7.out)
    have HY0 := Aside0.mk (And.intro y0 y1)
    clear y0 y1 y2
    obtain ⟨A5, c5, hcut, hC5, hc5⟩ := cutQ q q2 HCQ.out HI7.out.le HF0.out.1 HF0.out.2
    rw [HKEY.out] at hcut hC5 hc5
    have HC5 := Aside0.mk (And.intro hC5 hc5)
    clear hC5 hc5
    refine start_ (n := 12) (S := fun w' => w'.cell? ⟨g, 0, none⟩ = some (.slice A11 l.length cc11) ∧ w'.cell? ⟨g, 1, none⟩ = some (.pointer (some ⟨h, 0, none⟩))) (ds := []) #[false, false, false, false, false, false, false, false, false, false, false, false] (by kernel_rfl) rfl rfl (show _ ∧ _ from HY0.out) (fun hHeld => ?_); refine with_tabW cbor_kids.tab12 cbor_kids.bits12 (fun HT_ HW_ => ?_)
    generalize w7.drew = wd at HI7d HK7d HO7d hHeld ⊢
    refine pure_ (i := 0) (N := (some 47)) (v := ?_) (a' := ?_) #[true, false, false, false, false, false, false, false, false, false, false, false] rfl rfl (any_of HT_.out (by kernel_rfl)) (fun _ _ _ h => h) (Or.inl ⟨by rfl, ?_⟩) ?_ ?_
    rotate_left
    ·intro w'
     go_simp
     with_reducible rfl
    rotate_left
    ·simp only [Act.put, List.setIfInBounds_toArray, List.set_cons_zero, List.set_cons_succ, i64_w, i32_w]
     rfl
    refine pure_ (i := 1) (N := (some 48)) (v := ?_) (a' := ?_) #[true, true, false, false, false, false, false, false, false, false, false, false] rfl rfl (any_of HT_.out (by kernel_rfl)) (fun _ _ _ h => h) (Or.inl ⟨by rfl, ?_⟩) ?_ ?_
    rotate_left
    ·intro w'
     go_simp
     with_reducible rfl
    rotate_left
    ·simp only [Act.put, List.setIfInBounds_toArray, List.set_cons_zero, List.set_cons_succ, i64_w, i32_w]
     rfl
    refine pure_ (i := 2) (N := (some 49)) (v := ?_) (a' := ?_) #[true, true, true, false, false, false, false, false, false, false, false, false] rfl rfl (any_of HT_.out (by kernel_rfl)) (fun _ _ _ h => h) (Or.inl ⟨by rfl, ?_⟩) ?_ ?_
    rotate_left
    ·intro w'
     go_simp
     with_reducible rfl
    rotate_left
    ·simp only [Act.put, List.setIfInBounds_toArray, List.set_cons_zero, List.set_cons_succ, i64_w, i32_w]
     rfl
    refine take_ (i := 3) (N := (some 50)) (v := ?_) (a' := ?_) #[true, true, true, true, false, false, false, false, false, false, false, false] rfl rfl (take_ofW HT_.out HW_.out (by kernel_rfl)) (fun _ _ _ h => h) (Or.inl ⟨by rfl, ?_⟩) hHeld ?_ ?_
    rotate_left
    ·rintro w' ⟨s0, s1⟩
     go_simp
     with_reducible rfl
    rotate_left
    ·simp only [Act.put, List.setIfInBounds_toArray, List.set_cons_zero, List.set_cons_succ, i64_w, i32_w]
     rfl
    refine pure_ (i := 4) (N := (some 51)) (v := ?_) (a' := ?_) #[true, true, true, true, true, false, false, false, false, false, false, false] rfl rfl (any_of HT_.out (by kernel_rfl)) (fun _ _ _ h => h) (Or.inl ⟨by rfl, ?_⟩) ?_ ?_
    rotate_left
    ·intro w'
     go_simp
     with_reducible rfl
    rotate_left
    ·simp only [Act.put, List.setIfInBounds_toArray, List.set_cons_zero, List.set_cons_succ, i64_w, i32_w]
     rfl
    refine pure_ (i := 5) (N := (some 52)) (v := ?_) (a' := ?_) #[true, true, true, true, true, true, false, false, false, false, false, false] rfl rfl (any_of HT_.out (by kernel_rfl)) (fun _ _ _ h => h) (Or.inl ⟨by rfl, ?_⟩) ?_ ?_
    rotate_left
    ·intro w'
     go_simp
     with_reducible rfl
    rotate_left
    ·simp only [Act.put, List.setIfInBounds_toArray, List.set_cons_zero, List.set_cons_succ, i64_w, i32_w]
     rfl
    refine pure_ (i := 6) (N := (some 53)) (v := ?_) (a' := ?_) #[true, true, true, true, true, true, true, false, false, false, false, false] rfl rfl (any_of HT_.out (by kernel_rfl)) (fun _ _ _ h => h) (Or.inl ⟨by rfl, ?_⟩) ?_ ?_
    rotate_left
    ·intro w'
     go_simp
     with_reducible rfl
    rotate_left
    ·simp only [Act.put, List.setIfInBounds_toArray, List.set_cons_zero, List.set_cons_succ, i64_w, i32_w]
     rfl
    refine pure_ (i := 7) (N := (some 54)) (v := ?_) (a' := ?_) #[true, true, true, true, true, true, true, true, false, false, false, false] rfl rfl (any_of HT_.out (by kernel_rfl)) (fun _ _ _ h => h) (Or.inl ⟨by rfl, ?_⟩) ?_ ?_
    rotate_left
    ·intro w'
     go_simp
     with_reducible rfl
    rotate_left
    ·simp only [Act.put, List.setIfInBounds_toArray, List.set_cons_zero, List.set_cons_succ, i64_w, i32_w]
     rfl
    refine take_ (i := 8) (N := (some 55)) (v := ?_) (a' := ?_) #[true, true, true, true, true, true, true, true, true, false, false, false] rfl rfl (take_ofW HT_.out HW_.out (by kernel_rfl)) (fun _ _ _ h => h) (Or.inl ⟨by rfl, ?_⟩) hHeld ?_ ?_
    rotate_left
    ·rintro w' ⟨s0, s1⟩
     go_simp
     with_reducible rfl
    rotate_left
    ·simp only [Act.put, List.setIfInBounds_toArray, List.set_cons_zero, List.set_cons_succ, i64_w, i32_w]
     rfl
    refine one_ (i := 9) (N := (some 56)) #[true, true, true, true, true, true, true, true, true, true, false, false] rfl rfl (one_of HT_.out (by kernel_rfl)) (by decide) (fun K hK => ?_)
    refine goes_ Tryd.func54 (by kernel_rfl) rfl #[.pointer (some ⟨h, 0, none⟩)] (by rfl) rfl rfl q43_ ?_
    with_reducible refine (atc_q HI7d.out).mono ?_
    rintro ev w8 ⟨rfl, e1⟩
    have e1 := e1.symm
    subst e1
    refine ⟨_, rfl, ?_⟩
    refine hK.out _ _ hHeld (fun hHeld => ?_)
    clear hK K
    refine norm_ (a' := ?_) ?_ ?_
    rotate_left
    ·show Act.put _ (some 56) _ = _
     simp only [Act.put, List.setIfInBounds_toArray, List.set_cons_zero, List.set_cons_succ, i64_w, i32_w]
     rfl
    refine pure_ (i := 10) (N := (some 57)) (v := ?_) (a' := ?_) #[true, true, true, true, true, true, true, true, true, true, true, false] rfl rfl (any_of HT_.out (by kernel_rfl)) (fun _ _ _ h => h) (Or.inl ⟨by rfl, ?_⟩) ?_ ?_
    rotate_left
    ·intro w'
     go_simp
     with_reducible rfl
    rotate_left
    ·simp only [Act.put, List.setIfInBounds_toArray, List.set_cons_zero, List.set_cons_succ, i64_w, i32_w]
     rfl
    refine pure_ (i := 11) (N := (some 16)) (v := ?_) (a' := ?_) #[true, true, true, true, true, true, true, true, true, true, true, true] rfl rfl (any_of HT_.out (by kernel_rfl)) (fun _ _ _ h => h) (Or.inl ⟨by rfl, ?_⟩) ?_ ?_
    rotate_left
    ·intro w'
     go_simp
     with_reducible rfl
    rotate_left
    ·simp only [Act.put, List.setIfInBounds_toArray, List.set_cons_zero, List.set_cons_succ, i64_w, i32_w]
     rfl
    refine done_ (done_of HT_.out (by kernel_rfl)) ?_
    have h_ := HH.out
    by_cases c0 : 0 < i
    ·have cp : decide (0 < i) = true := decide_eq_true c0
     by_cases cc : 0 ≤ Lib.compareBytes (Lib.bytesOf last) (Lib.bytesOf key)
     ·rw [if_pos ⟨c0, cc⟩] at h_
      simp only [Option.some.injEq, Prod.mk.injEq] at h_
      obtain ⟨rfl, rfl, rfl⟩ := h_
      generalize hcv : Lib.compareBytes (Lib.bytesOf last) (Lib.bytesOf key) = cv at *
      have HCV := Aside0.mk hcv
      have cd : decide (0 ≤ cv) = true := decide_eq_true cc
      clear hcv cc c0
      go_wp2_with (first | (go_at_call 100; ((with_reducible refine (bytes_Compare.calls A4 c4 last A5 c5 key cv _ (Kd.C_below HC4.out.1 HI7d.out.all) HC4.out.2 (Kd.C_below HC5.out.1 HI7d.out.all) HC5.out.2 (by rw [bytes_Compare.f, HCV.out])).mono ?_); rintro ev w9 ⟨rfl, ⟨m7, rfl⟩⟩; have HI8 := Aside0.mk (HI7d.out.drewN m7); have HK8 := Aside0.mk (HK7d.out.trans (KeepBut.of_below (pw_below_drewN (Below.refl wd.heap.size wd) m7) h none) (.inl rfl)); have HO8 := Aside0.mk (Kd.R_drewN HO7d.out m7); obtain ⟨A31, cc31, x0, x1, x2, xc, xl⟩ := HI8.out.facts; clear xc xl)) | (go_at_call 50; ((with_reducible refine (fault_New.calls 7 (q : Int) _ _ rfl).mono ?_); rintro ev w10 ⟨rfl, hb⟩; have HB10 := Aside0.mk hb; clear hb)))
      go_ret2
      exact ⟨_, by first | rfl | (simp [errW_none, errW_some] <;> rfl), Kd.R_nil _ _ _ _ _, HI8.out.below HB10.out, HK8.out.trans (KeepBut.of_below HB10.out h none) (.inl rfl)⟩
     ·rw [if_neg (fun h => cc h.2)] at h_
      generalize hcv : Lib.compareBytes (Lib.bytesOf last) (Lib.bytesOf key) = cv at *
      have HCV := Aside0.mk hcv
      have cd : decide (0 ≤ cv) = false := decide_eq_false cc
      clear hcv cc c0
      obtain ⟨⟨t6, n6, bs6, ks6, err6, q3⟩, hz, h_⟩ := Option.bind_eq_some_iff.mp h_
      dsimp only at h_
      have HZ := Aside0.mk hz
      clear hz
      cases err6 with
      | some x =>
       rw [if_pos (show (some x).isSome = true from rfl)] at h_
       simp only [Option.some.injEq, Prod.mk.injEq] at h_
       obtain ⟨rfl, rfl, rfl⟩ := h_
       go_wp2_with (first | (go_at_call 100; ((with_reducible refine (bytes_Compare.calls A4 c4 last A5 c5 key cv _ (Kd.C_below HC4.out.1 HI7d.out.all) HC4.out.2 (Kd.C_below HC5.out.1 HI7d.out.all) HC5.out.2 (by rw [bytes_Compare.f, HCV.out])).mono ?_); rintro ev w9 ⟨rfl, ⟨m7, rfl⟩⟩; have HI8 := Aside0.mk (HI7d.out.drewN m7); have HK8 := Aside0.mk (HK7d.out.trans (KeepBut.of_below (pw_below_drewN (Below.refl wd.heap.size wd) m7) h none) (.inl rfl)); have HO8 := Aside0.mk (Kd.R_drewN HO7d.out m7); obtain ⟨A31, cc31, x0, x1, x2, xc, xl⟩ := HI8.out.facts; clear xc xl)) | (go_at_call 52; ((with_reducible refine ((ih kq (by have := HKQ.out; omega)).use w0 _ g h l q2 (a + 1) t6 n6 bs6 ks6 (some x) q3 HI8.out HL.out.1 HL.out.2 HZ.out).mono ?_); rintro ev w5b ⟨v1, v2, rfl, hR1, hR2, hI', hK'⟩; obtain ⟨A17, c17, rfl⟩ := Kd.R_slice hR1; obtain ⟨A18, c18, rfl⟩ := Kd.R_slice hR2; have HR1b := Aside0.mk hR1; have HR2b := Aside0.mk hR2; have HI5b := Aside0.mk hI'; have HKSb := Aside0.mk hK'; have HK5b := Aside0.mk (HK8.out.trans hK' (.inl rfl)); have hb6 := below_alloc (Below.refl w5b.heap.size w5b) (Obj.cells #[.int .i64 t6, .int .u64 n6, .slice A17 bs6.length c17, .slice A18 ks6.length c18] 27); have HB6b := Aside0.mk hb6; have HI6b := Aside0.mk (hI'.below hb6); have HK6b := Aside0.mk (HK5b.out.trans (KeepBut.of_below hb6 h none) (.inl rfl)); obtain ⟨b1, b2, b3, b4, b5, b6, b7, b8⟩ := row4 (blk_new w5b (Obj.cells #[.int .i64 t6, .int .u64 n6, .slice A17 bs6.length c17, .slice A18 ks6.length c18] 27)); obtain ⟨A9, cc9, g0, g1, g2, gc, gl⟩ := (hI'.below hb6).facts; clear gc gl hb6 hR1 hR2 hI' hK'; (try simp only [errW_none, errW_some]))))
       go_ret2
       exact ⟨_, by first | rfl | (simp [errW_none, errW_some] <;> rfl), Kd.R_nil _ _ _ _ _, HI6b.out, HK6b.out⟩
      | none =>
       rw [if_neg (by simp)] at h_
       have HH2 := Aside0.mk h_
       clear h_
       go_wp2_with (first | (go_at_call 100; ((with_reducible refine (bytes_Compare.calls A4 c4 last A5 c5 key cv _ (Kd.C_below HC4.out.1 HI7d.out.all) HC4.out.2 (Kd.C_below HC5.out.1 HI7d.out.all) HC5.out.2 (by rw [bytes_Compare.f, HCV.out])).mono ?_); rintro ev w9 ⟨rfl, ⟨m7, rfl⟩⟩; have HI8 := Aside0.mk (HI7d.out.drewN m7); have HK8 := Aside0.mk (HK7d.out.trans (KeepBut.of_below (pw_below_drewN (Below.refl wd.heap.size wd) m7) h none) (.inl rfl)); have HO8 := Aside0.mk (Kd.R_drewN HO7d.out m7); obtain ⟨A31, cc31, x0, x1, x2, xc, xl⟩ := HI8.out.facts; clear xc xl)) | (go_at_call 52; ((with_reducible refine ((ih kq (by have := HKQ.out; omega)).use w0 _ g h l q2 (a + 1) t6 n6 bs6 ks6 (none) q3 HI8.out HL.out.1 HL.out.2 HZ.out).mono ?_); rintro ev w5b ⟨v1, v2, rfl, hR1, hR2, hI', hK'⟩; obtain ⟨A17, c17, rfl⟩ := Kd.R_slice hR1; obtain ⟨A18, c18, rfl⟩ := Kd.R_slice hR2; have HR1b := Aside0.mk hR1; have HR2b := Aside0.mk hR2; have HI5b := Aside0.mk hI'; have HKSb := Aside0.mk hK'; have HK5b := Aside0.mk (HK8.out.trans hK' (.inl rfl)); have hb6 := below_alloc (Below.refl w5b.heap.size w5b) (Obj.cells #[.int .i64 t6, .int .u64 n6, .slice A17 bs6.length c17, .slice A18 ks6.length c18] 27); have HB6b := Aside0.mk hb6; have HI6b := Aside0.mk (hI'.below hb6); have HK6b := Aside0.mk (HK5b.out.trans (KeepBut.of_below hb6 h none) (.inl rfl)); obtain ⟨b1, b2, b3, b4, b5, b6, b7, b8⟩ := row4 (blk_new w5b (Obj.cells #[.int .i64 t6, .int .u64 n6, .slice A17 bs6.length c17, .slice A18 ks6.length c18] 27)); obtain ⟨A9, cc9, g0, g1, g2, gc, gl⟩ := (hI'.below hb6).facts; clear gc gl hb6 hR1 hR2 hI' hK'; (try simp only [errW_none, errW_some]))) | ((with_reducible refine gate_builtin (b := .append) (xs := #[.tmp 82, .tmp 84]) rfl ?_); at_builtin; refine Kd.R_append k27 (w0 := (w5b.alloc (Obj.cells #[.int .i64 t6, .int .u64 n6, .slice A17 bs6.length c17, .slice A18 ks6.length c18] 27))) w.heap.size rfl (.tmp 82) (.tmp 84) 25 27 (.agg #[(.int .i64 0), (.int .u64 0), (.slice none 0 0), (.slice none 0 0)]) 64 rfl Tryd.underlying25 info27 rfl (by decide) (by omega) (.slice A10 (acc.length + (0 + 1)) cA10) (acc ++ [(⟨t5, n5, bs, ks⟩ : S27)]) (⟨t6, n6, bs6, ks6⟩ : S27) [.int .i64 t6, .int .u64 n6, .slice A17 bs6.length c17, .slice A18 ks6.length c18] (fun k_ => w.heap.size ≤ k_) (fun k_ => w.heap.size ≤ k_ ∧ some k_ ≠ (Value.slice A10 (acc.length + (0 + 1)) cA10).ownBlock) rfl q98_ ?aP (fun _ hk => hk) ?aF ?aO ?aB ?aS ?aL ?_; (case aP => exact k27_mkM _ _ _ (⟨t6, n6, bs6, ks6⟩ : S27) (elemR0 HR1b.out HB6b.out HK8.out.1 (Kd.R_lt HO8.out)) (elemR0 (Kd.R_mono HR2b.out (fun _ _ => trivial)) HB6b.out HK8.out.1 (Kd.R_lt HO8.out))); (case aB => exact Below.refl _ _); (case aS => exact HK6b.out.1); (case aF => exact fun k_ hk_ => Nat.le_trans HK6b.out.1 hk_); (case aO => exact accR0 HO8.out HKSb.out HLT.out.2.1 HB6b.out); (case aL => have := HCR.out.2.2.2.2; (try simp only [List.length_append, List.length_cons, List.length_nil]); omega); intro v' w17 ho hb7 hg7 _; have HI7b := Aside0.mk ((HI6b.out).grown (accR0 HO8.out HKSb.out HLT.out.2.1 HB6b.out) hg7 hb7 HLT.out.2.2); have HK7b := Aside0.mk (keepB HK6b.out hb7 (Nat.le_refl _)); have ho2 := Kd.R_slice ho; (try simp only [List.length_append, List.length_cons, List.length_nil] at ho2); obtain ⟨A20, cA20, rfl⟩ := ho2; have HO7b := Aside0.mk ho; obtain ⟨A11, cc11, y0, y1, y2, yc, yl⟩ := HI7b.out.facts0; have HF0b := Aside0.mk (And.intro yc yl); clear yc yl ho hb7 hg7))
       go_roundg kq
       case measure => omega
       case rel => exact ⟨q3, i + 1, key, acc ++ [(⟨t5, n5, bs, ks⟩ : S27)] ++ [(⟨t6, n6, bs6, ks6⟩ : S27)], A5, c5, rfl, by first | rfl | (rw [ei]), HH2, ⟨by have := HKQ.out; omega⟩, HO7b, HI7b, HK7b, HC5⟩
    ·have cp : decide (0 < i) = false := decide_eq_false c0
     rw [if_neg (fun h => c0 h.1)] at h_
     clear c0
     have HI8 := HI7d
     have HK8 := HK7d
     have HO8 := HO7d
     obtain ⟨A31, cc31, x0, x1, x2, xc, xl⟩ := HI8.out.facts
     clear xc xl
     obtain ⟨⟨t6, n6, bs6, ks6, err6, q3⟩, hz, h_⟩ := Option.bind_eq_some_iff.mp h_
     dsimp only at h_
     have HZ := Aside0.mk hz
     clear hz
     cases err6 with
     | some x =>
      rw [if_pos (show (some x).isSome = true from rfl)] at h_
      simp only [Option.some.injEq, Prod.mk.injEq] at h_
      obtain ⟨rfl, rfl, rfl⟩ := h_
      go_wp2_with (first | (go_at_call 52; ((with_reducible refine ((ih kq (by have := HKQ.out; omega)).use w0 _ g h l q2 (a + 1) t6 n6 bs6 ks6 (some x) q3 HI8.out HL.out.1 HL.out.2 HZ.out).mono ?_); rintro ev w5b ⟨v1, v2, rfl, hR1, hR2, hI', hK'⟩; obtain ⟨A17, c17, rfl⟩ := Kd.R_slice hR1; obtain ⟨A18, c18, rfl⟩ := Kd.R_slice hR2; have HR1b := Aside0.mk hR1; have HR2b := Aside0.mk hR2; have HI5b := Aside0.mk hI'; have HKSb := Aside0.mk hK'; have HK5b := Aside0.mk (HK8.out.trans hK' (.inl rfl)); have hb6 := below_alloc (Below.refl w5b.heap.size w5b) (Obj.cells #[.int .i64 t6, .int .u64 n6, .slice A17 bs6.length c17, .slice A18 ks6.length c18] 27); have HB6b := Aside0.mk hb6; have HI6b := Aside0.mk (hI'.below hb6); have HK6b := Aside0.mk (HK5b.out.trans (KeepBut.of_below hb6 h none) (.inl rfl)); obtain ⟨b1, b2, b3, b4, b5, b6, b7, b8⟩ := row4 (blk_new w5b (Obj.cells #[.int .i64 t6, .int .u64 n6, .slice A17 bs6.length c17, .slice A18 ks6.length c18] 27)); obtain ⟨A9, cc9, g0, g1, g2, gc, gl⟩ := (hI'.below hb6).facts; clear gc gl hb6 hR1 hR2 hI' hK'; (try simp only [errW_none, errW_some]))))
      go_ret2
      exact ⟨_, by first | rfl | (simp [errW_none, errW_some] <;> rfl), Kd.R_nil _ _ _ _ _, HI6b.out, HK6b.out⟩
     | none =>
      rw [if_neg (by simp)] at h_
      have HH2 := Aside0.mk h_
      clear h_
      go_wp2_with (first | (go_at_call 52; ((with_reducible refine ((ih kq (by have := HKQ.out; omega)).use w0 _ g h l q2 (a + 1) t6 n6 bs6 ks6 (none) q3 HI8.out HL.out.1 HL.out.2 HZ.out).mono ?_); rintro ev w5b ⟨v1, v2, rfl, hR1, hR2, hI', hK'⟩; obtain ⟨A17, c17, rfl⟩ := Kd.R_slice hR1; obtain ⟨A18, c18, rfl⟩ := Kd.R_slice hR2; have HR1b := Aside0.mk hR1; have HR2b := Aside0.mk hR2; have HI5b := Aside0.mk hI'; have HKSb := Aside0.mk hK'; have HK5b := Aside0.mk (HK8.out.trans hK' (.inl rfl)); have hb6 := below_alloc (Below.refl w5b.heap.size w5b) (Obj.cells #[.int .i64 t6, .int .u64 n6, .slice A17 bs6.length c17, .slice A18 ks6.length c18] 27); have HB6b := Aside0.mk hb6; have HI6b := Aside0.mk (hI'.below hb6); have HK6b := Aside0.mk (HK5b.out.trans (KeepBut.of_below hb6 h none) (.inl rfl)); obtain ⟨b1, b2, b3, b4, b5, b6, b7, b8⟩ := row4 (blk_new w5b (Obj.cells #[.int .i64 t6, .int .u64 n6, .slice A17 bs6.length c17, .slice A18 ks6.length c18] 27)); obtain ⟨A9, cc9, g0, g1, g2, gc, gl⟩ := (hI'.below hb6).facts; clear gc gl hb6 hR1 hR2 hI' hK'; (try simp only [errW_none, errW_some]))) | ((with_reducible refine gate_builtin (b := .append) (xs := #[.tmp 82, .tmp 84]) rfl ?_); at_builtin; refine Kd.R_append k27 (w0 := (w5b.alloc (Obj.cells #[.int .i64 t6, .int .u64 n6, .slice A17 bs6.length c17, .slice A18 ks6.length c18] 27))) w.heap.size rfl (.tmp 82) (.tmp 84) 25 27 (.agg #[(.int .i64 0), (.int .u64 0), (.slice none 0 0), (.slice none 0 0)]) 64 rfl Tryd.underlying25 info27 rfl (by decide) (by omega) (.slice A10 (acc.length + (0 + 1)) cA10) (acc ++ [(⟨t5, n5, bs, ks⟩ : S27)]) (⟨t6, n6, bs6, ks6⟩ : S27) [.int .i64 t6, .int .u64 n6, .slice A17 bs6.length c17, .slice A18 ks6.length c18] (fun k_ => w.heap.size ≤ k_) (fun k_ => w.heap.size ≤ k_ ∧ some k_ ≠ (Value.slice A10 (acc.length + (0 + 1)) cA10).ownBlock) rfl q98_ ?aP (fun _ hk => hk) ?aF ?aO ?aB ?aS ?aL ?_; (case aP => exact k27_mkM _ _ _ (⟨t6, n6, bs6, ks6⟩ : S27) (elemR0 HR1b.out HB6b.out HK8.out.1 (Kd.R_lt HO8.out)) (elemR0 (Kd.R_mono HR2b.out (fun _ _ => trivial)) HB6b.out HK8.out.1 (Kd.R_lt HO8.out))); (case aB => exact Below.refl _ _); (case aS => exact HK6b.out.1); (case aF => exact fun k_ hk_ => Nat.le_trans HK6b.out.1 hk_); (case aO => exact accR0 HO8.out HKSb.out HLT.out.2.1 HB6b.out); (case aL => have := HCR.out.2.2.2.2; (try simp only [List.length_append, List.length_cons, List.length_nil]); omega); intro v' w17 ho hb7 hg7 _; have HI7b := Aside0.mk ((HI6b.out).grown (accR0 HO8.out HKSb.out HLT.out.2.1 HB6b.out) hg7 hb7 HLT.out.2.2); have HK7b := Aside0.mk (keepB HK6b.out hb7 (Nat.le_refl _)); have ho2 := Kd.R_slice ho; (try simp only [List.length_append, List.length_cons, List.length_nil] at ho2); obtain ⟨A20, cA20, rfl⟩ := ho2; have HO7b := Aside0.mk ho; obtain ⟨A11, cc11, y0, y1, y2, yc, yl⟩ := HI7b.out.facts0; have HF0b := Aside0.mk (And.intro yc yl); clear yc yl ho hb7 hg7))
      go_roundg kq
      case measure => omega
      case rel => exact ⟨q3, i + 1, key, acc ++ [(⟨t5, n5, bs, ks⟩ : S27)] ++ [(⟨t6, n6, bs6, ks6⟩ : S27)], A5, c5, rfl, by first | rfl | (rw [ei]), HH2, ⟨by have := HKQ.out; omega⟩, HO7b, HI7b, HK7b, HC5⟩
theorem put4 {w : World} {g : Nat} {t : TypeId} {a b c d : Value} (x y z u : Value) (h : w.heap[g]? = some (.cells #[a, b, c, d] t (0, 0))) : ((((w.setCell ⟨g, 0, none⟩ x).setCell ⟨g, 1, none⟩ y).setCell ⟨g, 2, none⟩ z).setCell ⟨g, 3, none⟩ u).heap[g]? = some (.cells #[x, y, z, u] t (0, 0)) := by
 have h0 := blk_put (cs' := #[x, b, c, d]) h 0 x rfl
 have h1 := blk_put (cs' := #[x, y, c, d]) h0 1 y rfl
 have h2 := blk_put (cs' := #[x, y, z, d]) h1 2 z rfl
 exact blk_put (cs' := #[x, y, z, u]) h2 3 u rfl
theorem RI.set4 {w0 W : World} {g h : Nat} {l : List Int} {p : Nat} (H : RI w0 W g h l p) {n : Nat} {a b c d : Value} (hb : W.heap[n]? = some (.cells #[a, b, c, d] 27 (0, 0))) (hg : g ≠ n) (hh : h ≠ n) (hn : w0.heap.size ≤ n) (x y z u : Value) : RI w0 ((((W.setCell ⟨n, 0, none⟩ x).setCell ⟨n, 1, none⟩ y).setCell ⟨n, 2, none⟩ z).setCell ⟨n, 3, none⟩ u) g h l p := by
 have h0 := blk_put (cs' := #[x, b, c, d]) hb 0 x rfl
 have h1 := blk_put (cs' := #[x, y, c, d]) h0 1 y rfl
 have h2 := blk_put (cs' := #[x, y, z, d]) h1 2 z rfl
 have ht : ∀ q, q ∈ 5 :: (Kd.int .u8).E → q ≠ 27 := by
  intro q hq
  rcases List.mem_cons.1 hq with h_ | h_
  ·subst h_; decide
  ·simp [Kd.int, Kd.scalar] at h_
 exact (((H.far hb ht hg hh hn 0 x).far h0 ht hg hh hn 1 y).far h1 ht hg hh hn 2 z).far h2 ht hg hh hn 3 u
theorem keep4 {w W : World} {h n : Nat} (H : KeepBut w W h none) (hn : w.heap.size ≤ n) (x y z u : Value) : KeepBut w ((((W.setCell ⟨n, 0, none⟩ x).setCell ⟨n, 1, none⟩ y).setCell ⟨n, 2, none⟩ z).setCell ⟨n, 3, none⟩ u) h none :=
 keep_far (keep_far (keep_far (keep_far H hn x) hn y) hn z) hn u
theorem KidsC.use {k : Nat} (H : KidsC k) (w0 w : World) (g h : Nat) (l : List Int) (p : Nat) (n : Int) (m : Bool) (a : Int) (r1 : List (S27)) (r2 : Option E) (r3 : Nat) (hI : RI w0 w g h l p) (hb : ∀ x ∈ l, 0 ≤ x ∧ x < 256) (hl : l.length ≤ 1048576) (hm : kidsM k l p n m a 0 [] [] = some (r1, r2, r3)) :
 Calls Tryd.prog 90 #[.pointer (some ⟨g, 0, none⟩), .int .u64 n, .bool m, .int .i64 a] w fun ev w' => ∃ v_ : Value, ev = .returned (.tuple #[v_, errW r2]) ∧ Kd.R k27 27 w' w.heap.size (fun _ => True) v_ r1 ∧ RI w0 w' g h l r3 ∧ KeepBut w w' h none := H w0 w g h l p n m a r1 r2 r3 hI hb hl hm
theorem v256_one (l : List Int) (p : Nat) (h : p < l.length) : v256 ((l.drop p).take 1) = rd l (p : Int) := by
 have e : (l.drop p).take 1 = [rd l (p : Int)] := by rw [rd_dropI h]; rfl
 rw [e]
 simp [v256]
theorem rd_by {l : List Int} (hb : ∀ x ∈ l, 0 ≤ x ∧ x < 256) (p : Nat) : 0 ≤ rd l (p : Int) ∧ rd l (p : Int) < 256 := by
 unfold rd
 rw [List.getD_eq_getElem?_getD]
 cases h : l[(p : Int).toNat]? with
 | none => simp
 | some x => exact hb x (List.mem_of_getElem? h)
theorem and31 (c : Int) (h0 : 0 ≤ c) (h1 : c < 256) : Go.bits .and .u64 c 31 = c % 32 := by
 have : ((List.range 256).all fun i => Go.bits .and .u64 (i : Int) 31 == (i : Int) % 32) = true := by kernel_rfl
 have h2 := List.all_eq_true.1 this c.toNat (List.mem_range.2 (by omega))
 have h3 := beq_iff_eq.1 h2
 rwa [Int.toNat_of_nonneg h0] at h3
theorem parR4 {α : Type} {d : Kd α} {e : Nat} {w5 : World} {n hh j Bc b' : Nat} {ok : Nat → Prop} {v s x y z u : Value} {xs : List α} (hR : d.R e w5 Bc ok v xs) (hn : n < Bc) (hh' : hh < Bc) (hb' : b' ≤ Bc) :
  d.R e (((((w5.setCell ⟨n, j, none⟩ s).setCell ⟨hh, 0, none⟩ x).setCell ⟨hh, 1, none⟩ y).setCell ⟨hh, 2, none⟩ z).setCell ⟨hh, 3, none⟩ u) b' ok v xs := by
 have h1 := Kd.R_mono (ok' := fun k => ok k ∧ Bc ≤ k) (Kd.R_bound hR) (fun k hk => ⟨hk.1, hk.2.1⟩)
 have hne : ∀ k, (ok k ∧ Bc ≤ k) → k ≠ hh := fun k hk => Nat.ne_of_gt (Nat.lt_of_lt_of_le hh' hk.2)
 have h2 := Kd.R_far (p := ⟨n, j, none⟩) h1 (fun k hk => Nat.ne_of_gt (Nat.lt_of_lt_of_le hn hk.2)) s
 have h3 := Kd.R_far (p := ⟨hh, 0, none⟩) h2 hne x
 have h4 := Kd.R_far (p := ⟨hh, 1, none⟩) h3 hne y
 have h5 := Kd.R_far (p := ⟨hh, 2, none⟩) h4 hne z
 have h6 := Kd.R_far (p := ⟨hh, 3, none⟩) h5 hne u
 exact Kd.R_lower (Kd.R_mono h6 (fun k hk => hk.1)) hb'
set_option maxHeartbeats 80000000 in
set_option maxRecDepth 100000 in
theorem one_step (k : Nat) (ih : ∀ j, j < k + 1 → OneC j) : OneC (k + 1) := by
 intro w0 w g h l p a r1 r2 r3 r4 r5 r6 hI hby hl hm
 have hu := Tryd.underlying27
 have hkids := kids_calls k (fun j hj => ih j (by omega))
 rw [oneM] at hm
 have b1 := below_alloc (Below.refl w.heap.size w) (Obj.cells #[.int .i64 0, .int .u64 0, .slice none 0 0, .slice none 0 0] 27)
 have BH := Aside0.mk (blk_new w (Obj.cells #[.int .i64 0, .int .u64 0, .slice none 0 0, .slice none 0 0] 27))
 have HI := Aside0.mk (hI.below b1)
 have HK := Aside0.mk (KeepBut.of_below b1 h none)
 have HNE := Aside0.mk (show g ≠ w.heap.size ∧ h ≠ w.heap.size ∧ w0.heap.size ≤ w.heap.size ∧ g < w.heap.size ∧ h < w.heap.size by have := hI.lt; omega)
 have HL := Aside0.mk (And.intro hby hl)
 have hrd := rd_by hby p
 have HKIDS := Aside0.mk hkids
 obtain ⟨A, cc, f0, f1, f2, fc, fl⟩ := HI.out.facts
 obtain ⟨z0, z1, z2, z3, z4, z5, z6, z7⟩ := row4 BH.out
 clear hI hby hl hkids ih b1 fc fl
 by_cases c1 : l.length ≤ p
 ·rw [if_pos c1] at hm
  simp only [Option.some.injEq, Prod.mk.injEq] at hm
  obtain ⟨rfl, rfl, rfl, rfl, rfl, rfl⟩ := hm
  have HC := Aside0.mk (show l.length < p + 1 by omega)
  clear c1 hrd
  go_enter Tryd.func52, Tryd.ntmps52
  go_wp2_with (first | (go_at_call 54; ((with_reducible refine (atc_q HI.out).mono ?_); rintro ev w1 ⟨rfl, e1⟩; have e1 := e1.symm; subst e1)) | (go_at_call 86; ((with_reducible refine (word_qno HI.out 1 1 rfl rfl HC.out).mono ?_); rintro ev w' ⟨rfl, m, rfl⟩; have HI2 := Aside0.mk (HI.out.drewN m))) | (go_at_call 87; ((with_reducible refine (short_q HI2.out).mono ?_); rintro ev w3 ⟨rfl, hb⟩; have HI3 := Aside0.mk (HI2.out.below hb); have BH3 := Aside0.mk (blk_below (blk_drewN BH.out m) hb); have HK3 := Aside0.mk ((HK.out.trans (KeepBut.of_below (pw_below_drewN (Below.refl _ _) m) h none) (.inl rfl)).trans (KeepBut.of_below hb h none) (.inl rfl)); obtain ⟨x0, x1, x2, x3, x4, x5, x6, x7⟩ := row4 BH3.out; clear hb)))
  refine bodyPost_ret (results_ct rfl _ _ w.heap.size 27 #[.int .i64 0, .int .u64 0, .slice none 0 0, .slice none 0 0] (0, 0) _ rfl (put4 _ _ _ _ BH3.out) Tryd.underlying27 rfl (by kernel_rfl)) rfl ?_
  exact ⟨_, _, by first | rfl | (simp [errW_none, errW_some] <;> rfl), Kd.R_nil _ _ _ _ _, Kd.R_nil _ _ _ _ _, HI3.out.set4 BH3.out HNE.out.1 HNE.out.2.1 HNE.out.2.2.1 _ _ _ _, keep4 HK3.out (Nat.le_refl _) _ _ _ _⟩
 rw [if_neg c1] at hm
 have HC := Aside0.mk (show p + 1 ≤ l.length by omega)
 have HV := Aside0.mk (v256_one l p (by omega))
 clear c1
 generalize rd l (p : Int) = c at hm hrd HV
 have e31 : Go.bits .and .u64 c 31 = c % 32 := and31 c hrd.1 hrd.2
 by_cases c2 : 5 < c / 32 ∨ 27 < c % 32
 ·rw [if_pos c2] at hm
  simp only [Option.some.injEq, Prod.mk.injEq] at hm
  obtain ⟨rfl, rfl, rfl, rfl, rfl, rfl⟩ := hm
  by_cases c3 : 5 < c / 32
  ·have d1 : decide (5 < c / 32) = true := decide_eq_true c3
   go_enter Tryd.func52, Tryd.ntmps52
   go_wp2_with (first | (go_at_call 54; ((with_reducible refine (atc_q HI.out).mono ?_); rintro ev w1 ⟨rfl, e1⟩; have e1 := e1.symm; subst e1)) | (go_at_call 86; ((with_reducible refine (word_q HI.out HL.out.1 1 1 rfl (by decide) rfl HC.out c HV.out).mono ?_); rintro ev w2 ⟨rfl, hI, hK⟩; have HI2 := Aside0.mk hI; have HK2 := Aside0.mk (HK.out.trans hK (.inl rfl)); have BH2 := Aside0.mk (hK.blk BH.out (Ne.symm HNE.out.2.1) (by simp)); obtain ⟨A2, cc2, g0, g1, g2, gc, gl⟩ := hI.facts; obtain ⟨y0, y1, y2, y3, y4, y5, y6, y7⟩ := row4 BH2.out; clear gc gl hI hK)) | (go_at_call 50; ((with_reducible refine (fault_New.calls 5 (p : Int) _ _ rfl).mono ?_); rintro ev w3 ⟨rfl, hb⟩; have HI3 := Aside0.mk (HI2.out.below hb); have BH3 := Aside0.mk (blk_below BH2.out hb); have HK3 := Aside0.mk (HK2.out.trans (KeepBut.of_below hb h none) (.inl rfl)); obtain ⟨x0, x1, x2, x3, x4, x5, x6, x7⟩ := row4 BH3.out; clear hb)))
   refine bodyPost_ret (results_ct rfl _ _ w.heap.size 27 #[.int .i64 0, .int .u64 0, .slice none 0 0, .slice none 0 0] (0, 0) _ rfl (put4 _ _ _ _ BH3.out) Tryd.underlying27 rfl (by kernel_rfl)) rfl ?_
   exact ⟨_, _, by first | rfl | (simp [errW_none, errW_some] <;> rfl), Kd.R_nil _ _ _ _ _, Kd.R_nil _ _ _ _ _, HI3.out.set4 BH3.out HNE.out.1 HNE.out.2.1 HNE.out.2.2.1 _ _ _ _, keep4 HK3.out (Nat.le_refl _) _ _ _ _⟩
  ·have d1 : decide (5 < c / 32) = false := decide_eq_false c3
   have d2 : decide (27 < c % 32) = true := decide_eq_true (by omega)
   go_enter Tryd.func52, Tryd.ntmps52
   go_wp2_with (first | (go_at_call 54; ((with_reducible refine (atc_q HI.out).mono ?_); rintro ev w1 ⟨rfl, e1⟩; have e1 := e1.symm; subst e1)) | (go_at_call 86; ((with_reducible refine (word_q HI.out HL.out.1 1 1 rfl (by decide) rfl HC.out c HV.out).mono ?_); rintro ev w2 ⟨rfl, hI, hK⟩; have HI2 := Aside0.mk hI; have HK2 := Aside0.mk (HK.out.trans hK (.inl rfl)); have BH2 := Aside0.mk (hK.blk BH.out (Ne.symm HNE.out.2.1) (by simp)); obtain ⟨A2, cc2, g0, g1, g2, gc, gl⟩ := hI.facts; obtain ⟨y0, y1, y2, y3, y4, y5, y6, y7⟩ := row4 BH2.out; clear gc gl hI hK)) | (go_at_call 50; ((with_reducible refine (fault_New.calls 5 (p : Int) _ _ rfl).mono ?_); rintro ev w3 ⟨rfl, hb⟩; have HI3 := Aside0.mk (HI2.out.below hb); have BH3 := Aside0.mk (blk_below BH2.out hb); have HK3 := Aside0.mk (HK2.out.trans (KeepBut.of_below hb h none) (.inl rfl)); obtain ⟨x0, x1, x2, x3, x4, x5, x6, x7⟩ := row4 BH3.out; clear hb)))
   refine bodyPost_ret (results_ct rfl _ _ w.heap.size 27 #[.int .i64 0, .int .u64 0, .slice none 0 0, .slice none 0 0] (0, 0) _ rfl (put4 _ _ _ _ BH3.out) Tryd.underlying27 rfl (by kernel_rfl)) rfl ?_
   exact ⟨_, _, by first | rfl | (simp [errW_none, errW_some] <;> rfl), Kd.R_nil _ _ _ _ _, Kd.R_nil _ _ _ _ _, HI3.out.set4 BH3.out HNE.out.1 HNE.out.2.1 HNE.out.2.2.1 _ _ _ _, keep4 HK3.out (Nat.le_refl _) _ _ _ _⟩
 have d1 : decide (5 < c / 32) = false := decide_eq_false (by omega)
 have d2 : decide (27 < c % 32) = false := decide_eq_false (by omega)
 rw [if_neg c2] at hm
 by_cases c3 : 8 ≤ a
 ·rw [if_pos c3] at hm
  have d3 : decide (8 ≤ a) = true := decide_eq_true c3
  simp only [Option.some.injEq, Prod.mk.injEq] at hm
  obtain ⟨rfl, rfl, rfl, rfl, rfl, rfl⟩ := hm
  go_enter Tryd.func52, Tryd.ntmps52
  go_wp2_with (first | (go_at_call 54; ((with_reducible refine (atc_q HI.out).mono ?_); rintro ev w1 ⟨rfl, e1⟩; have e1 := e1.symm; subst e1)) | (go_at_call 86; ((with_reducible refine (word_q HI.out HL.out.1 1 1 rfl (by decide) rfl HC.out c HV.out).mono ?_); rintro ev w2 ⟨rfl, hI, hK⟩; have HI2 := Aside0.mk hI; have HK2 := Aside0.mk (HK.out.trans hK (.inl rfl)); have BH2 := Aside0.mk (hK.blk BH.out (Ne.symm HNE.out.2.1) (by simp)); obtain ⟨A2, cc2, g0, g1, g2, gc, gl⟩ := hI.facts; obtain ⟨y0, y1, y2, y3, y4, y5, y6, y7⟩ := row4 BH2.out; clear gc gl hI hK)) | (go_at_call 50; ((with_reducible refine (fault_New.calls 2 (p : Int) _ _ rfl).mono ?_); rintro ev w3 ⟨rfl, hb⟩; have HI3 := Aside0.mk (HI2.out.below hb); have BH3 := Aside0.mk (blk_below BH2.out hb); have HK3 := Aside0.mk (HK2.out.trans (KeepBut.of_below hb h none) (.inl rfl)); obtain ⟨x0, x1, x2, x3, x4, x5, x6, x7⟩ := row4 BH3.out; clear hb)))
  refine bodyPost_ret (results_ct rfl _ _ w.heap.size 27 #[.int .i64 0, .int .u64 0, .slice none 0 0, .slice none 0 0] (0, 0) _ rfl (put4 _ _ _ _ BH3.out) Tryd.underlying27 rfl (by kernel_rfl)) rfl ?_
  exact ⟨_, _, by first | rfl | (simp [errW_none, errW_some] <;> rfl), Kd.R_nil _ _ _ _ _, Kd.R_nil _ _ _ _ _, HI3.out.set4 BH3.out HNE.out.1 HNE.out.2.1 HNE.out.2.2.1 _ _ _ _, keep4 HK3.out (Nat.le_refl _) _ _ _ _⟩
 rw [if_neg c3] at hm
 have d3 : decide (8 ≤ a) = false := decide_eq_false c3
 have e8 : IntKind.u8.wrap (c % 32) = c % 32 := by unfold IntKind.wrap; simp [IntKind.bits, IntKind.signed]; omega
 have HLO := Aside0.mk (show 0 ≤ c % 32 ∧ c % 32 < 256 by omega)
 obtain ⟨⟨y1, err, q⟩, hy, hm⟩ := Option.bind_eq_some_iff.mp hm
 dsimp only at hm
 have HY := Aside0.mk hy
 clear hy
 have hcase : c / 32 = 0 ∨ c / 32 = 1 ∨ c / 32 = 2 ∨ c / 32 = 3 ∨ c / 32 = 4 ∨ c / 32 = 5 := by omega
 clear c2 c3
 rcases hcase with ek | ek | ek | ek | ek | ek
 all_goals rw [ek] at d1
 ·cases err with
  | some x =>
   rw [if_pos (show (some x).isSome = true from rfl)] at hm
   simp only [Option.some.injEq, Prod.mk.injEq] at hm
   obtain ⟨rfl, rfl, rfl, rfl, rfl, rfl⟩ := hm
   go_enter Tryd.func52, Tryd.ntmps52
   go_wp2_with (first | (go_at_call 54; ((with_reducible refine (atc_q HI.out).mono ?_); rintro ev w1 ⟨rfl, e1⟩; have e1 := e1.symm; subst e1)) | (go_at_call 86; ((with_reducible refine (word_q HI.out HL.out.1 1 1 rfl (by decide) rfl HC.out c HV.out).mono ?_); rintro ev w2 ⟨rfl, hI, hK⟩; have hb3 := below_alloc (Below.refl w2.heap.size w2) (Obj.cells #[.int .i64 0, .int .u64 0, .slice none 0 0, .slice none 0 0] 27); have HI3 := Aside0.mk (hI.below hb3); have HK3 := Aside0.mk ((HK.out.trans hK (.inl rfl)).trans (KeepBut.of_below hb3 h none) (.inl rfl)); have BH2 := hK.blk BH.out (Ne.symm HNE.out.2.1) (by simp); have BH3 := Aside0.mk (blk_below BH2 hb3); have BN3 := Aside0.mk (blk_new w2 (Obj.cells #[.int .i64 0, .int .u64 0, .slice none 0 0, .slice none 0 0] 27)); have HNN := Aside0.mk (show w.heap.size < w2.heap.size ∧ h ≠ w2.heap.size ∧ g ≠ w2.heap.size by have h1_ := blk_lt BH2; have h2_ := HNE.out; have h3_ := hK.1; omega); obtain ⟨A2, cc2, g0, g1, g2, gc, gl⟩ := hI.facts; obtain ⟨A3, cc3, p0, p1, p2, pc, pl⟩ := HI3.out.facts; obtain ⟨y0, y1_, y2, y3, y4, y5, y6, y7⟩ := row4 BH2; obtain ⟨s0, s1, s2, s3, s4, s5, s6, s7⟩ := row4 BH3.out; obtain ⟨n0, n1, n2, n3, n4, n5, n6, n7⟩ := row4 BN3.out; have m1 := Nat.ne_of_lt HNN.out.1; have m2 := Ne.symm m1; have m3 := HNN.out.2.1; have m4 := Ne.symm m3; have m5 := HNN.out.2.2; have m6 := Ne.symm m5; clear gc gl pc pl hI hK hb3 BH2)) | (go_at_call 88; ((with_reducible refine (num_calls k HI3.out HL.out.1 (c % 32) (p : Int) HLO.out y1 (some x) q HY.out).mono ?_); rintro ev w4 ⟨rfl, hI, hK⟩; have HI4 := Aside0.mk hI; have HK4 := Aside0.mk (HK3.out.trans hK (.inl rfl)); have BH4 := Aside0.mk (hK.blk BH3.out (Ne.symm HNE.out.2.1) (by simp)); have BN4 := Aside0.mk (hK.blk BN3.out (Ne.symm HNN.out.2.1) (by simp)); obtain ⟨A4, cc4, q0, q1, q2, qc, ql⟩ := hI.facts; obtain ⟨t0, t1, t2, t3, t4, t5, t6, t7⟩ := row4 BH4.out; obtain ⟨o0, o1, o2, o3, o4, o5, o6, o7⟩ := row4 BN4.out; clear qc ql hI hK; (try simp only [errW_none, errW_some]))))
   refine bodyPost_ret (results_ct rfl _ _ w.heap.size 27 #[.int .i64 0, .int .u64 0, .slice none 0 0, .slice none 0 0] (0, 0) _ rfl (put4 _ _ _ _ BH4.out) Tryd.underlying27 rfl (by kernel_rfl)) rfl ?_
   exact ⟨_, _, by first | rfl | (simp [errW_none, errW_some] <;> rfl), Kd.R_nil _ _ _ _ _, Kd.R_nil _ _ _ _ _, HI4.out.set4 BH4.out HNE.out.1 HNE.out.2.1 HNE.out.2.2.1 _ _ _ _, keep4 HK4.out (Nat.le_refl _) _ _ _ _⟩
  | none =>
   rw [if_neg (by simp), ek] at hm
   rw [if_pos (by decide)] at hm
   simp only [Option.some.injEq, Prod.mk.injEq] at hm
   obtain ⟨rfl, rfl, rfl, rfl, rfl, rfl⟩ := hm
   go_enter Tryd.func52, Tryd.ntmps52
   go_wp2_with (first | (go_at_call 54; ((with_reducible refine (atc_q HI.out).mono ?_); rintro ev w1 ⟨rfl, e1⟩; have e1 := e1.symm; subst e1)) | (go_at_call 86; ((with_reducible refine (word_q HI.out HL.out.1 1 1 rfl (by decide) rfl HC.out c HV.out).mono ?_); rintro ev w2 ⟨rfl, hI, hK⟩; have hb3 := below_alloc (Below.refl w2.heap.size w2) (Obj.cells #[.int .i64 0, .int .u64 0, .slice none 0 0, .slice none 0 0] 27); have HI3 := Aside0.mk (hI.below hb3); have HK3 := Aside0.mk ((HK.out.trans hK (.inl rfl)).trans (KeepBut.of_below hb3 h none) (.inl rfl)); have BH2 := hK.blk BH.out (Ne.symm HNE.out.2.1) (by simp); have BH3 := Aside0.mk (blk_below BH2 hb3); have BN3 := Aside0.mk (blk_new w2 (Obj.cells #[.int .i64 0, .int .u64 0, .slice none 0 0, .slice none 0 0] 27)); have HNN := Aside0.mk (show w.heap.size < w2.heap.size ∧ h ≠ w2.heap.size ∧ g ≠ w2.heap.size by have h1_ := blk_lt BH2; have h2_ := HNE.out; have h3_ := hK.1; omega); obtain ⟨A2, cc2, g0, g1, g2, gc, gl⟩ := hI.facts; obtain ⟨A3, cc3, p0, p1, p2, pc, pl⟩ := HI3.out.facts; obtain ⟨y0, y1_, y2, y3, y4, y5, y6, y7⟩ := row4 BH2; obtain ⟨s0, s1, s2, s3, s4, s5, s6, s7⟩ := row4 BH3.out; obtain ⟨n0, n1, n2, n3, n4, n5, n6, n7⟩ := row4 BN3.out; have m1 := Nat.ne_of_lt HNN.out.1; have m2 := Ne.symm m1; have m3 := HNN.out.2.1; have m4 := Ne.symm m3; have m5 := HNN.out.2.2; have m6 := Ne.symm m5; clear gc gl pc pl hI hK hb3 BH2)) | (go_at_call 88; ((with_reducible refine (num_calls k HI3.out HL.out.1 (c % 32) (p : Int) HLO.out y1 (none) q HY.out).mono ?_); rintro ev w4 ⟨rfl, hI, hK⟩; have HI4 := Aside0.mk hI; have HK4 := Aside0.mk (HK3.out.trans hK (.inl rfl)); have BH4 := Aside0.mk (hK.blk BH3.out (Ne.symm HNE.out.2.1) (by simp)); have BN4 := Aside0.mk (hK.blk BN3.out (Ne.symm HNN.out.2.1) (by simp)); obtain ⟨A4, cc4, q0, q1, q2, qc, ql⟩ := hI.facts; obtain ⟨t0, t1, t2, t3, t4, t5, t6, t7⟩ := row4 BH4.out; obtain ⟨o0, o1, o2, o3, o4, o5, o6, o7⟩ := row4 BN4.out; clear qc ql hI hK; (try simp only [errW_none, errW_some]))))
   have HI6 := Aside0.mk (HI4.out.far (n := w2.heap.size) BN4.out q57_ HNN.out.2.2 HNN.out.2.1 q96_ 1 (.int .u64 y1))
   have BH6 := Aside0.mk (blk_far (p := ⟨w2.heap.size, 1, none⟩) BH4.out (Nat.ne_of_lt HNN.out.1) (.int .u64 y1))
   have HK6 := Aside0.mk (keep_far (p := ⟨w2.heap.size, 1, none⟩) HK4.out (Nat.le_of_lt HNN.out.1) (.int .u64 y1))
   refine bodyPost_ret (results_ct rfl _ _ w.heap.size 27 #[.int .i64 0, .int .u64 y1, .slice none 0 0, .slice none 0 0] (0, 0) _ rfl (put4 _ _ _ _ BH6.out) Tryd.underlying27 rfl (by kernel_rfl)) rfl ?_
   exact ⟨_, _, by first | rfl | (simp [errW_none, errW_some] <;> rfl), Kd.R_nil _ _ _ _ _, Kd.R_nil _ _ _ _ _, HI6.out.set4 BH6.out HNE.out.1 HNE.out.2.1 HNE.out.2.2.1 _ _ _ _, keep4 HK6.out (Nat.le_refl _) _ _ _ _⟩
 ·cases err with
  | some x =>
   rw [if_pos (show (some x).isSome = true from rfl)] at hm
   simp only [Option.some.injEq, Prod.mk.injEq] at hm
   obtain ⟨rfl, rfl, rfl, rfl, rfl, rfl⟩ := hm
   go_enter Tryd.func52, Tryd.ntmps52
   go_wp2_with (first | (go_at_call 54; ((with_reducible refine (atc_q HI.out).mono ?_); rintro ev w1 ⟨rfl, e1⟩; have e1 := e1.symm; subst e1)) | (go_at_call 86; ((with_reducible refine (word_q HI.out HL.out.1 1 1 rfl (by decide) rfl HC.out c HV.out).mono ?_); rintro ev w2 ⟨rfl, hI, hK⟩; have hb3 := below_alloc (Below.refl w2.heap.size w2) (Obj.cells #[.int .i64 1, .int .u64 0, .slice none 0 0, .slice none 0 0] 27); have HI3 := Aside0.mk (hI.below hb3); have HK3 := Aside0.mk ((HK.out.trans hK (.inl rfl)).trans (KeepBut.of_below hb3 h none) (.inl rfl)); have BH2 := hK.blk BH.out (Ne.symm HNE.out.2.1) (by simp); have BH3 := Aside0.mk (blk_below BH2 hb3); have BN3 := Aside0.mk (blk_new w2 (Obj.cells #[.int .i64 1, .int .u64 0, .slice none 0 0, .slice none 0 0] 27)); have HNN := Aside0.mk (show w.heap.size < w2.heap.size ∧ h ≠ w2.heap.size ∧ g ≠ w2.heap.size by have h1_ := blk_lt BH2; have h2_ := HNE.out; have h3_ := hK.1; omega); obtain ⟨A2, cc2, g0, g1, g2, gc, gl⟩ := hI.facts; obtain ⟨A3, cc3, p0, p1, p2, pc, pl⟩ := HI3.out.facts; obtain ⟨y0, y1_, y2, y3, y4, y5, y6, y7⟩ := row4 BH2; obtain ⟨s0, s1, s2, s3, s4, s5, s6, s7⟩ := row4 BH3.out; obtain ⟨n0, n1, n2, n3, n4, n5, n6, n7⟩ := row4 BN3.out; have m1 := Nat.ne_of_lt HNN.out.1; have m2 := Ne.symm m1; have m3 := HNN.out.2.1; have m4 := Ne.symm m3; have m5 := HNN.out.2.2; have m6 := Ne.symm m5; clear gc gl pc pl hI hK hb3 BH2)) | (go_at_call 88; ((with_reducible refine (num_calls k HI3.out HL.out.1 (c % 32) (p : Int) HLO.out y1 (some x) q HY.out).mono ?_); rintro ev w4 ⟨rfl, hI, hK⟩; have HI4 := Aside0.mk hI; have HK4 := Aside0.mk (HK3.out.trans hK (.inl rfl)); have BH4 := Aside0.mk (hK.blk BH3.out (Ne.symm HNE.out.2.1) (by simp)); have BN4 := Aside0.mk (hK.blk BN3.out (Ne.symm HNN.out.2.1) (by simp)); obtain ⟨A4, cc4, q0, q1, q2, qc, ql⟩ := hI.facts; obtain ⟨t0, t1, t2, t3, t4, t5, t6, t7⟩ := row4 BH4.out; obtain ⟨o0, o1, o2, o3, o4, o5, o6, o7⟩ := row4 BN4.out; clear qc ql hI hK; (try simp only [errW_none, errW_some]))))
   refine bodyPost_ret (results_ct rfl _ _ w.heap.size 27 #[.int .i64 0, .int .u64 0, .slice none 0 0, .slice none 0 0] (0, 0) _ rfl (put4 _ _ _ _ BH4.out) Tryd.underlying27 rfl (by kernel_rfl)) rfl ?_
   exact ⟨_, _, by first | rfl | (simp [errW_none, errW_some] <;> rfl), Kd.R_nil _ _ _ _ _, Kd.R_nil _ _ _ _ _, HI4.out.set4 BH4.out HNE.out.1 HNE.out.2.1 HNE.out.2.2.1 _ _ _ _, keep4 HK4.out (Nat.le_refl _) _ _ _ _⟩
  | none =>
   rw [if_neg (by simp), ek] at hm
   rw [if_pos (by decide)] at hm
   simp only [Option.some.injEq, Prod.mk.injEq] at hm
   obtain ⟨rfl, rfl, rfl, rfl, rfl, rfl⟩ := hm
   go_enter Tryd.func52, Tryd.ntmps52
   go_wp2_with (first | (go_at_call 54; ((with_reducible refine (atc_q HI.out).mono ?_); rintro ev w1 ⟨rfl, e1⟩; have e1 := e1.symm; subst e1)) | (go_at_call 86; ((with_reducible refine (word_q HI.out HL.out.1 1 1 rfl (by decide) rfl HC.out c HV.out).mono ?_); rintro ev w2 ⟨rfl, hI, hK⟩; have hb3 := below_alloc (Below.refl w2.heap.size w2) (Obj.cells #[.int .i64 1, .int .u64 0, .slice none 0 0, .slice none 0 0] 27); have HI3 := Aside0.mk (hI.below hb3); have HK3 := Aside0.mk ((HK.out.trans hK (.inl rfl)).trans (KeepBut.of_below hb3 h none) (.inl rfl)); have BH2 := hK.blk BH.out (Ne.symm HNE.out.2.1) (by simp); have BH3 := Aside0.mk (blk_below BH2 hb3); have BN3 := Aside0.mk (blk_new w2 (Obj.cells #[.int .i64 1, .int .u64 0, .slice none 0 0, .slice none 0 0] 27)); have HNN := Aside0.mk (show w.heap.size < w2.heap.size ∧ h ≠ w2.heap.size ∧ g ≠ w2.heap.size by have h1_ := blk_lt BH2; have h2_ := HNE.out; have h3_ := hK.1; omega); obtain ⟨A2, cc2, g0, g1, g2, gc, gl⟩ := hI.facts; obtain ⟨A3, cc3, p0, p1, p2, pc, pl⟩ := HI3.out.facts; obtain ⟨y0, y1_, y2, y3, y4, y5, y6, y7⟩ := row4 BH2; obtain ⟨s0, s1, s2, s3, s4, s5, s6, s7⟩ := row4 BH3.out; obtain ⟨n0, n1, n2, n3, n4, n5, n6, n7⟩ := row4 BN3.out; have m1 := Nat.ne_of_lt HNN.out.1; have m2 := Ne.symm m1; have m3 := HNN.out.2.1; have m4 := Ne.symm m3; have m5 := HNN.out.2.2; have m6 := Ne.symm m5; clear gc gl pc pl hI hK hb3 BH2)) | (go_at_call 88; ((with_reducible refine (num_calls k HI3.out HL.out.1 (c % 32) (p : Int) HLO.out y1 (none) q HY.out).mono ?_); rintro ev w4 ⟨rfl, hI, hK⟩; have HI4 := Aside0.mk hI; have HK4 := Aside0.mk (HK3.out.trans hK (.inl rfl)); have BH4 := Aside0.mk (hK.blk BH3.out (Ne.symm HNE.out.2.1) (by simp)); have BN4 := Aside0.mk (hK.blk BN3.out (Ne.symm HNN.out.2.1) (by simp)); obtain ⟨A4, cc4, q0, q1, q2, qc, ql⟩ := hI.facts; obtain ⟨t0, t1, t2, t3, t4, t5, t6, t7⟩ := row4 BH4.out; obtain ⟨o0, o1, o2, o3, o4, o5, o6, o7⟩ := row4 BN4.out; clear qc ql hI hK; (try simp only [errW_none, errW_some]))))
   have HI6 := Aside0.mk (HI4.out.far (n := w2.heap.size) BN4.out q57_ HNN.out.2.2 HNN.out.2.1 q96_ 1 (.int .u64 y1))
   have BH6 := Aside0.mk (blk_far (p := ⟨w2.heap.size, 1, none⟩) BH4.out (Nat.ne_of_lt HNN.out.1) (.int .u64 y1))
   have HK6 := Aside0.mk (keep_far (p := ⟨w2.heap.size, 1, none⟩) HK4.out (Nat.le_of_lt HNN.out.1) (.int .u64 y1))
   refine bodyPost_ret (results_ct rfl _ _ w.heap.size 27 #[.int .i64 1, .int .u64 y1, .slice none 0 0, .slice none 0 0] (0, 0) _ rfl (put4 _ _ _ _ BH6.out) Tryd.underlying27 rfl (by kernel_rfl)) rfl ?_
   exact ⟨_, _, by first | rfl | (simp [errW_none, errW_some] <;> rfl), Kd.R_nil _ _ _ _ _, Kd.R_nil _ _ _ _ _, HI6.out.set4 BH6.out HNE.out.1 HNE.out.2.1 HNE.out.2.2.1 _ _ _ _, keep4 HK6.out (Nat.le_refl _) _ _ _ _⟩
 ·cases err with
  | some x =>
   rw [if_pos (show (some x).isSome = true from rfl)] at hm
   simp only [Option.some.injEq, Prod.mk.injEq] at hm
   obtain ⟨rfl, rfl, rfl, rfl, rfl, rfl⟩ := hm
   go_enter Tryd.func52, Tryd.ntmps52
   go_wp2_with (first | (go_at_call 54; ((with_reducible refine (atc_q HI.out).mono ?_); rintro ev w1 ⟨rfl, e1⟩; have e1 := e1.symm; subst e1)) | (go_at_call 86; ((with_reducible refine (word_q HI.out HL.out.1 1 1 rfl (by decide) rfl HC.out c HV.out).mono ?_); rintro ev w2 ⟨rfl, hI, hK⟩; have hb3 := below_alloc (Below.refl w2.heap.size w2) (Obj.cells #[.int .i64 2, .int .u64 0, .slice none 0 0, .slice none 0 0] 27); have HI3 := Aside0.mk (hI.below hb3); have HK3 := Aside0.mk ((HK.out.trans hK (.inl rfl)).trans (KeepBut.of_below hb3 h none) (.inl rfl)); have BH2 := hK.blk BH.out (Ne.symm HNE.out.2.1) (by simp); have BH3 := Aside0.mk (blk_below BH2 hb3); have BN3 := Aside0.mk (blk_new w2 (Obj.cells #[.int .i64 2, .int .u64 0, .slice none 0 0, .slice none 0 0] 27)); have HNN := Aside0.mk (show w.heap.size < w2.heap.size ∧ h ≠ w2.heap.size ∧ g ≠ w2.heap.size by have h1_ := blk_lt BH2; have h2_ := HNE.out; have h3_ := hK.1; omega); obtain ⟨A2, cc2, g0, g1, g2, gc, gl⟩ := hI.facts; obtain ⟨A3, cc3, p0, p1, p2, pc, pl⟩ := HI3.out.facts; obtain ⟨y0, y1_, y2, y3, y4, y5, y6, y7⟩ := row4 BH2; obtain ⟨s0, s1, s2, s3, s4, s5, s6, s7⟩ := row4 BH3.out; obtain ⟨n0, n1, n2, n3, n4, n5, n6, n7⟩ := row4 BN3.out; have m1 := Nat.ne_of_lt HNN.out.1; have m2 := Ne.symm m1; have m3 := HNN.out.2.1; have m4 := Ne.symm m3; have m5 := HNN.out.2.2; have m6 := Ne.symm m5; clear gc gl pc pl hI hK hb3 BH2)) | (go_at_call 88; ((with_reducible refine (num_calls k HI3.out HL.out.1 (c % 32) (p : Int) HLO.out y1 (some x) q HY.out).mono ?_); rintro ev w4 ⟨rfl, hI, hK⟩; have HI4 := Aside0.mk hI; have HK4 := Aside0.mk (HK3.out.trans hK (.inl rfl)); have BH4 := Aside0.mk (hK.blk BH3.out (Ne.symm HNE.out.2.1) (by simp)); have BN4 := Aside0.mk (hK.blk BN3.out (Ne.symm HNN.out.2.1) (by simp)); obtain ⟨A4, cc4, q0, q1, q2, qc, ql⟩ := hI.facts; obtain ⟨t0, t1, t2, t3, t4, t5, t6, t7⟩ := row4 BH4.out; obtain ⟨o0, o1, o2, o3, o4, o5, o6, o7⟩ := row4 BN4.out; clear qc ql hI hK; (try simp only [errW_none, errW_some]))))
   refine bodyPost_ret (results_ct rfl _ _ w.heap.size 27 #[.int .i64 0, .int .u64 0, .slice none 0 0, .slice none 0 0] (0, 0) _ rfl (put4 _ _ _ _ BH4.out) Tryd.underlying27 rfl (by kernel_rfl)) rfl ?_
   exact ⟨_, _, by first | rfl | (simp [errW_none, errW_some] <;> rfl), Kd.R_nil _ _ _ _ _, Kd.R_nil _ _ _ _ _, HI4.out.set4 BH4.out HNE.out.1 HNE.out.2.1 HNE.out.2.2.1 _ _ _ _, keep4 HK4.out (Nat.le_refl _) _ _ _ _⟩
  | none =>
   rw [if_neg (by simp), ek] at hm
   rw [if_neg (by decide)] at hm
   by_cases cy : 0 ≤ y1 ∧ y1 < 18446744073709551616
   case neg => rw [if_neg cy] at hm; cases hm
   rw [if_pos cy, if_pos (by decide), show decide ((2 : Int) = 3) = false from rfl] at hm
   have HYR := Aside0.mk cy
   obtain ⟨bs, err5, q5, hB⟩ : ∃ bs err5 q5, bytM l q y1 false = (bs, err5, q5) := ⟨_, _, _, rfl⟩
   rw [hB] at hm
   have HB := Aside0.mk hB
   clear hB cy
   dsimp only at hm
   cases err5 with
   | some x =>
    rw [if_pos (show (some x).isSome = true from rfl)] at hm
    simp only [Option.some.injEq, Prod.mk.injEq] at hm
    obtain ⟨rfl, rfl, rfl, rfl, rfl, rfl⟩ := hm
    go_enter Tryd.func52, Tryd.ntmps52
    go_wp2_with (first | (go_at_call 54; ((with_reducible refine (atc_q HI.out).mono ?_); rintro ev w1 ⟨rfl, e1⟩; have e1 := e1.symm; subst e1)) | (go_at_call 86; ((with_reducible refine (word_q HI.out HL.out.1 1 1 rfl (by decide) rfl HC.out c HV.out).mono ?_); rintro ev w2 ⟨rfl, hI, hK⟩; have hb3 := below_alloc (Below.refl w2.heap.size w2) (Obj.cells #[.int .i64 2, .int .u64 0, .slice none 0 0, .slice none 0 0] 27); have HI3 := Aside0.mk (hI.below hb3); have HK3 := Aside0.mk ((HK.out.trans hK (.inl rfl)).trans (KeepBut.of_below hb3 h none) (.inl rfl)); have BH2 := hK.blk BH.out (Ne.symm HNE.out.2.1) (by simp); have BH3 := Aside0.mk (blk_below BH2 hb3); have BN3 := Aside0.mk (blk_new w2 (Obj.cells #[.int .i64 2, .int .u64 0, .slice none 0 0, .slice none 0 0] 27)); have HNN := Aside0.mk (show w.heap.size < w2.heap.size ∧ h ≠ w2.heap.size ∧ g ≠ w2.heap.size by have h1_ := blk_lt BH2; have h2_ := HNE.out; have h3_ := hK.1; omega); obtain ⟨A2, cc2, g0, g1, g2, gc, gl⟩ := hI.facts; obtain ⟨A3, cc3, p0, p1, p2, pc, pl⟩ := HI3.out.facts; obtain ⟨y0, y1_, y2, y3, y4, y5, y6, y7⟩ := row4 BH2; obtain ⟨s0, s1, s2, s3, s4, s5, s6, s7⟩ := row4 BH3.out; obtain ⟨n0, n1, n2, n3, n4, n5, n6, n7⟩ := row4 BN3.out; have m1 := Nat.ne_of_lt HNN.out.1; have m2 := Ne.symm m1; have m3 := HNN.out.2.1; have m4 := Ne.symm m3; have m5 := HNN.out.2.2; have m6 := Ne.symm m5; clear gc gl pc pl hI hK hb3 BH2)) | (go_at_call 88; ((with_reducible refine (num_calls k HI3.out HL.out.1 (c % 32) (p : Int) HLO.out y1 (none) q HY.out).mono ?_); rintro ev w4 ⟨rfl, hI, hK⟩; have HI4 := Aside0.mk hI; have HK4 := Aside0.mk (HK3.out.trans hK (.inl rfl)); have BH4 := Aside0.mk (hK.blk BH3.out (Ne.symm HNE.out.2.1) (by simp)); have BN4 := Aside0.mk (hK.blk BN3.out (Ne.symm HNN.out.2.1) (by simp)); obtain ⟨A4, cc4, q0, q1, q2, qc, ql⟩ := hI.facts; obtain ⟨t0, t1, t2, t3, t4, t5, t6, t7⟩ := row4 BH4.out; obtain ⟨o0, o1, o2, o3, o4, o5, o6, o7⟩ := row4 BN4.out; clear qc ql hI hK; (try simp only [errW_none, errW_some]))) | (go_at_call 89; ((with_reducible refine (byt_calls HI4.out HL.out.2 y1 HYR.out.1 false bs (some x) q5 HB.out).mono ?_); rintro ev w5 ⟨v, rfl, hr, hI, hK⟩; obtain ⟨A7, c7, rfl⟩ := Kd.R_slice hr; have HRR := Aside0.mk hr; have HW4 := Aside0.mk (show w2.heap.size < w4.heap.size ∧ w.heap.size < w4.heap.size from ⟨blk_lt BN4.out, blk_lt BH4.out⟩); have HI5 := Aside0.mk hI; have HK5 := Aside0.mk (HK4.out.trans hK (.inl rfl)); have BH5 := Aside0.mk (hK.blk BH4.out (Ne.symm HNE.out.2.1) (by simp)); have BN5 := Aside0.mk (hK.blk BN4.out (Ne.symm HNN.out.2.1) (by simp)); obtain ⟨A5, cc5, r0, r1, r2, rc, rl⟩ := hI.facts; obtain ⟨i0, i1, i2, i3, i4, i5, i6, i7⟩ := row4 BH5.out; obtain ⟨j0, j1, j2, j3, j4, j5, j6, j7⟩ := row4 BN5.out; clear rc rl hI hK hr; (try simp only [errW_none, errW_some]))))
    have HI6 := Aside0.mk (HI5.out.far (n := w2.heap.size) BN5.out q57_ HNN.out.2.2 HNN.out.2.1 q96_ 2 (.slice A7 bs.length c7))
    have BH6 := Aside0.mk (blk_far (p := ⟨w2.heap.size, 2, none⟩) BH5.out (Nat.ne_of_lt HNN.out.1) (.slice A7 bs.length c7))
    have HK6 := Aside0.mk (keep_far (p := ⟨w2.heap.size, 2, none⟩) HK5.out (Nat.le_of_lt HNN.out.1) (.slice A7 bs.length c7))
    refine bodyPost_ret (results_ct rfl _ _ w.heap.size 27 #[.int .i64 0, .int .u64 0, .slice none 0 0, .slice none 0 0] (0, 0) _ rfl (put4 _ _ _ _ BH6.out) Tryd.underlying27 rfl (by kernel_rfl)) rfl ?_
    exact ⟨_, _, by first | rfl | (simp [errW_none, errW_some] <;> rfl), Kd.R_nil _ _ _ _ _, Kd.R_nil _ _ _ _ _, HI6.out.set4 BH6.out HNE.out.1 HNE.out.2.1 HNE.out.2.2.1 _ _ _ _, keep4 HK6.out (Nat.le_refl _) _ _ _ _⟩
   | none =>
    rw [if_neg (by simp)] at hm
    simp only [Option.some.injEq, Prod.mk.injEq] at hm
    obtain ⟨rfl, rfl, rfl, rfl, rfl, rfl⟩ := hm
    go_enter Tryd.func52, Tryd.ntmps52
    go_wp2_with (first | (go_at_call 54; ((with_reducible refine (atc_q HI.out).mono ?_); rintro ev w1 ⟨rfl, e1⟩; have e1 := e1.symm; subst e1)) | (go_at_call 86; ((with_reducible refine (word_q HI.out HL.out.1 1 1 rfl (by decide) rfl HC.out c HV.out).mono ?_); rintro ev w2 ⟨rfl, hI, hK⟩; have hb3 := below_alloc (Below.refl w2.heap.size w2) (Obj.cells #[.int .i64 2, .int .u64 0, .slice none 0 0, .slice none 0 0] 27); have HI3 := Aside0.mk (hI.below hb3); have HK3 := Aside0.mk ((HK.out.trans hK (.inl rfl)).trans (KeepBut.of_below hb3 h none) (.inl rfl)); have BH2 := hK.blk BH.out (Ne.symm HNE.out.2.1) (by simp); have BH3 := Aside0.mk (blk_below BH2 hb3); have BN3 := Aside0.mk (blk_new w2 (Obj.cells #[.int .i64 2, .int .u64 0, .slice none 0 0, .slice none 0 0] 27)); have HNN := Aside0.mk (show w.heap.size < w2.heap.size ∧ h ≠ w2.heap.size ∧ g ≠ w2.heap.size by have h1_ := blk_lt BH2; have h2_ := HNE.out; have h3_ := hK.1; omega); obtain ⟨A2, cc2, g0, g1, g2, gc, gl⟩ := hI.facts; obtain ⟨A3, cc3, p0, p1, p2, pc, pl⟩ := HI3.out.facts; obtain ⟨y0, y1_, y2, y3, y4, y5, y6, y7⟩ := row4 BH2; obtain ⟨s0, s1, s2, s3, s4, s5, s6, s7⟩ := row4 BH3.out; obtain ⟨n0, n1, n2, n3, n4, n5, n6, n7⟩ := row4 BN3.out; have m1 := Nat.ne_of_lt HNN.out.1; have m2 := Ne.symm m1; have m3 := HNN.out.2.1; have m4 := Ne.symm m3; have m5 := HNN.out.2.2; have m6 := Ne.symm m5; clear gc gl pc pl hI hK hb3 BH2)) | (go_at_call 88; ((with_reducible refine (num_calls k HI3.out HL.out.1 (c % 32) (p : Int) HLO.out y1 (none) q HY.out).mono ?_); rintro ev w4 ⟨rfl, hI, hK⟩; have HI4 := Aside0.mk hI; have HK4 := Aside0.mk (HK3.out.trans hK (.inl rfl)); have BH4 := Aside0.mk (hK.blk BH3.out (Ne.symm HNE.out.2.1) (by simp)); have BN4 := Aside0.mk (hK.blk BN3.out (Ne.symm HNN.out.2.1) (by simp)); obtain ⟨A4, cc4, q0, q1, q2, qc, ql⟩ := hI.facts; obtain ⟨t0, t1, t2, t3, t4, t5, t6, t7⟩ := row4 BH4.out; obtain ⟨o0, o1, o2, o3, o4, o5, o6, o7⟩ := row4 BN4.out; clear qc ql hI hK; (try simp only [errW_none, errW_some]))) | (go_at_call 89; ((with_reducible refine (byt_calls HI4.out HL.out.2 y1 HYR.out.1 false bs (none) q5 HB.out).mono ?_); rintro ev w5 ⟨v, rfl, hr, hI, hK⟩; obtain ⟨A7, c7, rfl⟩ := Kd.R_slice hr; have HRR := Aside0.mk hr; have HW4 := Aside0.mk (show w2.heap.size < w4.heap.size ∧ w.heap.size < w4.heap.size from ⟨blk_lt BN4.out, blk_lt BH4.out⟩); have HI5 := Aside0.mk hI; have HK5 := Aside0.mk (HK4.out.trans hK (.inl rfl)); have BH5 := Aside0.mk (hK.blk BH4.out (Ne.symm HNE.out.2.1) (by simp)); have BN5 := Aside0.mk (hK.blk BN4.out (Ne.symm HNN.out.2.1) (by simp)); obtain ⟨A5, cc5, r0, r1, r2, rc, rl⟩ := hI.facts; obtain ⟨i0, i1, i2, i3, i4, i5, i6, i7⟩ := row4 BH5.out; obtain ⟨j0, j1, j2, j3, j4, j5, j6, j7⟩ := row4 BN5.out; clear rc rl hI hK hr; (try simp only [errW_none, errW_some]))))
    have HI6 := Aside0.mk (HI5.out.far (n := w2.heap.size) BN5.out q57_ HNN.out.2.2 HNN.out.2.1 q96_ 2 (.slice A7 bs.length c7))
    have BH6 := Aside0.mk (blk_far (p := ⟨w2.heap.size, 2, none⟩) BH5.out (Nat.ne_of_lt HNN.out.1) (.slice A7 bs.length c7))
    have HK6 := Aside0.mk (keep_far (p := ⟨w2.heap.size, 2, none⟩) HK5.out (Nat.le_of_lt HNN.out.1) (.slice A7 bs.length c7))
    refine bodyPost_ret (results_ct rfl _ _ w.heap.size 27 #[.int .i64 2, .int .u64 0, .slice A7 bs.length c7, .slice none 0 0] (0, 0) _ rfl (put4 _ _ _ _ BH6.out) Tryd.underlying27 rfl (by kernel_rfl)) rfl ?_
    exact ⟨_, _, by first | rfl | (simp [errW_none, errW_some] <;> rfl), parR4 HRR.out HW4.out.1 HW4.out.2 (Nat.le_of_lt HW4.out.2), Kd.R_nil _ _ _ _ _, HI6.out.set4 BH6.out HNE.out.1 HNE.out.2.1 HNE.out.2.2.1 _ _ _ _, keep4 HK6.out (Nat.le_refl _) _ _ _ _⟩
 ·cases err with
  | some x =>
   rw [if_pos (show (some x).isSome = true from rfl)] at hm
   simp only [Option.some.injEq, Prod.mk.injEq] at hm
   obtain ⟨rfl, rfl, rfl, rfl, rfl, rfl⟩ := hm
   go_enter Tryd.func52, Tryd.ntmps52
   go_wp2_with (first | (go_at_call 54; ((with_reducible refine (atc_q HI.out).mono ?_); rintro ev w1 ⟨rfl, e1⟩; have e1 := e1.symm; subst e1)) | (go_at_call 86; ((with_reducible refine (word_q HI.out HL.out.1 1 1 rfl (by decide) rfl HC.out c HV.out).mono ?_); rintro ev w2 ⟨rfl, hI, hK⟩; have hb3 := below_alloc (Below.refl w2.heap.size w2) (Obj.cells #[.int .i64 3, .int .u64 0, .slice none 0 0, .slice none 0 0] 27); have HI3 := Aside0.mk (hI.below hb3); have HK3 := Aside0.mk ((HK.out.trans hK (.inl rfl)).trans (KeepBut.of_below hb3 h none) (.inl rfl)); have BH2 := hK.blk BH.out (Ne.symm HNE.out.2.1) (by simp); have BH3 := Aside0.mk (blk_below BH2 hb3); have BN3 := Aside0.mk (blk_new w2 (Obj.cells #[.int .i64 3, .int .u64 0, .slice none 0 0, .slice none 0 0] 27)); have HNN := Aside0.mk (show w.heap.size < w2.heap.size ∧ h ≠ w2.heap.size ∧ g ≠ w2.heap.size by have h1_ := blk_lt BH2; have h2_ := HNE.out; have h3_ := hK.1; omega); obtain ⟨A2, cc2, g0, g1, g2, gc, gl⟩ := hI.facts; obtain ⟨A3, cc3, p0, p1, p2, pc, pl⟩ := HI3.out.facts; obtain ⟨y0, y1_, y2, y3, y4, y5, y6, y7⟩ := row4 BH2; obtain ⟨s0, s1, s2, s3, s4, s5, s6, s7⟩ := row4 BH3.out; obtain ⟨n0, n1, n2, n3, n4, n5, n6, n7⟩ := row4 BN3.out; have m1 := Nat.ne_of_lt HNN.out.1; have m2 := Ne.symm m1; have m3 := HNN.out.2.1; have m4 := Ne.symm m3; have m5 := HNN.out.2.2; have m6 := Ne.symm m5; clear gc gl pc pl hI hK hb3 BH2)) | (go_at_call 88; ((with_reducible refine (num_calls k HI3.out HL.out.1 (c % 32) (p : Int) HLO.out y1 (some x) q HY.out).mono ?_); rintro ev w4 ⟨rfl, hI, hK⟩; have HI4 := Aside0.mk hI; have HK4 := Aside0.mk (HK3.out.trans hK (.inl rfl)); have BH4 := Aside0.mk (hK.blk BH3.out (Ne.symm HNE.out.2.1) (by simp)); have BN4 := Aside0.mk (hK.blk BN3.out (Ne.symm HNN.out.2.1) (by simp)); obtain ⟨A4, cc4, q0, q1, q2, qc, ql⟩ := hI.facts; obtain ⟨t0, t1, t2, t3, t4, t5, t6, t7⟩ := row4 BH4.out; obtain ⟨o0, o1, o2, o3, o4, o5, o6, o7⟩ := row4 BN4.out; clear qc ql hI hK; (try simp only [errW_none, errW_some]))))
   refine bodyPost_ret (results_ct rfl _ _ w.heap.size 27 #[.int .i64 0, .int .u64 0, .slice none 0 0, .slice none 0 0] (0, 0) _ rfl (put4 _ _ _ _ BH4.out) Tryd.underlying27 rfl (by kernel_rfl)) rfl ?_
   exact ⟨_, _, by first | rfl | (simp [errW_none, errW_some] <;> rfl), Kd.R_nil _ _ _ _ _, Kd.R_nil _ _ _ _ _, HI4.out.set4 BH4.out HNE.out.1 HNE.out.2.1 HNE.out.2.2.1 _ _ _ _, keep4 HK4.out (Nat.le_refl _) _ _ _ _⟩
  | none =>
   rw [if_neg (by simp), ek] at hm
   rw [if_neg (by decide)] at hm
   by_cases cy : 0 ≤ y1 ∧ y1 < 18446744073709551616
   case neg => rw [if_neg cy] at hm; cases hm
   rw [if_pos cy, if_pos (by decide), show decide ((3 : Int) = 3) = true from rfl] at hm
   have HYR := Aside0.mk cy
   obtain ⟨bs, err5, q5, hB⟩ : ∃ bs err5 q5, bytM l q y1 true = (bs, err5, q5) := ⟨_, _, _, rfl⟩
   rw [hB] at hm
   have HB := Aside0.mk hB
   clear hB cy
   dsimp only at hm
   cases err5 with
   | some x =>
    rw [if_pos (show (some x).isSome = true from rfl)] at hm
    simp only [Option.some.injEq, Prod.mk.injEq] at hm
    obtain ⟨rfl, rfl, rfl, rfl, rfl, rfl⟩ := hm
    go_enter Tryd.func52, Tryd.ntmps52
    go_wp2_with (first | (go_at_call 54; ((with_reducible refine (atc_q HI.out).mono ?_); rintro ev w1 ⟨rfl, e1⟩; have e1 := e1.symm; subst e1)) | (go_at_call 86; ((with_reducible refine (word_q HI.out HL.out.1 1 1 rfl (by decide) rfl HC.out c HV.out).mono ?_); rintro ev w2 ⟨rfl, hI, hK⟩; have hb3 := below_alloc (Below.refl w2.heap.size w2) (Obj.cells #[.int .i64 3, .int .u64 0, .slice none 0 0, .slice none 0 0] 27); have HI3 := Aside0.mk (hI.below hb3); have HK3 := Aside0.mk ((HK.out.trans hK (.inl rfl)).trans (KeepBut.of_below hb3 h none) (.inl rfl)); have BH2 := hK.blk BH.out (Ne.symm HNE.out.2.1) (by simp); have BH3 := Aside0.mk (blk_below BH2 hb3); have BN3 := Aside0.mk (blk_new w2 (Obj.cells #[.int .i64 3, .int .u64 0, .slice none 0 0, .slice none 0 0] 27)); have HNN := Aside0.mk (show w.heap.size < w2.heap.size ∧ h ≠ w2.heap.size ∧ g ≠ w2.heap.size by have h1_ := blk_lt BH2; have h2_ := HNE.out; have h3_ := hK.1; omega); obtain ⟨A2, cc2, g0, g1, g2, gc, gl⟩ := hI.facts; obtain ⟨A3, cc3, p0, p1, p2, pc, pl⟩ := HI3.out.facts; obtain ⟨y0, y1_, y2, y3, y4, y5, y6, y7⟩ := row4 BH2; obtain ⟨s0, s1, s2, s3, s4, s5, s6, s7⟩ := row4 BH3.out; obtain ⟨n0, n1, n2, n3, n4, n5, n6, n7⟩ := row4 BN3.out; have m1 := Nat.ne_of_lt HNN.out.1; have m2 := Ne.symm m1; have m3 := HNN.out.2.1; have m4 := Ne.symm m3; have m5 := HNN.out.2.2; have m6 := Ne.symm m5; clear gc gl pc pl hI hK hb3 BH2)) | (go_at_call 88; ((with_reducible refine (num_calls k HI3.out HL.out.1 (c % 32) (p : Int) HLO.out y1 (none) q HY.out).mono ?_); rintro ev w4 ⟨rfl, hI, hK⟩; have HI4 := Aside0.mk hI; have HK4 := Aside0.mk (HK3.out.trans hK (.inl rfl)); have BH4 := Aside0.mk (hK.blk BH3.out (Ne.symm HNE.out.2.1) (by simp)); have BN4 := Aside0.mk (hK.blk BN3.out (Ne.symm HNN.out.2.1) (by simp)); obtain ⟨A4, cc4, q0, q1, q2, qc, ql⟩ := hI.facts; obtain ⟨t0, t1, t2, t3, t4, t5, t6, t7⟩ := row4 BH4.out; obtain ⟨o0, o1, o2, o3, o4, o5, o6, o7⟩ := row4 BN4.out; clear qc ql hI hK; (try simp only [errW_none, errW_some]))) | (go_at_call 89; ((with_reducible refine (byt_calls HI4.out HL.out.2 y1 HYR.out.1 true bs (some x) q5 HB.out).mono ?_); rintro ev w5 ⟨v, rfl, hr, hI, hK⟩; obtain ⟨A7, c7, rfl⟩ := Kd.R_slice hr; have HRR := Aside0.mk hr; have HW4 := Aside0.mk (show w2.heap.size < w4.heap.size ∧ w.heap.size < w4.heap.size from ⟨blk_lt BN4.out, blk_lt BH4.out⟩); have HI5 := Aside0.mk hI; have HK5 := Aside0.mk (HK4.out.trans hK (.inl rfl)); have BH5 := Aside0.mk (hK.blk BH4.out (Ne.symm HNE.out.2.1) (by simp)); have BN5 := Aside0.mk (hK.blk BN4.out (Ne.symm HNN.out.2.1) (by simp)); obtain ⟨A5, cc5, r0, r1, r2, rc, rl⟩ := hI.facts; obtain ⟨i0, i1, i2, i3, i4, i5, i6, i7⟩ := row4 BH5.out; obtain ⟨j0, j1, j2, j3, j4, j5, j6, j7⟩ := row4 BN5.out; clear rc rl hI hK hr; (try simp only [errW_none, errW_some]))))
    have HI6 := Aside0.mk (HI5.out.far (n := w2.heap.size) BN5.out q57_ HNN.out.2.2 HNN.out.2.1 q96_ 2 (.slice A7 bs.length c7))
    have BH6 := Aside0.mk (blk_far (p := ⟨w2.heap.size, 2, none⟩) BH5.out (Nat.ne_of_lt HNN.out.1) (.slice A7 bs.length c7))
    have HK6 := Aside0.mk (keep_far (p := ⟨w2.heap.size, 2, none⟩) HK5.out (Nat.le_of_lt HNN.out.1) (.slice A7 bs.length c7))
    refine bodyPost_ret (results_ct rfl _ _ w.heap.size 27 #[.int .i64 0, .int .u64 0, .slice none 0 0, .slice none 0 0] (0, 0) _ rfl (put4 _ _ _ _ BH6.out) Tryd.underlying27 rfl (by kernel_rfl)) rfl ?_
    exact ⟨_, _, by first | rfl | (simp [errW_none, errW_some] <;> rfl), Kd.R_nil _ _ _ _ _, Kd.R_nil _ _ _ _ _, HI6.out.set4 BH6.out HNE.out.1 HNE.out.2.1 HNE.out.2.2.1 _ _ _ _, keep4 HK6.out (Nat.le_refl _) _ _ _ _⟩
   | none =>
    rw [if_neg (by simp)] at hm
    simp only [Option.some.injEq, Prod.mk.injEq] at hm
    obtain ⟨rfl, rfl, rfl, rfl, rfl, rfl⟩ := hm
    go_enter Tryd.func52, Tryd.ntmps52
    go_wp2_with (first | (go_at_call 54; ((with_reducible refine (atc_q HI.out).mono ?_); rintro ev w1 ⟨rfl, e1⟩; have e1 := e1.symm; subst e1)) | (go_at_call 86; ((with_reducible refine (word_q HI.out HL.out.1 1 1 rfl (by decide) rfl HC.out c HV.out).mono ?_); rintro ev w2 ⟨rfl, hI, hK⟩; have hb3 := below_alloc (Below.refl w2.heap.size w2) (Obj.cells #[.int .i64 3, .int .u64 0, .slice none 0 0, .slice none 0 0] 27); have HI3 := Aside0.mk (hI.below hb3); have HK3 := Aside0.mk ((HK.out.trans hK (.inl rfl)).trans (KeepBut.of_below hb3 h none) (.inl rfl)); have BH2 := hK.blk BH.out (Ne.symm HNE.out.2.1) (by simp); have BH3 := Aside0.mk (blk_below BH2 hb3); have BN3 := Aside0.mk (blk_new w2 (Obj.cells #[.int .i64 3, .int .u64 0, .slice none 0 0, .slice none 0 0] 27)); have HNN := Aside0.mk (show w.heap.size < w2.heap.size ∧ h ≠ w2.heap.size ∧ g ≠ w2.heap.size by have h1_ := blk_lt BH2; have h2_ := HNE.out; have h3_ := hK.1; omega); obtain ⟨A2, cc2, g0, g1, g2, gc, gl⟩ := hI.facts; obtain ⟨A3, cc3, p0, p1, p2, pc, pl⟩ := HI3.out.facts; obtain ⟨y0, y1_, y2, y3, y4, y5, y6, y7⟩ := row4 BH2; obtain ⟨s0, s1, s2, s3, s4, s5, s6, s7⟩ := row4 BH3.out; obtain ⟨n0, n1, n2, n3, n4, n5, n6, n7⟩ := row4 BN3.out; have m1 := Nat.ne_of_lt HNN.out.1; have m2 := Ne.symm m1; have m3 := HNN.out.2.1; have m4 := Ne.symm m3; have m5 := HNN.out.2.2; have m6 := Ne.symm m5; clear gc gl pc pl hI hK hb3 BH2)) | (go_at_call 88; ((with_reducible refine (num_calls k HI3.out HL.out.1 (c % 32) (p : Int) HLO.out y1 (none) q HY.out).mono ?_); rintro ev w4 ⟨rfl, hI, hK⟩; have HI4 := Aside0.mk hI; have HK4 := Aside0.mk (HK3.out.trans hK (.inl rfl)); have BH4 := Aside0.mk (hK.blk BH3.out (Ne.symm HNE.out.2.1) (by simp)); have BN4 := Aside0.mk (hK.blk BN3.out (Ne.symm HNN.out.2.1) (by simp)); obtain ⟨A4, cc4, q0, q1, q2, qc, ql⟩ := hI.facts; obtain ⟨t0, t1, t2, t3, t4, t5, t6, t7⟩ := row4 BH4.out; obtain ⟨o0, o1, o2, o3, o4, o5, o6, o7⟩ := row4 BN4.out; clear qc ql hI hK; (try simp only [errW_none, errW_some]))) | (go_at_call 89; ((with_reducible refine (byt_calls HI4.out HL.out.2 y1 HYR.out.1 true bs (none) q5 HB.out).mono ?_); rintro ev w5 ⟨v, rfl, hr, hI, hK⟩; obtain ⟨A7, c7, rfl⟩ := Kd.R_slice hr; have HRR := Aside0.mk hr; have HW4 := Aside0.mk (show w2.heap.size < w4.heap.size ∧ w.heap.size < w4.heap.size from ⟨blk_lt BN4.out, blk_lt BH4.out⟩); have HI5 := Aside0.mk hI; have HK5 := Aside0.mk (HK4.out.trans hK (.inl rfl)); have BH5 := Aside0.mk (hK.blk BH4.out (Ne.symm HNE.out.2.1) (by simp)); have BN5 := Aside0.mk (hK.blk BN4.out (Ne.symm HNN.out.2.1) (by simp)); obtain ⟨A5, cc5, r0, r1, r2, rc, rl⟩ := hI.facts; obtain ⟨i0, i1, i2, i3, i4, i5, i6, i7⟩ := row4 BH5.out; obtain ⟨j0, j1, j2, j3, j4, j5, j6, j7⟩ := row4 BN5.out; clear rc rl hI hK hr; (try simp only [errW_none, errW_some]))))
    have HI6 := Aside0.mk (HI5.out.far (n := w2.heap.size) BN5.out q57_ HNN.out.2.2 HNN.out.2.1 q96_ 2 (.slice A7 bs.length c7))
    have BH6 := Aside0.mk (blk_far (p := ⟨w2.heap.size, 2, none⟩) BH5.out (Nat.ne_of_lt HNN.out.1) (.slice A7 bs.length c7))
    have HK6 := Aside0.mk (keep_far (p := ⟨w2.heap.size, 2, none⟩) HK5.out (Nat.le_of_lt HNN.out.1) (.slice A7 bs.length c7))
    refine bodyPost_ret (results_ct rfl _ _ w.heap.size 27 #[.int .i64 3, .int .u64 0, .slice A7 bs.length c7, .slice none 0 0] (0, 0) _ rfl (put4 _ _ _ _ BH6.out) Tryd.underlying27 rfl (by kernel_rfl)) rfl ?_
    exact ⟨_, _, by first | rfl | (simp [errW_none, errW_some] <;> rfl), parR4 HRR.out HW4.out.1 HW4.out.2 (Nat.le_of_lt HW4.out.2), Kd.R_nil _ _ _ _ _, HI6.out.set4 BH6.out HNE.out.1 HNE.out.2.1 HNE.out.2.2.1 _ _ _ _, keep4 HK6.out (Nat.le_refl _) _ _ _ _⟩
 ·cases err with
  | some x =>
   rw [if_pos (show (some x).isSome = true from rfl)] at hm
   simp only [Option.some.injEq, Prod.mk.injEq] at hm
   obtain ⟨rfl, rfl, rfl, rfl, rfl, rfl⟩ := hm
   go_enter Tryd.func52, Tryd.ntmps52
   go_wp2_with (first | (go_at_call 54; ((with_reducible refine (atc_q HI.out).mono ?_); rintro ev w1 ⟨rfl, e1⟩; have e1 := e1.symm; subst e1)) | (go_at_call 86; ((with_reducible refine (word_q HI.out HL.out.1 1 1 rfl (by decide) rfl HC.out c HV.out).mono ?_); rintro ev w2 ⟨rfl, hI, hK⟩; have hb3 := below_alloc (Below.refl w2.heap.size w2) (Obj.cells #[.int .i64 4, .int .u64 0, .slice none 0 0, .slice none 0 0] 27); have HI3 := Aside0.mk (hI.below hb3); have HK3 := Aside0.mk ((HK.out.trans hK (.inl rfl)).trans (KeepBut.of_below hb3 h none) (.inl rfl)); have BH2 := hK.blk BH.out (Ne.symm HNE.out.2.1) (by simp); have BH3 := Aside0.mk (blk_below BH2 hb3); have BN3 := Aside0.mk (blk_new w2 (Obj.cells #[.int .i64 4, .int .u64 0, .slice none 0 0, .slice none 0 0] 27)); have HNN := Aside0.mk (show w.heap.size < w2.heap.size ∧ h ≠ w2.heap.size ∧ g ≠ w2.heap.size by have h1_ := blk_lt BH2; have h2_ := HNE.out; have h3_ := hK.1; omega); obtain ⟨A2, cc2, g0, g1, g2, gc, gl⟩ := hI.facts; obtain ⟨A3, cc3, p0, p1, p2, pc, pl⟩ := HI3.out.facts; obtain ⟨y0, y1_, y2, y3, y4, y5, y6, y7⟩ := row4 BH2; obtain ⟨s0, s1, s2, s3, s4, s5, s6, s7⟩ := row4 BH3.out; obtain ⟨n0, n1, n2, n3, n4, n5, n6, n7⟩ := row4 BN3.out; have m1 := Nat.ne_of_lt HNN.out.1; have m2 := Ne.symm m1; have m3 := HNN.out.2.1; have m4 := Ne.symm m3; have m5 := HNN.out.2.2; have m6 := Ne.symm m5; clear gc gl pc pl hI hK hb3 BH2)) | (go_at_call 88; ((with_reducible refine (num_calls k HI3.out HL.out.1 (c % 32) (p : Int) HLO.out y1 (some x) q HY.out).mono ?_); rintro ev w4 ⟨rfl, hI, hK⟩; have HI4 := Aside0.mk hI; have HK4 := Aside0.mk (HK3.out.trans hK (.inl rfl)); have BH4 := Aside0.mk (hK.blk BH3.out (Ne.symm HNE.out.2.1) (by simp)); have BN4 := Aside0.mk (hK.blk BN3.out (Ne.symm HNN.out.2.1) (by simp)); obtain ⟨A4, cc4, q0, q1, q2, qc, ql⟩ := hI.facts; obtain ⟨t0, t1, t2, t3, t4, t5, t6, t7⟩ := row4 BH4.out; obtain ⟨o0, o1, o2, o3, o4, o5, o6, o7⟩ := row4 BN4.out; clear qc ql hI hK; (try simp only [errW_none, errW_some]))))
   refine bodyPost_ret (results_ct rfl _ _ w.heap.size 27 #[.int .i64 0, .int .u64 0, .slice none 0 0, .slice none 0 0] (0, 0) _ rfl (put4 _ _ _ _ BH4.out) Tryd.underlying27 rfl (by kernel_rfl)) rfl ?_
   exact ⟨_, _, by first | rfl | (simp [errW_none, errW_some] <;> rfl), Kd.R_nil _ _ _ _ _, Kd.R_nil _ _ _ _ _, HI4.out.set4 BH4.out HNE.out.1 HNE.out.2.1 HNE.out.2.2.1 _ _ _ _, keep4 HK4.out (Nat.le_refl _) _ _ _ _⟩
  | none =>
   rw [if_neg (by simp), ek] at hm
   rw [if_neg (by decide)] at hm
   by_cases cy : 0 ≤ y1 ∧ y1 < 18446744073709551616
   case neg => rw [if_neg cy] at hm; cases hm
   rw [if_pos cy, if_neg (by decide), show decide ((4 : Int) = 5) = false from rfl] at hm
   clear cy
   obtain ⟨⟨ks, err5, q5⟩, hB, hm⟩ := Option.bind_eq_some_iff.mp hm
   have HB := Aside0.mk hB
   clear hB
   dsimp only at hm
   cases err5 with
   | some x =>
    rw [if_pos (show (some x).isSome = true from rfl)] at hm
    simp only [Option.some.injEq, Prod.mk.injEq] at hm
    obtain ⟨rfl, rfl, rfl, rfl, rfl, rfl⟩ := hm
    go_enter Tryd.func52, Tryd.ntmps52
    go_wp2_with (first | (go_at_call 54; ((with_reducible refine (atc_q HI.out).mono ?_); rintro ev w1 ⟨rfl, e1⟩; have e1 := e1.symm; subst e1)) | (go_at_call 86; ((with_reducible refine (word_q HI.out HL.out.1 1 1 rfl (by decide) rfl HC.out c HV.out).mono ?_); rintro ev w2 ⟨rfl, hI, hK⟩; have hb3 := below_alloc (Below.refl w2.heap.size w2) (Obj.cells #[.int .i64 4, .int .u64 0, .slice none 0 0, .slice none 0 0] 27); have HI3 := Aside0.mk (hI.below hb3); have HK3 := Aside0.mk ((HK.out.trans hK (.inl rfl)).trans (KeepBut.of_below hb3 h none) (.inl rfl)); have BH2 := hK.blk BH.out (Ne.symm HNE.out.2.1) (by simp); have BH3 := Aside0.mk (blk_below BH2 hb3); have BN3 := Aside0.mk (blk_new w2 (Obj.cells #[.int .i64 4, .int .u64 0, .slice none 0 0, .slice none 0 0] 27)); have HNN := Aside0.mk (show w.heap.size < w2.heap.size ∧ h ≠ w2.heap.size ∧ g ≠ w2.heap.size by have h1_ := blk_lt BH2; have h2_ := HNE.out; have h3_ := hK.1; omega); obtain ⟨A2, cc2, g0, g1, g2, gc, gl⟩ := hI.facts; obtain ⟨A3, cc3, p0, p1, p2, pc, pl⟩ := HI3.out.facts; obtain ⟨y0, y1_, y2, y3, y4, y5, y6, y7⟩ := row4 BH2; obtain ⟨s0, s1, s2, s3, s4, s5, s6, s7⟩ := row4 BH3.out; obtain ⟨n0, n1, n2, n3, n4, n5, n6, n7⟩ := row4 BN3.out; have m1 := Nat.ne_of_lt HNN.out.1; have m2 := Ne.symm m1; have m3 := HNN.out.2.1; have m4 := Ne.symm m3; have m5 := HNN.out.2.2; have m6 := Ne.symm m5; clear gc gl pc pl hI hK hb3 BH2)) | (go_at_call 88; ((with_reducible refine (num_calls k HI3.out HL.out.1 (c % 32) (p : Int) HLO.out y1 (none) q HY.out).mono ?_); rintro ev w4 ⟨rfl, hI, hK⟩; have HI4 := Aside0.mk hI; have HK4 := Aside0.mk (HK3.out.trans hK (.inl rfl)); have BH4 := Aside0.mk (hK.blk BH3.out (Ne.symm HNE.out.2.1) (by simp)); have BN4 := Aside0.mk (hK.blk BN3.out (Ne.symm HNN.out.2.1) (by simp)); obtain ⟨A4, cc4, q0, q1, q2, qc, ql⟩ := hI.facts; obtain ⟨t0, t1, t2, t3, t4, t5, t6, t7⟩ := row4 BH4.out; obtain ⟨o0, o1, o2, o3, o4, o5, o6, o7⟩ := row4 BN4.out; clear qc ql hI hK; (try simp only [errW_none, errW_some]))) | (go_at_call 90; ((with_reducible refine (KidsC.use HKIDS.out w0 _ g h l q y1 false a ks (some x) q5 HI4.out HL.out.1 HL.out.2 HB.out).mono ?_); rintro ev w5 ⟨v, rfl, hr, hI, hK⟩; obtain ⟨A7, c7, rfl⟩ := Kd.R_slice hr; have HRR := Aside0.mk hr; have HW4 := Aside0.mk (show w2.heap.size < w4.heap.size ∧ w.heap.size < w4.heap.size from ⟨blk_lt BN4.out, blk_lt BH4.out⟩); have HI5 := Aside0.mk hI; have HK5 := Aside0.mk (HK4.out.trans hK (.inl rfl)); have BH5 := Aside0.mk (hK.blk BH4.out (Ne.symm HNE.out.2.1) (by simp)); have BN5 := Aside0.mk (hK.blk BN4.out (Ne.symm HNN.out.2.1) (by simp)); obtain ⟨A5, cc5, r0, r1, r2, rc, rl⟩ := hI.facts; obtain ⟨i0, i1, i2, i3, i4, i5, i6, i7⟩ := row4 BH5.out; obtain ⟨j0, j1, j2, j3, j4, j5, j6, j7⟩ := row4 BN5.out; clear rc rl hI hK hr; (try simp only [errW_none, errW_some]))))
    have HI6 := Aside0.mk (HI5.out.far (n := w2.heap.size) BN5.out q57_ HNN.out.2.2 HNN.out.2.1 q96_ 3 (.slice A7 ks.length c7))
    have BH6 := Aside0.mk (blk_far (p := ⟨w2.heap.size, 3, none⟩) BH5.out (Nat.ne_of_lt HNN.out.1) (.slice A7 ks.length c7))
    have HK6 := Aside0.mk (keep_far (p := ⟨w2.heap.size, 3, none⟩) HK5.out (Nat.le_of_lt HNN.out.1) (.slice A7 ks.length c7))
    refine bodyPost_ret (results_ct rfl _ _ w.heap.size 27 #[.int .i64 0, .int .u64 0, .slice none 0 0, .slice none 0 0] (0, 0) _ rfl (put4 _ _ _ _ BH6.out) Tryd.underlying27 rfl (by kernel_rfl)) rfl ?_
    exact ⟨_, _, by first | rfl | (simp [errW_none, errW_some] <;> rfl), Kd.R_nil _ _ _ _ _, Kd.R_nil _ _ _ _ _, HI6.out.set4 BH6.out HNE.out.1 HNE.out.2.1 HNE.out.2.2.1 _ _ _ _, keep4 HK6.out (Nat.le_refl _) _ _ _ _⟩
   | none =>
    rw [if_neg (by simp)] at hm
    simp only [Option.some.injEq, Prod.mk.injEq] at hm
    obtain ⟨rfl, rfl, rfl, rfl, rfl, rfl⟩ := hm
    go_enter Tryd.func52, Tryd.ntmps52
    go_wp2_with (first | (go_at_call 54; ((with_reducible refine (atc_q HI.out).mono ?_); rintro ev w1 ⟨rfl, e1⟩; have e1 := e1.symm; subst e1)) | (go_at_call 86; ((with_reducible refine (word_q HI.out HL.out.1 1 1 rfl (by decide) rfl HC.out c HV.out).mono ?_); rintro ev w2 ⟨rfl, hI, hK⟩; have hb3 := below_alloc (Below.refl w2.heap.size w2) (Obj.cells #[.int .i64 4, .int .u64 0, .slice none 0 0, .slice none 0 0] 27); have HI3 := Aside0.mk (hI.below hb3); have HK3 := Aside0.mk ((HK.out.trans hK (.inl rfl)).trans (KeepBut.of_below hb3 h none) (.inl rfl)); have BH2 := hK.blk BH.out (Ne.symm HNE.out.2.1) (by simp); have BH3 := Aside0.mk (blk_below BH2 hb3); have BN3 := Aside0.mk (blk_new w2 (Obj.cells #[.int .i64 4, .int .u64 0, .slice none 0 0, .slice none 0 0] 27)); have HNN := Aside0.mk (show w.heap.size < w2.heap.size ∧ h ≠ w2.heap.size ∧ g ≠ w2.heap.size by have h1_ := blk_lt BH2; have h2_ := HNE.out; have h3_ := hK.1; omega); obtain ⟨A2, cc2, g0, g1, g2, gc, gl⟩ := hI.facts; obtain ⟨A3, cc3, p0, p1, p2, pc, pl⟩ := HI3.out.facts; obtain ⟨y0, y1_, y2, y3, y4, y5, y6, y7⟩ := row4 BH2; obtain ⟨s0, s1, s2, s3, s4, s5, s6, s7⟩ := row4 BH3.out; obtain ⟨n0, n1, n2, n3, n4, n5, n6, n7⟩ := row4 BN3.out; have m1 := Nat.ne_of_lt HNN.out.1; have m2 := Ne.symm m1; have m3 := HNN.out.2.1; have m4 := Ne.symm m3; have m5 := HNN.out.2.2; have m6 := Ne.symm m5; clear gc gl pc pl hI hK hb3 BH2)) | (go_at_call 88; ((with_reducible refine (num_calls k HI3.out HL.out.1 (c % 32) (p : Int) HLO.out y1 (none) q HY.out).mono ?_); rintro ev w4 ⟨rfl, hI, hK⟩; have HI4 := Aside0.mk hI; have HK4 := Aside0.mk (HK3.out.trans hK (.inl rfl)); have BH4 := Aside0.mk (hK.blk BH3.out (Ne.symm HNE.out.2.1) (by simp)); have BN4 := Aside0.mk (hK.blk BN3.out (Ne.symm HNN.out.2.1) (by simp)); obtain ⟨A4, cc4, q0, q1, q2, qc, ql⟩ := hI.facts; obtain ⟨t0, t1, t2, t3, t4, t5, t6, t7⟩ := row4 BH4.out; obtain ⟨o0, o1, o2, o3, o4, o5, o6, o7⟩ := row4 BN4.out; clear qc ql hI hK; (try simp only [errW_none, errW_some]))) | (go_at_call 90; ((with_reducible refine (KidsC.use HKIDS.out w0 _ g h l q y1 false a ks (none) q5 HI4.out HL.out.1 HL.out.2 HB.out).mono ?_); rintro ev w5 ⟨v, rfl, hr, hI, hK⟩; obtain ⟨A7, c7, rfl⟩ := Kd.R_slice hr; have HRR := Aside0.mk hr; have HW4 := Aside0.mk (show w2.heap.size < w4.heap.size ∧ w.heap.size < w4.heap.size from ⟨blk_lt BN4.out, blk_lt BH4.out⟩); have HI5 := Aside0.mk hI; have HK5 := Aside0.mk (HK4.out.trans hK (.inl rfl)); have BH5 := Aside0.mk (hK.blk BH4.out (Ne.symm HNE.out.2.1) (by simp)); have BN5 := Aside0.mk (hK.blk BN4.out (Ne.symm HNN.out.2.1) (by simp)); obtain ⟨A5, cc5, r0, r1, r2, rc, rl⟩ := hI.facts; obtain ⟨i0, i1, i2, i3, i4, i5, i6, i7⟩ := row4 BH5.out; obtain ⟨j0, j1, j2, j3, j4, j5, j6, j7⟩ := row4 BN5.out; clear rc rl hI hK hr; (try simp only [errW_none, errW_some]))))
    have HI6 := Aside0.mk (HI5.out.far (n := w2.heap.size) BN5.out q57_ HNN.out.2.2 HNN.out.2.1 q96_ 3 (.slice A7 ks.length c7))
    have BH6 := Aside0.mk (blk_far (p := ⟨w2.heap.size, 3, none⟩) BH5.out (Nat.ne_of_lt HNN.out.1) (.slice A7 ks.length c7))
    have HK6 := Aside0.mk (keep_far (p := ⟨w2.heap.size, 3, none⟩) HK5.out (Nat.le_of_lt HNN.out.1) (.slice A7 ks.length c7))
    refine bodyPost_ret (results_ct rfl _ _ w.heap.size 27 #[.int .i64 4, .int .u64 0, .slice none 0 0, .slice A7 ks.length c7] (0, 0) _ rfl (put4 _ _ _ _ BH6.out) Tryd.underlying27 rfl (by kernel_rfl)) rfl ?_
    exact ⟨_, _, by first | rfl | (simp [errW_none, errW_some] <;> rfl), Kd.R_nil _ _ _ _ _, Kd.R_mono (parR4 HRR.out HW4.out.1 HW4.out.2 (Nat.le_of_lt HW4.out.2)) (fun _ _ => by simp [Value.ownBlock]), HI6.out.set4 BH6.out HNE.out.1 HNE.out.2.1 HNE.out.2.2.1 _ _ _ _, keep4 HK6.out (Nat.le_refl _) _ _ _ _⟩
 ·cases err with
  | some x =>
   rw [if_pos (show (some x).isSome = true from rfl)] at hm
   simp only [Option.some.injEq, Prod.mk.injEq] at hm
   obtain ⟨rfl, rfl, rfl, rfl, rfl, rfl⟩ := hm
   go_enter Tryd.func52, Tryd.ntmps52
   go_wp2_with (first | (go_at_call 54; ((with_reducible refine (atc_q HI.out).mono ?_); rintro ev w1 ⟨rfl, e1⟩; have e1 := e1.symm; subst e1)) | (go_at_call 86; ((with_reducible refine (word_q HI.out HL.out.1 1 1 rfl (by decide) rfl HC.out c HV.out).mono ?_); rintro ev w2 ⟨rfl, hI, hK⟩; have hb3 := below_alloc (Below.refl w2.heap.size w2) (Obj.cells #[.int .i64 5, .int .u64 0, .slice none 0 0, .slice none 0 0] 27); have HI3 := Aside0.mk (hI.below hb3); have HK3 := Aside0.mk ((HK.out.trans hK (.inl rfl)).trans (KeepBut.of_below hb3 h none) (.inl rfl)); have BH2 := hK.blk BH.out (Ne.symm HNE.out.2.1) (by simp); have BH3 := Aside0.mk (blk_below BH2 hb3); have BN3 := Aside0.mk (blk_new w2 (Obj.cells #[.int .i64 5, .int .u64 0, .slice none 0 0, .slice none 0 0] 27)); have HNN := Aside0.mk (show w.heap.size < w2.heap.size ∧ h ≠ w2.heap.size ∧ g ≠ w2.heap.size by have h1_ := blk_lt BH2; have h2_ := HNE.out; have h3_ := hK.1; omega); obtain ⟨A2, cc2, g0, g1, g2, gc, gl⟩ := hI.facts; obtain ⟨A3, cc3, p0, p1, p2, pc, pl⟩ := HI3.out.facts; obtain ⟨y0, y1_, y2, y3, y4, y5, y6, y7⟩ := row4 BH2; obtain ⟨s0, s1, s2, s3, s4, s5, s6, s7⟩ := row4 BH3.out; obtain ⟨n0, n1, n2, n3, n4, n5, n6, n7⟩ := row4 BN3.out; have m1 := Nat.ne_of_lt HNN.out.1; have m2 := Ne.symm m1; have m3 := HNN.out.2.1; have m4 := Ne.symm m3; have m5 := HNN.out.2.2; have m6 := Ne.symm m5; clear gc gl pc pl hI hK hb3 BH2)) | (go_at_call 88; ((with_reducible refine (num_calls k HI3.out HL.out.1 (c % 32) (p : Int) HLO.out y1 (some x) q HY.out).mono ?_); rintro ev w4 ⟨rfl, hI, hK⟩; have HI4 := Aside0.mk hI; have HK4 := Aside0.mk (HK3.out.trans hK (.inl rfl)); have BH4 := Aside0.mk (hK.blk BH3.out (Ne.symm HNE.out.2.1) (by simp)); have BN4 := Aside0.mk (hK.blk BN3.out (Ne.symm HNN.out.2.1) (by simp)); obtain ⟨A4, cc4, q0, q1, q2, qc, ql⟩ := hI.facts; obtain ⟨t0, t1, t2, t3, t4, t5, t6, t7⟩ := row4 BH4.out; obtain ⟨o0, o1, o2, o3, o4, o5, o6, o7⟩ := row4 BN4.out; clear qc ql hI hK; (try simp only [errW_none, errW_some]))))
   refine bodyPost_ret (results_ct rfl _ _ w.heap.size 27 #[.int .i64 0, .int .u64 0, .slice none 0 0, .slice none 0 0] (0, 0) _ rfl (put4 _ _ _ _ BH4.out) Tryd.underlying27 rfl (by kernel_rfl)) rfl ?_
   exact ⟨_, _, by first | rfl | (simp [errW_none, errW_some] <;> rfl), Kd.R_nil _ _ _ _ _, Kd.R_nil _ _ _ _ _, HI4.out.set4 BH4.out HNE.out.1 HNE.out.2.1 HNE.out.2.2.1 _ _ _ _, keep4 HK4.out (Nat.le_refl _) _ _ _ _⟩
  | none =>
   rw [if_neg (by simp), ek] at hm
   rw [if_neg (by decide)] at hm
   by_cases cy : 0 ≤ y1 ∧ y1 < 18446744073709551616
   case neg => rw [if_neg cy] at hm; cases hm
   rw [if_pos cy, if_neg (by decide), show decide ((5 : Int) = 5) = true from rfl] at hm
   clear cy
   obtain ⟨⟨ks, err5, q5⟩, hB, hm⟩ := Option.bind_eq_some_iff.mp hm
   have HB := Aside0.mk hB
   clear hB
   dsimp only at hm
   cases err5 with
   | some x =>
    rw [if_pos (show (some x).isSome = true from rfl)] at hm
    simp only [Option.some.injEq, Prod.mk.injEq] at hm
    obtain ⟨rfl, rfl, rfl, rfl, rfl, rfl⟩ := hm
    go_enter Tryd.func52, Tryd.ntmps52
    go_wp2_with (first | (go_at_call 54; ((with_reducible refine (atc_q HI.out).mono ?_); rintro ev w1 ⟨rfl, e1⟩; have e1 := e1.symm; subst e1)) | (go_at_call 86; ((with_reducible refine (word_q HI.out HL.out.1 1 1 rfl (by decide) rfl HC.out c HV.out).mono ?_); rintro ev w2 ⟨rfl, hI, hK⟩; have hb3 := below_alloc (Below.refl w2.heap.size w2) (Obj.cells #[.int .i64 5, .int .u64 0, .slice none 0 0, .slice none 0 0] 27); have HI3 := Aside0.mk (hI.below hb3); have HK3 := Aside0.mk ((HK.out.trans hK (.inl rfl)).trans (KeepBut.of_below hb3 h none) (.inl rfl)); have BH2 := hK.blk BH.out (Ne.symm HNE.out.2.1) (by simp); have BH3 := Aside0.mk (blk_below BH2 hb3); have BN3 := Aside0.mk (blk_new w2 (Obj.cells #[.int .i64 5, .int .u64 0, .slice none 0 0, .slice none 0 0] 27)); have HNN := Aside0.mk (show w.heap.size < w2.heap.size ∧ h ≠ w2.heap.size ∧ g ≠ w2.heap.size by have h1_ := blk_lt BH2; have h2_ := HNE.out; have h3_ := hK.1; omega); obtain ⟨A2, cc2, g0, g1, g2, gc, gl⟩ := hI.facts; obtain ⟨A3, cc3, p0, p1, p2, pc, pl⟩ := HI3.out.facts; obtain ⟨y0, y1_, y2, y3, y4, y5, y6, y7⟩ := row4 BH2; obtain ⟨s0, s1, s2, s3, s4, s5, s6, s7⟩ := row4 BH3.out; obtain ⟨n0, n1, n2, n3, n4, n5, n6, n7⟩ := row4 BN3.out; have m1 := Nat.ne_of_lt HNN.out.1; have m2 := Ne.symm m1; have m3 := HNN.out.2.1; have m4 := Ne.symm m3; have m5 := HNN.out.2.2; have m6 := Ne.symm m5; clear gc gl pc pl hI hK hb3 BH2)) | (go_at_call 88; ((with_reducible refine (num_calls k HI3.out HL.out.1 (c % 32) (p : Int) HLO.out y1 (none) q HY.out).mono ?_); rintro ev w4 ⟨rfl, hI, hK⟩; have HI4 := Aside0.mk hI; have HK4 := Aside0.mk (HK3.out.trans hK (.inl rfl)); have BH4 := Aside0.mk (hK.blk BH3.out (Ne.symm HNE.out.2.1) (by simp)); have BN4 := Aside0.mk (hK.blk BN3.out (Ne.symm HNN.out.2.1) (by simp)); obtain ⟨A4, cc4, q0, q1, q2, qc, ql⟩ := hI.facts; obtain ⟨t0, t1, t2, t3, t4, t5, t6, t7⟩ := row4 BH4.out; obtain ⟨o0, o1, o2, o3, o4, o5, o6, o7⟩ := row4 BN4.out; clear qc ql hI hK; (try simp only [errW_none, errW_some]))) | (go_at_call 90; ((with_reducible refine (KidsC.use HKIDS.out w0 _ g h l q y1 true a ks (some x) q5 HI4.out HL.out.1 HL.out.2 HB.out).mono ?_); rintro ev w5 ⟨v, rfl, hr, hI, hK⟩; obtain ⟨A7, c7, rfl⟩ := Kd.R_slice hr; have HRR := Aside0.mk hr; have HW4 := Aside0.mk (show w2.heap.size < w4.heap.size ∧ w.heap.size < w4.heap.size from ⟨blk_lt BN4.out, blk_lt BH4.out⟩); have HI5 := Aside0.mk hI; have HK5 := Aside0.mk (HK4.out.trans hK (.inl rfl)); have BH5 := Aside0.mk (hK.blk BH4.out (Ne.symm HNE.out.2.1) (by simp)); have BN5 := Aside0.mk (hK.blk BN4.out (Ne.symm HNN.out.2.1) (by simp)); obtain ⟨A5, cc5, r0, r1, r2, rc, rl⟩ := hI.facts; obtain ⟨i0, i1, i2, i3, i4, i5, i6, i7⟩ := row4 BH5.out; obtain ⟨j0, j1, j2, j3, j4, j5, j6, j7⟩ := row4 BN5.out; clear rc rl hI hK hr; (try simp only [errW_none, errW_some]))))
    have HI6 := Aside0.mk (HI5.out.far (n := w2.heap.size) BN5.out q57_ HNN.out.2.2 HNN.out.2.1 q96_ 3 (.slice A7 ks.length c7))
    have BH6 := Aside0.mk (blk_far (p := ⟨w2.heap.size, 3, none⟩) BH5.out (Nat.ne_of_lt HNN.out.1) (.slice A7 ks.length c7))
    have HK6 := Aside0.mk (keep_far (p := ⟨w2.heap.size, 3, none⟩) HK5.out (Nat.le_of_lt HNN.out.1) (.slice A7 ks.length c7))
    refine bodyPost_ret (results_ct rfl _ _ w.heap.size 27 #[.int .i64 0, .int .u64 0, .slice none 0 0, .slice none 0 0] (0, 0) _ rfl (put4 _ _ _ _ BH6.out) Tryd.underlying27 rfl (by kernel_rfl)) rfl ?_
    exact ⟨_, _, by first | rfl | (simp [errW_none, errW_some] <;> rfl), Kd.R_nil _ _ _ _ _, Kd.R_nil _ _ _ _ _, HI6.out.set4 BH6.out HNE.out.1 HNE.out.2.1 HNE.out.2.2.1 _ _ _ _, keep4 HK6.out (Nat.le_refl _) _ _ _ _⟩
   | none =>
    rw [if_neg (by simp)] at hm
    simp only [Option.some.injEq, Prod.mk.injEq] at hm
    obtain ⟨rfl, rfl, rfl, rfl, rfl, rfl⟩ := hm
    go_enter Tryd.func52, Tryd.ntmps52
    go_wp2_with (first | (go_at_call 54; ((with_reducible refine (atc_q HI.out).mono ?_); rintro ev w1 ⟨rfl, e1⟩; have e1 := e1.symm; subst e1)) | (go_at_call 86; ((with_reducible refine (word_q HI.out HL.out.1 1 1 rfl (by decide) rfl HC.out c HV.out).mono ?_); rintro ev w2 ⟨rfl, hI, hK⟩; have hb3 := below_alloc (Below.refl w2.heap.size w2) (Obj.cells #[.int .i64 5, .int .u64 0, .slice none 0 0, .slice none 0 0] 27); have HI3 := Aside0.mk (hI.below hb3); have HK3 := Aside0.mk ((HK.out.trans hK (.inl rfl)).trans (KeepBut.of_below hb3 h none) (.inl rfl)); have BH2 := hK.blk BH.out (Ne.symm HNE.out.2.1) (by simp); have BH3 := Aside0.mk (blk_below BH2 hb3); have BN3 := Aside0.mk (blk_new w2 (Obj.cells #[.int .i64 5, .int .u64 0, .slice none 0 0, .slice none 0 0] 27)); have HNN := Aside0.mk (show w.heap.size < w2.heap.size ∧ h ≠ w2.heap.size ∧ g ≠ w2.heap.size by have h1_ := blk_lt BH2; have h2_ := HNE.out; have h3_ := hK.1; omega); obtain ⟨A2, cc2, g0, g1, g2, gc, gl⟩ := hI.facts; obtain ⟨A3, cc3, p0, p1, p2, pc, pl⟩ := HI3.out.facts; obtain ⟨y0, y1_, y2, y3, y4, y5, y6, y7⟩ := row4 BH2; obtain ⟨s0, s1, s2, s3, s4, s5, s6, s7⟩ := row4 BH3.out; obtain ⟨n0, n1, n2, n3, n4, n5, n6, n7⟩ := row4 BN3.out; have m1 := Nat.ne_of_lt HNN.out.1; have m2 := Ne.symm m1; have m3 := HNN.out.2.1; have m4 := Ne.symm m3; have m5 := HNN.out.2.2; have m6 := Ne.symm m5; clear gc gl pc pl hI hK hb3 BH2)) | (go_at_call 88; ((with_reducible refine (num_calls k HI3.out HL.out.1 (c % 32) (p : Int) HLO.out y1 (none) q HY.out).mono ?_); rintro ev w4 ⟨rfl, hI, hK⟩; have HI4 := Aside0.mk hI; have HK4 := Aside0.mk (HK3.out.trans hK (.inl rfl)); have BH4 := Aside0.mk (hK.blk BH3.out (Ne.symm HNE.out.2.1) (by simp)); have BN4 := Aside0.mk (hK.blk BN3.out (Ne.symm HNN.out.2.1) (by simp)); obtain ⟨A4, cc4, q0, q1, q2, qc, ql⟩ := hI.facts; obtain ⟨t0, t1, t2, t3, t4, t5, t6, t7⟩ := row4 BH4.out; obtain ⟨o0, o1, o2, o3, o4, o5, o6, o7⟩ := row4 BN4.out; clear qc ql hI hK; (try simp only [errW_none, errW_some]))) | (go_at_call 90; ((with_reducible refine (KidsC.use HKIDS.out w0 _ g h l q y1 true a ks (none) q5 HI4.out HL.out.1 HL.out.2 HB.out).mono ?_); rintro ev w5 ⟨v, rfl, hr, hI, hK⟩; obtain ⟨A7, c7, rfl⟩ := Kd.R_slice hr; have HRR := Aside0.mk hr; have HW4 := Aside0.mk (show w2.heap.size < w4.heap.size ∧ w.heap.size < w4.heap.size from ⟨blk_lt BN4.out, blk_lt BH4.out⟩); have HI5 := Aside0.mk hI; have HK5 := Aside0.mk (HK4.out.trans hK (.inl rfl)); have BH5 := Aside0.mk (hK.blk BH4.out (Ne.symm HNE.out.2.1) (by simp)); have BN5 := Aside0.mk (hK.blk BN4.out (Ne.symm HNN.out.2.1) (by simp)); obtain ⟨A5, cc5, r0, r1, r2, rc, rl⟩ := hI.facts; obtain ⟨i0, i1, i2, i3, i4, i5, i6, i7⟩ := row4 BH5.out; obtain ⟨j0, j1, j2, j3, j4, j5, j6, j7⟩ := row4 BN5.out; clear rc rl hI hK hr; (try simp only [errW_none, errW_some]))))
    have HI6 := Aside0.mk (HI5.out.far (n := w2.heap.size) BN5.out q57_ HNN.out.2.2 HNN.out.2.1 q96_ 3 (.slice A7 ks.length c7))
    have BH6 := Aside0.mk (blk_far (p := ⟨w2.heap.size, 3, none⟩) BH5.out (Nat.ne_of_lt HNN.out.1) (.slice A7 ks.length c7))
    have HK6 := Aside0.mk (keep_far (p := ⟨w2.heap.size, 3, none⟩) HK5.out (Nat.le_of_lt HNN.out.1) (.slice A7 ks.length c7))
    refine bodyPost_ret (results_ct rfl _ _ w.heap.size 27 #[.int .i64 5, .int .u64 0, .slice none 0 0, .slice A7 ks.length c7] (0, 0) _ rfl (put4 _ _ _ _ BH6.out) Tryd.underlying27 rfl (by kernel_rfl)) rfl ?_
    exact ⟨_, _, by first | rfl | (simp [errW_none, errW_some] <;> rfl), Kd.R_nil _ _ _ _ _, Kd.R_mono (parR4 HRR.out HW4.out.1 HW4.out.2 (Nat.le_of_lt HW4.out.2)) (fun _ _ => by simp [Value.ownBlock]), HI6.out.set4 BH6.out HNE.out.1 HNE.out.2.1 HNE.out.2.2.1 _ _ _ _, keep4 HK6.out (Nat.le_refl _) _ _ _ _⟩
theorem one_all : ∀ k, OneC k := by
 intro k
 induction k using Nat.strongRecOn with
 | _ k ih =>
  cases k with
  | zero =>
   intro w0 w g h l p a r1 r2 r3 r4 r5 r6 hI hb hl hm
   exact absurd hm (by simp [oneM])
  | succ k => exact one_step k ih
def cbor_Parse.f (k : Nat) (l0 : List Int) : Option (Int × Int × List Int × List (S27) × Option E) := if (l0.length : Int) > 1048576 then some (0, 0, [], [], some (.fault 1 1048576)) else if (∀ x ∈ l0, 0 ≤ x ∧ x < 256) then (oneM k l0 0 0).bind fun y => if y.2.2.2.2.1.isSome = true then some (0, 0, [], [], y.2.2.2.2.1) else if y.2.2.2.2.2 < l0.length then some (0, 0, [], [], some (.fault 4 (y.2.2.2.2.2 : Int))) else some (y.1, y.2.1, y.2.2.1, y.2.2.2.1, none) else none
theorem numM_mono (l : List Int) (p : Nat) (low at_ : Int) (k : Nat) : LeO (numM k l p low at_) (numM (k + 1) l p low at_) := by
 unfold numM
 exact LeO.ite (LeO.refl _) (LeO.ite (LeO.ite (LeO.refl _) (LeO.bind (cbor_head.mono _ _ _) (fun _ => LeO.refl _))) (LeO.refl _))
theorem oneM_mono : ∀ k, (∀ l p a, LeO (oneM k l p a) (oneM (k + 1) l p a)) ∧ (∀ l q n m a i last acc, LeO (kidsM k l q n m a i last acc) (kidsM (k + 1) l q n m a i last acc))
 | 0 => ⟨fun _ _ _ r h => by simp [oneM] at h, fun _ _ _ _ _ _ _ _ r h => by simp [kidsM] at h⟩
 | k + 1 => by
  obtain ⟨i1, i2⟩ := oneM_mono k
  refine ⟨fun l p a => ?_, fun l q n m a i last acc => ?_⟩
  ·rw [oneM, oneM]
   exact LeO.ite (LeO.refl _) (LeO.ite (LeO.refl _) (LeO.ite (LeO.refl _) (LeO.bind (numM_mono _ _ _ _ _) (fun y => LeO.ite (LeO.refl _) (LeO.ite (LeO.refl _) (LeO.ite (LeO.ite (LeO.refl _) (LeO.bind (i2 _ _ _ _ _ _ _ _) (fun z => LeO.refl _))) (LeO.refl _)))))))
  ·rw [kidsM, kidsM]
   exact LeO.ite (LeO.ite (LeO.bind (i1 _ _ _) (fun y => LeO.ite (LeO.refl _) (LeO.ite (i2 _ _ _ _ _ _ _ _) (LeO.ite (LeO.ite (LeO.refl _) (LeO.bind (i1 _ _ _) (fun z => LeO.ite (LeO.refl _) (i2 _ _ _ _ _ _ _ _)))) (LeO.refl _))))) (LeO.refl _)) (LeO.refl _)
theorem cbor_Parse.mono : ∀ a0 k, LeO (cbor_Parse.f k a0) (cbor_Parse.f (k + 1) a0) := by
 intro a0 k
 unfold cbor_Parse.f
 exact LeO.ite (LeO.refl _) (LeO.ite (LeO.bind ((oneM_mono k).1 _ _ _) (fun y => LeO.refl _)) (LeO.refl _))
theorem RI.make {w w2 : World} {h : Nat} {l : List Int} {A : Option Addr} {c : Nat} (hRD : RD w w2 h l 0) (hr : Kd.C (Kd.int .u8) w A l.length l) (hc : l.length ≤ c) (hle : w.heap.size ≤ w2.heap.size) :
  RI w (w2.alloc (Obj.cells #[.slice A l.length c, .pointer (some ⟨h, 0, none⟩), .func (.func 52) #[.pointer (some ⟨w2.heap.size, 0, none⟩)] #[]] 95)) w2.heap.size h l 0 := by
 have hb := below_alloc (Below.refl w2.heap.size w2) (Obj.cells #[.slice A l.length c, .pointer (some ⟨h, 0, none⟩), .func (.func 52) #[.pointer (some ⟨w2.heap.size, 0, none⟩)] #[]] 95)
 have bn := blk_new w2 (Obj.cells #[.slice A l.length c, .pointer (some ⟨h, 0, none⟩), .func (.func 52) #[.pointer (some ⟨w2.heap.size, 0, none⟩)] #[]] 95)
 have hlt : h < w2.heap.size := by obtain ⟨_, _, k1, _⟩ := hRD; exact blk_lt k1
 exact ⟨hRD.below hb, A, c, bn, hr, hc, hle, Nat.ne_of_gt hlt⟩
theorem parR5 {α : Type} {d : Kd α} {e : Nat} {w5 w6 : World} {hh Bc b' : Nat} {ok : Nat → Prop} {v x y z u : Value} {xs : List α} (hR : d.R e w5 Bc ok v xs) (hb : Below w5.heap.size w5 w6) (m : Nat) (hh' : hh < Bc) (hb' : b' ≤ Bc) :
  d.R e (((((w6.drewN m).setCell ⟨hh, 0, none⟩ x).setCell ⟨hh, 1, none⟩ y).setCell ⟨hh, 2, none⟩ z).setCell ⟨hh, 3, none⟩ u) b' ok v xs := by
 have h1 := Kd.R_drewN (Kd.R_below (Kd.R_mono (ok' := fun k => ok k ∧ Bc ≤ k) (Kd.R_bound hR) (fun k hk => ⟨hk.1, hk.2.1⟩)) hb) m
 have hne : ∀ k, (ok k ∧ Bc ≤ k) → k ≠ hh := fun k hk => Nat.ne_of_gt (Nat.lt_of_lt_of_le hh' hk.2)
 have h3 := Kd.R_far (p := ⟨hh, 0, none⟩) h1 hne x
 have h4 := Kd.R_far (p := ⟨hh, 1, none⟩) h3 hne y
 have h5 := Kd.R_far (p := ⟨hh, 2, none⟩) h4 hne z
 have h6 := Kd.R_far (p := ⟨hh, 3, none⟩) h5 hne u
 exact Kd.R_lower (Kd.R_mono h6 (fun k hk => hk.1)) hb'
set_option maxHeartbeats 16000000 in
set_option maxRecDepth 100000 in
theorem cbor_Parse.calls (k : Nat) (A0 : Option Addr) (c0 : Nat) (l0 : List Int) (r1 : Int) (r2 : Int) (r3 : List Int) (r4 : List (S27)) (r5 : Option E) (w : World) (hr0 : Kd.C (Kd.int .u8) w A0 l0.length l0) (hc0 : l0.length ≤ c0) (h : cbor_Parse.f k l0 = some (r1, r2, r3, r4, r5)) :
  Calls Tryd.prog 14 #[.slice A0 l0.length c0] w fun e w' => ∃ v1_ v2_ : Value, e = .returned (.tuple #[.agg #[.int .i64 r1, .int .u64 r2, v1_, v2_], errW r5]) ∧ Kd.R (Kd.int .u8) 5 w' w.heap.size (fun _ => True) v1_ r3 ∧ Kd.R k27 27 w' w.heap.size (fun k_ => some k_ ≠ (v1_ : Value).ownBlock) v2_ r4 ∧ Below w.heap.size w w' := by
 unfold cbor_Parse.f at h
 have hu := Tryd.underlying27
 have hu2 := Tryd.underlying95
 have b1 := below_alloc (Below.refl w.heap.size w) (Obj.cells #[.int .i64 0, .int .u64 0, .slice none 0 0, .slice none 0 0] 27)
 have BH := Aside0.mk (blk_new w (Obj.cells #[.int .i64 0, .int .u64 0, .slice none 0 0, .slice none 0 0] 27))
 have HB1 := Aside0.mk b1
 have hle : w.heap.size ≤ w.heap.size := Nat.le_refl _
 obtain ⟨z0, z1, z2, z3, z4, z5, z6, z7⟩ := row4 BH.out
 by_cases c1 : (l0.length : Int) > 1048576
 ·rw [if_pos c1] at h
  have cb : decide ((1048576 : Int) < (l0.length : Int)) = true := decide_eq_true c1
  have cb2 : decide (1048576 < l0.length) = true := decide_eq_true (by omega)
  simp only [Option.some.injEq, Prod.mk.injEq] at h
  obtain ⟨rfl, rfl, rfl, rfl, rfl⟩ := h
  clear b1 hr0 hu2
  go_enter Tryd.func14, Tryd.ntmps14
  go_wp2_with (go_at_call 50; ((with_reducible refine (fault_New.calls 1 1048576 _ _ rfl).mono ?_); rintro ev w' ⟨rfl, hb⟩; have BH2 := Aside0.mk (blk_below BH.out hb); have HB2 := Aside0.mk hb; obtain ⟨y0, y1, y2, y3, y4, y5, y6, y7⟩ := row4 BH2.out; clear hb))
  refine bodyPost_ret (results_ct rfl _ _ w.heap.size 27 #[.int .i64 0, .int .u64 0, .slice none 0 0, .slice none 0 0] (0, 0) _ rfl (put4 _ _ _ _ BH2.out) Tryd.underlying27 rfl (by kernel_rfl)) rfl ?_
  exact ⟨_, _, by first | rfl | (simp [errW_none, errW_some] <;> rfl), Kd.R_nil _ _ _ _ _, Kd.R_nil _ _ _ _ _, (((((below_step HB1.out HB2.out).setCell hle _).setCell hle _).setCell hle _).setCell hle _)⟩
 rw [if_neg c1] at h
 have cb : decide ((1048576 : Int) < (l0.length : Int)) = false := decide_eq_false c1
 have cb2 : decide (1048576 < l0.length) = false := decide_eq_false (by omega)
 by_cases cy : ∀ x ∈ l0, 0 ≤ x ∧ x < 256
 case neg => rw [if_neg cy] at h; cases h
 rw [if_pos cy] at h
 obtain ⟨⟨t5, n5, bs, ks, err, q⟩, hy, h⟩ := Option.bind_eq_some_iff.mp h
 dsimp only at h
 have HY := Aside0.mk hy
 have HL := Aside0.mk (And.intro cy (show l0.length ≤ 1048576 by omega))
 have HR := Aside0.mk (And.intro hr0 hc0)
 have HRA := Aside0.mk (Kd.C_below hr0 b1)
 clear hy cy c1 b1 hr0
 cases err with
 | some x =>
  rw [if_pos (show (some x).isSome = true from rfl)] at h
  simp only [Option.some.injEq, Prod.mk.injEq] at h
  obtain ⟨rfl, rfl, rfl, rfl, rfl⟩ := h
  go_enter Tryd.func14, Tryd.ntmps14
  go_wp2_with (first | (go_at_call 51; ((with_reducible refine (wire_New.calls A0 c0 l0 w _ HB1.out HRA.out HR.out.2 (by have := HL.out.2; omega)).mono ?_); rintro ev w2 ⟨h, rfl, hRD, hb⟩; have HB2 := Aside0.mk (below_step HB1.out hb); have HRD := Aside0.mk hRD; have BH2 := Aside0.mk (blk_below BH.out hb); have bR := below_alloc (Below.refl w2.heap.size w2) (Obj.cells #[.slice A0 l0.length c0, .pointer (some ⟨h, 0, none⟩), .nilFunc] 95); have BR := Aside0.mk (blk_new w2 (Obj.cells #[.slice A0 l0.length c0, .pointer (some ⟨h, 0, none⟩), .nilFunc] 95)); have HNR := Aside0.mk (show w.heap.size < w2.heap.size ∧ h < w2.heap.size ∧ w.heap.size ≤ h from ⟨blk_lt BH2.out, by obtain ⟨_, _, k1, _⟩ := hRD; exact blk_lt k1, by obtain ⟨_, _, _, _, _, _, k5, _⟩ := hRD; exact k5⟩); have HI2 := Aside0.mk (RI.make hRD HR.out.1 HR.out.2 (Nat.le_of_lt HNR.out.1)); have bR2 := below_alloc (Below.refl w2.heap.size w2) (Obj.cells #[.slice A0 l0.length c0, .pointer (some ⟨h, 0, none⟩), .func (.func 52) #[.pointer (some ⟨w2.heap.size, 0, none⟩)] #[]] 95); have BH3 := Aside0.mk (blk_below BH2.out bR2); have HB3 := Aside0.mk (below_step HB2.out bR2); have s1 := (blk_cell BR.out 2).trans rfl; have s2 := blk_frozen BR.out 2; have s0 := (blk_cell BR.out 0).trans rfl; have s3 := (blk_cell BR.out 1).trans rfl; obtain ⟨A5, cc5, r0, r1, r2, rc, rl⟩ := HI2.out.facts; obtain ⟨y0, y1, y2, y3, y4, y5, y6, y7⟩ := row4 BH3.out; clear rc rl hRD hb bR bR2)) | (go_at_call 52; ((with_reducible refine ((one_all k).use w _ w2.heap.size h l0 0 0 t5 n5 bs ks (some x) q HI2.out HL.out.1 HL.out.2 HY.out).mono ?_); rintro ev w5 ⟨v1, v2, rfl, hR1, hR2, hI', hK'⟩; obtain ⟨A7, c7, rfl⟩ := Kd.R_slice hR1; obtain ⟨A8, c8, rfl⟩ := Kd.R_slice hR2; have HR1 := Aside0.mk hR1; have HR2 := Aside0.mk hR2; have HI5 := Aside0.mk hI'; have BH5 := hK'.blk BH3.out (show w.heap.size ≠ h from fun e_ => by have h1_ := blk_lt BH.out; obtain ⟨_, _, k1, _⟩ := HRD.out; rw [← e_] at k1; have h2_ := BH2.out; rw [h2_] at k1; simp at k1) (by simp); have hb6 := below_alloc (Below.refl w5.heap.size w5) (Obj.cells #[.int .i64 t5, .int .u64 n5, .slice A7 bs.length c7, .slice A8 ks.length c8] 27); have HB56 := Aside0.mk hb6; have HB5 := Aside0.mk (RI.all hI'); have HB6 := Aside0.mk (below_step HB5.out hb6); have BH6 := Aside0.mk (blk_below BH5 hb6); have HI6 := Aside0.mk (hI'.below hb6); have HRB := Aside0.mk (And.intro (blk_lt BH3.out) (Nat.le_of_lt (blk_lt BH3.out))); obtain ⟨b1_, b2_, b3_, b4_, b5_, b6_, b7_, b8_⟩ := row4 (blk_new w5 (Obj.cells #[.int .i64 t5, .int .u64 n5, .slice A7 bs.length c7, .slice A8 ks.length c8] 27)); obtain ⟨x0, x1, x2, x3, x4, x5, x6, x7⟩ := row4 BH6.out; obtain ⟨A9, cc9, g0, g1, g2, gc, gl⟩ := HI6.out.facts; have m1 := Nat.ne_of_lt (blk_lt BH5); have m2 := Ne.symm m1; clear gc gl hb6 hR1 hR2 hI' hK' BH5; (try simp only [errW_none, errW_some]))))
  refine bodyPost_ret (results_ct rfl _ _ w.heap.size 27 #[.int .i64 0, .int .u64 0, .slice none 0 0, .slice none 0 0] (0, 0) _ rfl (put4 _ _ _ _ BH6.out) Tryd.underlying27 rfl (by kernel_rfl)) rfl ?_
  exact ⟨_, _, by first | rfl | (simp [errW_none, errW_some] <;> rfl), Kd.R_nil _ _ _ _ _, Kd.R_nil _ _ _ _ _, ((((HB6.out.setCell hle _).setCell hle _).setCell hle _).setCell hle _)⟩
 | none =>
  rw [if_neg (by simp)] at h
  by_cases c2 : q < l0.length
  ·rw [if_pos c2] at h
   simp only [Option.some.injEq, Prod.mk.injEq] at h
   obtain ⟨rfl, rfl, rfl, rfl, rfl⟩ := h
   have HQ := Aside0.mk c2
   clear c2
   go_enter Tryd.func14, Tryd.ntmps14
   go_wp2_with (first | (go_at_call 51; ((with_reducible refine (wire_New.calls A0 c0 l0 w _ HB1.out HRA.out HR.out.2 (by have := HL.out.2; omega)).mono ?_); rintro ev w2 ⟨h, rfl, hRD, hb⟩; have HB2 := Aside0.mk (below_step HB1.out hb); have HRD := Aside0.mk hRD; have BH2 := Aside0.mk (blk_below BH.out hb); have bR := below_alloc (Below.refl w2.heap.size w2) (Obj.cells #[.slice A0 l0.length c0, .pointer (some ⟨h, 0, none⟩), .nilFunc] 95); have BR := Aside0.mk (blk_new w2 (Obj.cells #[.slice A0 l0.length c0, .pointer (some ⟨h, 0, none⟩), .nilFunc] 95)); have HNR := Aside0.mk (show w.heap.size < w2.heap.size ∧ h < w2.heap.size ∧ w.heap.size ≤ h from ⟨blk_lt BH2.out, by obtain ⟨_, _, k1, _⟩ := hRD; exact blk_lt k1, by obtain ⟨_, _, _, _, _, _, k5, _⟩ := hRD; exact k5⟩); have HI2 := Aside0.mk (RI.make hRD HR.out.1 HR.out.2 (Nat.le_of_lt HNR.out.1)); have bR2 := below_alloc (Below.refl w2.heap.size w2) (Obj.cells #[.slice A0 l0.length c0, .pointer (some ⟨h, 0, none⟩), .func (.func 52) #[.pointer (some ⟨w2.heap.size, 0, none⟩)] #[]] 95); have BH3 := Aside0.mk (blk_below BH2.out bR2); have HB3 := Aside0.mk (below_step HB2.out bR2); have s1 := (blk_cell BR.out 2).trans rfl; have s2 := blk_frozen BR.out 2; have s0 := (blk_cell BR.out 0).trans rfl; have s3 := (blk_cell BR.out 1).trans rfl; obtain ⟨A5, cc5, r0, r1, r2, rc, rl⟩ := HI2.out.facts; obtain ⟨y0, y1, y2, y3, y4, y5, y6, y7⟩ := row4 BH3.out; clear rc rl hRD hb bR bR2)) | (go_at_call 52; ((with_reducible refine ((one_all k).use w _ w2.heap.size h l0 0 0 t5 n5 bs ks (none) q HI2.out HL.out.1 HL.out.2 HY.out).mono ?_); rintro ev w5 ⟨v1, v2, rfl, hR1, hR2, hI', hK'⟩; obtain ⟨A7, c7, rfl⟩ := Kd.R_slice hR1; obtain ⟨A8, c8, rfl⟩ := Kd.R_slice hR2; have HR1 := Aside0.mk hR1; have HR2 := Aside0.mk hR2; have HI5 := Aside0.mk hI'; have BH5 := hK'.blk BH3.out (show w.heap.size ≠ h from fun e_ => by have h1_ := blk_lt BH.out; obtain ⟨_, _, k1, _⟩ := HRD.out; rw [← e_] at k1; have h2_ := BH2.out; rw [h2_] at k1; simp at k1) (by simp); have hb6 := below_alloc (Below.refl w5.heap.size w5) (Obj.cells #[.int .i64 t5, .int .u64 n5, .slice A7 bs.length c7, .slice A8 ks.length c8] 27); have HB56 := Aside0.mk hb6; have HB5 := Aside0.mk (RI.all hI'); have HB6 := Aside0.mk (below_step HB5.out hb6); have BH6 := Aside0.mk (blk_below BH5 hb6); have HI6 := Aside0.mk (hI'.below hb6); have HRB := Aside0.mk (And.intro (blk_lt BH3.out) (Nat.le_of_lt (blk_lt BH3.out))); obtain ⟨b1_, b2_, b3_, b4_, b5_, b6_, b7_, b8_⟩ := row4 (blk_new w5 (Obj.cells #[.int .i64 t5, .int .u64 n5, .slice A7 bs.length c7, .slice A8 ks.length c8] 27)); obtain ⟨x0, x1, x2, x3, x4, x5, x6, x7⟩ := row4 BH6.out; obtain ⟨A9, cc9, g0, g1, g2, gc, gl⟩ := HI6.out.facts; have m1 := Nat.ne_of_lt (blk_lt BH5); have m2 := Ne.symm m1; clear gc gl hb6 hR1 hR2 hI' hK' BH5; (try simp only [errW_none, errW_some]))) | (go_at_call 53; ((with_reducible refine (left_qq HI6.out (((l0.length - q : Nat) : Int)) rfl).mono ?_); rintro ev w7 ⟨rfl, m7, rfl⟩; have cl : decide (0 < ((l0.length - q : Nat) : Int)) = true := decide_eq_true (by have := HQ.out; omega); have cl2 : decide (0 < l0.length - q) = true := decide_eq_true (by have := HQ.out; omega); have cl3 : decide (q < l0.length) = true := decide_eq_true HQ.out; have cl4 : decide ((q : Int) < (l0.length : Int)) = true := decide_eq_true (by have := HQ.out; omega); have HI7 := Aside0.mk (HI6.out.drewN m7); have BH7 := Aside0.mk (blk_drewN BH6.out m7); have HB7 := Aside0.mk (pw_below_drewN HB6.out m7))) | (go_at_call 54; ((with_reducible refine (atc_q HI7.out).mono ?_); rintro ev w1 ⟨rfl, e1⟩; have e1 := e1.symm; subst e1)) | (go_at_call 50; ((with_reducible refine (fault_New.calls 4 (q : Int) _ _ rfl).mono ?_); rintro ev w8 ⟨rfl, hb⟩; have BH8 := Aside0.mk (blk_below BH7.out hb); have HB8 := Aside0.mk (below_step HB7.out hb); obtain ⟨d0, d1, d2, d3, d4, d5, d6, d7⟩ := row4 BH8.out; clear hb)))
   refine bodyPost_ret (results_ct rfl _ _ w.heap.size 27 #[.int .i64 0, .int .u64 0, .slice none 0 0, .slice none 0 0] (0, 0) _ rfl (put4 _ _ _ _ BH8.out) Tryd.underlying27 rfl (by kernel_rfl)) rfl ?_
   exact ⟨_, _, by first | rfl | (simp [errW_none, errW_some] <;> rfl), Kd.R_nil _ _ _ _ _, Kd.R_nil _ _ _ _ _, ((((HB8.out.setCell hle _).setCell hle _).setCell hle _).setCell hle _)⟩
  rw [if_neg c2] at h
  simp only [Option.some.injEq, Prod.mk.injEq] at h
  obtain ⟨rfl, rfl, rfl, rfl, rfl⟩ := h
  have HQ := Aside0.mk c2
  clear c2
  go_enter Tryd.func14, Tryd.ntmps14
  go_wp2_with (first | (go_at_call 51; ((with_reducible refine (wire_New.calls A0 c0 l0 w _ HB1.out HRA.out HR.out.2 (by have := HL.out.2; omega)).mono ?_); rintro ev w2 ⟨h, rfl, hRD, hb⟩; have HB2 := Aside0.mk (below_step HB1.out hb); have HRD := Aside0.mk hRD; have BH2 := Aside0.mk (blk_below BH.out hb); have bR := below_alloc (Below.refl w2.heap.size w2) (Obj.cells #[.slice A0 l0.length c0, .pointer (some ⟨h, 0, none⟩), .nilFunc] 95); have BR := Aside0.mk (blk_new w2 (Obj.cells #[.slice A0 l0.length c0, .pointer (some ⟨h, 0, none⟩), .nilFunc] 95)); have HNR := Aside0.mk (show w.heap.size < w2.heap.size ∧ h < w2.heap.size ∧ w.heap.size ≤ h from ⟨blk_lt BH2.out, by obtain ⟨_, _, k1, _⟩ := hRD; exact blk_lt k1, by obtain ⟨_, _, _, _, _, _, k5, _⟩ := hRD; exact k5⟩); have HI2 := Aside0.mk (RI.make hRD HR.out.1 HR.out.2 (Nat.le_of_lt HNR.out.1)); have bR2 := below_alloc (Below.refl w2.heap.size w2) (Obj.cells #[.slice A0 l0.length c0, .pointer (some ⟨h, 0, none⟩), .func (.func 52) #[.pointer (some ⟨w2.heap.size, 0, none⟩)] #[]] 95); have BH3 := Aside0.mk (blk_below BH2.out bR2); have HB3 := Aside0.mk (below_step HB2.out bR2); have s1 := (blk_cell BR.out 2).trans rfl; have s2 := blk_frozen BR.out 2; have s0 := (blk_cell BR.out 0).trans rfl; have s3 := (blk_cell BR.out 1).trans rfl; obtain ⟨A5, cc5, r0, r1, r2, rc, rl⟩ := HI2.out.facts; obtain ⟨y0, y1, y2, y3, y4, y5, y6, y7⟩ := row4 BH3.out; clear rc rl hRD hb bR bR2)) | (go_at_call 52; ((with_reducible refine ((one_all k).use w _ w2.heap.size h l0 0 0 t5 n5 bs ks (none) q HI2.out HL.out.1 HL.out.2 HY.out).mono ?_); rintro ev w5 ⟨v1, v2, rfl, hR1, hR2, hI', hK'⟩; obtain ⟨A7, c7, rfl⟩ := Kd.R_slice hR1; obtain ⟨A8, c8, rfl⟩ := Kd.R_slice hR2; have HR1 := Aside0.mk hR1; have HR2 := Aside0.mk hR2; have HI5 := Aside0.mk hI'; have BH5 := hK'.blk BH3.out (show w.heap.size ≠ h from fun e_ => by have h1_ := blk_lt BH.out; obtain ⟨_, _, k1, _⟩ := HRD.out; rw [← e_] at k1; have h2_ := BH2.out; rw [h2_] at k1; simp at k1) (by simp); have hb6 := below_alloc (Below.refl w5.heap.size w5) (Obj.cells #[.int .i64 t5, .int .u64 n5, .slice A7 bs.length c7, .slice A8 ks.length c8] 27); have HB56 := Aside0.mk hb6; have HB5 := Aside0.mk (RI.all hI'); have HB6 := Aside0.mk (below_step HB5.out hb6); have BH6 := Aside0.mk (blk_below BH5 hb6); have HI6 := Aside0.mk (hI'.below hb6); have HRB := Aside0.mk (And.intro (blk_lt BH3.out) (Nat.le_of_lt (blk_lt BH3.out))); obtain ⟨b1_, b2_, b3_, b4_, b5_, b6_, b7_, b8_⟩ := row4 (blk_new w5 (Obj.cells #[.int .i64 t5, .int .u64 n5, .slice A7 bs.length c7, .slice A8 ks.length c8] 27)); obtain ⟨x0, x1, x2, x3, x4, x5, x6, x7⟩ := row4 BH6.out; obtain ⟨A9, cc9, g0, g1, g2, gc, gl⟩ := HI6.out.facts; have m1 := Nat.ne_of_lt (blk_lt BH5); have m2 := Ne.symm m1; clear gc gl hb6 hR1 hR2 hI' hK' BH5; (try simp only [errW_none, errW_some]))) | (go_at_call 53; ((with_reducible refine (left_qq HI6.out 0 (by have := HQ.out; omega)).mono ?_); rintro ev w7 ⟨rfl, m7, rfl⟩; have HI7 := Aside0.mk (HI6.out.drewN m7); have BH7 := Aside0.mk (blk_drewN BH6.out m7); have HB7 := Aside0.mk (pw_below_drewN HB6.out m7))))
  refine bodyPost_ret (results_ct rfl _ _ w.heap.size 27 #[.int .i64 t5, .int .u64 n5, .slice A7 bs.length c7, .slice A8 ks.length c8] (0, 0) _ rfl (put4 _ _ _ _ BH7.out) Tryd.underlying27 rfl (by kernel_rfl)) rfl ?_
  exact ⟨_, _, by first | rfl | (simp [errW_none, errW_some] <;> rfl), parR5 HR1.out HB56.out m7 HRB.out.1 HRB.out.2, parR5 HR2.out HB56.out m7 HRB.out.1 HRB.out.2, ((((HB7.out.setCell hle _).setCell hle _).setCell hle _).setCell hle _)⟩
end Go.Proofs.YthdjmojpnimhjaaDoor.PCbg
