import Derived.Test.YtijmigapdcikpaaDoorZPLmsx0
import Derived.Test.YtijmigapdcikpaaDoorZPLmsx2
import Derived.Test.YtijmigapdcikpaaDoorZPLmsx3
namespace Go.Proofs.YtijmigapdcikpaaDoor.PLms
open Go.RowKit Go.Proofs.YtijmigapdcikpaaDoorW.PrintWords Go.Proofs.YtijmigapdcikpaaDoorW.PrintLast Go.Proofs.YtijmigapdcikpaaDoorW.PrintMore
set_option linter.unusedVariables false
set_option linter.unusedSimpArgs false
section
variable {w0 W W' : World} {gr g : Nat} {l : List Int} {p p' : Nat} {e e' : Option E} {F : World → Prop}
def lnext (l : List Int) (s : Nat × Option E) : Nat × Option E := if s.2.isNone = true then lkey l s else s
theorem info_part : (Tryd.prog.info? 70).map (fun i => (i.zero, i.size, i.bytes)) = some (some (.agg #[.int .i64 0, .int .i64 0, .int .u32 0, .int .i64 0, .int .i64 0]), 5, 40) := by kernel_rfl
theorem LE.fresh (h : LE w0 W gr g l p e F) : ∀ k, W.heap.size ≤ k → k ≠ g ∧ k ≠ gr := fun k hk => by have := h.lt; omega
def lloop (l : List Int) : Nat → List S70 → Nat × Option E → List S70 × Nat × Option E
  | 0, xs, s => (xs, s)
  | n + 1, xs, s => if s.2.isNone = true then lloop l n (xs ++ [(lsig l s).1]) (lnext l (lsig l s).2) else (xs, s)
def lp1 (l : List Int) : Nat × Option E := if 8 ≤ (lw l (0, none)).1 then ((lw l (0, none)).2.1, fl 9 0 (lw l (0, none)).2.2) else (lw l (0, none)).2
def lp2 (l : List Int) (r : List S70 × Nat × Option E) : List S70 × Nat × Option E := if r.2.2.isNone = true then (r.1 ++ [(lsig l r.2).1], (lsig l r.2).2) else r
def lp3 (l : List Int) (s : Nat × Option E) : Option E := if s.2.isNone = true ∧ 0 < l.length - s.1 then some (.fault 4 s.1) else s.2
def lp4 (xs : List S70) (e : Option E) : List S70 × Option E := if e.isSome = true then ([], e) else (xs, e)
def lparse (l : List Int) : List S70 × Option E :=
  lp4 (lp2 l (lloop l (lw l (0, none)).1.toNat [] (lp1 l))).1 (lp3 l (lp2 l (lloop l (lw l (0, none)).1.toNat [] (lp1 l))).2)
set_option maxHeartbeats 4000000 in
set_option maxRecDepth 100000 in
theorem lparse_walk (A0 : Option Addr) (c0 : Nat) (l : List Int) (w : World) (HO : Aside0 (Calls Tryd.prog 61 #[.slice A0 l.length c0] w fun ev w' => ∃ gr g, ev = .returned (.pointer (some ⟨gr, 0, none⟩)) ∧ LE w w' gr g l 0 none (fun _ => True))) (q : Int) (p1 : Nat) (e1 : Option E) (hw : lw l (0, none) = (q, p1, e1)) (hq0 : 0 ≤ q) (hq : q < 8) (xsR : List S70) (pR : Nat) (eR : Option E) (hR : lloop l q.toNat [] (p1, e1) = (xsR, pR, eR)) (rx : List S70) (re : Option E) (hfin : lp4 (lp2 l (xsR, pR, eR)).1 (lp3 l (lp2 l (xsR, pR, eR)).2) = (rx, re)) :
    Calls Tryd.prog 30 #[.slice A0 l.length c0] w fun ev w' => ∃ v0_ : Value, ev = .returned (.tuple #[v0_, errW re]) ∧ Kd.R k70 70 w' w.heap.size (fun _ => True) v0_ rx ∧ Below w.heap.size w w' := by
  have q1 := err_isNil
  have q2 := err_guard
  have q3 := err_notNil
  have E0 := Aside0.mk hw
  have HR := Aside0.mk hR
  have HF := Aside0.mk hfin
  clear hw hR hfin
  have b0 : decide (8 ≤ q) = false := decide_eq_false (by omega)
  go_enter Tryd.func30, Tryd.ntmps30
  go_wp2_with (first | (go_at_call 61; ((with_reducible refine (HO.out).mono ?_); rintro ev w' ⟨gr, g, rfl, h⟩; have c2 := h.c2; have c0 := h.c0)) | (go_at_call 62; have T := lms_word h; rw [E0.out] at T; dsimp only at T; ((with_reducible refine T.mono ?_); rintro ev w' ⟨rfl, h⟩; clear T; have c2 := h.c2; have c0 := h.c0)))
  have h := h.with (Kd.R_nil k70 70 w' w.heap.size _)
  go_loopg [6, 8] q.toNat (fun kq v6 v8 w' => ∃ (i : Nat) (xs : List S70) (p : Nat) (e : Option E) (B : Nat), v8 = .int .u32 (i : Int) ∧ Aside0 ((i : Int) ≤ q ∧ kq = q.toNat - i) ∧ Aside0 (lloop l (q.toNat - i) xs (p, e) = (xsR, pR, eR)) ∧ LE w w' gr g l p e (RowF w g gr B v6 xs) ∧ Aside0 (xs.length ≤ i))
  case atStart => exact ⟨0, [], p1, e1, _, rfl, ⟨by omega⟩, HR, h, ⟨by simp⟩⟩
  case round =>
    clear h c2 c0
    obtain ⟨i, xs, p, e, B, rfl, HI, HL, h, HX⟩ := hrel
    obtain ⟨hi, hk⟩ := HI.out
    clear HI
    have hN : (xs.length + 1) * 40 ≤ 140737488355328 := by have := HX.out; omega
    have HN := Aside0.mk hN
    clear hN
    have c2 := h.c2
    have c0 := h.c0
    cases he : e.isNone
    · have hx : lloop l (q.toNat - i) xs (p, e) = (xs, p, e) := by
        cases q.toNat - i with
        | zero => rfl
        | succ n => rw [lloop, if_neg (by simp [he])]
      have hr := HL.out
      rw [hx] at hr
      obtain ⟨k1, hr⟩ := Prod.mk.inj hr
      obtain ⟨k2, k3⟩ := Prod.mk.inj hr
      have hf := HF.out
      rw [← k1, ← k2, ← k3] at hf
      clear k1 k2 k3
      have hs : e.isSome = true := by
        cases e with
        | none => exact absurd he (by decide)
        | some _ => rfl
      have hv : lp4 (lp2 l (xs, p, e)).1 (lp3 l (lp2 l (xs, p, e)).2) = ([], e) := by
        rw [lp2, if_neg (by simp [he]), lp3, if_neg (by simp [he]), lp4, if_pos hs]
      rw [hv] at hf
      obtain ⟨f1, f2⟩ := Prod.mk.inj hf
      have F1 := Aside0.mk f1
      have F2 := Aside0.mk f2
      clear hf f1 f2
      clear hv hr hx
      go_wp2
      repeat (go_quiet (fail); try go_wp2)
      go_ret2
      rw [← F1.out, ← F2.out]; exact ⟨_, rfl, Kd.R_nil _ _ _ _ _, pw_below_drewN h.all _⟩
    · obtain rfl : e = none := by cases e <;> simp_all
      clear he
      rcases es : lsig l (p, none) with ⟨x, p5, e5⟩
      have ES := Aside0.mk es
      by_cases ci : (i : Int) < q
      · clear es
        have ci' : decide ((i : Int) < q) = true := decide_eq_true ci
        have hm : q.toNat - i = (q.toNat - (i + 1)) + 1 := by omega
        have hl := HL.out
        rw [hm, lloop, if_pos (by rfl), ES.out] at hl
        dsimp only at hl
        have hi1 : (i : Int) + 1 < 4294967296 := by omega
        cases e5 with
        | some y =>
          rw [show lnext l (p5, some y) = (p5, some y) from rfl] at hl
          have HL := Aside0.mk hl
          have hy : (some y : Option E).isNone = false := rfl
          clear hl hm
          go_wp2_with (first | (go_at_call 64; have T := lms_sig h; rw [ES.out] at T; dsimp only at T; ((with_reducible refine T.mono ?_); rintro ev w' ⟨rfl, h⟩; clear T; have c2 := h.c2; have c0 := h.c0)) | ((with_reducible refine gate_builtin (b := .append) (xs := #[.tmp 31, .tmp 34]) rfl ?_); at_builtin; refine Kd.R_append k70 (w0 := w) w.heap.size rfl (.tmp 31) (.tmp 34) 60 70 (.agg #[(.int .i64 0), (.int .i64 0), (.int .u32 0), (.int .i64 0), (.int .i64 0)]) 40 rfl Tryd.underlying60 info_part rfl (by decide) (by omega) u6 xs x [.int .i64 x.f0, .int .i64 x.f1, .int .u32 x.f2, .int .i64 x.f3, .int .i64 x.f4] (fun k => k ≠ g ∧ k ≠ gr) (fun _ => False) rfl (by first | (go_simp; done) | (go_simp; rfl)) ?aP (fun _ hk => hk.elim) ?aF ?aO ?aB ?aS ?aL ?_; (case aP => exact k70_mkM _ _ _ x); (case aB => exact h.all); (case aS => exact h.all.size); (case aF => exact h.fresh); (case aO => exact h.row); (case aL => have := HN.out; omega); intro v1 w1 ho hb hg _; have h := (LE.grown h h.row hg hb).with ho; clear ho hb hg; have c2 := h.c2; have c0 := h.c0))
          go_roundg (gk - 1)
          case measure => omega
          case rel => exact ⟨i + 1, xs ++ [x], p5, some y, _, by go_num, ⟨by omega⟩, HL, h, ⟨by have := HX.out; simp; omega⟩⟩
        | none =>
          rcases ek : lkey l (p5, none) with ⟨p6, e6⟩
          rw [show lnext l (p5, none) = (p6, e6) from by rw [lnext, if_pos (by rfl), ek]] at hl
          have EK := Aside0.mk ek
          have HL := Aside0.mk hl
          clear hl hm ek
          go_wp2_with (first | (go_at_call 64; have T := lms_sig h; rw [ES.out] at T; dsimp only at T; ((with_reducible refine T.mono ?_); rintro ev w' ⟨rfl, h⟩; clear T; have c2 := h.c2; have c0 := h.c0)) | ((with_reducible refine gate_builtin (b := .append) (xs := #[.tmp 31, .tmp 34]) rfl ?_); at_builtin; refine Kd.R_append k70 (w0 := w) w.heap.size rfl (.tmp 31) (.tmp 34) 60 70 (.agg #[(.int .i64 0), (.int .i64 0), (.int .u32 0), (.int .i64 0), (.int .i64 0)]) 40 rfl Tryd.underlying60 info_part rfl (by decide) (by omega) u6 xs x [.int .i64 x.f0, .int .i64 x.f1, .int .u32 x.f2, .int .i64 x.f3, .int .i64 x.f4] (fun k => k ≠ g ∧ k ≠ gr) (fun _ => False) rfl (by first | (go_simp; done) | (go_simp; rfl)) ?aP (fun _ hk => hk.elim) ?aF ?aO ?aB ?aS ?aL ?_; (case aP => exact k70_mkM _ _ _ x); (case aB => exact h.all); (case aS => exact h.all.size); (case aF => exact h.fresh); (case aO => exact h.row); (case aL => have := HN.out; omega); intro v1 w1 ho hb hg _; have h := (LE.grown h h.row hg hb).with ho; clear ho hb hg; have c2 := h.c2; have c0 := h.c0) | (go_at_call 65; have T := lms_key h; rw [EK.out] at T; dsimp only at T; ((with_reducible refine T.mono ?_); rintro ev w' ⟨rfl, h⟩; clear T; have c2 := h.c2; have c0 := h.c0)))
          go_roundg (gk - 1)
          case measure => omega
          case rel => exact ⟨i + 1, xs ++ [x], p6, e6, _, by go_num, ⟨by omega⟩, HL, h, ⟨by have := HX.out; simp; omega⟩⟩
      · have ci' : decide ((i : Int) < q) = false := decide_eq_false ci
        have hr := HL.out
        rw [show q.toNat - i = 0 by omega, lloop] at hr
        obtain ⟨k1, hr⟩ := Prod.mk.inj hr
        obtain ⟨k2, k3⟩ := Prod.mk.inj hr
        have hf := HF.out
        rw [← k1, ← k2, ← k3] at hf
        clear k1 k2 k3
        have h2 : lp2 l (xs, p, none) = (xs ++ [x], p5, e5) := by rw [lp2, if_pos (by rfl), es]
        rw [h2] at hf
        dsimp only at hf
        clear h2 hr es
        cases e5 with
        | some y =>
          have hy : (some y : Option E).isNone = false := rfl
          rw [show lp4 (xs ++ [x]) (lp3 l (p5, some y)) = ([], some y) from rfl] at hf
          obtain ⟨f1, f2⟩ := Prod.mk.inj hf
          have F1 := Aside0.mk f1
          have F2 := Aside0.mk f2
          clear hf f1 f2
          go_wp2_with (first | (go_at_call 64; have T := lms_sig h; rw [ES.out] at T; dsimp only at T; ((with_reducible refine T.mono ?_); rintro ev w' ⟨rfl, h⟩; clear T; have c2 := h.c2; have c0 := h.c0)) | ((with_reducible refine gate_builtin (b := .append) (xs := #[.tmp 48, .tmp 51]) rfl ?_); at_builtin; refine Kd.R_append k70 (w0 := w) w.heap.size rfl (.tmp 48) (.tmp 51) 60 70 (.agg #[(.int .i64 0), (.int .i64 0), (.int .u32 0), (.int .i64 0), (.int .i64 0)]) 40 rfl Tryd.underlying60 info_part rfl (by decide) (by omega) u6 xs x [.int .i64 x.f0, .int .i64 x.f1, .int .u32 x.f2, .int .i64 x.f3, .int .i64 x.f4] (fun k => k ≠ g ∧ k ≠ gr) (fun _ => False) rfl (by first | (go_simp; done) | (go_simp; rfl)) ?aP (fun _ hk => hk.elim) ?aF ?aO ?aB ?aS ?aL ?_; (case aP => exact k70_mkM _ _ _ x); (case aB => exact h.all); (case aS => exact h.all.size); (case aF => exact h.fresh); (case aO => exact h.row); (case aL => have := HN.out; omega); intro v1 w1 ho hb hg _; have h := (LE.grown h h.row hg hb).with ho; clear ho hb hg; have c2 := h.c2; have c0 := h.c0))
          repeat (go_quiet (fail); try go_wp2)
          go_ret2
          rw [← F1.out, ← F2.out]; exact ⟨_, rfl, Kd.R_nil _ _ _ _ _, pw_below_drewN h.all _⟩
        | none =>
          by_cases hL : 0 < l.length - p5
          · rw [show lp3 l (p5, none) = some (.fault 4 p5) from by rw [lp3, if_pos ⟨rfl, hL⟩]] at hf
            rw [show lp4 (xs ++ [x]) (some (E.fault 4 p5)) = ([], some (.fault 4 p5)) from rfl] at hf
            obtain ⟨f1, f2⟩ := Prod.mk.inj hf
            have F1 := Aside0.mk f1
            have F2 := Aside0.mk f2
            clear hf f1 f2
            have d1 : decide ((0 : Int) < ((l.length - p5 : Nat) : Int)) = true := decide_eq_true (by omega)
            have d2 : decide (0 < l.length - p5) = true := decide_eq_true hL
            clear hL
            go_wp2_with (first | (go_at_call 64; have T := lms_sig h; rw [ES.out] at T; dsimp only at T; ((with_reducible refine T.mono ?_); rintro ev w' ⟨rfl, h⟩; clear T; have c2 := h.c2; have c0 := h.c0)) | ((with_reducible refine gate_builtin (b := .append) (xs := #[.tmp 48, .tmp 51]) rfl ?_); at_builtin; refine Kd.R_append k70 (w0 := w) w.heap.size rfl (.tmp 48) (.tmp 51) 60 70 (.agg #[(.int .i64 0), (.int .i64 0), (.int .u32 0), (.int .i64 0), (.int .i64 0)]) 40 rfl Tryd.underlying60 info_part rfl (by decide) (by omega) u6 xs x [.int .i64 x.f0, .int .i64 x.f1, .int .u32 x.f2, .int .i64 x.f3, .int .i64 x.f4] (fun k => k ≠ g ∧ k ≠ gr) (fun _ => False) rfl (by first | (go_simp; done) | (go_simp; rfl)) ?aP (fun _ hk => hk.elim) ?aF ?aO ?aB ?aS ?aL ?_; (case aP => exact k70_mkM _ _ _ x); (case aB => exact h.all); (case aS => exact h.all.size); (case aF => exact h.fresh); (case aO => exact h.row); (case aL => have := HN.out; omega); intro v1 w1 ho hb hg _; have h := (LE.grown h h.row hg hb).with ho; clear ho hb hg; have c2 := h.c2; have c0 := h.c0) | (go_at_call 66; ((with_reducible refine (left_q h.rdr).mono ?_); rintro ev w' ⟨rfl, m, rfl⟩; have h := h.drewN m; have c2 := h.c2; have c0 := h.c0)) | (go_at_call 67; ((with_reducible refine (at_q h.rdr).mono ?_); rintro ev w' ⟨rfl, rfl⟩)) | (go_at_call 63; ((with_reducible refine (lms_fail h 4 p5).mono ?_); rintro ev w' ⟨rfl, h⟩; have c2 := h.c2; have c0 := h.c0)))
            repeat (go_quiet (fail); try go_wp2)
            go_ret2
            rw [← F1.out, ← F2.out]; exact ⟨_, rfl, Kd.R_nil _ _ _ _ _, pw_below_drewN h.all _⟩
          · rw [show lp3 l (p5, none) = none from by rw [lp3, if_neg (fun hh => hL hh.2)]] at hf
            rw [show lp4 (xs ++ [x]) none = (xs ++ [x], none) from rfl] at hf
            obtain ⟨f1, f2⟩ := Prod.mk.inj hf
            have F1 := Aside0.mk f1
            have F2 := Aside0.mk f2
            clear hf f1 f2
            have d1 : decide ((0 : Int) < ((l.length - p5 : Nat) : Int)) = false := decide_eq_false (by omega)
            have d2 : decide (0 < l.length - p5) = false := decide_eq_false hL
            clear hL
            go_wp2_with (first | (go_at_call 64; have T := lms_sig h; rw [ES.out] at T; dsimp only at T; ((with_reducible refine T.mono ?_); rintro ev w' ⟨rfl, h⟩; clear T; have c2 := h.c2; have c0 := h.c0)) | ((with_reducible refine gate_builtin (b := .append) (xs := #[.tmp 48, .tmp 51]) rfl ?_); at_builtin; refine Kd.R_append k70 (w0 := w) w.heap.size rfl (.tmp 48) (.tmp 51) 60 70 (.agg #[(.int .i64 0), (.int .i64 0), (.int .u32 0), (.int .i64 0), (.int .i64 0)]) 40 rfl Tryd.underlying60 info_part rfl (by decide) (by omega) u6 xs x [.int .i64 x.f0, .int .i64 x.f1, .int .u32 x.f2, .int .i64 x.f3, .int .i64 x.f4] (fun k => k ≠ g ∧ k ≠ gr) (fun _ => False) rfl (by first | (go_simp; done) | (go_simp; rfl)) ?aP (fun _ hk => hk.elim) ?aF ?aO ?aB ?aS ?aL ?_; (case aP => exact k70_mkM _ _ _ x); (case aB => exact h.all); (case aS => exact h.all.size); (case aF => exact h.fresh); (case aO => exact h.row); (case aL => have := HN.out; omega); intro v1 w1 ho hb hg _; have h := (LE.grown h h.row hg hb).with ho; clear ho hb hg; have c2 := h.c2; have c0 := h.c0) | (go_at_call 66; ((with_reducible refine (left_q h.rdr).mono ?_); rintro ev w' ⟨rfl, m, rfl⟩; have h := h.drewN m; have c2 := h.c2; have c0 := h.c0)))
            go_ret2
            rw [← F1.out, ← F2.out]; exact ⟨_, rfl, Kd.R_mono h.row (fun _ _ => trivial), h.all⟩
set_option maxHeartbeats 4000000 in
set_option maxRecDepth 100000 in
theorem lparse_many (A0 : Option Addr) (c0 : Nat) (l : List Int) (w : World) (HO : Aside0 (Calls Tryd.prog 61 #[.slice A0 l.length c0] w fun ev w' => ∃ gr g, ev = .returned (.pointer (some ⟨gr, 0, none⟩)) ∧ LE w w' gr g l 0 none (fun _ => True))) (q : Int) (p1 : Nat) (e1 : Option E) (hw : lw l (0, none) = (q, p1, e1)) (hq0 : 0 ≤ q) (hq1 : q < 4294967296) (hq : 8 ≤ q) (y : E) (hy : fl 9 0 e1 = some y) :
    Calls Tryd.prog 30 #[.slice A0 l.length c0] w fun ev w' => ev = .returned (.tuple #[.slice none 0 0, errW (some y)]) ∧ Below w.heap.size w w' := by
  have q1 := err_isNil
  have q2 := err_guard
  have q3 := err_notNil
  have E0 := Aside0.mk hw
  have HY := Aside0.mk hy
  have hyn : (some y : Option E).isNone = false := rfl
  clear hw hy
  have b0 : decide (8 ≤ q) = true := decide_eq_true hq
  go_enter Tryd.func30, Tryd.ntmps30
  go_wp2_with (first | (go_at_call 61; ((with_reducible refine (HO.out).mono ?_); rintro ev w' ⟨gr, g, rfl, h⟩; have c2 := h.c2; have c0 := h.c0)) | (go_at_call 62; have T := lms_word h; rw [E0.out] at T; dsimp only at T; ((with_reducible refine T.mono ?_); rintro ev w' ⟨rfl, h⟩; clear T; have c2 := h.c2; have c0 := h.c0)) | (go_at_call 63; have T := lms_fail h 9 0; rw [HY.out] at T; ((with_reducible refine T.mono ?_); rintro ev w' ⟨rfl, h⟩; clear T; have c2 := h.c2; have c0 := h.c0)))
  refine wp_loop_rounds 1 ?_
  rw [rounds_succ]
  go_wp2
  repeat (go_quiet (fail); try go_wp2)
  go_ret2
  exact ⟨rfl, pw_below_drewN h.all _⟩
def lms_Parse.f (l0 : List Int) : Option (List S70 × Option E) := if bytesB l0 = true ∧ l0.length < 1000000000000 then some (lparse l0) else none
theorem lloop_err (l : List Int) (n : Nat) (xs : List S70) (p : Nat) (y : E) : lloop l n xs (p, some y) = (xs, p, some y) := by cases n <;> rfl
theorem lms_Parse.calls (A0 : Option Addr) (c0 : Nat) (l0 : List Int) (r1 : List S70) (r2 : Option E) (w : World) (hr0 : Kd.C (Kd.int .u8) w A0 l0.length l0) (hc0 : l0.length ≤ c0) (h : lms_Parse.f l0 = some (r1, r2)) (hG : GOK w) :
    Calls Tryd.prog 30 #[.slice A0 l0.length c0] w fun ev w' => ∃ v0_ : Value, ev = .returned (.tuple #[v0_, errW r2]) ∧ Kd.R k70 70 w' w.heap.size (fun _ => True) v0_ r1 ∧ Below w.heap.size w w' := by
  unfold lms_Parse.f at h
  by_cases hc : bytesB l0 = true ∧ l0.length < 1000000000000
  · rw [if_pos hc] at h
    have h := Option.some.inj h
    have hb := bytesB_iff hc.1
    have HO := Aside0.mk (lms_open A0 c0 l0 w hr0 hc0 hc.2 hb hG)
    have bq := lw_bd hb (0, none)
    unfold lparse lp1 at h
    rcases e0 : lw l0 (0, none) with ⟨q, p1, e1⟩
    rw [e0] at bq h
    dsimp only at bq h
    by_cases c1 : 8 ≤ q
    · rw [if_pos c1] at h
      obtain ⟨y, hy⟩ : ∃ y, fl 9 0 e1 = some y := by cases e1 <;> exact ⟨_, rfl⟩
      rw [hy, lloop_err] at h
      rw [show lp2 l0 ([], p1, some y) = ([], p1, some y) from rfl] at h
      rw [show lp4 ([] : List S70) (lp3 l0 (p1, some y)) = ([], some y) from rfl] at h
      obtain ⟨rfl, rfl⟩ := Prod.mk.inj h
      refine (lparse_many A0 c0 l0 w HO q p1 e1 e0 bq.1 bq.2 c1 y hy).mono ?_
      rintro ev w' ⟨rfl, hd⟩
      exact ⟨_, rfl, Kd.R_nil _ _ _ _ _, hd⟩
    · rw [if_neg c1] at h
      rcases er : lloop l0 q.toNat [] (p1, e1) with ⟨xsR, pR, eR⟩
      rw [er] at h
      exact lparse_walk A0 c0 l0 w HO q p1 e1 e0 bq.1 (by omega) xsR pR eR er r1 r2 h
  · rw [if_neg hc] at h
    cases h
end
end Go.Proofs.YtijmigapdcikpaaDoor.PLms
