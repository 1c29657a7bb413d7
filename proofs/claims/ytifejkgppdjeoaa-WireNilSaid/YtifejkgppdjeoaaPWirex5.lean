-- Written by a program: a copy of the kit's print, turned by this session (wip/xprint).
import Derived.Test.YtifejkgppdjeoaaPWirex0
import Derived.Test.YtifejkgppdjeoaaPWirex1
import Derived.Test.YtifejkgppdjeoaaPWirex3
import Derived.Test.YtifejkgppdjeoaaPWirex4
namespace Go.Proofs.Ytifejkgppdjeoaa.PWire
open Go.RowKit Go.Proofs.YtifejkgppdjeoaaW.PrintWords Go.Proofs.YtifejkgppdjeoaaW.PrintLast Go.Proofs.YtifejkgppdjeoaaW.PrintMore
set_option linter.unusedVariables false
set_option linter.unusedSimpArgs false

/-! ### pyxlaw01_WireNil: function 8 -/
-- PLAIN
theorem w_true4 : wire_width.f 4 = some true := by kernel_rfl
theorem w_true1 : wire_width.f 1 = some true := by kernel_rfl
def pyxlaw01_WireNil.f (l0 : List Int) (a1 : Int) : Option Bool := some true
set_option maxHeartbeats 4000000 in
set_option maxRecDepth 100000 in
theorem pyxlaw01_WireNil.calls (A0 : Option Addr) (c0 : Nat) (l0 : List Int) (a1 : Int) (r : Bool) (w : World) (hr0 : Kd.C (Kd.int .u8) w A0 l0.length l0) (hc0 : l0.length ≤ c0) (h : pyxlaw01_WireNil.f l0 a1 = some r) (hr : r = true) :
    Calls Try.prog 8 #[.slice A0 l0.length c0, .int .i64 a1] w fun e w' => e = .returned (.bool r) ∧ Below w.heap.size w w' := by
  subst hr
  clear h
  have HE := (Env.start w).came hr0 hc0
  clear hr0
  by_cases cl : (300 : Int) < (l0.length : Int)
  · have cl' : decide ((300 : Int) < (l0.length : Int)) = true := decide_eq_true cl
    go_enter Try.func8, Try.ntmps8
    go_wp2_with (go_at_call 23; ((with_reducible refine (pyxlaw01_awake.calls true _ rfl).mono ?_); rintro e _ ⟨rfl, hb⟩; have HE := HE.below hb; clear hb))
    go_ret
    exact ⟨rfl, HE.all⟩
  · have cl' : decide ((300 : Int) < (l0.length : Int)) = false := decide_eq_false cl
    have hs := refsame_self l0 (by omega)
    have HS := Aside0.mk hs
    clear hs
    go_enter Try.func8, Try.ntmps8
    go_wp2_with (first | (go_at_call 23; ((with_reducible refine (pyxlaw01_awake.calls true _ rfl).mono ?_); rintro e _ ⟨rfl, hb⟩; have HE := HE.below hb; clear hb)) | (go_at_call 27; ((with_reducible refine (word_nil 4 w_true4 _).mono ?_); rintro e _ ⟨rfl, m, rfl⟩; have HE := HE.drewN m)) | (go_at_call 25; ((with_reducible refine (take_nil a1 _).mono ?_); rintro e _ ⟨rfl, rfl⟩)) | (go_at_call 24; ((with_reducible refine (HE.new_ (v := Value.slice A0 l0.length c0) (xs := l0) (by simp) (by omega)).mono ?_); rintro e _ ⟨g, rfl, HE⟩)) | (go_at_call 29; ((with_reducible refine (HE.rest_ (p := 0) l0 rfl).mono ?_); rintro e _ ⟨va, rfl, HE⟩)) | (go_at_call 27; ((with_reducible refine (HE.wordno_ (p := l0.length) 1 w_true1 (by omega)).mono ?_); rintro e _ ⟨rfl, HE⟩)) | (go_at_call 25; ((with_reducible refine (HE.take_ (p := l0.length) 0 0 rfl (by omega) [] rfl).mono ?_); rintro e _ ⟨vq, rfl, HE⟩; obtain ⟨Aq, cq, rfl, -, -⟩ := HE.read (xs := []) (.head _))) | (go_at_call 31; ((with_reducible refine (at_nil _).mono ?_); rintro e _ ⟨rfl, rfl⟩)) | (go_at_call 32; ((with_reducible refine (left_nil _).mono ?_); rintro e _ ⟨rfl, rfl⟩)) | (go_at_call 29; ((with_reducible refine (rest_nil _).mono ?_); rintro e _ ⟨rfl, rfl⟩)) | (go_at_call 30; ((with_reducible refine (HE.same_ (v := va) (v' := Value.slice A0 l0.length c0) (xs := l0) (ys := l0) (by simp) (by simp) (l0.length + 1) true HS.out).mono ?_); rintro e _ ⟨rfl, HE⟩)))
    go_ret
    exact ⟨rfl, HE.all⟩

/-- THE ONE PURE STATEMENT of pyxlaw01_WireNil: yours. -/
def pyxlaw01_WireNil.Pure : Prop := ∀ (l0 : List Int) (a1 : Int), l0.length ≤ maxLen → l0.length * 1 ≤ 140737488351232 → (∀ x ∈ l0, (Lit.int .u8 x).wf = true) → (Lit.int .i64 a1).wf = true → pyxlaw01_WireNil.f l0 a1 = some true
theorem pyxlaw01_WireNil.walk (P : pyxlaw01_WireNil.Pure) (a0 : Option Addr) (len0 cap0 : Nat) (z0 : List Int) (a1 : Int) (w : World) (w0 : (a0 = none ∧ len0 = 0 ∧ cap0 = 0 ∧ z0 = []) ∨ ∃ x, a0 = some x ∧ len0 ≤ cap0 ∧ cap0 ≤ maxLen ∧ z0.length = cap0 ∧ (∀ i, i < z0.length → w.cell? (x.add i) = some (.int .u8 (z0.getD i 0))) ∧ ∀ n ∈ z0, (Lit.int .u8 n).wf = true) (y0 : len0 * 1 ≤ 140737488351232) (w1 : (Lit.int .i64 a1).wf = true) :
    Calls Try.prog 8 #[.slice a0 len0 cap0, .int .i64 a1] w fun e w' => e = .returned (.bool true) ∧ Below w.heap.size w w' := by
  obtain ⟨l0, rfl, hr0, hm0, hw0, hc0⟩ := ReadsInt.ofRowC w0
  have h := P l0 a1 hm0 y0 hw0 w1
  refine (pyxlaw01_WireNil.calls _ _ l0 a1 true w (Kd.C_of_reads (d := (0 : Int)) (h1 := fun _ => rfl) hr0) hc0 h rfl).mono ?_
  rintro e w' ⟨rfl, hd⟩
  exact ⟨rfl, hd⟩

end Go.Proofs.Ytifejkgppdjeoaa.PWire
