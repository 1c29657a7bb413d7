-- Written by a program: a copy of the kit's print, turned by this session (wip/xprint).
import Derived.Test.YtifejkgppdjeoaaPMeterx0
import Derived.Test.YtifejkgppdjeoaaPMeterx1
namespace Go.Proofs.Ytifejkgppdjeoaa.PMeter
open Go.RowKit Go.Proofs.YtifejkgppdjeoaaW.PrintWords Go.Proofs.YtifejkgppdjeoaaW.PrintLast Go.Proofs.YtifejkgppdjeoaaW.PrintMore
set_option linter.unusedVariables false
set_option linter.unusedSimpArgs false

/-! ### pyxlaw03_MeterParts: function 4 -/
-- PLAIN
theorem m_new (a0 : Int) (w : World) (B : Int) (h : meter_New.f a0 = some (0, B)) :
    Calls Try.prog 15 #[.int .i64 a0] w fun e w' => e = .returned (.pointer (some ⟨w.heap.size, 0, none⟩)) ∧ w' = w.alloc (.cells #[.int .i64 0, .int .i64 B] 87) := by
  unfold meter_New.f at h
  simp only [Option.some.injEq, Prod.mk.injEq, true_and] at h
  subst h
  go_enter Try.func15, Try.ntmps15
  go_wp2
  all_goals
    go_ret
    exact ⟨rfl, rfl⟩
/-- Two meters, made one after the other. -/
def Two (w W : World) (g g' : Nat) (c b c' b' : Int) : Prop := IsS87 w W g c b ∧ IsS87 w W g' c' b' ∧ g ≠ g' ∧ Below w.heap.size w W
theorem Two.start {w : World} (B : Int) {W : World} (hb : Below w.heap.size w W) : Two w ((W.alloc (.cells #[.int .i64 0, .int .i64 B] 87)).alloc (.cells #[.int .i64 0, .int .i64 B] 87)) W.heap.size (W.heap.size + 1) 0 B 0 B := by
  have h1 := IsS87.new w W 0 B hb
  have h2 := IsS87.new w (W.alloc (.cells #[.int .i64 0, .int .i64 B] 87)) 0 B (below_alloc hb _)
  refine ⟨h1.alloc _, ?_, by omega, below_alloc (below_alloc hb _) _⟩
  simpa using h2
theorem Two.below {w W W' : World} {g g' : Nat} {c b c' b' : Int} (h : Two w W g g' c b c' b') (hb : Below W.heap.size W W') : Two w W' g g' c b c' b' := ⟨h.1.below hb, h.2.1.below hb, h.2.2.1, below_step h.2.2.2 hb⟩
theorem Two.add1 {w W : World} {g g' : Nat} {c b c' b' : Int} (h : Two w W g g' c b c' b') (n : Int) {r : Bool} {t0 t1 : Int} (hf : meter_Add.f c b n = some (r, t0, t1)) :
    Calls Try.prog 19 #[.pointer (some ⟨g, 0, none⟩), .int .i64 n] W fun e w' => e = .returned (.bool r) ∧ Two w w' g g' t0 t1 c' b' := by
  refine (meter_Add.calls g c b n r t0 t1 w W h.1 h.2.2.2 hf).mono ?_
  rintro e w' ⟨rfl, hi, hb, hk⟩
  exact ⟨rfl, hi, ⟨KeepBut.blk hk (g' := g') h.2.1.1 (Ne.symm h.2.2.1) (by simp), h.2.1.2⟩, h.2.2.1, hb⟩
theorem Two.swap {w W : World} {g g' : Nat} {c b c' b' : Int} (h : Two w W g g' c b c' b') : Two w W g' g c' b' c b := ⟨h.2.1, h.1, Ne.symm h.2.2.1, h.2.2.2⟩
theorem Two.add2 {w W : World} {g g' : Nat} {c b c' b' : Int} (h : Two w W g g' c b c' b') (n : Int) {r : Bool} {t0 t1 : Int} (hf : meter_Add.f c' b' n = some (r, t0, t1)) :
    Calls Try.prog 19 #[.pointer (some ⟨g', 0, none⟩), .int .i64 n] W fun e w' => e = .returned (.bool r) ∧ Two w w' g g' c b t0 t1 :=
  (h.swap.add1 n hf).mono fun e w' ⟨he, h'⟩ => ⟨he, h'.swap⟩
def pyxlaw03_MeterParts.f (a0 a1 a2 : Int) : Option Bool := if (0 ≤ a1 ∧ a1 < 4294967296) ∧ (0 ≤ a2 ∧ a2 < 4294967296) then some true else none
set_option maxHeartbeats 8000000 in
set_option maxRecDepth 100000 in
theorem parts_core (a0 a1 a2 B : Int) (x y z : Bool) (c1 c2 d : Int) (h1 : 0 ≤ a1 ∧ a1 < 4294967296) (h2 : 0 ≤ a2 ∧ a2 < 4294967296) (hN : meter_New.f a0 = some (0, B)) (hX : meter_Add.f 0 B a1 = some (x, c1, B)) (hY : meter_Add.f c1 B a2 = some (y, c2, B)) (hZ : meter_Add.f 0 B (a1 + a2) = some (z, d, B))
    (hxy : x = true → y = true → z = true) (hz : z = true → x = true ∧ y = true ∧ c2 = d ∧ ((0 ≤ a0 ∧ a1 + a2 ≤ a0) ∨ a0 < 0 ∧ a1 + a2 ≤ 0)) (w : World) :
    Calls Try.prog 4 #[.int .i64 a0, .int .u32 a1, .int .u32 a2] w fun e w' => e = .returned (.bool true) ∧ Below w.heap.size w w' := by
  have e1 : wrap64 a1 = a1 := by unfold wrap64; omega
  have e2 : wrap64 a2 = a2 := by unfold wrap64; omega
  have e3 : wrap64 (a1 + a2) = a1 + a2 := by unfold wrap64; omega
  go_enter Try.func4, Try.ntmps4
  go_wp2_with (go_at_call 15; refine (m_new a0 _ B hN).mono ?_; rintro e wn ⟨rfl, rfl⟩)
  have hT := Two.start B (Below.refl w.heap.size w)
  generalize (w.alloc (Obj.cells #[.int .i64 0, .int .i64 B] 87)).alloc (Obj.cells #[.int .i64 0, .int .i64 B] 87) = W at hT ⊢
  go_wp2_with (go_at_call 16; refine (pyxlaw03_awake.calls true _ rfl).mono ?_)
  rintro e W1 ⟨rfl, hb⟩
  have hT := hT.below hb
  clear hb
  go_wp2_with (go_at_call 19; refine (hT.add1 a1 hX).mono ?_)
  rintro e W2 ⟨rfl, hT⟩
  go_wp2_with (go_at_call 19; refine (hT.add1 a2 hY).mono ?_)
  rintro e W3 ⟨rfl, hT⟩
  go_wp2_with (go_at_call 19; refine (hT.add2 (a1 + a2) hZ).mono ?_)
  rintro e W4 ⟨rfl, hT⟩
  have hc1 := cellS87_0 hT.1.1
  have hc2 := cellS87_0 hT.2.1.1
  have hB := hT.2.2.2
  cases z with
  | true =>
    obtain ⟨rfl, rfl, rfl, hm⟩ := hz rfl
    rcases hm with ⟨q1, q2⟩ | ⟨q1, q2⟩
    · go_wp2_with (first | (go_at_call 20; refine (count_q w.heap.size c2 _ hc1).mono ?_; rintro e wn ⟨rfl, rfl⟩) | (go_at_call 20; refine (count_q (w.heap.size + 1) c2 _ hc2).mono ?_; rintro e wn ⟨rfl, rfl⟩))
      all_goals
        first
        | omega
        | (go_ret; exact ⟨rfl, hB⟩)
    · go_wp2_with (first | (go_at_call 20; refine (count_q w.heap.size c2 _ hc1).mono ?_; rintro e wn ⟨rfl, rfl⟩) | (go_at_call 20; refine (count_q (w.heap.size + 1) c2 _ hc2).mono ?_; rintro e wn ⟨rfl, rfl⟩))
      all_goals
        first
        | omega
        | (go_ret; exact ⟨rfl, hB⟩)
  | false =>
    cases x with
    | false =>
      go_wp2
      all_goals
        first
        | (go_ret; exact ⟨rfl, hB⟩)
    | true =>
      cases y with
      | true => exact absurd (hxy rfl rfl) (by decide)
      | false =>
        go_wp2
        all_goals
          first
          | (go_ret; exact ⟨rfl, hB⟩)
theorem pyxlaw03_MeterParts.calls (a0 a1 a2 : Int) (r : Bool) (w : World) (h : pyxlaw03_MeterParts.f a0 a1 a2 = some r) (hr : r = true) :
    Calls Try.prog 4 #[.int .i64 a0, .int .u32 a1, .int .u32 a2] w fun e w' => e = .returned (.bool r) ∧ Below w.heap.size w w' := by
  subst hr
  unfold pyxlaw03_MeterParts.f at h
  by_cases c : (0 ≤ a1 ∧ a1 < 4294967296) ∧ (0 ≤ a2 ∧ a2 < 4294967296)
  · obtain ⟨h1, h2⟩ := c
    clear h
    generalize hB : (if a0 < 0 then 0 else if 4611686018427387904 < a0 then 4611686018427387904 else a0) = B
    have hB1 : 0 ≤ B ∧ B ≤ 4611686018427387904 ∧ ((0 ≤ a0 ∧ B ≤ a0) ∨ a0 < 0 ∧ B = 0) := by subst hB; split <;> (try split) <;> omega
    have hN : meter_New.f a0 = some (0, B) := by rw [meter_New.f, hB]
    have add : ∀ c n : Int, 0 ≤ c → c ≤ B → 0 ≤ n → n < 8589934592 → meter_Add.f c B n = if n > B - c then some (false, c, B) else some (true, c + n, B) := fun c n q1 q2 q3 q4 => by
      have w1 : wrap64 (B - c) = B - c := by unfold wrap64; omega
      have w2 : wrap64 (c + n) = c + n := by unfold wrap64; omega
      rw [meter_Add.f, if_neg (by omega), w1, w2]
    by_cases x : a1 > B - 0
    · have hX := (add 0 a1 (by omega) (by omega) (by omega) (by omega)).trans (if_pos x)
      have hZ := (add 0 (a1 + a2) (by omega) (by omega) (by omega) (by omega)).trans (if_pos (by omega))
      by_cases y : a2 > B - 0
      · exact parts_core a0 a1 a2 B _ _ _ _ _ _ h1 h2 hN hX ((add 0 a2 (by omega) (by omega) (by omega) (by omega)).trans (if_pos y)) hZ (fun h => by cases h) (fun h => by cases h) w
      · exact parts_core a0 a1 a2 B _ _ _ _ _ _ h1 h2 hN hX ((add 0 a2 (by omega) (by omega) (by omega) (by omega)).trans (if_neg y)) hZ (fun h => by cases h) (fun h => by cases h) w
    · have hX := (add 0 a1 (by omega) (by omega) (by omega) (by omega)).trans (if_neg x)
      by_cases y : a2 > B - (0 + a1)
      · have hZ := (add 0 (a1 + a2) (by omega) (by omega) (by omega) (by omega)).trans (if_pos (by omega))
        exact parts_core a0 a1 a2 B _ _ _ _ _ _ h1 h2 hN hX ((add (0 + a1) a2 (by omega) (by omega) (by omega) (by omega)).trans (if_pos y)) hZ (fun _ h => by cases h) (fun h => by cases h) w
      · have hZ := (add 0 (a1 + a2) (by omega) (by omega) (by omega) (by omega)).trans (if_neg (by omega))
        exact parts_core a0 a1 a2 B _ _ _ _ _ _ h1 h2 hN hX ((add (0 + a1) a2 (by omega) (by omega) (by omega) (by omega)).trans (if_neg y)) hZ (fun _ _ => rfl) (fun _ => ⟨rfl, rfl, by omega, by omega⟩) w
  · rw [if_neg c] at h; cases h

/-- THE ONE PURE STATEMENT of pyxlaw03_MeterParts: yours. -/
def pyxlaw03_MeterParts.Pure : Prop := ∀ (a0 : Int) (a1 : Int) (a2 : Int), (Lit.int .i64 a0).wf = true → (Lit.int .u32 a1).wf = true → (Lit.int .u32 a2).wf = true → pyxlaw03_MeterParts.f a0 a1 a2 = some true
theorem pyxlaw03_MeterParts.walk (P : pyxlaw03_MeterParts.Pure) (a0 : Int) (a1 : Int) (a2 : Int) (w : World) (w0 : (Lit.int .i64 a0).wf = true) (w1 : (Lit.int .u32 a1).wf = true) (w2 : (Lit.int .u32 a2).wf = true) :
    Calls Try.prog 4 #[.int .i64 a0, .int .u32 a1, .int .u32 a2] w fun e w' => e = .returned (.bool true) ∧ Below w.heap.size w w' := by
  have h := P a0 a1 a2 w0 w1 w2
  refine (pyxlaw03_MeterParts.calls a0 a1 a2 true w h rfl).mono ?_
  rintro e w' ⟨rfl, hd⟩
  exact ⟨rfl, hd⟩

end Go.Proofs.Ytifejkgppdjeoaa.PMeter
