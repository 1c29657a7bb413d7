-- Written by a program: a copy of the kit's print, turned by this session (wip/xprint).
import Derived.Test.YtifejkgppdjeoaaPMeterx0
import Derived.Test.YtifejkgppdjeoaaPMeterx1
import Derived.Test.YtifejkgppdjeoaaPMeterx3
namespace Go.Proofs.Ytifejkgppdjeoaa.PMeter
open Go.RowKit Go.Proofs.YtifejkgppdjeoaaW.PrintWords Go.Proofs.YtifejkgppdjeoaaW.PrintLast Go.Proofs.YtifejkgppdjeoaaW.PrintMore
set_option linter.unusedVariables false
set_option linter.unusedSimpArgs false

/-! ### pyxlaw03_MeterRefuses: function 5 -/
-- PLAIN
theorem Two.count1 {w W : World} {g g' : Nat} {c b c' b' : Int} (h : Two w W g g' c b c' b') :
    Calls Try.prog 20 #[.pointer (some ⟨g, 0, none⟩)] W fun e w' => e = .returned (.int .i64 c) ∧ w' = W := count_q g c W (cellS87_0 h.1.1)
theorem Two.left1 {w W : World} {g g' : Nat} {c b c' b' : Int} (h : Two w W g g' c b c' b') :
    Calls Try.prog 21 #[.pointer (some ⟨g, 0, none⟩)] W fun e w' => e = .returned (.int .i64 (wrap64 (b - c))) ∧ Two w w' g g' c b c' b' := by
  refine (meter_Left.calls g c b _ c b w W h.1 h.2.2.2 rfl).mono ?_
  rintro e w' ⟨rfl, hi, hb, hk⟩
  exact ⟨rfl, hi, ⟨KeepBut.blk hk (g' := g') h.2.1.1 (Ne.symm h.2.2.1) (by simp), h.2.1.2⟩, h.2.2.1, hb⟩
theorem Two.left2 {w W : World} {g g' : Nat} {c b c' b' : Int} (h : Two w W g g' c b c' b') :
    Calls Try.prog 21 #[.pointer (some ⟨g', 0, none⟩)] W fun e w' => e = .returned (.int .i64 (wrap64 (b' - c'))) ∧ Two w w' g g' c b c' b' :=
  h.swap.left1.mono fun e w' ⟨he, h'⟩ => ⟨he, h'.swap⟩
def pyxlaw03_MeterRefuses.f (a0 : Int) (l1 : List Int) : Option Bool := some true
set_option maxHeartbeats 8000000 in
set_option maxRecDepth 100000 in
theorem pyxlaw03_MeterRefuses.calls (a0 : Int) (A1 : Option Addr) (c1 : Nat) (l1 : List Int) (r : Bool) (w : World) (hr1 : Kd.C (Kd.int .i64) w A1 l1.length l1) (hc1 : l1.length ≤ c1) (h : pyxlaw03_MeterRefuses.f a0 l1 = some r) (hr : r = true) :
    Calls Try.prog 5 #[.int .i64 a0, .slice A1 l1.length c1] w fun e w' => e = .returned (.bool r) ∧ Below w.heap.size w w' := by
  subst hr
  clear h
  have hfd : ∀ (B : Int) (W : World), (Instr.field 27 (.agg #[.int .i64 0, .int .i64 B]) 1).run Try.prog W = .ok (.int .i64 B) W := fun _ _ => by kernel_rfl
  generalize hB : (if a0 < 0 then 0 else if 4611686018427387904 < a0 then 4611686018427387904 else a0) = B
  have hB1 : 0 ≤ B ∧ B ≤ 4611686018427387904 := by subst hB; split <;> (try split) <;> omega
  have hN : meter_New.f a0 = some (0, B) := by rw [meter_New.f, hB]
  have hR : pyxref03_New.f a0 = some (0, B) := by
    unfold pyxref03_New.f
    subst hB
    split
    · rfl
    · split <;> rfl
  have hBA := Aside0.mk hB1
  have HR := Aside0.mk hR
  have HR1 := Aside0.mk hr1
  clear hB hB1 hR hr1
  go_enter Try.func5, Try.ntmps5
  go_wp2_with (go_at_call 15; refine (m_new a0 _ B hN).mono ?_; rintro e wn ⟨rfl, rfl⟩)
  have hT := Two.start B (Below.refl w.heap.size w)
  generalize (w.alloc (Obj.cells #[.int .i64 0, .int .i64 B] 87)).alloc (Obj.cells #[.int .i64 0, .int .i64 B] 87) = W at hT ⊢
  go_wp2_with (go_at_call 16; refine (pyxlaw03_awake.calls true _ rfl).mono ?_)
  rintro e W1 ⟨rfl, hb⟩
  have hT := hT.below hb
  clear hb
  by_cases hlen : (300 : Int) < (l1.length : Int)
  · have hlen' : decide ((300 : Int) < (l1.length : Int)) = true := decide_eq_true hlen
    go_wp2_with (go_at_call 16; refine (pyxlaw03_awake.calls true _ rfl).mono ?_; rintro e W2 ⟨rfl, hb⟩)
    go_ret
    exact ⟨rfl, (hT.below hb).2.2.2⟩
  · have hlen' : decide ((300 : Int) < (l1.length : Int)) = false := decide_eq_false hlen
    go_wp2
    go_loopg [7, 8] l1.length (fun kq v7 v8 w' => ∃ (c i : Int), v7 = .int .i64 c ∧ v8 = .int .i64 i ∧ Aside0 (0 ≤ i ∧ i ≤ (l1.length : Int) ∧ (kq : Int) = (l1.length : Int) - i) ∧ Aside0 (0 ≤ c ∧ c ≤ B) ∧ Aside0 (Two w w' w.heap.size (w.heap.size + 1) c B c B))
    case atStart => exact ⟨0, 0, rfl, rfl, ⟨by omega⟩, ⟨by have := hBA.out; omega⟩, ⟨hT⟩⟩
    case round =>
      clear hT
      obtain ⟨c, i, rfl, rfl, HI, HC, HT⟩ := hrel
      have hB1 := hBA.out
      obtain ⟨hi0, hi1, hk⟩ := HI.out
      obtain ⟨hc0, hc2⟩ := HC.out
      clear HI HC
      by_cases ci : i < (l1.length : Int)
      · have ci' : decide (i < (l1.length : Int)) = true := decide_eq_true ci
        obtain ⟨ad, ea, hx⟩ := Kd.at_int HR1.out i hi0 ci
        cases ea
        have hcell : ∀ {W' : World}, Below w.heap.size w W' → W'.cell? (ad.add i.toNat) = some (.int .i64 (rd l1 i)) := fun hb => (hb.cell (World.block_lt_of_cell? w _ hx)).trans hx
        have x0 := hcell HT.out.2.2.2
        have p : (0 ≤ i) = True := eq_true hi0
        have q : (i < (l1.length : Int)) = True := eq_true ci
        have es : wrap64 (i + 1) = i + 1 := by unfold wrap64; omega
        generalize hX : rd l1 i = x at x0 hcell
        have w1 : wrap64 (B - c) = B - c := by unfold wrap64; omega
        by_cases a1 : x < 0 ∨ x > B - c
        · have hf : meter_Add.f c B x = some (false, c, B) := by
            rw [meter_Add.f, w1]
            by_cases a2 : x < 0
            · rw [if_pos a2]
            · rw [if_neg a2, if_pos (by omega)]
          go_wp2_with (go_at_call 19; refine (HT.out.add1 x hf).mono ?_)
          rintro e W2 ⟨rfl, hT⟩
          go_wp2
          go_roundg (gk - 1)
          case measure => omega
          case rel => exact ⟨c, i + 1, rfl, rfl, ⟨by omega⟩, ⟨by omega⟩, ⟨hT⟩⟩
        · have w2 : wrap64 (c + x) = c + x := by unfold wrap64; omega
          have hf : meter_Add.f c B x = some (true, c + x, B) := by
            rw [meter_Add.f, w1, if_neg (by omega), if_neg (by omega), w2]
          go_wp2_with (go_at_call 19; refine (HT.out.add1 x hf).mono ?_)
          rintro e W2 ⟨rfl, hT⟩
          have x1 := hcell hT.2.2.2
          go_wp2_with (go_at_call 19; refine (hT.add2 x hf).mono ?_)
          rintro e W3 ⟨rfl, hT3⟩
          have x2 := hcell hT3.2.2.2
          go_wp2
          go_roundg (gk - 1)
          case measure => omega
          case rel => exact ⟨c + x, i + 1, rfl, rfl, ⟨by omega⟩, ⟨by omega⟩, ⟨hT3⟩⟩
      · have ci' : decide (i < (l1.length : Int)) = false := decide_eq_false ci
        have w1 : wrap64 (B - c) = B - c := by unfold wrap64; omega
        go_wp2_with (first | (go_at_call 20; refine (HT.out.count1).mono ?_; rintro e wn ⟨rfl, rfl⟩) | (go_at_call 20; refine (HT.out.swap.count1).mono ?_; rintro e wn ⟨rfl, rfl⟩))
        refine (HT.out.left1).mono ?_
        rw [w1]
        rintro e W2 ⟨rfl, hT⟩
        go_wp2_with (go_at_call 17; refine (pyxref03_New.calls a0 0 B _ HR.out).mono ?_)
        rintro e W3 ⟨rfl, hb⟩
        replace hT := hT.below hb
        go_wp2_with (go_at_call 21; refine (hT.left2).mono ?_)
        rintro e W4 ⟨rfl, hT⟩
        go_wp2_with (go_at_call 21; refine (hT.left1).mono ?_)
        rintro e W5 ⟨rfl, hT⟩
        go_wp2
        go_ret
        exact ⟨rfl, hT.2.2.2⟩

/-- THE ONE PURE STATEMENT of pyxlaw03_MeterRefuses: yours. -/
def pyxlaw03_MeterRefuses.Pure : Prop := ∀ (a0 : Int) (l1 : List Int), (Lit.int .i64 a0).wf = true → l1.length ≤ maxLen → l1.length * 8 ≤ 140737488351232 → (∀ x ∈ l1, (Lit.int .i64 x).wf = true) → pyxlaw03_MeterRefuses.f a0 l1 = some true
theorem pyxlaw03_MeterRefuses.walk (P : pyxlaw03_MeterRefuses.Pure) (a0 : Int) (a1 : Option Addr) (len1 cap1 : Nat) (z1 : List Int) (w : World) (w0 : (Lit.int .i64 a0).wf = true) (w1 : (a1 = none ∧ len1 = 0 ∧ cap1 = 0 ∧ z1 = []) ∨ ∃ x, a1 = some x ∧ len1 ≤ cap1 ∧ cap1 ≤ maxLen ∧ z1.length = cap1 ∧ (∀ i, i < z1.length → w.cell? (x.add i) = some (.int .i64 (z1.getD i 0))) ∧ ∀ n ∈ z1, (Lit.int .i64 n).wf = true) (y1 : len1 * 8 ≤ 140737488351232) :
    Calls Try.prog 5 #[.int .i64 a0, .slice a1 len1 cap1] w fun e w' => e = .returned (.bool true) ∧ Below w.heap.size w w' := by
  obtain ⟨l1, rfl, hr1, hm1, hw1, hc1⟩ := ReadsInt.ofRowC w1
  have h := P a0 l1 w0 hm1 y1 hw1
  refine (pyxlaw03_MeterRefuses.calls a0 _ _ l1 true w (Kd.C_of_reads (d := (0 : Int)) (h1 := fun _ => rfl) hr1) hc1 h rfl).mono ?_
  rintro e w' ⟨rfl, hd⟩
  exact ⟨rfl, hd⟩

end Go.Proofs.Ytifejkgppdjeoaa.PMeter
