import Derived.Test.YtifejkgppdjeoaaWWords
import Derived.Test.YtifejkgppdjeoaaWLast
import Derived.Test.YtifejkgppdjeoaaWMore
import Derived.Laws.MakeOwn
namespace Go.Proofs.YtifejkgppdjeoaaW.PrintWords
open Go.RowKit Go.Proofs.YtifejkgppdjeoaaW.PrintLast Go.Proofs.YtifejkgppdjeoaaW.PrintMore
set_option linter.unusedVariables false
namespace Kd
section
variable {P : Program} {ops : Array Oper} {rest : List Oper} {o : Oper} {a : Act} {Q : Exit → Act → World → Prop} {α : Type}
theorem run_make0 {W : World} {e t : Nat} (ht : P.underlying t = some (.slice e)) (z : Value) (sz bytes : Nat) (hinfo : (P.info? e).map (fun i => (i.zero, i.size, i.bytes)) = some (some z, sz, bytes))
    (hb0 : 0 < bytes) (n : Int) (h0 : 0 ≤ n) (hl : n.toNat * bytes ≤ 281474976710656) :
    (Instr.makeSlice t (.int .i64 0) (.int .i64 n)).run P W = .ok (.slice (some ⟨W.heap.size, 0, none⟩) 0 n.toNat) (W.alloc (.cells (madeCells z.cells (n.toNat * sz)) e)) := by
  obtain ⟨m, rfl⟩ := Int.eq_ofNat_of_zero_le h0
  simp only [Int.toNat_natCast] at hl
  obtain ⟨i0, hi, hzz⟩ := Option.map_eq_some_iff.1 hinfo
  simp only [Prod.mk.injEq] at hzz
  obtain ⟨hz0, hz1, hz2⟩ := hzz
  have hm : m ≤ 281474976710656 := Nat.le_trans (Nat.le_mul_of_pos_right _ hb0) hl
  have hr := run_make (P := P) W t e i0 z ht hi hz0 .i64 .i64 0 (m : Int) (by omega) (by omega)
    (by
      have h3 : ((i0.bytes * m : Nat) : Int) ≤ 281474976710656 := by rw [hz2, Nat.mul_comm]; omega
      rwa [Int.natCast_mul] at h3) (by omega)
  simp only [Int.toNat_natCast, Int.toNat_zero] at hr
  rw [hz1] at hr
  simpa using hr
theorem R_made0 {W : World} (d : Kd α) (base e : Nat) {ok : Nat → Prop} (z : Value) (m : Nat) (hm : m ≤ 281474976710656) (hfresh : ok W.heap.size) (hbase : base ≤ W.heap.size) :
    d.R e (W.alloc (.cells (madeCells z.cells (m * d.sz)) e)) base ok (.slice (some ⟨W.heap.size, 0, none⟩) 0 m) [] := by
  refine ⟨fun k hk => ?_, [], ?_, Reps.none _ _⟩
  · have : W.heap.size = k := by simpa [Value.ownBlock] using hk
    subst this
    exact hfresh
  · exact World.ownsRow_made W _ m hbase (by simp only [maxLen]; omega) (size_madeCells _ _)
/-- make([]T, 0, n): a row of the call's own that is empty, with a capacity. -/
theorem R_make0 (d : Kd α) {w0 W : World} (base e : Nat) (hgd : o.guard = none) {N : Tmp} (hd : o.dst = some N) (t : TypeId) (x y : Operand) (ho : o.op = .makeSlice t x y) (n : Int) (hx : a.eval x = .int .i64 0) (hy : a.eval y = .int .i64 n)
    (ht : P.underlying t = some (.slice e)) (z : Value) (bytes : Nat) (hinfo : (P.info? e).map (fun i => (i.zero, i.size, i.bytes)) = some (some z, d.sz, bytes)) (hb0 : 0 < bytes)
    {ok : Nat → Prop} (hfresh : ok W.heap.size) (h0 : 0 ≤ n) (hl : n.toNat * bytes ≤ 281474976710656) (HB : Below base w0 W) (hbase : base ≤ W.heap.size)
    (h : ∀ v1 w1, d.R e w1 base ok v1 [] → Below base w0 w1 → W.grownBy w1 none → (∃ b, v1.ownBlock = some b ∧ W.heap.size ≤ b) → wpList P ops Q rest (a.put o.dst v1) w1) : wpList P ops Q (o :: rest) a W := by
  have hm : n.toNat ≤ 281474976710656 := Nat.le_trans (Nat.le_mul_of_pos_right _ hb0) hl
  refine event_run hgd (v := .slice (some ⟨W.heap.size, 0, none⟩) 0 n.toNat) (by simp [execOp, ho, hx, hy, run_make0 ht z d.sz bytes hinfo hb0 n h0 hl]) (h _ _ (R_made0 d base e z n.toNat hm hfresh hbase) (HB.alloc hbase _) (World.grownBy_alloc W _ none) ⟨W.heap.size, by simp [Value.ownBlock], Nat.le_refl _⟩)
end
/-- What came in at w, told as shared: it stays while the blocks of w stay. -/
theorem V_came {k : IntKind} {w : World} {A : Option Addr} {c e base : Nat} {xs : List Int} (h : (Kd.int k).C w A xs.length xs) (hc : xs.length ≤ c) : Kd.V (Kd.int k) e w base (fun k_ => k_ < w.heap.size) (.slice A xs.length c) xs := by
  refine ⟨A, c, rfl, hc, fun W' hW => ?_⟩
  have hr := reads_of_C (d := (0 : Int)) h
  refine C_of_reads (d := (0 : Int)) ⟨hr.1, hr.2.1, fun hn => ?_⟩
  obtain ⟨ad, ha, hcell⟩ := hr.2.2 hn
  refine ⟨ad, ha, fun j hj => ?_⟩
  have h1 := hcell j hj
  have hlt : (ad.add j).block < w.heap.size := by
    rcases Nat.lt_or_ge (ad.add j).block w.heap.size with h2 | h2
    · exact h2
    · simp [World.cell?, Array.getElem?_eq_none h2] at h1
  rw [← h1]
  unfold World.cell?
  rw [hW _ hlt hlt]
/-- The same for any kind. -/
theorem V_cameG {α : Type} {d : Kd α} (hd : Kd.Heap d) {w : World} {A : Option Addr} {c e base : Nat} {xs : List α} (h : d.C w A xs.length xs) (hc : xs.length ≤ c) : Kd.V d e w base (fun k_ => k_ < w.heap.size) (.slice A xs.length c) xs := ⟨A, c, rfl, hc, fun _ hW => hd.C (fun k hk => hW k hk hk) h⟩
end Kd
end Go.Proofs.YtifejkgppdjeoaaW.PrintWords
