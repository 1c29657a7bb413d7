import Derived.Test.YtijmigapdcikpaaDoorZPDsmx0
import Derived.Test.YtijmigapdcikpaaDoorZPDsmx1
import Derived.Test.YtijmigapdcikpaaDoorZPDsmx2
namespace Go.Proofs.YtijmigapdcikpaaDoor.PDsm
open Go.RowKit Go.Proofs.YtijmigapdcikpaaDoorW.PrintWords Go.Proofs.YtijmigapdcikpaaDoorW.PrintLast Go.Proofs.YtijmigapdcikpaaDoorW.PrintMore
set_option linter.unusedVariables false
set_option linter.unusedSimpArgs false
mutual
def nodeM : Nat → List Int → Int → Int → Int → Option (Int × List Int × List (S26) × Option E × Int)
  | 0, _, _, _, _ => none
  | k + 1, l, p, e, a => if e ≤ p then some (0, [], [], some (.fault 3 e), p) else if 0 ≤ p ∧ p < (l.length : Int) ∧ e ≤ (l.length : Int) ∧ 0 ≤ a then (der_right.f (rd l p)).bind fun r => if r = false then some (0, [], [], some (.fault 5 p), p) else if 8 ≤ a then some (0, [], [], some (.fault 2 p), p) else (der_reader_length.f k l (p + 1) e).bind fun y => if y.2.1.isSome = true then some (0, [], [], y.2.1, y.2.2) else if 0 ≤ y.2.2 ∧ 0 ≤ y.1 ∧ y.2.2 ≤ (l.length : Int) ∧ y.1 ≤ 281474976710656 then (if e - y.2.2 < y.1 then some (0, [], [], some (.fault 3 e), y.2.2) else (der_composed.f (rd l p)).bind fun c => if c = false then some (rd l p, (l.drop y.2.2.toNat).take y.1.toNat, [], none, y.2.2 + y.1) else kidsM k l y.2.2 (y.2.2 + y.1) a (rd l p) []) else none else none
def kidsM : Nat → List Int → Int → Int → Int → Int → List (S26) → Option (Int × List Int × List (S26) × Option E × Int)
  | 0, _, _, _, _, _, _ => none
  | k + 1, l, q, s, a, t, acc => if q < s then (nodeM k l q s (a + 1)).bind fun y => if y.2.2.2.1.isSome = true then some (0, [], [], y.2.2.2.1, y.2.2.2.2) else if acc.length < 2513169434916 then kidsM k l y.2.2.2.2 s a t (acc ++ [(⟨y.1, y.2.1, y.2.2.1⟩ : S26)]) else none else some (t, [], acc, none, q)
end
def ND (w0 w W : World) (g : Nat) (l : List Int) (p : Int) (h n : Nat) (t : Int) (v1 v2 : Value) : Prop :=
  IsS94 w0 W g l p ∧ Below w0.heap.size w0 W ∧ KeepBut w W g none ∧ g < w.heap.size ∧ w.heap.size ≤ h ∧ w.heap.size ≤ n ∧ h ≠ n ∧
  W.heap[h]? = some (.cells #[.int .u8 0, .slice none 0 0, .slice none 0 0] 26 (0, 0)) ∧ W.heap[n]? = some (.cells #[.int .u8 t, v1, v2] 26 (0, 0))
theorem ND.step {w0 w W W' : World} {g : Nat} {l : List Int} {p q : Int} {h n : Nat} {t : Int} {v1 v2 : Value} (H : ND w0 w W g l p h n t v1 v2) (hI : IsS94 w0 W' g l q) (hB : Below w0.heap.size w0 W') (hK : KeepBut W W' g none) : ND w0 w W' g l q h n t v1 v2 := by
  obtain ⟨a1, a2, a3, a4, a5, a6, a7, a8, a9⟩ := H
  exact ⟨hI, hB, a3.trans hK (.inl rfl), a4, a5, a6, a7, hK.blk a8 (by omega) (by simp), hK.blk a9 (by omega) (by simp)⟩
theorem ND.below {w0 w W W' : World} {g : Nat} {l : List Int} {p : Int} {h n : Nat} {t : Int} {v1 v2 : Value} (H : ND w0 w W g l p h n t v1 v2) (hB : Below W.heap.size W W') : ND w0 w W' g l p h n t v1 v2 :=
  H.step (H.1.below hB) (below_step H.2.1 hB) (KeepBut.of_below hB g none)
theorem ND.drewN {w0 w W : World} {g : Nat} {l : List Int} {p : Int} {h n : Nat} {t : Int} {v1 v2 : Value} (H : ND w0 w W g l p h n t v1 v2) (m : Nat) : ND w0 w (W.drewN m) g l p h n t v1 v2 := H.below (pw_below_drewN (Below.refl _ _) m)
theorem ND.drew {w0 w W : World} {g : Nat} {l : List Int} {p : Int} {h n : Nat} {t : Int} {v1 v2 : Value} (H : ND w0 w W g l p h n t v1 v2) : ND w0 w W.drew g l p h n t v1 v2 := H.below (below_drew1 (Below.refl _ _))
theorem ND.aset {w0 w W : World} {g : Nat} {l : List Int} {p : Int} {h n : Nat} {t : Int} {v1 v2 : Value} (H : ND w0 w W g l p h n t v1 v2) (q : Int) : ND w0 w (W.setCell ⟨g, 1, none⟩ (.int .i64 q)) g l q h n t v1 v2 :=
  H.step (H.1.set_1 q) (H.2.1.setCell H.1.ge _) ((KeepBut.refl W g none).set_ 1 _)
theorem ND.n1 {w0 w W : World} {g : Nat} {l : List Int} {p : Int} {h n : Nat} {t : Int} {v1 v2 : Value} (H : ND w0 w W g l p h n t v1 v2) (u : Value) : ND w0 w (W.setCell ⟨n, 1, none⟩ u) g l p h n t u v2 := by
  obtain ⟨a1, a2, a3, a4, a5, a6, a7, a8, a9⟩ := H
  have hg := a1.ge
  exact ⟨a1.far (show g ≠ n by omega) u, a2.setCell (show w0.heap.size ≤ n by omega) _, keep_far a3 a6 u, a4, a5, a6, a7, blk_far a8 a7 u, blk_put (cs' := #[.int .u8 t, u, v2]) a9 1 u rfl⟩
theorem ND.n2 {w0 w W : World} {g : Nat} {l : List Int} {p : Int} {h n : Nat} {t : Int} {v1 v2 : Value} (H : ND w0 w W g l p h n t v1 v2) (u : Value) : ND w0 w (W.setCell ⟨n, 2, none⟩ u) g l p h n t v1 u := by
  obtain ⟨a1, a2, a3, a4, a5, a6, a7, a8, a9⟩ := H
  have hg := a1.ge
  exact ⟨a1.far (show g ≠ n by omega) u, a2.setCell (show w0.heap.size ≤ n by omega) _, keep_far a3 a6 u, a4, a5, a6, a7, blk_far a8 a7 u, blk_put (cs' := #[.int .u8 t, v1, u]) a9 2 u rfl⟩
theorem ND.facts {w0 w W : World} {g : Nat} {l : List Int} {p : Int} {h n : Nat} {t : Int} {v1 v2 : Value} (H : ND w0 w W g l p h n t v1 v2) :
    ∃ A c, W.cell? ⟨g, 0, none⟩ = some (.slice A l.length c) ∧ W.cell? ⟨g, 1, none⟩ = some (.int .i64 p) ∧ W.frozen? ⟨g, 1, none⟩ = false ∧
      W.cell? ⟨n, 0, none⟩ = some (.int .u8 t) ∧ W.cell? ⟨n, 1, none⟩ = some v1 ∧ W.cell? ⟨n, 2, none⟩ = some v2 ∧ W.frozen? ⟨n, 0, none⟩ = false ∧ W.frozen? ⟨n, 1, none⟩ = false ∧ W.frozen? ⟨n, 2, none⟩ = false ∧
      W.cell? ⟨h, 0, none⟩ = some (.int .u8 0) ∧ W.cell? ⟨h, 1, none⟩ = some (.slice none 0 0) ∧ W.cell? ⟨h, 2, none⟩ = some (.slice none 0 0) ∧ W.frozen? ⟨h, 0, none⟩ = false ∧ W.frozen? ⟨h, 1, none⟩ = false ∧ W.frozen? ⟨h, 2, none⟩ = false ∧
      Kd.C (Kd.int .u8) W A l.length l ∧ l.length ≤ c ∧ (∀ ad, A = some ad → 0 < l.length → ad.block ≠ g ∧ ad.block ≠ h ∧ ad.block ≠ n) ∧ g ≠ h ∧ h ≠ g ∧ g ≠ n ∧ n ≠ g ∧ h ≠ n ∧ n ≠ h := by
  obtain ⟨a1, a2, a3, a4, a5, a6, a7, a8, a9⟩ := H
  obtain ⟨A, c, hb, hg, hC, hc⟩ := a1
  refine ⟨A, c, (blk_cell hb 0).trans rfl, (blk_cell hb 1).trans rfl, blk_frozen hb 1, (blk_cell a9 0).trans rfl, (blk_cell a9 1).trans rfl, (blk_cell a9 2).trans rfl, blk_frozen a9 0, blk_frozen a9 1, blk_frozen a9 2, (blk_cell a8 0).trans rfl, (blk_cell a8 1).trans rfl, (blk_cell a8 2).trans rfl, blk_frozen a8 0, blk_frozen a8 1, blk_frozen a8 2, Kd.C_below hC a2, hc, ?_, by omega, by omega, by omega, by omega, a7, Ne.symm a7⟩
  intro ad he hl
  have h2 : ad.block < w0.heap.size := by
    subst he
    exact Kd.C_lt hC hl (by decide)
  refine ⟨?_, ?_, ?_⟩ <;> omega
theorem ND.out {w0 w W : World} {g : Nat} {l : List Int} {p : Int} {h n : Nat} {t : Int} {v1 v2 : Value} (H : ND w0 w W g l p h n t v1 v2) : W.heap[h]? = some (.cells #[.int .u8 0, .slice none 0 0, .slice none 0 0] 26 (0, 0)) := H.2.2.2.2.2.2.2.1
theorem ND.res {w0 w W : World} {g : Nat} {l : List Int} {p : Int} {h n : Nat} {t : Int} {v1 v2 : Value} (H : ND w0 w W g l p h n t v1 v2) : IsS94 w0 W g l p ∧ KeepBut w W g none ∧ Below w0.heap.size w0 W := ⟨H.1, H.2.2.1, H.2.1⟩
theorem row3 {w : World} {g : Nat} {t : TypeId} {a b c : Value} (h : w.heap[g]? = some (.cells #[a, b, c] t (0, 0))) : w.cell? ⟨g, 0, none⟩ = some a ∧ w.cell? ⟨g, 1, none⟩ = some b ∧ w.cell? ⟨g, 2, none⟩ = some c ∧ w.frozen? ⟨g, 0, none⟩ = false ∧ w.frozen? ⟨g, 1, none⟩ = false ∧ w.frozen? ⟨g, 2, none⟩ = false :=
  ⟨(blk_cell h 0).trans rfl, (blk_cell h 1).trans rfl, (blk_cell h 2).trans rfl, blk_frozen h 0, blk_frozen h 1, blk_frozen h 2⟩
theorem put3 {w : World} {g : Nat} {t : TypeId} {a b c : Value} (x y z : Value) (h : w.heap[g]? = some (.cells #[a, b, c] t (0, 0))) : (((w.setCell ⟨g, 0, none⟩ x).setCell ⟨g, 1, none⟩ y).setCell ⟨g, 2, none⟩ z).heap[g]? = some (.cells #[x, y, z] t (0, 0)) := by
  have h0 := blk_put (cs' := #[x, b, c]) h 0 x rfl
  have h1 := blk_put (cs' := #[x, y, c]) h0 1 y rfl
  exact blk_put (cs' := #[x, y, z]) h1 2 z rfl
theorem far3 {w0 w W : World} {g : Nat} {l : List Int} {p : Int} {h n : Nat} {t : Int} {v1 v2 : Value} (H : ND w0 w W g l p h n t v1 v2) (x y z : Value) :
    IsS94 w0 (((W.setCell ⟨h, 0, none⟩ x).setCell ⟨h, 1, none⟩ y).setCell ⟨h, 2, none⟩ z) g l p ∧ KeepBut w (((W.setCell ⟨h, 0, none⟩ x).setCell ⟨h, 1, none⟩ y).setCell ⟨h, 2, none⟩ z) g none ∧ Below w0.heap.size w0 (((W.setCell ⟨h, 0, none⟩ x).setCell ⟨h, 1, none⟩ y).setCell ⟨h, 2, none⟩ z) := by
  obtain ⟨a1, a2, a3, a4, a5, a6, a7, a8, a9⟩ := H
  have hg := a1.ge
  have hne : g ≠ h := by omega
  have hle : w0.heap.size ≤ h := by omega
  exact ⟨((a1.far hne x).far hne y).far hne z, keep_far (keep_far (keep_far a3 a5 x) a5 y) a5 z, ((a2.setCell hle _).setCell hle _).setCell hle _⟩
theorem cutN {W : World} {A : Option Addr} {l : List Int} {c : Nat} (q nn : Int) (h0 : 0 ≤ q) (h1 : 0 ≤ nn) (h2 : q + nn ≤ (l.length : Int)) (hC : Kd.C (Kd.int .u8) W A l.length l) (hc : l.length ≤ c) :
    ∃ A5 c5, (∀ W' : World, (Instr.slice 22 (.slice A l.length c) (some (.int .i64 q)) (some (.int .i64 (q + nn))) none).run Tryd.prog W' = .ok (.slice A5 ((l.drop q.toNat).take nn.toNat).length c5) W') ∧ Kd.C (Kd.int .u8) W A5 ((l.drop q.toNat).take nn.toNat).length ((l.drop q.toNat).take nn.toNat) ∧ ((l.drop q.toNat).take nn.toNat).length ≤ c5 := by
  obtain ⟨i0, hi0, _, hsz, _⟩ := info_parts info5
  have hy : ((l.drop q.toNat).take nn.toNat).length = (q + nn).toNat - q.toNat := by simp; omega
  have e : (l.drop q.toNat).take nn.toNat = (l.take (q + nn).toNat).drop q.toNat := by
    rw [List.drop_take, show (q + nn).toNat - q.toNat = nn.toNat by omega]
  refine ⟨if c = q.toNat then A else A.map (·.add (q.toNat * 1)), c - q.toNat, fun W' => ?_, ?_, ?_⟩
  · rw [hy]
    exact cut_mid (P := Tryd.prog) 22 5 .i64 .i64 Tryd.underlying22 hi0 1 hsz A l.length c q (q + nn) h0 (by omega) h2 hc W'
  · have h3 := Kd.C_mid (lo := q.toNat) (hi := (q + nn).toNat) (c := c) hC (by omega) (by omega) hc
    rw [← e] at h3
    exact h3
  · rw [hy]; omega
theorem ND.row {w0 w W : World} {g : Nat} {l : List Int} {p : Int} {h n : Nat} {t : Int} {v1 v2 : Value} (H : ND w0 w W g l p h n t v1 v2) {b : Nat} {ok : Nat → Prop} {v : Value} {xs : List Int} (hr : Kd.R (Kd.int .u8) 5 W b ok v xs) : Kd.R (Kd.int .u8) 5 W b (fun k => k ≠ g ∧ k ≠ h ∧ k ≠ n) v xs := by
  obtain ⟨a1, a2, a3, a4, a5, a6, a7, a8, a9⟩ := H
  obtain ⟨A, c, hb, hg, hC, hc⟩ := a1
  exact Kd.R_mono (Kd.R_types (Kd.R_types (Kd.R_types hr hb (by decide)) a8 (by decide)) a9 (by decide)) (fun _ h => ⟨h.1.1.2, h.1.2, h.2⟩)
theorem row_sets {α : Type} {d : Kd α} {e : Nat} {W : World} {g h n b b' : Nat} {v : Value} {xs : List α} {u1 u2 u3 u4 u5 : Value} (hr : d.R e W b (fun k => k ≠ g ∧ k ≠ h ∧ k ≠ n) v xs) (hb : b' ≤ b) :
    d.R e (((((W.setCell ⟨n, 1, none⟩ u1).setCell ⟨g, 1, none⟩ u2).setCell ⟨h, 0, none⟩ u3).setCell ⟨h, 1, none⟩ u4).setCell ⟨h, 2, none⟩ u5) b' (fun _ => True) v xs := by
  have h1 := Kd.R_far (p := ⟨n, 1, none⟩) hr (fun _ hk => hk.2.2) u1
  have h2 := Kd.R_far (p := ⟨g, 1, none⟩) h1 (fun _ hk => hk.1) u2
  have h3 := Kd.R_far (p := ⟨h, 0, none⟩) h2 (fun _ hk => hk.2.1) u3
  have h4 := Kd.R_far (p := ⟨h, 1, none⟩) h3 (fun _ hk => hk.2.1) u4
  have h5 := Kd.R_far (p := ⟨h, 2, none⟩) h4 (fun _ hk => hk.2.1) u5
  exact Kd.R_lower (Kd.R_mono h5 (fun _ _ => trivial)) hb
theorem ND.low {w0 w W W' : World} {g : Nat} {l : List Int} {p : Int} {h n : Nat} {t : Int} {v1 v2 : Value} (H : ND w0 w W g l p h n t v1 v2) {B0 : Nat} (hb : Below B0 W W') (h1 : h < B0) (h2 : n < B0) (h3 : w.heap.size ≤ B0) (h4 : w0.heap.size ≤ B0) : ND w0 w W' g l p h n t v1 v2 := by
  obtain ⟨a1, a2, a3, a4, a5, a6, a7, a8, a9⟩ := H
  obtain ⟨A, c, hbk, hg, hC, hc⟩ := a1
  exact ⟨⟨A, c, (hb.block g (by omega)).trans hbk, hg, hC, hc⟩, a2.trans (hb.mono h4), ⟨Nat.le_trans a3.1 hb.size, fun i hi hg' hr => (hb.block i (by omega)).trans (a3.2 i hi hg' hr)⟩, a4, a5, a6, a7, (hb.block h h1).trans a8, (hb.block n h2).trans a9⟩
theorem ND.lts {w0 w W : World} {g : Nat} {l : List Int} {p : Int} {h n : Nat} {t : Int} {v1 v2 : Value} (H : ND w0 w W g l p h n t v1 v2) : g < W.heap.size ∧ h < W.heap.size ∧ n < W.heap.size :=
  ⟨H.1.lt, blk_lt H.2.2.2.2.2.2.2.1, blk_lt H.2.2.2.2.2.2.2.2⟩
theorem kidsR {α : Type} {d : Kd α} {e : Nat} {W : World} {h B0 b' : Nat} {u x y z : Value} {acc : List α} (hO : d.R e W B0 (fun k => B0 ≤ k) u acc) (hh : h < B0) (hb : b' ≤ B0) :
    d.R e (((W.setCell ⟨h, 0, none⟩ x).setCell ⟨h, 1, none⟩ y).setCell ⟨h, 2, none⟩ z) b' (fun k_ => some k_ ≠ (Value.slice none 0 0).ownBlock) u acc := by
  have h2 := Kd.R_far (p := ⟨h, 0, none⟩) hO (fun k hk => (by simp only; omega)) x
  have h3 := Kd.R_far (p := ⟨h, 1, none⟩) h2 (fun k hk => (by simp only; omega)) y
  have h4 := Kd.R_far (p := ⟨h, 2, none⟩) h3 (fun k hk => (by simp only; omega)) z
  exact Kd.R_lower (Kd.R_mono h4 (fun k _ => by simp [Value.ownBlock])) hb
theorem elemR0 {α : Type} {d : Kd α} {e : Nat} {w5 w6 : World} {Bc B0 : Nat} {v u : Value} {xs : List α} (hR : d.R e w5 Bc (fun _ => True) v xs) (hb : Below w5.heap.size w5 w6) (h0 : B0 ≤ Bc) (hu : ∀ k, u.ownBlock = some k → k < Bc) :
    d.R e w6 B0 (fun k => B0 ≤ k ∧ some k ≠ u.ownBlock) v xs := by
  have h1 := Kd.R_below (Kd.R_mono (ok' := fun k => Bc ≤ k) (Kd.R_bound hR) (fun k hk => hk.2.1)) hb
  exact Kd.R_lower (Kd.R_mono h1 (fun k hk => ⟨Nat.le_trans h0 hk, fun he => Nat.lt_irrefl k (Nat.lt_of_lt_of_le (hu k he.symm) hk)⟩)) h0
theorem accR0 {α : Type} {d : Kd α} {e : Nat} {wr w5 w6 : World} {g B0 : Nat} {u : Value} {acc : List α} (hO : d.R e wr B0 (fun k => B0 ≤ k) u acc) (hK : KeepBut wr w5 g none) (hg : g < B0) (hb : Below w5.heap.size w5 w6) : d.R e w6 B0 (fun k => B0 ≤ k) u acc :=
  Kd.R_below (Kd.R_keep hO hK (fun k (hk : B0 ≤ k) => Nat.ne_of_gt (Nat.lt_of_lt_of_le hg hk))) hb
theorem size_set (w : World) (p : Addr) (u : Value) : (w.setCell p u).heap.size = w.heap.size := by simp [World.setCell]
def NodeC (k : Nat) : Prop := ∀ (w0 w : World) (g : Nat) (l : List Int) (p e a : Int) (r1 : Int) (r2 : List Int) (r3 : List (S26)) (r4 : Option E) (r5 : Int), IsS94 w0 w g l p → Below w0.heap.size w0 w → l.length ≤ 1048576 → nodeM k l p e a = some (r1, r2, r3, r4, r5) →
  Calls Tryd.prog 46 #[.pointer (some ⟨g, 0, none⟩), .int .i64 e, .int .i64 a] w fun ev w' => ∃ v1 v2 : Value, ev = .returned (.tuple #[.agg #[.int .u8 r1, v1, v2], errW r4]) ∧ Kd.R (Kd.int .u8) 5 w' w.heap.size (fun _ => True) v1 r2 ∧ Kd.R k26 26 w' w.heap.size (fun k_ => some k_ ≠ v1.ownBlock) v2 r3 ∧ IsS94 w0 w' g l r5 ∧ KeepBut w w' g none ∧ Below w0.heap.size w0 w'
theorem NodeC.use {k : Nat} (H : NodeC k) (w0 w : World) (g : Nat) (l : List Int) (p e a : Int) (r1 : Int) (r2 : List Int) (r3 : List (S26)) (r4 : Option E) (r5 : Int) (hI : IsS94 w0 w g l p) (hB : Below w0.heap.size w0 w) (hl : l.length ≤ 1048576) (h : nodeM k l p e a = some (r1, r2, r3, r4, r5)) :
  Calls Tryd.prog 46 #[.pointer (some ⟨g, 0, none⟩), .int .i64 e, .int .i64 a] w fun ev w' => ∃ v1 v2 : Value, ev = .returned (.tuple #[.agg #[.int .u8 r1, v1, v2], errW r4]) ∧ Kd.R (Kd.int .u8) 5 w' w.heap.size (fun _ => True) v1 r2 ∧ Kd.R k26 26 w' w.heap.size (fun k_ => some k_ ≠ v1.ownBlock) v2 r3 ∧ IsS94 w0 w' g l r5 ∧ KeepBut w w' g none ∧ Below w0.heap.size w0 w' :=
  H w0 w g l p e a r1 r2 r3 r4 r5 hI hB hl h
set_option maxHeartbeats 8000000 in
set_option maxRecDepth 100000 in
theorem node_end (w0 w : World) (g : Nat) (l : List Int) (p e a : Int) (hI : IsS94 w0 w g l p) (hB : Below w0.heap.size w0 w) (c1 : e ≤ p) :
  Calls Tryd.prog 46 #[.pointer (some ⟨g, 0, none⟩), .int .i64 e, .int .i64 a] w fun ev w' => ∃ v1 v2 : Value, ev = .returned (.tuple #[.agg #[.int .u8 0, v1, v2], errW (some (.fault 3 e))]) ∧ Kd.R (Kd.int .u8) 5 w' w.heap.size (fun _ => True) v1 [] ∧ Kd.R k26 26 w' w.heap.size (fun k_ => some k_ ≠ v1.ownBlock) v2 [] ∧ IsS94 w0 w' g l p ∧ KeepBut w w' g none ∧ Below w0.heap.size w0 w' := by
  have HI := Aside0.mk hI
  have HB := Aside0.mk hB
  have cb : decide (e ≤ p) = true := decide_eq_true c1
  have hu := Tryd.underlying26
  have hgl : g < w.heap.size := hI.lt
  obtain ⟨A, c, hb, hg, hC, hc⟩ := hI
  have BH := Aside0.mk (blk_new w (Obj.cells #[.int .u8 0, .slice none 0 0, .slice none 0 0] 26))
  have hbg := blk_alloc hb (Obj.cells #[.int .u8 0, .slice none 0 0, .slice none 0 0] 26)
  have c0 : (w.alloc (Obj.cells #[.int .u8 0, .slice none 0 0, .slice none 0 0] 26)).cell? ⟨g, 1, none⟩ = some (.int .i64 p) := (blk_cell hbg 1).trans rfl
  have hne : g ≠ w.heap.size := by omega
  clear hb hC hbg
  go_enter Tryd.func46, Tryd.ntmps46
  go_wp2_with (go_at_call 45; ((with_reducible refine (fault_New.calls 3 e _ _ rfl).mono ?_); rintro ev w' ⟨rfl, hb⟩; have BH2 := Aside0.mk (blk_below BH.out hb); have HB2 := Aside0.mk hb; obtain ⟨hz0, hz1, hz2, hz3, hz4, hz5⟩ := row3 BH2.out; clear hb))
  refine bodyPost_ret (results_ct rfl _ _ w.heap.size 26 #[.int .u8 0, .slice none 0 0, .slice none 0 0] (0, 0) _ rfl (put3 _ _ _ BH2.out) Tryd.underlying26 rfl (by kernel_rfl)) rfl ?_
  have hle : w0.heap.size ≤ w.heap.size := HB.out.size
  have b1 := below_alloc (Below.refl w.heap.size w) (Obj.cells #[.int .u8 0, .slice none 0 0, .slice none 0 0] 26)
  have b2 := below_step b1 HB2.out
  refine ⟨_, _, rfl, Kd.R_nil _ _ _ _ _, Kd.R_nil _ _ _ _ _, (((HI.out.below b2).far hne _).far hne _).far hne _, keep_far (keep_far (keep_far (KeepBut.of_below b2 g none) (Nat.le_refl _) _) (Nat.le_refl _) _) (Nat.le_refl _) _, (((below_step HB.out b2).setCell hle _).setCell hle _).setCell hle _⟩
set_option maxHeartbeats 16000000 in
set_option maxRecDepth 100000 in
theorem node_step (k : Nat) (ih : ∀ j, j < k + 1 → NodeC j) : NodeC (k + 1) := by
  intro w0 w g l p e a r1 r2 r3 r4 r5 hI hB hl h
  rw [nodeM] at h
  by_cases c1 : e ≤ p
  · rw [if_pos c1] at h
    simp only [Option.some.injEq, Prod.mk.injEq] at h
    obtain ⟨rfl, rfl, rfl, rfl, rfl⟩ := h
    exact node_end w0 w g l p e a hI hB c1
  rw [if_neg c1] at h
  by_cases c2 : 0 ≤ p ∧ p < (l.length : Int) ∧ e ≤ (l.length : Int) ∧ 0 ≤ a
  case neg => rw [if_neg c2] at h; cases h
  rw [if_pos c2] at h
  have HH := Aside0.mk h
  have HL := Aside0.mk (And.intro hl c2)
  clear h
  have cb : decide (e ≤ p) = false := decide_eq_false c1
  have hu := Tryd.underlying26
  have hgl : g < w.heap.size := hI.lt
  obtain ⟨A, c, hb, hg, hC, hc⟩ := hI
  obtain ⟨ad, ea, hx⟩ := Kd.at_int hC p c2.1 c2.2.1
  subst ea
  have hadl := World.block_lt_of_cell? w0 _ hx
  replace hx := (hB.cell hadl).trans hx
  have hx1 : (w.alloc (Obj.cells #[.int .u8 0, .slice none 0 0, .slice none 0 0] 26)).cell? (ad.add p.toNat) = some (.int .u8 (rd l p)) := by
    rw [← hx]; exact (below_alloc (Below.refl w.heap.size w) _).cell (World.block_lt_of_cell? w _ hx)
  have BH := blk_new w (Obj.cells #[.int .u8 0, .slice none 0 0, .slice none 0 0] 26)
  have hbg := blk_alloc hb (Obj.cells #[.int .u8 0, .slice none 0 0, .slice none 0 0] 26)
  have HB1 := below_alloc hB (Obj.cells #[.int .u8 0, .slice none 0 0, .slice none 0 0] 26)
  have HK1 := KeepBut.of_below (below_alloc (Below.refl w.heap.size w) (Obj.cells #[.int .u8 0, .slice none 0 0, .slice none 0 0] 26)) g none
  have d1 : decide (0 ≤ p) = true := decide_eq_true c2.1
  have d2 : decide (p < (l.length : Int)) = true := decide_eq_true c2.2.1
  have p0 : (0 ≤ p) = True := eq_true c2.1
  have p1 : (p < (l.length : Int)) = True := eq_true c2.2.1
  have k1 : (w.alloc (Obj.cells #[.int .u8 0, .slice none 0 0, .slice none 0 0] 26)).cell? ⟨g, 1, none⟩ = some (.int .i64 p) := (blk_cell hbg 1).trans rfl
  go_enter Tryd.func46, Tryd.ntmps46
  go_wp2
  generalize hW1 : w.alloc (Obj.cells #[.int .u8 0, .slice none 0 0, .slice none 0 0] 26) = W1 at *
  have hs1 : W1.heap.size = w.heap.size + 1 := by rw [← hW1]; simp
  clear hW1
  have hbg2 := blk_alloc hbg (Obj.cells #[.int .u8 0, .slice none 0 0, .slice none 0 0] 26)
  have BH2 := blk_alloc BH (Obj.cells #[.int .u8 0, .slice none 0 0, .slice none 0 0] 26)
  have BN2 := blk_new W1 (Obj.cells #[.int .u8 0, .slice none 0 0, .slice none 0 0] 26)
  have hx2 : (W1.alloc (Obj.cells #[.int .u8 0, .slice none 0 0, .slice none 0 0] 26)).cell? (ad.add p.toNat) = some (.int .u8 (rd l p)) := by
    rw [← hx1]; exact (below_alloc (Below.refl W1.heap.size W1) _).cell (World.block_lt_of_cell? W1 _ hx1)
  have k0 : W1.cell? ⟨g, 0, none⟩ = some (.slice (some ad) l.length c) := (blk_cell hbg 0).trans rfl
  have k2 : (W1.alloc (Obj.cells #[.int .u8 0, .slice none 0 0, .slice none 0 0] 26)).cell? ⟨g, 0, none⟩ = some (.slice (some ad) l.length c) := (blk_cell hbg2 0).trans rfl
  have k3 : (W1.alloc (Obj.cells #[.int .u8 0, .slice none 0 0, .slice none 0 0] 26)).cell? ⟨g, 1, none⟩ = some (.int .i64 p) := (blk_cell hbg2 1).trans rfl
  obtain ⟨n0, n1, n2, n3, n4, n5⟩ := row3 BN2
  go_region
  have HN : Aside0 (ND w0 w (W1.alloc (Obj.cells #[.int .u8 (rd l p), .slice none 0 0, .slice none 0 0] 26)).drew g l p w.heap.size (w.heap.size + 1) (rd l p) (.slice none 0 0) (.slice none 0 0)) := by
    have b3 := below_alloc (Below.refl W1.heap.size W1) (Obj.cells #[.int .u8 (rd l p), .slice none 0 0, .slice none 0 0] 26)
    have hbgx := blk_alloc hbg (Obj.cells #[.int .u8 (rd l p), .slice none 0 0, .slice none 0 0] 26)
    have BHx := blk_alloc BH (Obj.cells #[.int .u8 (rd l p), .slice none 0 0, .slice none 0 0] 26)
    have BNx := blk_new W1 (Obj.cells #[.int .u8 (rd l p), .slice none 0 0, .slice none 0 0] 26)
    rw [hs1] at BNx
    exact ⟨ND.drew ⟨⟨some ad, c, hbgx, hg, hC, hc⟩, below_step HB1 b3, HK1.trans (KeepBut.of_below b3 g none) (.inl rfl), hgl, Nat.le_refl _, Nat.le_succ _, Nat.ne_of_lt (Nat.lt_succ_self _), BHx, BNx⟩⟩
  generalize (W1.alloc (Obj.cells #[.int .u8 (rd l p), .slice none 0 0, .slice none 0 0] 26)).drew = W at HN ⊢
  generalize w.heap.size + 1 = n at HN ⊢
  generalize hhz : w.heap.size = hh at HN ⊢
  clear hbg BH hx1 k1 hs1 hbg2 BH2 BN2 hx2 k0 k2 k3 n0 n1 n2 n3 n4 n5 hx hb hC HB1 HK1 hadl W1
  have ea : wrap64 (p + 1) = p + 1 := by unfold wrap64; have := HL.out; omega
  obtain ⟨r, hr, h⟩ := Option.bind_eq_some_iff.mp HH.out
  obtain ⟨A, cc, f1, f2, f3, f4, f5, f6, f7, f8, f9, f10, f11, f12, f13, f14, f15, f16, f17, f18, f19, f20, f21, f22, f23, f24⟩ := HN.out.facts
  have HR := Aside0.mk hr
  have HC := Aside0.mk f16
  have HF := Aside0.mk f18
  have HCC := Aside0.mk f17
  clear hr f16 f18 f17
  cases r with
  | false =>
    rw [if_pos rfl] at h
    simp only [Option.some.injEq, Prod.mk.injEq] at h
    obtain ⟨rfl, rfl, rfl, rfl, rfl⟩ := h
    go_wp2_with (first | (go_at_call 73; ((with_reducible refine (der_right.calls (rd l p) false _ HR.out).mono ?_); rintro ev w' ⟨rfl, m, rfl⟩; have HN2 := Aside0.mk (HN.out.drewN m))) | (go_at_call 45; ((with_reducible refine (fault_New.calls 5 p _ _ rfl).mono ?_); rintro ev w' ⟨rfl, hb⟩; have HN3 := Aside0.mk (HN2.out.below hb); obtain ⟨hz0, hz1, hz2, hz3, hz4, hz5⟩ := row3 HN3.out.out; clear hb)))
    refine bodyPost_ret (results_ct rfl _ _ hh 26 #[.int .u8 0, .slice none 0 0, .slice none 0 0] (0, 0) _ rfl (put3 _ _ _ HN3.out.out) Tryd.underlying26 rfl (by kernel_rfl)) rfl ?_
    exact ⟨_, _, rfl, Kd.R_nil _ _ _ _ _, Kd.R_nil _ _ _ _ _, far3 HN3.out _ _ _⟩
  | true =>
    rw [if_neg (by decide)] at h
    by_cases c3 : 8 ≤ a
    · rw [if_pos c3] at h
      have c3b : decide (8 ≤ a) = true := decide_eq_true c3
      simp only [Option.some.injEq, Prod.mk.injEq] at h
      obtain ⟨rfl, rfl, rfl, rfl, rfl⟩ := h
      go_wp2_with (first | (go_at_call 73; ((with_reducible refine (der_right.calls (rd l p) true _ HR.out).mono ?_); rintro ev w' ⟨rfl, m, rfl⟩; have HN2 := Aside0.mk (HN.out.drewN m))) | (go_at_call 45; ((with_reducible refine (fault_New.calls 2 p _ _ rfl).mono ?_); rintro ev w' ⟨rfl, hb⟩; have HN3 := Aside0.mk (HN2.out.below hb); obtain ⟨hz0, hz1, hz2, hz3, hz4, hz5⟩ := row3 HN3.out.out; clear hb)))
      refine bodyPost_ret (results_ct rfl _ _ hh 26 #[.int .u8 0, .slice none 0 0, .slice none 0 0] (0, 0) _ rfl (put3 _ _ _ HN3.out.out) Tryd.underlying26 rfl (by kernel_rfl)) rfl ?_
      exact ⟨_, _, rfl, Kd.R_nil _ _ _ _ _, Kd.R_nil _ _ _ _ _, far3 HN3.out _ _ _⟩
    rw [if_neg c3] at h
    have c3b : decide (8 ≤ a) = false := decide_eq_false c3
    obtain ⟨⟨nn, err, q⟩, hy, h⟩ := Option.bind_eq_some_iff.mp h
    dsimp only at h
    have HY := Aside0.mk hy
    clear hy
    cases err with
    | some x =>
      rw [if_pos (show (some x).isSome = true from rfl)] at h
      simp only [Option.some.injEq, Prod.mk.injEq] at h
      obtain ⟨rfl, rfl, rfl, rfl, rfl⟩ := h
      go_wp2_with (first | (go_at_call 73; ((with_reducible refine (der_right.calls (rd l p) true _ HR.out).mono ?_); rintro ev w' ⟨rfl, m, rfl⟩; have HN2 := Aside0.mk (HN.out.drewN m))) | (go_at_call 74; ((with_reducible refine (der_reader_length.calls k g l (p + 1) e nn (some x) q w0 _ (HN2.out.aset (p + 1)).res.1 (HN2.out.aset (p + 1)).res.2.2 HY.out).mono ?_); rintro ev w' ⟨rfl, hI', hB', hK'⟩; have HN3 := Aside0.mk ((HN2.out.aset (p + 1)).step hI' hB' hK'); obtain ⟨hz0, hz1, hz2, hz3, hz4, hz5⟩ := row3 HN3.out.out; clear hI' hB' hK'; (try simp only [errW_none, errW_some]))))
      refine bodyPost_ret (results_ct rfl _ _ hh 26 #[.int .u8 0, .slice none 0 0, .slice none 0 0] (0, 0) _ rfl (put3 _ _ _ HN3.out.out) Tryd.underlying26 rfl (by kernel_rfl)) rfl ?_
      exact ⟨_, _, by first | rfl | (simp [errW_none, errW_some] <;> rfl), Kd.R_nil _ _ _ _ _, Kd.R_nil _ _ _ _ _, far3 HN3.out _ _ _⟩
    | none =>
    rw [if_neg (by simp)] at h
    by_cases c4 : 0 ≤ q ∧ 0 ≤ nn ∧ q ≤ (l.length : Int) ∧ nn ≤ 281474976710656
    case neg => rw [if_neg c4] at h; cases h
    rw [if_pos c4] at h
    have es : wrap64 (e - q) = e - q := by unfold wrap64; have := HL.out; omega
    by_cases c5 : e - q < nn
    · rw [if_pos c5] at h
      have c5b : decide (e - q < nn) = true := decide_eq_true c5
      simp only [Option.some.injEq, Prod.mk.injEq] at h
      obtain ⟨rfl, rfl, rfl, rfl, rfl⟩ := h
      go_wp2_with (first | (go_at_call 73; ((with_reducible refine (der_right.calls (rd l p) true _ HR.out).mono ?_); rintro ev w' ⟨rfl, m, rfl⟩; have HN2 := Aside0.mk (HN.out.drewN m))) | (go_at_call 74; ((with_reducible refine (der_reader_length.calls k g l (p + 1) e nn none q w0 _ (HN2.out.aset (p + 1)).res.1 (HN2.out.aset (p + 1)).res.2.2 HY.out).mono ?_); rintro ev w' ⟨rfl, hI', hB', hK'⟩; have HN3 := Aside0.mk ((HN2.out.aset (p + 1)).step hI' hB' hK'); obtain ⟨A2, cc2, u1, u2, u3, u4, u5, u6, u7, u8, u9, u10, u11, u12, u13, u14, u15, u16, u17, u18, _, _, _, _, _, _⟩ := HN3.out.facts; clear u16 u17 u18; clear hI' hB' hK'; (try simp only [errW_none, errW_some]))) | (go_at_call 45; ((with_reducible refine (fault_New.calls 3 e _ _ rfl).mono ?_); rintro ev w' ⟨rfl, hb⟩; have HN4 := Aside0.mk (HN3.out.below hb); obtain ⟨hz0, hz1, hz2, hz3, hz4, hz5⟩ := row3 HN4.out.out; clear hb)))
      refine bodyPost_ret (results_ct rfl _ _ hh 26 #[.int .u8 0, .slice none 0 0, .slice none 0 0] (0, 0) _ rfl (put3 _ _ _ HN4.out.out) Tryd.underlying26 rfl (by kernel_rfl)) rfl ?_
      exact ⟨_, _, rfl, Kd.R_nil _ _ _ _ _, Kd.R_nil _ _ _ _ _, far3 HN4.out _ _ _⟩
    rw [if_neg c5] at h
    have c5b : decide (e - q < nn) = false := decide_eq_false c5
    obtain ⟨cm, hcm, h⟩ := Option.bind_eq_some_iff.mp h
    have HCM := Aside0.mk hcm
    clear hcm
    have eq : wrap64 (q + nn) = q + nn := by unfold wrap64; have := HL.out; omega
    cases cm with
    | false =>
      rw [if_pos rfl] at h
      simp only [Option.some.injEq, Prod.mk.injEq] at h
      obtain ⟨rfl, rfl, rfl, rfl, rfl⟩ := h
      go_wp2_with (first | (go_at_call 73; ((with_reducible refine (der_right.calls (rd l p) true _ HR.out).mono ?_); rintro ev w' ⟨rfl, m, rfl⟩; have HN2 := Aside0.mk (HN.out.drewN m))) | (go_at_call 74; ((with_reducible refine (der_reader_length.calls k g l (p + 1) e nn none q w0 _ (HN2.out.aset (p + 1)).res.1 (HN2.out.aset (p + 1)).res.2.2 HY.out).mono ?_); rintro ev w' ⟨rfl, hI', hB', hK'⟩; have HN3 := Aside0.mk ((HN2.out.aset (p + 1)).step hI' hB' hK'); obtain ⟨A2, cc2, u1, u2, u3, u4, u5, u6, u7, u8, u9, u10, u11, u12, u13, u14, u15, u16, u17, u18, _, _, _, _, _, _⟩ := HN3.out.facts; have HC3 := Aside0.mk (And.intro u16 u17); clear u16 u17 u18; clear hI' hB' hK'; (try simp only [errW_none, errW_some]))) | (go_at_call 75; ((with_reducible refine (der_composed.calls (rd l p) false _ HCM.out).mono ?_); rintro ev w' ⟨rfl, m2, rfl⟩; have HN4 := Aside0.mk (HN3.out.drewN m2))))
      obtain ⟨A5, c5, hcut, hC5, hc5⟩ := cutN q nn c4.1 c4.2.1 (by have := HL.out; omega) HC3.out.1 HC3.out.2
      have HC5 := Aside0.mk (And.intro hC5 hc5)
      clear hC5 hc5
      generalize hLL : (l.drop q.toNat).take nn.toNat = LL at hcut HC5 ⊢
      have hLL' : LL.length < 140737488355328 := by rw [← hLL]; simp; omega
      go_region_with (go_at_call 76; ((with_reducible refine (slices_Clone.calls A5 c5 LL LL _ (Kd.C_below HC5.out.1 (by repeat (first | exact Below.refl _ _ | apply below_drew1 | apply pw_below_drewN))) HC5.out.2 (by rw [slices_Clone.f, if_pos hLL'])).mono ?_); rintro ev w5 ⟨v, rfl, hR, hb⟩; obtain ⟨A7, c7, rfl⟩ := Kd.R_slice hR; have HRR := Aside0.mk hR; have HN5 := Aside0.mk (HN4.out.drew.below hb); obtain ⟨A6, cc6, s1, s2, s3, s4, s5, s6, s7, s8, s9, s10, s11, s12, s13, s14, s15, s16, s17, s18, _, _, _, _, _, _⟩ := HN5.out.facts; clear s16 s17 s18; clear hR hb))
      all_goals
        have HN6 := Aside0.mk ((HN5.out.n1 (.slice A7 LL.length c7)).aset (q + nn))
        go_wp2
        refine bodyPost_ret (results_ct rfl _ _ hh 26 #[.int .u8 (rd l p), .slice A7 LL.length c7, .slice none 0 0] (0, 0) _ rfl (put3 _ _ _ HN6.out.out) Tryd.underlying26 rfl (by kernel_rfl)) rfl ?_
        subst hLL
        exact ⟨_, _, by first | rfl | (simp [errW_none, errW_some] <;> rfl), row_sets (HN5.out.row HRR.out) (Nat.le_trans HN4.out.res.2.1.1 (Nat.le_of_eq rfl)), Kd.R_nil _ _ _ _ _, far3 HN6.out _ _ _⟩
    | true =>
      rw [if_neg (by decide)] at h
      have HH2 := Aside0.mk h
      clear h
      go_wp2_with (first | (go_at_call 73; ((with_reducible refine (der_right.calls (rd l p) true _ HR.out).mono ?_); rintro ev w' ⟨rfl, m, rfl⟩; have HN2 := Aside0.mk (HN.out.drewN m))) | (go_at_call 74; ((with_reducible refine (der_reader_length.calls k g l (p + 1) e nn none q w0 _ (HN2.out.aset (p + 1)).res.1 (HN2.out.aset (p + 1)).res.2.2 HY.out).mono ?_); rintro ev w' ⟨rfl, hI', hB', hK'⟩; have HN3 := Aside0.mk ((HN2.out.aset (p + 1)).step hI' hB' hK'); obtain ⟨A2, cc2, u1, u2, u3, u4, u5, u6, u7, u8, u9, u10, u11, u12, u13, u14, u15, u16, u17, u18, _, _, _, _, _, _⟩ := HN3.out.facts; clear u16 u17 u18; clear hI' hB' hK'; (try simp only [errW_none, errW_some]))) | (go_at_call 75; ((with_reducible refine (der_composed.calls (rd l p) true _ HCM.out).mono ?_); rintro ev w' ⟨rfl, m2, rfl⟩; have HN4 := Aside0.mk (HN3.out.drewN m2))))
      have HZ : Aside0 (hh < (w'.drewN m2).heap.size ∧ n < (w'.drewN m2).heap.size ∧ w.heap.size ≤ (w'.drewN m2).heap.size ∧ w0.heap.size ≤ (w'.drewN m2).heap.size) := by
        obtain ⟨z1, z2, z3, z4, z5, z6, z7, z8, z9⟩ := HN4.out
        exact ⟨⟨blk_lt z8, blk_lt z9, z3.1, z2.size⟩⟩
      obtain ⟨B0, hB0⟩ : ∃ B0, B0 = (w'.drewN m2).heap.size := ⟨_, rfl⟩
      rw [← hB0] at HZ
      have HBZ := Aside0.mk (Nat.le_of_eq hB0)
      have HGB : Aside0 (g < B0) := ⟨by rw [hB0]; exact HN4.out.lts.1⟩
      clear hB0
      generalize w'.drewN m2 = W4 at HN4 HBZ ⊢
      clear u1 u2 u3 u4 u5 u6 u7 u8 u9 u10 u11 u12 u13 u14 u15 f1 f2 f3 f4 f5 f6 f7 f8 f9 f10 f11 f12 f13 f14 f15
      go_loopg [] k (fun kq W => ∃ (q1 : Int) (acc : List (S26)) (u : Value), Aside0 (kidsM kq l q1 (q + nn) a (rd l p) acc = some (r1, r2, r3, r4, r5)) ∧ Aside0 (kq ≤ k) ∧ Aside0 (Kd.R k26 26 W B0 (fun k_ => B0 ≤ k_) u acc) ∧ Aside0 (ND w0 w W g l q1 hh n (rd l p) (.slice none 0 0) u) ∧ Aside0 (B0 ≤ W.heap.size))
      case atStart =>
        exact ⟨q, [], .slice none 0 0, ⟨HH2.out⟩, ⟨Nat.le_refl _⟩, ⟨Kd.R_nil _ _ _ _ _⟩, HN4, ⟨HBZ.out⟩⟩
      case round =>
        obtain ⟨q1, acc, u, HA, HKQ, HO, HNW, HBS⟩ := hrel
        cases gk with
        | zero => exact absurd HA.out (by simp [kidsM])
        | succ kq =>
        have h := HA.out
        rw [kidsM] at h
        obtain ⟨A2, cc2, u1, u2, u3, u4, u5, u6, u7_, u8, u9, u10, u11, u12_, u13_, u14, u15, u16, u17, u18, _, _, _, _, _, _⟩ := HNW.out.facts
        clear u16 u17 u18
        obtain ⟨Au, cu, rfl⟩ := Kd.R_slice HO.out
        by_cases c6 : q1 < q + nn
        · rw [if_pos c6] at h
          have c6b : decide (q1 < q + nn) = true := decide_eq_true c6
          obtain ⟨⟨t5, bs, ks, err, q2⟩, hyy, h⟩ := Option.bind_eq_some_iff.mp h
          dsimp only at h
          have HYY := Aside0.mk hyy
          clear hyy
          have ea1 : wrap64 (a + 1) = a + 1 := by unfold wrap64; have := HL.out; omega
          cases err with
          | some x =>
            rw [if_pos (show (some x).isSome = true from rfl)] at h
            simp only [Option.some.injEq, Prod.mk.injEq] at h
            obtain ⟨rfl, rfl, rfl, rfl, rfl⟩ := h
            go_wp2_with (first | (go_at_call 46; ((with_reducible refine ((ih kq (by have := HKQ.out; omega)).use w0 wr g l q1 (q + nn) (a + 1) t5 bs ks (some x) q2 HNW.out.res.1 HNW.out.res.2.2 HL.out.1 HYY.out).mono ?_); rintro ev w5 ⟨v1, v2, rfl, hR1, hR2, hI', hK', hB'⟩; obtain ⟨A7, c7, rfl⟩ := Kd.R_slice hR1; obtain ⟨A8, c8, rfl⟩ := Kd.R_slice hR2; have HR1 := Aside0.mk hR1; have HR2 := Aside0.mk hR2; have HK5 := Aside0.mk hK'; have HN5 := Aside0.mk (HNW.out.step hI' hB' hK'); have hb6 := below_alloc (Below.refl w5.heap.size w5) (Obj.cells #[.int .u8 t5, .slice A7 bs.length c7, .slice A8 ks.length c8] 26); have HN6 := Aside0.mk (HN5.out.below hb6); have HBB := Aside0.mk hb6; obtain ⟨b1, b2, b3, b4, b5, b6⟩ := row3 (blk_new w5 (Obj.cells #[.int .u8 t5, .slice A7 bs.length c7, .slice A8 ks.length c8] 26)); obtain ⟨lt1, lt2, lt3⟩ := HN5.out.lts; have m1 := Nat.ne_of_gt lt1; have m2_ := Nat.ne_of_gt lt2; have m3 := Nat.ne_of_gt lt3; have m4 := Ne.symm m1; have m5 := Ne.symm m2_; have m6 := Ne.symm m3; obtain ⟨A9, cc9, s1, s2, s3, s4, s5, s6, s7, s8, s9, s10, s11, s12, s13, s14, s15, s16, s17, s18, _, _, _, _, _, _⟩ := HN6.out.facts; clear s16 s17 s18 hb6 lt1 lt2 lt3; clear hR1 hR2 hI' hB' hK'; (try simp only [errW_none, errW_some]))))
            have HN7 := HN6
            refine bodyPost_ret (results_ct rfl _ _ hh 26 #[.int .u8 0, .slice none 0 0, .slice none 0 0] (0, 0) _ rfl (put3 _ _ _ HN7.out.out) Tryd.underlying26 rfl (by kernel_rfl)) rfl ?_
            exact ⟨_, _, by first | rfl | (simp [errW_none, errW_some] <;> rfl), Kd.R_nil _ _ _ _ _, Kd.R_nil _ _ _ _ _, far3 HN7.out _ _ _⟩
          | none =>
            rw [if_neg (by simp)] at h
            by_cases c7 : acc.length < 2513169434916
            case neg => rw [if_neg c7] at h; cases h
            rw [if_pos c7] at h
            have HLA := Aside0.mk c7
            have HH3 := Aside0.mk h
            clear h c7
            go_wp2_with (first | (go_at_call 46; ((with_reducible refine ((ih kq (by have := HKQ.out; omega)).use w0 wr g l q1 (q + nn) (a + 1) t5 bs ks (none) q2 HNW.out.res.1 HNW.out.res.2.2 HL.out.1 HYY.out).mono ?_); rintro ev w5 ⟨v1, v2, rfl, hR1, hR2, hI', hK', hB'⟩; obtain ⟨A7, c7, rfl⟩ := Kd.R_slice hR1; obtain ⟨A8, c8, rfl⟩ := Kd.R_slice hR2; have HR1 := Aside0.mk hR1; have HR2 := Aside0.mk hR2; have HK5 := Aside0.mk hK'; have HN5 := Aside0.mk (HNW.out.step hI' hB' hK'); have hb6 := below_alloc (Below.refl w5.heap.size w5) (Obj.cells #[.int .u8 t5, .slice A7 bs.length c7, .slice A8 ks.length c8] 26); have HN6 := Aside0.mk (HN5.out.below hb6); have HBB := Aside0.mk hb6; obtain ⟨b1, b2, b3, b4, b5, b6⟩ := row3 (blk_new w5 (Obj.cells #[.int .u8 t5, .slice A7 bs.length c7, .slice A8 ks.length c8] 26)); obtain ⟨lt1, lt2, lt3⟩ := HN5.out.lts; have m1 := Nat.ne_of_gt lt1; have m2_ := Nat.ne_of_gt lt2; have m3 := Nat.ne_of_gt lt3; have m4 := Ne.symm m1; have m5 := Ne.symm m2_; have m6 := Ne.symm m3; obtain ⟨A9, cc9, s1, s2, s3, s4, s5, s6, s7, s8, s9, s10, s11, s12, s13, s14, s15, s16, s17, s18, _, _, _, _, _, _⟩ := HN6.out.facts; clear s16 s17 s18 hb6 lt1 lt2 lt3; clear hR1 hR2 hI' hB' hK'; (try simp only [errW_none, errW_some]))) | ((with_reducible refine gate_builtin (b := .append) (xs := #[.tmp 128, .tmp 130]) rfl ?_); at_builtin; refine Kd.R_append k26 (w0 := (w5.alloc (Obj.cells #[.int .u8 t5, .slice A7 bs.length c7, .slice A8 ks.length c8] 26))) B0 rfl (.tmp 128) (.tmp 130) 24 26 (.agg #[(.int .u8 0), (.slice none 0 0), (.slice none 0 0)]) 56 rfl Tryd.underlying24 info26 rfl (by decide) (by omega) (.slice Au acc.length cu) acc (⟨t5, bs, ks⟩ : S26) [.int .u8 t5, .slice A7 bs.length c7, .slice A8 ks.length c8] (fun k_ => B0 ≤ k_) (fun k_ => B0 ≤ k_ ∧ some k_ ≠ (Value.slice Au acc.length cu).ownBlock) rfl (by first | (go_simp; done) | (go_simp; rfl)) ?aP (fun _ hk => hk) ?aF ?aO ?aB ?aS ?aL ?_; (case aP => exact k26_mkM _ _ _ (⟨t5, bs, ks⟩ : S26) (elemR0 HR1.out HBB.out HBS.out (Kd.R_lt HO.out)) (Kd.R_mono (elemR0 (Kd.R_mono HR2.out (fun _ _ => trivial)) HBB.out HBS.out (Kd.R_lt HO.out)) (fun _ h_ => h_))); (case aB => exact Below.refl _ _); (case aS => exact Nat.le_trans HBS.out (Nat.le_trans HK5.out.1 HBB.out.size)); (case aF => exact fun k_ hk_ => Nat.le_trans (Nat.le_trans HBS.out (Nat.le_trans HK5.out.1 HBB.out.size)) hk_); (case aO => exact accR0 HO.out HK5.out HGB.out HBB.out); (case aL => have := HLA.out; omega); intro v' w7 ho hb7 _ _; obtain ⟨A10, c10, rfl⟩ := Kd.R_slice ho; have HO7 := Aside0.mk ho; have HN7 := Aside0.mk (ND.low HN6.out hb7 HZ.out.1 HZ.out.2.1 HZ.out.2.2.1 HZ.out.2.2.2); have HS7 := Aside0.mk (hb7.size); obtain ⟨A11, cc11, y1, y2, y3, y4, y5, y6, y7, y8, y9, y10, y11, y12, y13, y14, y15, y16, y17, y18, _, _, _, _, _, _⟩ := HN7.out.facts; clear y16 y17 y18 ho hb7))
            go_roundg kq
            case measure => omega
            case rel =>
              have e1 : (acc ++ [(⟨t5, bs, ks⟩ : S26)]).length = acc.length + 1 := by simp
              have HO8 := HO7.out
              rw [e1] at HO8
              exact ⟨q2, acc ++ [(⟨t5, bs, ks⟩ : S26)], .slice A10 (acc.length + 1) c10, HH3, ⟨by have := HKQ.out; omega⟩, ⟨Kd.R_far (p := ⟨n, 2, none⟩) HO8 (fun k_ (hk_ : B0 ≤ k_) => Nat.ne_of_gt (Nat.lt_of_lt_of_le HZ.out.2.1 hk_)) _⟩, ⟨HN7.out.n2 _⟩, ⟨by rw [size_set]; exact Nat.le_trans (Nat.le_trans HBS.out (Nat.le_trans HK5.out.1 HBB.out.size)) HS7.out⟩⟩
        · rw [if_neg c6] at h
          have c6b : decide (q1 < q + nn) = false := decide_eq_false c6
          simp only [Option.some.injEq, Prod.mk.injEq] at h
          obtain ⟨rfl, rfl, rfl, rfl, rfl⟩ := h
          go_wp2
          have HN9 := HNW
          refine bodyPost_ret (results_ct rfl _ _ hh 26 #[.int .u8 (rd l p), .slice none 0 0, .slice Au acc.length cu] (0, 0) _ rfl (put3 _ _ _ HN9.out.out) Tryd.underlying26 rfl (by kernel_rfl)) rfl ?_
          exact ⟨_, _, by first | rfl | (simp [errW_none, errW_some] <;> rfl), Kd.R_nil _ _ _ _ _, kidsR HO.out HZ.out.1 (by have := HZ.out.2.2.1; omega), far3 HN9.out _ _ _⟩
theorem node_all : ∀ k, NodeC k := by
  intro k
  induction k using Nat.strongRecOn with
  | _ k ih =>
    cases k with
    | zero =>
      intro w0 w g l p e a r1 r2 r3 r4 r5 hI hB hl h
      exact absurd h (by simp [nodeM])
    | succ k => exact node_step k ih
theorem parR {α : Type} {d : Kd α} {e : Nat} {w5 w6 : World} {h Bc b' : Nat} {ok : Nat → Prop} {v x y z : Value} {xs : List α} (hR : d.R e w5 Bc ok v xs) (hb : Below w5.heap.size w5 w6) (hh : h < Bc) (hb' : b' ≤ Bc) :
    d.R e (((w6.setCell ⟨h, 0, none⟩ x).setCell ⟨h, 1, none⟩ y).setCell ⟨h, 2, none⟩ z) b' ok v xs := by
  have h1 := Kd.R_below (Kd.R_mono (ok' := fun k => ok k ∧ Bc ≤ k) (Kd.R_bound hR) (fun k hk => ⟨hk.1, hk.2.1⟩)) hb
  have hne : ∀ k, (ok k ∧ Bc ≤ k) → k ≠ h := fun k hk => Nat.ne_of_gt (Nat.lt_of_lt_of_le hh hk.2)
  have h2 := Kd.R_far (p := ⟨h, 0, none⟩) h1 hne x
  have h3 := Kd.R_far (p := ⟨h, 1, none⟩) h2 hne y
  have h4 := Kd.R_far (p := ⟨h, 2, none⟩) h3 hne z
  exact Kd.R_lower (Kd.R_mono h4 (fun k hk => hk.1)) hb'
def der_Parse.f (k : Nat) (l0 : List Int) : Option (Int × List Int × List (S26) × Option E) := if (l0.length : Int) > 1048576 then some (0, [], [], some (.fault 1 1048576)) else (nodeM k l0 0 (l0.length : Int) 0).bind fun y => if y.2.2.2.1.isSome = true then some (0, [], [], y.2.2.2.1) else if y.2.2.2.2 < (l0.length : Int) then some (0, [], [], some (.fault 4 y.2.2.2.2)) else some (y.1, y.2.1, y.2.2.1, none)
theorem nodeM_mono : ∀ k, (∀ l p e a, LeO (nodeM k l p e a) (nodeM (k + 1) l p e a)) ∧ (∀ l q s a t acc, LeO (kidsM k l q s a t acc) (kidsM (k + 1) l q s a t acc))
  | 0 => ⟨fun _ _ _ _ r h => by simp [nodeM] at h, fun _ _ _ _ _ _ r h => by simp [kidsM] at h⟩
  | k + 1 => by
    obtain ⟨ih0, ih1⟩ := nodeM_mono k
    refine ⟨?_, ?_⟩
    · intro l p e a
      unfold nodeM
      repeat' first
          | (with_reducible exact ih0 _ _ _ _)
          | (with_reducible exact ih1 _ _ _ _ _ _)
          | (with_reducible exact der_reader_length.mono _ _ _ _)
          | (with_reducible exact LeO.refl _)
          | (with_reducible exact LeO.none _)
          | (with_reducible refine LeO.ite ?_ ?_)
          | (with_reducible refine LeO.bind ?_ (fun _ => ?_))
          | exact ih0 _ _ _ _
          | exact ih1 _ _ _ _ _ _
          | exact der_reader_length.mono _ _ _ _
          | exact LeO.refl _
          | refine LeO.ite ?_ ?_
          | refine LeO.bind ?_ (fun _ => ?_)
    · intro l q s a t acc
      unfold kidsM
      repeat' first
          | (with_reducible exact ih0 _ _ _ _)
          | (with_reducible exact ih1 _ _ _ _ _ _)
          | (with_reducible exact LeO.refl _)
          | (with_reducible exact LeO.none _)
          | (with_reducible refine LeO.ite ?_ ?_)
          | (with_reducible refine LeO.bind ?_ (fun _ => ?_))
          | exact ih0 _ _ _ _
          | exact ih1 _ _ _ _ _ _
          | exact LeO.refl _
          | refine LeO.ite ?_ ?_
          | refine LeO.bind ?_ (fun _ => ?_)
theorem der_Parse.mono : ∀ a0 k, LeO (der_Parse.f k a0) (der_Parse.f (k + 1) a0) := by
  intro a0 k
  unfold der_Parse.f
  repeat' first
      | (with_reducible exact (nodeM_mono k).1 _ _ _ _)
      | (with_reducible exact LeO.refl _)
      | (with_reducible exact LeO.none _)
      | (with_reducible refine LeO.ite ?_ ?_)
      | (with_reducible refine LeO.bind ?_ (fun _ => ?_))
      | exact (nodeM_mono k).1 _ _ _ _
      | exact LeO.refl _
      | refine LeO.ite ?_ ?_
      | refine LeO.bind ?_ (fun _ => ?_)
set_option maxHeartbeats 16000000 in
set_option maxRecDepth 100000 in
theorem der_Parse.calls (k : Nat) (A0 : Option Addr) (c0 : Nat) (l0 : List Int) (r1 : Int) (r2 : List Int) (r3 : List (S26)) (r4 : Option E) (w : World) (hr0 : Kd.C (Kd.int .u8) w A0 l0.length l0) (hc0 : l0.length ≤ c0) (h : der_Parse.f k l0 = some (r1, r2, r3, r4)) :
    Calls Tryd.prog 12 #[.slice A0 l0.length c0] w fun e w' => ∃ v1_ v2_ : Value, e = .returned (.tuple #[.agg #[.int .u8 r1, v1_, v2_], errW r4]) ∧ Kd.R (Kd.int .u8) 5 w' w.heap.size (fun _ => True) v1_ r2 ∧ Kd.R k26 26 w' w.heap.size (fun k_ => some k_ ≠ (v1_ : Value).ownBlock) v2_ r3 ∧ Below w.heap.size w w' := by
  unfold der_Parse.f at h
  have hu := Tryd.underlying26
  have hu2 := Tryd.underlying94
  have b1 := below_alloc (Below.refl w.heap.size w) (Obj.cells #[.int .u8 0, .slice none 0 0, .slice none 0 0] 26)
  have BH := blk_new w (Obj.cells #[.int .u8 0, .slice none 0 0, .slice none 0 0] 26)
  have hle : w.heap.size ≤ w.heap.size := Nat.le_refl _
  by_cases c1 : (l0.length : Int) > 1048576
  · rw [if_pos c1] at h
    have cb : decide ((1048576 : Int) < (l0.length : Int)) = true := decide_eq_true c1
    have cb2 : decide (1048576 < l0.length) = true := decide_eq_true (by omega)
    simp only [Option.some.injEq, Prod.mk.injEq] at h
    obtain ⟨rfl, rfl, rfl, rfl⟩ := h
    have B1 := Aside0.mk b1
    have BH1 := Aside0.mk BH
    clear b1 BH hr0
    go_enter Tryd.func12, Tryd.ntmps12
    go_wp2_with (go_at_call 45; ((with_reducible refine (fault_New.calls 1 1048576 _ _ rfl).mono ?_); rintro ev w' ⟨rfl, hb⟩; have BH2 := Aside0.mk (blk_below BH1.out hb); have HB2 := Aside0.mk hb; obtain ⟨hz0, hz1, hz2, hz3, hz4, hz5⟩ := row3 BH2.out; clear hb))
    refine bodyPost_ret (results_ct rfl _ _ w.heap.size 26 #[.int .u8 0, .slice none 0 0, .slice none 0 0] (0, 0) _ rfl (put3 _ _ _ BH2.out) Tryd.underlying26 rfl (by kernel_rfl)) rfl ?_
    exact ⟨_, _, rfl, Kd.R_nil _ _ _ _ _, Kd.R_nil _ _ _ _ _, (((below_step B1.out HB2.out).setCell hle _).setCell hle _).setCell hle _⟩
  rw [if_neg c1] at h
  have cb : decide ((1048576 : Int) < (l0.length : Int)) = false := decide_eq_false c1
  have cb2 : decide (1048576 < l0.length) = false := decide_eq_false (by omega)
  obtain ⟨⟨t5, bs, ks, err, q⟩, hy, h⟩ := Option.bind_eq_some_iff.mp h
  dsimp only at h
  have HY := Aside0.mk hy
  have HL := Aside0.mk (show l0.length ≤ 1048576 by omega)
  clear hy
  have HI := Aside0.mk (IsS94.new w (w.alloc (Obj.cells #[.int .u8 0, .slice none 0 0, .slice none 0 0] 26)) A0 c0 l0 0 b1 ⟨hr0, hc0⟩)
  have hs1 : (w.alloc (Obj.cells #[.int .u8 0, .slice none 0 0, .slice none 0 0] 26)).heap.size = w.heap.size + 1 := by simp
  have B2 := Aside0.mk (below_step b1 (below_alloc (Below.refl _ _) (Obj.cells #[.slice A0 l0.length c0, .int .i64 0] 94)))
  have BH2 := Aside0.mk (blk_alloc BH (Obj.cells #[.slice A0 l0.length c0, .int .i64 0] 94))
  have hs2 : ((w.alloc (Obj.cells #[.int .u8 0, .slice none 0 0, .slice none 0 0] 26)).alloc (Obj.cells #[.slice A0 l0.length c0, .int .i64 0] 94)).heap.size = w.heap.size + 2 := by simp
  have HS := Aside0.mk (And.intro hs1 hs2)
  rw [hs1] at HI
  clear b1 BH hr0 hs1 hs2
  cases err with
  | some x =>
    rw [if_pos (show (some x).isSome = true from rfl)] at h
    simp only [Option.some.injEq, Prod.mk.injEq] at h
    obtain ⟨rfl, rfl, rfl, rfl⟩ := h
    go_enter Tryd.func12, Tryd.ntmps12
    go_wp2_with ((go_at_call 46; ((with_reducible refine ((node_all k).use w _ (w.heap.size + 1) l0 0 (l0.length : Int) 0 t5 bs ks (some x) q HI.out B2.out HL.out HY.out).mono ?_); rintro ev w5 ⟨v1, v2, rfl, hR1, hR2, hI', hK', hB'⟩; obtain ⟨A7, c7, rfl⟩ := Kd.R_slice hR1; obtain ⟨A8, c8, rfl⟩ := Kd.R_slice hR2; have HR1 := Aside0.mk hR1; have HR2 := Aside0.mk hR2; have HB5 := Aside0.mk hB'; have b6 := below_alloc (Below.refl w5.heap.size w5) (Obj.cells #[.int .u8 t5, .slice A7 bs.length c7, .slice A8 ks.length c8] 26); have HB6 := Aside0.mk b6; have BH4 := KeepBut.blk hK' BH2.out (Nat.ne_of_lt (Nat.lt_succ_self _)) (by simp); have BH5 := Aside0.mk (blk_below BH4 b6); obtain ⟨hz0, hz1, hz2, hz3, hz4, hz5⟩ := row3 BH5.out; obtain ⟨y0, y1, y2, y3, y4, y5⟩ := row3 (blk_new w5 (Obj.cells #[.int .u8 t5, .slice A7 bs.length c7, .slice A8 ks.length c8] 26)); obtain ⟨A9, c9, hbr, _, _⟩ := hI'; have hq := (blk_cell (blk_alloc hbr (Obj.cells #[.int .u8 t5, .slice A7 bs.length c7, .slice A8 ks.length c8] 26)) 1).trans rfl; have m1 := Nat.ne_of_gt (blk_lt BH4); have m2 := Nat.ne_of_gt (blk_lt hbr); have m3 := Ne.symm m1; have m4 := Ne.symm m2; have m5 := Nat.ne_of_lt (Nat.lt_succ_self w.heap.size); have m6 := Ne.symm m5; clear hR1 hR2 hK' hB' b6 BH4 hbr; (try simp only [errW_none, errW_some]))))
    refine bodyPost_ret (results_ct rfl _ _ w.heap.size 26 #[.int .u8 0, .slice none 0 0, .slice none 0 0] (0, 0) _ rfl (put3 _ _ _ BH5.out) Tryd.underlying26 rfl (by kernel_rfl)) rfl ?_
    exact ⟨_, _, by first | rfl | (simp [errW_none, errW_some] <;> rfl), Kd.R_nil _ _ _ _ _, Kd.R_nil _ _ _ _ _, (((below_step HB5.out HB6.out).setCell hle _).setCell hle _).setCell hle _⟩
  | none =>
    rw [if_neg (by simp)] at h
    by_cases c2 : q < (l0.length : Int)
    · rw [if_pos c2] at h
      have cd : decide (q < (l0.length : Int)) = true := decide_eq_true c2
      simp only [Option.some.injEq, Prod.mk.injEq] at h
      obtain ⟨rfl, rfl, rfl, rfl⟩ := h
      go_enter Tryd.func12, Tryd.ntmps12
      go_wp2_with (first | (go_at_call 46; ((with_reducible refine ((node_all k).use w _ (w.heap.size + 1) l0 0 (l0.length : Int) 0 t5 bs ks (none) q HI.out B2.out HL.out HY.out).mono ?_); rintro ev w5 ⟨v1, v2, rfl, hR1, hR2, hI', hK', hB'⟩; obtain ⟨A7, c7, rfl⟩ := Kd.R_slice hR1; obtain ⟨A8, c8, rfl⟩ := Kd.R_slice hR2; have HR1 := Aside0.mk hR1; have HR2 := Aside0.mk hR2; have HB5 := Aside0.mk hB'; have b6 := below_alloc (Below.refl w5.heap.size w5) (Obj.cells #[.int .u8 t5, .slice A7 bs.length c7, .slice A8 ks.length c8] 26); have HB6 := Aside0.mk b6; have BH4 := KeepBut.blk hK' BH2.out (Nat.ne_of_lt (Nat.lt_succ_self _)) (by simp); have BH5 := Aside0.mk (blk_below BH4 b6); obtain ⟨hz0, hz1, hz2, hz3, hz4, hz5⟩ := row3 BH5.out; obtain ⟨y0, y1, y2, y3, y4, y5⟩ := row3 (blk_new w5 (Obj.cells #[.int .u8 t5, .slice A7 bs.length c7, .slice A8 ks.length c8] 26)); obtain ⟨A9, c9, hbr, _, _⟩ := hI'; have hq := (blk_cell (blk_alloc hbr (Obj.cells #[.int .u8 t5, .slice A7 bs.length c7, .slice A8 ks.length c8] 26)) 1).trans rfl; have m1 := Nat.ne_of_gt (blk_lt BH4); have m2 := Nat.ne_of_gt (blk_lt hbr); have m3 := Ne.symm m1; have m4 := Ne.symm m2; have m5 := Nat.ne_of_lt (Nat.lt_succ_self w.heap.size); have m6 := Ne.symm m5; clear hR1 hR2 hK' hB' b6 BH4 hbr; (try simp only [errW_none, errW_some]))) | (go_at_call 45; ((with_reducible refine (fault_New.calls 4 q _ _ rfl).mono ?_); rintro ev w' ⟨rfl, hb⟩; have BH7 := Aside0.mk (blk_below BH5.out hb); have HB7 := Aside0.mk hb; obtain ⟨x0, x1, x2, x3, x4, x5⟩ := row3 BH7.out; clear hb)))
      refine bodyPost_ret (results_ct rfl _ _ w.heap.size 26 #[.int .u8 0, .slice none 0 0, .slice none 0 0] (0, 0) _ rfl (put3 _ _ _ BH7.out) Tryd.underlying26 rfl (by kernel_rfl)) rfl ?_
      exact ⟨_, _, by first | rfl | (simp [errW_none, errW_some] <;> rfl), Kd.R_nil _ _ _ _ _, Kd.R_nil _ _ _ _ _, (((below_step (below_step HB5.out HB6.out) HB7.out).setCell hle _).setCell hle _).setCell hle _⟩
    rw [if_neg c2] at h
    have cd : decide (q < (l0.length : Int)) = false := decide_eq_false c2
    simp only [Option.some.injEq, Prod.mk.injEq] at h
    obtain ⟨rfl, rfl, rfl, rfl⟩ := h
    go_enter Tryd.func12, Tryd.ntmps12
    go_wp2_with ((go_at_call 46; ((with_reducible refine ((node_all k).use w _ (w.heap.size + 1) l0 0 (l0.length : Int) 0 t5 bs ks (none) q HI.out B2.out HL.out HY.out).mono ?_); rintro ev w5 ⟨v1, v2, rfl, hR1, hR2, hI', hK', hB'⟩; obtain ⟨A7, c7, rfl⟩ := Kd.R_slice hR1; obtain ⟨A8, c8, rfl⟩ := Kd.R_slice hR2; have HR1 := Aside0.mk hR1; have HR2 := Aside0.mk hR2; have HB5 := Aside0.mk hB'; have b6 := below_alloc (Below.refl w5.heap.size w5) (Obj.cells #[.int .u8 t5, .slice A7 bs.length c7, .slice A8 ks.length c8] 26); have HB6 := Aside0.mk b6; have BH4 := KeepBut.blk hK' BH2.out (Nat.ne_of_lt (Nat.lt_succ_self _)) (by simp); have BH5 := Aside0.mk (blk_below BH4 b6); obtain ⟨hz0, hz1, hz2, hz3, hz4, hz5⟩ := row3 BH5.out; obtain ⟨y0, y1, y2, y3, y4, y5⟩ := row3 (blk_new w5 (Obj.cells #[.int .u8 t5, .slice A7 bs.length c7, .slice A8 ks.length c8] 26)); obtain ⟨A9, c9, hbr, _, _⟩ := hI'; have hq := (blk_cell (blk_alloc hbr (Obj.cells #[.int .u8 t5, .slice A7 bs.length c7, .slice A8 ks.length c8] 26)) 1).trans rfl; have m1 := Nat.ne_of_gt (blk_lt BH4); have m2 := Nat.ne_of_gt (blk_lt hbr); have m3 := Ne.symm m1; have m4 := Ne.symm m2; have m5 := Nat.ne_of_lt (Nat.lt_succ_self w.heap.size); have m6 := Ne.symm m5; clear hR1 hR2 hK' hB' b6 BH4 hbr; (try simp only [errW_none, errW_some]))))
    refine bodyPost_ret (results_ct rfl _ _ w.heap.size 26 #[.int .u8 t5, .slice A7 bs.length c7, .slice A8 ks.length c8] (0, 0) _ rfl (put3 _ _ _ BH5.out) Tryd.underlying26 rfl (by kernel_rfl)) rfl ?_
    exact ⟨_, _, by first | rfl | (simp [errW_none, errW_some] <;> rfl), parR HR1.out HB6.out (by have := HS.out.2; omega) (by have := HS.out.2; omega), parR HR2.out HB6.out (by have := HS.out.2; omega) (by have := HS.out.2; omega), (((below_step HB5.out HB6.out).setCell hle _).setCell hle _).setCell hle _⟩
end Go.Proofs.YtijmigapdcikpaaDoor.PDsm
