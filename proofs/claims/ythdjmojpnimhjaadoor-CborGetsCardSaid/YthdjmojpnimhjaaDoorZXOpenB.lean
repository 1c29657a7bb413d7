/- Arguments of a struct type that holds slices of itself: what is trod with at most m fuel (for an induction on m). -/
import Derived.Test.YthdjmojpnimhjaaDoorZXOpen
namespace Go.Proofs.YthdjmojpnimhjaaDoorW.Open
open Go Go.Proofs.YthdjmojpnimhjaaDoorW.PrintWords Go.Deep
def OpensB {α : Type} (m : Nat) (d : Kd α) (P : Program) (t : TypeId) (Q : α → Prop) : Prop :=
 ∀ {H : Type} {enc : TypeId × Value → H} {w : World} {base : Nat} {spare : Nat → Bool} {held : Bool} {fuel : Nat} {cs : List Value} {x : DataW H × List MemPlace},
  fuel ≤ m → DataW.trod enc P w base spare held fuel t cs = some x → (∀ n ∈ x.1.weights P t, n ≤ reachBytes) → ∃ a, d.K w a cs ∧ Q a
def OpensFB {α : Type} (m : Nat) (d : Kd α) (P : Program) (fs : List Field) (off len : Nat) (Q : α → Prop) : Prop :=
 ∀ {H : Type} {enc : TypeId × Value → H} {w : World} {base : Nat} {spare : Nat → Bool} {held : Bool} {n : Nat} {cs : List Value} {xs : List (DataW H × List MemPlace)},
  n ≤ m → cs.length = len → (∀ (i : Nat) (f : Field), fs[i]? = some f → DataW.trod enc P w base spare held n f.type ((cs.drop f.offset).take (P.cellsOf f.type)) = xs[i]?) → xs.length = fs.length →
  (∀ m ∈ DataW.weightsEach P (fs.map (·.type)) (xs.map (·.1)), m ≤ reachBytes) → ∃ a, d.K w a (cs.drop off) ∧ Q a
variable {α β : Type} {P : Program} {t e : TypeId} {m : Nat}
theorem opensB_of {d : Kd α} {Q : α → Prop} (h : Opens d P t Q) : OpensB m d P t Q := fun _ h1 h2 => h h1 h2
theorem opens_ofB {d : Kd α} {Q : α → Prop} (h : ∀ m, OpensB m d P t Q) : Opens d P t Q := fun h1 h2 => h _ (Nat.le_refl _) h1 h2
theorem opensB_zero {d : Kd α} {Q : α → Prop} : OpensB 0 d P t Q := by
 intro H enc w base spare held fuel cs x hm h _
 obtain rfl : fuel = 0 := by omega
 simp [DataW.trod] at h
theorem opensB_iso {d : Kd α} {f : β → α} {Q : α → Prop} (g : α → β) (hg : ∀ x, f (g x) = x) (h : OpensB m d P t Q) : OpensB m (Kd.iso d f) P t (fun y => Q (f y)) := by
 intro H enc w base spare held fuel cs x hm hx hw
 obtain ⟨a, h1, h2⟩ := h hm hx hw
 refine ⟨g a, ?_, ?_⟩
 ·show d.K w (f (g a)) cs
  rw [hg]; exact h1
 ·show Q (f (g a))
  rw [hg]; exact h2
theorem opensFB_last {d : Kd α} {f : Field} {off len : Nat} {Q : α → Prop} (ho : f.offset = off) (hl : off + P.cellsOf f.type = len) (h : OpensB m d P f.type Q) : OpensFB m d P [f] off len Q := by
 intro H enc w base spare held n cs xs hm hc hx hn hw
 match xs, hn with
 | [x], _ =>
  have h0 := hx 0 f rfl
  rw [ho, List.take_of_length_le (by rw [List.length_drop]; omega)] at h0
  exact h hm h0 (fun m hm => hw m (by simp [DataW.weightsEach, hm]))
theorem opensFB_cons {a : Kd α} {b : Kd β} {f : Field} {r : List Field} {off len : Nat} {Qa : α → Prop} {Qb : β → Prop} (ho : f.offset = off) (ha : OpensB m a P f.type Qa) (hb : OpensFB m b P r (off + P.cellsOf f.type) len Qb) :
  OpensFB m (Kd.pair a b) P (f :: r) off len (fun x => Qa x.1 ∧ Qb x.2) := by
 intro H enc w base spare held n cs xs hm hc hx hn hw
 match xs, hn with
 | x :: xs, hn =>
  have h0 := hx 0 f rfl
  rw [ho] at h0
  obtain ⟨y, y1, y2⟩ := ha hm h0 (fun m hm => hw m (by simp [DataW.weightsEach, hm]))
  obtain ⟨z, z1, z2⟩ := hb hm hc (fun i g hg => hx (i + 1) g hg) (by simpa using hn) (fun m hm => hw m (by simp only [List.map_cons, DataW.weightsEach, List.mem_append]; exact .inr hm))
  refine ⟨(y, z), ⟨_, _, ?_, y1, z1⟩, y2, z2⟩
  rw [← List.drop_drop, List.take_append_drop]
theorem opensB_struct {d : Kd α} {fs : Array Field} {Q : α → Prop} (ht : P.underlying t = some (.struct fs)) (h : OpensFB m d P fs.toList 0 (P.cellsOf t) Q) : OpensB (m + 1) d P t Q := by
 intro H enc w base spare held fuel cs x hm hx hw
 obtain ⟨xs, n, rfl, rfl, hl, hn, hf⟩ := DataW.trod_struct ht hx
 have := h (show n ≤ m by omega) hl (fun i f hi => hf i f (by simpa using hi)) (by simpa using hn) (fun m hm => hw m (by simp only [DataW.weights, ht]; exact hm))
 simpa using this
theorem opensB_slice [Inhabited α] {d : Kd α} {Q : α → Prop} (ht : P.underlying t = some (.slice e)) (hs : P.cellsOf e = d.sz) (h : OpensB m d P e Q) : OpensB m (Kd.slice e d) P t (fun l => l.length * P.bytesOf e ≤ reachBytes ∧ ∀ x ∈ l, Q x) := by
 intro H enc w base spare held fuel cs x hfm hx hw
 rcases DataW.trod_slice ht hx with ⟨rfl, rfl⟩ | ⟨a, len, cap, elems, rest, n, hfu, rfl, rfl, hb, hl, hm, hlen, hel, _, _⟩
 ·exact ⟨[], ⟨none, 0, rfl, Nat.le_refl 0, rfl, Nat.zero_le _, fun h0 => absurd h0 (Nat.lt_irrefl 0)⟩, by simp, fun _ h0 => absurd h0 (by simp)⟩
 have hwt : ∀ k ∈ DataW.weights P t (.slice (elems.map (·.1)) (rest.map (·.1))), k ≤ reachBytes := hw
 simp only [DataW.weights, ht, List.mem_cons, List.mem_append, List.length_map] at hwt
 have hz := hwt _ (.inl rfl)
 obtain ⟨f, hf⟩ := choose_lt (α := α) (n := len) (p := fun i y => ∃ cs', w.cells? base (a.add (i * P.cellsOf e)) (P.cellsOf e) = some cs' ∧ d.K w y cs' ∧ Q y) (fun i hi => by
  have hi' : i < elems.length := by rw [hlen]; exact hi
  have h0 := hel i hi
  rw [List.getElem?_eq_getElem hi'] at h0
  obtain ⟨cs', h1, h2⟩ := Option.bind_eq_some_iff.mp h0
  obtain ⟨y, y1, y2⟩ := h (show n ≤ m by omega) h2 (fun k hk => hwt k (.inr (.inl (weightsAll_mem (List.mem_map.2 ⟨elems[i], List.getElem_mem hi', rfl⟩) k hk))))
  exact ⟨y, cs', h1, y1, y2⟩)
 refine ⟨(List.range len).map f, ⟨some a, cap, by simp, by simpa using hl, ?_⟩, ?_, ?_⟩
 ·refine ⟨rfl, by simp [maxLen] at hm ⊢; omega, fun _ => ⟨a, rfl, ?_⟩⟩
  intro j p hp
  have hj : j < len := by
   have := (List.getElem?_eq_some_iff.1 hp).1
   simpa using this
  obtain ⟨cs', h1, h2, _⟩ := hf j hj
  have e1 : p = f j := by
   have := (List.getElem?_eq_some_iff.1 hp).2
   simpa using this.symm
  subst e1
  obtain ⟨_, hlen2, hc⟩ := World.cells?_some h1
  refine ⟨cs', by rw [hlen2, hs], h2, fun i u hu => ?_⟩
  have hi : i < P.cellsOf e := by rw [← hlen2]; exact (List.getElem?_eq_some_iff.1 hu).1
  have h5 := hc i hi
  rw [hu] at h5
  rw [← h5, ← hs]
  rw [Addr.add_add]
 ·simp only [List.length_map, List.length_range]
  exact Nat.le_trans (Nat.mul_le_mul_right _ (by omega)) hz
 ·intro y hy
  obtain ⟨i, hi, rfl⟩ := List.mem_map.1 hy
  obtain ⟨_, _, _, h3⟩ := hf i (by simpa using hi)
  exact h3
end Go.Proofs.YthdjmojpnimhjaaDoorW.Open
