/- Arguments that are slices of structs: what is trod is a row of Kd. -/
import Derived.Test.YtgmnknhfeoleaaaGreatDoorZWWords
import Derived.Deep.Slices
import Derived.SizedLaws
import Derived.ChangeArms
namespace Go.Proofs.YtgmnknhfeoleaaaGreatDoorW.Open
open Go Go.Proofs.YtgmnknhfeoleaaaGreatDoorW.PrintWords Go.Deep
def Opens {α : Type} (d : Kd α) (P : Program) (t : TypeId) (Q : α → Prop) : Prop :=
 ∀ {H : Type} {enc : TypeId × Value → H} {w : World} {base : Nat} {spare : Nat → Bool} {held : Bool} {fuel : Nat} {cs : List Value} {x : DataW H × List MemPlace},
  DataW.trod enc P w base spare held fuel t cs = some x → (∀ n ∈ x.1.weights P t, n ≤ reachBytes) → ∃ a, d.K w a cs ∧ Q a
def OpensF {α : Type} (d : Kd α) (P : Program) (fs : List Field) (off len : Nat) (Q : α → Prop) : Prop :=
 ∀ {H : Type} {enc : TypeId × Value → H} {w : World} {base : Nat} {spare : Nat → Bool} {held : Bool} {n : Nat} {cs : List Value} {xs : List (DataW H × List MemPlace)},
  cs.length = len → (∀ (i : Nat) (f : Field), fs[i]? = some f → DataW.trod enc P w base spare held n f.type ((cs.drop f.offset).take (P.cellsOf f.type)) = xs[i]?) → xs.length = fs.length →
  (∀ m ∈ DataW.weightsEach P (fs.map (·.type)) (xs.map (·.1)), m ≤ reachBytes) → ∃ a, d.K w a (cs.drop off) ∧ Q a
variable {α β : Type} {P : Program} {t e : TypeId}
theorem opens_int {k : IntKind} (ht : P.underlying t = some (.int k)) : Opens (Kd.int k) P t (fun n => (Lit.int k n).wf = true) := by
 intro H enc w base spare held fuel cs x h _
 obtain ⟨n, h1, _, h2⟩ := DataW.trod_int ht h
 exact ⟨n, h1, h2⟩
theorem opens_iso {d : Kd α} {f : β → α} {Q : α → Prop} (g : α → β) (hg : ∀ x, f (g x) = x) (h : Opens d P t Q) : Opens (Kd.iso d f) P t (fun y => Q (f y)) := by
 intro H enc w base spare held fuel cs x hx hw
 obtain ⟨a, h1, h2⟩ := h hx hw
 refine ⟨g a, ?_, ?_⟩
 ·show d.K w (f (g a)) cs
  rw [hg]; exact h1
 ·show Q (f (g a))
  rw [hg]; exact h2
theorem opensF_last {d : Kd α} {f : Field} {off len : Nat} {Q : α → Prop} (ho : f.offset = off) (hl : off + P.cellsOf f.type = len) (h : Opens d P f.type Q) : OpensF d P [f] off len Q := by
 intro H enc w base spare held n cs xs hc hx hn hw
 match xs, hn with
 | [x], _ =>
  have h0 := hx 0 f rfl
  rw [ho, List.take_of_length_le (by rw [List.length_drop]; omega)] at h0
  exact h h0 (fun m hm => hw m (by simp [DataW.weightsEach, hm]))
theorem opensF_cons {a : Kd α} {b : Kd β} {f : Field} {r : List Field} {off len : Nat} {Qa : α → Prop} {Qb : β → Prop} (ho : f.offset = off) (ha : Opens a P f.type Qa) (hb : OpensF b P r (off + P.cellsOf f.type) len Qb) :
  OpensF (Kd.pair a b) P (f :: r) off len (fun x => Qa x.1 ∧ Qb x.2) := by
 intro H enc w base spare held n cs xs hc hx hn hw
 match xs, hn with
 | x :: xs, hn =>
  have h0 := hx 0 f rfl
  rw [ho] at h0
  obtain ⟨y, y1, y2⟩ := ha h0 (fun m hm => hw m (by simp [DataW.weightsEach, hm]))
  obtain ⟨z, z1, z2⟩ := hb hc (fun i g hg => hx (i + 1) g hg) (by simpa using hn) (fun m hm => hw m (by simp only [List.map_cons, DataW.weightsEach, List.mem_append]; exact .inr hm))
  refine ⟨(y, z), ⟨_, _, ?_, y1, z1⟩, y2, z2⟩
  rw [← List.drop_drop, List.take_append_drop]
theorem opens_struct {d : Kd α} {fs : Array Field} {Q : α → Prop} (ht : P.underlying t = some (.struct fs)) (h : OpensF d P fs.toList 0 (P.cellsOf t) Q) : Opens d P t Q := by
 intro H enc w base spare held fuel cs x hx hw
 obtain ⟨xs, n, _, rfl, hl, hn, hf⟩ := DataW.trod_struct ht hx
 have := h hl (fun i f hi => hf i f (by simpa using hi)) (by simpa using hn) (fun m hm => hw m (by simp only [DataW.weights, ht]; exact hm))
 simpa using this
theorem weightsAll_mem {H : Type} : ∀ {l : List (DataW H)} {d : DataW H}, d ∈ l → ∀ n ∈ d.weights P e, n ∈ DataW.weightsAll P e l
 | x :: l, d, hd, n, hn => by
  simp only [DataW.weightsAll, List.mem_append]
  rcases List.mem_cons.1 hd with rfl | h
  ·exact .inl hn
  ·exact .inr (weightsAll_mem h n hn)
theorem opens_slice [Inhabited α] {d : Kd α} {Q : α → Prop} (ht : P.underlying t = some (.slice e)) (hs : P.cellsOf e = d.sz) (h : Opens d P e Q) : Opens (Kd.slice e d) P t (fun l => l.length * P.bytesOf e ≤ reachBytes ∧ ∀ x ∈ l, Q x) := by
 intro H enc w base spare held fuel cs x hx hw
 rcases open_slice ht hx with ⟨rfl, rfl⟩ | ⟨a, len, cap, m, n, D, Pl, rfl, hb, hl, hm, hmm, rfl, hall⟩
 ·exact ⟨[], ⟨none, 0, rfl, Nat.le_refl 0, rfl, Nat.zero_le _, fun h0 => absurd h0 (Nat.lt_irrefl 0)⟩, by simp, fun _ h0 => absurd h0 (by simp)⟩
 have hlm : len ≤ m := by rw [hmm]; split <;> omega
 have hwt : ∀ k ∈ DataW.weights P t (.slice ((List.range len).map D) ((List.range (m - len)).map fun j => D (len + j))), k ≤ reachBytes := hw
 simp only [DataW.weights, ht, List.mem_cons, List.mem_append, List.length_map, List.length_range] at hwt
 have hz := hwt _ (.inl rfl)
 obtain ⟨f, hf⟩ := choose_lt (α := α) (n := len) (p := fun i y => ∃ cs', w.cells? base (a.add (i * P.cellsOf e)) (P.cellsOf e) = some cs' ∧ d.K w y cs' ∧ Q y) (fun i hi => by
  obtain ⟨cs', h1, h2⟩ := hall i (by omega)
  obtain ⟨y, y1, y2⟩ := h h2 (fun k hk => hwt k (.inr (.inl (weightsAll_mem (List.mem_map.2 ⟨i, by simpa using hi, rfl⟩) k hk))))
  exact ⟨y, cs', h1, y1, y2⟩)
 refine ⟨(List.range len).map f, ⟨some a, cap, by simp, by simpa using hl, ?_⟩, ?_, ?_⟩
 ·refine ⟨rfl, by simp [maxLen] at hm ⊢; omega, fun _ => ⟨a, rfl, ?_⟩⟩
  intro j p hp
  have hj : j < len := by
   have := (List.getElem?_eq_some_iff.1 hp).1
   simpa using this
  obtain ⟨cs', h1, h2, _⟩ := hf j hj
  have e1 : p = f j := by
   have := (List.getElem?_eq_some_iff.1 hp).2
   simpa using this.symm
  subst e1
  obtain ⟨_, hlen, hc⟩ := World.cells?_some h1
  refine ⟨cs', by rw [hlen, hs], h2, fun i u hu => ?_⟩
  have hi : i < P.cellsOf e := by rw [← hlen]; exact (List.getElem?_eq_some_iff.1 hu).1
  have h5 := hc i hi
  rw [hu] at h5
  rw [← h5, ← hs]
  rw [Addr.add_add]
 ·simp only [List.length_map, List.length_range]
  exact Nat.le_trans (Nat.mul_le_mul_right _ (by omega)) hz
 ·intro y hy
  obtain ⟨i, hi, rfl⟩ := List.mem_map.1 hy
  obtain ⟨_, _, _, h3⟩ := hf i (by simpa using hi)
  exact h3
end Go.Proofs.YtgmnknhfeoleaaaGreatDoorW.Open
