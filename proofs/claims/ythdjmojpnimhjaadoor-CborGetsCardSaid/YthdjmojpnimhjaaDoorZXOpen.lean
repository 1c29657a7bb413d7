/- Arguments that are slices of structs: what is trod is a row of Kd. -/
import Derived.Test.YthdjmojpnimhjaaDoorZWWords
import Derived.Deep.Slices
import Derived.SizedLaws
import Derived.ChangeArms
namespace Go.Proofs.YthdjmojpnimhjaaDoorW.Open
open Go Go.Proofs.YthdjmojpnimhjaaDoorW.PrintWords Go.Deep
def Opens {α : Type} (d : Kd α) (P : Program) (t : TypeId) (Q : α → Prop) : Prop :=
 ∀ {H : Type} {enc : TypeId × Value → H} {w : World} {base : Nat} {spare : Nat → Bool} {held : Bool} {fuel : Nat} {cs : List Value} {x : DataW H × List MemPlace},
  DataW.trod enc P w base spare held fuel t cs = some x → (∀ n ∈ x.1.weights P t, n ≤ reachBytes) → ∃ a, d.K w a cs ∧ Q a
variable {α β : Type} {P : Program} {t e : TypeId}
theorem opens_int {k : IntKind} (ht : P.underlying t = some (.int k)) : Opens (Kd.int k) P t (fun n => (Lit.int k n).wf = true) := by
 intro H enc w base spare held fuel cs x h _
 obtain ⟨n, h1, _, h2⟩ := DataW.trod_int ht h
 exact ⟨n, h1, h2⟩
theorem weightsAll_mem {H : Type} : ∀ {l : List (DataW H)} {d : DataW H}, d ∈ l → ∀ n ∈ d.weights P e, n ∈ DataW.weightsAll P e l
 | x :: l, d, hd, n, hn => by
  simp only [DataW.weightsAll, List.mem_append]
  rcases List.mem_cons.1 hd with rfl | h
  ·exact .inl hn
  ·exact .inr (weightsAll_mem h n hn)
theorem opens_slice [Inhabited α] {d : Kd α} {Q : α → Prop} (ht : P.underlying t = some (.slice e)) (hs : P.cellsOf e = d.sz) (h : Opens d P e Q) : Opens (Kd.slice e d) P t (fun l => l.length * P.bytesOf e ≤ reachBytes ∧ ∀ x ∈ l, Q x) := by
 intro H enc w base spare held fuel cs x hx hw
 rcases open_slice ht hx with ⟨rfl, rfl⟩ | ⟨a, len, cap, m, n, D, Pl, rfl, hb, hl, hm, hmm, rfl, hall⟩
 ·exact ⟨[], ⟨none, 0, rfl, Nat.le_refl 0, rfl, Nat.zero_le _, fun h0 => absurd h0 (Nat.lt_irrefl 0)⟩, by simp, fun _ h0 => absurd h0 (by simp)⟩
 have hlm : len ≤ m := by rw [hmm]; split <;> omega
 have hwt : ∀ k ∈ DataW.weights P t (.slice ((List.range len).map D) ((List.range (m - len)).map fun j => D (len + j))), k ≤ reachBytes := hw
 simp only [DataW.weights, ht, List.mem_cons, List.mem_append, List.length_map, List.length_range] at hwt
 have hz := hwt _ (.inl rfl)
 obtain ⟨f, hf⟩ := choose_lt (α := α) (n := len) (p := fun i y => ∃ cs', w.cells? base (a.add (i * P.cellsOf e)) (P.cellsOf e) = some cs' ∧ d.K w y cs' ∧ Q y) (fun i hi => by
  obtain ⟨cs', h1, h2⟩ := hall i (by omega)
  obtain ⟨y, y1, y2⟩ := h h2 (fun k hk => hwt k (.inr (.inl (weightsAll_mem (List.mem_map.2 ⟨i, by simpa using hi, rfl⟩) k hk))))
  exact ⟨y, cs', h1, y1, y2⟩)
 refine ⟨(List.range len).map f, ⟨some a, cap, by simp, by simpa using hl, ?_⟩, ?_, ?_⟩
 ·refine ⟨rfl, by simp [maxLen] at hm ⊢; omega, fun _ => ⟨a, rfl, ?_⟩⟩
  intro j p hp
  have hj : j < len := by
   have := (List.getElem?_eq_some_iff.1 hp).1
   simpa using this
  obtain ⟨cs', h1, h2, _⟩ := hf j hj
  have e1 : p = f j := by
   have := (List.getElem?_eq_some_iff.1 hp).2
   simpa using this.symm
  subst e1
  obtain ⟨_, hlen, hc⟩ := World.cells?_some h1
  refine ⟨cs', by rw [hlen, hs], h2, fun i u hu => ?_⟩
  have hi : i < P.cellsOf e := by rw [← hlen]; exact (List.getElem?_eq_some_iff.1 hu).1
  have h5 := hc i hi
  rw [hu] at h5
  rw [← h5, ← hs]
  rw [Addr.add_add]
 ·simp only [List.length_map, List.length_range]
  exact Nat.le_trans (Nat.mul_le_mul_right _ (by omega)) hz
 ·intro y hy
  obtain ⟨i, hi, rfl⟩ := List.mem_map.1 hy
  obtain ⟨_, _, _, h3⟩ := hf i (by simpa using hi)
  exact h3
end Go.Proofs.YthdjmojpnimhjaaDoorW.Open
