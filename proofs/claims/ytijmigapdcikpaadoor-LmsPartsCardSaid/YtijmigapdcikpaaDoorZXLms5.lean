/- A signature's bytes, changed: totals; the parse of what begins a signature: no condition. -/
import Derived.Test.YtijmigapdcikpaaDoorZPLmsx11
import Derived.Test.YtijmigapdcikpaaDoorZXLms4
namespace Go.Proofs.YtijmigapdcikpaaDoor.PLms
open Go.RowKit Go.Proofs.YtijmigapdcikpaaDoorW.PrintWords Go.Proofs.YtijmigapdcikpaaDoorW.PrintLast Go.Proofs.YtijmigapdcikpaaDoorW.PrintMore Go.Proofs.YtijmigapdcikpaaDoorW.Pu
set_option linter.unusedVariables false
theorem set_bytes {l : List Int} (h : IsBytes l) {c : Int} (h0 : 0 ≤ c) (h1 : c < 256) (i : Nat) : IsBytes (l.set i c) := by
  intro y hy
  rcases List.mem_or_eq_of_mem_set hy with hy | rfl
  · exact h y hy
  · exact ⟨h0, h1⟩
def Wf105 (x : S105) : Prop := (Lit.int .i64 x.f0).wf = true ∧ (Lit.int .u8 x.f1).wf = true ∧ (Lit.int .u16 x.f2).wf = true ∧ IsBytes x.f3
theorem rd105_mem {l : List S105} {i : Nat} (h : i < l.length) : rd_T105 l (i : Int) ∈ l := by
  unfold rd_T105
  rw [Int.toNat_natCast, List.getD_eq_getElem?_getD, List.getElem?_eq_getElem h]
  exact List.getElem_mem h
theorem changed_j2 (l : List S105) (x : S105) (i : Nat) (hlt : i < l.length) (hi : i < 1000000) (hx : x = rd_T105 l (i : Int)) (hw : Wf105 x) (b : List Int) (hb : IsBytes b) (hbl : b.length < 1000000000) (P : List Int → Prop)
    (ih : ∀ b', IsBytes b' → b'.length ≤ b.length + 100 → ∃ r, Ev (fun k => pyxlaw21_changed.l0 k l b' ((i + 1 : Nat) : Int)) r ∧ P r) :
    ∃ r, Ev (fun k => pyxlaw21_changed.j2 k l b (i : Int)) r ∧ P r := by
  have h2 := wf_u16 hw.2.2.1
  have h3 := hw.2.2.2
  have q1 : (i : Int) < (l.length : Int) := by omega
  have q2 : 0 ≤ (i : Int) := by omega
  have e4 := wsucc (j := i) (by omega)
  have e5 : wrap64 x.f2 = x.f2 := w64 (by omega) (by omega)
  by_cases c1 : x.f2 ≤ (b.length : Int)
  · have e6 : wrap64 ((b.length : Int) - x.f2) = (b.length : Int) - x.f2 := w64 (by clear e4 e5; omega) (by clear e4 e5; omega)
    have c2 : 0 ≤ (b.length : Int) - x.f2 := by clear e4 e5 e6; omega
    have c3 : (b.length : Int) - x.f2 ≤ (b.length : Int) := by clear e4 e5 e6; omega
    obtain ⟨b1, hb1⟩ : ∃ b1, b1 = b.take ((b.length : Int) - x.f2).toNat := ⟨_, rfl⟩
    have hbb : IsBytes b1 := by rw [hb1]; exact fun y hy => hb y (List.mem_of_mem_take hy)
    have hbn : b1.length ≤ b.length := by rw [hb1]; exact List.length_take_le' _ _
    by_cases c4 : (x.f3.length : Int) ≤ 100
    · obtain ⟨r, r1, r2⟩ := ih (b1 ++ x.f3) (bytes_app hbb h3) (by rw [List.length_append]; clear e4 e5 e6; omega)
      have p1 : b1.length + x.f3.length < 140737488355328 := by clear e4 e5 e6; omega
      refine ⟨r, ?_, r2⟩
      refine Ev.step (fun k => by rw [pyxlaw21_changed.j2, if_pos q2, if_pos q1, ← hx, e5, if_pos c1, e6, if_pos c2, if_pos c3, Option.bind_some, ← hb1, if_pos c4, if_pos p1, e4]) r1
    · obtain ⟨r, r1, r2⟩ := ih b1 hbb (by omega)
      refine ⟨r, ?_, r2⟩
      refine Ev.step (fun k => by rw [pyxlaw21_changed.j2, if_pos q2, if_pos q1, ← hx, e5, if_pos c1, e6, if_pos c2, if_pos c3, Option.bind_some, ← hb1, if_neg c4, e4]) r1
  · by_cases c4 : (x.f3.length : Int) ≤ 100
    · obtain ⟨r, r1, r2⟩ := ih (b ++ x.f3) (bytes_app hb h3) (by rw [List.length_append]; clear e4 e5; omega)
      have p1 : b.length + x.f3.length < 140737488355328 := by clear e4 e5; omega
      refine ⟨r, ?_, r2⟩
      refine Ev.step (fun k => by rw [pyxlaw21_changed.j2, if_pos q2, if_pos q1, ← hx, e5, if_neg c1, if_pos c4, if_pos p1, e4]) r1
    · obtain ⟨r, r1, r2⟩ := ih b hb (by omega)
      refine ⟨r, ?_, r2⟩
      refine Ev.step (fun k => by rw [pyxlaw21_changed.j2, if_pos q2, if_pos q1, ← hx, e5, if_neg c1, if_neg c4, e4]) r1
theorem changed_l0 (l : List S105) (hl : l.length ≤ 20) (hw : ∀ x ∈ l, Wf105 x) : ∀ (d : Nat) (b : List Int) (i : Nat), l.length - i = d → i ≤ l.length → IsBytes b → b.length ≤ 200000 + 100 * i →
    ∃ r, Ev (fun k => pyxlaw21_changed.l0 k l b (i : Int)) r ∧ IsBytes r ∧ r.length ≤ 300000 := by
  intro d
  induction d with
  | zero =>
    intro b i e h hb hn
    exact ⟨b, Ev.last fun k => by rw [pyxlaw21_changed.l0, if_neg (by omega)], hb, by omega⟩
  | succ d ih =>
    intro b i e h hb hn
    have hlt : i < l.length := by omega
    obtain ⟨x, hx⟩ : ∃ x, x = rd_T105 l (i : Int) := ⟨_, rfl⟩
    have hwx : Wf105 x := hx ▸ hw _ (rd105_mem hlt)
    have q1 : (i : Int) < (l.length : Int) := by omega
    have q2 : 0 ≤ (i : Int) := by omega
    have hv := wf_u8 hwx.2.1
    have go : ∀ b', IsBytes b' → b'.length = b.length → ∃ r, Ev (fun k => pyxlaw21_changed.j2 k l b' (i : Int)) r ∧ IsBytes r ∧ r.length ≤ 300000 := fun b' h1 h2 =>
      changed_j2 l x i hlt (by omega) hx hwx b' h1 (by omega) (fun r => IsBytes r ∧ r.length ≤ 300000) (fun b2 h3 h4 => ih b2 (i + 1) (by omega) hlt h3 (by omega))
    clear ih
    by_cases c1 : x.f0 ≥ 0
    · by_cases c2 : x.f0 < (b.length : Int)
      · obtain ⟨r, r1, r2⟩ := go (b.set x.f0.toNat x.f1) (set_bytes hb hv.1 hv.2 _) (by simp)
        refine ⟨r, ?_, r2⟩
        have s1 : Ev (fun k => pyxlaw21_changed.j1 k l b (i : Int) true) r := Ev.step (fun k => by rw [pyxlaw21_changed.j1, if_pos rfl, if_pos q2, if_pos q1, ← hx, if_pos c1, if_pos c2]) r1
        exact Ev.step (fun k => by rw [pyxlaw21_changed.l0, if_pos q1, if_pos q2, ← hx, if_pos c1, decide_eq_true c2]) s1
      · obtain ⟨r, r1, r2⟩ := go b hb rfl
        refine ⟨r, ?_, r2⟩
        have s1 : Ev (fun k => pyxlaw21_changed.j1 k l b (i : Int) false) r := Ev.step (fun k => by rw [pyxlaw21_changed.j1, if_neg (by decide)]) r1
        exact Ev.step (fun k => by rw [pyxlaw21_changed.l0, if_pos q1, if_pos q2, ← hx, if_pos c1, decide_eq_false c2]) s1
    · obtain ⟨r, r1, r2⟩ := go b hb rfl
      refine ⟨r, ?_, r2⟩
      have s1 : Ev (fun k => pyxlaw21_changed.j1 k l b (i : Int) false) r := Ev.step (fun k => by rw [pyxlaw21_changed.j1, if_neg (by decide)]) r1
      exact Ev.step (fun k => by rw [pyxlaw21_changed.l0, if_pos q1, if_pos q2, ← hx, if_neg c1]) s1
theorem changed_ev (b : List Int) (hb : IsBytes b) (hn : b.length ≤ 200000) (l : List S105) (hl : l.length ≤ 20) (hw : ∀ x ∈ l, Wf105 x) : ∃ r, Ev (fun k => pyxlaw21_changed.f k b l) r ∧ IsBytes r ∧ r.length ≤ 300000 := by
  obtain ⟨r, r1, r2⟩ := changed_l0 l hl hw l.length b 0 (by omega) (by omega) hb (by omega)
  refine ⟨r, ?_, r2⟩
  refine Ev.congr (fun k => by rw [pyxlaw21_changed.f, Option.bind_some, if_pos (by simp; omega), List.nil_append]; rfl) r1
theorem awake_ev : Ev (fun k => pyxlaw21_awake.f k) true := Ev.of pyxlaw21_awake.mono pyxlaw21_awake.eval
theorem told_none : pyxlaw21_told.f none 0 0 = some true := rfl
theorem told_some (c a : Int) (hc : c ≠ 0) (h0 : 0 ≤ a) (h1 : a < 9000000000000000000) : pyxlaw21_told.f (some (.fault c a)) c a = some true := by
  unfold pyxlaw21_told.f
  rw [if_neg hc, show fault_Code.f (some (.fault c a)) = some (c, true) from rfl, show fault_At.f (some (.fault c a)) = some (wrap64 a, true) from rfl, w64_ h0 h1]
  simp
def Good70 (x : S70) : Prop := (0 ≤ x.f2 ∧ x.f2 < 4294967296) ∧ 0 ≤ x.f4 ∧ x.f4 ≤ 10000000
theorem lsig_f2 (l : List Int) (s : Nat × Option E) : (lsig l s).1.f2 = (lw l s).1 := by
  unfold lsig
  repeat' split
  all_goals rfl
theorem lw_bds (l : List Int) (hb : IsBytes l) (p : Nat) (e : Option E) : 0 ≤ (lw l (p, e)).1 ∧ (lw l (p, e)).1 < 4294967296 := by
  by_cases h : p + 4 ≤ l.length
  · rw [lw_ok l p e h]; exact wd_bd l p hb h
  · have : lw l (p, e) = (0, p, fl 3 l.length e) := by rw [lw]; exact if_neg h
    rw [this]; exact ⟨Int.le_refl 0, (by decide : (0 : Int) < 4294967296)⟩
theorem sig_good (l : List Int) (hl : l.length ≤ 300000) (hb : IsBytes l) (p : Nat) (hp : p ≤ l.length) :
    (∃ x p', lsig l (p, none) = (x, p', none) ∧ Good70 x ∧ p' ≤ l.length) ∨ ∃ x p' y, lsig l (p, none) = (x, p', some y) := by
  rcases sig_eq l p 0 (by omega) hb hp with ⟨t, o, q, s, p', _, h2, h3, h4, h5⟩ | ⟨c, n, x, p', _, _, h3⟩
  · refine .inl ⟨_, p', h2, ⟨?_, ?_, ?_⟩, h4⟩
    · have h6 := lsig_f2 l (p, none)
      rw [h2] at h6
      have h7 := lw_bds l hb p none
      rw [← h6] at h7
      exact h7
    · show 0 ≤ s
      omega
    · show s ≤ 10000000
      omega
  · exact .inr ⟨_, _, _, h3⟩
theorem good_go (l : List Int) (hl : l.length ≤ 300000) (hb : IsBytes l) : ∀ (m : Nat) (xs : List S70) (p : Nat) (xs' : List S70), p ≤ l.length → (∀ x ∈ xs, Good70 x) → lpR l m xs (p, none) = (xs', none) → ∀ x ∈ xs', Good70 x := by
  intro m
  induction m with
  | zero =>
    intro xs p xs' hp hx h
    rw [lpR_last] at h
    rcases sig_good l hl hb p hp with ⟨x, p', h1, h2, h3⟩ | ⟨x, p', y, h1⟩
    · rw [h1] at h
      cases h9 : lp3 l (p', none) with
      | some y => rw [h9] at h; exact absurd (congrArg Prod.snd h) (by simp [lp4])
      | none =>
        rw [h9] at h
        replace h : (xs ++ [x], (none : Option E)) = (xs', none) := h
        obtain ⟨rfl, _⟩ := Prod.mk.inj h
        intro z hz
        rcases List.mem_append.1 hz with hz | hz
        · exact hx z hz
        · rw [List.mem_singleton.1 hz]; exact h2
    · rw [h1] at h
      have : lp3 l (p', some y) = some y := by rw [lp3, if_neg (fun hh => by cases hh.1)]
      rw [this] at h
      cases h
  | succ m ih =>
    intro xs p xs' hp hx h
    rw [lpR_step] at h
    rcases sig_good l hl hb p hp with ⟨x, p', h1, h2, h3⟩ | ⟨x, p', y, h1⟩
    · rw [h1] at h
      have hx2 : ∀ z ∈ xs ++ [x], Good70 z := by
        intro z hz
        rcases List.mem_append.1 hz with hz | hz
        · exact hx z hz
        · rw [List.mem_singleton.1 hz]; exact h2
      rw [show lnext l (p', none) = lkey l (p', none) from rfl] at h
      rcases key_eq l p' (by omega) hb h3 with ⟨p2, _, k2, k3, k4⟩ | ⟨c, a, p2, _, _, k3⟩
      · rw [k2] at h
        exact ih _ p2 xs' (by omega) hx2 h
      · rw [k3, lpR_err] at h
        cases h
    · rw [h1, show lnext l (p', some y) = (p', some y) from rfl, lpR_err] at h
      cases h
theorem parse_facts (l : List Int) (hl : l.length ≤ 300000) (hb : IsBytes l) {xs : List S70} (h : lparse l = (xs, none)) : ∀ x ∈ xs, Good70 x := by
  have hz : lparse l = lpR l (lw l (0, none)).1.toNat [] (lp1 l) := rfl
  rw [hz] at h
  by_cases h1 : 0 + 4 ≤ l.length
  · unfold lp1 at h
    rw [lw_ok l 0 none h1] at h
    dsimp only at h
    split at h
    · rw [show fl 9 0 none = some (.fault 9 0) from rfl, lpR_err] at h
      cases h
    · exact good_go l hl hb _ [] (0 + 4) xs h1 (by simp) h
  · unfold lp1 at h
    rw [lw_no l 0 h1] at h
    dsimp only at h
    rw [if_neg (by decide), lpR_err] at h
    cases h
theorem sizes_good {xs : List S70} (h : ∀ x ∈ xs, Good70 x) : 0 ≤ sizes xs := by
  induction xs with
  | nil => simp [sizes]
  | cons x xs ih =>
    have h1 := ih (fun y hy => h y (List.mem_cons_of_mem _ hy))
    have h2 := (h x (by simp)).2.1
    have : sizes (x :: xs) = x.f4 + sizes xs := by simp [sizes]
    omega
end Go.Proofs.YtijmigapdcikpaaDoor.PLms
