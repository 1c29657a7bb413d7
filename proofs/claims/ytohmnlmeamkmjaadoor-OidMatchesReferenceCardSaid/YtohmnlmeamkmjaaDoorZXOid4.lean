/- Both ways to parse agree; lists and bytes that are compared. -/
import Derived.Test.YtohmnlmeamkmjaaDoorZXOid3
namespace Go.Proofs.YtohmnlmeamkmjaaDoor.POid
open Go.RowKit Go.Proofs.YtohmnlmeamkmjaaDoorW.PrintWords Go.Proofs.YtohmnlmeamkmjaaDoorW.PrintLast Go.Proofs.YtohmnlmeamkmjaaDoorW.PrintMore Go.Proofs.YtohmnlmeamkmjaaDoorW.Pu
theorem same_l (a b : List Int) (hlen : a.length = b.length) (hn : a.length < 4611686018427387904) : ∀ d i : Nat, a.length - i = d → i ≤ a.length →
    Ev (fun k => pyxref01_Same.l0 k a b (i : Int)) (decide (a.drop i = b.drop i)) := by
  intro d
  induction d with
  | zero =>
    intro i hd hi
    have e1 : a.drop i = [] := List.drop_eq_nil_of_le (by omega)
    have e2 : b.drop i = [] := List.drop_eq_nil_of_le (by omega)
    rw [e1, e2]
    exact Ev.last fun k => by rw [pyxref01_Same.l0, if_neg (by omega)]; rfl
  | succ d ih =>
    intro i hd hi
    have h1 : i < a.length := by omega
    have h2 : i < b.length := by omega
    rw [drop_rd a h1, drop_rd b h2]
    by_cases hr : rd a i = rd b i
    · rw [hr]
      have e : decide (rd b ↑i :: List.drop (i + 1) a = rd b ↑i :: List.drop (i + 1) b) = decide (a.drop (i + 1) = b.drop (i + 1)) := by simp
      rw [e]
      exact Ev.step' (ih (i + 1) (by omega) (by omega)) fun k => by rw [pyxref01_Same.l0, if_pos (by omega), if_pos (by omega), if_pos (by omega), if_pos hr, wsucc (by omega)]
    · have e : decide (rd a ↑i :: List.drop (i + 1) a = rd b ↑i :: List.drop (i + 1) b) = false := by simp [hr]
      rw [e]
      exact Ev.last fun k => by rw [pyxref01_Same.l0, if_pos (by omega), if_pos (by omega), if_pos (by omega), if_neg hr]
theorem same_ev (a b : List Int) (hn : a.length < 4611686018427387904) : Ev (fun k => pyxref01_Same.f k a b) (decide (a = b)) := by
  by_cases h : a.length = b.length
  · have := same_l a b h hn a.length 0 (by omega) (by omega)
    simp only [List.drop_zero] at this
    refine Ev.congr (fun k => ?_) this
    rw [pyxref01_Same.f, if_pos (by omega)]
    rfl
  · have e : decide (a = b) = false := by simp; intro h'; exact h (by rw [h'])
    rw [e]
    exact Ev.const' fun k => by rw [pyxref01_Same.f, if_neg (by omega)]
theorem eql_l (a b : List Int) (hlen : a.length = b.length) (hn : a.length < 4611686018427387904) : ∀ d i : Nat, a.length - i = d → i ≤ a.length →
    Ev (fun k => slices_Equal_uint32_uint32.l0 k a b (a.length : Int) (i : Int)) (decide (a.drop i = b.drop i)) := by
  intro d
  induction d with
  | zero =>
    intro i hd hi
    have e1 : a.drop i = [] := List.drop_eq_nil_of_le (by omega)
    have e2 : b.drop i = [] := List.drop_eq_nil_of_le (by omega)
    rw [e1, e2]
    exact Ev.last fun k => by rw [slices_Equal_uint32_uint32.l0, if_neg (by omega)]; rfl
  | succ d ih =>
    intro i hd hi
    have h1 : i < a.length := by omega
    have h2 : i < b.length := by omega
    rw [drop_rd a h1, drop_rd b h2]
    by_cases hr : rd a i = rd b i
    · rw [hr]
      have e : decide (rd b ↑i :: List.drop (i + 1) a = rd b ↑i :: List.drop (i + 1) b) = decide (a.drop (i + 1) = b.drop (i + 1)) := by simp
      rw [e]
      exact Ev.step' (ih (i + 1) (by omega) (by omega)) fun k => by rw [slices_Equal_uint32_uint32.l0, if_pos (by omega), if_pos (by omega), if_pos (by omega), if_pos (by omega), if_pos hr, wsucc (by omega)]
    · have e : decide (rd a ↑i :: List.drop (i + 1) a = rd b ↑i :: List.drop (i + 1) b) = false := by simp [hr]
      rw [e]
      exact Ev.last fun k => by rw [slices_Equal_uint32_uint32.l0, if_pos (by omega), if_pos (by omega), if_pos (by omega), if_pos (by omega), if_neg hr]
theorem eql_ev (a b : List Int) (hn : a.length < 4611686018427387904) : Ev (fun k => slices_Equal_uint32_uint32.f k a b) (decide (a = b)) := by
  by_cases h : a.length = b.length
  · have := eql_l a b h hn a.length 0 (by omega) (by omega)
    simp only [List.drop_zero] at this
    refine Ev.congr (fun k => ?_) this
    rw [slices_Equal_uint32_uint32.f, if_pos (by omega)]
    rfl
  · have e : decide (a = b) = false := by simp; intro h'; exact h (by rw [h'])
    rw [e]
    exact Ev.const' fun k => by rw [slices_Equal_uint32_uint32.f, if_neg (by omega)]
noncomputable def numsW : List (List UInt8) → Option (List Int)
  | [] => some []
  | w :: ws => if numW w < 0 then none else (numsW ws).map (numW w :: ·)
theorem refP_eq : ∀ (ws : List (List UInt8)) (acc : List Int), refP ws acc = match numsW ws with | none => ([], false) | some ns => if validB (acc ++ ns) = true then (acc ++ ns, true) else ([], false) := by
  intro ws
  induction ws with
  | nil => intro acc; simp [refP, numsW]
  | cons w ws ih =>
    intro acc
    rw [refP, numsW]
    split
    · rfl
    · rw [ih]
      cases numsW ws with
      | none => rfl
      | some ns => simp
theorem numsW_spec : ∀ (ws : List (List UInt8)) (ns : List Int), numsW ws = some ns → ws = ns.map DD ∧ IsU32 ns := by
  intro ws
  induction ws with
  | nil =>
    intro ns h
    simp only [numsW, Option.some.injEq] at h
    subst h
    exact ⟨rfl, fun n hn => by simp at hn⟩
  | cons w ws ih =>
    intro ns h
    rw [numsW] at h
    split at h
    · cases h
    · rename_i h0
      obtain ⟨ms, hm, rfl⟩ := Option.map_eq_some_iff.1 h
      obtain ⟨e, hu⟩ := ih ms hm
      have hw := numW_pos (w := w) (by omega)
      refine ⟨?_, ?_⟩
      · rw [List.map_cons, ← hw.1, ← e]
      · intro n hn
        rcases List.mem_cons.1 hn with rfl | hn
        · exact hw.2
        · exact hu n hn
theorem numsW_DD : ∀ ns : List Int, IsU32 ns → numsW (ns.map DD) = some ns := by
  intro ns
  induction ns with
  | nil => intro _; rfl
  | cons n ns ih =>
    intro h
    have hn := h n (by simp)
    rw [List.map_cons, numsW, numW_DD hn, if_neg (by omega), ih (fun m hm => h m (List.mem_cons_of_mem _ hm))]
    rfl
theorem spl_tx {l : List Int} (h : l ≠ []) : spl [] (joinG [46] (l.map DD)) = l.map DD :=
  spl_join _ (by simpa using h) (fun w hw x hx => by
    obtain ⟨n, _, rfl⟩ := List.mem_map.1 hw
    exact dd_dot _ x hx)
theorem parseW_DD : ∀ (ns acc : List Int), IsU32 ns → acc.length + ns.length ≤ 21 → parseW (ns.map fun n => B (DD n)) acc = some (acc ++ ns) := by
  intro ns
  induction ns with
  | nil => intro acc _ _; simp [parseW]
  | cons n ns ih =>
    intro acc h hl
    have hn := h n (by simp)
    rw [List.length_cons] at hl
    have hp : Lib.parseUintB 32 (B (DD n)).data.toList = .ok n.toNat := pu_dd (by omega)
    rw [List.map_cons, parseW, hp]
    simp only
    rw [if_neg (by omega), ih _ (fun m hm => h m (List.mem_cons_of_mem _ hm)) (by rw [List.length_append]; simp; omega), Int.toNat_of_nonneg hn.1, List.append_assoc]
    rfl
theorem parseW_range : ∀ (ws : List ByteArray) (acc out : List Int), IsU32 acc → parseW ws acc = some out → IsU32 out := by
  intro ws
  induction ws with
  | nil => intro acc out ha h; simp only [parseW, Option.some.injEq] at h; subst h; exact ha
  | cons w ws ih =>
    intro acc out ha h
    rw [parseW] at h
    split at h
    · rename_i u hu
      split at h
      · cases h
      · refine ih _ _ (fun n hn => ?_) h
        rw [List.mem_append, List.mem_singleton] at hn
        rcases hn with hn | rfl
        · exact ha n hn
        · have := pu_lt hu
          omega
    · cases h
noncomputable def PP (s : ByteArray) : List Int × Bool := refP (spl [] s.data.toList) []
theorem parse_eq (s : ByteArray) : (match parseW (words s) [] with | none => (([] : List Int), false) | some out => if tx out = s ∧ validB out = true then (out, true) else ([], false)) = PP s := by
  unfold PP
  rw [refP_eq]
  have no : ∀ out, parseW (words s) [] = some out → IsU32 out := fun out h => parseW_range _ [] out (fun n hn => by simp at hn) h
  have key : ∀ out : List Int, IsU32 out → tx out = s → validB out = true → numsW (spl [] s.data.toList) = some out := by
    intro out hu ht hv
    have hl := valid_len hv
    have e : s.data.toList = joinG [46] (out.map DD) := by
      rw [← ht]
      unfold tx txl
      rw [if_pos hv]
    rw [e, spl_tx (by intro h; subst h; simp at hl), numsW_DD out hu]
  cases hn : numsW (spl [] s.data.toList) with
  | none =>
    cases hp : parseW (words s) [] with
    | none => rfl
    | some out =>
      simp only
      rw [if_neg]
      rintro ⟨ht, hv⟩
      rw [key out (no out hp) ht hv] at hn
      cases hn
  | some ns =>
    obtain ⟨e, hu⟩ := numsW_spec _ _ hn
    simp only [List.nil_append]
    by_cases hv : validB ns = true
    · have hl := valid_len hv
      have hp : parseW (words s) [] = some ns := by
        unfold words
        rw [e, List.map_map]
        exact parseW_DD ns [] hu (by simp; omega)
      have ht : tx ns = s := by
        unfold tx txl
        rw [if_pos hv, ← e, join_spl]
        rfl
      rw [hp, if_pos hv]
      simp only
      rw [if_pos ⟨ht, hv⟩]
    · rw [if_neg hv]
      cases hp : parseW (words s) [] with
      | none => rfl
      | some out =>
        simp only
        rw [if_neg]
        rintro ⟨ht, hv2⟩
        rw [key out (no out hp) ht hv2] at hn
        obtain rfl := Option.some.inj hn
        exact hv hv2
theorem parse_ev (s : ByteArray) (hs : s.size ≤ 1000000) : Ev (fun k => oid_Parse.f k s) (PP s) := by
  rw [← parse_eq]
  cases hp : parseW (words s) [] with
  | none => exact Ev.const' fun k => by rw [oid_Parse.f, if_pos hs, hp]
  | some out =>
    have hu : IsU32 out := parseW_range _ [] out (fun n hn => by simp at hn) hp
    have hb : Ev (fun k => (oid_Text.f k out).bind fun t => if t = s ∧ validB out = true then some (out, true) else some ([], false)) (if tx out = s ∧ validB out = true then (out, true) else ([], false)) := by
      refine Ev.bind (text_ev hu) (Ev.const' fun k => ?_)
      split <;> rfl
    exact Ev.congr (fun k => by rw [oid_Parse.f, if_pos hs, hp]) hb
theorem PP_true {s : ByteArray} {l : List Int} (h : PP s = (l, true)) : validB l = true ∧ tx l = s ∧ IsU32 l := by
  unfold PP at h
  rw [refP_eq] at h
  cases hn : numsW (spl [] s.data.toList) with
  | none => rw [hn] at h; cases h
  | some ns =>
    obtain ⟨e, hu⟩ := numsW_spec _ _ hn
    rw [hn] at h
    simp only [List.nil_append] at h
    split at h
    · rename_i hv
      simp only [Prod.mk.injEq, and_true] at h
      subst h
      refine ⟨hv, ?_, hu⟩
      unfold tx txl
      rw [if_pos hv, ← e, join_spl]
      rfl
    · cases h
theorem PP_tx {l : List Int} (hu : IsU32 l) (hv : validB l = true) : PP (tx l) = (l, true) := by
  have hl := valid_len hv
  unfold PP
  rw [refP_eq]
  have e : (tx l).data.toList = joinG [46] (l.map DD) := by
    unfold tx txl
    rw [if_pos hv]
  rw [e, spl_tx (by intro h; subst h; simp at hl), numsW_DD l hu]
  simp only [List.nil_append]
  rw [if_pos hv]
end Go.Proofs.YtohmnlmeamkmjaaDoor.POid
