/- LmsMakes: no condition. -/
import Derived.Test.YtijmigapdcikpaaDoorPLmsx12
import Derived.Test.YtijmigapdcikpaaDoorXLms3
namespace Go.Proofs.YtijmigapdcikpaaDoor.Pure
open Go.RowKit Go.Proofs.YtijmigapdcikpaaDoor.PLms Go.Proofs.YtijmigapdcikpaaDoorW.PrintWords Go.Proofs.YtijmigapdcikpaaDoorW.PrintLast Go.Proofs.YtijmigapdcikpaaDoorW.PrintMore
theorem refsame_go (xs : List Int) (hx : xs.length ≤ 9000000000000000000) : ∀ (d : Nat) (k : Nat) (i : Int), 0 ≤ i → i ≤ xs.length → (xs.length : Int) - i = d → d < k → pyxref01_Same.l0 k xs xs i = some true := by
  intro d
  induction d with
  | zero =>
    intro k i h0 h1 hd hk
    obtain ⟨k, rfl⟩ : ∃ m, k = m + 1 := ⟨k - 1, by omega⟩
    rw [pyxref01_Same.l0, if_neg (by omega)]
  | succ d ih =>
    intro k i h0 h1 hd hk
    obtain ⟨k, rfl⟩ : ∃ m, k = m + 1 := ⟨k - 1, by omega⟩
    have hw : wrap64 (i + 1) = i + 1 := by unfold wrap64; omega
    rw [pyxref01_Same.l0, if_pos (by omega), if_pos h0, if_pos (by omega), if_pos rfl, hw]
    exact ih k (i + 1) (by omega) (by omega) (by omega) (by omega)
theorem refsame_self (xs : List Int) (hx : xs.length ≤ 9000000000000000000) (k : Nat) (hk : xs.length < k) : pyxref01_Same.f k xs xs = some true := by
  rw [pyxref01_Same.f, if_pos rfl]
  exact refsame_go xs hx xs.length _ 0 (by omega) (by omega) (by omega) (by omega)
theorem v_be4 (x : Int) (h0 : 0 ≤ x) (h1 : x < 4294967296) : v256 (be4 x) = x := by
  simp only [v256, be4, List.foldl]
  omega
theorem be4_bd (x : Int) : ∀ y ∈ be4 x, 0 ≤ y ∧ y < 256 := by
  intro y hy
  simp [be4] at hy
  rcases hy with rfl | rfl | rfl | rfl <;> omega
theorem wd_at (A B : List Int) (p : Nat) (x : Int) (hA : A.length = p) (h0 : 0 ≤ x) (h1 : x < 4294967296) : wd (A ++ (be4 x ++ B)) p = x := by
  unfold wd
  rw [List.drop_left' hA, List.take_left' (by rfl), v_be4 x h0 h1]
theorem shl_u {h : Int} (a : h = 5 ∨ h = 10 ∨ h = 15 ∨ h = 20 ∨ h = 25) : 0 ≤ IntKind.u64.wrap h ∧ shl .u64 1 (IntKind.u64.wrap h) = 2 ^ h.toNat := by
  rcases a with rfl | rfl | rfl | rfl | rfl <;> exact ⟨by decide, by decide⟩
theorem sgl_len (q o t : Int) : ((sgl q o t).length : Int) = szf t o := by
  unfold sgl szf
  by_cases c : (hgt t).2 = true ∧ (chn o).2 = true
  · rw [if_pos c, if_pos c]
    have h1 := hgt_bd c.1
    have h2 := chn_bd c.2
    simp only [List.length_append, List.length_replicate, be4, List.length_cons, List.length_nil]
    omega
  · rw [if_neg c, if_neg c]
    rfl
/-- What a made signature is parsed to. -/
theorem made_parse (q o t : Int) (q0 : 0 ≤ q) (q1 : q < 4294967296) (o0 : 0 ≤ o) (o1 : o < 4294967296) (t0 : 0 ≤ t) (t1 : t < 4294967296) (c : (hgt t).2 = true ∧ (chn o).2 = true) :
    (q < 2 ^ (hgt t).1.toNat → ∃ xs, lparse ([0, 0, 0, 0] ++ sgl q o t) = (xs, none)) ∧ (¬ q < 2 ^ (hgt t).1.toNat → ∃ xs e, lparse ([0, 0, 0, 0] ++ sgl q o t) = (xs, some e)) := by
  have h1 := hgt_bd c.1
  have h2 := chn_bd c.2
  have c1 : (hgt t).1 ≠ 0 := by have := c.1; rw [hgt_pos] at this; have := of_decide_eq_true this; omega
  have c2 : (chn o).1 ≠ 0 := by have := c.2; rw [chn_pos] at this; have := of_decide_eq_true this; omega
  have hs : sgl q o t = be4 q ++ (be4 o ++ (List.replicate (32 * (1 + (chn o).1)).toNat 0 ++ (be4 t ++ List.replicate (32 * (hgt t).1).toNat 0))) := by rw [sgl, if_pos c]
  obtain ⟨m, hm⟩ : ∃ m : Nat, (32 * (1 + (chn o).1)).toNat = m := ⟨_, rfl⟩
  obtain ⟨n, hn⟩ : ∃ n : Nat, (32 * (hgt t).1).toNat = n := ⟨_, rfl⟩
  rw [hs, hm, hn]
  obtain ⟨l, hl⟩ : ∃ l : List Int, l = [0, 0, 0, 0] ++ (be4 q ++ (be4 o ++ (List.replicate m 0 ++ (be4 t ++ List.replicate n 0)))) := ⟨_, rfl⟩
  rw [← hl]
  have hlen : l.length = 4 + 4 + 4 + m + 4 + n := by rw [hl]; simp [be4]; omega
  have w0 : wd l 0 = 0 := by rw [hl]; rfl
  have w4 : wd l 4 = q := by rw [hl]; exact wd_at [0, 0, 0, 0] _ 4 q rfl q0 q1
  have w8 : wd l (4 + 4) = o := by
    rw [hl, ← List.append_assoc]; exact wd_at ([0, 0, 0, 0] ++ be4 q) _ _ o rfl o0 o1
  have wt : wd l (4 + 4 + 4 + m) = t := by
    rw [hl, ← List.append_assoc, ← List.append_assoc, ← List.append_assoc]; exact wd_at ([0, 0, 0, 0] ++ be4 q ++ be4 o ++ List.replicate m 0) _ _ t (by simp [be4]; omega) t0 t1
  have e0 : lw l (0, none) = (0, 4, none) := by rw [lw_ok l 0 none (by omega), w0]
  have e1 : lw l (4, none) = (q, 4 + 4, none) := by rw [lw_ok l 4 none (by omega), w4]
  have e2 : lty chn l (4 + 4, none) = ((o, (chn o).1), 4 + 4 + 4, none) := by have h := ltyC_ok l (4 + 4) (by omega) (by rw [w8]; exact c2); rwa [w8] at h
  have e3 : lskip l m (4 + 4 + 4, none) = (4 + 4 + 4 + m, none) := by rw [lskip]; exact if_pos (by show 4 + 4 + 4 + m ≤ l.length; omega)
  have e4 : lty hgt l (4 + 4 + 4 + m, none) = ((t, (hgt t).1), 4 + 4 + 4 + m + 4, none) := by have h := ltyH_ok l (4 + 4 + 4 + m) (by omega) (by rw [wt]; exact c1); rwa [wt] at h
  have e5 : lskip l n (4 + 4 + 4 + m + 4, none) = (4 + 4 + 4 + m + 4 + n, none) := by rw [lskip]; exact if_pos (by show 4 + 4 + 4 + m + 4 + n ≤ l.length; omega)
  have hz : lparse l = lpR l 0 [] (4, none) := by
    show lpR l (lw l (0, none)).1.toNat [] (lp1 l) = _
    unfold lp1
    rw [e0]
    rfl
  rw [hz, lpR_last]
  constructor
  · intro hq
    have h9 : ¬ 0 < q / 2 ^ (hgt t).1.toNat := fun a => by have := (div_pos_iff q0).1 a; omega
    have e : (lsig l (4, none)).2 = (4 + 4 + 4 + m + 4 + n, none) := by
      simp only [lsig, e1, e2, hm, e3, e4, h9, hn, e5, Option.isSome_none, Bool.false_eq_true, if_false]
    rw [e, lp3, if_neg (fun hh => by have := hh.2; simp only at this; omega)]
    exact ⟨_, rfl⟩
  · intro hq
    have h9 : 0 < q / 2 ^ (hgt t).1.toNat := (div_pos_iff q0).2 (by omega)
    have e : (lsig l (4, none)).2 = (4 + 4 + 4 + m + 4, some (.fault 9 4)) := by
      simp only [lsig, e1, e2, hm, e3, e4, h9, Option.isSome_none, Bool.false_eq_true, if_true, if_false]
      rfl
    rw [e]
    exact ⟨_, _, rfl⟩
theorem told_none : pyxlaw21_told.f none 0 0 = some true := rfl
theorem told_some (c a : Int) (hc : c ≠ 0) (h0 : 0 ≤ a) (h1 : a < 9000000000000000000) : pyxlaw21_told.f (some (.fault c a)) c a = some true := by
  unfold pyxlaw21_told.f
  rw [if_neg hc, show fault_Code.f (some (.fault c a)) = some (c, true) from rfl, show fault_At.f (some (.fault c a)) = some (wrap64 a, true) from rfl, w64_ h0 h1]
  simp
theorem LmsMakes : pyxlaw21_LmsMakes.Pure := by
  intro q o t h0 h1 h2
  have b0 := wf_u32_ h0
  have b1 := wf_u32_ h1
  have b2 := wf_u32_ h2
  refine ⟨20000, ?_⟩
  unfold pyxlaw21_LmsMakes.f
  have hsig : lms_Signature.f q o t = some (sgl q o t) := by rw [lms_Signature.f, if_pos ⟨b0, b1, b2⟩]
  rw [at_rounds (g := pyxlaw21_awake.f) pyxlaw21_awake.mono (by omega : 4000 ≤ 20000) pyxlaw21_awake.eval, w64_ b2.1 (by omega), w64_ b1.1 (by omega), rsize 19999, hsig]
  simp only [Option.bind_some, if_true]
  rw [if_pos (sgl_len q o t)]
  by_cases c : (hgt t).2 = true ∧ (chn o).2 = true
  · have g1 := hgt_bd c.1
    have g2 := chn_bd c.2
    have hlen := sgl_len q o t
    have hsz : szf t o = 12 + 32 * (1 + (chn o).1 + (hgt t).1) := by rw [szf, if_pos c]
    rw [if_neg (by omega), if_pos (by simp; omega)]
    obtain ⟨l, hl⟩ : ∃ l : List Int, l = [0, 0, 0, 0] ++ sgl q o t := ⟨_, rfl⟩
    rw [← hl]
    have hll : (l.length : Int) = 4 + szf t o := by rw [hl]; simp; omega
    have hb : ∀ x ∈ l, 0 ≤ x ∧ x < 256 := by
      intro x hx
      rw [hl, sgl, if_pos c] at hx
      simp only [List.mem_append] at hx
      rcases hx with hx | hx | hx | hx | hx | hx
      · simp at hx; omega
      · exact be4_bd q x hx
      · exact be4_bd o x hx
      · have := (List.mem_replicate.1 hx).2; omega
      · exact be4_bd t x hx
      · have := (List.mem_replicate.1 hx).2; omega
    have hbB : bytesB l = true := List.all_eq_true.2 (fun x hx => decide_eq_true (hb x hx))
    have hchk : lms_CheckSignature.f l = some (lparse l).2 := by
      rw [lms_CheckSignature.f, lms_Parse.f, if_pos ⟨hbB, by omega⟩]; rfl
    have h5 : (hgt t).1 = 5 ∨ (hgt t).1 = 10 ∨ (hgt t).1 = 15 ∨ (hgt t).1 = 20 ∨ (hgt t).1 = 25 := hgt_five (by have := c.1; rw [hgt_pos] at this; have := of_decide_eq_true this; omega)
    obtain ⟨s1, s2⟩ := shl_u h5
    obtain ⟨m1, m2⟩ := made_parse q o t b0.1 b0.2 b1.1 b1.2 b2.1 b2.2 c
    rw [← hl] at m1 m2
    have hq64 : IntKind.u64.wrap q = q := by rw [IntKind.wrap_u64]; omega
    have hsame := refsame_self (sgl q o t) (by omega) 20000 (by omega)
    rcases parse_eq l (by omega) hb 20000 (by omega) with ⟨xs', p1, p2, _, _⟩ | ⟨cc, a, p1, p2, p3⟩
    · have hq : q < 2 ^ (hgt t).1.toNat := by
        rcases Int.lt_or_le q (2 ^ (hgt t).1.toNat) with hh | hh
        · exact hh
        · obtain ⟨xs, e, he⟩ := m2 (by omega)
          rw [p2] at he
          cases (Prod.mk.inj he).2
      rw [p1, hchk, p2]
      simp only [Option.bind_some]
      rw [told_none]
      simp only [Option.bind_some, if_true]
      rw [rheight]
      simp only [Option.bind_some]
      rw [if_pos s1, s2, hq64, decide_eq_true hq, if_pos (by rfl)]
      rw [hsame]
      rfl
    · have hq : ¬ q < 2 ^ (hgt t).1.toNat := by
        intro hh
        obtain ⟨xs, he⟩ := m1 hh
        rw [p3] at he
        cases (Prod.mk.inj he).2
      rw [p1, hchk, p3]
      simp only [Option.bind_some]
      rw [told_some cc a p2.1 p2.2.1 p2.2.2]
      simp only [Option.bind_some, if_true]
      rw [rheight]
      simp only [Option.bind_some]
      have hcc : (cc == 0) = false := beq_eq_false_iff_ne.mpr p2.1
      rw [if_pos s1, s2, hq64, decide_eq_false hq, hcc, if_pos (by rfl)]
      rw [hsame]
      rfl
  · have hlen := sgl_len q o t
    rw [szf, if_neg c] at hlen
    rw [if_pos hlen]
end Go.Proofs.YtijmigapdcikpaaDoor.Pure
