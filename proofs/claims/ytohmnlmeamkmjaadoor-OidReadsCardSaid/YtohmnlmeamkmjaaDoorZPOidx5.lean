import Derived.Test.YtohmnlmeamkmjaaDoorZPOidx0
import Derived.Test.YtohmnlmeamkmjaaDoorZPOidx1
namespace Go.Proofs.YtohmnlmeamkmjaaDoor.POid
open Go.RowKit Go.Proofs.YtohmnlmeamkmjaaDoorW.PrintWords Go.Proofs.YtohmnlmeamkmjaaDoorW.PrintLast Go.Proofs.YtohmnlmeamkmjaaDoorW.PrintMore
set_option linter.unusedVariables false
set_option linter.unusedSimpArgs false
def ggo : Nat → Int → Int → List Int
  | 0, _, _ => []
  | f + 1, n, m => (if 128 ≤ n then ggo f (n / 128) 128 else []) ++ [n % 128 + m]
theorem ggo_len : ∀ (f : Nat) (n m : Int), (ggo f n m).length ≤ f := by
  intro f
  induction f with
  | zero => intro n m; simp [ggo]
  | succ f ih =>
    intro n m
    rw [ggo]
    split
    · have := ih (n / 128) 128; simp; omega
    · simp
def GE (w0 W : World) (g o : Nat) (out : List Int) : Prop :=
  Below w0.heap.size w0 W ∧ w0.heap.size ≤ g ∧ w0.heap.size ≤ o ∧ g ≠ o ∧ W.heap[g]? = some (.cells #[.func (.func 41) #[] #[.pointer (some ⟨g, 0, none⟩), .pointer (some ⟨o, 0, none⟩)]] 63 (0, 0)) ∧
  ∃ v, W.heap[o]? = some (.cells #[v] 25 (0, 0)) ∧ Kd.R (Kd.int .u8) 5 W w0.heap.size (fun _ => True) v out
theorem GE.below {w0 W : World} {g o : Nat} {out : List Int} (h : GE w0 W g o out) : Below w0.heap.size w0 W := h.1
theorem GE.drewN {w0 W : World} {g o : Nat} {out : List Int} (h : GE w0 W g o out) (m : Nat) : GE w0 (W.drewN m) g o out := by
  obtain ⟨a, b, c, d, e, v, f, r⟩ := h
  exact ⟨pw_below_drewN a m, b, c, d, e, v, f, Kd.R_drewN r m⟩
theorem GE.func {w0 W : World} {g o : Nat} {out : List Int} (h : GE w0 W g o out) : W.cell? ⟨g, 0, none⟩ = some (.func (.func 41) #[] #[.pointer (some ⟨g, 0, none⟩), .pointer (some ⟨o, 0, none⟩)]) := (blk_cell h.2.2.2.2.1 0).trans rfl
theorem info_u8p : (Tryd.prog.info? 5).map (fun i => (i.zero, i.size, i.bytes)) = some (some (.int .u8 0), 1, 1) := by kernel_rfl
theorem GE.stored {w0 W w1 : World} {g o : Nat} {out : List Int} {A4 : Option Addr} {c4 : Nat} {x : Int} {v1 : Value} (hB : Below w0.heap.size w0 W) (hg : w0.heap.size ≤ g) (ho : w0.heap.size ≤ o) (hne : g ≠ o)
    (hbg : W.heap[g]? = some (.cells #[.func (.func 41) #[] #[.pointer (some ⟨g, 0, none⟩), .pointer (some ⟨o, 0, none⟩)]] 63 (0, 0)))
    (hbo : W.heap[o]? = some (.cells #[.slice A4 out.length c4] 25 (0, 0))) (hR : Kd.R (Kd.int .u8) 5 W w0.heap.size (fun _ => True) (.slice A4 out.length c4) out)
    (h1 : Kd.R (Kd.int .u8) 5 w1 w0.heap.size (fun _ => True) v1 (out ++ [x])) (hb1 : Below w0.heap.size w0 w1) (hgr : W.grownBy w1 (Value.slice A4 out.length c4).ownBlock) : GE w0 (w1.setCell ⟨o, 0, none⟩ v1) g o (out ++ [x]) := by
  have e1 := blk_grown hbo hgr (Kd.R_ne hR hbo (by decide))
  have e2 := blk_grown hbg hgr (Kd.R_ne hR hbg (by decide))
  exact ⟨below_set hb1 ho, hg, ho, hne, blk_far e2 hne _, v1, blk_set e1 0 v1, Kd.R_set h1 e1 (by decide) 0 v1⟩
theorem or_mark (n m : Int) (h0 : 0 ≤ n) (hm : m = 0 ∨ m = 128) : Go.bits .or .u8 (n % 128) m = n % 128 + m := by
  have hd : ∀ r : Fin 128, Go.bits .or .u8 (r.val : Int) 0 = (r.val : Int) + 0 ∧ Go.bits .or .u8 (r.val : Int) 128 = (r.val : Int) + 128 := by decide
  obtain ⟨r, hr⟩ := Int.eq_ofNat_of_zero_le (show 0 ≤ n % 128 by omega)
  rw [hr]
  have h2 := hd ⟨r, by omega⟩
  rcases hm with rfl | rfl
  · exact h2.1
  · exact h2.2
set_option maxHeartbeats 4000000 in
set_option maxRecDepth 100000 in
theorem group_last (w0 : World) (g o : Nat) (n m : Int) (out : List Int) (W : World) (h0 : 0 ≤ n) (hn : n < 128) (hm : m = 0 ∨ m = 128) (hl : out.length < 1000000) (hE : GE w0 W g o out) :
    Calls Tryd.prog 41 #[.int .u64 n, .int .u8 m, .pointer (some ⟨g, 0, none⟩), .pointer (some ⟨o, 0, none⟩)] W fun e w' => e = .returned (.tuple #[]) ∧ GE w0 w' g o (out ++ [n % 128 + m]) := by
  have b1 : decide (n ≥ 128) = false := decide_eq_false (by omega)
  obtain ⟨hB, hg, ho, hne, hbg, v, hbo, hR⟩ := hE
  have hco : W.cell? ⟨o, 0, none⟩ = some v := (blk_cell hbo 0).trans rfl
  have hfo : W.frozen? ⟨o, 0, none⟩ = false := blk_frozen hbo 0
  obtain ⟨A4, c4, rfl⟩ := Kd.R_slice hR
  have HO := Aside0.mk (or_mark n m h0 hm)
  have HALL := Aside0.mk (show _ ∧ _ ∧ _ ∧ _ ∧ _ ∧ _ ∧ _ from ⟨hB, hg, ho, hne, hbg, hbo, hR⟩)
  have HL := Aside0.mk hl
  clear hB hg ho hne hbg hbo hR hl
  go_enter Tryd.func41, Tryd.ntmps41
  go_wp2_with ((with_reducible refine gate_builtin (b := .append) (xs := #[.tmp 12, .tmp 18]) rfl ?_); at_builtin; refine Kd.R_append (Kd.int .u8) (w0 := w0) w0.heap.size rfl (.tmp 12) (.tmp 18) 25 5 (.int .u8 0) 1 rfl Tryd.underlying25 info_u8p rfl (by decide) (by omega) (.slice A4 out.length c4) out (Go.bits .or .u8 (n % 128) m) [.int .u8 (Go.bits .or .u8 (n % 128) m)] (fun _ => True) (fun _ => False) rfl rfl ?aP (fun _ hk => hk.elim) ?aF ?aO ?aB ?aS ?aL ?_; (case aP => exact rfl); (case aB => exact HALL.out.1); (case aF => exact (fun _ _ => trivial)); (case aO => exact HALL.out.2.2.2.2.2.2); (case aS => exact (below_size HALL.out.1)); (case aL => have := HL.out; omega); intro v1 w1 h1 hb1 hgr hat; rw [HO.out] at h1; obtain ⟨A1, c1, rfl⟩ := Kd.R_slice h1; have e1 := blk_grown HALL.out.2.2.2.2.2.1 hgr (Kd.R_ne HALL.out.2.2.2.2.2.2 HALL.out.2.2.2.2.2.1 (by decide)); have hc1 : w1.cell? ⟨o, 0, none⟩ = some (.slice A4 out.length c4) := (blk_cell e1 0).trans rfl; have hf1 := blk_frozen e1 0; have HS := Aside0.mk (GE.stored HALL.out.1 HALL.out.2.1 HALL.out.2.2.1 HALL.out.2.2.2.1 HALL.out.2.2.2.2.1 HALL.out.2.2.2.2.2.1 HALL.out.2.2.2.2.2.2 h1 hb1 hgr); clear h1 hb1 hgr hat e1)
  go_end0
  exact ⟨rfl, by simpa using HS.out⟩
set_option maxHeartbeats 4000000 in
set_option maxRecDepth 100000 in
theorem group_calls (w0 : World) (g o : Nat) : ∀ (f : Nat) (n m : Int) (out : List Int) (W : World), 0 ≤ n → n < 128 ^ (f + 1) → n < 18446744073709551616 → (m = 0 ∨ m = 128) → out.length + f < 1000000 → GE w0 W g o out →
    Calls Tryd.prog 41 #[.int .u64 n, .int .u8 m, .pointer (some ⟨g, 0, none⟩), .pointer (some ⟨o, 0, none⟩)] W fun e w' => e = .returned (.tuple #[]) ∧ GE w0 w' g o (out ++ ggo (f + 1) n m) := by
  intro f
  induction f with
  | zero =>
    intro n m out W h0 h1 h2 hm hl hE
    have hn : n < 128 := by simpa using h1
    have hgo : ggo (0 + 1) n m = [n % 128 + m] := by rw [ggo, if_neg (by omega)]; rfl
    rw [hgo]
    exact group_last w0 g o n m out W h0 hn hm (by omega) hE
  | succ f ih =>
    intro n m out W h0 h1 h2 hm hl hE
    by_cases hn : n < 128
    · have hgo : ggo (f + 1 + 1) n m = [n % 128 + m] := by rw [ggo, if_neg (by omega)]; rfl
      rw [hgo]
      exact group_last w0 g o n m out W h0 hn hm (by omega) hE
    · have hgo : ggo (f + 1 + 1) n m = ggo (f + 1) (n / 128) 128 ++ [n % 128 + m] := by rw [ggo, if_pos (by omega)]
      rw [hgo, ← List.append_assoc]
      have b1 : decide (n ≥ 128) = true := decide_eq_true (by omega)
      have hdiv : n / 128 < 128 ^ (f + 1) := by
        rw [Int.pow_succ] at h1
        omega
      have hc := ih (n / 128) 128 out W (by omega) hdiv (by omega) (.inr rfl) (by omega) hE
      have hlen := ggo_len (f + 1) (n / 128) 128
      have HC := Aside0.mk hc
      have hfun := hE.func
      have HO := Aside0.mk (or_mark n m h0 hm)
      have HL := Aside0.mk (show (out ++ ggo (f + 1) (n / 128) 128).length < 1000000 by rw [List.length_append]; omega)
      generalize out ++ ggo (f + 1) (n / 128) 128 = out2 at HC HL ⊢
      clear hE hc ih hl h1 hlen hgo hdiv
      go_enter Tryd.func41, Tryd.ntmps41
      go_wp2_with (first | (go_at_call 41; ((with_reducible refine HC.out.mono ?_); rintro e w2 ⟨rfl, hE2⟩; obtain ⟨hB, hg, ho, hne, hbg, v, hbo, hR⟩ := hE2; have hco : w2.cell? ⟨o, 0, none⟩ = some v := (blk_cell hbo 0).trans rfl; have hfo : w2.frozen? ⟨o, 0, none⟩ = false := blk_frozen hbo 0; obtain ⟨A4, c4, rfl⟩ := Kd.R_slice hR; have HALL := Aside0.mk (show _ ∧ _ ∧ _ ∧ _ ∧ _ ∧ _ ∧ _ from ⟨hB, hg, ho, hne, hbg, hbo, hR⟩); clear hB hg ho hne hbg hbo hR)) | ((with_reducible refine gate_builtin (b := .append) (xs := #[.tmp 12, .tmp 18]) rfl ?_); at_builtin; refine Kd.R_append (Kd.int .u8) (w0 := w0) w0.heap.size rfl (.tmp 12) (.tmp 18) 25 5 (.int .u8 0) 1 rfl Tryd.underlying25 info_u8p rfl (by decide) (by omega) (.slice A4 out2.length c4) out2 (Go.bits .or .u8 (n % 128) m) [.int .u8 (Go.bits .or .u8 (n % 128) m)] (fun _ => True) (fun _ => False) rfl rfl ?aP (fun _ hk => hk.elim) ?aF ?aO ?aB ?aS ?aL ?_; (case aP => exact rfl); (case aB => exact HALL.out.1); (case aF => exact (fun _ _ => trivial)); (case aO => exact HALL.out.2.2.2.2.2.2); (case aS => exact (below_size HALL.out.1)); (case aL => have := HL.out; omega); intro v1 w1 h1 hb1 hgr hat; rw [HO.out] at h1; obtain ⟨A1, c1, rfl⟩ := Kd.R_slice h1; have e1 := blk_grown HALL.out.2.2.2.2.2.1 hgr (Kd.R_ne HALL.out.2.2.2.2.2.2 HALL.out.2.2.2.2.2.1 (by decide)); have hc1 : w1.cell? ⟨o, 0, none⟩ = some (.slice A4 out2.length c4) := (blk_cell e1 0).trans rfl; have hf1 := blk_frozen e1 0; have HS := Aside0.mk (GE.stored HALL.out.1 HALL.out.2.1 HALL.out.2.2.1 HALL.out.2.2.2.1 HALL.out.2.2.2.2.1 HALL.out.2.2.2.2.2.1 HALL.out.2.2.2.2.2.2 h1 hb1 hgr); clear h1 hb1 hgr hat e1))
      go_end0
      exact ⟨rfl, by simpa using HS.out⟩
theorem rd_in {l : List Int} {i : Nat} (h : i < l.length) : rd l (i : Int) ∈ l := by
  unfold rd
  rw [Int.toNat_natCast, List.getD_eq_getElem?_getD, List.getElem?_eq_getElem h]
  exact List.getElem_mem h
def cont (l : List Int) : List Int := if validB l then ggo 9 (40 * rd l 0 + rd l 1) 0 ++ (l.drop 2).flatMap (fun n => ggo 9 n 0) else []
def u32B (l : List Int) : Bool := l.all fun n => decide (0 ≤ n ∧ n < 4294967296)
def oid_Content.f (l0 : List Int) : Option (List Int) := if u32B l0 = true then some (cont l0) else none
theorem info_u32q : (Tryd.prog.info? 33).map (fun i => (i.zero, i.size, i.bytes)) = some (some (.int .u32 0), 1, 4) := by kernel_rfl
theorem wrap_small {z : Int} (h0 : 0 ≤ z) (h1 : z < 18446744073709551616) : IntKind.u64.wrap z = z := by rw [IntKind.wrap_u64]; omega
theorem wrap_succ {i : Nat} (h : i < 4611686018427387904) : wrap64 ((i : Int) + 1) = ((i + 1 : Nat) : Int) := by unfold wrap64; omega
theorem flat_le (l : List Int) : (l.flatMap (fun n => ggo 9 n 0)).length ≤ 9 * l.length := by
  induction l with
  | nil => simp
  | cons x l ih =>
    have := ggo_len 9 x 0
    rw [List.flatMap_cons, List.length_append, List.length_cons]
    omega
set_option maxHeartbeats 8000000 in
set_option maxRecDepth 100000 in
theorem oid_Content.calls (A0 : Option Addr) (c0 : Nat) (l0 : List Int) (r : List Int) (w : World) (hr0 : Kd.C (Kd.int .u32) w A0 l0.length l0) (hc0 : l0.length ≤ c0) (h : oid_Content.f l0 = some r) :
    Calls Tryd.prog 15 #[.slice A0 l0.length c0] w fun e w' => ∃ v0_ : Value, e = .returned v0_ ∧ Kd.R (Kd.int .u8) 5 w' w.heap.size (fun _ => True) v0_ r ∧ Below w.heap.size w w' := by
  rw [oid_Content.f] at h
  split at h
  case isFalse => cases h
  rename_i hu
  obtain rfl := Option.some.inj h
  clear h
  have hu' : ∀ n ∈ l0, 0 ≤ n ∧ n < 4294967296 := fun n hn => of_decide_eq_true (List.all_eq_true.1 hu n hn)
  cases hv : validB l0 with
  | false =>
    rw [show cont l0 = [] by rw [cont, hv]; rfl]
    have hval := oid_Valid.calls A0 c0 l0 false w hr0 hc0 (congrArg some hv)
    go_enter Tryd.func15, Tryd.ntmps15
    go_wp2_with (go_at_call 16; ((with_reducible refine hval.mono ?_); rintro e w3 ⟨rfl, ⟨q, rfl⟩⟩))
    go_ret
    exact ⟨_, rfl, Kd.R_nil _ _ _ _ _, pw_below_drewN (Below.refl _ _) _⟩
  | true =>
    have hval := oid_Valid.calls A0 c0 l0 true w hr0 hc0 (congrArg some hv)
    have h2 : 2 ≤ l0.length ∧ l0.length ≤ 20 := by
      unfold validB at hv
      simp only [Bool.and_eq_true, decide_eq_true_eq] at hv
      exact ⟨hv.1, hv.2.1⟩
    rw [show cont l0 = ggo 9 (40 * rd l0 0 + rd l0 1) 0 ++ (l0.drop 2).flatMap (fun n => ggo 9 n 0) by rw [cont, hv]; rfl]
    obtain ⟨b, o, rfl, _, mx, blk, cell⟩ := row_plain hr0 (by omega)
    have HV := Aside0.mk hval
    have HC := Aside0.mk cell
    have HU := Aside0.mk hu'
    have HN := Aside0.mk h2
    clear hval cell hu' hu h2 hv hr0
    have hb1 : ∀ q, (((w.drewN q).alloc (Obj.cells #[.slice none 0 0] 25)).alloc (Obj.cells #[.nilFunc] 63)).heap[w.heap.size + 1]? = some (.cells #[.nilFunc] 63 (0, 0)) := fun q => by
      have h1 := blk_new ((w.drewN q).alloc (Obj.cells #[.slice none 0 0] 25)) (Obj.cells #[.nilFunc] 63)
      simpa using h1
    have hb0 : ∀ q, (((w.drewN q).alloc (Obj.cells #[.slice none 0 0] 25)).alloc (Obj.cells #[.nilFunc] 63)).heap[w.heap.size]? = some (.cells #[.slice none 0 0] 25 (0, 0)) := fun q => by
      have h1 := blk_alloc (blk_new (w.drewN q) (Obj.cells #[.slice none 0 0] 25)) (Obj.cells #[.nilFunc] 63)
      simpa using h1
    have hc1 := fun q => (blk_cell (hb1 q) 0).trans (show _ = some Value.nilFunc from rfl)
    have hf1 := fun q => blk_frozen (hb1 q) 0
    have hGE : ∀ q, GE w (((w.drewN q).alloc (Obj.cells #[.slice none 0 0] 25)).alloc (Obj.cells #[.func (.func 41) #[] #[.pointer (some ⟨w.heap.size + 1, 0, none⟩), .pointer (some ⟨w.heap.size, 0, none⟩)]] 63)) (w.heap.size + 1) w.heap.size [] := fun q => by
      have h1 := blk_new ((w.drewN q).alloc (Obj.cells #[.slice none 0 0] 25)) (Obj.cells #[.func (.func 41) #[] #[.pointer (some ⟨w.heap.size + 1, 0, none⟩), .pointer (some ⟨w.heap.size, 0, none⟩)]] 63)
      have h2 := blk_alloc (blk_new (w.drewN q) (Obj.cells #[.slice none 0 0] 25)) (Obj.cells #[.func (.func 41) #[] #[.pointer (some ⟨w.heap.size + 1, 0, none⟩), .pointer (some ⟨w.heap.size, 0, none⟩)]] 63)
      exact ⟨below_alloc (below_alloc (pw_below_drewN (Below.refl _ _) q) _) _, by omega, Nat.le_refl _, by omega, by simpa using h1, .slice none 0 0, by simpa using h2, Kd.R_nil _ _ _ _ _⟩
    have HG1 := Aside0.mk hGE
    clear hGE hb0 hb1
    go_enter Tryd.func15, Tryd.ntmps15
    go_wp2_with (go_at_call 16; ((with_reducible refine HV.out.mono ?_); rintro e w3 ⟨rfl, ⟨q, rfl⟩⟩))
    have hE := HG1.out q
    generalize ((w.drewN q).alloc (Obj.cells #[.slice none 0 0] 25)).alloc (Obj.cells #[.func (.func 41) #[] #[.pointer (some ⟨w.heap.size + 1, 0, none⟩), .pointer (some ⟨w.heap.size, 0, none⟩)]] 63) = W1 at hE ⊢
    clear HG1 hc1 hf1 HV
    have n2 := HN.out.1
    have x0 : W1.cell? ⟨b, o, none⟩ = some (.int .u32 (rd l0 0)) := (hE.below.cell (p := ⟨b, o, none⟩) blk).trans (by
      have := HC.out 0 (by omega)
      rw [Nat.add_zero] at this
      rw [this]; simp [rd, List.getD_eq_getElem?_getD, List.getElem!_eq_getElem?_getD])
    have x1 : W1.cell? ⟨b, o + 1, none⟩ = some (.int .u32 (rd l0 1)) := (hE.below.cell (p := ⟨b, o + 1, none⟩) blk).trans (by
      have := HC.out 1 (by omega)
      rw [this]; simp [rd, List.getD_eq_getElem?_getD, List.getElem!_eq_getElem?_getD])
    have i0 : (0 < l0.length) = True := eq_true (by omega)
    have i1 : (1 < l0.length) = True := eq_true (by omega)
    have j0 : ((0 : Int) < (l0.length : Int)) = True := eq_true (by omega)
    have j1 : ((1 : Int) < (l0.length : Int)) = True := eq_true (by omega)
    have bx := HU.out (rd l0 0) (rd_in (i := 0) (by omega))
    have by_ := HU.out (rd l0 1) (rd_in (i := 1) (by omega))
    have hfun := hE.func
    clear n2
    generalize hX : rd l0 0 = X at x0 bx
    generalize hY : rd l0 1 = Y at x1 by_
    have HX := Aside0.mk hX
    have HY := Aside0.mk hY
    clear hX hY
    have wx : IntKind.u64.wrap X = X := by rw [IntKind.wrap_u64]; omega
    have wy : IntKind.u64.wrap Y = Y := by rw [IntKind.wrap_u64]; omega
    have w40 : IntKind.u64.wrap (40 * X) = 40 * X := by rw [IntKind.wrap_u64]; omega
    have wxy : IntKind.u64.wrap (40 * X + Y) = 40 * X + Y := by rw [IntKind.wrap_u64]; omega
    have p9 : (128 : Int) ^ (8 + 1) = 9223372036854775808 := by decide
    have n9 : 40 * X + Y < (128 : Int) ^ (8 + 1) := by rw [p9]; omega
    have hgr := group_calls w (w.heap.size + 1) w.heap.size 8 (40 * X + Y) 0 [] W1.drew (by omega) n9 (by omega) (.inl rfl) (by decide) (hE.drewN 1)
    rw [List.nil_append] at hgr
    clear p9 n9
    have HGR := Aside0.mk hgr
    have HE := Aside0.mk hE
    clear hgr hE bx by_
    go_region_with (go_at_call 41; (with_reducible refine HGR.out.mono ?_); rintro e w2 ⟨rfl, hE2⟩; have HE2 := Aside0.mk hE2; clear hE2)
    all_goals
      clear x0 x1 hfun HGR HE
      generalize hout0 : ggo (8 + 1) (40 * X + Y) 0 = out0 at HE2
      have HOU := Aside0.mk hout0
      clear i0 i1 j0 j1 wx wy w40 wxy
      have n2 := HN.out.1
      have n20 := HN.out.2
      obtain ⟨i0_, hi0, hiz, his, hib⟩ := info_parts info_u32q
      have hcut0 := cut_from (P := Tryd.prog) 22 33 .i64 Tryd.underlying22 hi0 1 his (some ⟨b, o, none⟩) l0.length c0 2 (by decide) (by omega)
      obtain ⟨A', hA'⟩ : ∃ A', A' = (if c0 = (2 : Int).toNat then some ⟨b, o, none⟩ else (some (⟨b, o, none⟩ : Addr)).map (·.add ((2 : Int).toNat * 1))) := ⟨_, rfl⟩
      rw [← hA'] at hcut0
      have hA2 : 0 < l0.length - 2 → A' = some ⟨b, o + 2, none⟩ := fun hp => by
        rw [hA', if_neg (by show ¬ c0 = 2; omega)]
        rfl
      have hcut : ∀ W : World, (Instr.slice 22 (.slice (some ⟨b, o, none⟩) l0.length c0) (some (.int .i64 2)) none none).run Tryd.prog W = .ok (.slice A' (l0.length - 2) (c0 - 2)) W := hcut0
      have HA2 := Aside0.mk hA2
      have HCUT := Aside0.mk hcut
      clear hcut0 hA' hA2 hcut hi0 hiz his hib
      obtain ⟨m, hm⟩ : ∃ m, m = l0.length - 2 := ⟨_, rfl⟩
      rw [← hm] at HA2 HCUT
      have hcut := HCUT.out
      have HM := Aside0.mk (show m = l0.length - 2 ∧ m ≤ 18 ∧ 2 ≤ l0.length from ⟨hm, by omega, n2⟩)
      clear hm n2 n20 HCUT
      go_wp2
      go_loopg [26] m (fun kq v26 wr => ∃ (i : Nat), v26 = .int .i64 (i : Int) ∧ Aside0 (i ≤ m ∧ kq = m - i) ∧ Aside0 (GE w wr (w.heap.size + 1) w.heap.size (out0 ++ ((l0.drop 2).take i).flatMap (fun n => ggo 9 n 0))))
      case atStart => exact ⟨0, rfl, ⟨by omega⟩, ⟨by simpa using HE2.out⟩⟩
      case round =>
        obtain ⟨i, rfl, HI, HE⟩ := hrel
        obtain ⟨hi, hk⟩ := HI.out
        have hmm := HM.out
        by_cases ci : i < m
        · have cb : decide ((i : Int) < (m : Int)) = true := decide_eq_true (by omega)
          have cb2 : decide (i < m) = true := decide_eq_true ci
          have hlt : 2 + i < l0.length := by omega
          obtain rfl := HA2.out (by omega)
          have hx : wr.cell? ⟨b, o + 2 + i, none⟩ = some (.int .u32 l0[2 + i]) := (HE.out.below.cell (p := ⟨b, o + 2 + i, none⟩) blk).trans (by
            have := HC.out (2 + i) hlt
            rw [Nat.add_assoc, this]
            simp [List.getElem!_eq_getElem?_getD, hlt])
          have hfun := HE.out.func
          have hb := HU.out _ (List.getElem_mem hlt)
          have htk : (l0.drop 2).take (i + 1) = (l0.drop 2).take i ++ [l0[2 + i]] := by
            rw [List.take_succ_eq_append_getElem (by rw [List.length_drop]; omega), List.getElem_drop]
          generalize l0[2 + i] = z at hx hb htk
          have n9 : z < (128 : Int) ^ (8 + 1) := Int.lt_of_lt_of_le hb.2 (by decide)
          have hlen : (out0 ++ ((l0.drop 2).take i).flatMap (fun n => ggo 9 n 0)).length + 8 < 1000000 := by
            rw [List.length_append]
            have h1 := flat_le ((l0.drop 2).take i)
            have h2 : ((l0.drop 2).take i).length ≤ 18 := by rw [List.length_take]; clear n9; omega
            have h3 : out0.length ≤ 9 := by rw [← HOU.out]; exact ggo_len _ _ _
            clear n9
            omega
          have i1 : (i < m) = True := eq_true ci
          have j0 : (0 ≤ (i : Int)) = True := eq_true (Int.natCast_nonneg i)
          have j1 : ((i : Int) < (m : Int)) = True := eq_true (Int.ofNat_lt.2 ci)
          have z64 : z < 18446744073709551616 := Int.lt_trans hb.2 (by decide)
          have wz : IntKind.u64.wrap z = z := wrap_small hb.1 z64
          have w1 : wrap64 ((i : Int) + 1) = ((i + 1 : Nat) : Int) := wrap_succ (by clear n9 wz; omega)
          have hgr := group_calls w (w.heap.size + 1) w.heap.size 8 z 0 _ wr hb.1 n9 z64 (.inl rfl) hlen HE.out
          rw [List.append_assoc] at hgr
          have e5 : ((l0.drop 2).take i).flatMap (fun n => ggo 9 n 0) ++ ggo (8 + 1) z 0 = ((l0.drop 2).take (i + 1)).flatMap (fun n => ggo 9 n 0) := by rw [htk, List.flatMap_append]; simp
          rw [e5] at hgr
          have HGR := Aside0.mk hgr
          have HI2 := Aside0.mk (show i < m ∧ gk = m - i from ⟨ci, hk⟩)
          clear hgr e5 hlen n9 htk hb hlt HE HI hi hk ci hmm
          go_wp2_with (go_at_call 41; (with_reducible refine HGR.out.mono ?_); rintro e w2 ⟨rfl, hE2⟩; have HE3 := Aside0.mk hE2; clear hE2)
          go_roundg (m - (i + 1))
          case measure => have := HI2.out; omega
          case rel => exact ⟨i + 1, by first | rfl | (rw [← w1]), ⟨by have := HI2.out; omega⟩, HE3⟩
        · have cb : decide ((i : Int) < (m : Int)) = false := decide_eq_false (by omega)
          have cb2 : decide (i < m) = false := decide_eq_false ci
          have e6 : (l0.drop 2).take i = l0.drop 2 := List.take_of_length_le (by rw [List.length_drop]; omega)
          have hE := HE.out
          rw [e6] at hE
          obtain ⟨T, hT⟩ : ∃ T, T = out0 ++ (l0.drop 2).flatMap (fun n => ggo 9 n 0) := ⟨_, rfl⟩
          rw [← hT] at hE
          have HT := Aside0.mk hT
          clear hT
          obtain ⟨hB, hg, ho, hne, hbg, v, hbo, hR⟩ := hE
          have hco : wr.cell? ⟨w.heap.size, 0, none⟩ = some v := (blk_cell hbo 0).trans rfl
          obtain ⟨A4, c4, rfl⟩ := Kd.R_slice hR
          have HR := Aside0.mk hR
          have HB := Aside0.mk hB
          clear hB hg ho hne hbg hbo hR e6
          go_wp2
          go_ret
          refine ⟨_, rfl, ?_, HB.out⟩
          rw [HX.out, HY.out, show ggo 9 (40 * X + Y) 0 = out0 from HOU.out, ← HT.out]
          exact HR.out
end Go.Proofs.YtohmnlmeamkmjaaDoor.POid
