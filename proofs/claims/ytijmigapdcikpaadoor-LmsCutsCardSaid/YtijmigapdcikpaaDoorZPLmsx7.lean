import Derived.Test.YtijmigapdcikpaaDoorZPLmsx0
import Derived.Test.YtijmigapdcikpaaDoorZPLmsx2
import Derived.Test.YtijmigapdcikpaaDoorZPLmsx3
import Derived.Test.YtijmigapdcikpaaDoorZPLmsx6
namespace Go.Proofs.YtijmigapdcikpaaDoor.PLms
open Go.RowKit Go.Proofs.YtijmigapdcikpaaDoorW.PrintWords Go.Proofs.YtijmigapdcikpaaDoorW.PrintLast Go.Proofs.YtijmigapdcikpaaDoorW.PrintMore
set_option linter.unusedVariables false
set_option linter.unusedSimpArgs false
theorem grow_nil (n : Nat) (w : World) (h0 : 0 < n) (h1 : n ≤ 1000000000000) :
    Calls Tryd.prog 100 #[.slice none 0 0, .int .i64 (n : Int)] w fun e w' => ∃ v, e = .returned v ∧ Kd.R (Kd.int .u8) 5 w' w.heap.size (fun _ => True) v [] ∧ Below w.heap.size w w' := by
  obtain ⟨i0, hi0, hz⟩ := Option.map_eq_some_iff.1 (show (Tryd.prog.info? 5).map (fun i => (i.zero, i.size, i.bytes)) = some (some (.int .u8 0), 1, 1) by kernel_rfl)
  simp only [Prod.mk.injEq] at hz
  obtain ⟨hz0, hz1, hz2⟩ := hz
  have hb : decide ((n : Int) < 0) = false := decide_eq_false (by omega)
  have h4 : (n : Int) > 0 := by omega
  have hold : (Builtin.firstCells i0.size 0 (.slice none 0 0)).run Tryd.prog w.drew = .ok ([] : List Value).toArray w.drew := run_firstCells_none w.drew i0.size 0 0 0
  have hrz : ∀ ty, (Builtin.append_ #[22, 3] ty #[.slice none 0 0, .int .i64 (n : Int)]).run Tryd.prog w =
      .ok (.slice (some ⟨w.heap.size, 0, none⟩) n (grownCap w n 0 5)) (w.drew.alloc (.cells (([] : List Value).toArray ++ Builtin.zeroCells (Value.int .u8 0).cells n ++ Builtin.zeroCells (Value.int .u8 0).cells (grownCap w n 0 5 - n)) 5)) := fun ty => by
    have h := Lib.run_append_grow_zeros w 22 3 ty 5 i0 (.int .u8 0) .i64 .i64 Tryd.underlying22 Tryd.underlying3 hi0 hz0 none 0 0 [] hold n h0 (by omega) (by omega) (by omega) (by rw [hz2]; omega) (by rw [hz2]; exact growslice_fits (by omega) (by omega))
    simpa using h
  have hGn : n ≤ grownCap w n 0 5 := grownCap_ge w _ _ _
  have hGm : grownCap w n 0 5 ≤ maxLen := grownCap_le_maxLen w n 0 5 (by unfold maxLen; omega)
  obtain ⟨G, hG⟩ : ∃ G, G = grownCap w n 0 5 := ⟨_, rfl⟩
  rw [← hG] at hrz hGn hGm
  have hs : ((([] : List Value).toArray ++ Builtin.zeroCells (Value.int .u8 0).cells n ++ Builtin.zeroCells (Value.int .u8 0).cells (G - n)).size) = G * 1 := by
    have hc : (Value.int .u8 0).cells.size = 1 := rfl
    simp [size_zeroCells, hc]
    omega
  obtain ⟨cs, hcs⟩ : ∃ cs, cs = ([] : List Value).toArray ++ Builtin.zeroCells (Value.int .u8 0).cells n ++ Builtin.zeroCells (Value.int .u8 0).cells (G - n) := ⟨_, rfl⟩
  rw [← hcs] at hrz hs
  have HS := Aside0.mk hs
  have HM := Aside0.mk hGm
  have hG63 : G ≤ 9223372036854775807 := by unfold maxLen at hGm; omega
  clear hold hG hcs hi0 hz0 hz1 hz2 hs hGm
  go_enter Tryd.func100, Tryd.ntmps100
  go_wp2_with (at_builtin; refine Lib.wpList_append_run _ rfl _ _ _ _ rfl _ _ rfl rfl _ _ (hrz _) ?_)
  all_goals
    go_ret
    refine ⟨_, rfl, ⟨fun _ _ => trivial, [], ⟨rfl, .inr ⟨w.heap.size, G, cs, rfl, Nat.le_refl _, ?_, Nat.zero_le _, HM.out, HS.out, rfl⟩⟩, Reps.none _ _⟩, ?_⟩
    · exact blk_drew (blk_new w (.cells cs 5))
    · exact below_drew (below_alloc (Below.refl _ _) _)
theorem grow_zero (w : World) : Calls Tryd.prog 100 #[.slice none 0 0, .int .i64 0] w fun e w' => ∃ v, e = .returned v ∧ Kd.R (Kd.int .u8) 5 w' w.heap.size (fun _ => True) v [] ∧ Below w.heap.size w w' := by
  go_enter Tryd.func100, Tryd.ntmps100
  go_wp2
  go_ret
  exact ⟨_, rfl, Kd.R_nil _ _ _ _ _, Below.refl _ _⟩
theorem grow_any (n : Int) (w : World) (h0 : 0 ≤ n) (h1 : n ≤ 1000000000000) : Calls Tryd.prog 100 #[.slice none 0 0, .int .i64 n] w fun e w' => ∃ v, e = .returned v ∧ Kd.R (Kd.int .u8) 5 w' w.heap.size (fun _ => True) v [] ∧ Below w.heap.size w w' := by
  by_cases c : n = 0
  · subst c; exact grow_zero w
  · obtain ⟨m, rfl⟩ := Int.eq_ofNat_of_zero_le h0
    exact grow_nil m w (by omega) (by omega)
theorem sum_take_le (ps : List (List Int)) (i : Nat) : ((ps.take i).flatten).length ≤ ps.flatten.length := by
  conv => rhs; rw [← List.take_append_drop i ps, List.flatten_append, List.length_append]
  omega
theorem flat_snoc (ps : List (List Int)) (i : Nat) (h : i < ps.length) : (ps.take (i + 1)).flatten = (ps.take i).flatten ++ ps.getD i [] := by
  rw [List.take_succ_eq_append_getElem h, List.flatten_append]
  simp [List.getD_eq_getElem?_getD, List.getElem?_eq_getElem h]
theorem part_at {w : World} {A : Option Addr} {n : Nat} {ps : List (List Int)} (h : Kd.C (Kd.slice 5 (Kd.int .u8)) w A n ps) (i : Nat) (hi : i < n) :
    ∃ ad Ai ci, A = some ad ∧ w.cell? (ad.add i) = some (.slice Ai (ps.getD i []).length ci) ∧ (ps.getD i []).length ≤ ci ∧ Kd.C (Kd.int .u8) w Ai (ps.getD i []).length (ps.getD i []) := by
  obtain ⟨ad, c, e, _, ⟨Ai, ci, rfl, hl, hC⟩, hc⟩ := Kd.C_get h ([] : List Int) (i : Int) (by omega) (by omega)
  have h0 := hc 0 _ rfl
  rw [Nat.add_zero, Int.toNat_natCast, show i * (Kd.slice 5 (Kd.int .u8)).sz = i from Nat.mul_one i] at h0
  exact ⟨ad, Ai, ci, e, h0, hl, hC⟩
def slices_Concat.f (ps : List (List Int)) : Option (List Int) := if ps.length < 1000000 ∧ ps.flatten.length < 1000000000000 then some ps.flatten else none
set_option maxHeartbeats 4000000 in
set_option maxRecDepth 100000 in
theorem slices_Concat.calls (A0 : Option Addr) (c0 : Nat) (l0 : List (List Int)) (r : List Int) (w : World) (hr0 : Kd.C (Kd.slice 5 (Kd.int .u8)) w A0 l0.length l0) (hc0 : l0.length ≤ c0) (h : slices_Concat.f l0 = some r) :
    Calls Tryd.prog 91 #[.slice A0 l0.length c0] w fun e w' => ∃ v0_ : Value, e = .returned v0_ ∧ Kd.R (Kd.int .u8) 5 w' w.heap.size (fun _ => True) v0_ r ∧ Below w.heap.size w w' := by
  rw [slices_Concat.f] at h
  by_cases hc : l0.length < 1000000 ∧ l0.flatten.length < 1000000000000
  · rw [if_pos hc] at h
    obtain rfl := Option.some.inj h
    obtain ⟨hc1, hc2⟩ := hc
    have HC := Aside0.mk hr0
    have HT := Aside0.mk hc2
    clear hr0 h hc2
    go_enter Tryd.func91, Tryd.ntmps91
    go_wp2
    go_loopg [3, 11] l0.length (fun kq v3 v11 w' => ∃ (i : Nat), v3 = .int .i64 (((l0.take i).flatten.length : Nat) : Int) ∧ v11 = .int .i64 (i : Int) ∧ Aside0 (i ≤ l0.length ∧ kq = l0.length - i) ∧ w' = w)
    case atStart => exact ⟨0, by simp, rfl, ⟨by omega⟩, rfl⟩
    case round =>
      obtain ⟨i, rfl, rfl, HI, hw1⟩ := hrel
      have hw2 := hw1.symm
      clear hw1
      subst hw2
      obtain ⟨hi, hk⟩ := HI.out
      clear HI
      by_cases ci : i < l0.length
      · have ci' : decide ((i : Int) < (l0.length : Int)) = true := decide_eq_true (by omega)
        have ci2 : decide (i < l0.length) = true := decide_eq_true ci
        obtain ⟨ad, Ai, cc, ea, hx, hl, hC⟩ := part_at HC.out i ci
        cases ea
        have hfs := flat_snoc l0 i ci
        have hle := sum_take_le l0 (i + 1)
        rw [hfs, List.length_append] at hle
        have es : (((l0.take (i + 1)).flatten.length : Nat) : Int) = (((l0.take i).flatten.length : Nat) : Int) + (((l0.getD i []).length : Nat) : Int) := by rw [hfs, List.length_append]; omega
        have HE := Aside0.mk es
        have h12 := HT.out
        clear hfs es hC
        generalize (l0.getD i []).length = m at hx hl hle HE
        generalize (l0.take i).flatten.length = S at hle HE ⊢
        have hS1 : (S : Int) + (m : Int) < 1000000000000 := by omega
        have hS2 : decide ((S : Int) + (m : Int) < 0) = false := decide_eq_false (by omega)
        clear hle h12
        have hi0 : (0 ≤ (i : Int)) = True := eq_true (by omega)
        have hi1 : ((i : Int) < (l0.length : Int)) = True := eq_true (by omega)
        go_wp2
        go_roundg (gk - 1)
        case measure => omega
        case rel => exact ⟨i + 1, by rw [HE.out], by go_num, ⟨by omega⟩, rfl⟩
      · have ci' : decide ((i : Int) < (l0.length : Int)) = false := decide_eq_false (by omega)
        have ci2 : decide (i < l0.length) = false := decide_eq_false ci
        have et : l0.take i = l0 := List.take_of_length_le (by omega)
        rw [et]
        have h12 := HT.out
        obtain ⟨Tt, hTt⟩ : ∃ Tt, Tt = l0.flatten.length := ⟨_, rfl⟩
        rw [← hTt] at h12 ⊢
        have HTt := Aside0.mk hTt
        clear et hTt ci
        go_wp2_with (go_at_call 100; ((with_reducible refine (grow_any _ _ (by omega) (by omega)).mono ?_); rintro ev w1 ⟨v, rfl, hR, hb⟩; have HR := Aside0.mk hR; have HB := Aside0.mk hb; clear hR hb))
        have HR0 := Aside0.mk (Kd.R_lower HR.out (Nat.le_refl _))
        clear HTt h12
        go_loopg [6, 27] l0.length (fun kq v6 v27 w' => ∃ (j : Nat), v27 = .int .i64 (j : Int) ∧ Aside0 (j ≤ l0.length ∧ kq = l0.length - j) ∧ Aside0 (Kd.R (Kd.int .u8) 5 w' w.heap.size (fun _ => True) v6 (l0.take j).flatten) ∧ Aside0 (Below w.heap.size w w'))
        case atStart => exact ⟨0, rfl, ⟨by omega⟩, ⟨HR0.out⟩, HB⟩
        case round =>
          clear HR HB HR0
          obtain ⟨j, rfl, HJ, HR, HB⟩ := hrel
          obtain ⟨hj, hk2⟩ := HJ.out
          clear HJ hi hk
          by_cases cj : j < l0.length
          · have cj' : decide ((j : Int) < (l0.length : Int)) = true := decide_eq_true (by omega)
            have cj2 : decide (j < l0.length) = true := decide_eq_true cj
            obtain ⟨ad, Ai, cc, ea, hx0, hl, hC0⟩ := part_at HC.out j cj
            cases ea
            have hx := pw_cell_below HB.out hx0
            have HC1 := Aside0.mk (Kd.C_below hC0 HB.out)
            have hfs := flat_snoc l0 j cj
            have hle := sum_take_le l0 (j + 1)
            have h12 := HT.out
            rw [hfs, List.length_append] at hle
            have HF := Aside0.mk hfs
            clear hfs hx0 hC0
            generalize (l0.take j).flatten = X at HR HF hle
            generalize l0.getD j [] = Y at hx hl HC1 HF hle
            have hXY : (X.length + Y.length) * 1 ≤ 140737488355328 := by omega
            have HXY := Aside0.mk hXY
            clear hle hXY h12
            have hi0 : (0 ≤ (j : Int)) = True := eq_true (by omega)
            have hi1 : ((j : Int) < (l0.length : Int)) = True := eq_true (by omega)
            go_wp2_with ((with_reducible refine gate_builtin (b := .append) (xs := #[.tmp 31, .tmp 32]) rfl ?_); at_builtin; refine Kd.R_append_rows (Kd.int .u8) (w0 := w) w.heap.size rfl (.tmp 31) (.tmp 32) 22 5 (.int .u8 0) 1 rfl Tryd.underlying22 info5 rfl (by decide) (by omega) u6 X Y _ _ _ (fun _ => True) (fun _ => False) rfl rfl ?aO ?aR (fun _ _ h => h) (fun _ h => h.elim) ?aF ?aB ?aS ?aL ?_; (case aO => exact HR.out); (case aR => exact HC1.out); (case aF => exact fun _ _ => trivial); (case aB => exact HB.out); (case aS => exact HB.out.size); (case aL => exact HXY.out); intro v2 w2 ho hb _ _; have HO2 := Aside0.mk ho; have HB2 := Aside0.mk hb; clear ho hb)
            go_roundg (gk - 1)
            case measure => omega
            case rel => exact ⟨j + 1, by go_num, ⟨by omega⟩, ⟨by rw [HF.out]; exact HO2.out⟩, HB2⟩
          · have cj' : decide ((j : Int) < (l0.length : Int)) = false := decide_eq_false (by omega)
            have cj2 : decide (j < l0.length) = false := decide_eq_false cj
            have et : l0.take j = l0 := List.take_of_length_le (by omega)
            have hr := HR.out
            rw [et] at hr
            have HR2 := Aside0.mk hr
            clear hr et
            go_wp2
            go_ret
            exact ⟨_, rfl, HR2.out, HB.out⟩
  · rw [if_neg hc] at h
    cases h
theorem wire_Join.calls (A0 : Option Addr) (c0 : Nat) (l0 : List (List Int)) (r : List Int) (w : World) (hr0 : Kd.C (Kd.slice 5 (Kd.int .u8)) w A0 l0.length l0) (hc0 : l0.length ≤ c0) (h : slices_Concat.f l0 = some r) :
    Calls Tryd.prog 72 #[.slice A0 l0.length c0] w fun e w' => ∃ v0_ : Value, e = .returned v0_ ∧ Kd.R (Kd.int .u8) 5 w' w.heap.size (fun _ => True) v0_ r ∧ Below w.heap.size w w' := by
  have HC := Aside0.mk (slices_Concat.calls A0 c0 l0 r w hr0 hc0 h)
  clear hr0 h
  go_enter Tryd.func72, Tryd.ntmps72
  go_wp2_with (go_at_call 91; ((with_reducible refine (HC.out).mono ?_); rintro ev w' ⟨v, rfl, hR, hb⟩))
  go_ret
  exact ⟨_, rfl, hR, hb⟩
theorem C_made (W : World) (m : Nat) (hm : m ≤ 1000000000000) : Kd.C (Kd.int .u8) (W.alloc (.cells (madeCells #[.int .u8 0] m) 5)) (some ⟨W.heap.size, 0, none⟩) (List.replicate m (0 : Int)).length (List.replicate m 0) := by
  obtain ⟨A, c, e, hr⟩ := own_reads (own_made W W.heap.size 5 .u8 m (Nat.le_refl _) (by omega))
  injection e with e1 e2 e3
  subst e1
  rw [List.length_replicate]
  exact Kd.C_of_reads (d := (0 : Int)) (enc := Value.int .u8) (h1 := fun _ => rfl) hr
theorem C_five (W : World) (b t : Nat) {v0 v1 v2 v3 v4 : Value} {x0 x1 x2 x3 x4 : List Int} (hb : W.heap[b]? = some (.cells #[v0, v1, v2, v3, v4] t (0, 0)))
    (h0 : (Kd.slice 5 (Kd.int .u8)).K W x0 [v0]) (h1 : (Kd.slice 5 (Kd.int .u8)).K W x1 [v1]) (h2 : (Kd.slice 5 (Kd.int .u8)).K W x2 [v2]) (h3 : (Kd.slice 5 (Kd.int .u8)).K W x3 [v3]) (h4 : (Kd.slice 5 (Kd.int .u8)).K W x4 [v4]) :
    Kd.C (Kd.slice 5 (Kd.int .u8)) W (some ⟨b, 0, none⟩) [x0, x1, x2, x3, x4].length [x0, x1, x2, x3, x4] := by
  have hcell : ∀ j v, (#[v0, v1, v2, v3, v4] : Array Value)[j]? = some v → ∀ i u, [v][i]? = some u → W.cell? ((⟨b, 0, none⟩ : Addr).add (j * 1 + i)) = some u := by
    intro j v hv i u hu
    match i, hu with
    | 0, hu =>
      obtain rfl := Option.some.inj hu
      rw [add_plain, Nat.mul_one, Nat.add_zero]
      exact (blk_cell hb j).trans hv
  refine ⟨rfl, by simp, fun _ => ⟨⟨b, 0, none⟩, rfl, fun j p hj => ?_⟩⟩
  match j, hj with
  | 0, hj => obtain rfl := Option.some.inj hj; exact ⟨[v0], rfl, h0, hcell 0 v0 rfl⟩
  | 1, hj => obtain rfl := Option.some.inj hj; exact ⟨[v1], rfl, h1, hcell 1 v1 rfl⟩
  | 2, hj => obtain rfl := Option.some.inj hj; exact ⟨[v2], rfl, h2, hcell 2 v2 rfl⟩
  | 3, hj => obtain rfl := Option.some.inj hj; exact ⟨[v3], rfl, h3, hcell 3 v3 rfl⟩
  | 4, hj => obtain rfl := Option.some.inj hj; exact ⟨[v4], rfl, h4, hcell 4 v4 rfl⟩
theorem K_of_C {W : World} {A : Option Addr} {c : Nat} {x : List Int} (h : Kd.C (Kd.int .u8) W A x.length x) (hc : x.length ≤ c) : (Kd.slice 5 (Kd.int .u8)).K W x [.slice A x.length c] := ⟨A, c, rfl, hc, h⟩
section
variable (w : World) {Aq Ao At : Option Addr} {cq co ct : Nat} {bq bo bt : List Int} (m1 m2 : Nat)
  (hq : Kd.C (Kd.int .u8) w Aq bq.length bq) (hqc : bq.length ≤ cq) (ho : Kd.C (Kd.int .u8) w Ao bo.length bo) (hoc : bo.length ≤ co) (ht : Kd.C (Kd.int .u8) w At bt.length bt) (htc : bt.length ≤ ct)
  (hm1 : m1 < 100000) (hm2 : m2 < 100000) (hl : bq.length + bo.length + bt.length < 100000)
include hq hqc ho hoc ht htc hm1 hm2 hl
theorem join_A : Calls Tryd.prog 72 #[.slice (some ⟨w.heap.size + 1 + 1, 0, none⟩) 5 5]
    (((w.alloc (.cells (madeCells #[.int .u8 0] m1) 5)).alloc (.cells (madeCells #[.int .u8 0] m2) 5)).alloc (.cells #[.slice Aq bq.length cq, .slice Ao bo.length co, .slice (some ⟨w.heap.size, 0, none⟩) m1 m1, .slice At bt.length ct, .slice (some ⟨w.heap.size + 1, 0, none⟩) m2 m2] 22)).drew
    fun e w' => ∃ v, e = .returned v ∧ Kd.R (Kd.int .u8) 5 w' w.heap.size (fun _ => True) v (bq ++ (bo ++ (List.replicate m1 0 ++ (bt ++ List.replicate m2 0)))) ∧ Below w.heap.size w w' := by
  obtain ⟨W1, hW1⟩ : ∃ W1, W1 = w.alloc (.cells (madeCells #[.int .u8 0] m1) 5) := ⟨_, rfl⟩
  obtain ⟨W2, hW2⟩ : ∃ W2, W2 = W1.alloc (.cells (madeCells #[.int .u8 0] m2) 5) := ⟨_, rfl⟩
  obtain ⟨W3, hW3⟩ : ∃ W3, W3 = (W2.alloc (.cells #[.slice Aq bq.length cq, .slice Ao bo.length co, .slice (some ⟨w.heap.size, 0, none⟩) m1 m1, .slice At bt.length ct, .slice (some ⟨w.heap.size + 1, 0, none⟩) m2 m2] 22)).drew := ⟨_, rfl⟩
  rw [← hW1, ← hW2, ← hW3]
  have s1 : W1.heap.size = w.heap.size + 1 := by rw [hW1]; simp
  have s2 : W2.heap.size = w.heap.size + 1 + 1 := by rw [hW2]; simp [s1]
  have b1 : Below w.heap.size w W1 := by rw [hW1]; exact below_alloc (Below.refl _ _) _
  have b2 : Below W1.heap.size W1 W2 := by rw [hW2]; exact below_alloc (Below.refl _ _) _
  have b3 : Below W2.heap.size W2 W3 := by rw [hW3]; exact below_drew (below_alloc (Below.refl _ _) _)
  have b12 := below_step b1 b2
  have b13 := below_step b12 b3
  have c1 : Kd.C (Kd.int .u8) W1 (some ⟨w.heap.size, 0, none⟩) (List.replicate m1 (0 : Int)).length (List.replicate m1 0) := by rw [hW1]; exact C_made w m1 (by omega)
  have c2 : Kd.C (Kd.int .u8) W2 (some ⟨w.heap.size + 1, 0, none⟩) (List.replicate m2 (0 : Int)).length (List.replicate m2 0) := by rw [hW2, ← s1]; exact C_made W1 m2 (by omega)
  have hb : W3.heap[w.heap.size + 1 + 1]? = some (.cells #[.slice Aq bq.length cq, .slice Ao bo.length co, .slice (some ⟨w.heap.size, 0, none⟩) m1 m1, .slice At bt.length ct, .slice (some ⟨w.heap.size + 1, 0, none⟩) m2 m2] 22 (0, 0)) := by
    rw [hW3, ← s2]; exact blk_drew (blk_new W2 _)
  have k1 := K_of_C (c := m1) (Kd.C_below c1 (below_step b2 b3)) (by simp)
  have k2 := K_of_C (c := m2) (Kd.C_below c2 b3) (by simp)
  rw [List.length_replicate] at k1 k2
  have hC := C_five W3 _ _ hb (K_of_C (Kd.C_below hq b13) hqc) (K_of_C (Kd.C_below ho b13) hoc) k1 (K_of_C (Kd.C_below ht b13) htc) k2
  refine (wire_Join.calls _ 5 [bq, bo, List.replicate m1 0, bt, List.replicate m2 0] (bq ++ (bo ++ (List.replicate m1 0 ++ (bt ++ List.replicate m2 0)))) W3 hC (by simp) ?_).mono ?_
  · rw [slices_Concat.f, if_pos ⟨by simp, by simp; omega⟩]
    simp
  · rintro e w' ⟨v, rfl, hR, hb'⟩
    exact ⟨v, rfl, Kd.R_lower hR b13.size, below_step b13 hb'⟩
theorem join_B : Calls Tryd.prog 72 #[.slice (some ⟨w.heap.size + 1 + 1, 0, none⟩) 5 5]
    (((w.alloc (.cells (madeCells #[.int .u8 0] m2) 5)).alloc (.cells (madeCells #[.int .u8 0] m1) 5)).alloc (.cells #[.slice Aq bq.length cq, .slice Ao bo.length co, .slice (some ⟨w.heap.size + 1, 0, none⟩) m1 m1, .slice At bt.length ct, .slice (some ⟨w.heap.size, 0, none⟩) m2 m2] 22)).drew
    fun e w' => ∃ v, e = .returned v ∧ Kd.R (Kd.int .u8) 5 w' w.heap.size (fun _ => True) v (bq ++ (bo ++ (List.replicate m1 0 ++ (bt ++ List.replicate m2 0)))) ∧ Below w.heap.size w w' := by
  obtain ⟨W1, hW1⟩ : ∃ W1, W1 = w.alloc (.cells (madeCells #[.int .u8 0] m2) 5) := ⟨_, rfl⟩
  obtain ⟨W2, hW2⟩ : ∃ W2, W2 = W1.alloc (.cells (madeCells #[.int .u8 0] m1) 5) := ⟨_, rfl⟩
  obtain ⟨W3, hW3⟩ : ∃ W3, W3 = (W2.alloc (.cells #[.slice Aq bq.length cq, .slice Ao bo.length co, .slice (some ⟨w.heap.size + 1, 0, none⟩) m1 m1, .slice At bt.length ct, .slice (some ⟨w.heap.size, 0, none⟩) m2 m2] 22)).drew := ⟨_, rfl⟩
  rw [← hW1, ← hW2, ← hW3]
  have s1 : W1.heap.size = w.heap.size + 1 := by rw [hW1]; simp
  have s2 : W2.heap.size = w.heap.size + 1 + 1 := by rw [hW2]; simp [s1]
  have b1 : Below w.heap.size w W1 := by rw [hW1]; exact below_alloc (Below.refl _ _) _
  have b2 : Below W1.heap.size W1 W2 := by rw [hW2]; exact below_alloc (Below.refl _ _) _
  have b3 : Below W2.heap.size W2 W3 := by rw [hW3]; exact below_drew (below_alloc (Below.refl _ _) _)
  have b12 := below_step b1 b2
  have b13 := below_step b12 b3
  have c1 : Kd.C (Kd.int .u8) W1 (some ⟨w.heap.size, 0, none⟩) (List.replicate m2 (0 : Int)).length (List.replicate m2 0) := by rw [hW1]; exact C_made w m2 (by omega)
  have c2 : Kd.C (Kd.int .u8) W2 (some ⟨w.heap.size + 1, 0, none⟩) (List.replicate m1 (0 : Int)).length (List.replicate m1 0) := by rw [hW2, ← s1]; exact C_made W1 m1 (by omega)
  have hb : W3.heap[w.heap.size + 1 + 1]? = some (.cells #[.slice Aq bq.length cq, .slice Ao bo.length co, .slice (some ⟨w.heap.size + 1, 0, none⟩) m1 m1, .slice At bt.length ct, .slice (some ⟨w.heap.size, 0, none⟩) m2 m2] 22 (0, 0)) := by
    rw [hW3, ← s2]; exact blk_drew (blk_new W2 _)
  have k1 := K_of_C (c := m2) (Kd.C_below c1 (below_step b2 b3)) (by simp)
  have k2 := K_of_C (c := m1) (Kd.C_below c2 b3) (by simp)
  rw [List.length_replicate] at k1 k2
  have hC := C_five W3 _ _ hb (K_of_C (Kd.C_below hq b13) hqc) (K_of_C (Kd.C_below ho b13) hoc) k2 (K_of_C (Kd.C_below ht b13) htc) k1
  refine (wire_Join.calls _ 5 [bq, bo, List.replicate m1 0, bt, List.replicate m2 0] (bq ++ (bo ++ (List.replicate m1 0 ++ (bt ++ List.replicate m2 0)))) W3 hC (by simp) ?_).mono ?_
  · rw [slices_Concat.f, if_pos ⟨by simp, by simp; omega⟩]
    simp
  · rintro e w' ⟨v, rfl, hR, hb'⟩
    exact ⟨v, rfl, Kd.R_lower hR b13.size, below_step b13 hb'⟩
end
def be4 (x : Int) : List Int := [x / 16777216 % 256, x / 65536 % 256, x / 256 % 256, x % 256]
theorem put4_ (x : Int) (h0 : 0 ≤ x) (h1 : x < 4294967296) : wire_Put.f 20 4 x = some (be4 x, true) := by
  have e : x / 4294967296 = 0 := Int.ediv_eq_zero_of_lt h0 (by omega)
  simp [wire_Put.f, wire_width.f, wire_Put.j0, wire_Put.l0, wrap64, shr, IntKind.bits, e, be4]
def sgl (q o t : Int) : List Int := if (hgt t).2 = true ∧ (chn o).2 = true then be4 q ++ (be4 o ++ (List.replicate (32 * (1 + (chn o).1)).toNat 0 ++ (be4 t ++ List.replicate (32 * (hgt t).1).toNat 0))) else []
def szf (t o : Int) : Int := if (hgt t).2 = true ∧ (chn o).2 = true then 12 + 32 * (1 + (chn o).1 + (hgt t).1) else 0
theorem size_f (t o : Int) : lms_Size.f t o = some (szf t o) := by
  rw [lms_Size.f, show lms_Height.f t = some (hgt t) from rfl, show lms_Chains.f o = some (chn o) from rfl]
  simp only [Option.bind_some]
  unfold szf
  by_cases a : (hgt t).2 = true
  · by_cases b : (chn o).2 = true
    · have h1 := hgt_bd a
      have h2 := chn_bd b
      rw [if_pos a, if_pos b, if_pos ⟨a, b⟩]
      congr 1
      unfold wrap64
      omega
    · rw [if_pos a, if_neg b, if_neg (fun h => b h.2)]
  · rw [if_neg a, if_neg (fun h => a h.1)]
set_option maxHeartbeats 4000000 in
set_option maxRecDepth 100000 in
theorem sig_yes (q o t : Int) (w : World) (c h : Int) (hc0 : 0 ≤ c) (hc1 : c ≤ 265) (hh0 : 0 ≤ h) (hh1 : h ≤ 25) (q0 : 0 ≤ q) (q1 : q < 4294967296) (o0 : 0 ≤ o) (o1 : o < 4294967296) (t0 : 0 ≤ t) (t1 : t < 4294967296) (hG : GOK w) (z : Int) (hz : z > 0) (HZ : Aside0 (lms_Size.f t o = some z)) (HC : Aside0 (lms_Chains.f o = some (c, true))) (HH : Aside0 (lms_Height.f t = some (h, true)))
    (bq bo bt : List Int) (HQ : Aside0 (wire_Put.f 20 4 q = some (bq, true))) (HO : Aside0 (wire_Put.f 20 4 o = some (bo, true))) (HT : Aside0 (wire_Put.f 20 4 t = some (bt, true))) (hl : bq.length + bo.length + bt.length < 100000) :
    Calls Tryd.prog 39 #[.int .u32 q, .int .u32 o, .int .u32 t] w fun e w' => ∃ v, e = .returned v ∧ Kd.R (Kd.int .u8) 5 w' w.heap.size (fun _ => True) v (bq ++ (bo ++ (List.replicate (32 * (1 + c)).toNat 0 ++ (bt ++ List.replicate (32 * h).toNat 0)))) ∧ Below w.heap.size w w' := by
  obtain ⟨m1, hm1⟩ : ∃ m : Nat, (m : Int) = 32 * (1 + c) := ⟨(32 * (1 + c)).toNat, Int.toNat_of_nonneg (by omega)⟩
  obtain ⟨m2, hm2⟩ : ∃ m : Nat, (m : Int) = 32 * h := ⟨(32 * h).toNat, Int.toNat_of_nonneg (by omega)⟩
  have n1 : (32 * (1 + c)).toNat = m1 := by omega
  have n2 : (32 * h).toNat = m2 := by omega
  rw [n1, n2]
  have k1 := print_make (P := Tryd.prog) 22 5 .u8 1 Tryd.underlying22 info5 (by decide) m1 (by omega)
  have k2 := print_make (P := Tryd.prog) 22 5 .u8 1 Tryd.underlying22 info5 (by decide) m2 (by omega)
  rw [hm1] at k1
  rw [hm2] at k2
  have e1 : IntKind.i64.wrap (1 + c) = 1 + c := by rw [IntKind.wrap_i64]; omega
  have e2 : IntKind.i64.wrap (32 * (1 + c)) = 32 * (1 + c) := by rw [IntKind.wrap_i64]; omega
  have e3 : IntKind.i64.wrap (32 * h) = 32 * h := by rw [IntKind.wrap_i64]; omega
  have b : (z == 0) = false := beq_eq_false_iff_ne.mpr (by omega)
  have HW := Aside0.mk (Below.refl w.heap.size w)
  have HL := Aside0.mk hl
  have HM := Aside0.mk (show m1 < 100000 ∧ m2 < 100000 from ⟨by omega, by omega⟩)
  clear hl hm1 hm2 n1 n2
  go_enter Tryd.func39, Tryd.ntmps39
  go_wp2_with (first | (go_at_call 37; ((with_reducible refine (lms_Size.calls t o z _ HZ.out hG).mono ?_); rintro ev w' ⟨rfl, hd⟩; have hG := hG.below hd.below; have HW := Aside0.mk (below_step HW.out hd.below); clear hd)) | (go_at_call 34; ((with_reducible refine (lms_Chains.calls o c true _ HC.out hG).mono ?_); rintro ev w' ⟨rfl, hd⟩; have hG := hG.below hd.below; have HW := Aside0.mk (below_step HW.out hd.below); clear hd)) | (go_at_call 33; ((with_reducible refine (lms_Height.calls t h true _ HH.out hG).mono ?_); rintro ev w' ⟨rfl, hd⟩; have hG := hG.below hd.below; have HW := Aside0.mk (below_step HW.out hd.below); clear hd)) | (go_at_call 71; ((with_reducible refine (wire_Put.calls 20 4 q bq true _ HQ.out).mono ?_); rintro ev w' ⟨v, rfl, hR, hb⟩; obtain ⟨Aq, cq, rfl⟩ := Kd.R_slice hR; have Rq := Aside0.mk hR; have Bq := Aside0.mk hb; have hG := hG.below hb; have HW := Aside0.mk (below_step HW.out hb); clear hb hR)) | (go_at_call 71; ((with_reducible refine (wire_Put.calls 20 4 o bo true _ HO.out).mono ?_); rintro ev w' ⟨v, rfl, hR, hb⟩; obtain ⟨Ao, co, rfl⟩ := Kd.R_slice hR; have Ro := Aside0.mk hR; have Bo := Aside0.mk hb; have hG := hG.below hb; have HW := Aside0.mk (below_step HW.out hb); clear hb hR)) | (go_at_call 71; ((with_reducible refine (wire_Put.calls 20 4 t bt true _ HT.out).mono ?_); rintro ev w' ⟨v, rfl, hR, hb⟩; obtain ⟨At, ct, rfl⟩ := Kd.R_slice hR; have Rt := Aside0.mk hR; have Bt := Aside0.mk hb; have hG := hG.below hb; have HW := Aside0.mk (below_step HW.out hb); clear hb hR)))
  have hq := Kd.C_below (Kd.C_below (Kd.R_reads' Rq.out).2.2 Bo.out) Bt.out
  have ho := Kd.C_below (Kd.R_reads' Ro.out).2.2 Bt.out
  have ht := (Kd.R_reads' Rt.out).2.2
  have JA := Aside0.mk (join_A w' m1 m2 hq (Kd.R_reads' Rq.out).2.1 ho (Kd.R_reads' Ro.out).2.1 ht (Kd.R_reads' Rt.out).2.1 HM.out.1 HM.out.2 HL.out)
  have JB := Aside0.mk (join_B w' m1 m2 hq (Kd.R_reads' Rq.out).2.1 ho (Kd.R_reads' Ro.out).2.1 ht (Kd.R_reads' Rt.out).2.1 HM.out.1 HM.out.2 HL.out)
  clear hq ho ht
  go_region_with (go_at_call 72; (first | (with_reducible refine JA.out.mono ?_) | (with_reducible refine JB.out.mono ?_)); rintro ev w2 ⟨v, rfl, hR, hb⟩; have HR2 := Aside0.mk hR; have HB2 := Aside0.mk hb; clear hR hb)
  all_goals
    go_wp2
    go_ret
    exact ⟨_, rfl, Kd.R_lower HR2.out HW.out.size, below_step HW.out HB2.out⟩
theorem sig_no (q o t : Int) (w : World) (hG : GOK w) (HZ : Aside0 (lms_Size.f t o = some 0)) :
    Calls Tryd.prog 39 #[.int .u32 q, .int .u32 o, .int .u32 t] w fun e w' => ∃ v, e = .returned v ∧ Kd.R (Kd.int .u8) 5 w' w.heap.size (fun _ => True) v [] ∧ Below w.heap.size w w' := by
  have HW := Aside0.mk (Below.refl w.heap.size w)
  obtain ⟨z, hz⟩ : ∃ z : Int, z = 0 := ⟨0, rfl⟩
  rw [← hz] at HZ
  have b : (z == 0) = true := beq_iff_eq.mpr hz
  clear hz
  go_enter Tryd.func39, Tryd.ntmps39
  go_wp2_with (go_at_call 37; ((with_reducible refine (lms_Size.calls t o z _ HZ.out hG).mono ?_); rintro ev w' ⟨rfl, hd⟩; have hG := hG.below hd.below; have HW := Aside0.mk (below_step HW.out hd.below); clear hd))
  go_ret
  exact ⟨_, rfl, Kd.R_nil _ _ _ _ _, HW.out⟩
def lms_Signature.f (a0 a1 a2 : Int) : Option (List Int) := if (0 ≤ a0 ∧ a0 < 4294967296) ∧ (0 ≤ a1 ∧ a1 < 4294967296) ∧ (0 ≤ a2 ∧ a2 < 4294967296) then some (sgl a0 a1 a2) else none
theorem lms_Signature.calls (a0 a1 a2 : Int) (r : List Int) (w : World) (h : lms_Signature.f a0 a1 a2 = some r) (hG : GOK w) :
    Calls Tryd.prog 39 #[.int .u32 a0, .int .u32 a1, .int .u32 a2] w fun e w' => ∃ v0_ : Value, e = .returned v0_ ∧ Kd.R (Kd.int .u8) 5 w' w.heap.size (fun _ => True) v0_ r ∧ Below w.heap.size w w' := by
  rw [lms_Signature.f] at h
  by_cases hc : (0 ≤ a0 ∧ a0 < 4294967296) ∧ (0 ≤ a1 ∧ a1 < 4294967296) ∧ (0 ≤ a2 ∧ a2 < 4294967296)
  · rw [if_pos hc] at h
    obtain rfl := Option.some.inj h
    obtain ⟨⟨q0, q1⟩, ⟨o0, o1⟩, t0, t1⟩ := hc
    have hz := size_f a2 a1
    unfold szf at hz
    unfold sgl
    by_cases b : (hgt a2).2 = true ∧ (chn a1).2 = true
    · have b1 := hgt_bd b.1
      have b2 := chn_bd b.2
      rw [if_pos b] at hz ⊢
      exact sig_yes a0 a1 a2 w (chn a1).1 (hgt a2).1 b2.1 b2.2 b1.1 b1.2 q0 q1 o0 o1 t0 t1 hG _ (by omega) ⟨hz⟩ ⟨by rw [show lms_Chains.f a1 = some (chn a1) from rfl, ← b.2]⟩ ⟨by rw [show lms_Height.f a2 = some (hgt a2) from rfl, ← b.1]⟩ _ _ _ ⟨put4_ a0 q0 q1⟩ ⟨put4_ a1 o0 o1⟩ ⟨put4_ a2 t0 t1⟩ (by simp [be4])
    · rw [if_neg b] at hz ⊢
      exact sig_no a0 a1 a2 w hG ⟨hz⟩
  · rw [if_neg hc] at h
    cases h
end Go.Proofs.YtijmigapdcikpaaDoor.PLms
