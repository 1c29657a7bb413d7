import Derived.Test.YthdjmojpnimhjaaDoorZQ
import Derived.Test.YthdjmojpnimhjaaDoorZPCbgx0
namespace Go.Proofs.YthdjmojpnimhjaaDoor.PCbg
open Go.RowKit Go.Proofs.YthdjmojpnimhjaaDoorW.PrintWords Go.Proofs.YthdjmojpnimhjaaDoorW.PrintLast Go.Proofs.YthdjmojpnimhjaaDoorW.PrintMore
attribute [local go_sem] max2_int min2_int max_two min_two max_three min_three max_four min_four
set_option linter.unusedVariables false
set_option linter.unusedSimpArgs false
def pyxlaw10_back.g : Nat → List S27 → Option (List S34)
 | 0, _ => none
 | _ + 1, [] => some []
 | k + 1, x :: xs => if x.f3.length * 64 ≤ 140737488355328 then ((pyxlaw10_back.g k x.f3).bind fun a => (pyxlaw10_back.g k xs).bind fun b => some ((⟨x.f0, x.f1, x.f2, a⟩ : S34) :: b)) else none
def pyxlaw10_back.f (k : Nat) (a0 : Int) (a1 : Int) (l2 : List Int) (l3 : List S27) : Option (Int × Int × List Int × List S34) := if l3.length * 64 ≤ 140737488355328 then ((pyxlaw10_back.g k l3).bind fun r => some (a0, a1, l2, r)) else none
theorem pyxlaw10_back.at_F {w : World} {ok : Nat → Prop} {A : Option Addr} {n : Nat} {xs : List S27} (h : Kd.F k27 w ok A n xs) (i : Int) (h0 : 0 ≤ i) (h1 : i < n) : ∃ ad A2 c2 A3 c3, A = some ad ∧ w.cell? (ad.add (i.toNat * 4)) = some (.int .i64 (rd_T27 xs i).f0) ∧ w.cell? ⟨(ad.add (i.toNat * 4)).block, (ad.add (i.toNat * 4)).off + 1, none⟩ = some (.int .u64 (rd_T27 xs i).f1) ∧ w.cell? ⟨(ad.add (i.toNat * 4)).block, (ad.add (i.toNat * 4)).off + 2, none⟩ = some (.slice A2 (rd_T27 xs i).f2.length c2) ∧ w.cell? ⟨(ad.add (i.toNat * 4)).block, (ad.add (i.toNat * 4)).off + 3, none⟩ = some (.slice A3 (rd_T27 xs i).f3.length c3) ∧ (rd_T27 xs i).f2.length ≤ c2 ∧ Kd.F (Kd.int .u8) w ok A2 (rd_T27 xs i).f2.length (rd_T27 xs i).f2 ∧ (rd_T27 xs i).f3.length ≤ c3 ∧ Kd.F (k27) w ok A3 (rd_T27 xs i).f3.length (rd_T27 xs i).f3 := by
 obtain ⟨ad, c, e, _, hK, hc0, _⟩ := Kd.F_get h z27 i h0 h1
 have hc : ∀ j u, c[j]? = some u → w.cell? (ad.add (i.toNat * 4 + j)) = some u := hc0
 obtain ⟨A2, c2, A3, c3, rfl, l2, g2, l3, g3⟩ := k27_openF hK
 exact ⟨ad, A2, c2, A3, c3, e, hc 0 _ rfl, by rw [← add_field _ _ 1 (by omega)]; exact hc 1 _ rfl, by rw [← add_field _ _ 2 (by omega)]; exact hc 2 _ rfl, by rw [← add_field _ _ 3 (by omega)]; exact hc 3 _ rfl, l2, g2, l3, g3⟩
theorem pyxlaw10_back.mkF (W : World) (ok : Nat → Prop) (x : S34) {A2 : Option Addr} {c2 : Nat} (l2 : x.f2.length ≤ c2) (g2 : Kd.F (Kd.int .u8) W ok A2 x.f2.length x.f2) {A3 : Option Addr} {c3 : Nat} (l3 : x.f3.length ≤ c3) (g3 : Kd.F (k34) W ok A3 x.f3.length x.f3) : Kd.FK k34 W ok x [.int .i64 x.f0, .int .u64 x.f1, .slice A2 x.f2.length c2, .slice A3 x.f3.length c3] := fun W2 hW => k34_mk W2 x l2 (g2 W2 hW) l3 (g3 W2 hW)
theorem pyxlaw10_back.g_drop (k : Nat) (l : List S27) (i : Nat) (h : i < l.length) (r : List S34) (hg : pyxlaw10_back.g (k + 1) (l.drop i) = some r) : ∃ a b, ((rd_T27 l (i : Int)).f3.length * 64 ≤ 140737488355328) ∧ pyxlaw10_back.g k (rd_T27 l (i : Int)).f3 = some a ∧ pyxlaw10_back.g k (l.drop (i + 1)) = some b ∧ r = (⟨(rd_T27 l (i : Int)).f0, (rd_T27 l (i : Int)).f1, (rd_T27 l (i : Int)).f2, a⟩ : S34) :: b := by
 have e : l.drop i = rd_T27 l (i : Int) :: l.drop (i + 1) := by
  rw [List.drop_eq_getElem_cons h]
  simp [rd_T27, List.getD_eq_getElem?_getD, List.getElem?_eq_getElem h]
 rw [e] at hg
 simp only [pyxlaw10_back.g] at hg
 split at hg
 ·rename_i hL
  obtain ⟨a, ha, hg⟩ := Option.bind_eq_some_iff.mp hg
  obtain ⟨b, hb, hg⟩ := Option.bind_eq_some_iff.mp hg
  exact ⟨a, b, hL, ha, hb, (Option.some.inj hg).symm⟩
 ·exact absurd hg (by simp)
theorem pyxlaw10_back.g_end (k : Nat) (l : List S27) (i : Nat) (h : ¬ i < l.length) (r : List S34) (hg : pyxlaw10_back.g (k + 1) (l.drop i) = some r) : r = [] := by
 rw [List.drop_eq_nil_of_le (by omega)] at hg
 exact (Option.some.inj hg).symm
theorem pyxlaw10_back.g_len : ∀ (k : Nat) (l : List S27) (r : List S34), pyxlaw10_back.g k l = some r → r.length = l.length
 | 0, _, _, h => by simp [pyxlaw10_back.g] at h
 | _ + 1, [], r, h => by rw [← Option.some.inj h]; rfl
 | k + 1, x :: xs, r, h => by
  simp only [pyxlaw10_back.g] at h
  split at h
  ·obtain ⟨a, ha, h⟩ := Option.bind_eq_some_iff.mp h
   obtain ⟨b, hb, h⟩ := Option.bind_eq_some_iff.mp h
   rw [← Option.some.inj h, List.length_cons, List.length_cons, pyxlaw10_back.g_len k xs b hb]
  ·exact absurd h (by simp)
def pyxlaw10_back.T5 : Bool × List (List Nat × List Nat) := (true, [([], []), ([0], [0]), ([], []), ([2], [2]), ([], []), ([3, 4], [3, 4]), ([5], [5]), ([6], [6]), ([7], [7]), ([1, 8, 7], [1, 8]), ([0, 1, 2, 3, 4, 5, 6, 7, 8, 9], []), ([10, 9, 9, 0, 1, 2, 3, 4, 5, 6, 7, 8, 9], [9, 10])])
def pyxlaw10_back.B5 : List Nat := [0, 1, 0, 4, 0, 28, 60, 124, 252, 511, 1023, 2047]
theorem pyxlaw10_back.tab5 : rtab .any (opsOf Tryd.f18 5) = pyxlaw10_back.T5 := by kernel_rfl
theorem pyxlaw10_back.bits5 : waitsOk pyxlaw10_back.T5.2 pyxlaw10_back.B5 = true := by kernel_rfl
set_option maxHeartbeats 8000000 in
set_option maxRecDepth 100000 in
theorem pyxlaw10_back.walk0 (k : Nat) : ∀ (a0 : Int) (a1 : Int) (A2 : Option Addr) (c2 : Nat) (l2 : List Int) (A3 : Option Addr) (c3 : Nat) (l3 : List S27) (PK : Nat → Prop) (r : List S34) (w : World) (hr3 : Kd.F k27 w PK A3 l3.length l3) (hc3 : l3.length ≤ c3) (h : (if l3.length * 64 ≤ 140737488355328 then pyxlaw10_back.g k l3 else none) = some r),
  Calls Tryd.prog 18 #[.agg #[.int .i64 a0, .int .u64 a1, .slice A2 l2.length c2, .slice A3 l3.length c3]] w fun e w' => ∃ v : Value, e = .returned (.agg #[.int .i64 a0, .int .u64 a1, .slice A2 l2.length c2, v]) ∧ Kd.N k34 34 w' w.heap.size (fun k_ => (PK k_ ∧ k_ < w.heap.size) ∨ w.heap.size ≤ k_) v r ∧ Below w.heap.size w w' := by
 induction k using Nat.strongRecOn with
 | _ k ih =>
 intro a0 a1 A2 c2 l2 A3 c3 l3 PK r w hr3 hc3 h
 have hu27 := Tryd.underlying27
 have hu34 := Tryd.underlying34
 split at h
 case isFalse => exact absurd h (by simp)
 rename_i hLim
 have hLim := Aside0.mk hLim
 have HR3 := Aside0.mk hr3
 have HC3 := Aside0.mk hc3
 clear hr3 hc3
 have HB := Aside0.mk (Below.refl w.heap.size w)
 have H' := Aside0.mk h
 clear h
 go_enter Tryd.func18, Tryd.ntmps18
 go_wp2_with (first | ((with_reducible refine gate_dst (N := 1) rfl ?_); (try (refine gate_guard (by rfl) ?_; dsimp only)); refine box_event ?hg (N := 1) ?hd (cs := #[.int .i64 a0, .int .u64 a1, .slice A2 l2.length c2, .slice A3 l3.length c3]) (t := 27) ?hr ?_; (case hd => rfl); (case hg => rfl); (case hr => first | (go_simp; done) | (go_simp; rfl)); intro gp hg wb_gp hbox hb; have n0_ := Aside0.mk (below_step q44_ hb); have n1_ := Aside0.mk (hbox); have n2_ := Aside0.mk ((by rw [hg]; exact (below_size q44_) : w.heap.size ≤ gp)); clear HB; have HB := n0_; have BKgp := n1_; have GEgp := n2_; clear n0_ n1_ n2_; clear hb hbox hg; have hcz_0 : wb_gp.cell? ⟨gp, 0, none⟩ = some (.int .i64 a0) := (blk_cell BKgp.out 0).trans rfl; have hfz_0 := blk_frozen BKgp.out 0; have hcz_1 : wb_gp.cell? ⟨gp, 1, none⟩ = some (.int .u64 a1) := (blk_cell BKgp.out 1).trans rfl; have hfz_1 := blk_frozen BKgp.out 1; have hcz_2 : wb_gp.cell? ⟨gp, 2, none⟩ = some (.slice A2 l2.length c2) := (blk_cell BKgp.out 2).trans rfl; have hfz_2 := blk_frozen BKgp.out 2; have hcz_3 : wb_gp.cell? ⟨gp, 3, none⟩ = some (.slice A3 l3.length c3) := (blk_cell BKgp.out 3).trans rfl; have hfz_3 := blk_frozen BKgp.out 3) | ((with_reducible refine gate_dst (N := 2) rfl ?_); (try (refine gate_guard (by rfl) ?_; dsimp only)); refine box_event ?hg (N := 2) ?hd (cs := #[.int .i64 0, .int .u64 0, .slice none 0 0, .slice none 0 0]) (t := 34) ?hr ?_; (case hd => rfl); (case hg => rfl); (case hr => first | (go_simp; done) | (go_simp; rfl)); intro gr hg wb_gr hbox hb; have n0_ := Aside0.mk (blk_below (g := gp) (o := .cells #[.int .i64 a0, .int .u64 a1, .slice A2 l2.length c2, .slice A3 l3.length c3] 27 (0, 0)) q59_ hb); have n1_ := Aside0.mk (below_step q42_ hb); have n2_ := Aside0.mk (hbox); have n3_ := Aside0.mk ((by rw [hg]; exact (below_size q42_) : w.heap.size ≤ gr)); have n4_ := Aside0.mk ((by rw [hg]; exact Nat.ne_of_lt (blk_lt (g := gp) (o := .cells #[.int .i64 a0, .int .u64 a1, .slice A2 l2.length c2, .slice A3 l3.length c3] 27 (0, 0)) q59_) : gp ≠ gr)); have n5_ := Aside0.mk ((by rw [hg]; exact Nat.ne_of_gt (blk_lt (g := gp) (o := .cells #[.int .i64 a0, .int .u64 a1, .slice A2 l2.length c2, .slice A3 l3.length c3] 27 (0, 0)) q59_) : gr ≠ gp)); clear BKgp; clear HB; have BKgp := n0_; have HB := n1_; have BKgr := n2_; have GEgr := n3_; have NBgp_gr := n4_; have NBgr_gp := n5_; clear n0_ n1_ n2_ n3_ n4_ n5_; clear hb hbox hg; have hcy_0 : wb_gr.cell? ⟨gp, 0, none⟩ = some (.int .i64 a0) := (blk_cell BKgp.out 0).trans rfl; have hfy_0 := blk_frozen BKgp.out 0; have hcy_1 : wb_gr.cell? ⟨gp, 1, none⟩ = some (.int .u64 a1) := (blk_cell BKgp.out 1).trans rfl; have hfy_1 := blk_frozen BKgp.out 1; have hcy_2 : wb_gr.cell? ⟨gp, 2, none⟩ = some (.slice A2 l2.length c2) := (blk_cell BKgp.out 2).trans rfl; have hfy_2 := blk_frozen BKgp.out 2; have hcy_3 : wb_gr.cell? ⟨gp, 3, none⟩ = some (.slice A3 l3.length c3) := (blk_cell BKgp.out 3).trans rfl; have hfy_3 := blk_frozen BKgp.out 3) | ((with_reducible refine gate_dst (N := 3) rfl ?_); (try (refine gate_guard (by rfl) ?_; dsimp only)); refine box_event ?hg (N := 3) ?hd (cs := #[.int .i64 0, .int .u64 0, .slice none 0 0, .slice none 0 0]) (t := 34) ?hr ?_; (case hd => rfl); (case hg => rfl); (case hr => first | (go_simp; done) | (go_simp; rfl)); intro go hg wb_go hbox hb; have n0_ := Aside0.mk (blk_below (g := gp) (o := .cells #[.int .i64 a0, .int .u64 a1, .slice A2 l2.length c2, .slice A3 l3.length c3] 27 (0, 0)) q59_ hb); have n1_ := Aside0.mk (blk_below (g := gr) (o := .cells #[.int .i64 0, .int .u64 0, .slice none 0 0, .slice none 0 0] 34 (0, 0)) q60_ hb); have n2_ := Aside0.mk (below_step q32_ hb); have n3_ := Aside0.mk (hbox); have n4_ := Aside0.mk ((by rw [hg]; exact (below_size q32_) : w.heap.size ≤ go)); have n5_ := Aside0.mk ((by rw [hg]; exact Nat.ne_of_lt (blk_lt (g := gp) (o := .cells #[.int .i64 a0, .int .u64 a1, .slice A2 l2.length c2, .slice A3 l3.length c3] 27 (0, 0)) q59_) : gp ≠ go)); have n6_ := Aside0.mk ((by rw [hg]; exact Nat.ne_of_gt (blk_lt (g := gp) (o := .cells #[.int .i64 a0, .int .u64 a1, .slice A2 l2.length c2, .slice A3 l3.length c3] 27 (0, 0)) q59_) : go ≠ gp)); have n7_ := Aside0.mk ((by rw [hg]; exact Nat.ne_of_lt (blk_lt (g := gr) (o := .cells #[.int .i64 0, .int .u64 0, .slice none 0 0, .slice none 0 0] 34 (0, 0)) q60_) : gr ≠ go)); have n8_ := Aside0.mk ((by rw [hg]; exact Nat.ne_of_gt (blk_lt (g := gr) (o := .cells #[.int .i64 0, .int .u64 0, .slice none 0 0, .slice none 0 0] 34 (0, 0)) q60_) : go ≠ gr)); clear BKgp; clear BKgr; clear HB; have BKgp := n0_; have BKgr := n1_; have HB := n2_; have BKgo := n3_; have GEgo := n4_; have NBgp_go := n5_; have NBgo_gp := n6_; have NBgr_go := n7_; have NBgo_gr := n8_; clear n0_ n1_ n2_ n3_ n4_ n5_ n6_ n7_ n8_; clear hb hbox hg; have hcx_0 : wb_go.cell? ⟨go, 0, none⟩ = some (.int .i64 0) := (blk_cell BKgo.out 0).trans rfl; have hfx_0 := blk_frozen BKgo.out 0; have hcx_1 : wb_go.cell? ⟨go, 1, none⟩ = some (.int .u64 0) := (blk_cell BKgo.out 1).trans rfl; have hfx_1 := blk_frozen BKgo.out 1; have hcx_2 : wb_go.cell? ⟨go, 2, none⟩ = some (.slice none 0 0) := (blk_cell BKgo.out 2).trans rfl; have hfx_2 := blk_frozen BKgo.out 2; have hcx_3 : wb_go.cell? ⟨go, 3, none⟩ = some (.slice none 0 0) := (blk_cell BKgo.out 3).trans rfl; have hfx_3 := blk_frozen BKgo.out 3))
 go_loopg [4] k (fun kq v4 w' => ∃ (i : Nat) (acc rest : List S34) (u : Value), v4 = .int .i64 (i : Int) ∧ i ≤ l3.length ∧ Aside0 (acc.length = i) ∧ Aside0 (pyxlaw10_back.g kq (l3.drop i) = some rest) ∧ Aside0 (acc ++ rest = r) ∧ Aside0 (kq ≤ k) ∧ Aside0 (Kd.N k34 34 w' w.heap.size (fun k_ => ((PK k_ ∧ k_ < w.heap.size) ∨ w.heap.size ≤ k_) ∧ k_ ≠ gr ∧ k_ ≠ go) u acc) ∧ Aside0 (w'.heap[gp]? = some (.cells #[.int .i64 a0, .int .u64 a1, .slice A2 l2.length c2, .slice A3 l3.length c3] 27 (0, 0))) ∧ Aside0 (w'.heap[gr]? = some (.cells #[.int .i64 0, .int .u64 0, .slice none 0 0, .slice none 0 0] 34 (0, 0))) ∧ Aside0 (w'.heap[go]? = some (.cells #[.int .i64 a0, .int .u64 a1, .slice A2 l2.length c2, u] 34 (0, 0))) ∧ Aside0 (Below w.heap.size w w'))
 case atStart =>
  have far : ∀ (b : Addr) (x : Value), b.block = go → True := fun _ _ _ => trivial
  exact ⟨0, [], r, .slice none 0 0, rfl, Nat.zero_le _, ⟨rfl⟩, ⟨H'.out⟩, ⟨rfl⟩, ⟨Nat.le_refl _⟩, ⟨Kd.N_nil _ _ _ _ _⟩, ⟨by (repeat (first | (with_reducible first | refine blk_drewN ?_ _ | refine blk_drew ?_ | refine blk_alloc ?_ _) | refine blk_far ?_ (show gp ≠ go from NBgp_go.out) _)); exact BKgp.out⟩, ⟨by (repeat (first | (with_reducible first | refine blk_drewN ?_ _ | refine blk_drew ?_ | refine blk_alloc ?_ _) | refine blk_far ?_ (show gr ≠ go from NBgr_go.out) _)); exact BKgr.out⟩, ⟨by (with_reducible repeat (first | refine blk_drewN ?_ _ | refine blk_drew ?_ | refine blk_alloc ?_ _)); refine blk_put (cs := #[.int .i64 a0, .int .u64 a1, .slice A2 l2.length c2, .slice none 0 0]) ?_ 3 _ rfl; (with_reducible repeat (first | refine blk_drewN ?_ _ | refine blk_drew ?_ | refine blk_alloc ?_ _)); refine blk_put (cs := #[.int .i64 a0, .int .u64 a1, .slice none 0 0, .slice none 0 0]) ?_ 2 _ rfl; (with_reducible repeat (first | refine blk_drewN ?_ _ | refine blk_drew ?_ | refine blk_alloc ?_ _)); refine blk_put (cs := #[.int .i64 a0, .int .u64 0, .slice none 0 0, .slice none 0 0]) ?_ 1 _ rfl; (with_reducible repeat (first | refine blk_drewN ?_ _ | refine blk_drew ?_ | refine blk_alloc ?_ _)); refine blk_put (cs := #[.int .i64 0, .int .u64 0, .slice none 0 0, .slice none 0 0]) ?_ 0 _ rfl; (with_reducible repeat (first | refine blk_drewN ?_ _ | refine blk_drew ?_ | refine blk_alloc ?_ _)); exact BKgo.out⟩, ⟨q24_⟩⟩
 case round =>
  clear H'
  try clear hcz_0 hfz_0
  try clear hcy_0 hfy_0
  try clear hcx_0 hfx_0
  try clear hcz_1 hfz_1
  try clear hcy_1 hfy_1
  try clear hcx_1 hfx_1
  try clear hcz_2 hfz_2
  try clear hcy_2 hfy_2
  try clear hcx_2 hfx_2
  try clear hcz_3 hfz_3
  try clear hcy_3 hfy_3
  try clear hcx_3 hfx_3
  obtain ⟨i, acc, rest, u, rfl, hi, hacc, HA, HE, HK, HN, BKgp, BKgr, BKgo, HB⟩ := hrel
  cases gk with
  | zero => exact absurd HA.out (by simp [pyxlaw10_back.g])
  | succ kq =>
  obtain ⟨Au, cu, eu⟩ := Kd.N_slice HN.out
  subst eu
  have hcz_ : wr.cell? ⟨gp, 3, none⟩ = some (.slice A3 l3.length c3) := (blk_cell BKgp.out 3).trans rfl
  have hfz_ := blk_frozen BKgp.out 3
  have hmax : l3.length ≤ 9223372036854775807 := Kd.F_max HR3.out
  by_cases cI : i < l3.length
  ·have cIb0 : decide ((i : Int) < (l3.length : Int)) = true := decide_eq_true (by omega)
   have cIb1 : decide (i < l3.length) = true := decide_eq_true cI
   obtain ⟨ra, rb, hLm, hga, hgb, hre⟩ := pyxlaw10_back.g_drop kq l3 i cI rest HA.out
   try go_wp2
   have n0_ := Aside0.mk (blk_drew BKgp.out)
   have n1_ := Aside0.mk (blk_drew BKgr.out)
   have n2_ := Aside0.mk (blk_drew BKgo.out)
   have n3_ := Aside0.mk (below_drew1 HB.out)
   have n4_ := Aside0.mk (Kd.N_drew HN.out)
   clear BKgp BKgr BKgo HB HN hcz_ hfz_
   have BKgp := n0_; have BKgr := n1_; have BKgo := n2_; have HB := n3_; have HN := n4_
   clear n0_ n1_ n2_ n3_ n4_
   have p5 : (0 : Int) ≤ (i : Int) := by omega
   have q5 : (i : Int) < (l3.length : Int) := by omega
   obtain ⟨ad, B2, d2, B3, d3, ead, hx0, hx1, hx2, hx3, hl2, hi2, hl3, hi3⟩ := pyxlaw10_back.at_F HR3.out (i : Int) p5 q5
   cases ead
   simp only [Int.toNat_natCast] at hx0 hx1 hx2 hx3
   have HWW := HB.out
   have hb0 := World.block_lt_of_cell? w _ hx0
   have hb1 := World.block_lt_of_cell? w _ hx1
   have hb2 := World.block_lt_of_cell? w _ hx2
   have hb3 := World.block_lt_of_cell? w _ hx3
   have hxd0 := (HWW.cell hb0).trans hx0
   have hxd1 := (HWW.cell hb1).trans hx1
   have hxd2 := (HWW.cell hb2).trans hx2
   have hxd3 := (HWW.cell hb3).trans hx3
   have p5' := eq_true p5
   have q5' := eq_true q5
   have GXs := (show wr.drew.cell? ⟨gp, 3, none⟩ = some (.slice (some ad) l3.length c3) ∧ wr.drew.cell? ⟨go, 3, none⟩ = some (.slice Au acc.length cu) ∧ wr.drew.cell? (ad.add (i * 4)) = some (.int .i64 ((rd_T27 l3 (i : Int)).f0)) ∧ wr.drew.cell? ⟨(ad.add (i * 4)).block, (ad.add (i * 4)).off + 1, none⟩ = some (.int .u64 ((rd_T27 l3 (i : Int)).f1)) ∧ wr.drew.cell? ⟨(ad.add (i * 4)).block, (ad.add (i * 4)).off + 2, none⟩ = some (.slice B2 ((rd_T27 l3 (i : Int)).f2).length d2) ∧ wr.drew.cell? ⟨(ad.add (i * 4)).block, (ad.add (i * 4)).off + 3, none⟩ = some (.slice B3 ((rd_T27 l3 (i : Int)).f3).length d3) from ⟨(blk_cell BKgp.out 3).trans rfl, (blk_cell BKgo.out 3).trans rfl, (HWW.cell hb0).trans hx0, (HWW.cell hb1).trans hx1, (HWW.cell hb2).trans hx2, (HWW.cell hb3).trans hx3⟩)
   refine start_ (n := 12) (S := fun w' => w'.cell? ⟨gp, 3, none⟩ = some (.slice (some ad) l3.length c3) ∧ w'.cell? ⟨go, 3, none⟩ = some (.slice Au acc.length cu) ∧ w'.cell? (ad.add (i * 4)) = some (.int .i64 ((rd_T27 l3 (i : Int)).f0)) ∧ w'.cell? ⟨(ad.add (i * 4)).block, (ad.add (i * 4)).off + 1, none⟩ = some (.int .u64 ((rd_T27 l3 (i : Int)).f1)) ∧ w'.cell? ⟨(ad.add (i * 4)).block, (ad.add (i * 4)).off + 2, none⟩ = some (.slice B2 ((rd_T27 l3 (i : Int)).f2).length d2) ∧ w'.cell? ⟨(ad.add (i * 4)).block, (ad.add (i * 4)).off + 3, none⟩ = some (.slice B3 ((rd_T27 l3 (i : Int)).f3).length d3)) (ds := [11]) #[false, false, false, false, false, false, false, false, false, false, false, false] (by kernel_rfl) rfl rfl GXs (fun hHeld => ?_); refine with_tabW pyxlaw10_back.tab5 pyxlaw10_back.bits5 (fun HT_ HW_ => ?_)
   generalize wr.drew = wd at BKgp BKgr BKgo HB HN HWW hxd0 hxd1 hxd2 hxd3 GXs hHeld ⊢
   refine pure_ (i := 0) (N := some 19) (v := ?_) (a' := ?_) #[true, false, false, false, false, false, false, false, false, false, false, false] rfl rfl (any_of HT_.out (by kernel_rfl)) (fun _ _ _ h => h) (Or.inl ⟨by rfl, ?_⟩) ?_ ?_
   rotate_left
   ·intro w'
    go_simp
    with_reducible rfl
   rotate_left
   ·simp only [Act.put, List.setIfInBounds_toArray, List.set_cons_zero, List.set_cons_succ, i64_w, i32_w]
    rfl
   refine take_ (i := 1) (N := some 20) (v := ?_) (a' := ?_) #[true, true, false, false, false, false, false, false, false, false, false, false] rfl rfl (take_ofW HT_.out HW_.out (by kernel_rfl)) (fun _ _ _ h => h) (Or.inl ⟨by rfl, ?_⟩) hHeld ?_ ?_
   rotate_left
   ·rintro w' ⟨s0, s1, s2, s3, s4, s5⟩
    go_simp
    with_reducible rfl
   rotate_left
   ·simp only [Act.put, List.setIfInBounds_toArray, List.set_cons_zero, List.set_cons_succ, i64_w, i32_w]
    rfl
   refine pure_ (i := 2) (N := some 21) (v := ?_) (a' := ?_) #[true, true, true, false, false, false, false, false, false, false, false, false] rfl rfl (any_of HT_.out (by kernel_rfl)) (fun _ _ _ h => h) (Or.inl ⟨by rfl, ?_⟩) ?_ ?_
   rotate_left
   ·intro w'
    go_simp
    with_reducible rfl
   rotate_left
   ·simp only [Act.put, List.setIfInBounds_toArray, List.set_cons_zero, List.set_cons_succ, i64_w, i32_w]
    rfl
   refine take_ (i := 3) (N := some 22) (v := ?_) (a' := ?_) #[true, true, true, true, false, false, false, false, false, false, false, false] rfl rfl (take_ofW HT_.out HW_.out (by kernel_rfl)) (fun _ _ _ h => h) (Or.inl ⟨by rfl, ?_⟩) hHeld ?_ ?_
   rotate_left
   ·rintro w' ⟨s0, s1, s2, s3, s4, s5⟩
    go_simp
    with_reducible rfl
   rotate_left
   ·simp only [Act.put, List.setIfInBounds_toArray, List.set_cons_zero, List.set_cons_succ, i64_w, i32_w]
    rfl
   refine pure_ (i := 4) (N := some 23) (v := ?_) (a' := ?_) #[true, true, true, true, true, false, false, false, false, false, false, false] rfl rfl (any_of HT_.out (by kernel_rfl)) (fun _ _ _ h => h) (Or.inl ⟨by rfl, ?_⟩) ?_ ?_
   rotate_left
   ·intro w'
    go_simp
    with_reducible rfl
   rotate_left
   ·simp only [Act.put, List.setIfInBounds_toArray, List.set_cons_zero, List.set_cons_succ, i64_w, i32_w]
    rfl
   refine pure_ (i := 5) (N := some 24) (v := ?_) (a' := ?_) #[true, true, true, true, true, true, false, false, false, false, false, false] rfl rfl (any_of HT_.out (by kernel_rfl)) (fun _ _ _ h => h) (Or.inl ⟨by rfl, ?_⟩) ?_ ?_
   rotate_left
   ·intro w'
    go_simp
    with_reducible rfl
   rotate_left
   ·simp only [Act.put, List.setIfInBounds_toArray, List.set_cons_zero, List.set_cons_succ, i64_w, i32_w]
    rfl
   refine take_ (i := 6) (N := some 25) (v := ?_) (a' := ?_) #[true, true, true, true, true, true, true, false, false, false, false, false] rfl rfl (take_ofW HT_.out HW_.out (by kernel_rfl)) (fun _ _ _ h => h) (Or.inl ⟨by rfl, ?_⟩) hHeld ?_ ?_
   rotate_left
   ·rintro w' ⟨s0, s1, s2, s3, s4, s5⟩
    go_simp
    with_reducible rfl
   rotate_left
   ·simp only [Act.put, List.setIfInBounds_toArray, List.set_cons_zero, List.set_cons_succ, i64_w, i32_w]
    rfl
   refine one_ (i := 7) (N := some 26) #[true, true, true, true, true, true, true, true, false, false, false, false] rfl rfl (one_of HT_.out (by kernel_rfl)) (by decide) (fun K hK => ?_)
   refine goes_ Tryd.func18 (by kernel_rfl) rfl #[.agg #[.int .i64 ((rd_T27 l3 (i : Int)).f0), .int .u64 ((rd_T27 l3 (i : Int)).f1), .slice B2 ((rd_T27 l3 (i : Int)).f2).length d2, .slice B3 ((rd_T27 l3 (i : Int)).f3).length d3]] (by rfl) rfl rfl q43_ ?_
   have hfa : (if (rd_T27 l3 (i : Int)).f3.length * 64 ≤ 140737488355328 then pyxlaw10_back.g kq (rd_T27 l3 (i : Int)).f3 else none) = some ra := by rw [if_pos hLm]; exact hga
   with_reducible refine (ih kq (by have := HK.out; omega) _ _ _ _ _ _ _ _ (fun k_ => PK k_ ∧ k_ < w.heap.size) ra _ (Kd.F_below (Kd.F_bound hi3) HWW) hl3 hfa).mono ?_
   rintro e wc ⟨vk, rfl, hNk, hb⟩
   refine ⟨_, rfl, ?_⟩
   have hsz : w.heap.size ≤ wd.heap.size := below_size HB.out
   have HNc := Kd.N_below HN.out hb
   have HNlt := Kd.N_lt HN.out
   have HNb := Kd.N_base HN.out
   have n_gp := Aside0.mk (blk_below (g := gp) (o := .cells #[.int .i64 a0, .int .u64 a1, .slice A2 l2.length c2, .slice (some ad) l3.length c3] 27 (0, 0)) BKgp.out hb); have lt_gp := blk_lt BKgp.out; clear BKgp; have BKgp := n_gp; clear n_gp
   have n_gr := Aside0.mk (blk_below (g := gr) (o := .cells #[.int .i64 0, .int .u64 0, .slice none 0 0, .slice none 0 0] 34 (0, 0)) BKgr.out hb); have lt_gr := blk_lt BKgr.out; clear BKgr; have BKgr := n_gr; clear n_gr
   have n_go := Aside0.mk (blk_below (g := go) (o := .cells #[.int .i64 a0, .int .u64 a1, .slice A2 l2.length c2, .slice Au acc.length cu] 34 (0, 0)) BKgo.out hb); have lt_go := blk_lt BKgo.out; clear BKgo; have BKgo := n_go; clear n_go
   have n_B := Aside0.mk (below_step HB.out hb); clear HB; have HB := n_B; clear n_B
   have HWc : Below w.heap.size w wc := HB.out
   obtain ⟨Ak, ck, ek⟩ := Kd.N_slice hNk
   subst ek
   have hgrow : wd.heap.size ≤ wc.heap.size := below_size hb
   refine hK.out _ _ ⟨(blk_cell BKgp.out 3).trans rfl, (blk_cell BKgo.out 3).trans rfl, (HWc.cell hb0).trans hx0, (HWc.cell hb1).trans hx1, (HWc.cell hb2).trans hx2, (HWc.cell hb3).trans hx3⟩ (fun hHeld => ?_)
   clear hK K
   refine norm_ (a' := ?_) ?_ ?_
   rotate_left
   ·show Act.put _ (some 26) _ = _
    simp only [Act.put, List.setIfInBounds_toArray, List.set_cons_zero, List.set_cons_succ, i64_w, i32_w]
    rfl
   refine one_ (i := 8) (N := some 27) #[true, true, true, true, true, true, true, true, true, false, false, false] rfl rfl (one_of HT_.out (by kernel_rfl)) (by decide) (fun K hK => ?_)
   refine value_ (v := .slice (some ⟨wc.heap.size, 0, none⟩) 1 1) (w1 := (wc.alloc (.cells #[.int .i64 ((rd_T27 l3 (i : Int)).f0), .int .u64 ((rd_T27 l3 (i : Int)).f1), .slice B2 ((rd_T27 l3 (i : Int)).f2).length d2, .slice Ak ra.length ck] 34))) (by rfl) rfl q98_ ?_
   have HXA : ∀ (b : Addr) (x : Value), wc.cell? b = some x → (wc.alloc (.cells #[.int .i64 ((rd_T27 l3 (i : Int)).f0), .int .u64 ((rd_T27 l3 (i : Int)).f1), .slice B2 ((rd_T27 l3 (i : Int)).f2).length d2, .slice Ak ra.length ck] 34)).cell? b = some x := fun b x hx_ => ((below_alloc (Below.refl wc.heap.size wc) _).cell (World.block_lt_of_cell? wc _ hx_)).trans hx_
   refine hK.out _ _ ⟨HXA _ _ ((blk_cell BKgp.out 3).trans rfl), HXA _ _ ((blk_cell BKgo.out 3).trans rfl), HXA _ _ ((HWc.cell hb0).trans hx0), HXA _ _ ((HWc.cell hb1).trans hx1), HXA _ _ ((HWc.cell hb2).trans hx2), HXA _ _ ((HWc.cell hb3).trans hx3)⟩ (fun hHeld => ?_)
   clear hK K
   refine norm_ (a' := ?_) ?_ ?_
   rotate_left
   ·show Act.put _ (some 27) _ = _
    simp only [Act.put, List.setIfInBounds_toArray, List.set_cons_zero, List.set_cons_succ, i64_w, i32_w]
    rfl
   have hgr0 : w.heap.size ≤ gr := GEgr.out
   have hgo0 : w.heap.size ≤ go := GEgo.out
   have hFK : Kd.FK k34 wc (fun k_ => (PK k_ ∧ k_ < w.heap.size) ∨ wd.heap.size ≤ k_) (⟨(rd_T27 l3 (i : Int)).f0, (rd_T27 l3 (i : Int)).f1, (rd_T27 l3 (i : Int)).f2, ra⟩ : S34) [.int .i64 ((rd_T27 l3 (i : Int)).f0), .int .u64 ((rd_T27 l3 (i : Int)).f1), .slice B2 ((rd_T27 l3 (i : Int)).f2).length d2, .slice Ak ra.length ck] := pyxlaw10_back.mkF _ _ (⟨(rd_T27 l3 (i : Int)).f0, (rd_T27 l3 (i : Int)).f1, (rd_T27 l3 (i : Int)).f2, ra⟩ : S34) hl2 (Kd.F_mono (Kd.F_below (Kd.F_bound hi2) HWc) (fun k_ hk_ => Or.inl hk_)) (Kd.N_reads' hNk).2.1 (Kd.N_F (Kd.N_mono hNk (fun k_ hk_ => hk_.imp (fun h_ => h_.1) id)))
   have hlenr := pyxlaw10_back.g_len _ _ _ HA.out
   have hlenx : (l3.drop i).length = l3.length - i := List.length_drop
   have hLim' := hLim.out
   refine one_ (i := 9) (N := some 28) #[true, true, true, true, true, true, true, true, true, true, false, false] rfl rfl (one_of HT_.out (by kernel_rfl)) (by decide) (fun K hK => ?_)
   refine Kd.N_append_step k34 (w0 := w) w.heap.size (by rfl) (.tmp 20) (.tmp 27) 32 34 (.agg #[(.int .i64 0), (.int .u64 0), (.slice none 0 0), (.slice none 0 0)]) 64 rfl Tryd.underlying32 info34 rfl (by decide) (by decide) (.slice Au acc.length cu) acc (⟨(rd_T27 l3 (i : Int)).f0, (rd_T27 l3 (i : Int)).f1, (rd_T27 l3 (i : Int)).f2, ra⟩ : S34) [.int .i64 ((rd_T27 l3 (i : Int)).f0), .int .u64 ((rd_T27 l3 (i : Int)).f1), .slice B2 ((rd_T27 l3 (i : Int)).f2).length d2, .slice Ak ra.length ck] (fun k_ => ((PK k_ ∧ k_ < w.heap.size) ∨ w.heap.size ≤ k_) ∧ k_ ≠ gr ∧ k_ ≠ go) (fun k_ => (PK k_ ∧ k_ < w.heap.size) ∨ wd.heap.size ≤ k_) rfl rfl hFK ?aP ?aF ?aO ?aB ?aS ?aL ?_
   case aP =>
    intro k_ hk_
    have hk2 : k_ < w.heap.size ∨ wd.heap.size ≤ k_ := hk_.imp (fun h_ => h_.2) id
    refine ⟨⟨hk_.imp id (fun h_ => by omega), ?_, ?_⟩, fun he => ?_⟩
    ·rintro rfl; clear hk_; omega
    ·rintro rfl; clear hk_; omega
    ·clear hk_; have h1_ := HNlt _ he.symm
     have h2_ := HNb _ he.symm
     omega
   case aF => intro k_ hk_; exact ⟨Or.inr (by omega), by omega, by omega⟩
   case aO => exact HNc
   case aB => exact HB.out
   case aS => exact (by omega)
   case aL => have := hacc.out; omega
   intro v1 w1 hN1 hB1 hg1 hat1
   have hneO : ∀ g_, (g_ = gp ∨ g_ = gr ∨ g_ = go) → some g_ ≠ (Value.slice Au acc.length cu).ownBlock := by
    intro g_ hg_ he
    rcases hg_ with rfl | rfl | rfl
    ·exact absurd (Kd.N_ne HNc BKgp.out (by decide)) (by simp [he])
    ·exact ((Kd.N_away HNc (fun k_ hk_ => hk_.2.1)) : some _ ≠ _) he
    ·exact ((Kd.N_away HNc (fun k_ hk_ => hk_.2.2)) : some _ ≠ _) he
   have m_gp := Aside0.mk (blk_grown (g := gp) (o := .cells #[.int .i64 a0, .int .u64 a1, .slice A2 l2.length c2, .slice (some ad) l3.length c3] 27 (0, 0)) BKgp.out hg1 (hneO gp (by simp))); clear BKgp; have BKgp := m_gp; clear m_gp
   have m_gr := Aside0.mk (blk_grown (g := gr) (o := .cells #[.int .i64 0, .int .u64 0, .slice none 0 0, .slice none 0 0] 34 (0, 0)) BKgr.out hg1 (hneO gr (by simp))); clear BKgr; have BKgr := m_gr; clear m_gr
   have m_go := Aside0.mk (blk_grown (g := go) (o := .cells #[.int .i64 a0, .int .u64 a1, .slice A2 l2.length c2, .slice Au acc.length cu] 34 (0, 0)) BKgo.out hg1 (hneO go (by simp))); clear BKgo; have BKgo := m_go; clear m_go
   clear HB; have HB := Aside0.mk hB1
   have HW1 : Below w.heap.size w w1 := HB.out
   refine hK.out _ _ ⟨(blk_cell BKgp.out 3).trans rfl, (blk_cell BKgo.out 3).trans rfl, (HW1.cell hb0).trans hx0, (HW1.cell hb1).trans hx1, (HW1.cell hb2).trans hx2, (HW1.cell hb3).trans hx3⟩ (fun hHeld => ?_)
   clear hK K
   refine norm_ (a' := ?_) ?_ ?_
   rotate_left
   ·show Act.put _ (some 28) _ = _
    simp only [Act.put, List.setIfInBounds_toArray, List.set_cons_zero, List.set_cons_succ, i64_w, i32_w]
    rfl
   obtain ⟨Az, cc1, e1⟩ := Kd.N_slice hN1
   rw [List.length_append, List.length_singleton] at e1
   subst e1
   refine pure_ (i := 10) (N := some 29) (v := ?_) (a' := ?_) #[true, true, true, true, true, true, true, true, true, true, true, false] rfl rfl (any_of HT_.out (by kernel_rfl)) (fun _ _ _ h => h) (Or.inl ⟨by rfl, ?_⟩) ?_ ?_
   rotate_left
   ·intro w'
    go_simp
    with_reducible rfl
   rotate_left
   ·simp only [Act.put, List.setIfInBounds_toArray, List.set_cons_zero, List.set_cons_succ, i64_w, i32_w]
    rfl
   refine last_ (i := 11) (N := none) #[true, true, true, true, true, true, true, true, true, true, true, true] rfl rfl (one_of HT_.out (by kernel_rfl)) (by decide) (fun K hK => ?_)
   have hs_ : w1.cell? ⟨go, 3, none⟩ = some (.slice Au acc.length cu) := (blk_cell BKgo.out 3).trans rfl
   have hfs_ := blk_frozen BKgo.out 3
   refine skip_ (w1 := ?_) (by rfl) rfl ?_ ?_
   rotate_left
   ·go_simp
    rfl
   refine hK.out _ _ ?_
   clear hK K
   refine done_ (done_of HT_.out (by kernel_rfl)) ?_
   try go_wp2
   go_roundg kq
   case measure => have := HK.out; omega
   case rel =>
    refine ⟨i + 1, acc ++ [(⟨(rd_T27 l3 (i : Int)).f0, (rd_T27 l3 (i : Int)).f1, (rd_T27 l3 (i : Int)).f2, ra⟩ : S34)], rb, .slice Az (acc.length + 1) cc1, ?_, by omega, ⟨by simp [hacc.out]⟩, ⟨hgb⟩, ⟨by rw [← HE.out, hre]; simp⟩, ⟨by have := HK.out; omega⟩, ⟨?_⟩, ⟨?_⟩, ⟨?_⟩, ⟨?_⟩, ⟨q24_⟩⟩
    ·exact congrArg _ (by first | (push_cast; rfl) | (show wrap64 ((i : Int) + 1) = _; unfold wrap64; omega))
    ·(with_reducible repeat (first | apply Kd.N_alloc | apply Kd.N_drewN | apply Kd.N_drew)); exact Kd.N_far hN1 (p := ⟨go, 3, none⟩) (fun k_ hk_ => hk_.2.2) _
    ·(with_reducible repeat (first | refine blk_drewN ?_ _ | refine blk_drew ?_ | refine blk_alloc ?_ _)); refine blk_far ?_ (show gp ≠ go from NBgp_go.out) _; exact BKgp.out
    ·(with_reducible repeat (first | refine blk_drewN ?_ _ | refine blk_drew ?_ | refine blk_alloc ?_ _)); refine blk_far ?_ (show gr ≠ go from NBgr_go.out) _; exact BKgr.out
    ·(with_reducible repeat (first | refine blk_drewN ?_ _ | refine blk_drew ?_ | refine blk_alloc ?_ _)); refine blk_put (cs := #[.int .i64 a0, .int .u64 a1, .slice A2 l2.length c2, .slice Au acc.length cu]) ?_ 3 _ rfl; exact BKgo.out
  ·have cIb0 : decide ((i : Int) < (l3.length : Int)) = false := decide_eq_false (by omega)
   have cIb1 : decide (i < l3.length) = false := decide_eq_false cI
   have hre := pyxlaw10_back.g_end kq l3 i cI rest HA.out
   have hcv_0 : wr.cell? ⟨go, 0, none⟩ = some (.int .i64 a0) := (blk_cell BKgo.out 0).trans rfl
   have hfv_0 := blk_frozen BKgo.out 0
   have hcu_0 : wr.cell? ⟨gr, 0, none⟩ = some (.int .i64 0) := (blk_cell BKgr.out 0).trans rfl
   have hfu_0 := blk_frozen BKgr.out 0
   have hcv_1 : wr.cell? ⟨go, 1, none⟩ = some (.int .u64 a1) := (blk_cell BKgo.out 1).trans rfl
   have hfv_1 := blk_frozen BKgo.out 1
   have hcu_1 : wr.cell? ⟨gr, 1, none⟩ = some (.int .u64 0) := (blk_cell BKgr.out 1).trans rfl
   have hfu_1 := blk_frozen BKgr.out 1
   have hcv_2 : wr.cell? ⟨go, 2, none⟩ = some (.slice A2 l2.length c2) := (blk_cell BKgo.out 2).trans rfl
   have hfv_2 := blk_frozen BKgo.out 2
   have hcu_2 : wr.cell? ⟨gr, 2, none⟩ = some (.slice none 0 0) := (blk_cell BKgr.out 2).trans rfl
   have hfu_2 := blk_frozen BKgr.out 2
   have hcv_3 : wr.cell? ⟨go, 3, none⟩ = some (.slice Au acc.length cu) := (blk_cell BKgo.out 3).trans rfl
   have hfv_3 := blk_frozen BKgo.out 3
   have hcu_3 : wr.cell? ⟨gr, 3, none⟩ = some (.slice none 0 0) := (blk_cell BKgr.out 3).trans rfl
   have hfu_3 := blk_frozen BKgr.out 3
   have hr_ : acc = r := by rw [← HE.out, hre, List.append_nil]
   subst hr_
   go_wp2
   refine bodyPost_ret (results_cell_row rfl _ _ gr 34 #[.int .i64 a0, .int .u64 a1, .slice A2 l2.length c2, .slice Au acc.length cu] (0, 0) _ rfl q1_ Tryd.underlying34 rfl (by kernel_rfl)) rfl ?_
   exact ⟨_, rfl, by (with_reducible repeat (first | apply Kd.N_alloc | apply Kd.N_drewN | apply Kd.N_drew)); exact Kd.N_mono (Kd.N_far (Kd.N_far (Kd.N_far (Kd.N_far HN.out (p := ⟨gr, 0, none⟩) (fun k_ hk_ => hk_.2.1) _) (p := ⟨gr, 1, none⟩) (fun k_ hk_ => hk_.2.1) _) (p := ⟨gr, 2, none⟩) (fun k_ hk_ => hk_.2.1) _) (p := ⟨gr, 3, none⟩) (fun k_ hk_ => hk_.2.1) _) (fun _ hk_ => hk_.1), q24_⟩
theorem pyxlaw10_back.calls (k : Nat) (a0_0 : Int) (a0_1 : Int) (P0_2_ : Nat → Prop) (A0_2 : Option Addr) (c0_2 : Nat) (l0_2 : List Int) (P0_3_ : Nat → Prop) (A0_3 : Option Addr) (c0_3 : Nat) (l0_3 : List S27) (r1 : Int) (r2 : Int) (r3 : List Int) (r4 : List S34) (w : World) (hs0_2 : Kd.V (Kd.int .u8) 5 w w.heap.size (fun k_ => P0_2_ k_) (.slice A0_2 l0_2.length c0_2) l0_2) (hs0_3 : Kd.V (k27) 27 w w.heap.size (fun k_ => P0_3_ k_) (.slice A0_3 l0_3.length c0_3) l0_3) (h : pyxlaw10_back.f k a0_0 a0_1 l0_2 l0_3 = some (r1, r2, r3, r4)) :
  Calls Tryd.prog 18 #[.agg #[.int .i64 a0_0, .int .u64 a0_1, .slice A0_2 l0_2.length c0_2, .slice A0_3 l0_3.length c0_3]] w fun e w' => ∃ v2_ v3_ : Value, e = .returned (.agg #[.int .i64 r1, .int .u64 r2, v2_, v3_]) ∧ Kd.V (Kd.int .u8) 5 w' w.heap.size (fun k_ => ((P0_2_ k_ ∨ P0_3_ k_) ∨ w.heap.size ≤ k_) ∧ some k_ ≠ (v3_ : Value).ownBlock) v2_ r3 ∧ Kd.N k34 34 w' w.heap.size (fun k_ => ((P0_2_ k_ ∨ P0_3_ k_) ∨ w.heap.size ≤ k_)) v3_ r4 ∧ Below w.heap.size w w' := by
 unfold pyxlaw10_back.f at h
 split at h
 case isFalse => exact absurd h (by simp)
 rename_i hL
 obtain ⟨r, hg, h⟩ := Option.bind_eq_some_iff.mp h
 simp only [Option.some.injEq, Prod.mk.injEq] at h
 obtain ⟨rfl, rfl, rfl, rfl⟩ := h
 refine (pyxlaw10_back.walk0 k a0_0 a0_1 A0_2 c0_2 l0_2 A0_3 c0_3 l0_3 (fun k_ => P0_3_ k_) r w (Kd.V_F hs0_3) (Kd.V_reads' hs0_3).2.1 (by rw [if_pos hL]; exact hg)).mono ?_
 rintro e w' ⟨v, rfl, hN, hB⟩
 have hbs := Kd.N_base hN
 refine ⟨_, v, rfl, ?_, Kd.N_mono hN (fun k_ hk_ => hk_.imp (fun h_ => Or.inr h_.1) id), hB⟩
 ·refine Kd.V_mono (Kd.V_below (Kd.V_bound hs0_2) hB) (fun k_ hk_ => ⟨Or.inl (Or.inl hk_.1), fun he => ?_⟩)
  have h1_ := hbs _ he.symm
  have h2_ := hk_.2
  omega
mutual
def pyxref10_Depth.l0 : Nat → Int → Int → Int → Int → List Int → List (S34) → Option (Int)
 | 0, _, _, _, _, _, _ => none
 | k + 1, x3, x4, x241000, x241001, x241002, x241003 => if x4 < (x241003.length : Int) then (if 0 ≤ x4 then ((pyxref10_Depth.f k ((rd_T34 x241003 x4).f0) ((rd_T34 x241003 x4).f1) ((rd_T34 x241003 x4).f2) ((rd_T34 x241003 x4).f3)).bind fun t242 => (if (wrap64 (1 + t242)) > x3 then (pyxref10_Depth.l0 k (wrap64 (1 + t242)) (wrap64 (x4 + 1)) x241000 x241001 x241002 x241003) else (pyxref10_Depth.l0 k x3 (wrap64 (x4 + 1)) x241000 x241001 x241002 x241003))) else (none)) else (some x3)
def pyxref10_Depth.f : Nat → Int → Int → List Int → List (S34) → Option (Int)
 | 0, _, _, _, _ => none
 | k + 1, a0_0, a0_1, l0_2, l0_3 => pyxref10_Depth.l0 k 1 0 a0_0 a0_1 l0_2 l0_3
end
set_option maxHeartbeats 8000000 in
set_option maxRecDepth 100000 in
theorem pyxref10_Depth.calls (k : Nat) : ∀ (a0_0 : Int) (a0_1 : Int) (A0_2 : Option Addr) (c0_2 : Nat) (l0_2 : List Int) (A0_3 : Option Addr) (c0_3 : Nat) (l0_3 : List (S34)) (r : Int) (w : World) (hr0_2 : Kd.C (Kd.int .u8) w A0_2 l0_2.length l0_2) (hc0_2 : l0_2.length ≤ c0_2) (hr0_3 : Kd.C k34 w A0_3 l0_3.length l0_3) (hc0_3 : l0_3.length ≤ c0_3) (h : pyxref10_Depth.f k a0_0 a0_1 l0_2 l0_3 = some r),
  Calls Tryd.prog 32 #[.agg #[.int .i64 a0_0, .int .u64 a0_1, .slice A0_2 l0_2.length c0_2, .slice A0_3 l0_3.length c0_3]] w fun e w' => e = .returned (.int .i64 r) ∧ Below w.heap.size w w' := by
 induction k using Nat.strongRecOn with
 | _ k ih =>
 intro a0_0 a0_1 A0_2 c0_2 l0_2 A0_3 c0_3 l0_3 r w hr0_2 hc0_2 hr0_3 hc0_3 h
 cases k with
 | zero => exact absurd h (by simp [pyxref10_Depth.f])
 | succ k =>
 simp only [pyxref10_Depth.f] at h
 have hu34 := Tryd.underlying34
 have HR0_2 := Aside0.mk hr0_2
 have HC0_2 := Aside0.mk hc0_2
 clear hr0_2 hc0_2
 have HR0_3 := Aside0.mk hr0_3
 have HC0_3 := Aside0.mk hc0_3
 clear hr0_3 hc0_3
 have HB := Aside0.mk (Below.refl w.heap.size w)
 have H : (pyxref10_Depth.l0 k 1 0 a0_0 a0_1 l0_2 l0_3) = some r := h
 clear h
 have H' := Aside0.mk H
 clear H
 go_enter Tryd.func32, Tryd.ntmps32
 go_wp2_with (first | ((with_reducible refine gate_dst (N := 1) rfl ?_); refine box_event ?hg (N := 1) ?hd (cs := #[.int .i64 a0_0, .int .u64 a0_1, .slice A0_2 l0_2.length c0_2, .slice A0_3 l0_3.length c0_3]) (t := 34) ?hr ?_; (case hd => rfl); (case hg => rfl); (case hr => first | (go_simp; done) | (go_simp; rfl)); intro gb240 hg w2 hbox hb; have n0_ := Aside0.mk (below_step q44_ hb); have n1_ := Aside0.mk (hbox); have n2_ := Aside0.mk ((by rw [hg]; exact (below_size q44_) : w.heap.size ≤ gb240)); have n3_ := Aside0.mk ((by rw [hg]; exact (below_size q44_) : w.heap.size ≤ gb240)); clear HB; have HB := n0_; have BK240 := n1_; have GW240 := n2_; have GE240 := n3_; clear n0_ n1_ n2_ n3_; clear hb hbox hg))
 go_loopg [3, 4] k (fun kq v3 v4 w' => ∃ (x3_1 : Int) (x4_1 : Int), v3 = .int .i64 x3_1 ∧ v4 = .int .i64 x4_1 ∧ Aside0 (pyxref10_Depth.l0 kq x3_1 x4_1 a0_0 a0_1 l0_2 l0_3 = some r) ∧ Aside0 (kq ≤ k) ∧ Aside0 (w'.heap[gb240]? = some (.cells #[.int .i64 a0_0, .int .u64 a0_1, (.slice A0_2 l0_2.length c0_2), (.slice A0_3 l0_3.length c0_3)] 34 (0, 0))) ∧ Aside0 (Below w.heap.size w w'))
 case atStart => exact ⟨(1), (0), q97_, q97_, H', ⟨Nat.le_refl _⟩, ⟨by (with_reducible repeat (first | refine blk_drewN ?_ _ | refine blk_drew ?_ | refine blk_alloc ?_ _)); exact BK240.out⟩, ⟨by repeat (first | (with_reducible first | exact HB.out | apply below_alloc | apply pw_below_drewN | apply below_drew1 | refine below_set ?_ GE240.out) | exact HB.out)⟩⟩
 case round =>
  clear H'
  try clear p2
  obtain ⟨x3_1, x4_1, rfl, rfl, HA, HK1, BK240, HB⟩ := hrel
  cases gk with
  | zero => exact absurd HA.out (by simp [pyxref10_Depth.l0])
  | succ k1 =>
   have H := HA.out
   clear HA
   simp only [pyxref10_Depth.l0] at H
   by_cases c3 : x4_1 < (l0_3.length : Int)
   ·rw [if_pos c3] at H
    have c3b0 : decide (x4_1 < (l0_3.length : Int)) = true := decide_eq_true c3
    clear c3
    by_cases c4 : 0 ≤ x4_1
    ·rw [if_pos c4] at H
     have c4b0 : decide (0 ≤ x4_1) = true := decide_eq_true c4
     clear c4
     replace H := Option.bind_eq_some_iff.mp H
     obtain ⟨t242, A50, H⟩ := H
     replace H : (if (wrap64 (1 + t242)) > x3_1 then (pyxref10_Depth.l0 k1 (wrap64 (1 + t242)) (wrap64 (x4_1 + 1)) a0_0 a0_1 l0_2 l0_3) else (pyxref10_Depth.l0 k1 x3_1 (wrap64 (x4_1 + 1)) a0_0 a0_1 l0_2 l0_3)) = some r := H
     have A5 := Aside0.mk A50
     clear A50
     by_cases c6 : (wrap64 (1 + t242)) > x3_1
     ·rw [if_pos c6] at H
      have c6b0 : decide (x3_1 < (wrap64 (1 + t242))) = true := decide_eq_true c6
      clear c6
      have H' := Aside0.mk H
      clear H
      have hcz7_0 : wr.cell? ⟨gb240, 0, none⟩ = some (.int .i64 a0_0) := (blk_cell BK240.out 0).trans rfl
      have hcz7_1 : wr.cell? ⟨gb240, 1, none⟩ = some (.int .u64 a0_1) := (blk_cell BK240.out 1).trans rfl
      have hcz7_2 : wr.cell? ⟨gb240, 2, none⟩ = some (.slice A0_2 l0_2.length c0_2) := (blk_cell BK240.out 2).trans rfl
      have hcz7_3 : wr.cell? ⟨gb240, 3, none⟩ = some (.slice A0_3 l0_3.length c0_3) := (blk_cell BK240.out 3).trans rfl
      have hfz7_0 := blk_frozen BK240.out 0
      have hfz7_1 := blk_frozen BK240.out 1
      have hfz7_2 := blk_frozen BK240.out 2
      have hfz7_3 := blk_frozen BK240.out 3
      have p241 : 0 ≤ (x4_1 : Int) := of_decide_eq_true q95_
      have q241 : x4_1 < (l0_3.length : Int) := of_decide_eq_true q95_
      obtain ⟨ad241, A241_2, c241_2, A241_3, c241_3, e241, hx241_0, hx241_1, hx241_2, hx241_3, hl241_2, hi241_2, hl241_3, hi241_3⟩ := at_T34 HR0_3.out x4_1 p241 q241
      cases e241
      replace hx241_0 := (HB.out.cell (World.block_lt_of_cell? w _ hx241_0)).trans hx241_0
      replace hx241_1 := (HB.out.cell (World.block_lt_of_cell? w _ hx241_1)).trans hx241_1
      replace hx241_2 := (HB.out.cell (World.block_lt_of_cell? w _ hx241_2)).trans hx241_2
      replace hx241_3 := (HB.out.cell (World.block_lt_of_cell? w _ hx241_3)).trans hx241_3
      have HR241_2 := Aside0.mk hi241_2
      have HC241_2 := Aside0.mk hl241_2
      clear hi241_2 hl241_2
      have HR241_3 := Aside0.mk hi241_3
      have HC241_3 := Aside0.mk hl241_3
      clear hi241_3 hl241_3
      replace p241 := eq_true p241
      replace q241 := eq_true q241
      go_wp2_with (first | ((with_reducible refine gate_callee (f := 32) rfl ?_); refine goesL_ (some 18) rfl rfl Tryd.func32 (by kernel_rfl) rfl #[.agg #[.int .i64 ((rd_T34 l0_3 x4_1).f0), .int .u64 ((rd_T34 l0_3 x4_1).f1), .slice A241_2 ((rd_T34 l0_3 x4_1).f2).length c241_2, .slice A241_3 ((rd_T34 l0_3 x4_1).f3).length c241_3]] rfl q43_ ?_; (with_reducible refine (ih k1 (by have := HK1.out; omega) ((rd_T34 l0_3 x4_1).f0) ((rd_T34 l0_3 x4_1).f1) _ _ ((rd_T34 l0_3 x4_1).f2) _ _ ((rd_T34 l0_3 x4_1).f3) t242 _ ?side1 ?side2 ?side3 ?side4 A5.out).mono ?_); (case side1 => repeat (first | exact (Kd.C_below HR241_2.out HB.out) | (with_reducible refine Kd.C_alloc ?_ _) | (with_reducible refine Kd.C_drewN ?_ _) | (with_reducible refine Kd.C_drew ?_))); (case side2 => exact HC241_2.out); (case side3 => repeat (first | exact (Kd.C_below HR241_3.out HB.out) | (with_reducible refine Kd.C_alloc ?_ _) | (with_reducible refine Kd.C_drewN ?_ _) | (with_reducible refine Kd.C_drew ?_))); (case side4 => exact HC241_3.out); rintro e w8 ⟨rfl, hb⟩; refine ⟨_, rfl, ?_⟩; have n0_ := Aside0.mk (blk_below (g := gb240) (o := .cells #[.int .i64 a0_0, .int .u64 a0_1, .slice A0_2 l0_2.length c0_2, .slice (some ad241) l0_3.length c0_3] 34 (0, 0)) (by (with_reducible repeat (first | refine blk_drewN ?_ _ | refine blk_drew ?_ | refine blk_alloc ?_ _)); exact BK240.out) hb); have n1_ := Aside0.mk (below_step (by repeat (first | (with_reducible first | exact HB.out | apply below_alloc | apply pw_below_drewN | apply below_drew1 | refine below_set ?_ GE240.out) | exact HB.out)) hb); clear BK240; clear HB; have BK240 := n0_; have HB := n1_; clear n0_ n1_; (try clear hb); (try clear hb2); (try clear hk); (try clear hi)))
      go_roundg k1
      case measure => have := HK1.out; omega
      case rel => exact ⟨(wrap64 (1 + t242)), (wrap64 (x4_1 + 1)), q97_, q97_, H', ⟨by have := HK1.out; omega⟩, ⟨by (with_reducible repeat (first | refine blk_drewN ?_ _ | refine blk_drew ?_ | refine blk_alloc ?_ _)); exact BK240.out⟩, ⟨by repeat (first | (with_reducible first | exact HB.out | apply below_alloc | apply pw_below_drewN | apply below_drew1 | refine below_set ?_ GE240.out) | exact HB.out)⟩⟩
     ·rw [if_neg c6] at H
      have c6b0 : decide (x3_1 < (wrap64 (1 + t242))) = false := decide_eq_false c6
      clear c6
      have H' := Aside0.mk H
      clear H
      have hcz9_0 : wr.cell? ⟨gb240, 0, none⟩ = some (.int .i64 a0_0) := (blk_cell BK240.out 0).trans rfl
      have hcz9_1 : wr.cell? ⟨gb240, 1, none⟩ = some (.int .u64 a0_1) := (blk_cell BK240.out 1).trans rfl
      have hcz9_2 : wr.cell? ⟨gb240, 2, none⟩ = some (.slice A0_2 l0_2.length c0_2) := (blk_cell BK240.out 2).trans rfl
      have hcz9_3 : wr.cell? ⟨gb240, 3, none⟩ = some (.slice A0_3 l0_3.length c0_3) := (blk_cell BK240.out 3).trans rfl
      have hfz9_0 := blk_frozen BK240.out 0
      have hfz9_1 := blk_frozen BK240.out 1
      have hfz9_2 := blk_frozen BK240.out 2
      have hfz9_3 := blk_frozen BK240.out 3
      have p241 : 0 ≤ (x4_1 : Int) := of_decide_eq_true q95_
      have q241 : x4_1 < (l0_3.length : Int) := of_decide_eq_true q95_
      obtain ⟨ad241, A241_2, c241_2, A241_3, c241_3, e241, hx241_0, hx241_1, hx241_2, hx241_3, hl241_2, hi241_2, hl241_3, hi241_3⟩ := at_T34 HR0_3.out x4_1 p241 q241
      cases e241
      replace hx241_0 := (HB.out.cell (World.block_lt_of_cell? w _ hx241_0)).trans hx241_0
      replace hx241_1 := (HB.out.cell (World.block_lt_of_cell? w _ hx241_1)).trans hx241_1
      replace hx241_2 := (HB.out.cell (World.block_lt_of_cell? w _ hx241_2)).trans hx241_2
      replace hx241_3 := (HB.out.cell (World.block_lt_of_cell? w _ hx241_3)).trans hx241_3
      have HR241_2 := Aside0.mk hi241_2
      have HC241_2 := Aside0.mk hl241_2
      clear hi241_2 hl241_2
      have HR241_3 := Aside0.mk hi241_3
      have HC241_3 := Aside0.mk hl241_3
      clear hi241_3 hl241_3
      replace p241 := eq_true p241
      replace q241 := eq_true q241
      go_wp2_with (first | ((with_reducible refine gate_callee (f := 32) rfl ?_); refine goesL_ (some 18) rfl rfl Tryd.func32 (by kernel_rfl) rfl #[.agg #[.int .i64 ((rd_T34 l0_3 x4_1).f0), .int .u64 ((rd_T34 l0_3 x4_1).f1), .slice A241_2 ((rd_T34 l0_3 x4_1).f2).length c241_2, .slice A241_3 ((rd_T34 l0_3 x4_1).f3).length c241_3]] rfl q43_ ?_; (with_reducible refine (ih k1 (by have := HK1.out; omega) ((rd_T34 l0_3 x4_1).f0) ((rd_T34 l0_3 x4_1).f1) _ _ ((rd_T34 l0_3 x4_1).f2) _ _ ((rd_T34 l0_3 x4_1).f3) t242 _ ?side1 ?side2 ?side3 ?side4 A5.out).mono ?_); (case side1 => repeat (first | exact (Kd.C_below HR241_2.out HB.out) | (with_reducible refine Kd.C_alloc ?_ _) | (with_reducible refine Kd.C_drewN ?_ _) | (with_reducible refine Kd.C_drew ?_))); (case side2 => exact HC241_2.out); (case side3 => repeat (first | exact (Kd.C_below HR241_3.out HB.out) | (with_reducible refine Kd.C_alloc ?_ _) | (with_reducible refine Kd.C_drewN ?_ _) | (with_reducible refine Kd.C_drew ?_))); (case side4 => exact HC241_3.out); rintro e w10 ⟨rfl, hb⟩; refine ⟨_, rfl, ?_⟩; have n0_ := Aside0.mk (blk_below (g := gb240) (o := .cells #[.int .i64 a0_0, .int .u64 a0_1, .slice A0_2 l0_2.length c0_2, .slice (some ad241) l0_3.length c0_3] 34 (0, 0)) (by (with_reducible repeat (first | refine blk_drewN ?_ _ | refine blk_drew ?_ | refine blk_alloc ?_ _)); exact BK240.out) hb); have n1_ := Aside0.mk (below_step (by repeat (first | (with_reducible first | exact HB.out | apply below_alloc | apply pw_below_drewN | apply below_drew1 | refine below_set ?_ GE240.out) | exact HB.out)) hb); clear BK240; clear HB; have BK240 := n0_; have HB := n1_; clear n0_ n1_; (try clear hb); (try clear hb2); (try clear hk); (try clear hi)))
      go_roundg k1
      case measure => have := HK1.out; omega
      case rel => exact ⟨(x3_1), (wrap64 (x4_1 + 1)), q97_, q97_, H', ⟨by have := HK1.out; omega⟩, ⟨by (with_reducible repeat (first | refine blk_drewN ?_ _ | refine blk_drew ?_ | refine blk_alloc ?_ _)); exact BK240.out⟩, ⟨by repeat (first | (with_reducible first | exact HB.out | apply below_alloc | apply pw_below_drewN | apply below_drew1 | refine below_set ?_ GE240.out) | exact HB.out)⟩⟩
    ·rw [if_neg c4] at H
     exact absurd H (by simp)
   ·rw [if_neg c3] at H
    have c3b0 : decide (x4_1 < (l0_3.length : Int)) = false := decide_eq_false c3
    clear c3
    obtain rfl := Option.some.inj H
    have hcz11_0 : wr.cell? ⟨gb240, 0, none⟩ = some (.int .i64 a0_0) := (blk_cell BK240.out 0).trans rfl
    have hcz11_1 : wr.cell? ⟨gb240, 1, none⟩ = some (.int .u64 a0_1) := (blk_cell BK240.out 1).trans rfl
    have hcz11_2 : wr.cell? ⟨gb240, 2, none⟩ = some (.slice A0_2 l0_2.length c0_2) := (blk_cell BK240.out 2).trans rfl
    have hcz11_3 : wr.cell? ⟨gb240, 3, none⟩ = some (.slice A0_3 l0_3.length c0_3) := (blk_cell BK240.out 3).trans rfl
    have hfz11_0 := blk_frozen BK240.out 0
    have hfz11_1 := blk_frozen BK240.out 1
    have hfz11_2 := blk_frozen BK240.out 2
    have hfz11_3 := blk_frozen BK240.out 3
    go_wp2
    go_ret
    exact ⟨by first | rfl | (simp [errW_none, errW_some] <;> rfl) | (simp [*, errW_none, errW_some] <;> rfl), by repeat (first | (with_reducible first | exact HB.out | apply below_alloc | apply pw_below_drewN | apply below_drew1 | refine below_set ?_ GE240.out) | exact HB.out)⟩
mutual
def pyxref10_Count.l0 : Nat → Int → Int → Int → Int → List Int → List (S34) → Option (Int)
 | 0, _, _, _, _, _, _ => none
 | k + 1, x3, x4, x244000, x244001, x244002, x244003 => if x4 < (x244003.length : Int) then (if 0 ≤ x4 then ((pyxref10_Count.f k ((rd_T34 x244003 x4).f0) ((rd_T34 x244003 x4).f1) ((rd_T34 x244003 x4).f2) ((rd_T34 x244003 x4).f3)).bind fun t245 => (pyxref10_Count.l0 k (wrap64 (x3 + t245)) (wrap64 (x4 + 1)) x244000 x244001 x244002 x244003)) else (none)) else (some x3)
def pyxref10_Count.f : Nat → Int → Int → List Int → List (S34) → Option (Int)
 | 0, _, _, _, _ => none
 | k + 1, a0_0, a0_1, l0_2, l0_3 => pyxref10_Count.l0 k (wrap64 (1 + (l0_2.length : Int))) 0 a0_0 a0_1 l0_2 l0_3
end
set_option maxHeartbeats 8000000 in
set_option maxRecDepth 100000 in
theorem pyxref10_Count.calls (k : Nat) : ∀ (a0_0 : Int) (a0_1 : Int) (A0_2 : Option Addr) (c0_2 : Nat) (l0_2 : List Int) (A0_3 : Option Addr) (c0_3 : Nat) (l0_3 : List (S34)) (r : Int) (w : World) (hr0_2 : Kd.C (Kd.int .u8) w A0_2 l0_2.length l0_2) (hc0_2 : l0_2.length ≤ c0_2) (hr0_3 : Kd.C k34 w A0_3 l0_3.length l0_3) (hc0_3 : l0_3.length ≤ c0_3) (h : pyxref10_Count.f k a0_0 a0_1 l0_2 l0_3 = some r),
  Calls Tryd.prog 58 #[.agg #[.int .i64 a0_0, .int .u64 a0_1, .slice A0_2 l0_2.length c0_2, .slice A0_3 l0_3.length c0_3]] w fun e w' => e = .returned (.int .i64 r) ∧ Below w.heap.size w w' := by
 induction k using Nat.strongRecOn with
 | _ k ih =>
 intro a0_0 a0_1 A0_2 c0_2 l0_2 A0_3 c0_3 l0_3 r w hr0_2 hc0_2 hr0_3 hc0_3 h
 cases k with
 | zero => exact absurd h (by simp [pyxref10_Count.f])
 | succ k =>
 simp only [pyxref10_Count.f] at h
 have hu34 := Tryd.underlying34
 have HR0_2 := Aside0.mk hr0_2
 have HC0_2 := Aside0.mk hc0_2
 clear hr0_2 hc0_2
 have HR0_3 := Aside0.mk hr0_3
 have HC0_3 := Aside0.mk hc0_3
 clear hr0_3 hc0_3
 have HB := Aside0.mk (Below.refl w.heap.size w)
 have H : (pyxref10_Count.l0 k (wrap64 (1 + (l0_2.length : Int))) 0 a0_0 a0_1 l0_2 l0_3) = some r := h
 clear h
 have H' := Aside0.mk H
 clear H
 go_enter Tryd.func58, Tryd.ntmps58
 go_wp2_with (first | ((with_reducible refine gate_dst (N := 1) rfl ?_); refine box_event ?hg (N := 1) ?hd (cs := #[.int .i64 a0_0, .int .u64 a0_1, .slice A0_2 l0_2.length c0_2, .slice A0_3 l0_3.length c0_3]) (t := 34) ?hr ?_; (case hd => rfl); (case hg => rfl); (case hr => first | (go_simp; done) | (go_simp; rfl)); intro gb243 hg w2 hbox hb; have n0_ := Aside0.mk (below_step q44_ hb); have n1_ := Aside0.mk (hbox); have n2_ := Aside0.mk ((by rw [hg]; exact (below_size q44_) : w.heap.size ≤ gb243)); have n3_ := Aside0.mk ((by rw [hg]; exact (below_size q44_) : w.heap.size ≤ gb243)); clear HB; have HB := n0_; have BK243 := n1_; have GW243 := n2_; have GE243 := n3_; clear n0_ n1_ n2_ n3_; clear hb hbox hg; have hcz3_0 : w2.cell? ⟨gb243, 0, none⟩ = some (.int .i64 a0_0) := (blk_cell BK243.out 0).trans rfl; have hcz3_1 : w2.cell? ⟨gb243, 1, none⟩ = some (.int .u64 a0_1) := (blk_cell BK243.out 1).trans rfl; have hcz3_2 : w2.cell? ⟨gb243, 2, none⟩ = some (.slice A0_2 l0_2.length c0_2) := (blk_cell BK243.out 2).trans rfl; have hcz3_3 : w2.cell? ⟨gb243, 3, none⟩ = some (.slice A0_3 l0_3.length c0_3) := (blk_cell BK243.out 3).trans rfl; have hfz3_0 := blk_frozen BK243.out 0; have hfz3_1 := blk_frozen BK243.out 1; have hfz3_2 := blk_frozen BK243.out 2; have hfz3_3 := blk_frozen BK243.out 3))
 go_loopg [3, 4] k (fun kq v3 v4 w' => ∃ (x3_1 : Int) (x4_1 : Int), v3 = .int .i64 x3_1 ∧ v4 = .int .i64 x4_1 ∧ Aside0 (pyxref10_Count.l0 kq x3_1 x4_1 a0_0 a0_1 l0_2 l0_3 = some r) ∧ Aside0 (kq ≤ k) ∧ Aside0 (w'.heap[gb243]? = some (.cells #[.int .i64 a0_0, .int .u64 a0_1, (.slice A0_2 l0_2.length c0_2), (.slice A0_3 l0_3.length c0_3)] 34 (0, 0))) ∧ Aside0 (Below w.heap.size w w'))
 case atStart => exact ⟨(wrap64 (1 + (l0_2.length : Int))), (0), q97_, q97_, H', ⟨Nat.le_refl _⟩, ⟨by (with_reducible repeat (first | refine blk_drewN ?_ _ | refine blk_drew ?_ | refine blk_alloc ?_ _)); exact BK243.out⟩, ⟨by repeat (first | (with_reducible first | exact HB.out | apply below_alloc | apply pw_below_drewN | apply below_drew1 | refine below_set ?_ GE243.out) | exact HB.out)⟩⟩
 case round =>
  clear H'
  try clear p2
  try clear hcz3_0
  try clear hcz3_1
  try clear hcz3_2
  try clear hcz3_3
  try clear hfz3_0
  try clear hfz3_1
  try clear hfz3_2
  try clear hfz3_3
  obtain ⟨x3_1, x4_1, rfl, rfl, HA, HK1, BK243, HB⟩ := hrel
  cases gk with
  | zero => exact absurd HA.out (by simp [pyxref10_Count.l0])
  | succ k1 =>
   have H := HA.out
   clear HA
   simp only [pyxref10_Count.l0] at H
   by_cases c4 : x4_1 < (l0_3.length : Int)
   ·rw [if_pos c4] at H
    have c4b0 : decide (x4_1 < (l0_3.length : Int)) = true := decide_eq_true c4
    clear c4
    by_cases c5 : 0 ≤ x4_1
    ·rw [if_pos c5] at H
     have c5b0 : decide (0 ≤ x4_1) = true := decide_eq_true c5
     clear c5
     replace H := Option.bind_eq_some_iff.mp H
     obtain ⟨t245, A60, H⟩ := H
     replace H : (pyxref10_Count.l0 k1 (wrap64 (x3_1 + t245)) (wrap64 (x4_1 + 1)) a0_0 a0_1 l0_2 l0_3) = some r := H
     have A6 := Aside0.mk A60
     clear A60
     have H' := Aside0.mk H
     clear H
     have hcz7_0 : wr.cell? ⟨gb243, 0, none⟩ = some (.int .i64 a0_0) := (blk_cell BK243.out 0).trans rfl
     have hcz7_1 : wr.cell? ⟨gb243, 1, none⟩ = some (.int .u64 a0_1) := (blk_cell BK243.out 1).trans rfl
     have hcz7_2 : wr.cell? ⟨gb243, 2, none⟩ = some (.slice A0_2 l0_2.length c0_2) := (blk_cell BK243.out 2).trans rfl
     have hcz7_3 : wr.cell? ⟨gb243, 3, none⟩ = some (.slice A0_3 l0_3.length c0_3) := (blk_cell BK243.out 3).trans rfl
     have hfz7_0 := blk_frozen BK243.out 0
     have hfz7_1 := blk_frozen BK243.out 1
     have hfz7_2 := blk_frozen BK243.out 2
     have hfz7_3 := blk_frozen BK243.out 3
     have p244 : 0 ≤ (x4_1 : Int) := of_decide_eq_true q95_
     have q244 : x4_1 < (l0_3.length : Int) := of_decide_eq_true q95_
     obtain ⟨ad244, A244_2, c244_2, A244_3, c244_3, e244, hx244_0, hx244_1, hx244_2, hx244_3, hl244_2, hi244_2, hl244_3, hi244_3⟩ := at_T34 HR0_3.out x4_1 p244 q244
     cases e244
     replace hx244_0 := (HB.out.cell (World.block_lt_of_cell? w _ hx244_0)).trans hx244_0
     replace hx244_1 := (HB.out.cell (World.block_lt_of_cell? w _ hx244_1)).trans hx244_1
     replace hx244_2 := (HB.out.cell (World.block_lt_of_cell? w _ hx244_2)).trans hx244_2
     replace hx244_3 := (HB.out.cell (World.block_lt_of_cell? w _ hx244_3)).trans hx244_3
     have HR244_2 := Aside0.mk hi244_2
     have HC244_2 := Aside0.mk hl244_2
     clear hi244_2 hl244_2
     have HR244_3 := Aside0.mk hi244_3
     have HC244_3 := Aside0.mk hl244_3
     clear hi244_3 hl244_3
     replace p244 := eq_true p244
     replace q244 := eq_true q244
     go_wp2_with (first | ((with_reducible refine gate_callee (f := 58) rfl ?_); refine goesL_ (some 22) rfl rfl Tryd.func58 (by kernel_rfl) rfl #[.agg #[.int .i64 ((rd_T34 l0_3 x4_1).f0), .int .u64 ((rd_T34 l0_3 x4_1).f1), .slice A244_2 ((rd_T34 l0_3 x4_1).f2).length c244_2, .slice A244_3 ((rd_T34 l0_3 x4_1).f3).length c244_3]] rfl q43_ ?_; (with_reducible refine (ih k1 (by have := HK1.out; omega) ((rd_T34 l0_3 x4_1).f0) ((rd_T34 l0_3 x4_1).f1) _ _ ((rd_T34 l0_3 x4_1).f2) _ _ ((rd_T34 l0_3 x4_1).f3) t245 _ ?side1 ?side2 ?side3 ?side4 A6.out).mono ?_); (case side1 => repeat (first | exact (Kd.C_below HR244_2.out HB.out) | (with_reducible refine Kd.C_alloc ?_ _) | (with_reducible refine Kd.C_drewN ?_ _) | (with_reducible refine Kd.C_drew ?_))); (case side2 => exact HC244_2.out); (case side3 => repeat (first | exact (Kd.C_below HR244_3.out HB.out) | (with_reducible refine Kd.C_alloc ?_ _) | (with_reducible refine Kd.C_drewN ?_ _) | (with_reducible refine Kd.C_drew ?_))); (case side4 => exact HC244_3.out); rintro e w8 ⟨rfl, hb⟩; refine ⟨_, rfl, ?_⟩; have n0_ := Aside0.mk (blk_below (g := gb243) (o := .cells #[.int .i64 a0_0, .int .u64 a0_1, .slice A0_2 l0_2.length c0_2, .slice (some ad244) l0_3.length c0_3] 34 (0, 0)) (by (with_reducible repeat (first | refine blk_drewN ?_ _ | refine blk_drew ?_ | refine blk_alloc ?_ _)); exact BK243.out) hb); have n1_ := Aside0.mk (below_step (by repeat (first | (with_reducible first | exact HB.out | apply below_alloc | apply pw_below_drewN | apply below_drew1 | refine below_set ?_ GE243.out) | exact HB.out)) hb); clear BK243; clear HB; have BK243 := n0_; have HB := n1_; clear n0_ n1_; (try clear hb); (try clear hb2); (try clear hk); (try clear hi)))
     go_roundg k1
     case measure => have := HK1.out; omega
     case rel => exact ⟨(wrap64 (x3_1 + t245)), (wrap64 (x4_1 + 1)), q97_, q97_, H', ⟨by have := HK1.out; omega⟩, ⟨by (with_reducible repeat (first | refine blk_drewN ?_ _ | refine blk_drew ?_ | refine blk_alloc ?_ _)); exact BK243.out⟩, ⟨by repeat (first | (with_reducible first | exact HB.out | apply below_alloc | apply pw_below_drewN | apply below_drew1 | refine below_set ?_ GE243.out) | exact HB.out)⟩⟩
    ·rw [if_neg c5] at H
     exact absurd H (by simp)
   ·rw [if_neg c4] at H
    have c4b0 : decide (x4_1 < (l0_3.length : Int)) = false := decide_eq_false c4
    clear c4
    obtain rfl := Option.some.inj H
    have hcz9_0 : wr.cell? ⟨gb243, 0, none⟩ = some (.int .i64 a0_0) := (blk_cell BK243.out 0).trans rfl
    have hcz9_1 : wr.cell? ⟨gb243, 1, none⟩ = some (.int .u64 a0_1) := (blk_cell BK243.out 1).trans rfl
    have hcz9_2 : wr.cell? ⟨gb243, 2, none⟩ = some (.slice A0_2 l0_2.length c0_2) := (blk_cell BK243.out 2).trans rfl
    have hcz9_3 : wr.cell? ⟨gb243, 3, none⟩ = some (.slice A0_3 l0_3.length c0_3) := (blk_cell BK243.out 3).trans rfl
    have hfz9_0 := blk_frozen BK243.out 0
    have hfz9_1 := blk_frozen BK243.out 1
    have hfz9_2 := blk_frozen BK243.out 2
    have hfz9_3 := blk_frozen BK243.out 3
    go_wp2
    go_ret
    exact ⟨by first | rfl | (simp [errW_none, errW_some] <;> rfl) | (simp [*, errW_none, errW_some] <;> rfl), by repeat (first | (with_reducible first | exact HB.out | apply below_alloc | apply pw_below_drewN | apply below_drew1 | refine below_set ?_ GE243.out) | exact HB.out)⟩
def pyxref10_Few.f (k : Nat) (a0_0 : Int) (a0_1 : Int) (l0_2 : List Int) (l0_3 : List (S34)) : Option (Bool) := (pyxref10_Depth.f k a0_0 a0_1 l0_2 l0_3).bind fun t247 => (if t247 ≤ 20 then ((pyxref10_Count.f k a0_0 a0_1 l0_2 l0_3).bind fun t248 => (some (decide (t248 ≤ 3000)))) else (some false))
set_option maxHeartbeats 8000000 in
set_option maxRecDepth 100000 in
theorem pyxref10_Few.calls (k : Nat) (a0_0 : Int) (a0_1 : Int) (A0_2 : Option Addr) (c0_2 : Nat) (l0_2 : List Int) (A0_3 : Option Addr) (c0_3 : Nat) (l0_3 : List (S34)) (r : Bool) (w : World) (hr0_2 : Kd.C (Kd.int .u8) w A0_2 l0_2.length l0_2) (hc0_2 : l0_2.length ≤ c0_2) (hr0_3 : Kd.C k34 w A0_3 l0_3.length l0_3) (hc0_3 : l0_3.length ≤ c0_3) (h : pyxref10_Few.f k a0_0 a0_1 l0_2 l0_3 = some r) :
  Calls Tryd.prog 21 #[.agg #[.int .i64 a0_0, .int .u64 a0_1, .slice A0_2 l0_2.length c0_2, .slice A0_3 l0_3.length c0_3]] w fun e w' => e = .returned (.bool r) ∧ Below w.heap.size w w' := by
 have hu34 := Tryd.underlying34
 have HR0_2 := Aside0.mk hr0_2
 have HC0_2 := Aside0.mk hc0_2
 clear hr0_2 hc0_2
 have HR0_3 := Aside0.mk hr0_3
 have HC0_3 := Aside0.mk hc0_3
 clear hr0_3 hc0_3
 have HB := Aside0.mk (Below.refl w.heap.size w)
 have H : ((pyxref10_Depth.f k a0_0 a0_1 l0_2 l0_3).bind fun t247 => (if t247 ≤ 20 then ((pyxref10_Count.f k a0_0 a0_1 l0_2 l0_3).bind fun t248 => (some (decide (t248 ≤ 3000)))) else (some false))) = some r := h
 clear h
 replace H := Option.bind_eq_some_iff.mp H
 obtain ⟨t247, A20, H⟩ := H
 replace H : (if t247 ≤ 20 then ((pyxref10_Count.f k a0_0 a0_1 l0_2 l0_3).bind fun t248 => (some (decide (t248 ≤ 3000)))) else (some false)) = some r := H
 have A2 := Aside0.mk A20
 clear A20
 by_cases c3 : t247 ≤ 20
 ·rw [if_pos c3] at H
  have c3b0 : decide (t247 ≤ 20) = true := decide_eq_true c3
  clear c3
  replace H := Option.bind_eq_some_iff.mp H
  obtain ⟨t248, A40, H⟩ := H
  replace H : (some (decide (t248 ≤ 3000))) = some r := H
  have A4 := Aside0.mk A40
  clear A40
  obtain rfl := Option.some.inj H
  go_enter Tryd.func21, Tryd.ntmps21
  go_wp2_with (first | ((with_reducible refine gate_dst (N := 1) rfl ?_); refine box_event ?hg (N := 1) ?hd (cs := #[.int .i64 a0_0, .int .u64 a0_1, .slice A0_2 l0_2.length c0_2, .slice A0_3 l0_3.length c0_3]) (t := 34) ?hr ?_; (case hd => rfl); (case hg => rfl); (case hr => first | (go_simp; done) | (go_simp; rfl)); intro gb246 hg w5 hbox hb; have n0_ := Aside0.mk (below_step q44_ hb); have n1_ := Aside0.mk (hbox); have n2_ := Aside0.mk ((by rw [hg]; exact (below_size q44_) : w.heap.size ≤ gb246)); have n3_ := Aside0.mk ((by rw [hg]; exact (below_size q44_) : w.heap.size ≤ gb246)); clear HB; have HB := n0_; have BK246 := n1_; have GW246 := n2_; have GE246 := n3_; clear n0_ n1_ n2_ n3_; clear hb hbox hg; have hcz6_0 : w5.cell? ⟨gb246, 0, none⟩ = some (.int .i64 a0_0) := (blk_cell BK246.out 0).trans rfl; have hcz6_1 : w5.cell? ⟨gb246, 1, none⟩ = some (.int .u64 a0_1) := (blk_cell BK246.out 1).trans rfl; have hcz6_2 : w5.cell? ⟨gb246, 2, none⟩ = some (.slice A0_2 l0_2.length c0_2) := (blk_cell BK246.out 2).trans rfl; have hcz6_3 : w5.cell? ⟨gb246, 3, none⟩ = some (.slice A0_3 l0_3.length c0_3) := (blk_cell BK246.out 3).trans rfl; have hfz6_0 := blk_frozen BK246.out 0; have hfz6_1 := blk_frozen BK246.out 1; have hfz6_2 := blk_frozen BK246.out 2; have hfz6_3 := blk_frozen BK246.out 3) | ((with_reducible refine gate_callee (f := 32) rfl ?_); refine goesL_ (some 4) rfl rfl Tryd.func32 (by kernel_rfl) rfl #[.agg #[.int .i64 a0_0, .int .u64 a0_1, .slice A0_2 l0_2.length c0_2, .slice A0_3 l0_3.length c0_3]] rfl q43_ ?_; (with_reducible refine (pyxref10_Depth.calls k a0_0 a0_1 _ _ l0_2 _ _ l0_3 t247 _ ?side1 ?side2 ?side3 ?side4 A2.out).mono ?_); (case side1 => repeat (first | exact (Kd.C_below HR0_2.out HB.out) | (with_reducible refine Kd.C_alloc ?_ _) | (with_reducible refine Kd.C_drewN ?_ _) | (with_reducible refine Kd.C_drew ?_))); (case side2 => exact HC0_2.out); (case side3 => repeat (first | exact (Kd.C_below HR0_3.out HB.out) | (with_reducible refine Kd.C_alloc ?_ _) | (with_reducible refine Kd.C_drewN ?_ _) | (with_reducible refine Kd.C_drew ?_))); (case side4 => exact HC0_3.out); rintro e w7 ⟨rfl, hb⟩; refine ⟨_, rfl, ?_⟩; have n0_ := Aside0.mk (blk_below (g := gb246) (o := .cells #[.int .i64 a0_0, .int .u64 a0_1, .slice A0_2 l0_2.length c0_2, .slice A0_3 l0_3.length c0_3] 34 (0, 0)) q53_ hb); have n1_ := Aside0.mk (below_step q39_ hb); clear BK246; clear HB; have BK246 := n0_; have HB := n1_; clear n0_ n1_; (try clear hb); (try clear hb2); (try clear hk); (try clear hi); have hcz8_0 : w7.cell? ⟨gb246, 0, none⟩ = some (.int .i64 a0_0) := (blk_cell BK246.out 0).trans rfl; have hcz8_1 : w7.cell? ⟨gb246, 1, none⟩ = some (.int .u64 a0_1) := (blk_cell BK246.out 1).trans rfl; have hcz8_2 : w7.cell? ⟨gb246, 2, none⟩ = some (.slice A0_2 l0_2.length c0_2) := (blk_cell BK246.out 2).trans rfl; have hcz8_3 : w7.cell? ⟨gb246, 3, none⟩ = some (.slice A0_3 l0_3.length c0_3) := (blk_cell BK246.out 3).trans rfl; have hfz8_0 := blk_frozen BK246.out 0; have hfz8_1 := blk_frozen BK246.out 1; have hfz8_2 := blk_frozen BK246.out 2; have hfz8_3 := blk_frozen BK246.out 3) | (go_at_call 58; (with_reducible refine (pyxref10_Count.calls k a0_0 a0_1 _ _ l0_2 _ _ l0_3 t248 _ ?side1 ?side2 ?side3 ?side4 A4.out).mono ?_); (case side1 => repeat (first | exact (Kd.C_below HR0_2.out HB.out) | (with_reducible refine Kd.C_alloc ?_ _) | (with_reducible refine Kd.C_drewN ?_ _) | (with_reducible refine Kd.C_drew ?_))); (case side2 => exact HC0_2.out); (case side3 => repeat (first | exact (Kd.C_below HR0_3.out HB.out) | (with_reducible refine Kd.C_alloc ?_ _) | (with_reducible refine Kd.C_drewN ?_ _) | (with_reducible refine Kd.C_drew ?_))); (case side4 => exact HC0_3.out); rintro e w9 ⟨rfl, hb⟩; have n0_ := Aside0.mk (blk_below (g := gb246) (o := .cells #[.int .i64 a0_0, .int .u64 a0_1, .slice A0_2 l0_2.length c0_2, .slice A0_3 l0_3.length c0_3] 34 (0, 0)) q53_ hb); have n1_ := Aside0.mk (below_step q39_ hb); clear BK246; clear HB; have BK246 := n0_; have HB := n1_; clear n0_ n1_; (try clear hb); (try clear hb2); (try clear hk); (try clear hi)))
  go_ret
  exact ⟨by first | rfl | (simp [errW_none, errW_some] <;> rfl) | (simp [*, errW_none, errW_some] <;> rfl), by repeat (first | (with_reducible first | exact HB.out | apply below_alloc | apply pw_below_drewN | apply below_drew1 | refine below_set ?_ GE246.out) | exact HB.out)⟩
 ·rw [if_neg c3] at H
  have c3b0 : decide (t247 ≤ 20) = false := decide_eq_false c3
  clear c3
  obtain rfl := Option.some.inj H
  go_enter Tryd.func21, Tryd.ntmps21
  go_wp2_with (first | ((with_reducible refine gate_dst (N := 1) rfl ?_); refine box_event ?hg (N := 1) ?hd (cs := #[.int .i64 a0_0, .int .u64 a0_1, .slice A0_2 l0_2.length c0_2, .slice A0_3 l0_3.length c0_3]) (t := 34) ?hr ?_; (case hd => rfl); (case hg => rfl); (case hr => first | (go_simp; done) | (go_simp; rfl)); intro gb246 hg w10 hbox hb; have n0_ := Aside0.mk (below_step q44_ hb); have n1_ := Aside0.mk (hbox); have n2_ := Aside0.mk ((by rw [hg]; exact (below_size q44_) : w.heap.size ≤ gb246)); have n3_ := Aside0.mk ((by rw [hg]; exact (below_size q44_) : w.heap.size ≤ gb246)); clear HB; have HB := n0_; have BK246 := n1_; have GW246 := n2_; have GE246 := n3_; clear n0_ n1_ n2_ n3_; clear hb hbox hg; have hcz11_0 : w10.cell? ⟨gb246, 0, none⟩ = some (.int .i64 a0_0) := (blk_cell BK246.out 0).trans rfl; have hcz11_1 : w10.cell? ⟨gb246, 1, none⟩ = some (.int .u64 a0_1) := (blk_cell BK246.out 1).trans rfl; have hcz11_2 : w10.cell? ⟨gb246, 2, none⟩ = some (.slice A0_2 l0_2.length c0_2) := (blk_cell BK246.out 2).trans rfl; have hcz11_3 : w10.cell? ⟨gb246, 3, none⟩ = some (.slice A0_3 l0_3.length c0_3) := (blk_cell BK246.out 3).trans rfl; have hfz11_0 := blk_frozen BK246.out 0; have hfz11_1 := blk_frozen BK246.out 1; have hfz11_2 := blk_frozen BK246.out 2; have hfz11_3 := blk_frozen BK246.out 3) | ((with_reducible refine gate_callee (f := 32) rfl ?_); refine goesL_ (some 4) rfl rfl Tryd.func32 (by kernel_rfl) rfl #[.agg #[.int .i64 a0_0, .int .u64 a0_1, .slice A0_2 l0_2.length c0_2, .slice A0_3 l0_3.length c0_3]] rfl q43_ ?_; (with_reducible refine (pyxref10_Depth.calls k a0_0 a0_1 _ _ l0_2 _ _ l0_3 t247 _ ?side1 ?side2 ?side3 ?side4 A2.out).mono ?_); (case side1 => repeat (first | exact (Kd.C_below HR0_2.out HB.out) | (with_reducible refine Kd.C_alloc ?_ _) | (with_reducible refine Kd.C_drewN ?_ _) | (with_reducible refine Kd.C_drew ?_))); (case side2 => exact HC0_2.out); (case side3 => repeat (first | exact (Kd.C_below HR0_3.out HB.out) | (with_reducible refine Kd.C_alloc ?_ _) | (with_reducible refine Kd.C_drewN ?_ _) | (with_reducible refine Kd.C_drew ?_))); (case side4 => exact HC0_3.out); rintro e w12 ⟨rfl, hb⟩; refine ⟨_, rfl, ?_⟩; have n0_ := Aside0.mk (blk_below (g := gb246) (o := .cells #[.int .i64 a0_0, .int .u64 a0_1, .slice A0_2 l0_2.length c0_2, .slice A0_3 l0_3.length c0_3] 34 (0, 0)) q53_ hb); have n1_ := Aside0.mk (below_step q39_ hb); clear BK246; clear HB; have BK246 := n0_; have HB := n1_; clear n0_ n1_; (try clear hb); (try clear hb2); (try clear hk); (try clear hi)))
  go_ret
  exact ⟨by first | rfl | (simp [errW_none, errW_some] <;> rfl) | (simp [*, errW_none, errW_some] <;> rfl), by repeat (first | (with_reducible first | exact HB.out | apply below_alloc | apply pw_below_drewN | apply below_drew1 | refine below_set ?_ GE246.out) | exact HB.out)⟩
end Go.Proofs.YthdjmojpnimhjaaDoor.PCbg
