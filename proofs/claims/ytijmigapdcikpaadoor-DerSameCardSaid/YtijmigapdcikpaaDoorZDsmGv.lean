/- given: printed by wip/hand/given/mkgiven.py -/
import Derived.Test.YtijmigapdcikpaaDoorZPDsmx14
namespace Go.Proofs.YtijmigapdcikpaaDoor.PDsm
open Go.RowKit Go.Proofs.YtijmigapdcikpaaDoorW.PrintWords Go.Proofs.YtijmigapdcikpaaDoorW.PrintLast Go.Proofs.YtijmigapdcikpaaDoorW.PrintMore
set_option linter.unusedVariables false
set_option linter.unusedSimpArgs false
def pyxlaw08_given.g : Nat → List S33 → Option (List S26)
  | 0, _ => none
  | _ + 1, [] => some []
  | k + 1, x :: xs => if x.f2.length * 56 ≤ 140737488355328 then ((pyxlaw08_given.g k x.f2).bind fun a => (pyxlaw08_given.g k xs).bind fun b => some ((⟨x.f0, x.f1, a⟩ : S26) :: b)) else none
def pyxlaw08_given.f (k : Nat) (l : List S33) : Option (List S26) := if l.length * 56 ≤ 140737488355328 then pyxlaw08_given.g k l else none
theorem pyxlaw08_given.g_drop (k : Nat) (l : List S33) (i : Nat) (h : i < l.length) (r : List S26) (hg : pyxlaw08_given.g (k + 1) (l.drop i) = some r) : ∃ a b, ((rd_T33 l (i : Int)).f2.length * 56 ≤ 140737488355328) ∧ pyxlaw08_given.g k (rd_T33 l (i : Int)).f2 = some a ∧ pyxlaw08_given.g k (l.drop (i + 1)) = some b ∧ r = (⟨(rd_T33 l (i : Int)).f0, (rd_T33 l (i : Int)).f1, a⟩ : S26) :: b := by
  have e : l.drop i = rd_T33 l (i : Int) :: l.drop (i + 1) := by
    rw [List.drop_eq_getElem_cons h]
    simp [rd_T33, List.getD_eq_getElem?_getD, List.getElem?_eq_getElem h]
  rw [e] at hg
  simp only [pyxlaw08_given.g] at hg
  split at hg
  · rename_i hL
    obtain ⟨a, ha, hg⟩ := Option.bind_eq_some_iff.mp hg
    obtain ⟨b, hb, hg⟩ := Option.bind_eq_some_iff.mp hg
    exact ⟨a, b, hL, ha, hb, (Option.some.inj hg).symm⟩
  · exact absurd hg (by simp)
theorem pyxlaw08_given.g_end (k : Nat) (l : List S33) (i : Nat) (h : ¬ i < l.length) (r : List S26) (hg : pyxlaw08_given.g (k + 1) (l.drop i) = some r) : r = [] := by
  rw [List.drop_eq_nil_of_le (by omega)] at hg
  exact (Option.some.inj hg).symm
theorem pyxlaw08_given.g_len : ∀ (k : Nat) (l : List S33) (r : List S26), pyxlaw08_given.g k l = some r → r.length = l.length
  | 0, _, _, h => by simp [pyxlaw08_given.g] at h
  | _ + 1, [], r, h => by rw [← Option.some.inj h]; rfl
  | k + 1, x :: xs, r, h => by
    simp only [pyxlaw08_given.g] at h
    split at h
    · obtain ⟨a, ha, h⟩ := Option.bind_eq_some_iff.mp h
      obtain ⟨b, hb, h⟩ := Option.bind_eq_some_iff.mp h
      rw [← Option.some.inj h, List.length_cons, List.length_cons, pyxlaw08_given.g_len k xs b hb]
    · exact absurd h (by simp)
def pyxlaw08_given.T5 : Bool × List (List Nat × List Nat) := (true, [([], []), ([0], [0]), ([], []), ([2], [2]), ([], []), ([3, 4], [3, 4]), ([5], [5]), ([6], [6]), ([7], [7]), ([1, 8, 7], [1, 8]), ([0, 1, 2, 3, 4, 5, 6, 7, 8, 9], []), ([10, 9, 9, 0, 1, 2, 3, 4, 5, 6, 7, 8, 9], [9, 10])])
def pyxlaw08_given.B5 : List Nat := [0, 1, 0, 4, 0, 28, 60, 124, 252, 511, 1023, 2047]
theorem pyxlaw08_given.tab5 : rtab .any (opsOf Tryd.f20 5) = pyxlaw08_given.T5 := by kernel_rfl
theorem pyxlaw08_given.bits5 : waitsOk pyxlaw08_given.T5.2 pyxlaw08_given.B5 = true := by kernel_rfl
set_option maxHeartbeats 8000000 in
set_option maxRecDepth 100000 in
theorem pyxlaw08_given.calls (k : Nat) : ∀ (a0 : Int) (A1 : Option Addr) (c1 : Nat) (l1 : List Int) (A2 : Option Addr) (c2 : Nat) (l2 : List S33) (r : List S26) (w0 w : World) (hr1 : Kd.C (Kd.int .u8) w0 A1 l1.length l1) (hc1 : l1.length ≤ c1) (hr2 : Kd.C k33 w0 A2 l2.length l2) (hc2 : l2.length ≤ c2) (hbel : Below w0.heap.size w0 w) (h : pyxlaw08_given.f k l2 = some r),
    Calls Tryd.prog 20 #[.agg #[.int .u8 a0, .slice A1 l1.length c1, .slice A2 l2.length c2]] w fun e w' => ∃ v : Value, e = .returned (.agg #[.int .u8 a0, .slice A1 l1.length c1, v]) ∧ Kd.N k26 26 w' w.heap.size (fun k_ => k_ < w0.heap.size ∨ w.heap.size ≤ k_) v r ∧ Below w.heap.size w w' := by
  induction k using Nat.strongRecOn with
  | _ k ih =>
  intro a0 A1 c1 l1 A2 c2 l2 r w0 w hr1 hc1 hr2 hc2 hbel h
  have hu33 := Tryd.underlying33
  have hu26 := Tryd.underlying26
  simp only [pyxlaw08_given.f] at h
  split at h
  case isFalse => exact absurd h (by simp)
  rename_i hLim
  have hLim := Aside0.mk hLim
  have HR1 := Aside0.mk hr1
  have HC1 := Aside0.mk hc1
  clear hr1 hc1
  have HR2 := Aside0.mk hr2
  have HC2 := Aside0.mk hc2
  clear hr2 hc2
  have HW := Aside0.mk hbel
  clear hbel
  have hw0w : w0.heap.size ≤ w.heap.size := below_size HW.out
  have HB := Aside0.mk (Below.refl w.heap.size w)
  have H' := Aside0.mk h
  clear h
  go_enter Tryd.func20, Tryd.ntmps20
  go_wp2_with (first | ((with_reducible refine gate_dst (N := 1) rfl ?_); (try (refine gate_guard (by rfl) ?_; dsimp only)); refine box_event ?hg (N := 1) ?hd (cs := #[.int .u8 a0, .slice A1 l1.length c1, .slice A2 l2.length c2]) (t := 33) ?hr ?_; (case hd => rfl); (case hg => rfl); (case hr => first | (go_simp; done) | (go_simp; rfl)); intro gp hg wb_gp hbox hb; have n0_ := Aside0.mk (below_step (by repeat (first | (with_reducible first | exact HB.out | apply below_alloc | apply pw_below_drewN | apply below_drew1) | exact HB.out)) hb); have n1_ := Aside0.mk (hbox); have n2_ := Aside0.mk ((by rw [hg]; exact (below_size (by repeat (first | (with_reducible first | exact HB.out | apply below_alloc | apply pw_below_drewN | apply below_drew1) | exact HB.out))) : w.heap.size ≤ gp)); clear HB; have HB := n0_; have BKgp := n1_; have GEgp := n2_; clear n0_ n1_ n2_; clear hb hbox hg; have hcz_0 : wb_gp.cell? ⟨gp, 0, none⟩ = some (.int .u8 a0) := (blk_cell BKgp.out 0).trans rfl; have hfz_0 := blk_frozen BKgp.out 0; have hcz_1 : wb_gp.cell? ⟨gp, 1, none⟩ = some (.slice A1 l1.length c1) := (blk_cell BKgp.out 1).trans rfl; have hfz_1 := blk_frozen BKgp.out 1; have hcz_2 : wb_gp.cell? ⟨gp, 2, none⟩ = some (.slice A2 l2.length c2) := (blk_cell BKgp.out 2).trans rfl; have hfz_2 := blk_frozen BKgp.out 2) | ((with_reducible refine gate_dst (N := 2) rfl ?_); (try (refine gate_guard (by rfl) ?_; dsimp only)); refine box_event ?hg (N := 2) ?hd (cs := #[.int .u8 0, .slice none 0 0, .slice none 0 0]) (t := 26) ?hr ?_; (case hd => rfl); (case hg => rfl); (case hr => first | (go_simp; done) | (go_simp; rfl)); intro gr hg wb_gr hbox hb; have n0_ := Aside0.mk (blk_below (g := gp) (o := .cells #[.int .u8 a0, .slice A1 l1.length c1, .slice A2 l2.length c2] 33 (0, 0)) (by (with_reducible repeat (first | refine blk_drewN ?_ _ | refine blk_drew ?_ | refine blk_alloc ?_ _)); exact BKgp.out) hb); have n1_ := Aside0.mk (below_step (by repeat (first | (with_reducible first | exact HB.out | apply below_alloc | apply pw_below_drewN | apply below_drew1 | refine below_set ?_ GEgp.out) | exact HB.out)) hb); have n2_ := Aside0.mk (hbox); have n3_ := Aside0.mk ((by rw [hg]; exact (below_size (by repeat (first | (with_reducible first | exact HB.out | apply below_alloc | apply pw_below_drewN | apply below_drew1 | refine below_set ?_ GEgp.out) | exact HB.out))) : w.heap.size ≤ gr)); have n4_ := Aside0.mk ((by rw [hg]; exact Nat.ne_of_lt (blk_lt (g := gp) (o := .cells #[.int .u8 a0, .slice A1 l1.length c1, .slice A2 l2.length c2] 33 (0, 0)) (by (with_reducible repeat (first | refine blk_drewN ?_ _ | refine blk_drew ?_ | refine blk_alloc ?_ _)); exact BKgp.out)) : gp ≠ gr)); have n5_ := Aside0.mk ((by rw [hg]; exact Nat.ne_of_gt (blk_lt (g := gp) (o := .cells #[.int .u8 a0, .slice A1 l1.length c1, .slice A2 l2.length c2] 33 (0, 0)) (by (with_reducible repeat (first | refine blk_drewN ?_ _ | refine blk_drew ?_ | refine blk_alloc ?_ _)); exact BKgp.out)) : gr ≠ gp)); clear BKgp; clear HB; have BKgp := n0_; have HB := n1_; have BKgr := n2_; have GEgr := n3_; have NBgp_gr := n4_; have NBgr_gp := n5_; clear n0_ n1_ n2_ n3_ n4_ n5_; clear hb hbox hg; have hcy_0 : wb_gr.cell? ⟨gp, 0, none⟩ = some (.int .u8 a0) := (blk_cell BKgp.out 0).trans rfl; have hfy_0 := blk_frozen BKgp.out 0; have hcy_1 : wb_gr.cell? ⟨gp, 1, none⟩ = some (.slice A1 l1.length c1) := (blk_cell BKgp.out 1).trans rfl; have hfy_1 := blk_frozen BKgp.out 1; have hcy_2 : wb_gr.cell? ⟨gp, 2, none⟩ = some (.slice A2 l2.length c2) := (blk_cell BKgp.out 2).trans rfl; have hfy_2 := blk_frozen BKgp.out 2) | ((with_reducible refine gate_dst (N := 3) rfl ?_); (try (refine gate_guard (by rfl) ?_; dsimp only)); refine box_event ?hg (N := 3) ?hd (cs := #[.int .u8 0, .slice none 0 0, .slice none 0 0]) (t := 26) ?hr ?_; (case hd => rfl); (case hg => rfl); (case hr => first | (go_simp; done) | (go_simp; rfl)); intro go hg wb_go hbox hb; have n0_ := Aside0.mk (blk_below (g := gp) (o := .cells #[.int .u8 a0, .slice A1 l1.length c1, .slice A2 l2.length c2] 33 (0, 0)) (by (with_reducible repeat (first | refine blk_drewN ?_ _ | refine blk_drew ?_ | refine blk_alloc ?_ _)); exact BKgp.out) hb); have n1_ := Aside0.mk (blk_below (g := gr) (o := .cells #[.int .u8 0, .slice none 0 0, .slice none 0 0] 26 (0, 0)) (by (with_reducible repeat (first | refine blk_drewN ?_ _ | refine blk_drew ?_ | refine blk_alloc ?_ _)); exact BKgr.out) hb); have n2_ := Aside0.mk (below_step (by repeat (first | (with_reducible first | exact HB.out | apply below_alloc | apply pw_below_drewN | apply below_drew1 | refine below_set ?_ GEgp.out | refine below_set ?_ GEgr.out) | exact HB.out)) hb); have n3_ := Aside0.mk (hbox); have n4_ := Aside0.mk ((by rw [hg]; exact (below_size (by repeat (first | (with_reducible first | exact HB.out | apply below_alloc | apply pw_below_drewN | apply below_drew1 | refine below_set ?_ GEgp.out | refine below_set ?_ GEgr.out) | exact HB.out))) : w.heap.size ≤ go)); have n5_ := Aside0.mk ((by rw [hg]; exact Nat.ne_of_lt (blk_lt (g := gp) (o := .cells #[.int .u8 a0, .slice A1 l1.length c1, .slice A2 l2.length c2] 33 (0, 0)) (by (with_reducible repeat (first | refine blk_drewN ?_ _ | refine blk_drew ?_ | refine blk_alloc ?_ _)); exact BKgp.out)) : gp ≠ go)); have n6_ := Aside0.mk ((by rw [hg]; exact Nat.ne_of_gt (blk_lt (g := gp) (o := .cells #[.int .u8 a0, .slice A1 l1.length c1, .slice A2 l2.length c2] 33 (0, 0)) (by (with_reducible repeat (first | refine blk_drewN ?_ _ | refine blk_drew ?_ | refine blk_alloc ?_ _)); exact BKgp.out)) : go ≠ gp)); have n7_ := Aside0.mk ((by rw [hg]; exact Nat.ne_of_lt (blk_lt (g := gr) (o := .cells #[.int .u8 0, .slice none 0 0, .slice none 0 0] 26 (0, 0)) (by (with_reducible repeat (first | refine blk_drewN ?_ _ | refine blk_drew ?_ | refine blk_alloc ?_ _)); exact BKgr.out)) : gr ≠ go)); have n8_ := Aside0.mk ((by rw [hg]; exact Nat.ne_of_gt (blk_lt (g := gr) (o := .cells #[.int .u8 0, .slice none 0 0, .slice none 0 0] 26 (0, 0)) (by (with_reducible repeat (first | refine blk_drewN ?_ _ | refine blk_drew ?_ | refine blk_alloc ?_ _)); exact BKgr.out)) : go ≠ gr)); clear BKgp; clear BKgr; clear HB; have BKgp := n0_; have BKgr := n1_; have HB := n2_; have BKgo := n3_; have GEgo := n4_; have NBgp_go := n5_; have NBgo_gp := n6_; have NBgr_go := n7_; have NBgo_gr := n8_; clear n0_ n1_ n2_ n3_ n4_ n5_ n6_ n7_ n8_; clear hb hbox hg; have hcx_0 : wb_go.cell? ⟨go, 0, none⟩ = some (.int .u8 0) := (blk_cell BKgo.out 0).trans rfl; have hfx_0 := blk_frozen BKgo.out 0; have hcx_1 : wb_go.cell? ⟨go, 1, none⟩ = some (.slice none 0 0) := (blk_cell BKgo.out 1).trans rfl; have hfx_1 := blk_frozen BKgo.out 1; have hcx_2 : wb_go.cell? ⟨go, 2, none⟩ = some (.slice none 0 0) := (blk_cell BKgo.out 2).trans rfl; have hfx_2 := blk_frozen BKgo.out 2))
  go_loopg [4] k (fun kq v4 w' => ∃ (i : Nat) (acc rest : List S26) (u : Value), v4 = .int .i64 (i : Int) ∧ i ≤ l2.length ∧ Aside0 (acc.length = i) ∧ Aside0 (pyxlaw08_given.g kq (l2.drop i) = some rest) ∧ Aside0 (acc ++ rest = r) ∧ Aside0 (kq ≤ k) ∧ Aside0 (Kd.N k26 26 w' w.heap.size (fun k_ => (k_ < w0.heap.size ∨ w.heap.size ≤ k_) ∧ k_ ≠ gr ∧ k_ ≠ go) u acc) ∧ Aside0 (w'.heap[gp]? = some (.cells #[.int .u8 a0, .slice A1 l1.length c1, .slice A2 l2.length c2] 33 (0, 0))) ∧ Aside0 (w'.heap[gr]? = some (.cells #[.int .u8 0, .slice none 0 0, .slice none 0 0] 26 (0, 0))) ∧ Aside0 (w'.heap[go]? = some (.cells #[.int .u8 a0, .slice A1 l1.length c1, u] 26 (0, 0))) ∧ Aside0 (Below w.heap.size w w'))
  case atStart =>
    have far : ∀ (b : Addr) (x : Value), b.block = go → True := fun _ _ _ => trivial
    exact ⟨0, [], r, .slice none 0 0, rfl, Nat.zero_le _, ⟨rfl⟩, ⟨H'.out⟩, ⟨rfl⟩, ⟨Nat.le_refl _⟩, ⟨Kd.N_nil _ _ _ _ _⟩, ⟨by (repeat (first | (with_reducible first | refine blk_drewN ?_ _ | refine blk_drew ?_ | refine blk_alloc ?_ _) | refine blk_far ?_ (show gp ≠ go from NBgp_go.out) _)); exact BKgp.out⟩, ⟨by (repeat (first | (with_reducible first | refine blk_drewN ?_ _ | refine blk_drew ?_ | refine blk_alloc ?_ _) | refine blk_far ?_ (show gr ≠ go from NBgr_go.out) _)); exact BKgr.out⟩, ⟨by (with_reducible repeat (first | refine blk_drewN ?_ _ | refine blk_drew ?_ | refine blk_alloc ?_ _)); refine blk_put (cs := #[.int .u8 a0, .slice A1 l1.length c1, .slice none 0 0]) ?_ 2 _ rfl; (with_reducible repeat (first | refine blk_drewN ?_ _ | refine blk_drew ?_ | refine blk_alloc ?_ _)); refine blk_put (cs := #[.int .u8 a0, .slice none 0 0, .slice none 0 0]) ?_ 1 _ rfl; (with_reducible repeat (first | refine blk_drewN ?_ _ | refine blk_drew ?_ | refine blk_alloc ?_ _)); refine blk_put (cs := #[.int .u8 0, .slice none 0 0, .slice none 0 0]) ?_ 0 _ rfl; (with_reducible repeat (first | refine blk_drewN ?_ _ | refine blk_drew ?_ | refine blk_alloc ?_ _)); exact BKgo.out⟩, ⟨(by repeat (first | (with_reducible first | exact HB.out | apply below_alloc | apply pw_below_drewN | apply below_drew1 | refine below_set ?_ GEgp.out | refine below_set ?_ GEgr.out | refine below_set ?_ GEgo.out) | exact HB.out))⟩⟩
  case round =>
    clear H'
    try clear hcz_0 hfz_0
    try clear hcy_0 hfy_0
    try clear hcx_0 hfx_0
    try clear hcz_1 hfz_1
    try clear hcy_1 hfy_1
    try clear hcx_1 hfx_1
    try clear hcz_2 hfz_2
    try clear hcy_2 hfy_2
    try clear hcx_2 hfx_2
    obtain ⟨i, acc, rest, u, rfl, hi, hacc, HA, HE, HK, HN, BKgp, BKgr, BKgo, HB⟩ := hrel
    cases gk with
    | zero => exact absurd HA.out (by simp [pyxlaw08_given.g])
    | succ kq =>
    obtain ⟨Au, cu, eu⟩ := Kd.N_slice HN.out
    subst eu
    have hcz_ : wr.cell? ⟨gp, 2, none⟩ = some (.slice A2 l2.length c2) := (blk_cell BKgp.out 2).trans rfl
    have hfz_ := blk_frozen BKgp.out 2
    have hmax : l2.length ≤ 9223372036854775807 := HR2.out.2.1
    by_cases cI : i < l2.length
    · have cIb0 : decide ((i : Int) < (l2.length : Int)) = true := decide_eq_true (by omega)
      have cIb1 : decide (i < l2.length) = true := decide_eq_true cI
      obtain ⟨ra, rb, hLm, hga, hgb, hre⟩ := pyxlaw08_given.g_drop kq l2 i cI rest HA.out
      try go_wp2
      have n0_ := Aside0.mk (blk_drew BKgp.out)
      have n1_ := Aside0.mk (blk_drew BKgr.out)
      have n2_ := Aside0.mk (blk_drew BKgo.out)
      have n3_ := Aside0.mk (below_drew1 HB.out)
      have n4_ := Aside0.mk (Kd.N_drew HN.out)
      clear BKgp BKgr BKgo HB HN hcz_ hfz_
      have BKgp := n0_; have BKgr := n1_; have BKgo := n2_; have HB := n3_; have HN := n4_
      clear n0_ n1_ n2_ n3_ n4_
      have p5 : (0 : Int) ≤ (i : Int) := by omega
      have q5 : (i : Int) < (l2.length : Int) := by omega
      obtain ⟨ad, B1, d1, B2, d2, ead, hx0, hx1, hx2, hl1, hi1, hl2, hi2⟩ := at_T33 HR2.out (i : Int) p5 q5
      cases ead
      simp only [Int.toNat_natCast] at hx0 hx1 hx2
      have HWW : Below w0.heap.size w0 wr.drew := HW.out.trans (HB.out.mono hw0w)
      have hb0 := World.block_lt_of_cell? w0 _ hx0
      have hb1 := World.block_lt_of_cell? w0 _ hx1
      have hb2 := World.block_lt_of_cell? w0 _ hx2
      have hxd0 := (HWW.cell hb0).trans hx0
      have hxd1 := (HWW.cell hb1).trans hx1
      have hxd2 := (HWW.cell hb2).trans hx2
      have p5' := eq_true p5
      have q5' := eq_true q5
      have GXs := (show wr.drew.cell? ⟨gp, 2, none⟩ = some (.slice (some ad) l2.length c2) ∧ wr.drew.cell? ⟨go, 2, none⟩ = some (.slice Au acc.length cu) ∧ wr.drew.cell? (ad.add (i * 3)) = some (.int .u8 ((rd_T33 l2 (i : Int)).f0)) ∧ wr.drew.cell? ⟨(ad.add (i * 3)).block, (ad.add (i * 3)).off + 1, none⟩ = some (.slice B1 ((rd_T33 l2 (i : Int)).f1).length d1) ∧ wr.drew.cell? ⟨(ad.add (i * 3)).block, (ad.add (i * 3)).off + 2, none⟩ = some (.slice B2 ((rd_T33 l2 (i : Int)).f2).length d2) from ⟨(blk_cell BKgp.out 2).trans rfl, (blk_cell BKgo.out 2).trans rfl, (HWW.cell hb0).trans hx0, (HWW.cell hb1).trans hx1, (HWW.cell hb2).trans hx2⟩)
      refine start_ (n := 12) (S := fun w' => w'.cell? ⟨gp, 2, none⟩ = some (.slice (some ad) l2.length c2) ∧ w'.cell? ⟨go, 2, none⟩ = some (.slice Au acc.length cu) ∧ w'.cell? (ad.add (i * 3)) = some (.int .u8 ((rd_T33 l2 (i : Int)).f0)) ∧ w'.cell? ⟨(ad.add (i * 3)).block, (ad.add (i * 3)).off + 1, none⟩ = some (.slice B1 ((rd_T33 l2 (i : Int)).f1).length d1) ∧ w'.cell? ⟨(ad.add (i * 3)).block, (ad.add (i * 3)).off + 2, none⟩ = some (.slice B2 ((rd_T33 l2 (i : Int)).f2).length d2)) (ds := [11]) #[false, false, false, false, false, false, false, false, false, false, false, false] (by kernel_rfl) rfl rfl GXs (fun hHeld => ?_); refine with_tabW pyxlaw08_given.tab5 pyxlaw08_given.bits5 (fun HT_ HW_ => ?_)
      generalize wr.drew = wd at BKgp BKgr BKgo HB HN HWW hxd0 hxd1 hxd2 GXs hHeld ⊢
      refine pure_ (i := 0) (N := some 17) (v := ?_) (a' := ?_) #[true, false, false, false, false, false, false, false, false, false, false, false] rfl rfl (any_of HT_.out (by kernel_rfl)) (fun _ _ _ h => h) (Or.inl ⟨by rfl, ?_⟩) ?_ ?_
      rotate_left
      · intro w'
        go_simp
        with_reducible rfl
      rotate_left
      · simp only [Act.put, List.setIfInBounds_toArray, List.set_cons_zero, List.set_cons_succ, i64_w, i32_w]
        rfl
      refine take_ (i := 1) (N := some 18) (v := ?_) (a' := ?_) #[true, true, false, false, false, false, false, false, false, false, false, false] rfl rfl (take_ofW HT_.out HW_.out (by kernel_rfl)) (fun _ _ _ h => h) (Or.inl ⟨by rfl, ?_⟩) hHeld ?_ ?_
      rotate_left
      · rintro w' ⟨s0, s1, s2, s3, s4⟩
        go_simp
        with_reducible rfl
      rotate_left
      · simp only [Act.put, List.setIfInBounds_toArray, List.set_cons_zero, List.set_cons_succ, i64_w, i32_w]
        rfl
      refine pure_ (i := 2) (N := some 19) (v := ?_) (a' := ?_) #[true, true, true, false, false, false, false, false, false, false, false, false] rfl rfl (any_of HT_.out (by kernel_rfl)) (fun _ _ _ h => h) (Or.inl ⟨by rfl, ?_⟩) ?_ ?_
      rotate_left
      · intro w'
        go_simp
        with_reducible rfl
      rotate_left
      · simp only [Act.put, List.setIfInBounds_toArray, List.set_cons_zero, List.set_cons_succ, i64_w, i32_w]
        rfl
      refine take_ (i := 3) (N := some 20) (v := ?_) (a' := ?_) #[true, true, true, true, false, false, false, false, false, false, false, false] rfl rfl (take_ofW HT_.out HW_.out (by kernel_rfl)) (fun _ _ _ h => h) (Or.inl ⟨by rfl, ?_⟩) hHeld ?_ ?_
      rotate_left
      · rintro w' ⟨s0, s1, s2, s3, s4⟩
        go_simp
        with_reducible rfl
      rotate_left
      · simp only [Act.put, List.setIfInBounds_toArray, List.set_cons_zero, List.set_cons_succ, i64_w, i32_w]
        rfl
      refine pure_ (i := 4) (N := some 21) (v := ?_) (a' := ?_) #[true, true, true, true, true, false, false, false, false, false, false, false] rfl rfl (any_of HT_.out (by kernel_rfl)) (fun _ _ _ h => h) (Or.inl ⟨by rfl, ?_⟩) ?_ ?_
      rotate_left
      · intro w'
        go_simp
        with_reducible rfl
      rotate_left
      · simp only [Act.put, List.setIfInBounds_toArray, List.set_cons_zero, List.set_cons_succ, i64_w, i32_w]
        rfl
      refine pure_ (i := 5) (N := some 22) (v := ?_) (a' := ?_) #[true, true, true, true, true, true, false, false, false, false, false, false] rfl rfl (any_of HT_.out (by kernel_rfl)) (fun _ _ _ h => h) (Or.inl ⟨by rfl, ?_⟩) ?_ ?_
      rotate_left
      · intro w'
        go_simp
        with_reducible rfl
      rotate_left
      · simp only [Act.put, List.setIfInBounds_toArray, List.set_cons_zero, List.set_cons_succ, i64_w, i32_w]
        rfl
      refine take_ (i := 6) (N := some 23) (v := ?_) (a' := ?_) #[true, true, true, true, true, true, true, false, false, false, false, false] rfl rfl (take_ofW HT_.out HW_.out (by kernel_rfl)) (fun _ _ _ h => h) (Or.inl ⟨by rfl, ?_⟩) hHeld ?_ ?_
      rotate_left
      · rintro w' ⟨s0, s1, s2, s3, s4⟩
        go_simp
        with_reducible rfl
      rotate_left
      · simp only [Act.put, List.setIfInBounds_toArray, List.set_cons_zero, List.set_cons_succ, i64_w, i32_w]
        rfl
      refine one_ (i := 7) (N := some 24) #[true, true, true, true, true, true, true, true, false, false, false, false] rfl rfl (one_of HT_.out (by kernel_rfl)) (by decide) (fun K hK => ?_)
      refine goes_ Tryd.func20 (by kernel_rfl) rfl #[.agg #[.int .u8 ((rd_T33 l2 (i : Int)).f0), .slice B1 ((rd_T33 l2 (i : Int)).f1).length d1, .slice B2 ((rd_T33 l2 (i : Int)).f2).length d2]] (by rfl) rfl rfl (by (try simp only [List.map_toArray, List.map_cons, List.map_nil]); first | done | rfl | (simp only [List.length_drop, List.length_take]; rfl)) ?_
      have hfa : pyxlaw08_given.f kq (rd_T33 l2 (i : Int)).f2 = some ra := by rw [pyxlaw08_given.f, if_pos hLm]; exact hga
      with_reducible refine (ih kq (by have := HK.out; omega) _ _ _ _ _ _ _ ra w0 _ hi1 hl1 hi2 hl2 HWW hfa).mono ?_
      rintro e wc ⟨vk, rfl, hNk, hb⟩
      refine ⟨_, rfl, ?_⟩
      have hsz : w.heap.size ≤ wd.heap.size := below_size HB.out
      have HNc := Kd.N_below HN.out hb
      have HNlt := Kd.N_lt HN.out
      have HNb := Kd.N_base HN.out
      have n_gp := Aside0.mk (blk_below (g := gp) (o := .cells #[.int .u8 a0, .slice A1 l1.length c1, .slice (some ad) l2.length c2] 33 (0, 0)) BKgp.out hb); have lt_gp := blk_lt BKgp.out; clear BKgp; have BKgp := n_gp; clear n_gp
      have n_gr := Aside0.mk (blk_below (g := gr) (o := .cells #[.int .u8 0, .slice none 0 0, .slice none 0 0] 26 (0, 0)) BKgr.out hb); have lt_gr := blk_lt BKgr.out; clear BKgr; have BKgr := n_gr; clear n_gr
      have n_go := Aside0.mk (blk_below (g := go) (o := .cells #[.int .u8 a0, .slice A1 l1.length c1, .slice Au acc.length cu] 26 (0, 0)) BKgo.out hb); have lt_go := blk_lt BKgo.out; clear BKgo; have BKgo := n_go; clear n_go
      have n_B := Aside0.mk (below_step HB.out hb); clear HB; have HB := n_B; clear n_B
      have HWc : Below w0.heap.size w0 wc := HW.out.trans (HB.out.mono hw0w)
      obtain ⟨Ak, ck, ek⟩ := Kd.N_slice hNk
      subst ek
      have hgrow : wd.heap.size ≤ wc.heap.size := below_size hb
      refine hK.out _ _ ⟨(blk_cell BKgp.out 2).trans rfl, (blk_cell BKgo.out 2).trans rfl, (HWc.cell hb0).trans hx0, (HWc.cell hb1).trans hx1, (HWc.cell hb2).trans hx2⟩ (fun hHeld => ?_)
      clear hK K
      refine norm_ (a' := ?_) ?_ ?_
      rotate_left
      · show Act.put _ (some 24) _ = _
        simp only [Act.put, List.setIfInBounds_toArray, List.set_cons_zero, List.set_cons_succ, i64_w, i32_w]
        rfl
      refine one_ (i := 8) (N := some 25) #[true, true, true, true, true, true, true, true, true, false, false, false] rfl rfl (one_of HT_.out (by kernel_rfl)) (by decide) (fun K hK => ?_)
      refine value_ (v := .slice (some ⟨wc.heap.size, 0, none⟩) 1 1) (w1 := (wc.alloc (.cells #[.int .u8 ((rd_T33 l2 (i : Int)).f0), .slice B1 ((rd_T33 l2 (i : Int)).f1).length d1, .slice Ak ra.length ck] 26))) (by rfl) rfl (by first | (go_simp; done) | (go_simp; rfl)) ?_
      have HXA : ∀ (b : Addr) (x : Value), wc.cell? b = some x → (wc.alloc (.cells #[.int .u8 ((rd_T33 l2 (i : Int)).f0), .slice B1 ((rd_T33 l2 (i : Int)).f1).length d1, .slice Ak ra.length ck] 26)).cell? b = some x := fun b x hx_ => ((below_alloc (Below.refl wc.heap.size wc) _).cell (World.block_lt_of_cell? wc _ hx_)).trans hx_
      refine hK.out _ _ ⟨HXA _ _ ((blk_cell BKgp.out 2).trans rfl), HXA _ _ ((blk_cell BKgo.out 2).trans rfl), HXA _ _ ((HWc.cell hb0).trans hx0), HXA _ _ ((HWc.cell hb1).trans hx1), HXA _ _ ((HWc.cell hb2).trans hx2)⟩ (fun hHeld => ?_)
      clear hK K
      refine norm_ (a' := ?_) ?_ ?_
      rotate_left
      · show Act.put _ (some 25) _ = _
        simp only [Act.put, List.setIfInBounds_toArray, List.set_cons_zero, List.set_cons_succ, i64_w, i32_w]
        rfl
      have hgr0 : w0.heap.size ≤ gr := Nat.le_trans (below_size HW.out) GEgr.out
      have hgo0 : w0.heap.size ≤ go := Nat.le_trans (below_size HW.out) GEgo.out
      have hFK : Kd.FK k26 wc (fun k_ => k_ < w0.heap.size ∨ wd.heap.size ≤ k_) (⟨(rd_T33 l2 (i : Int)).f0, (rd_T33 l2 (i : Int)).f1, ra⟩ : S26) [.int .u8 ((rd_T33 l2 (i : Int)).f0), .slice B1 ((rd_T33 l2 (i : Int)).f1).length d1, .slice Ak ra.length ck] := k26_mkF _ _ (⟨(rd_T33 l2 (i : Int)).f0, (rd_T33 l2 (i : Int)).f1, ra⟩ : S26) hl1 (Kd.F_mono (Kd.F_step (Kd.C_F (Kd.heap_int _) hi1) (fun k_ hk_ _ => HWc.block k_ hk_)) (fun k_ hk_ => Or.inl hk_)) (Kd.N_reads' hNk).2.1 (Kd.N_F hNk)
      have hlenr := pyxlaw08_given.g_len _ _ _ HA.out
      have hlenx : (l2.drop i).length = l2.length - i := List.length_drop
      have hLim' := hLim.out
      refine one_ (i := 9) (N := some 26) #[true, true, true, true, true, true, true, true, true, true, false, false] rfl rfl (one_of HT_.out (by kernel_rfl)) (by decide) (fun K hK => ?_)
      refine Kd.N_append_step k26 (w0 := w) w.heap.size (by rfl) (.tmp 18) (.tmp 25) 24 26 (.agg #[(.int .u8 0), (.slice none 0 0), (.slice none 0 0)]) 56 rfl Tryd.underlying24 info26 rfl (by decide) (by decide) (.slice Au acc.length cu) acc (⟨(rd_T33 l2 (i : Int)).f0, (rd_T33 l2 (i : Int)).f1, ra⟩ : S26) [.int .u8 ((rd_T33 l2 (i : Int)).f0), .slice B1 ((rd_T33 l2 (i : Int)).f1).length d1, .slice Ak ra.length ck] (fun k_ => (k_ < w0.heap.size ∨ w.heap.size ≤ k_) ∧ k_ ≠ gr ∧ k_ ≠ go) (fun k_ => k_ < w0.heap.size ∨ wd.heap.size ≤ k_) rfl rfl hFK ?aP ?aF ?aO ?aB ?aS ?aL ?_
      case aP =>
        intro k_ hk_
        refine ⟨⟨hk_.imp id (fun h_ => by omega), ?_, ?_⟩, fun he => ?_⟩
        · rintro rfl; omega
        · rintro rfl; omega
        · have h1_ := HNlt _ he.symm
          have h2_ := HNb _ he.symm
          omega
      case aF => intro k_ hk_; exact ⟨Or.inr (by omega), by omega, by omega⟩
      case aO => exact HNc
      case aB => exact HB.out
      case aS => exact (by omega)
      case aL => have := hacc.out; omega
      intro v1 w1 hN1 hB1 hg1 hat1
      have hneO : ∀ g_, (g_ = gp ∨ g_ = gr ∨ g_ = go) → some g_ ≠ (Value.slice Au acc.length cu).ownBlock := by
        intro g_ hg_ he
        rcases hg_ with rfl | rfl | rfl
        · exact absurd (Kd.N_ne HNc BKgp.out (by decide)) (by simp [he])
        · exact ((Kd.N_away HNc (fun k_ hk_ => hk_.2.1)) : some _ ≠ _) he
        · exact ((Kd.N_away HNc (fun k_ hk_ => hk_.2.2)) : some _ ≠ _) he
      have m_gp := Aside0.mk (blk_grown (g := gp) (o := .cells #[.int .u8 a0, .slice A1 l1.length c1, .slice (some ad) l2.length c2] 33 (0, 0)) BKgp.out hg1 (hneO gp (by simp))); clear BKgp; have BKgp := m_gp; clear m_gp
      have m_gr := Aside0.mk (blk_grown (g := gr) (o := .cells #[.int .u8 0, .slice none 0 0, .slice none 0 0] 26 (0, 0)) BKgr.out hg1 (hneO gr (by simp))); clear BKgr; have BKgr := m_gr; clear m_gr
      have m_go := Aside0.mk (blk_grown (g := go) (o := .cells #[.int .u8 a0, .slice A1 l1.length c1, .slice Au acc.length cu] 26 (0, 0)) BKgo.out hg1 (hneO go (by simp))); clear BKgo; have BKgo := m_go; clear m_go
      clear HB; have HB := Aside0.mk hB1
      have HW1 : Below w0.heap.size w0 w1 := HW.out.trans (HB.out.mono hw0w)
      refine hK.out _ _ ⟨(blk_cell BKgp.out 2).trans rfl, (blk_cell BKgo.out 2).trans rfl, (HW1.cell hb0).trans hx0, (HW1.cell hb1).trans hx1, (HW1.cell hb2).trans hx2⟩ (fun hHeld => ?_)
      clear hK K
      refine norm_ (a' := ?_) ?_ ?_
      rotate_left
      · show Act.put _ (some 26) _ = _
        simp only [Act.put, List.setIfInBounds_toArray, List.set_cons_zero, List.set_cons_succ, i64_w, i32_w]
        rfl
      obtain ⟨Az, cc1, e1⟩ := Kd.N_slice hN1
      rw [List.length_append, List.length_singleton] at e1
      subst e1
      refine pure_ (i := 10) (N := some 27) (v := ?_) (a' := ?_) #[true, true, true, true, true, true, true, true, true, true, true, false] rfl rfl (any_of HT_.out (by kernel_rfl)) (fun _ _ _ h => h) (Or.inl ⟨by rfl, ?_⟩) ?_ ?_
      rotate_left
      · intro w'
        go_simp
        with_reducible rfl
      rotate_left
      · simp only [Act.put, List.setIfInBounds_toArray, List.set_cons_zero, List.set_cons_succ, i64_w, i32_w]
        rfl
      refine last_ (i := 11) (N := none) #[true, true, true, true, true, true, true, true, true, true, true, true] rfl rfl (one_of HT_.out (by kernel_rfl)) (by decide) (fun K hK => ?_)
      have hs_ : w1.cell? ⟨go, 2, none⟩ = some (.slice Au acc.length cu) := (blk_cell BKgo.out 2).trans rfl
      have hfs_ := blk_frozen BKgo.out 2
      refine skip_ (w1 := ?_) (by rfl) rfl ?_ ?_
      rotate_left
      · go_simp
        rfl
      refine hK.out _ _ ?_
      clear hK K
      refine done_ (done_of HT_.out (by kernel_rfl)) ?_
      try go_wp2
      go_roundg kq
      case measure => have := HK.out; omega
      case rel =>
        refine ⟨i + 1, acc ++ [(⟨(rd_T33 l2 (i : Int)).f0, (rd_T33 l2 (i : Int)).f1, ra⟩ : S26)], rb, .slice Az (acc.length + 1) cc1, ?_, by omega, ⟨by simp [hacc.out]⟩, ⟨hgb⟩, ⟨by rw [← HE.out, hre]; simp⟩, ⟨by have := HK.out; omega⟩, ⟨?_⟩, ⟨?_⟩, ⟨?_⟩, ⟨?_⟩, ⟨(by repeat (first | (with_reducible first | exact HB.out | apply below_alloc | apply pw_below_drewN | apply below_drew1 | refine below_set ?_ GEgp.out | refine below_set ?_ GEgr.out | refine below_set ?_ GEgo.out) | exact HB.out))⟩⟩
        · exact congrArg _ (by first | (push_cast; rfl) | (show wrap64 ((i : Int) + 1) = _; unfold wrap64; omega))
        · (with_reducible repeat (first | apply Kd.N_alloc | apply Kd.N_drewN | apply Kd.N_drew)); exact Kd.N_far hN1 (p := ⟨go, 2, none⟩) (fun k_ hk_ => hk_.2.2) _
        · (with_reducible repeat (first | refine blk_drewN ?_ _ | refine blk_drew ?_ | refine blk_alloc ?_ _)); refine blk_far ?_ (show gp ≠ go from NBgp_go.out) _; exact BKgp.out
        · (with_reducible repeat (first | refine blk_drewN ?_ _ | refine blk_drew ?_ | refine blk_alloc ?_ _)); refine blk_far ?_ (show gr ≠ go from NBgr_go.out) _; exact BKgr.out
        · (with_reducible repeat (first | refine blk_drewN ?_ _ | refine blk_drew ?_ | refine blk_alloc ?_ _)); refine blk_put (cs := #[.int .u8 a0, .slice A1 l1.length c1, .slice Au acc.length cu]) ?_ 2 _ rfl; exact BKgo.out
    · have cIb0 : decide ((i : Int) < (l2.length : Int)) = false := decide_eq_false (by omega)
      have cIb1 : decide (i < l2.length) = false := decide_eq_false cI
      have hre := pyxlaw08_given.g_end kq l2 i cI rest HA.out
      have hcv_0 : wr.cell? ⟨go, 0, none⟩ = some (.int .u8 a0) := (blk_cell BKgo.out 0).trans rfl
      have hfv_0 := blk_frozen BKgo.out 0
      have hcu_0 : wr.cell? ⟨gr, 0, none⟩ = some (.int .u8 0) := (blk_cell BKgr.out 0).trans rfl
      have hfu_0 := blk_frozen BKgr.out 0
      have hcv_1 : wr.cell? ⟨go, 1, none⟩ = some (.slice A1 l1.length c1) := (blk_cell BKgo.out 1).trans rfl
      have hfv_1 := blk_frozen BKgo.out 1
      have hcu_1 : wr.cell? ⟨gr, 1, none⟩ = some (.slice none 0 0) := (blk_cell BKgr.out 1).trans rfl
      have hfu_1 := blk_frozen BKgr.out 1
      have hcv_2 : wr.cell? ⟨go, 2, none⟩ = some (.slice Au acc.length cu) := (blk_cell BKgo.out 2).trans rfl
      have hfv_2 := blk_frozen BKgo.out 2
      have hcu_2 : wr.cell? ⟨gr, 2, none⟩ = some (.slice none 0 0) := (blk_cell BKgr.out 2).trans rfl
      have hfu_2 := blk_frozen BKgr.out 2
      have hr_ : acc = r := by rw [← HE.out, hre, List.append_nil]
      subst hr_
      go_wp2
      refine bodyPost_ret (results_cell_row rfl _ _ gr 26 #[.int .u8 a0, .slice A1 l1.length c1, .slice Au acc.length cu] (0, 0) _ rfl (by (with_reducible repeat (first | refine blk_drewN ?_ _ | refine blk_drew ?_ | refine blk_alloc ?_ _)); refine blk_put (cs := #[.int .u8 a0, .slice A1 l1.length c1, .slice none 0 0]) ?_ 2 _ rfl; (with_reducible repeat (first | refine blk_drewN ?_ _ | refine blk_drew ?_ | refine blk_alloc ?_ _)); refine blk_put (cs := #[.int .u8 a0, .slice none 0 0, .slice none 0 0]) ?_ 1 _ rfl; (with_reducible repeat (first | refine blk_drewN ?_ _ | refine blk_drew ?_ | refine blk_alloc ?_ _)); refine blk_put (cs := #[.int .u8 0, .slice none 0 0, .slice none 0 0]) ?_ 0 _ rfl; (with_reducible repeat (first | refine blk_drewN ?_ _ | refine blk_drew ?_ | refine blk_alloc ?_ _)); exact BKgr.out) Tryd.underlying26 rfl (by kernel_rfl)) rfl ?_
      exact ⟨_, rfl, by (with_reducible repeat (first | apply Kd.N_alloc | apply Kd.N_drewN | apply Kd.N_drew)); exact Kd.N_mono (Kd.N_far (Kd.N_far (Kd.N_far HN.out (p := ⟨gr, 0, none⟩) (fun k_ hk_ => hk_.2.1) _) (p := ⟨gr, 1, none⟩) (fun k_ hk_ => hk_.2.1) _) (p := ⟨gr, 2, none⟩) (fun k_ hk_ => hk_.2.1) _) (fun _ hk_ => hk_.1), (by repeat (first | (with_reducible first | exact HB.out | apply below_alloc | apply pw_below_drewN | apply below_drew1 | refine below_set ?_ GEgp.out | refine below_set ?_ GEgr.out | refine below_set ?_ GEgo.out) | exact HB.out))⟩
end Go.Proofs.YtijmigapdcikpaaDoor.PDsm
