import Derived.Test.YtgmnknhfeoleaaaGreatDoorZWWords
import Derived.Test.YtgmnknhfeoleaaaGreatDoorZWLast
import Derived.Test.YtgmnknhfeoleaaaGreatDoorZXWords
import Derived.Test.YtgmnknhfeoleaaaGreatDoorProg
import Derived.RangeFuncNested
import Derived.RangeFuncBound
import Derived.RangeFuncCalls
import Derived.RangeFuncLeaves
import Derived.Shelf.Abstract
import Derived.Shelf.RegionOpen
import Derived.WalkKit
import Derived.OwnWalkIn
import Derived.TacticsInMore
import Derived.LoopNIn
import Derived.LoopIn
import Derived.Maps.AppendAt
import Derived.RangeFuncBox
import Derived.RangeFuncWrites
import Derived.RangeFuncMany
import Derived.StillTailTactics
namespace Go.Proofs.YtgmnknhfeoleaaaGreatDoor.PXmss
open Go.RowKit Go.Proofs.YtgmnknhfeoleaaaGreatDoorW.PrintWords Go.Proofs.YtgmnknhfeoleaaaGreatDoorW.PrintLast Go.Proofs.YtgmnknhfeoleaaaGreatDoorW.PrintMore
set_option linter.unusedVariables false
set_option linter.unusedSimpArgs false
attribute [local go_sem] Oper.semAt_some
def upto (m k : Nat) : List (Fin m) := (List.finRange m).take k
theorem upto_succ {m k : Nat} (h : k < m) : upto m (k + 1) = upto m k ++ [⟨k, h⟩] := by
 rw [upto, List.take_succ_eq_append_getElem (by simpa using h)]
 simp [upto]
theorem add_plainC (b o j : Nat) : (⟨b, o, none⟩ : Addr).add j = ⟨b, o + j, none⟩ := by unfold Addr.add; split <;> simp_all
theorem wrap_pn {p N : Nat} (h : p + N ≤ 1000000) : wrap64 ((p : Int) + (N : Int)) = (p : Int) + (N : Int) := by unfold wrap64; omega
theorem wrap_pn' {p N : Nat} (h : p + N ≤ 1000000) : wrap64 ((p : Int) + (N : Int)) = ((p + N : Nat) : Int) := by unfold wrap64; omega
theorem meas_pn {p N q : Nat} (h1 : p + N ≤ q) (h2 : q ≤ 1000000) (hN : 1 ≤ N) : q - (intOf (Value.int IntKind.i64 (wrap64 ((p : Int) + (N : Int))))).toNat < q - (intOf (Value.int IntKind.i64 (p : Int))).toNat := by
 rw [wrap_pn' (Nat.le_trans h1 h2)]
 show q - (((p + N : Nat) : Int)).toNat < q - ((p : Int)).toNat
 rw [Int.toNat_natCast, Int.toNat_natCast]
 omega
def KpC (Bs Bn : Nat) (A B : World) : Prop := B.cell? ⟨Bs, 0, none⟩ = A.cell? ⟨Bs, 0, none⟩ ∧ B.cell? ⟨Bn, 0, none⟩ = A.cell? ⟨Bn, 0, none⟩
theorem KpC.trans {Bs Bn : Nat} {A B C : World} (h : KpC Bs Bn A B) (k : KpC Bs Bn B C) : KpC Bs Bn A C := ⟨k.1.trans h.1, k.2.trans h.2⟩
theorem KpC.put {Bs Bn : Nat} {w : World} (hs : Bs < w.heap.size) (hn : Bn < w.heap.size) (W : World) (l : Nat) (o o' : Obj) (hl : w.heap.size ≤ l) : KpC Bs Bn W (W.putObj l o') := by
 refine ⟨?_, ?_⟩
 ·exact World.cell?_of_block (w := W) (a := ⟨Bs, 0, none⟩) (World.putObj_heap_other (by show Bs ≠ l; omega))
 ·exact World.cell?_of_block (w := W) (a := ⟨Bn, 0, none⟩) (World.putObj_heap_other (by show Bn ≠ l; omega))
theorem KpC.below {Bs Bn n₀ : Nat} {A B : World} (hs : Bs < n₀) (hn : Bn < n₀) (h : Below n₀ A B) : KpC Bs Bn A B := ⟨h.cell (p := ⟨Bs, 0, none⟩) hs, h.cell (p := ⟨Bn, 0, none⟩) hn⟩
theorem upto_length {m k : Nat} (h : k ≤ m) : (upto m k).length = k := by simp [upto]; omega
theorem info_u8k : (Tryz.prog.info? 5).map (fun i => (i.zero, i.size, i.bytes)) = some (some (.int .u8 0), 1, 1) := by kernel_rfl
theorem cut_lhmC {P : Program} (t e : TypeId) {i : TypeInfo} (ht : P.underlying t = some (.slice e)) (hi : P.info? e = some i) (hsz : i.size = 1) (A : Option Addr) (n c p m : Nat) (h2 : p + m ≤ c) :
  ∀ W : World, (Instr.slice t (.slice A n c) (some (.int .i64 (p : Int))) (some (.int .i64 ((p + m : Nat) : Int))) (some (.int .i64 ((p + m : Nat) : Int)))).run P W = .ok (.slice (if m = 0 then A else A.map (·.add (p * 1))) m m) W := by
 intro W
 have hel : P.elem t = e := by simp [Program.elem, ht]
 have hu : P.underlying t = some (.slice (P.elem t)) := by rw [hel]; exact ht
 rw [run_slice_lhm W t A n c hu .i64 .i64 .i64 (p : Int) ((p + m : Nat) : Int) ((p + m : Nat) : Int) (by omega) (by omega) (by omega) (by omega), hel]
 simp [sizeOf, typeInfo, hi, hsz, sliced, Result.andThen]
 have e1 : ((p : Int) + (m : Int)).toNat = p + m := by omega
 rw [e1]
 refine ⟨?_, by omega⟩
 by_cases hm : m = 0
 ·rw [if_pos (by omega), if_pos hm]
 ·rw [if_neg (by omega), if_neg hm]
set_option maxRecDepth 100000 in
set_option maxHeartbeats 4000000 in
theorem chunk1_in (F : Fence) (n : Nat) (hF : F.fn 61) (hro : F.round = none) (hn : 1 ≤ n) (l Bs Bn b off m c N : Nat) (hN : 1 ≤ N) (hmN : m * N ≤ 1000000) (hc : m * N ≤ c) (J Jx : List (Fin m) → World → Prop) (hJ : ∀ s A, J s A → J s A.drew)
  (hY : ∀ pre x W, J pre W → pre.length < m → YieldAt F (n - 1) Tryz.prog l #[.slice (some ⟨b, off + x.1 * N, none⟩) N N] W fun e W' =>
   (e = .returned (.bool true) ∧ J (pre ++ [x]) W' ∧ KpC Bs Bn W W') ∨ (e = .returned (.bool false) ∧ Jx (pre ++ [x]) W'))
  (W : World) (hBs : W.cell? ⟨Bs, 0, none⟩ = some (.slice (some ⟨b, off, none⟩) (m * N) c)) (hBn : W.cell? ⟨Bn, 0, none⟩ = some (.int .i64 (N : Int))) (h0 : J [] W) :
  CallsIn F n Tryz.prog 61 #[.func (.yield l) #[] #[], .pointer (some ⟨Bs, 0, none⟩), .pointer (some ⟨Bn, 0, none⟩)] W fun e W' => (∃ v, e = .returned v) ∧
   ((∃ ys, ys = upto m m ∧ J ys W') ∨ (∃ pre, (∃ k, k ≤ m ∧ pre = upto m k) ∧ Jx pre W')) := by
 refine callsIn_of_wp Tryz.func61 rfl hF ?_ hro
 simp only [Tryz.ntmps61, List.size_toArray, List.length_cons, List.length_nil, Nat.reduceAdd, Nat.reduceSub, Array.replicate_succ, Array.replicate_zero, List.push_toArray, List.append_toArray, List.nil_append, List.cons_append]
 gi_wp2
 gi_loopw [4] (fun i wr => ∃ k : Nat, k ≤ m ∧ i = .int .i64 ((k * N : Nat) : Int) ∧ J (upto m k) wr ∧ KpC Bs Bn W wr)
  (fun i _ => m * N - (intOf i).toNat)
 case atStart => exact ⟨0, Nat.zero_le _, by simp, h0, ⟨rfl, rfl⟩⟩
 case round =>
  obtain ⟨k, hk, rfl, hJs, hnx⟩ := hrel
  have hcs := hnx.1.trans hBs
  have hcn := hnx.2.trans hBn
  by_cases hlt : k < m
  ·obtain ⟨fn, tmps, assign, body, hy, hR⟩ := hY _ ⟨k, hlt⟩ wr.drew (hJ _ _ hJs) (by rw [upto_length hk]; exact hlt)
   have hk1 : (k + 1) * N ≤ m * N := Nat.mul_le_mul_right N hlt
   have hk2 : k * N + N = (k + 1) * N := by rw [Nat.add_mul, Nat.one_mul]
   have hkN : k * N < m * N := by omega
   have d1 : decide (((k * N : Nat) : Int) < ((m * N : Nat) : Int)) = true := decide_eq_true (by omega)
   have d2 : decide (k * N < m * N) = true := decide_eq_true hkN
   obtain ⟨i0_, hi0, hiz, his, hib⟩ := info_parts info_u8k
   have hcut0 := cut_from (P := Tryz.prog) 25 5 .i64 Tryz.underlying25 hi0 1 his (some ⟨b, off, none⟩) (m * N) c ((k * N : Nat) : Int) (by omega) (by omega)
   have hcut3 := cut_lhmC (P := Tryz.prog) 25 5 Tryz.underlying25 hi0 his (some ⟨b, off, none⟩) (m * N) c (k * N) N (by omega)
   generalize hp : k * N = p at *
   generalize hq : m * N = q at *
   have hcut : ∀ W, (Instr.slice 25 (.slice (some ⟨b, off, none⟩) q c) (some (.int .i64 (p : Int))) none none).run Tryz.prog W = .ok (.slice (some ⟨b, off + p, none⟩) (q - p) (c - p)) W := fun W => by
    have h := hcut0 W
    rw [if_neg (show ¬ c = ((p : Int)).toNat by omega)] at h
    simpa [add_plainC] using h
   have hcut4 : ∀ W, (Instr.slice 25 (.slice (some ⟨b, off, none⟩) q c) (some (.int .i64 (p : Int))) (some (.int .i64 ((p : Int) + (N : Int)))) (some (.int .i64 ((p : Int) + (N : Int))))).run Tryz.prog W = .ok (.slice (some ⟨b, off + p, none⟩) N N) W := fun W => by
    have h := hcut3 W
    rw [if_neg (show ¬ N = 0 by omega)] at h
    simpa [add_plainC] using h
   have HQ := Aside0.mk (show p + N ≤ q ∧ q ≤ 1000000 ∧ (k + 1) * N = p + N from ⟨by omega, hmN, by omega⟩)
   have hw2 : wrap64 ((p : Int) + (N : Int)) = (p : Int) + (N : Int) := wrap_pn (Nat.le_trans HQ.out.1 HQ.out.2.1)
   have hif : (if q - p < N then (((q - p : Nat)) : Int) else (N : Int)) = (N : Int) := if_neg (by have := HQ.out.1; clear hw2; omega)
   have HLT := Aside0.mk hlt
   clear hcut0 hcut3 hk1 hk2 hmN hkN
   gi_wp2
   refine (fun (hfin : ?T) => ?main) ?fin
   case main =>
    gi_region
    all_goals exact hfin
   case fin =>
    try simp only [hif]
    gi_wp2
    refine hR.mono ?_
    rintro e W3 (⟨rfl, hJ3, hk3⟩ | ⟨rfl, hJx3⟩)
    ·have hcn3 : W3.cell? ⟨Bn, 0, none⟩ = some (.int .i64 (N : Int)) := hk3.2.trans hcn
     gi_wp2
     go_roundw
     case rel => exact ⟨k + 1, HLT.out, by rw [HQ.out.2.2, wrap_pn' (Nat.le_trans HQ.out.1 HQ.out.2.1)], by rw [upto_succ HLT.out]; exact hJ3, hnx.trans ⟨hk3.1, hk3.2⟩⟩
     case measure => exact meas_pn HQ.out.1 HQ.out.2.1 hN
    ·gi_wp2
     refine bodyPost_ret (results_none rfl _ _ _) rfl ?_
     exact ⟨⟨_, rfl⟩, .inr ⟨_, ⟨k + 1, HLT.out, (upto_succ HLT.out).symm⟩, hJx3⟩⟩
  ·obtain rfl : k = m := by omega
   have d1 : decide (((k * N : Nat) : Int) < ((k * N : Nat) : Int)) = false := decide_eq_false (by omega)
   gi_wp2
   go_end0
   exact ⟨⟨_, rfl⟩, .inl ⟨_, rfl, hJs⟩⟩
theorem chunk_call (A : Option Addr) (l c N : Nat) (hN : 1 ≤ N) (w : World) : Calls Tryz.prog 42 #[.slice A l c, .int .i64 (N : Int)] w fun e w' => e = .returned (.func (.func 61) #[] #[.pointer (some ⟨w.heap.size, 0, none⟩), .pointer (some ⟨w.heap.size + 1, 0, none⟩)]) ∧ w' = (w.alloc (.cells #[.slice A l c] 25)).alloc (.cells #[.int .i64 (N : Int)] 3) := by
 have d1 : decide ((N : Int) < 1) = false := decide_eq_false (by omega)
 go_enter Tryz.func42, Tryz.ntmps42
 go_wp2
 go_ret
 exact ⟨by simp, rfl⟩
theorem chunk_stops (F : Fence) (n : Nat) (hF : F.fn 61) (hro : F.round = none) (hn : 1 ≤ n) (Bs Bn b off m c N : Nat) (hN : 1 ≤ N) (hmN : m * N ≤ 1000000) (hc : m * N ≤ c) (w : World) (hs : Bs < w.heap.size) (hn2 : Bn < w.heap.size)
  (hBs : w.cell? ⟨Bs, 0, none⟩ = some (.slice (some ⟨b, off, none⟩) (m * N) c)) (hBn : w.cell? ⟨Bn, 0, none⟩ = some (.int .i64 (N : Int))) :
  SeqStopsK F n Tryz.prog 61 #[.pointer (some ⟨Bs, 0, none⟩), .pointer (some ⟨Bn, 0, none⟩)] (fun x : Fin m => #[Value.slice (some ⟨b, off + x.1 * N, none⟩) N N]) (KpC Bs Bn) (fun ys => ys = upto m m) (fun pre => ∃ k, k ≤ m ∧ pre = upto m k) m w := fun l J Jx W hW hJ hJx hY h0 =>
 (chunk1_in F n hF hro hn l Bs Bn b off m c N hN hmN hc J Jx (fun s A h => hJ s A A.drew none h ⟨rfl, rfl, rfl, Nat.le_refl _, fun _ _ _ => rfl⟩ (fun r e => by cases e)) hY W ((hW.cell (p := ⟨Bs, 0, none⟩) hs).trans hBs) ((hW.cell (p := ⟨Bn, 0, none⟩) hn2).trans hBn) h0)
def chkR (ys : List Int) (N i : Nat) : List Int := (List.range N).map fun j => ys.getD (i * N + j) 0
theorem chkR_length (ys : List Int) (N i : Nat) : (chkR ys N i).length = N := by simp [chkR]
def SI (w W6 : World) (Bl N m : Nat) (ys : List Int) (pre : List (Fin m)) (W : World) : Prop :=
 ((∃ v, Boxed W Bl 52 v ∧ Kd.R (Kd.slice 5 (Kd.int .u8)) 25 W W6.heap.size (fun _ => True) v (pre.map fun x => chkR ys N x.1)) ∧ W6.heap.size ≤ W.heap.size ∧ ∀ k, k < W6.heap.size → k ≠ Bl → W.heap[k]? = W6.heap[k]?) ∧ Below w.heap.size w W
theorem SI.own (w W6 : World) (Bl N m : Nat) (ys : List Int) (hB : w.heap.size ≤ W6.heap.size) : OwnFrom W6.heap.size (SI w W6 Bl N m ys) := by
 refine OwnFrom.and ?_ (ownFrom_below (Nat.le_refl _) hB)
 rintro s X Y row ⟨⟨v, hv, hr⟩, hsz, hblk⟩ hg hrow
 have hne : ∀ k cs t, X.heap[k]? = some (Obj.cells cs t (0, 0)) → some k ≠ row := by
  intro k cs t hk e
  obtain ⟨_, o, ho, hc⟩ := hrow k e.symm
  rw [hk] at ho
  cases ho
  cases hc
 refine ⟨⟨v, hv.kept hg (hne _ _ _ hv), Kd.R_mono (Kd.R_move (Kd.R_bound hr) (fun k hk => ?_)) (fun _ hk => hk.1)⟩, Nat.le_trans hsz hg.size, fun k hk hb => (hg.block k (by omega) (fun e => ?_)).trans (hblk k hk hb)⟩
 ·obtain ⟨_, _, hlt, q, _, cs, hc⟩ := hk
  exact hg.block k hlt (hne _ _ _ hc)
 ·obtain ⟨hle, _⟩ := hrow k e.symm
  omega
theorem boxed_ne {W : World} {B base size n : Nat} {t e : TypeId} {u v : Value} {xs : List Value} (h : Boxed W B t u) (hB : B < base) (hr : W.ownsRow base e size v n xs) : some B ≠ v.ownBlock := fun he => by have := own_base hr B he.symm; omega
theorem app_round (w W6 : World) (Bl Bs Bn N m : Nat) (ys : List Int) (pre : List (Fin m)) (x : Fin m) (W w' : World) (v : Value) (A0 : Option Addr) (c0 : Nat)
  (hlt : pre.length < m) (hm : m ≤ 1000000) (hBl : Bl < W6.heap.size) (hwBl : w.heap.size ≤ Bl) (hs : Bs < W6.heap.size ∧ Bs ≠ Bl) (hn : Bn < W6.heap.size ∧ Bn ≠ Bl)
  (hv : Boxed W Bl 52 v) (hr : Kd.R (Kd.slice 5 (Kd.int .u8)) 25 W W6.heap.size (fun _ => True) v (pre.map fun x => chkR ys N x.1))
  (hsz : W6.heap.size ≤ W.heap.size) (hblk : ∀ k, k < W6.heap.size → k ≠ Bl → W.heap[k]? = W6.heap[k]?) (hB : Below w.heap.size w W)
  (hb : Below W.drew.heap.size W.drew w') (hc : Kd.R (Kd.int .u8) 5 w' W.drew.heap.size (fun _ => True) (.slice A0 N c0) (chkR ys N x.1))
  {i0 : TypeInfo} (hi : Tryz.prog.info? 25 = some i0) (hz0 : i0.zero = some (.slice none 0 0)) (hz1 : i0.size = 1) (hz2 : i0.bytes = 24) :
  ∃ g' cap' w2, (Builtin.append_ #[52, 52] 52 #[v, .slice (some ⟨w'.heap.size, 0, none⟩) 1 1]).run Tryz.prog (w'.alloc (.cells #[.slice A0 N c0] 25)) = .ok (.slice (some ⟨g', 0, none⟩) (pre.length + 1) cap') w2 ∧
   w'.cell? ⟨Bl, 0, none⟩ = some v ∧ w'.frozen? ⟨Bl, 0, none⟩ = false ∧ (w'.alloc (.cells #[.slice A0 N c0] 25)).cell? ⟨Bl, 0, none⟩ = some v ∧ w2.cell? ⟨Bl, 0, none⟩ = some v ∧ w2.frozen? ⟨Bl, 0, none⟩ = false ∧
   (KeepsFrom W6.heap.size W (w2.setCell ⟨Bl, 0, none⟩ (.slice (some ⟨g', 0, none⟩) (pre.length + 1) cap')) ∧ KpC Bs Bn W (w2.setCell ⟨Bl, 0, none⟩ (.slice (some ⟨g', 0, none⟩) (pre.length + 1) cap')) ∧
    SI w W6 Bl N m ys (pre ++ [x]) (w2.setCell ⟨Bl, 0, none⟩ (.slice (some ⟨g', 0, none⟩) (pre.length + 1) cap'))) := by
 have hsd : W6.heap.size ≤ W.drew.heap.size := hsz
 have hrd : Kd.R (Kd.slice 5 (Kd.int .u8)) 25 W.drew W6.heap.size (fun _ => True) v (pre.map fun x => chkR ys N x.1) := Kd.R_step hr (fun k _ _ => rfl)
 have hba : Below w'.heap.size w' (w'.alloc (.cells #[.slice A0 N c0] 25)) := below_alloc (Below.refl _ _) _
 have hr1 := Kd.R_below (Kd.R_below hrd hb) hba
 have hca := Kd.R_below hc hba
 obtain ⟨innW, hownW⟩ := Kd.R_own hrd
 have hp0 := Kd.R_new hca hownW
 have hp := Kd.R_lower hp0 hsd
 obtain ⟨h0r, inner, hown, hreps⟩ := hr1
 have hlen : (pre.map fun x : Fin m => chkR ys N x.1).length = pre.length := by simp
 have hsa : W6.heap.size ≤ (w'.alloc (.cells #[.slice A0 N c0] 25)).heap.size := Nat.le_trans hsd (Nat.le_trans hb.size hba.size)
 obtain ⟨v', w2, hrun, r1, r2, r3, r4⟩ := run_append_own_at (P := Tryz.prog) (w'.alloc (.cells #[.slice A0 N c0] 25)) W6.heap.size 52 52 25 i0 (.slice none 0 0) 1 24 Tryz.underlying52 hi hz0 hz1 hz2 rfl (by decide) v (pre.map fun x : Fin m => chkR ys N x.1).length inner hown ⟨w'.heap.size, 0, none⟩ 1 1 [.slice A0 N c0] rfl (cell_one_new _ _ _) (by simp [Value.oneCell']) (by simp [maxLen]; omega) (by simp; omega) hsa
 have hR2 := Kd.R_appended (d := Kd.slice 5 (Kd.int .u8)) (p := chkR ys N x.1) h0r hreps ⟨_, rfl, hp⟩ (fun _ hk => hk) (fun _ _ => trivial) r1 r2 (r4.imp id fun e => ⟨_, e, Nat.le_refl _⟩)
 rw [hlen] at r1
 obtain ⟨g', cap', rfl⟩ := ownsRow_succ r1
 have hv1 : Boxed w' Bl 52 v := blk_below (w := W.drew) hv hb
 have hv2 : Boxed (w'.alloc (.cells #[.slice A0 N c0] 25)) Bl 52 v := hv1.alloc _
 have hneB := boxed_ne hv2 hBl hown
 have hv3 : Boxed w2 Bl 52 v := hv2.kept r2 hneB
 have hg2 : Bl ≠ g' := fun e => by have := own_base r1 g' rfl; omega
 have hfr : ∀ k, k < W6.heap.size → k ≠ Bl → (w2.setCell ⟨Bl, 0, none⟩ (.slice (some ⟨g', 0, none⟩) (pre.length + 1) cap')).heap[k]? = W.heap[k]? := fun k hk hkb => by
  have h1 : k < W.drew.heap.size := Nat.lt_of_lt_of_le hk hsd
  have h2 : k < w'.heap.size := Nat.lt_of_lt_of_le h1 hb.size
  have h3 : k < (w'.alloc (.cells #[.slice A0 N c0] 25)).heap.size := Nat.lt_of_lt_of_le h2 hba.size
  exact (Below.heap_setCell _ _ _ k hkb).trans ((r2.block k h3 (fun e => by have := own_base hown k e.symm; omega)).trans ((hba.block k h2).trans (hb.block k h1)))
 have hsz2 : W.heap.size ≤ (w2.setCell ⟨Bl, 0, none⟩ (.slice (some ⟨g', 0, none⟩) (pre.length + 1) cap')).heap.size := by
  have h1 : W.heap.size ≤ w'.heap.size := hb.size
  have h2 := r2.size
  have h3 := hba.size
  have h4 := (KeepsWalks.setCell w2 ⟨Bl, 0, none⟩ (.slice (some ⟨g', 0, none⟩) (pre.length + 1) cap')).size
  omega
 refine ⟨g', cap', w2, hrun, hv1.cell, hv1.frozen, hv2.cell, hv3.cell, hv3.frozen, ⟨hsz2, ?_⟩, ⟨?_, ?_⟩, ⟨⟨_, hv3.set _, ?_⟩, Nat.le_trans hsz hsz2, fun k hk hb => (hfr k hk hb).trans (hblk k hk hb)⟩, ?_⟩
 ·intro k o hk ho hcl
  have h0 : k < W.drew.heap.size := blk_lt (w := W) ho
  have h2 : k < w'.heap.size := Nat.lt_of_lt_of_le h0 hb.size
  have h3 : k < (w'.alloc (.cells #[.slice A0 N c0] 25)).heap.size := Nat.lt_of_lt_of_le h2 hba.size
  have h4 : (w'.alloc (.cells #[.slice A0 N c0] 25)).heap[k]? = some o := (hba.block k h2).trans ((hb.block k h0).trans ho)
  refine (Below.heap_setCell _ _ _ k (by show k ≠ Bl; omega)).trans ((r2.block k h3 (fun e => ?_)).trans h4)
  obtain ⟨cs, hcs⟩ := own_typed hown k e.symm
  rw [h4] at hcs
  cases hcs
  cases hcl
 ·exact World.cell?_of_block (w := W) (a := ⟨Bs, 0, none⟩) (hfr Bs hs.1 hs.2)
 ·exact World.cell?_of_block (w := W) (a := ⟨Bn, 0, none⟩) (hfr Bn hn.1 hn.2)
 ·rw [List.map_append]
  exact Kd.R_mono (Kd.R_far (p := ⟨Bl, 0, none⟩) (Kd.R_bound hR2) (fun k hk => by have := hk.2.1; show k ≠ Bl; omega) _) (fun _ hk => hk.1)
 ·refine hB.trans ⟨?_, ?_, ?_, hsz2, fun k hk => hfr k (by omega) (by omega)⟩
  ·exact r2.os.trans (hba.os.trans hb.os)
  ·exact r2.tape.trans (hba.tape.trans hb.tape)
  ·exact r2.output.trans (hba.output.trans hb.output)
attribute [-go_sem] Builtin.append_
theorem set5 (W : World) (g t : Nat) (a0 a1 a2 a3 a4 v0 v1 v2 v3 v4 : Value) (hb : W.heap[g]? = some (.cells #[a0, a1, a2, a3, a4] t (0, 0))) :
  (((((W.setCell ⟨g, 0, none⟩ v0).setCell ⟨g, 1, none⟩ v1).setCell ⟨g, 2, none⟩ v2).setCell ⟨g, 3, none⟩ v3).setCell ⟨g, 4, none⟩ v4).heap[g]? = some (.cells #[v0, v1, v2, v3, v4] t (0, 0)) ∧
  W.heap.size ≤ (((((W.setCell ⟨g, 0, none⟩ v0).setCell ⟨g, 1, none⟩ v1).setCell ⟨g, 2, none⟩ v2).setCell ⟨g, 3, none⟩ v3).setCell ⟨g, 4, none⟩ v4).heap.size ∧
  (∀ k, k ≠ g → (((((W.setCell ⟨g, 0, none⟩ v0).setCell ⟨g, 1, none⟩ v1).setCell ⟨g, 2, none⟩ v2).setCell ⟨g, 3, none⟩ v3).setCell ⟨g, 4, none⟩ v4).heap[k]? = W.heap[k]?) ∧
  Below g W (((((W.setCell ⟨g, 0, none⟩ v0).setCell ⟨g, 1, none⟩ v1).setCell ⟨g, 2, none⟩ v2).setCell ⟨g, 3, none⟩ v3).setCell ⟨g, 4, none⟩ v4) := by
 have hB := ((((((Below.refl g W).setCell (p := ⟨g, 0, none⟩) (Nat.le_refl _) v0).setCell (p := ⟨g, 1, none⟩) (Nat.le_refl _) v1).setCell (p := ⟨g, 2, none⟩) (Nat.le_refl _) v2).setCell (p := ⟨g, 3, none⟩) (Nat.le_refl _) v3).setCell (p := ⟨g, 4, none⟩) (Nat.le_refl _) v4)
 refine ⟨blk_set (blk_set (blk_set (blk_set (blk_set hb 0 v0) 1 v1) 2 v2) 3 v3) 4 v4, hB.size, fun k hk => ?_, hB⟩
 rw [Below.heap_setCell _ _ _ k hk, Below.heap_setCell _ _ _ k hk, Below.heap_setCell _ _ _ k hk, Below.heap_setCell _ _ _ k hk, Below.heap_setCell _ _ _ k hk]
theorem split_nums {m wn h : Nat} (hme : m = 1 + wn + h) (hwn : 1 ≤ wn) (hh : 1 ≤ h) (hm6 : m ≤ 1000000) : wrap64 (1 + (wn : Int)) = 1 + (wn : Int) ∧ decide (0 < m) = true ∧ 0 < m ∧ IntKind.i64.wrap (1 + (wn : Int)) = 1 + (wn : Int) := ⟨wrap_pn (p := 1) (N := wn) (by omega), decide_eq_true (by omega), by omega, by rw [IntKind.wrap_i64]; omega⟩
theorem put_one (T : Array Value) (v : Value) (i : Nat) : (((#[i] : Array Nat).zip #[v]).foldl (fun t (p, v) => t.setIfInBounds p v) T) = T.setIfInBounds i v := by simp
theorem C_cells {W : World} {b o m : Nat} {zs : List Int} (hz : zs.length = m) (hm : m ≤ 9223372036854775807) (h : ∀ j, j < m → W.cell? ⟨b, o + j, none⟩ = some (.int .u8 (zs.getD j 0))) : Kd.C (Kd.int .u8) W (some ⟨b, o, none⟩) m zs := by
 refine ⟨hz, hm, fun _ => ⟨_, rfl, fun j p hj => ⟨[.int .u8 p], rfl, rfl, fun i u hu => ?_⟩⟩⟩
 have hjl : j < zs.length := (List.getElem?_eq_some_iff.1 hj).1
 cases i with
 | zero =>
  simp only [List.getElem?_cons_zero, Option.some.injEq] at hu
  subst hu
  have h1 := h j (by omega)
  rw [List.getD_eq_getElem?_getD, hj] at h1
  show W.cell? ((⟨b, o, none⟩ : Addr).add (j * 1 + 0)) = _
  rw [add_plainC, Nat.mul_one, Nat.add_zero]
  exact h1
 | succ i => simp at hu
theorem info_slk : (Tryz.prog.info? 25).map (fun i => (i.zero, i.size, i.bytes)) = some (some (.slice none 0 0), 1, 24) := by kernel_rfl
set_option maxRecDepth 100000 in
set_option maxHeartbeats 4000000 in
theorem split_g (RDx : World → World → Nat → Nat → Prop) (hall : ∀ {w0 W : World} {g p : Nat}, RDx w0 W g p → Below w0.heap.size w0 W ∧ g < W.heap.size) (hbel : ∀ {w0 W W' : World} {g p : Nat}, RDx w0 W g p → Below W.heap.size W W' → RDx w0 W' g p)
  (A : Option Addr) (c n : Nat) (w : World) (alg idx : Int) (N h wn m L : Nat) (ys : List Int) (hN : 1 ≤ N) (hwn : 1 ≤ wn) (hh : 1 ≤ h) (hme : m = 1 + wn + h) (hmN : m * N ≤ 1000000) (hm6 : m ≤ 1000000) (hN6 : N ≤ 1000000) (hL : L = m * N) (hlx : (ys.length : Int) = L)
  (hsig : ∀ W, Below w.heap.size w W → Calls Tryz.prog 12 #[.slice A n c] W fun e w' => e = .returned (.tuple #[.int .i64 alg, .nilIface]) ∧ Below W.heap.size W w')
  (hnum : ∀ W, Calls Tryz.prog 17 #[.int .i64 alg] W fun e w' => e = .returned (.tuple #[.int .i64 (N : Int), .int .i64 (h : Int), .int .i64 (wn : Int), .bool true]) ∧ Drawn0 W w')
  (hnew : ∀ W, Below w.heap.size w W → Calls Tryz.prog 28 #[.slice A n c] W fun e w' => ∃ g, e = .returned (.pointer (some ⟨g, 0, none⟩)) ∧ RDx W w' g 0 ∧ W.heap.size ≤ g)
  (hword : ∀ w0 W g, RDx w0 W g 0 → Calls Tryz.prog 29 #[.pointer (some ⟨g, 0, none⟩), .int .i64 4] W fun e w' => e = .returned (.tuple #[.int .u64 idx, .bool true]) ∧ RDx w0 w' g 4)
  (hrest : ∀ w0 W g, RDx w0 W g 4 → Calls Tryz.prog 43 #[.pointer (some ⟨g, 0, none⟩)] W fun e w' => ∃ b cc, e = .returned (.slice (some ⟨b, 0, none⟩) L cc) ∧ L ≤ cc ∧ Kd.R (Kd.int .u8) 5 w' W.heap.size (fun _ => True) (.slice (some ⟨b, 0, none⟩) L cc) ys ∧ RDx w0 w' g (4 + L) ∧ KeepBut W w' g none)
  (hclone : ∀ (W : World) (b o : Nat) (zs : List Int), Kd.C (Kd.int .u8) W (some ⟨b, o, none⟩) N zs → Calls Tryz.prog 44 #[.slice (some ⟨b, o, none⟩) N N] W fun e w' => ∃ A0 c0, e = .returned (.slice A0 N c0) ∧ Kd.R (Kd.int .u8) 5 w' W.heap.size (fun _ => True) (.slice A0 N c0) zs ∧ Below W.heap.size W w') :
  Calls Tryz.prog 21 #[.slice A n c] w fun e w' => ∃ A0 c0 gl cl, e = .returned (.tuple #[.agg #[.int .i64 alg, .int .u32 (idx % 4294967296), .slice A0 N c0, .slice (some ⟨gl, 1, none⟩) wn (cl - 1), .slice (some ⟨gl, 1 + wn, none⟩) h (cl - (1 + wn))], .nilIface]) ∧ m ≤ cl ∧ N ≤ c0 ∧ Kd.C (Kd.int .u8) w' A0 N (chkR ys N 0) ∧ Kd.C (Kd.slice 5 (Kd.int .u8)) w' (some ⟨gl, 0, none⟩) m ((List.range m).map (chkR ys N)) ∧ Below w.heap.size w w' ∧ Kd.R (Kd.slice 5 (Kd.int .u8)) 25 w' w.heap.size (fun _ => True) (.slice (some ⟨gl, 0, none⟩) m cl) ((List.range m).map (chkR ys N)) ∧ w'.cell? ⟨gl, 0, none⟩ = some (.slice A0 N c0) := by
 have HME := Aside0.mk (show m = 1 + wn + h ∧ 1 ≤ wn ∧ 1 ≤ h ∧ m ≤ 1000000 from ⟨hme, hwn, hh, hm6⟩)
 have HL := Aside0.mk (show L = m * N ∧ (ys.length : Int) = L from ⟨hL, hlx⟩)
 clear hme hL hlx
 refine (callsIn_wide (n := 5)).1 ?_
 refine callsIn_of_wp_marks Tryz.func21 rfl trivial ?_ rfl
 rw [wpIn_wide]
 simp only [Tryz.ntmps21, List.size_toArray, List.length_cons, List.length_nil, Nat.reduceAdd, Nat.reduceSub, Array.replicate_succ, Array.replicate_zero, List.push_toArray, List.append_toArray, List.nil_append, List.cons_append]
 have bR := blk_new w (.cells #[.int .i64 0, .int .u32 0, .slice none 0 0, .slice none 0 0, .slice none 0 0] 54)
 go_wp2_with (first
  | (go_at_call 12; ((with_reducible refine (hsig _ (by repeat (first | exact Below.refl _ _ | apply below_alloc))).mono ?_); rintro e w1 ⟨rfl, hb1⟩; have HB1 := Aside0.mk (below_step (below_alloc (Below.refl w.heap.size w) _) hb1); have BR1 := Aside0.mk (blk_below bR hb1); clear hb1))
  | (go_at_call 17; ((with_reducible refine (hnum _).mono ?_); rintro e w2 ⟨rfl, ⟨q, rfl⟩⟩))
  | (go_at_call 28; ((with_reducible refine (hnew _ (pw_below_drewN HB1.out _)).mono ?_); rintro e w3 ⟨g, rfl, hd3, hg3⟩; have HD3 := Aside0.mk hd3; have HG3 := Aside0.mk hg3; clear hd3 hg3))
  | (go_at_call 29; ((with_reducible refine (hword _ _ _ HD3.out).mono ?_); rintro e w4 ⟨rfl, hd4⟩; have HD4 := Aside0.mk hd4; clear hd4))
  | (go_at_call 43; ((with_reducible refine (hrest _ _ _ (hbel HD4.out (below_alloc (Below.refl _ _) _))).mono ?_); rintro e w5 ⟨b, cc, rfl, hcc, hR5, hd5, hk5⟩; have HR5 := Aside0.mk hR5; have HD5 := Aside0.mk hd5; have HK5 := Aside0.mk hk5; clear hR5 hd5 hk5))
  | (go_at_call 42; ((with_reducible refine (show Calls Tryz.prog 42 #[.slice (some ⟨b, 0, none⟩) L cc, .int .i64 (N : Int)] w5 _ from chunk_call (some ⟨b, 0, none⟩) L cc N hN w5).mono ?_); rintro e w6 ⟨rfl, rfl⟩)))
 have hL := HL.out.1
 have hlx := HL.out.2
 have hgl := (hall HD4.out).2
 have bL := blk_new w4 (.cells #[.slice none 0 0] 52)
 have bL5 : w5.heap[w4.heap.size]? = some (.cells #[.slice none 0 0] 52 (0, 0)) := (HK5.out.2 w4.heap.size (by simp) (by omega) (by simp)).trans bL
 have hb5 := (hall HD5.out).1
 have hB5 : Below w.heap.size w w5 := below_step (pw_below_drewN HB1.out q) hb5
 have bR5 := blk_below (g := w.heap.size) (o := .cells #[.int .i64 0, .int .u32 0, .slice none 0 0, .slice none 0 0, .slice none 0 0] 54 (0, 0)) (blk_drewN BR1.out q) hb5
 obtain ⟨_, _, hCrow⟩ := Kd.R_reads' HR5.out
 have hrow0 : ∀ j, j < m * N → w5.cell? ⟨b, j, none⟩ = some (.int .u8 (ys.getD j 0)) := fun j hj => by
  obtain ⟨ad, ea, hx⟩ := Kd.at_int hCrow (j : Int) (by omega) (by omega)
  cases ea
  rw [Int.toNat_natCast] at hx
  simpa [rd, add_plainC] using hx
 rw [← wpIn_wide (n := 5)]
 have bS := blk_new w5 (.cells #[.slice (some ⟨b, 0, none⟩) L cc] 25)
 have bN := blk_new (w5.alloc (.cells #[.slice (some ⟨b, 0, none⟩) L cc] 25)) (.cells #[.int .i64 (N : Int)] 3)
 have bS6 := blk_alloc bS (.cells #[.int .i64 (N : Int)] 3)
 have bL6 := blk_alloc (blk_alloc bL5 (.cells #[.slice (some ⟨b, 0, none⟩) L cc] 25)) (.cells #[.int .i64 (N : Int)] 3)
 have bR6 := blk_alloc (blk_alloc bR5 (.cells #[.slice (some ⟨b, 0, none⟩) L cc] 25)) (.cells #[.int .i64 (N : Int)] 3)
 have hB6 : Below w.heap.size w _ := below_alloc (below_alloc hB5 (.cells #[.slice (some ⟨b, 0, none⟩) L cc] 25)) (.cells #[.int .i64 (N : Int)] 3)
 have hb56 : Below w5.heap.size w5 _ := below_alloc (below_alloc (Below.refl _ _) (.cells #[.slice (some ⟨b, 0, none⟩) L cc] 25)) (.cells #[.int .i64 (N : Int)] 3)
 have hsz : ((w5.alloc (.cells #[.slice (some ⟨b, 0, none⟩) L cc] 25)).alloc (.cells #[.int .i64 (N : Int)] 3)).heap.size = w5.heap.size + 2 := by simp
 rw [World.size_alloc] at bN
 generalize (w5.alloc (.cells #[.slice (some ⟨b, 0, none⟩) L cc] 25)).alloc (.cells #[.int .i64 (N : Int)] 3) = W6 at bS6 bN bL6 bR6 hB6 hb56 hsz ⊢
 have hSI : SI w W6 w4.heap.size N m ys [] W6 := ⟨⟨⟨_, bL6, Kd.R_nil _ _ _ _ _⟩, Nat.le_refl _, fun _ _ _ => rfl⟩, hB6⟩
 have hrow6 : ∀ j, j < m * N → W6.cell? ⟨b, j, none⟩ = some (.int .u8 (ys.getD j 0)) := fun j hj => (hb56.cell (p := ⟨b, j, none⟩) (World.block_lt_of_cell? w5 _ (hrow0 j hj))).trans (hrow0 j hj)
 have hw6 : w.heap.size ≤ W6.heap.size := hB6.size
 have hcS : W6.cell? ⟨w5.heap.size, 0, none⟩ = some (.slice (some ⟨b, 0, none⟩) (m * N) cc) := (blk_cell bS6 0).trans (by rw [hL]; rfl)
 have hcN : W6.cell? ⟨w5.heap.size + 1, 0, none⟩ = some (.int .i64 (N : Int)) := (blk_cell bN 0).trans rfl
 have hl45 : w4.heap.size < w5.heap.size := blk_lt bL5
 have hBl : w.heap.size ≤ w4.heap.size := Nat.le_trans (pw_below_drewN HB1.out q).size (hall HD4.out).1.size
 have HSI := Aside0.mk hSI
 refine wpIn_rangeFunc_ownG (F := Fence.wide) (n := 5) rfl (by decide) (gf := 61) (lb := #[.pointer (some ⟨w5.heap.size, 0, none⟩), .pointer (some ⟨w5.heap.size + 1, 0, none⟩)]) rfl trivial (enters_of Tryz.func61 (by kernel_rfl) rfl)
  (chunk_stops Fence.wide 4 trivial rfl (by decide) w5.heap.size (w5.heap.size + 1) b 0 m cc N hN hmN (by omega) W6 (by omega) (by omega) hcS hcN) (fun h k => KpC.trans h k) (fun W l o o' hl _ _ _ => KpC.put (w := W6) (by omega) (by omega) W l o o' hl) (Below.refl _ _) (fun _ => rfl)
  (SI w W6 w4.heap.size N m ys) (fun _ _ _ => False) (SI.own w W6 w4.heap.size N m ys hw6) (fun _ _ _ _ _ hs _ _ => hs) hSI ?a1 ?assign ?body ?done ?stop
 case assign =>
  intro l x W K hK
  simp only [put_one, List.setIfInBounds_toArray, List.set_cons_zero, List.set_cons_succ]
  gi_wp2
  exact hK
 case stop =>
  rintro D c pre W _ _ h _
  exact h.elim
 case body =>
  have hbne : b ≠ w4.heap.size := fun e => by
   obtain ⟨inn, ho⟩ := Kd.R_own HR5.out
   have := own_base ho b rfl
   rw [World.size_alloc] at this
   omega
  rintro l pre x W ⟨⟨⟨v, hv, hr⟩, hsz6, hblk⟩, hB⟩ hlt
  have hc := hv.cell
  have hd : 1 ≤ 5 - 1 - 1 := by omega
  have hmx : Tryz.prog.follows .mixedOrders = true := by kernel_rfl
  obtain ⟨i0, hi, hz0, hz1, hz2⟩ := info_parts info_slk
  have hxm : x.1 * N + N ≤ m * N := by
   have h1 := Nat.mul_le_mul_right N (Nat.succ_le_of_lt x.2)
   rw [Nat.succ_mul] at h1
   exact h1
  have hbW : b < W6.heap.size := by have := World.block_lt_of_cell? W6 _ (hrow6 0 (by omega)); exact this
  have hch := fun W' (hW' : Below W.heap.size W W') => hclone W' b (x.1 * N) (chkR ys N x.1) (C_cells (chkR_length _ _ _) (by omega) (fun j hj => by
   have h1 : W'.cell? ⟨b, x.1 * N + j, none⟩ = W.cell? ⟨b, x.1 * N + j, none⟩ := hW'.cell (p := ⟨b, x.1 * N + j, none⟩) (by show b < _; omega)
   have h2 : W.cell? ⟨b, x.1 * N + j, none⟩ = W6.cell? ⟨b, x.1 * N + j, none⟩ := World.cell?_of_block (w := W6) (a := ⟨b, x.1 * N + j, none⟩) (hblk b hbW hbne)
   rw [h1, h2, hrow6 (x.1 * N + j) (by omega)]
   simp [chkR, List.getD_eq_getElem?_getD, hj]))
  have hround := fun w' A0 c0 hb hcc => app_round w W6 w4.heap.size w5.heap.size (w5.heap.size + 1) N m ys pre x W w' v A0 c0 hlt hm6 (by omega) hBl ⟨by omega, by omega⟩ ⟨by omega, by omega⟩ hv hr hsz6 hblk hB hb hcc hi hz0 hz1 hz2
  clear hsig hnum hnew hword hrest hclone bS6 bN bL6 bR6 hB6 hb56 hsz hSI hw6 hcS hcN HSI bR bL bL5 hb5 hB5 bR5 hCrow hrow0 hrow6 bS HB1 BR1 HD3 HG3 HD4 HR5 HD5 HK5 hgl hcc HME HL hL hlx hxm hbW hblk hr hbne hl45 hBl hmN hm6 hN6 hN hwn hh
  gi_wp2
  gi_region_with_o (refine ⟨trivial, ?_⟩; gi_at_call 44; refine (CallsIn.inRound l (callsIn_wide.2 (hch _ (by repeat (first | exact Below.refl _ _ | apply below_drew1 | apply pw_below_drewN))))).mono ?_; rintro e w' ⟨A0, c0, rfl, hRc, hbc⟩; obtain ⟨g', cap', w2, hrun, hc1, hf1, hc2, hc3, hf3, hpost⟩ := hround w' A0 c0 hbc hRc)
  all_goals gi_wp2
  all_goals exact hpost
 case done =>
  have hne4 : w.heap.size ≠ w4.heap.size := Nat.ne_of_lt (Nat.lt_of_lt_of_le (blk_lt (blk_drewN BR1.out q)) (hall HD4.out).1.size)
  have hBlt : w4.heap.size < W6.heap.size := by omega
  rintro D xs W hD rfl ⟨⟨⟨v, hv, hr⟩, hsz6, hblk⟩, hB⟩ hK
  have bRW := (hblk w.heap.size (blk_lt bR6) hne4).trans bR6
  have hc := hv.cell
  have hlm : ((upto m m).map fun x : Fin m => chkR ys N x.1).length = m := by rw [List.length_map, upto_length (Nat.le_refl m)]
  have hrows : ((upto m m).map fun x : Fin m => chkR ys N x.1) = (List.range m).map (chkR ys N) := by
   apply List.ext_getElem
   ·rw [hlm]; simp
   ·intro i h1 h2
    simp [upto]
  rw [hrows] at hr hlm
  obtain ⟨inner, hown⟩ := Kd.R_own hr
  rw [hlm] at hown
  have hmm : m = (wn + h) + 1 := by have := HME.out.1; omega
  obtain ⟨gl, cl, rfl⟩ : ∃ gl cl, v = .slice (some ⟨gl, 0, none⟩) m cl := by
   rw [hmm] at hown ⊢
   exact ownsRow_succ hown
  obtain ⟨Ag, cg, eg, hcl, hC⟩ := Kd.R_reads hr
  rw [hlm] at eg hcl hC
  obtain ⟨rfl, rfl⟩ : (some ⟨gl, 0, none⟩ : Option Addr) = Ag ∧ cl = cg := by
   injection eg with e1 e2 e3
   exact ⟨e1, e3⟩
  have hm0 : 0 < m := by omega
  obtain ⟨ad, cs0, ea, _, ⟨A0, c0, rfl, hAl, hAc⟩, hg0⟩ := Kd.C_get hC [] 0 (by omega) (by omega)
  cases ea
  have hlen0 : (((List.range m).map (chkR ys N)).getD (0 : Int).toNat []) = chkR ys N 0 := by
   simp [List.getD_eq_getElem?_getD, hm0]
  rw [hlen0] at hAl hAc hg0
  have hN0 : (chkR ys N 0).length = N := chkR_length _ _ _
  rw [hN0] at hAl hAc hg0
  have hcell0 : W.cell? ⟨gl, 0, none⟩ = some (.slice A0 N c0) := by
   have := hg0 0 _ rfl
   simpa [add_plainC] using this
  have hbg : W6.heap.size ≤ gl := own_base hown gl rfl
  have hgt : ∃ cells, W.heap[gl]? = some (.cells cells 25 (0, 0)) := own_typed hown gl rfl
  obtain ⟨i0, hi, hz0, hz1, hz2⟩ := info_parts info_slk
  have hcutA : ∀ W', (Instr.slice 52 (.slice (some ⟨gl, 0, none⟩) m cl) (some (.int .i64 1)) (some (.int .i64 (1 + (wn : Int)))) none).run Tryz.prog W' = .ok (.slice (some ⟨gl, 1, none⟩) wn (cl - 1)) W' := fun W' => by
   have h1 := cut_mid (P := Tryz.prog) 52 25 .i64 .i64 Tryz.underlying52 hi 1 hz1 (some ⟨gl, 0, none⟩) m cl 1 (1 + (wn : Int)) (by omega) (by omega) (by have := HME.out.1; omega) hcl W'
   have e1 : (1 + (wn : Int)).toNat - (1 : Int).toNat = wn := by omega
   have e2 : ¬ cl = (1 : Int).toNat := by have := HME.out; omega
   rw [if_neg e2, e1] at h1
   simpa [add_plainC] using h1
  have hcutB : ∀ W', (Instr.slice 52 (.slice (some ⟨gl, 0, none⟩) m cl) (some (.int .i64 (1 + (wn : Int)))) none none).run Tryz.prog W' = .ok (.slice (some ⟨gl, 1 + wn, none⟩) h (cl - (1 + wn))) W' := fun W' => by
   have h1 := cut_from (P := Tryz.prog) 52 25 .i64 Tryz.underlying52 hi 1 hz1 (some ⟨gl, 0, none⟩) m cl (1 + (wn : Int)) (by omega) (by have := HME.out.1; omega) W'
   have e1 : (1 + (wn : Int)).toNat = 1 + wn := by omega
   have e2 : ¬ cl = 1 + wn := by have := HME.out; omega
   have e3 : m - (1 + wn) = h := by have := HME.out.1; omega
   rw [e1, if_neg e2, e3] at h1
   simpa [add_plainC] using h1
  obtain ⟨hw64, hmd, _, hwp⟩ := split_nums HME.out.1 HME.out.2.1 HME.out.2.2.1 HME.out.2.2.2
  have HR := Aside0.mk hr
  have HC := Aside0.mk hC
  have HA := Aside0.mk (And.intro hAl hAc)
  have HCL := Aside0.mk hcl
  have HB := Aside0.mk (And.intro hB (And.intro hsz6 hD))
  have HG := Aside0.mk hbg
  have HNE := Aside0.mk (And.intro bRW (And.intro (blk_lt bR6) hw6))
  have hp0 : W.cell? ⟨w.heap.size, 0, none⟩ = some (.int .i64 0) := (blk_cell bRW 0).trans rfl
  have hp1 : W.cell? ⟨w.heap.size, 1, none⟩ = some (.int .u32 0) := (blk_cell bRW 1).trans rfl
  have hp2 : W.cell? ⟨w.heap.size, 2, none⟩ = some (.slice none 0 0) := (blk_cell bRW 2).trans rfl
  have hp3 : W.cell? ⟨w.heap.size, 3, none⟩ = some (.slice none 0 0) := (blk_cell bRW 3).trans rfl
  have hp4 : W.cell? ⟨w.heap.size, 4, none⟩ = some (.slice none 0 0) := (blk_cell bRW 4).trans rfl
  have hfz : ∀ j, W.frozen? ⟨w.heap.size, j, none⟩ = false := fun j => blk_frozen bRW j
  clear hsig hnum hnew hword hrest hclone bS6 bN bL6 bR6 hB6 hb56 hsz hSI hw6 hcS hcN HSI bR bL bL5 hb5 hB5 bR5 hCrow hrow0 hrow6 bS HB1 BR1 HD3 HG3 HD4 HR5 HD5 HK5 hgl hcc HL hL hlx hl45 hBl hBlt hne4 hmN hm6 hN6 hN hwn hh hblk hown hr hC hAl hAc hg0 hcl hmm hrows hlm hlen0 hN0 hbg hgt bRW hv hB hsz6 hD hi hz0 hz1 hz2 HME
  gi_wp2
  apply wp_seq_k
  intro K_ hK_
  obtain ⟨Wd, hWd⟩ : ∃ Wd, { W with drawn := W.drawn + 1 } = Wd := ⟨_, rfl⟩
  refine wp_region_still_tail 15 (by kernel_rfl) (by kernel_rfl) ?_
  simp only [List.take_succ_cons, List.take_zero, List.drop_succ_cons, List.drop_zero]
  rw [hWd]
  replace hc : Wd.cell? { block := w4.heap.size, off := 0 } = some (Value.slice (some { block := gl, off := 0 }) m cl) := by rw [← hWd]; exact hc
  replace hcell0 : Wd.cell? { block := gl, off := 0 } = some (Value.slice A0 N c0) := by rw [← hWd]; exact hcell0
  replace hp0 : Wd.cell? ⟨w.heap.size, 0, none⟩ = some (.int .i64 0) := by rw [← hWd]; exact hp0
  replace hp1 : Wd.cell? ⟨w.heap.size, 1, none⟩ = some (.int .u32 0) := by rw [← hWd]; exact hp1
  replace hp2 : Wd.cell? ⟨w.heap.size, 2, none⟩ = some (.slice none 0 0) := by rw [← hWd]; exact hp2
  replace hp3 : Wd.cell? ⟨w.heap.size, 3, none⟩ = some (.slice none 0 0) := by rw [← hWd]; exact hp3
  replace hp4 : Wd.cell? ⟨w.heap.size, 4, none⟩ = some (.slice none 0 0) := by rw [← hWd]; exact hp4
  replace hfz : ∀ j, Wd.frozen? ⟨w.heap.size, j, none⟩ = false := by rw [← hWd]; exact hfz
  replace hK : Wd.heap[D]? = some (Obj.deferred (some [])) := by rw [← hWd]; exact hK
  have HW := Aside0.mk (show Wd.heap = W.heap ∧ Below W.heap.size W Wd by rw [← hWd]; exact ⟨rfl, ⟨rfl, rfl, rfl, Nat.le_refl _, fun _ _ => rfl⟩⟩)
  clear hWd
  have HBR := Aside0.mk (show Wd.heap[w.heap.size]? = some (.cells #[.int .i64 0, .int .u32 0, .slice none 0 0, .slice none 0 0, .slice none 0 0] 54 (0, 0)) by rw [HW.out.1]; exact HNE.out.1)
  repeat still_step
  refine wpStill_nil ?_
  go_wp2
  obtain ⟨s1, s2, s3, s4⟩ := set5 Wd w.heap.size 54 (.int .i64 0) (.int .u32 0) (.slice none 0 0) (.slice none 0 0) (.slice none 0 0) (Value.int IntKind.i64 alg) (Value.int IntKind.u32 (idx % 4294967296)) (Value.slice A0 N c0) (Value.slice (some { block := gl, off := 1 }) wn (cl - 1)) (Value.slice (some { block := gl, off := 1 + wn }) h (cl - (1 + wn))) HBR.out
  revert s1 s2 s3 s4
  generalize (((((Wd.setCell { block := w.heap.size, off := 0 } (Value.int IntKind.i64 alg)).setCell { block := w.heap.size, off := 1 } (Value.int IntKind.u32 (idx % 4294967296))).setCell { block := w.heap.size, off := 2 } (Value.slice A0 N c0)).setCell { block := w.heap.size, off := 3 } (Value.slice (some { block := gl, off := 1 }) wn (cl - 1))).setCell { block := w.heap.size, off := 4 } (Value.slice (some { block := gl, off := 1 + wn }) h (cl - (1 + wn)))) = W5
  intro s1 s2 s3 s4
  have hDne : D ≠ w.heap.size := by have := HB.out.2.2; have := HNE.out.2.1; omega
  have hK5 : W5.heap[D]? = some (Obj.deferred (some [])) := (s3 D hDne).trans hK
  have s7 : (W5.putObj D (Obj.deferred none)).heap[w.heap.size]? = _ := (World.putObj_heap_other (fun e => hDne e.symm)).trans s1
  have s8 : ∀ k, k ≠ w.heap.size → k ≠ D → (W5.putObj D (Obj.deferred none)).heap[k]? = W.heap[k]? := fun k h1 h2 => (World.putObj_heap_other h2).trans ((s3 k h1).trans (by rw [HW.out.1]))
  have s9 : Below w.heap.size w (W5.putObj D (Obj.deferred none)) := ((HB.out.1.trans (HW.out.2.mono HB.out.1.size)).trans s4).grown (grownBy_putObj' _ _ _) ((HB.out.1.trans (HW.out.2.mono HB.out.1.size)).trans s4).size (fun k e => by cases e; have := HB.out.2.2; have := HNE.out.2.1; omega)
  refine ⟨by simp, .inl ⟨_, _, rfl, run_takeDeferred hK5, ?_⟩⟩
  clear s1 s2 s3 s4 hK5 hfz hp0 hp1 hp2 hp3 hp4 hc
  generalize W5.putObj D (Obj.deferred none) = W7 at s7 s8 s9 ⊢
  have hR7 := Kd.R_mono (Kd.R_move (w1 := W7) (Kd.R_bound HR.out) (fun k hk => s8 k (by have := HNE.out.2.1; omega) (fun e => by
   obtain ⟨_, _, _, q, _, cs, hcs⟩ := hk
   rw [e, ← HW.out.1, hK] at hcs
   cases hcs))) (fun _ hk => hk.1)
  have hlm : ((List.range m).map (chkR ys N)).length = m := by simp
  obtain ⟨Ag, cg, eg, _, hC⟩ := Kd.R_reads hR7
  rw [hlm] at eg hC
  obtain ⟨rfl, rfl⟩ : (some ⟨gl, 0, none⟩ : Option Addr) = Ag ∧ cl = cg := by
   injection eg with e1 e2 e3
   exact ⟨e1, e3⟩
  obtain ⟨ad, cs0, ea, _, ⟨A1, c1, rfl, hAl, hAc⟩, hg0⟩ := Kd.C_get hC [] 0 (by omega) (by omega)
  cases ea
  have hlen0 : (((List.range m).map (chkR ys N)).getD (0 : Int).toNat []) = chkR ys N 0 := by
   simp [List.getD_eq_getElem?_getD, hm0]
  rw [hlen0] at hAl hAc hg0
  have hN0 : (chkR ys N 0).length = N := chkR_length _ _ _
  rw [hN0] at hAl hAc hg0
  have hcell1 : W7.cell? ⟨gl, 0, none⟩ = some (.slice A1 N c1) := by
   have := hg0 0 _ rfl
   simpa [add_plainC] using this
  have hcell2 : W7.cell? ⟨gl, 0, none⟩ = Wd.cell? ⟨gl, 0, none⟩ := World.cell?_of_block (w := Wd) (a := ⟨gl, 0, none⟩) ((s8 gl (by have := HG.out; have := HNE.out.2.1; omega) (fun e => by
   obtain ⟨inn, ho⟩ := Kd.R_own HR.out
   obtain ⟨cs, hcs⟩ := own_typed ho gl rfl
   rw [e, ← HW.out.1, hK] at hcs
   cases hcs)).trans (by rw [HW.out.1]))
  rw [hcell1, hcell0] at hcell2
  obtain ⟨rfl, rfl⟩ : A1 = A0 ∧ c1 = c0 := by
   injection hcell2 with e0
   injection e0 with e1 e2 e3
   exact ⟨e1, e3⟩
  have d0 := (blk_cell s7 0).trans rfl
  have d1 := (blk_cell s7 1).trans rfl
  have d2 := (blk_cell s7 2).trans rfl
  have d3 := (blk_cell s7 3).trans rfl
  have d4 := (blk_cell s7 4).trans rfl
  refine ⟨.tuple #[.agg #[.int .i64 alg, .int .u32 (idx % 4294967296), .slice A1 N c1, .slice (some ⟨gl, 1, none⟩) wn (cl - 1), .slice (some ⟨gl, 1 + wn, none⟩) h (cl - (1 + wn))], .nilIface], ?_, A1, c1, gl, cl, rfl, HCL.out, hAl, hAc, hC, s9, Kd.R_lower hR7 HNE.out.2.2, hcell1⟩
  clear hC hAc hR7 HR HC HA
  simp [results, Tryz.results21, go_sem, d0, d1, d2, d3, d4]
end Go.Proofs.YtgmnknhfeoleaaaGreatDoor.PXmss
