/- xmss: changes of bytes; the algorithm of a signature and of a key, in the program and in the reference: no condition. -/
import Derived.Test.YtgmnknhfeoleaaaGreatDoorZPXmssx24
import Derived.Test.YtgmnknhfeoleaaaGreatDoorZPXmssx27
import Derived.Test.YtgmnknhfeoleaaaGreatDoorZPXmssx21
import Derived.Test.YtgmnknhfeoleaaaGreatDoorZPXmssx17
import Derived.Test.YtgmnknhfeoleaaaGreatDoorZXPure
namespace Go.Proofs.YtgmnknhfeoleaaaGreatDoor.PXmss
open Go.RowKit Go.Proofs.YtgmnknhfeoleaaaGreatDoorW.PrintWords Go.Proofs.YtgmnknhfeoleaaaGreatDoorW.PrintLast Go.Proofs.YtgmnknhfeoleaaaGreatDoorW.PrintMore Go.Proofs.YtgmnknhfeoleaaaGreatDoorW.Pu
set_option linter.unusedVariables false
theorem bytes_app {a b : List Int} (ha : IsBytes a) (hb : IsBytes b) : IsBytes (a ++ b) := fun y hy => (List.mem_append.1 hy).elim (ha y) (hb y)
theorem set_bytes {l : List Int} (h : IsBytes l) {c : Int} (h0 : 0 ≤ c) (h1 : c < 256) (i : Nat) : IsBytes (l.set i c) := by
 intro y hy
 rcases List.mem_or_eq_of_mem_set hy with hy | rfl
 ·exact h y hy
 ·exact ⟨h0, h1⟩
def Wf65 (x : S65) : Prop := (Lit.int .i64 x.f0).wf = true ∧ (Lit.int .u8 x.f1).wf = true ∧ (Lit.int .u16 x.f2).wf = true ∧ IsBytes x.f3
theorem rd65_mem {l : List S65} {i : Nat} (h : i < l.length) : rd_T65 l (i : Int) ∈ l := by
 unfold rd_T65
 rw [Int.toNat_natCast, List.getD_eq_getElem?_getD, List.getElem?_eq_getElem h]
 exact List.getElem_mem h
theorem changed_j2 (l : List S65) (x : S65) (i : Nat) (hlt : i < l.length) (hi : i < 1000000) (hx : x = rd_T65 l (i : Int)) (hw : Wf65 x) (b : List Int) (hb : IsBytes b) (hbl : b.length < 1000000000) (P : List Int → Prop)
  (ih : ∀ b', IsBytes b' → b'.length ≤ b.length + 100 → ∃ r, Ev (fun k => pyxlaw22_changed.l0 k l b' ((i + 1 : Nat) : Int)) r ∧ P r) :
  ∃ r, Ev (fun k => pyxlaw22_changed.j2 k l b (i : Int)) r ∧ P r := by
 have h2 := wf_u16 hw.2.2.1
 have h3 := hw.2.2.2
 have q1 : (i : Int) < (l.length : Int) := by omega
 have q2 : 0 ≤ (i : Int) := by omega
 have e4 := wsucc (j := i) (by omega)
 have e5 : wrap64 x.f2 = x.f2 := w64 (by omega) (by omega)
 by_cases c1 : x.f2 ≤ (b.length : Int)
 ·have e6 : wrap64 ((b.length : Int) - x.f2) = (b.length : Int) - x.f2 := w64 (by clear e4 e5; omega) (by clear e4 e5; omega)
  have c2 : 0 ≤ (b.length : Int) - x.f2 := by clear e4 e5 e6; omega
  have c3 : (b.length : Int) - x.f2 ≤ (b.length : Int) := by clear e4 e5 e6; omega
  obtain ⟨b1, hb1⟩ : ∃ b1, b1 = b.take ((b.length : Int) - x.f2).toNat := ⟨_, rfl⟩
  have hbb : IsBytes b1 := by rw [hb1]; exact fun y hy => hb y (List.mem_of_mem_take hy)
  have hbn : b1.length ≤ b.length := by rw [hb1]; exact List.length_take_le' _ _
  by_cases c4 : (x.f3.length : Int) ≤ 100
  ·obtain ⟨r, r1, r2⟩ := ih (b1 ++ x.f3) (bytes_app hbb h3) (by rw [List.length_append]; clear e4 e5 e6; omega)
   have p1 : b1.length + x.f3.length < 140737488355328 := by clear e4 e5 e6; omega
   refine ⟨r, ?_, r2⟩
   refine Ev.step (fun k => by rw [pyxlaw22_changed.j2, if_pos q2, if_pos q1, ← hx, e5, if_pos c1, e6, if_pos c2, if_pos c3, Option.bind_some, ← hb1, if_pos c4, if_pos p1, e4]) r1
  ·obtain ⟨r, r1, r2⟩ := ih b1 hbb (by omega)
   refine ⟨r, ?_, r2⟩
   refine Ev.step (fun k => by rw [pyxlaw22_changed.j2, if_pos q2, if_pos q1, ← hx, e5, if_pos c1, e6, if_pos c2, if_pos c3, Option.bind_some, ← hb1, if_neg c4, e4]) r1
 ·by_cases c4 : (x.f3.length : Int) ≤ 100
  ·obtain ⟨r, r1, r2⟩ := ih (b ++ x.f3) (bytes_app hb h3) (by rw [List.length_append]; clear e4 e5; omega)
   have p1 : b.length + x.f3.length < 140737488355328 := by clear e4 e5; omega
   refine ⟨r, ?_, r2⟩
   refine Ev.step (fun k => by rw [pyxlaw22_changed.j2, if_pos q2, if_pos q1, ← hx, e5, if_neg c1, if_pos c4, if_pos p1, e4]) r1
  ·obtain ⟨r, r1, r2⟩ := ih b hb (by omega)
   refine ⟨r, ?_, r2⟩
   refine Ev.step (fun k => by rw [pyxlaw22_changed.j2, if_pos q2, if_pos q1, ← hx, e5, if_neg c1, if_neg c4, e4]) r1
theorem changed_l0 (l : List S65) (hl : l.length ≤ 20) (hw : ∀ x ∈ l, Wf65 x) : ∀ (d : Nat) (b : List Int) (i : Nat), l.length - i = d → i ≤ l.length → IsBytes b → b.length ≤ 200000 + 100 * i →
  ∃ r, Ev (fun k => pyxlaw22_changed.l0 k l b (i : Int)) r ∧ IsBytes r ∧ r.length ≤ 300000 := by
 intro d
 induction d with
 | zero =>
  intro b i e h hb hn
  exact ⟨b, Ev.last fun k => by rw [pyxlaw22_changed.l0, if_neg (by omega)], hb, by omega⟩
 | succ d ih =>
  intro b i e h hb hn
  have hlt : i < l.length := by omega
  obtain ⟨x, hx⟩ : ∃ x, x = rd_T65 l (i : Int) := ⟨_, rfl⟩
  have hwx : Wf65 x := hx ▸ hw _ (rd65_mem hlt)
  have q1 : (i : Int) < (l.length : Int) := by omega
  have q2 : 0 ≤ (i : Int) := by omega
  have hv := wf_u8 hwx.2.1
  have go : ∀ b', IsBytes b' → b'.length = b.length → ∃ r, Ev (fun k => pyxlaw22_changed.j2 k l b' (i : Int)) r ∧ IsBytes r ∧ r.length ≤ 300000 := fun b' h1 h2 =>
   changed_j2 l x i hlt (by omega) hx hwx b' h1 (by omega) (fun r => IsBytes r ∧ r.length ≤ 300000) (fun b2 h3 h4 => ih b2 (i + 1) (by omega) hlt h3 (by omega))
  clear ih
  by_cases c1 : x.f0 ≥ 0
  ·by_cases c2 : x.f0 < (b.length : Int)
   ·obtain ⟨r, r1, r2⟩ := go (b.set x.f0.toNat x.f1) (set_bytes hb hv.1 hv.2 _) (by simp)
    refine ⟨r, ?_, r2⟩
    have s1 : Ev (fun k => pyxlaw22_changed.j1 k l b (i : Int) true) r := Ev.step (fun k => by rw [pyxlaw22_changed.j1, if_pos rfl, if_pos q2, if_pos q1, ← hx, if_pos c1, if_pos c2]) r1
    exact Ev.step (fun k => by rw [pyxlaw22_changed.l0, if_pos q1, if_pos q2, ← hx, if_pos c1, decide_eq_true c2]) s1
   ·obtain ⟨r, r1, r2⟩ := go b hb rfl
    refine ⟨r, ?_, r2⟩
    have s1 : Ev (fun k => pyxlaw22_changed.j1 k l b (i : Int) false) r := Ev.step (fun k => by rw [pyxlaw22_changed.j1, if_neg (by decide)]) r1
    exact Ev.step (fun k => by rw [pyxlaw22_changed.l0, if_pos q1, if_pos q2, ← hx, if_pos c1, decide_eq_false c2]) s1
  ·obtain ⟨r, r1, r2⟩ := go b hb rfl
   refine ⟨r, ?_, r2⟩
   have s1 : Ev (fun k => pyxlaw22_changed.j1 k l b (i : Int) false) r := Ev.step (fun k => by rw [pyxlaw22_changed.j1, if_neg (by decide)]) r1
   exact Ev.step (fun k => by rw [pyxlaw22_changed.l0, if_pos q1, if_pos q2, ← hx, if_neg c1]) s1
theorem changed_ev (b : List Int) (hb : IsBytes b) (hn : b.length ≤ 200000) (l : List S65) (hl : l.length ≤ 20) (hw : ∀ x ∈ l, Wf65 x) : ∃ r, Ev (fun k => pyxlaw22_changed.f k b l) r ∧ IsBytes r ∧ r.length ≤ 300000 := by
 obtain ⟨r, r1, r2⟩ := changed_l0 l hl hw l.length b 0 (by omega) (by omega) hb (by omega)
 refine ⟨r, ?_, r2⟩
 refine Ev.congr (fun k => by rw [pyxlaw22_changed.f, Option.bind_some, if_pos (by simp; omega), List.nil_append]; rfl) r1
theorem bytesOk_of {l : List Int} (h : IsBytes l) : bytesOk l = true := by
 rw [bytesOk, List.all_eq_true]
 intro x hx
 have := h x hx
 simp only [Bool.and_eq_true, decide_eq_true_eq]
 exact this
theorem w64_ {a : Int} (h0 : 0 ≤ a) (h1 : a < 9000000000000000000) : wrap64 a = a := w64 (by omega) (by omega)
theorem told_none : pyxlaw22_told.f none 0 0 = some true := rfl
theorem told_some (c a : Int) (hc : c ≠ 0) (h0 : 0 ≤ a) (h1 : a < 9000000000000000000) : pyxlaw22_told.f (some (.fault c a)) c a = some true := by
 unfold pyxlaw22_told.f
 rw [if_neg hc, show fault_Code.f (some (.fault c a)) = some (c, true) from rfl, show fault_At.f (some (.fault c a)) = some (wrap64 a, true) from rfl, w64_ h0 h1]
 simp
theorem sizes_all : ((List.range 26).all fun i => (prow i).2.1 != 5 || [2500, 2692, 2820, 9092, 9476, 9732].contains (prow i).2.2.2.2.2.2.1) = true := by kernel_rfl
theorem bysize_none (n : Int) (h : n ≠ 2500 ∧ n ≠ 2692 ∧ n ≠ 2820 ∧ n ≠ 9092 ∧ n ≠ 9476 ∧ n ≠ 9732) : params_BySize.f 5 n = some [] := by
 rw [params_BySize.f]
 refine congrArg some (List.eq_nil_iff_forall_not_mem.2 fun a ha => ?_)
 obtain ⟨i, rfl, h1, h2, hp⟩ := algs_in _ _ _ ha
 simp only [Bool.and_eq_true, beq_iff_eq] at hp
 obtain ⟨⟨_, ht⟩, hs⟩ := hp
 have hm := List.all_eq_true.1 sizes_all i (List.mem_range.2 (by omega))
 simp only [Bool.or_eq_true, bne_iff_ne, List.contains_iff_mem] at hm
 rcases hm with hm | hm
 ·exact hm ht
 ·rw [hs] at hm
  simp only [List.mem_cons, List.not_mem_nil, or_false] at hm
  omega
theorem bysize_20 : params_BySize.f 5 2500 = some [20] := by kernel_rfl
theorem bysize_21 : params_BySize.f 5 2692 = some [21] := by kernel_rfl
theorem bysize_22 : params_BySize.f 5 2820 = some [22] := by kernel_rfl
theorem bysize_23 : params_BySize.f 5 9092 = some [23] := by kernel_rfl
theorem bysize_24 : params_BySize.f 5 9476 = some [24] := by kernel_rfl
theorem bysize_25 : params_BySize.f 5 9732 = some [25] := by kernel_rfl
theorem index_eq {l : List Int} (hb : IsBytes l) (h : 4 ≤ l.length) : pyxref22_index.f l = some (v256 (l.take 4)) ∧ 0 ≤ v256 (l.take 4) ∧ v256 (l.take 4) < 4294967296 := by
 match l, h with
 | a :: b :: c :: d :: t, h =>
  have ha := hb a (by simp)
  have hb' := hb b (by simp)
  have hc := hb c (by simp)
  have hd := hb d (by simp)
  have e : v256 ((a :: b :: c :: d :: t).take 4) = ((a * 256 + b) * 256 + c) * 256 + d := by
   show ((((0 * 256 + a) * 256 + b) * 256 + c) * 256 + d) = _
   omega
  rw [e]
  refine ⟨?_, by omega, by omega⟩
  rw [pyxref22_index.f, if_pos (by omega), if_pos (by omega), if_pos (by omega), if_pos (by omega)]
  have r0 : rd (a :: b :: c :: d :: t) 0 = a := rfl
  have r1 : rd (a :: b :: c :: d :: t) 1 = b := rfl
  have r2 : rd (a :: b :: c :: d :: t) 2 = c := rfl
  have r3 : rd (a :: b :: c :: d :: t) 3 = d := rfl
  rw [r0, r1, r2, r3, w64 (x := a) (by omega) (by omega), w64 (x := b) (by omega) (by omega), w64 (x := c) (by omega) (by omega), w64 (x := d) (by omega) (by omega), w64 (x := a * 16777216) (by omega) (by omega), w64 (x := b * 65536) (by omega) (by omega), w64 (x := c * 256) (by omega) (by omega), w64 (x := a * 16777216 + b * 65536) (by omega) (by omega), w64 (x := a * 16777216 + b * 65536 + c * 256) (by omega) (by omega), w64 (x := a * 16777216 + b * 65536 + c * 256 + d) (by omega) (by omega)]
  congr 1
  omega
theorem rsig_20 (k : Nat) (l : List Int) : pyxref22_Signature.l0 (k + 1) l 20 = if (l.length : Int) = 2500 then (pyxref22_index.f l).bind (fun t => if t ≥ 1024 then some (0, 9, 0) else some (20, 0, 0)) else pyxref22_Signature.l0 k l 21 := by
 rw [pyxref22_Signature.l0, if_pos (by decide), show pyxref22_Numbers.f 20 = some [32, 10, 67] from by kernel_rfl, Option.bind_some, if_pos (by decide), if_pos (by decide), if_pos (by decide)]
 have e1 : wrap64 (4 + wrap64 (rd [32, 10, 67] 0 * wrap64 (wrap64 (1 + rd [32, 10, 67] 1) + rd [32, 10, 67] 2))) = 2500 := by kernel_rfl
 have e2 : IntKind.u64.wrap (rd [32, 10, 67] 1) = 10 := by kernel_rfl
 have e3 : shl .i64 1 10 = 1024 := by kernel_rfl
 have e4 : wrap64 (20 + 1) = 21 := by kernel_rfl
 rw [e1, e2, e3, e4]
 rfl
theorem rsig_21 (k : Nat) (l : List Int) : pyxref22_Signature.l0 (k + 1) l 21 = if (l.length : Int) = 2692 then (pyxref22_index.f l).bind (fun t => if t ≥ 65536 then some (0, 9, 0) else some (21, 0, 0)) else pyxref22_Signature.l0 k l 22 := by
 rw [pyxref22_Signature.l0, if_pos (by decide), show pyxref22_Numbers.f 21 = some [32, 16, 67] from by kernel_rfl, Option.bind_some, if_pos (by decide), if_pos (by decide), if_pos (by decide)]
 have e1 : wrap64 (4 + wrap64 (rd [32, 16, 67] 0 * wrap64 (wrap64 (1 + rd [32, 16, 67] 1) + rd [32, 16, 67] 2))) = 2692 := by kernel_rfl
 have e2 : IntKind.u64.wrap (rd [32, 16, 67] 1) = 16 := by kernel_rfl
 have e3 : shl .i64 1 16 = 65536 := by kernel_rfl
 have e4 : wrap64 (21 + 1) = 22 := by kernel_rfl
 rw [e1, e2, e3, e4]
 rfl
theorem rsig_22 (k : Nat) (l : List Int) : pyxref22_Signature.l0 (k + 1) l 22 = if (l.length : Int) = 2820 then (pyxref22_index.f l).bind (fun t => if t ≥ 1048576 then some (0, 9, 0) else some (22, 0, 0)) else pyxref22_Signature.l0 k l 23 := by
 rw [pyxref22_Signature.l0, if_pos (by decide), show pyxref22_Numbers.f 22 = some [32, 20, 67] from by kernel_rfl, Option.bind_some, if_pos (by decide), if_pos (by decide), if_pos (by decide)]
 have e1 : wrap64 (4 + wrap64 (rd [32, 20, 67] 0 * wrap64 (wrap64 (1 + rd [32, 20, 67] 1) + rd [32, 20, 67] 2))) = 2820 := by kernel_rfl
 have e2 : IntKind.u64.wrap (rd [32, 20, 67] 1) = 20 := by kernel_rfl
 have e3 : shl .i64 1 20 = 1048576 := by kernel_rfl
 have e4 : wrap64 (22 + 1) = 23 := by kernel_rfl
 rw [e1, e2, e3, e4]
 rfl
theorem rsig_23 (k : Nat) (l : List Int) : pyxref22_Signature.l0 (k + 1) l 23 = if (l.length : Int) = 9092 then (pyxref22_index.f l).bind (fun t => if t ≥ 1024 then some (0, 9, 0) else some (23, 0, 0)) else pyxref22_Signature.l0 k l 24 := by
 rw [pyxref22_Signature.l0, if_pos (by decide), show pyxref22_Numbers.f 23 = some [64, 10, 131] from by kernel_rfl, Option.bind_some, if_pos (by decide), if_pos (by decide), if_pos (by decide)]
 have e1 : wrap64 (4 + wrap64 (rd [64, 10, 131] 0 * wrap64 (wrap64 (1 + rd [64, 10, 131] 1) + rd [64, 10, 131] 2))) = 9092 := by kernel_rfl
 have e2 : IntKind.u64.wrap (rd [64, 10, 131] 1) = 10 := by kernel_rfl
 have e3 : shl .i64 1 10 = 1024 := by kernel_rfl
 have e4 : wrap64 (23 + 1) = 24 := by kernel_rfl
 rw [e1, e2, e3, e4]
 rfl
theorem rsig_24 (k : Nat) (l : List Int) : pyxref22_Signature.l0 (k + 1) l 24 = if (l.length : Int) = 9476 then (pyxref22_index.f l).bind (fun t => if t ≥ 65536 then some (0, 9, 0) else some (24, 0, 0)) else pyxref22_Signature.l0 k l 25 := by
 rw [pyxref22_Signature.l0, if_pos (by decide), show pyxref22_Numbers.f 24 = some [64, 16, 131] from by kernel_rfl, Option.bind_some, if_pos (by decide), if_pos (by decide), if_pos (by decide)]
 have e1 : wrap64 (4 + wrap64 (rd [64, 16, 131] 0 * wrap64 (wrap64 (1 + rd [64, 16, 131] 1) + rd [64, 16, 131] 2))) = 9476 := by kernel_rfl
 have e2 : IntKind.u64.wrap (rd [64, 16, 131] 1) = 16 := by kernel_rfl
 have e3 : shl .i64 1 16 = 65536 := by kernel_rfl
 have e4 : wrap64 (24 + 1) = 25 := by kernel_rfl
 rw [e1, e2, e3, e4]
 rfl
theorem rsig_25 (k : Nat) (l : List Int) : pyxref22_Signature.l0 (k + 1) l 25 = if (l.length : Int) = 9732 then (pyxref22_index.f l).bind (fun t => if t ≥ 1048576 then some (0, 9, 0) else some (25, 0, 0)) else pyxref22_Signature.l0 k l 26 := by
 rw [pyxref22_Signature.l0, if_pos (by decide), show pyxref22_Numbers.f 25 = some [64, 20, 131] from by kernel_rfl, Option.bind_some, if_pos (by decide), if_pos (by decide), if_pos (by decide)]
 have e1 : wrap64 (4 + wrap64 (rd [64, 20, 131] 0 * wrap64 (wrap64 (1 + rd [64, 20, 131] 1) + rd [64, 20, 131] 2))) = 9732 := by kernel_rfl
 have e2 : IntKind.u64.wrap (rd [64, 20, 131] 1) = 20 := by kernel_rfl
 have e3 : shl .i64 1 20 = 1048576 := by kernel_rfl
 have e4 : wrap64 (25 + 1) = 26 := by kernel_rfl
 rw [e1, e2, e3, e4]
 rfl
theorem rsig_26 (k : Nat) (l : List Int) : pyxref22_Signature.l0 (k + 1) l 26 = some (0, 6, 0) := by rw [pyxref22_Signature.l0, if_neg (by decide)]
theorem sig_agree (l : List Int) (hb : IsBytes l) (hl : l.length < 1000000000) : ∃ a e c t, xmss_Signature.f l = some (a, e) ∧ Ev (fun k => pyxref22_Signature.f k l) (a, c, t) ∧ pyxlaw22_told.f e c t = some true ∧ (c = 0 → e = none ∧ 20 ≤ a ∧ a ≤ 25 ∧ t = 0) ∧ (c ≠ 0 → a = 0 ∧ e ≠ none ∧ (((l.length : Int) ≠ 2500 ∧ (l.length : Int) ≠ 2692 ∧ (l.length : Int) ≠ 2820 ∧ (l.length : Int) ≠ 9092 ∧ (l.length : Int) ≠ 9476 ∧ (l.length : Int) ≠ 9732) ∨ 0 < v256 (l.take 4))) := by
 have hsz : bytesOk l = true ∧ l.length < 1000000000000 := ⟨bytesOk_of hb, by omega⟩
 rw [xmss_Signature.f, if_pos hsz]
 by_cases hn : (l.length : Int) ≠ 2500 ∧ (l.length : Int) ≠ 2692 ∧ (l.length : Int) ≠ 2820 ∧ (l.length : Int) ≠ 9092 ∧ (l.length : Int) ≠ 9476 ∧ (l.length : Int) ≠ 9732
 ·refine ⟨0, some (.fault 6 0), 6, 0, by rw [bysize_none _ hn]; rfl, ⟨7, fun k hk => ?_⟩, told_some 6 0 (by decide) (by decide) (by decide), fun h => absurd h (by decide), fun _ => ⟨rfl, by simp, .inl hn⟩⟩
  obtain ⟨k, rfl⟩ : ∃ j, k = j + 1 + 1 + 1 + 1 + 1 + 1 + 1 := ⟨k - 7, by omega⟩
  show pyxref22_Signature.f _ l = _
  rw [pyxref22_Signature.f, rsig_20, if_neg hn.1, rsig_21, if_neg hn.2.1, rsig_22, if_neg hn.2.2.1, rsig_23, if_neg hn.2.2.2.1, rsig_24, if_neg hn.2.2.2.2.1, rsig_25, if_neg hn.2.2.2.2.2, rsig_26]
 ·have h4 : 4 ≤ l.length := by omega
  obtain ⟨hx, hx0, hx1⟩ := index_eq hb h4
  generalize hv : v256 (l.take 4) = v at hx hx0 hx1
  rcases (show (l.length : Int) = 2500 ∨ (l.length : Int) = 2692 ∨ (l.length : Int) = 2820 ∨ (l.length : Int) = 9092 ∨ (l.length : Int) = 9476 ∨ (l.length : Int) = 9732 by omega) with hs | hs | hs | hs | hs | hs
  ·rw [hs, bysize_20, Option.bind_some]
   dsimp only
   rw [show xmss_Numbers.f 20 = some (32, 10, 67, true) from by kernel_rfl, Option.bind_some]
   dsimp only
   rw [if_pos ⟨h4, by decide, by decide⟩, show (2 : Int) ^ (10 : Int).toNat = 1024 from rfl]
   have hr : ∀ k, 1 ≤ k → pyxref22_Signature.f k l = if v ≥ 1024 then some (0, 9, 0) else some (20, 0, 0) := fun k hk => by
    obtain ⟨k, rfl⟩ : ∃ j, k = j + 1 := ⟨k - 1, by omega⟩
    rw [pyxref22_Signature.f, rsig_20, if_pos hs, hx, Option.bind_some]
   by_cases hd : v ≥ 1024
   ·refine ⟨0, some (.fault 9 0), 9, 0, by rw [if_pos (by omega)], ⟨1, fun k hk => (hr k hk).trans (if_pos hd)⟩, told_some 9 0 (by decide) (by decide) (by decide), fun h => absurd h (by decide), fun _ => ⟨rfl, by simp, .inr (by omega)⟩⟩
   ·refine ⟨20, none, 0, 0, by rw [if_neg (by omega)], ⟨1, fun k hk => (hr k hk).trans (if_neg hd)⟩, told_none, fun _ => ⟨rfl, by decide, by decide, rfl⟩, fun h => absurd rfl h⟩
  ·rw [hs, bysize_21, Option.bind_some]
   dsimp only
   rw [show xmss_Numbers.f 21 = some (32, 16, 67, true) from by kernel_rfl, Option.bind_some]
   dsimp only
   rw [if_pos ⟨h4, by decide, by decide⟩, show (2 : Int) ^ (16 : Int).toNat = 65536 from rfl]
   have hr : ∀ k, 2 ≤ k → pyxref22_Signature.f k l = if v ≥ 65536 then some (0, 9, 0) else some (21, 0, 0) := fun k hk => by
    obtain ⟨k, rfl⟩ : ∃ j, k = j + 1 + 1 := ⟨k - 2, by omega⟩
    rw [pyxref22_Signature.f, rsig_20, if_neg (by omega), rsig_21, if_pos hs, hx, Option.bind_some]
   by_cases hd : v ≥ 65536
   ·refine ⟨0, some (.fault 9 0), 9, 0, by rw [if_pos (by omega)], ⟨2, fun k hk => (hr k hk).trans (if_pos hd)⟩, told_some 9 0 (by decide) (by decide) (by decide), fun h => absurd h (by decide), fun _ => ⟨rfl, by simp, .inr (by omega)⟩⟩
   ·refine ⟨21, none, 0, 0, by rw [if_neg (by omega)], ⟨2, fun k hk => (hr k hk).trans (if_neg hd)⟩, told_none, fun _ => ⟨rfl, by decide, by decide, rfl⟩, fun h => absurd rfl h⟩
  ·rw [hs, bysize_22, Option.bind_some]
   dsimp only
   rw [show xmss_Numbers.f 22 = some (32, 20, 67, true) from by kernel_rfl, Option.bind_some]
   dsimp only
   rw [if_pos ⟨h4, by decide, by decide⟩, show (2 : Int) ^ (20 : Int).toNat = 1048576 from rfl]
   have hr : ∀ k, 3 ≤ k → pyxref22_Signature.f k l = if v ≥ 1048576 then some (0, 9, 0) else some (22, 0, 0) := fun k hk => by
    obtain ⟨k, rfl⟩ : ∃ j, k = j + 1 + 1 + 1 := ⟨k - 3, by omega⟩
    rw [pyxref22_Signature.f, rsig_20, if_neg (by omega), rsig_21, if_neg (by omega), rsig_22, if_pos hs, hx, Option.bind_some]
   by_cases hd : v ≥ 1048576
   ·refine ⟨0, some (.fault 9 0), 9, 0, by rw [if_pos (by omega)], ⟨3, fun k hk => (hr k hk).trans (if_pos hd)⟩, told_some 9 0 (by decide) (by decide) (by decide), fun h => absurd h (by decide), fun _ => ⟨rfl, by simp, .inr (by omega)⟩⟩
   ·refine ⟨22, none, 0, 0, by rw [if_neg (by omega)], ⟨3, fun k hk => (hr k hk).trans (if_neg hd)⟩, told_none, fun _ => ⟨rfl, by decide, by decide, rfl⟩, fun h => absurd rfl h⟩
  ·rw [hs, bysize_23, Option.bind_some]
   dsimp only
   rw [show xmss_Numbers.f 23 = some (64, 10, 131, true) from by kernel_rfl, Option.bind_some]
   dsimp only
   rw [if_pos ⟨h4, by decide, by decide⟩, show (2 : Int) ^ (10 : Int).toNat = 1024 from rfl]
   have hr : ∀ k, 4 ≤ k → pyxref22_Signature.f k l = if v ≥ 1024 then some (0, 9, 0) else some (23, 0, 0) := fun k hk => by
    obtain ⟨k, rfl⟩ : ∃ j, k = j + 1 + 1 + 1 + 1 := ⟨k - 4, by omega⟩
    rw [pyxref22_Signature.f, rsig_20, if_neg (by omega), rsig_21, if_neg (by omega), rsig_22, if_neg (by omega), rsig_23, if_pos hs, hx, Option.bind_some]
   by_cases hd : v ≥ 1024
   ·refine ⟨0, some (.fault 9 0), 9, 0, by rw [if_pos (by omega)], ⟨4, fun k hk => (hr k hk).trans (if_pos hd)⟩, told_some 9 0 (by decide) (by decide) (by decide), fun h => absurd h (by decide), fun _ => ⟨rfl, by simp, .inr (by omega)⟩⟩
   ·refine ⟨23, none, 0, 0, by rw [if_neg (by omega)], ⟨4, fun k hk => (hr k hk).trans (if_neg hd)⟩, told_none, fun _ => ⟨rfl, by decide, by decide, rfl⟩, fun h => absurd rfl h⟩
  ·rw [hs, bysize_24, Option.bind_some]
   dsimp only
   rw [show xmss_Numbers.f 24 = some (64, 16, 131, true) from by kernel_rfl, Option.bind_some]
   dsimp only
   rw [if_pos ⟨h4, by decide, by decide⟩, show (2 : Int) ^ (16 : Int).toNat = 65536 from rfl]
   have hr : ∀ k, 5 ≤ k → pyxref22_Signature.f k l = if v ≥ 65536 then some (0, 9, 0) else some (24, 0, 0) := fun k hk => by
    obtain ⟨k, rfl⟩ : ∃ j, k = j + 1 + 1 + 1 + 1 + 1 := ⟨k - 5, by omega⟩
    rw [pyxref22_Signature.f, rsig_20, if_neg (by omega), rsig_21, if_neg (by omega), rsig_22, if_neg (by omega), rsig_23, if_neg (by omega), rsig_24, if_pos hs, hx, Option.bind_some]
   by_cases hd : v ≥ 65536
   ·refine ⟨0, some (.fault 9 0), 9, 0, by rw [if_pos (by omega)], ⟨5, fun k hk => (hr k hk).trans (if_pos hd)⟩, told_some 9 0 (by decide) (by decide) (by decide), fun h => absurd h (by decide), fun _ => ⟨rfl, by simp, .inr (by omega)⟩⟩
   ·refine ⟨24, none, 0, 0, by rw [if_neg (by omega)], ⟨5, fun k hk => (hr k hk).trans (if_neg hd)⟩, told_none, fun _ => ⟨rfl, by decide, by decide, rfl⟩, fun h => absurd rfl h⟩
  ·rw [hs, bysize_25, Option.bind_some]
   dsimp only
   rw [show xmss_Numbers.f 25 = some (64, 20, 131, true) from by kernel_rfl, Option.bind_some]
   dsimp only
   rw [if_pos ⟨h4, by decide, by decide⟩, show (2 : Int) ^ (20 : Int).toNat = 1048576 from rfl]
   have hr : ∀ k, 6 ≤ k → pyxref22_Signature.f k l = if v ≥ 1048576 then some (0, 9, 0) else some (25, 0, 0) := fun k hk => by
    obtain ⟨k, rfl⟩ : ∃ j, k = j + 1 + 1 + 1 + 1 + 1 + 1 := ⟨k - 6, by omega⟩
    rw [pyxref22_Signature.f, rsig_20, if_neg (by omega), rsig_21, if_neg (by omega), rsig_22, if_neg (by omega), rsig_23, if_neg (by omega), rsig_24, if_neg (by omega), rsig_25, if_pos hs, hx, Option.bind_some]
   by_cases hd : v ≥ 1048576
   ·refine ⟨0, some (.fault 9 0), 9, 0, by rw [if_pos (by omega)], ⟨6, fun k hk => (hr k hk).trans (if_pos hd)⟩, told_some 9 0 (by decide) (by decide) (by decide), fun h => absurd h (by decide), fun _ => ⟨rfl, by simp, .inr (by omega)⟩⟩
   ·refine ⟨25, none, 0, 0, by rw [if_neg (by omega)], ⟨6, fun k hk => (hr k hk).trans (if_neg hd)⟩, told_none, fun _ => ⟨rfl, by decide, by decide, rfl⟩, fun h => absurd rfl h⟩
end Go.Proofs.YtgmnknhfeoleaaaGreatDoor.PXmss
