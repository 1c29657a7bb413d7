import Derived.Test.YtijmigapdcikpaaDoorProg
import Derived.Below
import Derived.Deep.Draws
import Derived.Deep.AppendLies
import Derived.Maps.AppendAt
import Derived.OwnWalk
import Derived.Laws.BytesArg
import Derived.Laws.MakeOwn
import Derived.Laws.OwnMore
import Derived.Deep.OwnRows
import Derived.Tactics
import Derived.Lib.ConvBytes
import Derived.Laws.Slices
import Derived.WalkKit
import Derived.KernelRfl
import Derived.RowKit3
import Derived.Deep.LoopGhost
import Derived.Deep.QuietTactic
import Derived.BigQuiet
import Derived.WideLaws
import Derived.Deep.DeepCutAuto
import Derived.Deep.CutBlock
import Derived.Deep.RegionHeld3
import Derived.Laws.Rows
import Derived.Lib.AppendStr
import Derived.ArgAppend
import Derived.Laws.IdiomCopy
import Derived.OrdersHeld
import Derived.Laws.BitsLemmas
import Derived.RowKit
import Derived.Test.YtijmigapdcikpaaDoorZWWords
import Derived.Test.YtijmigapdcikpaaDoorZWLast
import Derived.Test.YtijmigapdcikpaaDoorZWTab
import Derived.Test.YtijmigapdcikpaaDoorZWFour
import Derived.Test.YtijmigapdcikpaaDoorZWQPut
import Derived.Test.YtijmigapdcikpaaDoorZWApart
import Derived.Test.YtijmigapdcikpaaDoorZWArr
import Derived.Test.YtijmigapdcikpaaDoorZWZeros
import Derived.Test.YtijmigapdcikpaaDoorZWFoot
import Derived.Test.YtijmigapdcikpaaDoorZWKept
import Derived.Test.YtijmigapdcikpaaDoorZWShare
import Derived.Test.YtijmigapdcikpaaDoorZWN
import Derived.Test.YtijmigapdcikpaaDoorZWFootNe
import Derived.Test.YtijmigapdcikpaaDoorZWAt
import Derived.Test.YtijmigapdcikpaaDoorZWEqStruct
import Derived.Test.YtijmigapdcikpaaDoorZWRepsOne
import Derived.Test.YtijmigapdcikpaaDoorZWInv
import Derived.Test.YtijmigapdcikpaaDoorZWInvWords
import Derived.Test.YtijmigapdcikpaaDoorZWGuard
import Derived.Test.YtijmigapdcikpaaDoorZWNEv
import Derived.Test.YtijmigapdcikpaaDoorZWMore
import Derived.Test.YtijmigapdcikpaaDoorZXWords
import Derived.Test.YtijmigapdcikpaaDoorRows
import Derived.LaidHandle
import Derived.Stop.Joined
import Derived.LaidEql
import Derived.Stop.Asserts
import Derived.LaidLaws
import Derived.Lib.SliceRun
import Derived.Lay
import Derived.Deep.RegionWith
import Derived.RegionTactic
import Derived.Lib.AppendZerosOnto
import Derived.Lib.Walk
namespace Go.Proofs.YtijmigapdcikpaaDoor.PLms
open Go.RowKit Go.Proofs.YtijmigapdcikpaaDoorW.PrintWords Go.Proofs.YtijmigapdcikpaaDoorW.PrintLast Go.Proofs.YtijmigapdcikpaaDoorW.PrintMore
attribute [local go_sem] max2_int min2_int max_two min_two max_three min_three max_four min_four
set_option linter.unusedVariables false
set_option linter.unusedSimpArgs false
inductive E where
  | fault (c n : Int)
  | code (c : Int)
instance : Inhabited E := ⟨.code 0⟩
def E.ty : E → Nat
  | .fault _ _ => 128
  | .code _ => 91
def E.val : E → Value
  | .fault c n => .agg #[.int .i64 c, .int .i64 n]
  | .code c => .int .i64 c
def errW : Option E → Value
  | none => .nilIface
  | some c => .iface c.ty c.val
theorem errW_none : errW none = .nilIface := rfl
theorem errW_some (c : E) : errW (some c) = .iface c.ty c.val := rfl
structure GOK (w : World) : Prop where
  ge : w.cell? ⟨2, 0, none⟩ = some (.iface 175 (.agg #[.pointer (some ⟨3, 28, none⟩)]))
  heights : ∀ j, j < 5 → w.cell? ⟨0, j, none⟩ = some (.int .i64 (([5, 10, 15, 20, 25] : List Int).getD j 0))
  chains : ∀ j, j < 4 → w.cell? ⟨1, j, none⟩ = some (.int .i64 (([265, 133, 67, 34] : List Int).getD j 0))
theorem GOK.below {w w1 : World} (h : GOK w) (hb : Below w.heap.size w w1) : GOK w1 := ⟨pw_cell_below hb h.ge, fun j hj => pw_cell_below hb (h.heights j hj), fun j hj => pw_cell_below hb (h.chains j hj)⟩
theorem GOK.drewN {w : World} {m : Nat} (h : GOK w) : GOK (w.drewN m) := h.below (pw_below_drewN (Below.refl _ _) m)
theorem GOK.drew {w : World} (h : GOK w) : GOK w.drew := h.below (below_drew (Below.refl _ _))
theorem xe_et : Tryd.prog.globalNamed "errors.errorType" = some 2 := by kernel_rfl
theorem xe_rt : (Tryd.prog.cutTypes.find? (·.1 == "internal/reflectlite.rtype")).map (·.2) = some 175 := by kernel_rfl
theorem xe_oneRow : ((List.range 213).filter fun t => Tryd.prog.rowNamed t [101, 114, 114, 111, 114]) = [28] := by kernel_rfl
theorem xe_size : Tryd.prog.types.size = 213 := by kernel_rfl
theorem int_of_trod {H : Type} {enc : TypeId × Value → H} {P : Program} {w : World} {base : Nat} {sp : Nat → Bool} {held : Bool} {fuel : Nat} {t : TypeId} {k : IntKind} {c : Value} {y : DataW H × List MemPlace}
    (ht : P.underlying t = some (.int k)) (h : DataW.trod enc P w base sp held fuel t [c] = some y) : ∃ n, c = .int k n ∧ y = (.lit (.int k n), []) := by
  cases fuel with
  | zero => simp [DataW.trod] at h
  | succ fuel =>
    cases c <;> simp [DataW.trod, ht] at h
    rename_i k' n
    obtain ⟨⟨rfl, _⟩, rfl⟩ := h
    exact ⟨n, rfl, rfl⟩
def cells_heights : Array Value := #[.int .i64 5, .int .i64 10, .int .i64 15, .int .i64 20, .int .i64 25]
theorem xg_heights : Tryd.prog.globalNamed "pyx/lms.heights" = some 0 := by kernel_rfl
theorem xt_heights : (Tryd.prog.globals[0]?).map (·.type) = some 122 := by kernel_rfl
theorem xc_heights : Tryd.prog.cellsOf 122 = 5 := by kernel_rfl
def cells_chains : Array Value := #[.int .i64 265, .int .i64 133, .int .i64 67, .int .i64 34]
theorem xg_chains : Tryd.prog.globalNamed "pyx/lms.chains" = some 1 := by kernel_rfl
theorem xt_chains : (Tryd.prog.globals[1]?).map (·.type) = some 123 := by kernel_rfl
theorem xc_chains : Tryd.prog.cellsOf 123 = 4 := by kernel_rfl
theorem xc_int : Tryd.prog.cellsOf 3 = 1 := by kernel_rfl
theorem cells_of_heights {W : World} {r : List (String × DataW Unit)} {ps : List MemPlace} (h : DataW.LaidVars Tryd.prog W (("pyx/lms.heights", Rows.laid_pyx_lms_heights) :: r) ps) : W.var? Tryd.prog "pyx/lms.heights" = some cells_heights ∧ ∃ q, DataW.LaidVars Tryd.prog W r q := by
  obtain ⟨g, t, cs, fuel, p, q, hg, ht, hvar, hd, hr, _⟩ := h
  obtain rfl := Option.some.inj (xg_heights.symm.trans hg)
  obtain rfl := Option.some.inj (xt_heights.symm.trans ht)
  refine ⟨?_, q, hr⟩
  rw [hvar]
  congr 1
  obtain ⟨l⟩ := cs
  cases fuel with
  | zero => simp [DataW.trod] at hd
  | succ fuel =>
    simp only [DataW.trod, Tryd.underlying122, xc_heights, xc_int] at hd
    split at hd
    · rename_i hl
      obtain ⟨c0, c1, c2, c3, c4, rfl⟩ : ∃ c0 c1 c2 c3 c4, l = [c0, c1, c2, c3, c4] := by
        match l, hl with
        | [c0, c1, c2, c3, c4], _ => exact ⟨c0, c1, c2, c3, c4, rfl⟩
      have e : List.range 5 = [0, 1, 2, 3, 4] := rfl
      rw [e] at hd
      simp only [Option.map_eq_some_iff, List.mapM_cons, List.mapM_nil, Option.bind_eq_bind, Option.bind_eq_some_iff, Option.pure_def, Option.some.injEq] at hd
      obtain ⟨xs, ⟨y0, h0, _, ⟨y1, h1, _, ⟨y2, h2, _, ⟨y3, h3, _, ⟨y4, h4, _, rfl, rfl⟩, rfl⟩, rfl⟩, rfl⟩, rfl⟩, hx⟩ := hd
      obtain ⟨n0, rfl, rfl⟩ := int_of_trod Tryd.underlying3 h0
      obtain ⟨n1, rfl, rfl⟩ := int_of_trod Tryd.underlying3 h1
      obtain ⟨n2, rfl, rfl⟩ := int_of_trod Tryd.underlying3 h2
      obtain ⟨n3, rfl, rfl⟩ := int_of_trod Tryd.underlying3 h3
      obtain ⟨n4, rfl, rfl⟩ := int_of_trod Tryd.underlying3 h4
      simp [Rows.laid_pyx_lms_heights] at hx
      obtain ⟨⟨rfl, rfl, rfl, rfl, rfl⟩, _⟩ := hx
      rfl
    · cases hd
theorem cells_of_chains {W : World} {r : List (String × DataW Unit)} {ps : List MemPlace} (h : DataW.LaidVars Tryd.prog W (("pyx/lms.chains", Rows.laid_pyx_lms_chains) :: r) ps) : W.var? Tryd.prog "pyx/lms.chains" = some cells_chains ∧ ∃ q, DataW.LaidVars Tryd.prog W r q := by
  obtain ⟨g, t, cs, fuel, p, q, hg, ht, hvar, hd, hr, _⟩ := h
  obtain rfl := Option.some.inj (xg_chains.symm.trans hg)
  obtain rfl := Option.some.inj (xt_chains.symm.trans ht)
  refine ⟨?_, q, hr⟩
  rw [hvar]
  congr 1
  obtain ⟨l⟩ := cs
  cases fuel with
  | zero => simp [DataW.trod] at hd
  | succ fuel =>
    simp only [DataW.trod, Tryd.underlying123, xc_chains, xc_int] at hd
    split at hd
    · rename_i hl
      obtain ⟨c0, c1, c2, c3, rfl⟩ : ∃ c0 c1 c2 c3, l = [c0, c1, c2, c3] := by
        match l, hl with
        | [c0, c1, c2, c3], _ => exact ⟨c0, c1, c2, c3, rfl⟩
      have e : List.range 4 = [0, 1, 2, 3] := rfl
      rw [e] at hd
      simp only [Option.map_eq_some_iff, List.mapM_cons, List.mapM_nil, Option.bind_eq_bind, Option.bind_eq_some_iff, Option.pure_def, Option.some.injEq] at hd
      obtain ⟨xs, ⟨y0, h0, _, ⟨y1, h1, _, ⟨y2, h2, _, ⟨y3, h3, _, rfl, rfl⟩, rfl⟩, rfl⟩, rfl⟩, hx⟩ := hd
      obtain ⟨n0, rfl, rfl⟩ := int_of_trod Tryd.underlying3 h0
      obtain ⟨n1, rfl, rfl⟩ := int_of_trod Tryd.underlying3 h1
      obtain ⟨n2, rfl, rfl⟩ := int_of_trod Tryd.underlying3 h2
      obtain ⟨n3, rfl, rfl⟩ := int_of_trod Tryd.underlying3 h3
      simp [Rows.laid_pyx_lms_chains] at hx
      obtain ⟨⟨rfl, rfl, rfl, rfl⟩, _⟩ := hx
      rfl
    · cases hd
theorem gok_of_laid {W : World} (h : laidMetH Tryd.prog [("errors.errorType", Rows.laid_errors_errorType), ("pyx/lms.heights", Rows.laid_pyx_lms_heights), ("pyx/lms.chains", Rows.laid_pyx_lms_chains)] W) : GOK W := by
  have h' : laidMet Tryd.prog [("pyx/lms.heights", Rows.laid_pyx_lms_heights), ("pyx/lms.chains", Rows.laid_pyx_lms_chains)] W ∧ handlesMet Tryd.prog [("errors.errorType", Rows.laid_errors_errorType)] W := h
  obtain ⟨name, u, ty, e1, e2, e3, e4, e5⟩ := h'.2 _ (List.mem_singleton.2 rfl)
  have en : name = [101, 114, 114, 111, 114] := (Option.some.inj e1).symm
  subst en
  obtain rfl := Option.some.inj (xe_rt.symm.trans e2)
  have hm : ty ∈ (List.range 213).filter fun t => Tryd.prog.rowNamed t [101, 114, 114, 111, 114] := List.mem_filter.2 ⟨List.mem_range.2 (by rw [← xe_size]; exact e3), e4⟩
  rw [xe_oneRow] at hm
  obtain rfl := List.mem_singleton.1 hm
  have hh : typeHandle Tryd.prog 28 = .pointer (some ⟨3, 28, none⟩) := by kernel_rfl
  rw [hh] at e5
  obtain ⟨ps, hl, _⟩ := h'.1
  obtain ⟨v1, q, hl⟩ := cells_of_heights hl
  obtain ⟨v2, q2, _⟩ := cells_of_chains hl
  refine ⟨by have h9 := World.var?_cell xe_et e5 0; simpa using h9, fun j hj => ?_, fun j hj => ?_⟩
  · have h9 := World.var?_cell xg_heights v1 j
    match j, hj with
    | 0, _ | 1, _ | 2, _ | 3, _ | 4, _ => simpa [cells_heights] using h9
  · have h9 := World.var?_cell xg_chains v2 j
    match j, hj with
    | 0, _ | 1, _ | 2, _ | 3, _ => simpa [cells_chains] using h9
noncomputable def holding0 (os : Os) : World :=
  let w0 := World.laidAll Tryd.prog os [("pyx/lms.heights", Rows.laid_pyx_lms_heights), ("pyx/lms.chains", Rows.laid_pyx_lms_chains)]
  { w0 with heap := w0.heap.modify 2 fun
      | .cells _ t frozen => .cells #[(.iface 175 (.agg #[.pointer (some ⟨3, 28, none⟩)]))] t frozen
      | o => o }
theorem holding0_met (os : Os) (args : Array Value) : laidMetH Tryd.prog [("errors.errorType", Rows.laid_errors_errorType), ("pyx/lms.heights", Rows.laid_pyx_lms_heights), ("pyx/lms.chains", Rows.laid_pyx_lms_chains)] ((holding0 os).forCall (fun _ _ => 0) ⟨#[], args, []⟩).memory :=
  laidMetH_of_parts (laidMet_of_run' 8 (by kernel_rfl) (by kernel_rfl)) (by kernel_rfl)
theorem info3 : (Tryd.prog.info? 3).map (fun i => (i.zero, i.size, i.bytes)) = some (some (.int .i64 0), 1, 8) := by kernel_rfl
theorem info5 : (Tryd.prog.info? 5).map (fun i => (i.zero, i.size, i.bytes)) = some (some (.int .u8 0), 1, 1) := by kernel_rfl
theorem info47 : (Tryd.prog.info? 47).map (fun i => (i.zero, i.size, i.bytes)) = some (some (.int .u32 0), 1, 4) := by kernel_rfl
theorem info72 : (Tryd.prog.info? 72).map (fun i => (i.zero, i.size, i.bytes)) = some (some (.agg #[(.int .i64 0), (.int .i64 0), (.int .i64 0), (.int .i64 0), (.int .i64 0)]), 5, 40) := by kernel_rfl
structure S70 where
  f0 : Int
  f1 : Int
  f2 : Int
  f3 : Int
  f4 : Int
def z70 : S70 := ⟨(0 : Int), (0 : Int), (0 : Int), (0 : Int), (0 : Int)⟩
def k70 : Kd S70 := Kd.iso (Kd.pair (Kd.int .i64) (Kd.pair (Kd.int .i64) (Kd.pair (Kd.int .u32) (Kd.pair (Kd.int .i64) (Kd.int .i64))))) (fun x : S70 => (x.f0, x.f1, x.f2, x.f3, x.f4))
theorem k70_open {w : World} {x : S70} {cs : List Value} (h : k70.K w x cs) : cs = [.int .i64 x.f0, .int .i64 x.f1, .int .u32 x.f2, .int .i64 x.f3, .int .i64 x.f4] := by
  obtain ⟨_, _, rfl, rfl, ⟨_, _, rfl, rfl, ⟨_, _, rfl, rfl, ⟨_, _, rfl, rfl, rfl⟩⟩⟩⟩ := h
  exact rfl
theorem k70_mkM (w : World) (base : Nat) (ok : Nat → Prop) (x : S70)  : k70.M w base ok x [.int .i64 x.f0, .int .i64 x.f1, .int .u32 x.f2, .int .i64 x.f3, .int .i64 x.f4] := ⟨[.int .i64 x.f0], [.int .i64 x.f1, .int .u32 x.f2, .int .i64 x.f3, .int .i64 x.f4], rfl, rfl, ⟨[.int .i64 x.f1], [.int .u32 x.f2, .int .i64 x.f3, .int .i64 x.f4], rfl, rfl, ⟨[.int .u32 x.f2], [.int .i64 x.f3, .int .i64 x.f4], rfl, rfl, ⟨[.int .i64 x.f3], [.int .i64 x.f4], rfl, rfl, rfl⟩⟩⟩⟩
def rd_T70 (xs : List S70) (i : Int) : S70 := xs.getD i.toNat z70
theorem at_T70 {w : World} {A : Option Addr} {n : Nat} {xs : List S70} (h : Kd.C k70 w A n xs) (i : Int) (h0 : 0 ≤ i) (h1 : i < n) : ∃ ad , A = some ad ∧ w.cell? (ad.add (i.toNat * 5)) = some (.int .i64 (rd_T70 xs i).f0) ∧ w.cell? ⟨(ad.add (i.toNat * 5)).block, (ad.add (i.toNat * 5)).off + 1, none⟩ = some (.int .i64 (rd_T70 xs i).f1) ∧ w.cell? ⟨(ad.add (i.toNat * 5)).block, (ad.add (i.toNat * 5)).off + 2, none⟩ = some (.int .u32 (rd_T70 xs i).f2) ∧ w.cell? ⟨(ad.add (i.toNat * 5)).block, (ad.add (i.toNat * 5)).off + 3, none⟩ = some (.int .i64 (rd_T70 xs i).f3) ∧ w.cell? ⟨(ad.add (i.toNat * 5)).block, (ad.add (i.toNat * 5)).off + 4, none⟩ = some (.int .i64 (rd_T70 xs i).f4) := by
  obtain ⟨ad, c, e, _, hK, hc0⟩ := Kd.C_get h z70 i h0 h1
  have hc : ∀ j u, c[j]? = some u → w.cell? (ad.add (i.toNat * 5 + j)) = some u := hc0
  obtain rfl := k70_open hK
  exact ⟨ad, e, hc 0 _ rfl, by rw [← add_field _ _ 1 (by omega)]; exact hc 1 _ rfl, by rw [← add_field _ _ 2 (by omega)]; exact hc 2 _ rfl, by rw [← add_field _ _ 3 (by omega)]; exact hc 3 _ rfl, by rw [← add_field _ _ 4 (by omega)]; exact hc 4 _ rfl⟩
structure S87 where
  f0 : Int
  f1 : Int
  f2 : Int
  f3 : Int
def z87 : S87 := ⟨(0 : Int), (0 : Int), (0 : Int), (0 : Int)⟩
def k87 : Kd S87 := Kd.iso (Kd.pair (Kd.int .i64) (Kd.pair (Kd.int .i64) (Kd.pair (Kd.int .i64) (Kd.int .u32)))) (fun x : S87 => (x.f0, x.f1, x.f2, x.f3))
theorem k87_open {w : World} {x : S87} {cs : List Value} (h : k87.K w x cs) : cs = [.int .i64 x.f0, .int .i64 x.f1, .int .i64 x.f2, .int .u32 x.f3] := by
  obtain ⟨_, _, rfl, rfl, ⟨_, _, rfl, rfl, ⟨_, _, rfl, rfl, rfl⟩⟩⟩ := h
  exact rfl
def rd_T87 (xs : List S87) (i : Int) : S87 := xs.getD i.toNat z87
theorem at_T87 {w : World} {A : Option Addr} {n : Nat} {xs : List S87} (h : Kd.C k87 w A n xs) (i : Int) (h0 : 0 ≤ i) (h1 : i < n) : ∃ ad , A = some ad ∧ w.cell? (ad.add (i.toNat * 4)) = some (.int .i64 (rd_T87 xs i).f0) ∧ w.cell? ⟨(ad.add (i.toNat * 4)).block, (ad.add (i.toNat * 4)).off + 1, none⟩ = some (.int .i64 (rd_T87 xs i).f1) ∧ w.cell? ⟨(ad.add (i.toNat * 4)).block, (ad.add (i.toNat * 4)).off + 2, none⟩ = some (.int .i64 (rd_T87 xs i).f2) ∧ w.cell? ⟨(ad.add (i.toNat * 4)).block, (ad.add (i.toNat * 4)).off + 3, none⟩ = some (.int .u32 (rd_T87 xs i).f3) := by
  obtain ⟨ad, c, e, _, hK, hc0⟩ := Kd.C_get h z87 i h0 h1
  have hc : ∀ j u, c[j]? = some u → w.cell? (ad.add (i.toNat * 4 + j)) = some u := hc0
  obtain rfl := k87_open hK
  exact ⟨ad, e, hc 0 _ rfl, by rw [← add_field _ _ 1 (by omega)]; exact hc 1 _ rfl, by rw [← add_field _ _ 2 (by omega)]; exact hc 2 _ rfl, by rw [← add_field _ _ 3 (by omega)]; exact hc 3 _ rfl⟩
structure S72 where
  f0 : Int
  f1 : Int
  f2 : Int
  f3 : Int
  f4 : Int
def k72 : Kd S72 := Kd.iso (Kd.pair (Kd.int .i64) (Kd.pair (Kd.int .i64) (Kd.pair (Kd.int .i64) (Kd.pair (Kd.int .i64) (Kd.int .i64))))) (fun x : S72 => (x.f0, x.f1, x.f2, x.f3, x.f4))
theorem k72_mkM (w : World) (base : Nat) (ok : Nat → Prop) (x : S72)  : k72.M w base ok x [.int .i64 x.f0, .int .i64 x.f1, .int .i64 x.f2, .int .i64 x.f3, .int .i64 x.f4] := ⟨[.int .i64 x.f0], [.int .i64 x.f1, .int .i64 x.f2, .int .i64 x.f3, .int .i64 x.f4], rfl, rfl, ⟨[.int .i64 x.f1], [.int .i64 x.f2, .int .i64 x.f3, .int .i64 x.f4], rfl, rfl, ⟨[.int .i64 x.f2], [.int .i64 x.f3, .int .i64 x.f4], rfl, rfl, ⟨[.int .i64 x.f3], [.int .i64 x.f4], rfl, rfl, rfl⟩⟩⟩⟩
end Go.Proofs.YtijmigapdcikpaaDoor.PLms
