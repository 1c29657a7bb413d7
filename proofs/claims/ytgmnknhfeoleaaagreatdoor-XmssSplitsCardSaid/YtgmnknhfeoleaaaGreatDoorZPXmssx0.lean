import Derived.Test.YtgmnknhfeoleaaaGreatDoorProg
import Derived.Below
import Derived.Deep.Draws
import Derived.Deep.AppendLies
import Derived.Maps.AppendAt
import Derived.OwnWalk
import Derived.Laws.BytesArg
import Derived.Laws.MakeOwn
import Derived.Laws.OwnMore
import Derived.Deep.OwnRows
import Derived.Tactics
import Derived.Lib.ConvBytes
import Derived.Laws.Slices
import Derived.WalkKit
import Derived.KernelRfl
import Derived.RowKit3
import Derived.Deep.LoopGhost
import Derived.Deep.QuietTactic
import Derived.BigQuiet
import Derived.WideLaws
import Derived.Deep.DeepCutAuto
import Derived.Deep.CutBlock
import Derived.Deep.RegionHeld3
import Derived.Laws.Rows
import Derived.Lib.AppendStr
import Derived.ArgAppend
import Derived.Laws.IdiomCopy
import Derived.OrdersHeld
import Derived.Laws.BitsLemmas
import Derived.RowKit
import Derived.Test.YtgmnknhfeoleaaaGreatDoorZWWords
import Derived.Test.YtgmnknhfeoleaaaGreatDoorZWLast
import Derived.Test.YtgmnknhfeoleaaaGreatDoorZWTab
import Derived.Test.YtgmnknhfeoleaaaGreatDoorZWShare
import Derived.Test.YtgmnknhfeoleaaaGreatDoorZWN
import Derived.Test.YtgmnknhfeoleaaaGreatDoorZWNEv
import Derived.Test.YtgmnknhfeoleaaaGreatDoorZXWords
import Derived.Test.YtgmnknhfeoleaaaGreatDoorRows
import Derived.Test.YtgmnknhfeoleaaaGreatDoorZShelf
import Derived.LaidHandle
import Derived.Handed
import Derived.LaidMore
import Derived.Lib.LaidTab
import Derived.Stop.LaidErr
import Derived.Stop.Joined
import Derived.LaidEql
import Derived.Stop.Asserts
import Derived.Lib.AppendIntMem
import Derived.Lay
import Derived.LaidLaws
import Derived.Laws.EntriesVeiled
import Derived.Deep.RegionWith
import Derived.RegionTactic
import Derived.WalkMore
import Derived.Lib.AtoiErrMem
import Derived.Laws.BitsAllLaws
import Derived.Laws.Bits64
import Derived.Lib.SliceRun
import Derived.Lib.AppendZerosOnto
import Derived.Lib.Walk
namespace Go.Proofs.YtgmnknhfeoleaaaGreatDoor.PXmss
open Go.RowKit Go.Proofs.YtgmnknhfeoleaaaGreatDoorW.PrintWords Go.Proofs.YtgmnknhfeoleaaaGreatDoorW.PrintLast Go.Proofs.YtgmnknhfeoleaaaGreatDoorW.PrintMore
attribute [local go_sem] max2_int min2_int max_two min_two max_three min_three max_four min_four
set_option linter.unusedVariables false
set_option linter.unusedSimpArgs false
inductive E where
 | fault (c n : Int)
 | code (c : Int)
instance : Inhabited E := ⟨.code 0⟩
def E.ty : E → Nat
 | .fault _ _ => 104
 | .code _ => 69
def E.val : E → Value
 | .fault c n => .agg #[.int .i64 c, .int .i64 n]
 | .code c => .int .i64 c
def errW : Option E → Value
 | none => .nilIface
 | some c => .iface c.ty c.val
theorem errW_none : errW none = .nilIface := rfl
theorem errW_some (c : E) : errW (some c) = .iface c.ty c.val := rfl
structure GOK (w : World) : Prop where
 pow : Lib.TabBelow Tryz.prog w.heap.size w "internal/strconv.uint64pow10" .u64 Lib.pow10Tab
 syn : ∃ tp p, w.cell? ⟨2, 0, none⟩ = some (.iface tp p)
 rng : ∃ tp p, w.cell? ⟨3, 0, none⟩ = some (.iface tp p)
 mx : ∃ m, w.cell? ⟨4, 0, none⟩ = some (.int .i64 m)
 ge : w.cell? ⟨0, 0, none⟩ = some (.iface 150 (.agg #[.pointer (some ⟨9, 30, none⟩)]))
theorem GOK.tab {w : World} (h : GOK w) : Lib.TabIs Tryz.prog w "internal/strconv.uint64pow10" .u64 Lib.pow10Tab := h.pow.here
theorem GOK.below {w w1 : World} (h : GOK w) (hb : Below w.heap.size w w1) : GOK w1 := by
 obtain ⟨a, b, c, d, e⟩ := h
 obtain ⟨t1, p1, b⟩ := b
 obtain ⟨t2, p2, c⟩ := c
 obtain ⟨m, d⟩ := d
 exact ⟨fun w' h' => a w' (hb.trans ⟨h'.os, h'.tape, h'.output, h'.size, fun i hi => h'.block i (Nat.lt_of_lt_of_le hi hb.size)⟩), ⟨t1, p1, pw_cell_below hb b⟩, ⟨t2, p2, pw_cell_below hb c⟩, ⟨m, pw_cell_below hb d⟩, pw_cell_below hb e⟩
theorem GOK.drewN {w : World} {m : Nat} (h : GOK w) : GOK (w.drewN m) := h.below (pw_below_drewN (Below.refl _ _) m)
theorem GOK.drew {w : World} (h : GOK w) : GOK w.drew := h.below (below_drew (Below.refl _ _))
theorem xg_star : "*" ++ "errors.errorString" = "*errors.errorString" := by decide
theorem xg_row (u : TypeId) (h : Tryz.prog.typeName? 3 u = some "*errors.errorString") : u = 202 :=
 typeName_ptr_named (nm := "errors.errorString") (by rw [xg_star]; kernel_rfl) (by kernel_rfl) (by decide) u (by rw [xg_star]; exact h)
theorem xe_et : Tryz.prog.globalNamed "errors.errorType" = some 0 := by kernel_rfl
theorem xe_rt : (Tryz.prog.cutTypes.find? (·.1 == "internal/reflectlite.rtype")).map (·.2) = some 150 := by kernel_rfl
theorem xe_oneRow : ((List.range 240).filter fun t => Tryz.prog.rowNamed t [101, 114, 114, 111, 114]) = [30] := by kernel_rfl
theorem xe_size : Tryz.prog.types.size = 240 := by kernel_rfl
def laidPlain : List (String × DataW Unit) := [("math/bits.deBruijn32tab", Rows.laid_math_bits_deBruijn32tab), ("math/bits.deBruijn64tab", Rows.laid_math_bits_deBruijn64tab), ("internal/strconv.uint64pow10", Rows.laid_internal_strconv_uint64pow10), ("unicode/utf8.acceptRanges", Rows.laid_unicode_utf8_acceptRanges), ("strconv.ErrRange", Rows.laid_strconv_ErrRange), ("strconv.ErrSyntax", Rows.laid_strconv_ErrSyntax), ("unicode/utf8.first", Rows.laid_unicode_utf8_first)]
theorem ge_of_laid {W : World} (h : handlesMet Tryz.prog [("errors.errorType", Rows.laid_errors_errorType)] W) : W.cell? ⟨0, 0, none⟩ = some (.iface 150 (.agg #[.pointer (some ⟨9, 30, none⟩)])) := by
 obtain ⟨name, u, ty, e1, e2, e3, e4, e5⟩ := h _ (List.mem_singleton.2 rfl)
 have en : name = [101, 114, 114, 111, 114] := (Option.some.inj e1).symm
 subst en
 obtain rfl := Option.some.inj (xe_rt.symm.trans e2)
 have hm : ty ∈ (List.range 240).filter fun t => Tryz.prog.rowNamed t [101, 114, 114, 111, 114] := List.mem_filter.2 ⟨List.mem_range.2 (by rw [← xe_size]; exact e3), e4⟩
 rw [xe_oneRow] at hm
 obtain rfl := List.mem_singleton.1 hm
 have hh : typeHandle Tryz.prog 30 = .pointer (some ⟨9, 30, none⟩) := by kernel_rfl
 rw [hh] at e5
 have h9 := World.var?_cell xe_et e5 0
 simpa using h9
theorem gok_of_laid {W : World} (h : laidMetH Tryz.prog Rows.xmssNumbersRow.laid W) (hs : W.ShapedOpen Tryz.prog) : GOK W := by
 have e : laidMetH Tryz.prog Rows.xmssNumbersRow.laid W = (laidMet Tryz.prog laidPlain W ∧ handlesMet Tryz.prog [("errors.errorType", Rows.laid_errors_errorType)] W) := by kernel_rfl
 rw [e] at h
 obtain ⟨h0, hh⟩ := h
 have h2 := h0.tail.tail
 have h4 := h2.tail.tail
 have h5 := h4.tail
 obtain ⟨a, s, e1, _⟩ := laid_sentinel (tp := 202) (g := 3) h4 (by kernel_rfl) (by kernel_rfl) (Tryz.underlying30) xg_row (Tryz.underlying202) (Tryz.underlying204) rfl rfl (Tryz.underlying9) (by kernel_rfl) (by kernel_rfl)
 obtain ⟨b, s2, e2, _⟩ := laid_sentinel (tp := 202) (g := 2) h5 (by kernel_rfl) (by kernel_rfl) (Tryz.underlying30) xg_row (Tryz.underlying202) (Tryz.underlying204) rfl rfl (Tryz.underlying9) (by kernel_rfl) (by kernel_rfl)
 refine ⟨Lib.tabBelow_of_tabIs (Lib.tabIs_of_head (g := 1) (by kernel_rfl) (by kernel_rfl) Tryz.underlying190 Tryz.underlying70 (by kernel_rfl) (by kernel_rfl) h2), ?_, ?_, Tryz.laysM146.s1_3 W hs, ge_of_laid hh⟩
 ·have h9 := World.var?_cell (g := 2) (by kernel_rfl) e2 0
  exact ⟨_, _, h9⟩
 ·have h9 := World.var?_cell (g := 3) (by kernel_rfl) e1 0
  exact ⟨_, _, h9⟩
theorem handed_and_shaped {H : Type} {enc : TypeId × Value → H} {a : Assume} {C : Checked} {os : Os} {f : FuncId} {fn : Func} {s : ChangeSpec} {conds : List PathCond} {apart fresh handsOn again : Bool} {X : World → Array Value → Prop}
  (hX : ∀ (w w' : World) (args : Array Value), w.heap = w'.heap → X w args → X w' args)
  (own : ownKnob C.prog.godebug = none) (started : os.Started) (noInit : C.prog.inits.idxOf? f = none) (hfn : C.prog.funcs[f]? = some fn)
  (witness : ∃ (w : World) (tape : Tape) (i : Input), w.os = os ∧ (w.forCall tape i).Shaped C.prog ∧ i.vars = [] ∧ Input.okWide C.prog (w.forCall tape i) .any w.heap.size f i ∧
   ((s.pre enc C.prog fn conds apart (w.forCall tape i).memory i.args ∧ X (w.forCall tape i).memory i.args) ∧ sizedMet enc C.prog fn (OpenSpec.ofChange s) apart (w.forCall tape i).memory i.args) ∧ a.holds C.prog (lone (Frame.enter C.prog f i.args .normal) [] (w.forCall tape i)))
  (contract : ∀ (W : World) (base : Nat) (args : Array Value) (ds gs : List (DataW H)) (before : List MemPlace),
   (∀ (j : Nat) t v, fn.params[j]? = some t → args[j]? = some v → Value.okWide C.prog W .any base t v) →
   DataW.Whole enc C.prog fn.params.toList s.vars apart W args.toList ds gs before →
   conds.all (PathCond.test C.prog ⟨fn.params.toList, ds, s.plain.varTypes C.prog, gs⟩) = true →
   (DataW.weightsEach C.prog (fn.params.toList ++ s.plain.varTypes C.prog) (ds ++ gs)).all (· ≤ reachBytes) = true → X W args → W.ShapedOpen C.prog →
   a.holds C.prog (lone (Frame.enter C.prog f args .normal) [] W) →
   Calls C.prog f args W fun e W' => ∃ v, e = .returned v ∧ s.post enc C.prog fn apart fresh handsOn again W args v W') :
  ReturnsInHanded a C os f .any (fun w args => (s.pre enc C.prog fn conds apart w args ∧ X w args) ∧ sizedMet enc C.prog fn (OpenSpec.ofChange s) apart w args) (s.post enc C.prog fn apart fresh handsOn again) := by
 refine returnsInHanded_of_calls own started noInit witness ?_
 intro w tape i _ hsh _ hok hpre hholds
 obtain ⟨_, _, _, fn', hfn', _, _, _, _, hval⟩ := hok
 have e : fn' = fn := Option.some.inj (hfn'.symm.trans hfn)
 subst e
 obtain ⟨⟨⟨ds, gs, before, hw, hc⟩, hx⟩, hz⟩ := hpre
 have hw' := DataW.Whole.of_heap (w' := w.forCall tape i) (by rfl) hw
 refine (contract (w.forCall tape i) w.heap.size i.args ds gs before hval hw' hc (hz.weights hw) (hX _ _ _ (by rfl) hx) hsh hholds).mono fun e W' ⟨v, he, hp⟩ => ?_
 subst he
 exact ChangeSpec.post_blind hp
noncomputable def holding0 (os : Os) : World :=
 let w0 := World.laidAll Tryz.prog os laidPlain
 { w0 with heap := w0.heap.modify 0 fun
   | .cells _ t frozen => .cells #[(.iface 150 (.agg #[.pointer (some ⟨9, 30, none⟩)]))] t frozen
   | o => o }
theorem holding0_met (os : Os) (args : Array Value) : laidMetH Tryz.prog Rows.xmssNumbersRow.laid ((holding0 os).forCall (fun _ _ => 0) ⟨#[], args, []⟩).memory :=
 laidMetH_of_parts (laidMet_of_run' 8 (by kernel_rfl) (by kernel_rfl)) (by kernel_rfl)
theorem info3 : (Tryz.prog.info? 3).map (fun i => (i.zero, i.size, i.bytes)) = some (some (.int .i64 0), 1, 8) := by kernel_rfl
theorem info5 : (Tryz.prog.info? 5).map (fun i => (i.zero, i.size, i.bytes)) = some (some (.int .u8 0), 1, 1) := by kernel_rfl
theorem info9 : (Tryz.prog.info? 9).map (fun i => (i.zero, i.size, i.bytes)) = some (some (.string ⟨#[]⟩), 1, 16) := by kernel_rfl
theorem info22 : (Tryz.prog.info? 22).map (fun i => (i.zero, i.size, i.bytes)) = some (some (.int .u32 0), 1, 4) := by kernel_rfl
theorem info25 : (Tryz.prog.info? 25).map (fun i => (i.zero, i.size, i.bytes)) = some (some (.slice none 0 0), 1, 24) := by kernel_rfl
def rd_L8 (xs : List (List Int)) (i : Int) : (List Int) := xs.getD i.toNat ([] : List Int)
theorem at_L8 {w : World} {A : Option Addr} {n : Nat} {xs : List (List Int)} (h : Kd.C (Kd.slice 3 (Kd.int .i64)) w A n xs) (i : Int) (h0 : 0 ≤ i) (h1 : i < n) : ∃ ad A0 c0, A = some ad ∧ w.cell? (ad.add i.toNat) = some (.slice A0 (rd_L8 xs i).length c0) ∧ (rd_L8 xs i).length ≤ c0 ∧ (Kd.int .i64).C w A0 (rd_L8 xs i).length (rd_L8 xs i) := by
 obtain ⟨ad, c, e, _, hK, hc0⟩ := Kd.C_get h ([] : List Int) i h0 h1
 have hc : ∀ j u, c[j]? = some u → w.cell? (ad.add (i.toNat * 1 + j)) = some u := hc0
 obtain ⟨A0, c0, rfl, l0, g0⟩ := hK
 exact ⟨ad, A0, c0, e, by have hq := hc 0 _ rfl; rwa [Nat.mul_one, Nat.add_zero] at hq, l0, g0⟩
def rd_L10 (xs : List (List Int)) (i : Int) : (List Int) := xs.getD i.toNat ([] : List Int)
theorem at_L10 {w : World} {A : Option Addr} {n : Nat} {xs : List (List Int)} (h : Kd.C (Kd.slice 5 (Kd.int .u8)) w A n xs) (i : Int) (h0 : 0 ≤ i) (h1 : i < n) : ∃ ad A0 c0, A = some ad ∧ w.cell? (ad.add i.toNat) = some (.slice A0 (rd_L10 xs i).length c0) ∧ (rd_L10 xs i).length ≤ c0 ∧ (Kd.int .u8).C w A0 (rd_L10 xs i).length (rd_L10 xs i) := by
 obtain ⟨ad, c, e, _, hK, hc0⟩ := Kd.C_get h ([] : List Int) i h0 h1
 have hc : ∀ j u, c[j]? = some u → w.cell? (ad.add (i.toNat * 1 + j)) = some u := hc0
 obtain ⟨A0, c0, rfl, l0, g0⟩ := hK
 exact ⟨ad, A0, c0, e, by have hq := hc 0 _ rfl; rwa [Nat.mul_one, Nat.add_zero] at hq, l0, g0⟩
structure S65 where
 f0 : Int
 f1 : Int
 f2 : Int
 f3 : (List Int)
def z65 : S65 := ⟨(0 : Int), (0 : Int), (0 : Int), ([] : List Int)⟩
def k65 : Kd S65 := Kd.iso (Kd.pair (Kd.int .i64) (Kd.pair (Kd.int .u8) (Kd.pair (Kd.int .u16) (Kd.slice 5 (Kd.int .u8))))) (fun x : S65 => (x.f0, x.f1, x.f2, x.f3))
theorem k65_open {w : World} {x : S65} {cs : List Value} (h : k65.K w x cs) : ∃ A3 c3, cs = [.int .i64 x.f0, .int .u8 x.f1, .int .u16 x.f2, .slice A3 x.f3.length c3] ∧ x.f3.length ≤ c3 ∧ (Kd.int .u8).C w A3 x.f3.length x.f3 := by
 obtain ⟨_, _, rfl, rfl, ⟨_, _, rfl, rfl, ⟨_, _, rfl, rfl, ⟨A3, c3, rfl, l3, g3⟩⟩⟩⟩ := h
 exact ⟨A3, c3, rfl, l3, g3⟩
def rd_T65 (xs : List S65) (i : Int) : S65 := xs.getD i.toNat z65
theorem at_T65 {w : World} {A : Option Addr} {n : Nat} {xs : List S65} (h : Kd.C k65 w A n xs) (i : Int) (h0 : 0 ≤ i) (h1 : i < n) : ∃ ad A3 c3, A = some ad ∧ w.cell? (ad.add (i.toNat * 4)) = some (.int .i64 (rd_T65 xs i).f0) ∧ w.cell? ⟨(ad.add (i.toNat * 4)).block, (ad.add (i.toNat * 4)).off + 1, none⟩ = some (.int .u8 (rd_T65 xs i).f1) ∧ w.cell? ⟨(ad.add (i.toNat * 4)).block, (ad.add (i.toNat * 4)).off + 2, none⟩ = some (.int .u16 (rd_T65 xs i).f2) ∧ w.cell? ⟨(ad.add (i.toNat * 4)).block, (ad.add (i.toNat * 4)).off + 3, none⟩ = some (.slice A3 (rd_T65 xs i).f3.length c3) ∧ (rd_T65 xs i).f3.length ≤ c3 ∧ (Kd.int .u8).C w A3 (rd_T65 xs i).f3.length (rd_T65 xs i).f3 := by
 obtain ⟨ad, c, e, _, hK, hc0⟩ := Kd.C_get h z65 i h0 h1
 have hc : ∀ j u, c[j]? = some u → w.cell? (ad.add (i.toNat * 4 + j)) = some u := hc0
 obtain ⟨A3, c3, rfl, l3, g3⟩ := k65_open hK
 exact ⟨ad, A3, c3, e, hc 0 _ rfl, by rw [← add_field _ _ 1 (by omega)]; exact hc 1 _ rfl, by rw [← add_field _ _ 2 (by omega)]; exact hc 2 _ rfl, by rw [← add_field _ _ 3 (by omega)]; exact hc 3 _ rfl, l3, g3⟩
end Go.Proofs.YtgmnknhfeoleaaaGreatDoor.PXmss
