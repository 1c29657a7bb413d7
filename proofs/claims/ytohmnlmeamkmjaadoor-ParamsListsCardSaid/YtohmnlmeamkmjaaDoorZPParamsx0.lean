import Derived.Test.YtohmnlmeamkmjaaDoorProg
import Derived.Below
import Derived.Deep.Draws
import Derived.Deep.AppendLies
import Derived.Maps.AppendAt
import Derived.OwnWalk
import Derived.Laws.BytesArg
import Derived.Laws.MakeOwn
import Derived.Laws.OwnMore
import Derived.Deep.OwnRows
import Derived.Tactics
import Derived.Lib.ConvBytes
import Derived.Laws.Slices
import Derived.WalkKit
import Derived.KernelRfl
import Derived.RowKit3
import Derived.Deep.LoopGhost
import Derived.Deep.QuietTactic
import Derived.BigQuiet
import Derived.WideLaws
import Derived.Deep.DeepCutAuto
import Derived.Deep.CutBlock
import Derived.Deep.RegionHeld3
import Derived.Laws.Rows
import Derived.Lib.AppendStr
import Derived.ArgAppend
import Derived.Laws.IdiomCopy
import Derived.OrdersHeld
import Derived.Laws.BitsLemmas
import Derived.RowKit
import Derived.Test.YtohmnlmeamkmjaaDoorZWWords
import Derived.Test.YtohmnlmeamkmjaaDoorZWLast
import Derived.Test.YtohmnlmeamkmjaaDoorZWTab
import Derived.Test.YtohmnlmeamkmjaaDoorZWQPut
import Derived.Test.YtohmnlmeamkmjaaDoorZWApart
import Derived.Test.YtohmnlmeamkmjaaDoorZWArr
import Derived.Test.YtohmnlmeamkmjaaDoorZWZeros
import Derived.Test.YtohmnlmeamkmjaaDoorZWFoot
import Derived.Test.YtohmnlmeamkmjaaDoorZWKept
import Derived.Test.YtohmnlmeamkmjaaDoorZWShare
import Derived.Test.YtohmnlmeamkmjaaDoorZWN
import Derived.Test.YtohmnlmeamkmjaaDoorZWEqStruct
import Derived.Test.YtohmnlmeamkmjaaDoorZWRepsOne
import Derived.Test.YtohmnlmeamkmjaaDoorZWInvWords
import Derived.Test.YtohmnlmeamkmjaaDoorZWNEv
import Derived.Test.YtohmnlmeamkmjaaDoorZWMore
import Derived.Test.YtohmnlmeamkmjaaDoorZXWords
import Derived.Test.YtohmnlmeamkmjaaDoorRows
import Derived.Test.YtohmnlmeamkmjaaDoorZShelf
import Derived.LaidHandle
import Derived.Handed
import Derived.LaidMore
import Derived.Lib.LaidTab
import Derived.Stop.LaidErr
import Derived.Lib.AppendIntMem
import Derived.Lay
import Derived.LaidLaws
import Derived.Laws.EntriesVeiled
import Derived.Deep.RegionWith
import Derived.RegionTactic
import Derived.WalkMore
import Derived.Lib.AtoiErrMem
import Derived.Laws.BitsAllLaws
import Derived.Laws.Bits64
namespace Go.Proofs.YtohmnlmeamkmjaaDoor.PParams
open Go.RowKit Go.Proofs.YtohmnlmeamkmjaaDoorW.PrintWords Go.Proofs.YtohmnlmeamkmjaaDoorW.PrintLast Go.Proofs.YtohmnlmeamkmjaaDoorW.PrintMore
attribute [local go_sem] max2_int min2_int max_two min_two max_three min_three max_four min_four
set_option linter.unusedVariables false
set_option linter.unusedSimpArgs false
def errW : Option Int → Value
  | none => .nilIface
  | some c => .iface 0 (.int .i64 c)
theorem errW_none : errW none = .nilIface := rfl
theorem errW_some (c : Int) : errW (some c) = .iface 0 (.int .i64 c) := rfl
structure GOK (w : World) : Prop where
  pow : Lib.TabBelow Tryd.prog w.heap.size w "internal/strconv.uint64pow10" .u64 Lib.pow10Tab
  syn : ∃ tp p, w.cell? ⟨1, 0, none⟩ = some (.iface tp p)
  rng : ∃ tp p, w.cell? ⟨2, 0, none⟩ = some (.iface tp p)
  mx : ∃ m, w.cell? ⟨3, 0, none⟩ = some (.int .i64 m)
theorem GOK.tab {w : World} (h : GOK w) : Lib.TabIs Tryd.prog w "internal/strconv.uint64pow10" .u64 Lib.pow10Tab := h.pow.here
theorem GOK.below {w w1 : World} (h : GOK w) (hb : Below w.heap.size w w1) : GOK w1 := by
  obtain ⟨a, b, c, d⟩ := h
  obtain ⟨t1, p1, b⟩ := b
  obtain ⟨t2, p2, c⟩ := c
  obtain ⟨m, d⟩ := d
  exact ⟨fun w' h' => a w' (hb.trans ⟨h'.os, h'.tape, h'.output, h'.size, fun i hi => h'.block i (Nat.lt_of_lt_of_le hi hb.size)⟩), ⟨t1, p1, pw_cell_below hb b⟩, ⟨t2, p2, pw_cell_below hb c⟩, ⟨m, pw_cell_below hb d⟩⟩
theorem GOK.drewN {w : World} {m : Nat} (h : GOK w) : GOK (w.drewN m) := h.below (pw_below_drewN (Below.refl _ _) m)
theorem GOK.drew {w : World} (h : GOK w) : GOK w.drew := h.below (below_drew (Below.refl _ _))
theorem xg_star : "*" ++ "errors.errorString" = "*errors.errorString" := by decide
theorem xg_row (u : TypeId) (h : Tryd.prog.typeName? 3 u = some "*errors.errorString") : u = 123 :=
  typeName_ptr_named (nm := "errors.errorString") (by rw [xg_star]; kernel_rfl) (by kernel_rfl) (by decide) u (by rw [xg_star]; exact h)
theorem gok_of_laid {W : World} (h : laidMetH Tryd.prog Rows.oidParsesRow.laid W) (hs : W.ShapedOpen Tryd.prog) : GOK W := by
  have h0 : laidMet Tryd.prog Rows.oidParsesRow.laid W := by
    have e : laidMetH Tryd.prog Rows.oidParsesRow.laid W = laidMet Tryd.prog Rows.oidParsesRow.laid W := MakeChecks.laidMetH_plain _ _ _ (by kernel_rfl)
    rw [← e]; exact h
  have h2 := h0.tail.tail
  have h4 := h2.tail.tail
  have h5 := h4.tail
  obtain ⟨a, s, e1, _⟩ := laid_sentinel (tp := 123) (g := 2) h4 (by kernel_rfl) (by kernel_rfl) (Tryd.underlying70) xg_row (Tryd.underlying123) (Tryd.underlying125) rfl rfl (Tryd.underlying9) (by kernel_rfl) (by kernel_rfl)
  obtain ⟨b, s2, e2, _⟩ := laid_sentinel (tp := 123) (g := 1) h5 (by kernel_rfl) (by kernel_rfl) (Tryd.underlying70) xg_row (Tryd.underlying123) (Tryd.underlying125) rfl rfl (Tryd.underlying9) (by kernel_rfl) (by kernel_rfl)
  refine ⟨Lib.tabBelow_of_tabIs (Lib.tabIs_of_head (g := 0) (by kernel_rfl) (by kernel_rfl) Tryd.underlying109 Tryd.underlying61 (by kernel_rfl) (by kernel_rfl) h2), ?_, ?_, Tryd.laysM146.s1_3 W hs⟩
  · have h9 := World.var?_cell (g := 1) (by kernel_rfl) e2 0
    exact ⟨_, _, h9⟩
  · have h9 := World.var?_cell (g := 2) (by kernel_rfl) e1 0
    exact ⟨_, _, h9⟩
theorem handed_and_shaped {H : Type} {enc : TypeId × Value → H} {a : Assume} {C : Checked} {os : Os} {f : FuncId} {fn : Func} {s : ChangeSpec} {conds : List PathCond} {apart fresh handsOn again : Bool} {X : World → Array Value → Prop}
    (hX : ∀ (w w' : World) (args : Array Value), w.heap = w'.heap → X w args → X w' args)
    (own : ownKnob C.prog.godebug = none) (started : os.Started) (noInit : C.prog.inits.idxOf? f = none) (hfn : C.prog.funcs[f]? = some fn)
    (witness : ∃ (w : World) (tape : Tape) (i : Input), w.os = os ∧ (w.forCall tape i).Shaped C.prog ∧ i.vars = [] ∧ Input.okWide C.prog (w.forCall tape i) .any w.heap.size f i ∧
      ((s.pre enc C.prog fn conds apart (w.forCall tape i).memory i.args ∧ X (w.forCall tape i).memory i.args) ∧ sizedMet enc C.prog fn (OpenSpec.ofChange s) apart (w.forCall tape i).memory i.args) ∧ a.holds C.prog (lone (Frame.enter C.prog f i.args .normal) [] (w.forCall tape i)))
    (contract : ∀ (W : World) (base : Nat) (args : Array Value) (ds gs : List (DataW H)) (before : List MemPlace),
      (∀ (j : Nat) t v, fn.params[j]? = some t → args[j]? = some v → Value.okWide C.prog W .any base t v) →
      DataW.Whole enc C.prog fn.params.toList s.vars apart W args.toList ds gs before →
      conds.all (PathCond.test C.prog ⟨fn.params.toList, ds, s.plain.varTypes C.prog, gs⟩) = true →
      (DataW.weightsEach C.prog (fn.params.toList ++ s.plain.varTypes C.prog) (ds ++ gs)).all (· ≤ reachBytes) = true → X W args → W.ShapedOpen C.prog →
      a.holds C.prog (lone (Frame.enter C.prog f args .normal) [] W) →
      Calls C.prog f args W fun e W' => ∃ v, e = .returned v ∧ s.post enc C.prog fn apart fresh handsOn again W args v W') :
    ReturnsInHanded a C os f .any (fun w args => (s.pre enc C.prog fn conds apart w args ∧ X w args) ∧ sizedMet enc C.prog fn (OpenSpec.ofChange s) apart w args) (s.post enc C.prog fn apart fresh handsOn again) := by
  refine returnsInHanded_of_calls own started noInit witness ?_
  intro w tape i _ hsh _ hok hpre hholds
  obtain ⟨_, _, _, fn', hfn', _, _, _, _, hval⟩ := hok
  have e : fn' = fn := Option.some.inj (hfn'.symm.trans hfn)
  subst e
  obtain ⟨⟨⟨ds, gs, before, hw, hc⟩, hx⟩, hz⟩ := hpre
  have hw' := DataW.Whole.of_heap (w' := w.forCall tape i) (by rfl) hw
  refine (contract (w.forCall tape i) w.heap.size i.args ds gs before hval hw' hc (hz.weights hw) (hX _ _ _ (by rfl) hx) hsh hholds).mono fun e W' ⟨v, he, hp⟩ => ?_
  subst he
  exact ChangeSpec.post_blind hp
theorem info3 : (Tryd.prog.info? 3).map (fun i => (i.zero, i.size, i.bytes)) = some (some (.int .i64 0), 1, 8) := by kernel_rfl
theorem info9 : (Tryd.prog.info? 9).map (fun i => (i.zero, i.size, i.bytes)) = some (some (.string ⟨#[]⟩), 1, 16) := by kernel_rfl
structure S37 where
  f0 : Int
  f1 : Int
  f2 : ByteArray
  f3 : Int
  f4 : Int
  f5 : Int
  f6 : Int
  f7 : (List Int)
  f8 : Int
  f9 : Int
def z37 : S37 := ⟨(0 : Int), (0 : Int), (⟨#[]⟩ : ByteArray), (0 : Int), (0 : Int), (0 : Int), (0 : Int), ([] : List Int), (0 : Int), (0 : Int)⟩
structure S42 where
  f0 : Int
  f1 : Int
  f2 : ByteArray
  f3 : Int
  f4 : Int
  f5 : Int
  f6 : Int
  f7 : ByteArray
  f8 : Int
  f9 : Int
def z42 : S42 := ⟨(0 : Int), (0 : Int), (⟨#[]⟩ : ByteArray), (0 : Int), (0 : Int), (0 : Int), (0 : Int), (⟨#[]⟩ : ByteArray), (0 : Int), (0 : Int)⟩
def k42 : Kd S42 := Kd.iso (Kd.pair (Kd.int .i64) (Kd.pair (Kd.int .i64) (Kd.pair Kd.string (Kd.pair (Kd.int .i64) (Kd.pair (Kd.int .i64) (Kd.pair (Kd.int .i64) (Kd.pair (Kd.int .i64) (Kd.pair Kd.string (Kd.pair (Kd.int .i64) (Kd.int .u32)))))))))) (fun x : S42 => (x.f0, x.f1, x.f2, x.f3, x.f4, x.f5, x.f6, x.f7, x.f8, x.f9))
theorem k42_open {w : World} {x : S42} {cs : List Value} (h : k42.K w x cs) : cs = [.int .i64 x.f0, .int .i64 x.f1, .string x.f2, .int .i64 x.f3, .int .i64 x.f4, .int .i64 x.f5, .int .i64 x.f6, .string x.f7, .int .i64 x.f8, .int .u32 x.f9] := by
  obtain ⟨_, _, rfl, rfl, ⟨_, _, rfl, rfl, ⟨_, _, rfl, rfl, ⟨_, _, rfl, rfl, ⟨_, _, rfl, rfl, ⟨_, _, rfl, rfl, ⟨_, _, rfl, rfl, ⟨_, _, rfl, rfl, ⟨_, _, rfl, rfl, rfl⟩⟩⟩⟩⟩⟩⟩⟩⟩ := h
  exact rfl
theorem k42_mkM (w : World) (base : Nat) (ok : Nat → Prop) (x : S42)  : k42.M w base ok x [.int .i64 x.f0, .int .i64 x.f1, .string x.f2, .int .i64 x.f3, .int .i64 x.f4, .int .i64 x.f5, .int .i64 x.f6, .string x.f7, .int .i64 x.f8, .int .u32 x.f9] := ⟨[.int .i64 x.f0], [.int .i64 x.f1, .string x.f2, .int .i64 x.f3, .int .i64 x.f4, .int .i64 x.f5, .int .i64 x.f6, .string x.f7, .int .i64 x.f8, .int .u32 x.f9], rfl, rfl, ⟨[.int .i64 x.f1], [.string x.f2, .int .i64 x.f3, .int .i64 x.f4, .int .i64 x.f5, .int .i64 x.f6, .string x.f7, .int .i64 x.f8, .int .u32 x.f9], rfl, rfl, ⟨[.string x.f2], [.int .i64 x.f3, .int .i64 x.f4, .int .i64 x.f5, .int .i64 x.f6, .string x.f7, .int .i64 x.f8, .int .u32 x.f9], rfl, rfl, ⟨[.int .i64 x.f3], [.int .i64 x.f4, .int .i64 x.f5, .int .i64 x.f6, .string x.f7, .int .i64 x.f8, .int .u32 x.f9], rfl, rfl, ⟨[.int .i64 x.f4], [.int .i64 x.f5, .int .i64 x.f6, .string x.f7, .int .i64 x.f8, .int .u32 x.f9], rfl, rfl, ⟨[.int .i64 x.f5], [.int .i64 x.f6, .string x.f7, .int .i64 x.f8, .int .u32 x.f9], rfl, rfl, ⟨[.int .i64 x.f6], [.string x.f7, .int .i64 x.f8, .int .u32 x.f9], rfl, rfl, ⟨[.string x.f7], [.int .i64 x.f8, .int .u32 x.f9], rfl, rfl, ⟨[.int .i64 x.f8], [.int .u32 x.f9], rfl, rfl, rfl⟩⟩⟩⟩⟩⟩⟩⟩⟩
def rd_T42 (xs : List S42) (i : Int) : S42 := xs.getD i.toNat z42
theorem at_T42 {w : World} {A : Option Addr} {n : Nat} {xs : List S42} (h : Kd.C k42 w A n xs) (i : Int) (h0 : 0 ≤ i) (h1 : i < n) : ∃ ad , A = some ad ∧ w.cell? (ad.add (i.toNat * 10)) = some (.int .i64 (rd_T42 xs i).f0) ∧ w.cell? ⟨(ad.add (i.toNat * 10)).block, (ad.add (i.toNat * 10)).off + 1, none⟩ = some (.int .i64 (rd_T42 xs i).f1) ∧ w.cell? ⟨(ad.add (i.toNat * 10)).block, (ad.add (i.toNat * 10)).off + 2, none⟩ = some (.string (rd_T42 xs i).f2) ∧ w.cell? ⟨(ad.add (i.toNat * 10)).block, (ad.add (i.toNat * 10)).off + 3, none⟩ = some (.int .i64 (rd_T42 xs i).f3) ∧ w.cell? ⟨(ad.add (i.toNat * 10)).block, (ad.add (i.toNat * 10)).off + 4, none⟩ = some (.int .i64 (rd_T42 xs i).f4) ∧ w.cell? ⟨(ad.add (i.toNat * 10)).block, (ad.add (i.toNat * 10)).off + 5, none⟩ = some (.int .i64 (rd_T42 xs i).f5) ∧ w.cell? ⟨(ad.add (i.toNat * 10)).block, (ad.add (i.toNat * 10)).off + 6, none⟩ = some (.int .i64 (rd_T42 xs i).f6) ∧ w.cell? ⟨(ad.add (i.toNat * 10)).block, (ad.add (i.toNat * 10)).off + 7, none⟩ = some (.string (rd_T42 xs i).f7) ∧ w.cell? ⟨(ad.add (i.toNat * 10)).block, (ad.add (i.toNat * 10)).off + 8, none⟩ = some (.int .i64 (rd_T42 xs i).f8) ∧ w.cell? ⟨(ad.add (i.toNat * 10)).block, (ad.add (i.toNat * 10)).off + 9, none⟩ = some (.int .u32 (rd_T42 xs i).f9) := by
  obtain ⟨ad, c, e, _, hK, hc0⟩ := Kd.C_get h z42 i h0 h1
  have hc : ∀ j u, c[j]? = some u → w.cell? (ad.add (i.toNat * 10 + j)) = some u := hc0
  obtain rfl := k42_open hK
  exact ⟨ad, e, hc 0 _ rfl, by rw [← add_field _ _ 1 (by omega)]; exact hc 1 _ rfl, by rw [← add_field _ _ 2 (by omega)]; exact hc 2 _ rfl, by rw [← add_field _ _ 3 (by omega)]; exact hc 3 _ rfl, by rw [← add_field _ _ 4 (by omega)]; exact hc 4 _ rfl, by rw [← add_field _ _ 5 (by omega)]; exact hc 5 _ rfl, by rw [← add_field _ _ 6 (by omega)]; exact hc 6 _ rfl, by rw [← add_field _ _ 7 (by omega)]; exact hc 7 _ rfl, by rw [← add_field _ _ 8 (by omega)]; exact hc 8 _ rfl, by rw [← add_field _ _ 9 (by omega)]; exact hc 9 _ rfl⟩
end Go.Proofs.YtohmnlmeamkmjaaDoor.PParams
