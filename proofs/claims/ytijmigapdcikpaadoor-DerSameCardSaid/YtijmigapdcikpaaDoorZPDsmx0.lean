import Derived.Test.YtijmigapdcikpaaDoorProg
import Derived.Below
import Derived.Deep.Draws
import Derived.Deep.AppendLies
import Derived.Maps.AppendAt
import Derived.OwnWalk
import Derived.Laws.BytesArg
import Derived.Laws.MakeOwn
import Derived.Laws.OwnMore
import Derived.Deep.OwnRows
import Derived.Tactics
import Derived.Lib.ConvBytes
import Derived.Laws.Slices
import Derived.WalkKit
import Derived.KernelRfl
import Derived.RowKit3
import Derived.Deep.LoopGhost
import Derived.Deep.QuietTactic
import Derived.BigQuiet
import Derived.WideLaws
import Derived.Deep.DeepCutAuto
import Derived.Deep.CutBlock
import Derived.Deep.RegionHeld3
import Derived.Laws.Rows
import Derived.Lib.AppendStr
import Derived.ArgAppend
import Derived.Laws.IdiomCopy
import Derived.OrdersHeld
import Derived.Laws.BitsLemmas
import Derived.RowKit
import Derived.Test.YtijmigapdcikpaaDoorZWWords
import Derived.Test.YtijmigapdcikpaaDoorZWLast
import Derived.Test.YtijmigapdcikpaaDoorZWTab
import Derived.Test.YtijmigapdcikpaaDoorZWFour
import Derived.Test.YtijmigapdcikpaaDoorZWQPut
import Derived.Test.YtijmigapdcikpaaDoorZWApart
import Derived.Test.YtijmigapdcikpaaDoorZWArr
import Derived.Test.YtijmigapdcikpaaDoorZWZeros
import Derived.Test.YtijmigapdcikpaaDoorZWFoot
import Derived.Test.YtijmigapdcikpaaDoorZWKept
import Derived.Test.YtijmigapdcikpaaDoorZWShare
import Derived.Test.YtijmigapdcikpaaDoorZWN
import Derived.Test.YtijmigapdcikpaaDoorZWFootNe
import Derived.Test.YtijmigapdcikpaaDoorZWAt
import Derived.Test.YtijmigapdcikpaaDoorZWEqStruct
import Derived.Test.YtijmigapdcikpaaDoorZWRepsOne
import Derived.Test.YtijmigapdcikpaaDoorZWInv
import Derived.Test.YtijmigapdcikpaaDoorZWInvWords
import Derived.Test.YtijmigapdcikpaaDoorZWGuard
import Derived.Test.YtijmigapdcikpaaDoorZWNEv
import Derived.Test.YtijmigapdcikpaaDoorZWMore
import Derived.Test.YtijmigapdcikpaaDoorZXWords
import Derived.Test.YtijmigapdcikpaaDoorRows
import Derived.LaidHandle
import Derived.Stop.Joined
import Derived.LaidEql
import Derived.Stop.Asserts
import Derived.LaidLaws
import Derived.Lib.SliceRun
namespace Go.Proofs.YtijmigapdcikpaaDoor.PDsm
open Go.RowKit Go.Proofs.YtijmigapdcikpaaDoorW.PrintWords Go.Proofs.YtijmigapdcikpaaDoorW.PrintLast Go.Proofs.YtijmigapdcikpaaDoorW.PrintMore
attribute [local go_sem] max2_int min2_int max_two min_two max_three min_three max_four min_four
set_option linter.unusedVariables false
set_option linter.unusedSimpArgs false
inductive E where
  | fault (c n : Int)
  | code (c : Int)
instance : Inhabited E := ⟨.code 0⟩
def E.ty : E → Nat
  | .fault _ _ => 128
  | .code _ => 91
def E.val : E → Value
  | .fault c n => .agg #[.int .i64 c, .int .i64 n]
  | .code c => .int .i64 c
def errW : Option E → Value
  | none => .nilIface
  | some c => .iface c.ty c.val
theorem errW_none : errW none = .nilIface := rfl
theorem errW_some (c : E) : errW (some c) = .iface c.ty c.val := rfl
def GOK (w : World) : Prop := w.cell? ⟨2, 0, none⟩ = some (.iface 175 (.agg #[.pointer (some ⟨3, 28, none⟩)]))
theorem GOK.ge {w : World} (h : GOK w) : w.cell? ⟨2, 0, none⟩ = some (.iface 175 (.agg #[.pointer (some ⟨3, 28, none⟩)])) := h
theorem GOK.below {w w1 : World} (h : GOK w) (hb : Below w.heap.size w w1) : GOK w1 := pw_cell_below hb h
theorem GOK.drewN {w : World} {m : Nat} (h : GOK w) : GOK (w.drewN m) := h.below (pw_below_drewN (Below.refl _ _) m)
theorem GOK.drew {w : World} (h : GOK w) : GOK w.drew := h.below (below_drew (Below.refl _ _))
theorem xe_et : Tryd.prog.globalNamed "errors.errorType" = some 2 := by kernel_rfl
theorem xe_rt : (Tryd.prog.cutTypes.find? (·.1 == "internal/reflectlite.rtype")).map (·.2) = some 175 := by kernel_rfl
theorem xe_oneRow : ((List.range 213).filter fun t => Tryd.prog.rowNamed t [101, 114, 114, 111, 114]) = [28] := by kernel_rfl
theorem xe_size : Tryd.prog.types.size = 213 := by kernel_rfl
theorem gok_of_laid {W : World} (h : laidMetH Tryd.prog [("errors.errorType", Rows.laid_errors_errorType)] W) : GOK W := by
  have h' : laidMet Tryd.prog [] W ∧ handlesMet Tryd.prog [("errors.errorType", Rows.laid_errors_errorType)] W := h
  obtain ⟨name, u, ty, e1, e2, e3, e4, e5⟩ := h'.2 _ (List.mem_singleton.2 rfl)
  have en : name = [101, 114, 114, 111, 114] := (Option.some.inj e1).symm
  subst en
  obtain rfl := Option.some.inj (xe_rt.symm.trans e2)
  have hm : ty ∈ (List.range 213).filter fun t => Tryd.prog.rowNamed t [101, 114, 114, 111, 114] := List.mem_filter.2 ⟨List.mem_range.2 (by rw [← xe_size]; exact e3), e4⟩
  rw [xe_oneRow] at hm
  obtain rfl := List.mem_singleton.1 hm
  have hh : typeHandle Tryd.prog 28 = .pointer (some ⟨3, 28, none⟩) := by kernel_rfl
  rw [hh] at e5
  have h9 := World.var?_cell xe_et e5 0
  unfold GOK
  simpa using h9
noncomputable def holding0 (os : Os) : World :=
  let w0 := World.holding Tryd.prog os ⟨#[], #[], []⟩
  { w0 with heap := w0.heap.modify 2 fun
      | .cells _ t frozen => .cells #[.iface 175 (.agg #[.pointer (some ⟨3, 28, none⟩)])] t frozen
      | o => o }
theorem holding0_met (os : Os) (args : Array Value) : laidMetH Tryd.prog [("errors.errorType", Rows.laid_errors_errorType)] ((holding0 os).forCall (fun _ _ => 0) ⟨#[], args, []⟩).memory :=
  laidMetH_of_parts (laidMet_nil _ _) (by kernel_rfl)
theorem info5 : (Tryd.prog.info? 5).map (fun i => (i.zero, i.size, i.bytes)) = some (some (.int .u8 0), 1, 1) := by kernel_rfl
theorem info26 : (Tryd.prog.info? 26).map (fun i => (i.zero, i.size, i.bytes)) = some (some (.agg #[(.int .u8 0), (.slice none 0 0), (.slice none 0 0)]), 3, 56) := by kernel_rfl
structure S26 where
  f0 : Int
  f1 : (List Int)
  f2 : (List S26)
def z26 : S26 := ⟨(0 : Int), ([] : List Int), ([] : List S26)⟩
def F26 (d : Kd S26) : Kd S26 := Kd.iso (Kd.pair (Kd.int .u8) (Kd.pair (Kd.slice 5 (Kd.int .u8)) (Kd.slice 26 d))) (fun x : S26 => (x.f0, x.f1, x.f2))
theorem mono26 : Kd.Mono F26 := Kd.mono_iso _ (Kd.mono_pair (Kd.mono_const _) (Kd.mono_pair (Kd.mono_const _) (Kd.mono_slice 26 Kd.mono_id)))
theorem sub26 : Kd.Sub F26 [5, 26] := Kd.sub_iso _ (Kd.sub_pair (Kd.sub_const _ (by decide)) (Kd.sub_pair (Kd.sub_const _ (by decide)) (Kd.sub_slice 26 (by decide) Kd.sub_id)))
theorem sz26 : ∀ n, (Kd.upto F26 3 [5, 26] n).sz = 3 := Kd.upto_sz (fun _ => rfl)
def k26 : Kd S26 := Kd.fix F26 3 [5, 26] sz26 (Kd.upto_E sub26)
theorem k26_open {w : World} {x : S26} {cs : List Value} (h : k26.K w x cs) : ∃ A1 c1 A2 c2, cs = [.int .u8 x.f0, .slice A1 x.f1.length c1, .slice A2 x.f2.length c2] ∧ x.f1.length ≤ c1 ∧ (Kd.int .u8).C w A1 x.f1.length x.f1 ∧ x.f2.length ≤ c2 ∧ k26.C w A2 x.f2.length x.f2 := by
  obtain ⟨n, h⟩ := h
  cases n with
  | zero => exact h.elim
  | succ n =>
    obtain ⟨_, _, rfl, rfl, ⟨_, _, rfl, ⟨A1, c1, rfl, l1, g1⟩, ⟨A2, c2, rfl, l2, g2⟩⟩⟩ := h
    exact ⟨A1, c1, A2, c2, rfl, l1, g1, l2, Kd.fix_C g2⟩
theorem k26_mk (w : World) (x : S26) {A1 : Option Addr} {c1 : Nat} (l1 : x.f1.length ≤ c1) (g1 : (Kd.int .u8).C w A1 x.f1.length x.f1) {A2 : Option Addr} {c2 : Nat} (l2 : x.f2.length ≤ c2) (g2 : k26.C w A2 x.f2.length x.f2) : k26.K w x [.int .u8 x.f0, .slice A1 x.f1.length c1, .slice A2 x.f2.length c2] := by
  obtain ⟨n2, q2⟩ := Kd.fix_C_back mono26 g2
  have r2 := Kd.upto_C_le mono26 sz26 (show n2 ≤ n2 by omega) q2
  exact ⟨n2 + 1, ⟨[.int .u8 x.f0], [.slice A1 x.f1.length c1, .slice A2 x.f2.length c2], rfl, rfl, ⟨[.slice A1 x.f1.length c1], [.slice A2 x.f2.length c2], rfl, ⟨A1, c1, rfl, l1, g1⟩, ⟨A2, c2, rfl, l2, r2⟩⟩⟩⟩
theorem k26_mkM (w : World) (base : Nat) (ok : Nat → Prop) (x : S26) {v1 : Value} (g1 : (Kd.int .u8).R 5 w base ok v1 x.f1) {v2 : Value} (g2 : k26.R 26 w base ok v2 x.f2) : k26.M w base ok x [.int .u8 x.f0, v1, v2] := by
  obtain ⟨n2, q2⟩ := Kd.fix_R_back mono26 g2
  have r2 := Kd.upto_R_le mono26 sz26 (show n2 ≤ n2 by omega) q2
  exact ⟨n2 + 1, ⟨[.int .u8 x.f0], [v1, v2], rfl, rfl, ⟨[v1], [v2], rfl, ⟨v1, rfl, g1⟩, ⟨v2, rfl, r2⟩⟩⟩⟩
theorem k26_mkF (W : World) (ok : Nat → Prop) (x : S26) {A1 : Option Addr} {c1 : Nat} (l1 : x.f1.length ≤ c1) (g1 : Kd.F (Kd.int .u8) W ok A1 x.f1.length x.f1) {A2 : Option Addr} {c2 : Nat} (l2 : x.f2.length ≤ c2) (g2 : Kd.F k26 W ok A2 x.f2.length x.f2) : Kd.FK k26 W ok x [.int .u8 x.f0, .slice A1 x.f1.length c1, .slice A2 x.f2.length c2] := fun W2 hW => k26_mk W2 x l1 (g1 W2 hW) l2 (g2 W2 hW)
def rd_T26 (xs : List S26) (i : Int) : S26 := xs.getD i.toNat z26
theorem at_T26 {w : World} {A : Option Addr} {n : Nat} {xs : List S26} (h : Kd.C k26 w A n xs) (i : Int) (h0 : 0 ≤ i) (h1 : i < n) : ∃ ad A1 c1 A2 c2, A = some ad ∧ w.cell? (ad.add (i.toNat * 3)) = some (.int .u8 (rd_T26 xs i).f0) ∧ w.cell? ⟨(ad.add (i.toNat * 3)).block, (ad.add (i.toNat * 3)).off + 1, none⟩ = some (.slice A1 (rd_T26 xs i).f1.length c1) ∧ w.cell? ⟨(ad.add (i.toNat * 3)).block, (ad.add (i.toNat * 3)).off + 2, none⟩ = some (.slice A2 (rd_T26 xs i).f2.length c2) ∧ (rd_T26 xs i).f1.length ≤ c1 ∧ (Kd.int .u8).C w A1 (rd_T26 xs i).f1.length (rd_T26 xs i).f1 ∧ (rd_T26 xs i).f2.length ≤ c2 ∧ k26.C w A2 (rd_T26 xs i).f2.length (rd_T26 xs i).f2 := by
  obtain ⟨ad, c, e, _, hK, hc0⟩ := Kd.C_get h z26 i h0 h1
  have hc : ∀ j u, c[j]? = some u → w.cell? (ad.add (i.toNat * 3 + j)) = some u := hc0
  obtain ⟨A1, c1, A2, c2, rfl, l1, g1, l2, g2⟩ := k26_open hK
  exact ⟨ad, A1, c1, A2, c2, e, hc 0 _ rfl, by rw [← add_field _ _ 1 (by omega)]; exact hc 1 _ rfl, by rw [← add_field _ _ 2 (by omega)]; exact hc 2 _ rfl, l1, g1, l2, g2⟩
structure S33 where
  f0 : Int
  f1 : (List Int)
  f2 : (List S33)
def z33 : S33 := ⟨(0 : Int), ([] : List Int), ([] : List S33)⟩
def F33 (d : Kd S33) : Kd S33 := Kd.iso (Kd.pair (Kd.int .u8) (Kd.pair (Kd.slice 5 (Kd.int .u8)) (Kd.slice 33 d))) (fun x : S33 => (x.f0, x.f1, x.f2))
theorem mono33 : Kd.Mono F33 := Kd.mono_iso _ (Kd.mono_pair (Kd.mono_const _) (Kd.mono_pair (Kd.mono_const _) (Kd.mono_slice 33 Kd.mono_id)))
theorem sub33 : Kd.Sub F33 [5, 33] := Kd.sub_iso _ (Kd.sub_pair (Kd.sub_const _ (by decide)) (Kd.sub_pair (Kd.sub_const _ (by decide)) (Kd.sub_slice 33 (by decide) Kd.sub_id)))
theorem sz33 : ∀ n, (Kd.upto F33 3 [5, 33] n).sz = 3 := Kd.upto_sz (fun _ => rfl)
def k33 : Kd S33 := Kd.fix F33 3 [5, 33] sz33 (Kd.upto_E sub33)
theorem k33_open {w : World} {x : S33} {cs : List Value} (h : k33.K w x cs) : ∃ A1 c1 A2 c2, cs = [.int .u8 x.f0, .slice A1 x.f1.length c1, .slice A2 x.f2.length c2] ∧ x.f1.length ≤ c1 ∧ (Kd.int .u8).C w A1 x.f1.length x.f1 ∧ x.f2.length ≤ c2 ∧ k33.C w A2 x.f2.length x.f2 := by
  obtain ⟨n, h⟩ := h
  cases n with
  | zero => exact h.elim
  | succ n =>
    obtain ⟨_, _, rfl, rfl, ⟨_, _, rfl, ⟨A1, c1, rfl, l1, g1⟩, ⟨A2, c2, rfl, l2, g2⟩⟩⟩ := h
    exact ⟨A1, c1, A2, c2, rfl, l1, g1, l2, Kd.fix_C g2⟩
theorem k33_mk (w : World) (x : S33) {A1 : Option Addr} {c1 : Nat} (l1 : x.f1.length ≤ c1) (g1 : (Kd.int .u8).C w A1 x.f1.length x.f1) {A2 : Option Addr} {c2 : Nat} (l2 : x.f2.length ≤ c2) (g2 : k33.C w A2 x.f2.length x.f2) : k33.K w x [.int .u8 x.f0, .slice A1 x.f1.length c1, .slice A2 x.f2.length c2] := by
  obtain ⟨n2, q2⟩ := Kd.fix_C_back mono33 g2
  have r2 := Kd.upto_C_le mono33 sz33 (show n2 ≤ n2 by omega) q2
  exact ⟨n2 + 1, ⟨[.int .u8 x.f0], [.slice A1 x.f1.length c1, .slice A2 x.f2.length c2], rfl, rfl, ⟨[.slice A1 x.f1.length c1], [.slice A2 x.f2.length c2], rfl, ⟨A1, c1, rfl, l1, g1⟩, ⟨A2, c2, rfl, l2, r2⟩⟩⟩⟩
def rd_T33 (xs : List S33) (i : Int) : S33 := xs.getD i.toNat z33
theorem at_T33 {w : World} {A : Option Addr} {n : Nat} {xs : List S33} (h : Kd.C k33 w A n xs) (i : Int) (h0 : 0 ≤ i) (h1 : i < n) : ∃ ad A1 c1 A2 c2, A = some ad ∧ w.cell? (ad.add (i.toNat * 3)) = some (.int .u8 (rd_T33 xs i).f0) ∧ w.cell? ⟨(ad.add (i.toNat * 3)).block, (ad.add (i.toNat * 3)).off + 1, none⟩ = some (.slice A1 (rd_T33 xs i).f1.length c1) ∧ w.cell? ⟨(ad.add (i.toNat * 3)).block, (ad.add (i.toNat * 3)).off + 2, none⟩ = some (.slice A2 (rd_T33 xs i).f2.length c2) ∧ (rd_T33 xs i).f1.length ≤ c1 ∧ (Kd.int .u8).C w A1 (rd_T33 xs i).f1.length (rd_T33 xs i).f1 ∧ (rd_T33 xs i).f2.length ≤ c2 ∧ k33.C w A2 (rd_T33 xs i).f2.length (rd_T33 xs i).f2 := by
  obtain ⟨ad, c, e, _, hK, hc0⟩ := Kd.C_get h z33 i h0 h1
  have hc : ∀ j u, c[j]? = some u → w.cell? (ad.add (i.toNat * 3 + j)) = some u := hc0
  obtain ⟨A1, c1, A2, c2, rfl, l1, g1, l2, g2⟩ := k33_open hK
  exact ⟨ad, A1, c1, A2, c2, e, hc 0 _ rfl, by rw [← add_field _ _ 1 (by omega)]; exact hc 1 _ rfl, by rw [← add_field _ _ 2 (by omega)]; exact hc 2 _ rfl, l1, g1, l2, g2⟩
end Go.Proofs.YtijmigapdcikpaaDoor.PDsm
