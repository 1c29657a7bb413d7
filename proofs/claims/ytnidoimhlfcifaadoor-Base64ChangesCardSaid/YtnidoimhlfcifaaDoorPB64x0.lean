-- Written by a program: a copy of the kit's print, turned by this session (wip/xprint).
import Derived.Test.YtnidoimhlfcifaaDoorProg
import Derived.Below
import Derived.Deep.Draws
import Derived.Deep.AppendLies
import Derived.Maps.AppendAt
import Derived.OwnWalk
import Derived.Laws.BytesArg
import Derived.Laws.MakeOwn
import Derived.Laws.OwnMore
import Derived.Deep.OwnRows
import Derived.Tactics
import Derived.Lib.ConvBytes
import Derived.Laws.Slices
import Derived.WalkKit
import Derived.KernelRfl
import Derived.RowKit3
import Derived.Deep.LoopGhost
import Derived.Deep.QuietTactic
import Derived.BigQuiet
import Derived.WideLaws
import Derived.Deep.DeepCutAuto
import Derived.Deep.CutBlock
import Derived.Deep.RegionHeld3
import Derived.Laws.Rows
import Derived.Lib.AppendStr
import Derived.ArgAppend
import Derived.Laws.IdiomCopy
import Derived.OrdersHeld
import Derived.Laws.BitsLemmas
import Derived.RowKit
import Derived.Test.YtnidoimhlfcifaaDoorWWords
import Derived.Test.YtnidoimhlfcifaaDoorWLast
import Derived.Test.YtnidoimhlfcifaaDoorWTab
import Derived.Test.YtnidoimhlfcifaaDoorWFour
import Derived.Test.YtnidoimhlfcifaaDoorWQPut
import Derived.Test.YtnidoimhlfcifaaDoorWApart
import Derived.Test.YtnidoimhlfcifaaDoorWArr
import Derived.Test.YtnidoimhlfcifaaDoorWZeros
import Derived.Test.YtnidoimhlfcifaaDoorWFoot
import Derived.Test.YtnidoimhlfcifaaDoorWKept
import Derived.Test.YtnidoimhlfcifaaDoorWShare
import Derived.Test.YtnidoimhlfcifaaDoorWN
import Derived.Test.YtnidoimhlfcifaaDoorWFootNe
import Derived.Test.YtnidoimhlfcifaaDoorWAt
import Derived.Test.YtnidoimhlfcifaaDoorWEqStruct
import Derived.Test.YtnidoimhlfcifaaDoorWRepsOne
import Derived.Test.YtnidoimhlfcifaaDoorWInv
import Derived.Test.YtnidoimhlfcifaaDoorWInvWords
import Derived.Test.YtnidoimhlfcifaaDoorWGuard
import Derived.Test.YtnidoimhlfcifaaDoorWNEv
import Derived.Test.YtnidoimhlfcifaaDoorWMore
import Derived.Test.YtnidoimhlfcifaaDoorXWords
import Derived.Test.YtnidoimhlfcifaaDoorBuilder
import Derived.Test.YtnidoimhlfcifaaDoorShelf
namespace Go.Proofs.YtnidoimhlfcifaaDoor.PB64
open Go.RowKit Go.Proofs.YtnidoimhlfcifaaDoorW.PrintWords Go.Proofs.YtnidoimhlfcifaaDoorW.PrintLast Go.Proofs.YtnidoimhlfcifaaDoorW.PrintMore
attribute [local go_sem] max2_int min2_int max_two min_two max_three min_three max_four min_four   -- for this text's walks alone
set_option linter.unusedVariables false
set_option linter.unusedSimpArgs false



/-- The errors of this program: a fault with a code and an offset, or a bare code. -/
inductive E where
  | fault (c n : Int)
  | code (c : Int)
instance : Inhabited E := ⟨.code 0⟩
def E.ty : E → Nat
  | .fault _ _ => 56
  | .code _ => 54
def E.val : E → Value
  | .fault c n => .agg #[.int .i64 c, .int .i64 n]
  | .code c => .int .i64 c
def errW : Option E → Value
  | none => .nilIface
  | some c => .iface c.ty c.val
theorem errW_none : errW none = .nilIface := rfl
theorem errW_some (c : E) : errW (some c) = .iface c.ty c.val := rfl

theorem info3 : (Tryd.prog.info? 3).map (fun i => (i.zero, i.size, i.bytes)) = some (some (.int .i64 0), 1, 8) := by kernel_rfl
theorem info5 : (Tryd.prog.info? 5).map (fun i => (i.zero, i.size, i.bytes)) = some (some (.int .u8 0), 1, 1) := by kernel_rfl
theorem info23 : (Tryd.prog.info? 23).map (fun i => (i.zero, i.size, i.bytes)) = some (some (.slice none 0 0), 1, 24) := by kernel_rfl
-- the values' own types
def rd_L2 (xs : List (List Int)) (i : Int) : (List Int) := xs.getD i.toNat ([] : List Int)
theorem at_L2 {w : World} {A : Option Addr} {n : Nat} {xs : List (List Int)} (h : Kd.C (Kd.slice 5 (Kd.int .u8)) w A n xs) (i : Int) (h0 : 0 ≤ i) (h1 : i < n) : ∃ ad A0 c0, A = some ad ∧ w.cell? (ad.add i.toNat) = some (.slice A0 (rd_L2 xs i).length c0) ∧ (rd_L2 xs i).length ≤ c0 ∧ (Kd.int .u8).C w A0 (rd_L2 xs i).length (rd_L2 xs i) := by
  obtain ⟨ad, c, e, _, hK, hc0⟩ := Kd.C_get h ([] : List Int) i h0 h1
  have hc : ∀ j u, c[j]? = some u → w.cell? (ad.add (i.toNat * 1 + j)) = some u := hc0
  obtain ⟨A0, c0, rfl, l0, g0⟩ := hK
  exact ⟨ad, A0, c0, e, by have hq := hc 0 _ rfl; rwa [Nat.mul_one, Nat.add_zero] at hq, l0, g0⟩

end Go.Proofs.YtnidoimhlfcifaaDoor.PB64
