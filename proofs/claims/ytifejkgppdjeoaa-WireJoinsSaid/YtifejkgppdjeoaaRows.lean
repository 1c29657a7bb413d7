/-
  No cell of these rows narrows 'for every input' (looked for: loops, veiled, ifaces, maps, wideKeys, modest, calm, conditions, laid).
  DERIVED. THE GIVEN ROWS OF THIS SEAT. 12 by the template 'for every input the law returns true; each argument reads behind the call as it read before'; 0 by the template 'total and deterministic' (their statements: YtifejkgppdjeoaaTotals.lean).
  GIVEN WITH THE SEED: the statements are not yours to turn. If you find one false, say at which input.
  Laid BY PROGRAM, IN A SANDBOX (cutbox-rows.mjs): the forced cells as the released guide's own fill.sh prints them over the translation e3c211b619bab056… (all of the seat's roots in one cut). By AI agents, Wed Nov 11 2026. No macro, syntax, notation, axiom, sorry.
-/
import Derived.Test.YtifejkgppdjeoaaChecked
import GoSem.Claim
import GoSem.ClaimJoined
import GoSem.ClaimMapViews
import Derived.JoinedTies
import Derived.KernelRfl
namespace Go.Proofs.Ytifejkgppdjeoaa
/- THE CELL 'sum', in the pinned program and in every row, IS THE sha256 OF THE DUMP (.gsa) THAT YtifejkgppdjeoaaProg.lean LOADS. Nothing in Lean hashes anything: it is a label: what it is worth is what the hold of that sum in a sandbox is worth. -/
noncomputable def Try.pinned : Pinned := { name := "ytifejkgppdjeoaa", sum := "e3c211b619bab0569e202fac37a638f82cc7c89a1c6cb9c553d30b3d240f81a7", checked := Try.checked }
namespace Rows
def none {H : Type} : Left H := { results := [], args := [] }

/-- 'pyxlaw03.MeterMatchesReference': WHATEVER THE INPUT: true; the input reads as it did. -/
def meterMatchesReferenceSpec : ChangeSpec := { name := "meterMatchesReference", fn := fun _ => fun
  | [d1, d2] => { results := [.lit (.bool true)], args := [d1, d2] }
  | _ => none }
def meterMatchesReferenceRow : OpenClaim := { program := "ytifejkgppdjeoaa", sum := "e3c211b619bab0569e202fac37a638f82cc7c89a1c6cb9c553d30b3d240f81a7", func := "pyx/pyxlaw03.MeterMatchesReference", spec := "meterMatchesReference", inPlace := ["sync/atomic.LoadInt64", "sync/atomic.CompareAndSwapInt64"], apart := false }
def MeterMatchesReferenceSaid : Prop := meterMatchesReferenceRow.holds Try.pinned (OpenSpec.ofChange meterMatchesReferenceSpec)

/-- ITS FALSE NEIGHBOUR: 'it returns false'. Refute it at one input. -/
def meterMatchesReferenceWrong : ChangeSpec := { name := "meterMatchesReference", fn := fun _ => fun
  | [d1, d2] => { results := [.lit (.bool false)], args := [d1, d2] }
  | _ => none }
def MeterMatchesReferenceWrongFalsely : Prop := meterMatchesReferenceRow.holds Try.pinned (OpenSpec.ofChange meterMatchesReferenceWrong)

/-- 'pyxlaw03.MeterParts': WHATEVER THE INPUT: true; the input reads as it did. -/
def meterPartsSpec : ChangeSpec := { name := "meterParts", fn := fun _ => fun
  | [d1, d2, d3] => { results := [.lit (.bool true)], args := [d1, d2, d3] }
  | _ => none }
def meterPartsRow : OpenClaim := { program := "ytifejkgppdjeoaa", sum := "e3c211b619bab0569e202fac37a638f82cc7c89a1c6cb9c553d30b3d240f81a7", func := "pyx/pyxlaw03.MeterParts", spec := "meterParts", inPlace := ["sync/atomic.LoadInt64", "sync/atomic.CompareAndSwapInt64"], apart := false }
def MeterPartsSaid : Prop := meterPartsRow.holds Try.pinned (OpenSpec.ofChange meterPartsSpec)

/-- ITS FALSE NEIGHBOUR: 'it returns false'. Refute it at one input. -/
def meterPartsWrong : ChangeSpec := { name := "meterParts", fn := fun _ => fun
  | [d1, d2, d3] => { results := [.lit (.bool false)], args := [d1, d2, d3] }
  | _ => none }
def MeterPartsWrongFalsely : Prop := meterPartsRow.holds Try.pinned (OpenSpec.ofChange meterPartsWrong)

/-- 'pyxlaw03.MeterRefuses': WHATEVER THE INPUT: true; the input reads as it did. -/
def meterRefusesSpec : ChangeSpec := { name := "meterRefuses", fn := fun _ => fun
  | [d1, d2] => { results := [.lit (.bool true)], args := [d1, d2] }
  | _ => none }
def meterRefusesRow : OpenClaim := { program := "ytifejkgppdjeoaa", sum := "e3c211b619bab0569e202fac37a638f82cc7c89a1c6cb9c553d30b3d240f81a7", func := "pyx/pyxlaw03.MeterRefuses", spec := "meterRefuses", inPlace := ["sync/atomic.LoadInt64", "sync/atomic.CompareAndSwapInt64"], apart := false }
def MeterRefusesSaid : Prop := meterRefusesRow.holds Try.pinned (OpenSpec.ofChange meterRefusesSpec)

/-- ITS FALSE NEIGHBOUR: 'it returns false'. Refute it at one input. -/
def meterRefusesWrong : ChangeSpec := { name := "meterRefuses", fn := fun _ => fun
  | [d1, d2] => { results := [.lit (.bool false)], args := [d1, d2] }
  | _ => none }
def MeterRefusesWrongFalsely : Prop := meterRefusesRow.holds Try.pinned (OpenSpec.ofChange meterRefusesWrong)

/-- 'pyxlaw01.WireMatchesReference': WHATEVER THE INPUT: true; the input reads as it did. -/
def wireMatchesReferenceSpec : ChangeSpec := { name := "wireMatchesReference", fn := fun _ => fun
  | [d1, d2] => { results := [.lit (.bool true)], args := [d1, d2] }
  | _ => none }
def wireMatchesReferenceRow : OpenClaim := { program := "ytifejkgppdjeoaa", sum := "e3c211b619bab0569e202fac37a638f82cc7c89a1c6cb9c553d30b3d240f81a7", func := "pyx/pyxlaw01.WireMatchesReference", spec := "wireMatchesReference", apart := false }
def WireMatchesReferenceSaid : Prop := wireMatchesReferenceRow.holds Try.pinned (OpenSpec.ofChange wireMatchesReferenceSpec)

/-- ITS FALSE NEIGHBOUR: 'it returns false'. Refute it at one input. -/
def wireMatchesReferenceWrong : ChangeSpec := { name := "wireMatchesReference", fn := fun _ => fun
  | [d1, d2] => { results := [.lit (.bool false)], args := [d1, d2] }
  | _ => none }
def WireMatchesReferenceWrongFalsely : Prop := wireMatchesReferenceRow.holds Try.pinned (OpenSpec.ofChange wireMatchesReferenceWrong)

/-- 'pyxlaw01.WirePuts': WHATEVER THE INPUT: true; the input reads as it did. -/
def wirePutsSpec : ChangeSpec := { name := "wirePuts", fn := fun _ => fun
  | [d1, d2] => { results := [.lit (.bool true)], args := [d1, d2] }
  | _ => none }
def wirePutsRow : OpenClaim := { program := "ytifejkgppdjeoaa", sum := "e3c211b619bab0569e202fac37a638f82cc7c89a1c6cb9c553d30b3d240f81a7", func := "pyx/pyxlaw01.WirePuts", spec := "wirePuts", apart := false }
def WirePutsSaid : Prop := wirePutsRow.holds Try.pinned (OpenSpec.ofChange wirePutsSpec)

/-- ITS FALSE NEIGHBOUR: 'it returns false'. Refute it at one input. -/
def wirePutsWrong : ChangeSpec := { name := "wirePuts", fn := fun _ => fun
  | [d1, d2] => { results := [.lit (.bool false)], args := [d1, d2] }
  | _ => none }
def WirePutsWrongFalsely : Prop := wirePutsRow.holds Try.pinned (OpenSpec.ofChange wirePutsWrong)

/-- 'pyxlaw01.WireNil': WHATEVER THE INPUT: true; the input reads as it did. -/
def wireNilSpec : ChangeSpec := { name := "wireNil", fn := fun _ => fun
  | [d1, d2] => { results := [.lit (.bool true)], args := [d1, d2] }
  | _ => none }
def wireNilRow : OpenClaim := { program := "ytifejkgppdjeoaa", sum := "e3c211b619bab0569e202fac37a638f82cc7c89a1c6cb9c553d30b3d240f81a7", func := "pyx/pyxlaw01.WireNil", spec := "wireNil", apart := false }
def WireNilSaid : Prop := wireNilRow.holds Try.pinned (OpenSpec.ofChange wireNilSpec)

/-- ITS FALSE NEIGHBOUR: 'it returns false'. Refute it at one input. -/
def wireNilWrong : ChangeSpec := { name := "wireNil", fn := fun _ => fun
  | [d1, d2] => { results := [.lit (.bool false)], args := [d1, d2] }
  | _ => none }
def WireNilWrongFalsely : Prop := wireNilRow.holds Try.pinned (OpenSpec.ofChange wireNilWrong)

/-- 'pyxlaw05.BitsMatchesReference': WHATEVER THE INPUT: true; the input reads as it did. -/
def bitsMatchesReferenceSpec : ChangeSpec := { name := "bitsMatchesReference", fn := fun _ => fun
  | [d1, d2] => { results := [.lit (.bool true)], args := [d1, d2] }
  | _ => none }
def bitsMatchesReferenceRow : OpenClaim := { program := "ytifejkgppdjeoaa", sum := "e3c211b619bab0569e202fac37a638f82cc7c89a1c6cb9c553d30b3d240f81a7", func := "pyx/pyxlaw05.BitsMatchesReference", spec := "bitsMatchesReference", apart := false }
def BitsMatchesReferenceSaid : Prop := bitsMatchesReferenceRow.holds Try.pinned (OpenSpec.ofChange bitsMatchesReferenceSpec)

/-- ITS FALSE NEIGHBOUR: 'it returns false'. Refute it at one input. -/
def bitsMatchesReferenceWrong : ChangeSpec := { name := "bitsMatchesReference", fn := fun _ => fun
  | [d1, d2] => { results := [.lit (.bool false)], args := [d1, d2] }
  | _ => none }
def BitsMatchesReferenceWrongFalsely : Prop := bitsMatchesReferenceRow.holds Try.pinned (OpenSpec.ofChange bitsMatchesReferenceWrong)

/-- 'pyxlaw05.BitsUnpacks': WHATEVER THE INPUT: true; the input reads as it did. -/
def bitsUnpacksSpec : ChangeSpec := { name := "bitsUnpacks", fn := fun _ => fun
  | [d1, d2, d3] => { results := [.lit (.bool true)], args := [d1, d2, d3] }
  | _ => none }
def bitsUnpacksRow : OpenClaim := { program := "ytifejkgppdjeoaa", sum := "e3c211b619bab0569e202fac37a638f82cc7c89a1c6cb9c553d30b3d240f81a7", func := "pyx/pyxlaw05.BitsUnpacks", spec := "bitsUnpacks", apart := false }
def BitsUnpacksSaid : Prop := bitsUnpacksRow.holds Try.pinned (OpenSpec.ofChange bitsUnpacksSpec)

/-- ITS FALSE NEIGHBOUR: 'it returns false'. Refute it at one input. -/
def bitsUnpacksWrong : ChangeSpec := { name := "bitsUnpacks", fn := fun _ => fun
  | [d1, d2, d3] => { results := [.lit (.bool false)], args := [d1, d2, d3] }
  | _ => none }
def BitsUnpacksWrongFalsely : Prop := bitsUnpacksRow.holds Try.pinned (OpenSpec.ofChange bitsUnpacksWrong)

/-- 'pyxlaw05.BitsInverse': WHATEVER THE INPUT: true; the input reads as it did. -/
def bitsInverseSpec : ChangeSpec := { name := "bitsInverse", fn := fun _ => fun
  | [d1, d2] => { results := [.lit (.bool true)], args := [d1, d2] }
  | _ => none }
def bitsInverseRow : OpenClaim := { program := "ytifejkgppdjeoaa", sum := "e3c211b619bab0569e202fac37a638f82cc7c89a1c6cb9c553d30b3d240f81a7", func := "pyx/pyxlaw05.BitsInverse", spec := "bitsInverse", apart := false }
def BitsInverseSaid : Prop := bitsInverseRow.holds Try.pinned (OpenSpec.ofChange bitsInverseSpec)

/-- ITS FALSE NEIGHBOUR: 'it returns false'. Refute it at one input. -/
def bitsInverseWrong : ChangeSpec := { name := "bitsInverse", fn := fun _ => fun
  | [d1, d2] => { results := [.lit (.bool false)], args := [d1, d2] }
  | _ => none }
def BitsInverseWrongFalsely : Prop := bitsInverseRow.holds Try.pinned (OpenSpec.ofChange bitsInverseWrong)

/-- 'pyxlaw05.BitsSingle': WHATEVER THE INPUT: true; the input reads as it did. -/
def bitsSingleSpec : ChangeSpec := { name := "bitsSingle", fn := fun _ => fun
  | [d1, d2, d3] => { results := [.lit (.bool true)], args := [d1, d2, d3] }
  | _ => none }
def bitsSingleRow : OpenClaim := { program := "ytifejkgppdjeoaa", sum := "e3c211b619bab0569e202fac37a638f82cc7c89a1c6cb9c553d30b3d240f81a7", func := "pyx/pyxlaw05.BitsSingle", spec := "bitsSingle", apart := false }
def BitsSingleSaid : Prop := bitsSingleRow.holds Try.pinned (OpenSpec.ofChange bitsSingleSpec)

/-- ITS FALSE NEIGHBOUR: 'it returns false'. Refute it at one input. -/
def bitsSingleWrong : ChangeSpec := { name := "bitsSingle", fn := fun _ => fun
  | [d1, d2, d3] => { results := [.lit (.bool false)], args := [d1, d2, d3] }
  | _ => none }
def BitsSingleWrongFalsely : Prop := bitsSingleRow.holds Try.pinned (OpenSpec.ofChange bitsSingleWrong)

/-- 'pyxlaw05.BitsLeast': WHATEVER THE INPUT: true; the input reads as it did. -/
def bitsLeastSpec : ChangeSpec := { name := "bitsLeast", fn := fun _ => fun
  | [d1, d2] => { results := [.lit (.bool true)], args := [d1, d2] }
  | _ => none }
def bitsLeastRow : OpenClaim := { program := "ytifejkgppdjeoaa", sum := "e3c211b619bab0569e202fac37a638f82cc7c89a1c6cb9c553d30b3d240f81a7", func := "pyx/pyxlaw05.BitsLeast", spec := "bitsLeast", apart := false }
def BitsLeastSaid : Prop := bitsLeastRow.holds Try.pinned (OpenSpec.ofChange bitsLeastSpec)

/-- ITS FALSE NEIGHBOUR: 'it returns false'. Refute it at one input. -/
def bitsLeastWrong : ChangeSpec := { name := "bitsLeast", fn := fun _ => fun
  | [d1, d2] => { results := [.lit (.bool false)], args := [d1, d2] }
  | _ => none }
def BitsLeastWrongFalsely : Prop := bitsLeastRow.holds Try.pinned (OpenSpec.ofChange bitsLeastWrong)

/-- 'pyxlaw01.WireJoins': WHATEVER THE INPUT: true; the input reads as it did. -/
def wireJoinsSpec : ChangeSpec := { name := "wireJoins", fn := fun _ => fun
  | [d1, d2, d3] => { results := [.lit (.bool true)], args := [d1, d2, d3] }
  | _ => none }
def wireJoinsRow : OpenClaim := { program := "ytifejkgppdjeoaa", sum := "e3c211b619bab0569e202fac37a638f82cc7c89a1c6cb9c553d30b3d240f81a7", func := "pyx/pyxlaw01.WireJoins", spec := "wireJoins", apart := false }
def WireJoinsSaid : Prop := wireJoinsRow.holds Try.pinned (OpenSpec.ofChange wireJoinsSpec)

/-- ITS FALSE NEIGHBOUR: 'it returns false'. Refute it at one input. -/
def wireJoinsWrong : ChangeSpec := { name := "wireJoins", fn := fun _ => fun
  | [d1, d2, d3] => { results := [.lit (.bool false)], args := [d1, d2, d3] }
  | _ => none }
def WireJoinsWrongFalsely : Prop := wireJoinsRow.holds Try.pinned (OpenSpec.ofChange wireJoinsWrong)

/- THE SECOND FORM. 'bulk': how many values and letters a reading holds, each counted each time it is reached (what is shared counts as often as it is met; a slice's spare places count too). A statement '..UptoSaid' is the law's where the arguments, and the package variables that the reading takes, are together of bulk at most 1048576: NARROWER than '..Said'. Prove '..Said' where nothing that the law and all that it calls make is longer than what came in: it says more and counts as full. Else prove '..UptoSaid'. A law counts once. -/
mutual
def uptoBulk {H : Type} : DataW H → Nat
  | .lit (.string bytes) => bytes.length + 1
  | .lit _ => 1
  | .nil => 1
  | .ptr d => uptoBulk d + 1
  | .slice elems spare => uptoBulkAll elems + uptoBulkAll spare + 1
  | .agg parts => uptoBulkAll parts + 1
  | .iface _ d => uptoBulk d + 1
  | .map entries => uptoBulkEntries entries + 1
  | .held _ => 1
def uptoBulkAll {H : Type} : List (DataW H) → Nat
  | [] => 0
  | d :: r => uptoBulk d + uptoBulkAll r
def uptoBulkEntries {H : Type} : List (Lit × DataW H) → Nat
  | [] => 0
  | x :: r => uptoBulkEntry x + uptoBulkEntries r
def uptoBulkEntry {H : Type} : Lit × DataW H → Nat
  | (.string bytes, d) => bytes.length + uptoBulk d + 1
  | (_, d) => uptoBulk d + 1
 end
def uptoSmall : (H : Type) → List (DataW H) → Bool := fun _ ds => decide (uptoBulkAll ds ≤ 1048576)
def OpenSpec.upto (s : _root_.Go.ChangeSpec) : _root_.Go.OpenSpec := { _root_.Go.OpenSpec.ofChange s with cond := some uptoSmall }

/-- 'pyxlaw03.MeterMatchesReference', WHERE WHAT IT READS IS OF BULK AT MOST 1048576: true; the input reads as it did. -/
def meterMatchesReferenceUptoRow : OpenClaim := { program := "ytifejkgppdjeoaa", sum := "e3c211b619bab0569e202fac37a638f82cc7c89a1c6cb9c553d30b3d240f81a7", func := "pyx/pyxlaw03.MeterMatchesReference", spec := "meterMatchesReference", inPlace := ["sync/atomic.LoadInt64", "sync/atomic.CompareAndSwapInt64"], apart := false, narrowed := true }
def MeterMatchesReferenceUptoSaid : Prop := meterMatchesReferenceUptoRow.holds Try.pinned (OpenSpec.upto meterMatchesReferenceSpec)

/-- 'pyxlaw03.MeterParts', WHERE WHAT IT READS IS OF BULK AT MOST 1048576: true; the input reads as it did. -/
def meterPartsUptoRow : OpenClaim := { program := "ytifejkgppdjeoaa", sum := "e3c211b619bab0569e202fac37a638f82cc7c89a1c6cb9c553d30b3d240f81a7", func := "pyx/pyxlaw03.MeterParts", spec := "meterParts", inPlace := ["sync/atomic.LoadInt64", "sync/atomic.CompareAndSwapInt64"], apart := false, narrowed := true }
def MeterPartsUptoSaid : Prop := meterPartsUptoRow.holds Try.pinned (OpenSpec.upto meterPartsSpec)

/-- 'pyxlaw03.MeterRefuses', WHERE WHAT IT READS IS OF BULK AT MOST 1048576: true; the input reads as it did. -/
def meterRefusesUptoRow : OpenClaim := { program := "ytifejkgppdjeoaa", sum := "e3c211b619bab0569e202fac37a638f82cc7c89a1c6cb9c553d30b3d240f81a7", func := "pyx/pyxlaw03.MeterRefuses", spec := "meterRefuses", inPlace := ["sync/atomic.LoadInt64", "sync/atomic.CompareAndSwapInt64"], apart := false, narrowed := true }
def MeterRefusesUptoSaid : Prop := meterRefusesUptoRow.holds Try.pinned (OpenSpec.upto meterRefusesSpec)

/-- 'pyxlaw01.WireMatchesReference', WHERE WHAT IT READS IS OF BULK AT MOST 1048576: true; the input reads as it did. -/
def wireMatchesReferenceUptoRow : OpenClaim := { program := "ytifejkgppdjeoaa", sum := "e3c211b619bab0569e202fac37a638f82cc7c89a1c6cb9c553d30b3d240f81a7", func := "pyx/pyxlaw01.WireMatchesReference", spec := "wireMatchesReference", apart := false, narrowed := true }
def WireMatchesReferenceUptoSaid : Prop := wireMatchesReferenceUptoRow.holds Try.pinned (OpenSpec.upto wireMatchesReferenceSpec)

/-- 'pyxlaw01.WirePuts', WHERE WHAT IT READS IS OF BULK AT MOST 1048576: true; the input reads as it did. -/
def wirePutsUptoRow : OpenClaim := { program := "ytifejkgppdjeoaa", sum := "e3c211b619bab0569e202fac37a638f82cc7c89a1c6cb9c553d30b3d240f81a7", func := "pyx/pyxlaw01.WirePuts", spec := "wirePuts", apart := false, narrowed := true }
def WirePutsUptoSaid : Prop := wirePutsUptoRow.holds Try.pinned (OpenSpec.upto wirePutsSpec)

/-- 'pyxlaw01.WireNil', WHERE WHAT IT READS IS OF BULK AT MOST 1048576: true; the input reads as it did. -/
def wireNilUptoRow : OpenClaim := { program := "ytifejkgppdjeoaa", sum := "e3c211b619bab0569e202fac37a638f82cc7c89a1c6cb9c553d30b3d240f81a7", func := "pyx/pyxlaw01.WireNil", spec := "wireNil", apart := false, narrowed := true }
def WireNilUptoSaid : Prop := wireNilUptoRow.holds Try.pinned (OpenSpec.upto wireNilSpec)

/-- 'pyxlaw05.BitsMatchesReference', WHERE WHAT IT READS IS OF BULK AT MOST 1048576: true; the input reads as it did. -/
def bitsMatchesReferenceUptoRow : OpenClaim := { program := "ytifejkgppdjeoaa", sum := "e3c211b619bab0569e202fac37a638f82cc7c89a1c6cb9c553d30b3d240f81a7", func := "pyx/pyxlaw05.BitsMatchesReference", spec := "bitsMatchesReference", apart := false, narrowed := true }
def BitsMatchesReferenceUptoSaid : Prop := bitsMatchesReferenceUptoRow.holds Try.pinned (OpenSpec.upto bitsMatchesReferenceSpec)

/-- 'pyxlaw05.BitsUnpacks', WHERE WHAT IT READS IS OF BULK AT MOST 1048576: true; the input reads as it did. -/
def bitsUnpacksUptoRow : OpenClaim := { program := "ytifejkgppdjeoaa", sum := "e3c211b619bab0569e202fac37a638f82cc7c89a1c6cb9c553d30b3d240f81a7", func := "pyx/pyxlaw05.BitsUnpacks", spec := "bitsUnpacks", apart := false, narrowed := true }
def BitsUnpacksUptoSaid : Prop := bitsUnpacksUptoRow.holds Try.pinned (OpenSpec.upto bitsUnpacksSpec)

/-- 'pyxlaw05.BitsInverse', WHERE WHAT IT READS IS OF BULK AT MOST 1048576: true; the input reads as it did. -/
def bitsInverseUptoRow : OpenClaim := { program := "ytifejkgppdjeoaa", sum := "e3c211b619bab0569e202fac37a638f82cc7c89a1c6cb9c553d30b3d240f81a7", func := "pyx/pyxlaw05.BitsInverse", spec := "bitsInverse", apart := false, narrowed := true }
def BitsInverseUptoSaid : Prop := bitsInverseUptoRow.holds Try.pinned (OpenSpec.upto bitsInverseSpec)

/-- 'pyxlaw05.BitsSingle', WHERE WHAT IT READS IS OF BULK AT MOST 1048576: true; the input reads as it did. -/
def bitsSingleUptoRow : OpenClaim := { program := "ytifejkgppdjeoaa", sum := "e3c211b619bab0569e202fac37a638f82cc7c89a1c6cb9c553d30b3d240f81a7", func := "pyx/pyxlaw05.BitsSingle", spec := "bitsSingle", apart := false, narrowed := true }
def BitsSingleUptoSaid : Prop := bitsSingleUptoRow.holds Try.pinned (OpenSpec.upto bitsSingleSpec)

/-- 'pyxlaw05.BitsLeast', WHERE WHAT IT READS IS OF BULK AT MOST 1048576: true; the input reads as it did. -/
def bitsLeastUptoRow : OpenClaim := { program := "ytifejkgppdjeoaa", sum := "e3c211b619bab0569e202fac37a638f82cc7c89a1c6cb9c553d30b3d240f81a7", func := "pyx/pyxlaw05.BitsLeast", spec := "bitsLeast", apart := false, narrowed := true }
def BitsLeastUptoSaid : Prop := bitsLeastUptoRow.holds Try.pinned (OpenSpec.upto bitsLeastSpec)

/-- 'pyxlaw01.WireJoins', WHERE WHAT IT READS IS OF BULK AT MOST 1048576: true; the input reads as it did. -/
def wireJoinsUptoRow : OpenClaim := { program := "ytifejkgppdjeoaa", sum := "e3c211b619bab0569e202fac37a638f82cc7c89a1c6cb9c553d30b3d240f81a7", func := "pyx/pyxlaw01.WireJoins", spec := "wireJoins", apart := false, narrowed := true }
def WireJoinsUptoSaid : Prop := wireJoinsUptoRow.holds Try.pinned (OpenSpec.upto wireJoinsSpec)

end Rows
end Go.Proofs.Ytifejkgppdjeoaa
