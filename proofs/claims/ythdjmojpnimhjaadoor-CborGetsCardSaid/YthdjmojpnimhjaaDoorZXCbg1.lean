/- cbor: heads and leaves, what they are as plain lists; plain lemmas, no condition. -/
import Derived.Test.YthdjmojpnimhjaaDoorZPCbgx9
import Derived.Test.YthdjmojpnimhjaaDoorZPCbgx15
import Derived.Test.YthdjmojpnimhjaaDoorZPCbgx18
import Derived.Test.YthdjmojpnimhjaaDoorZPCbgx19
import Derived.Test.YthdjmojpnimhjaaDoorZPCbgx6
import Derived.Test.YthdjmojpnimhjaaDoorZXPure
namespace Go.Proofs.YthdjmojpnimhjaaDoor.PCbg
open Go.RowKit Go.Proofs.YthdjmojpnimhjaaDoorW.PrintWords Go.Proofs.YthdjmojpnimhjaaDoorW.PrintLast Go.Proofs.YthdjmojpnimhjaaDoorW.PrintMore Go.Proofs.YthdjmojpnimhjaaDoorW.Pu
set_option linter.unusedVariables false
set_option linter.unusedSimpArgs false
def hs (t n : Int) : List Int := if n < 24 then [t * 32 + n] else if n < 256 then [t * 32 + 24, n % 256] else if n < 65536 then [t * 32 + 25, n / 256 % 256, n % 256] else if n < 4294967296 then [t * 32 + 26, n / 16777216 % 256, n / 65536 % 256, n / 256 % 256, n % 256] else [t * 32 + 27, n / 72057594037927936 % 256, n / 281474976710656 % 256, n / 1099511627776 % 256, n / 4294967296 % 256, n / 16777216 % 256, n / 65536 % 256, n / 256 % 256, n % 256]
theorem rd_T34_cons (l : List S34) (i : Nat) (h : i < l.length) : rd_T34 l (i : Int) = l[i] := by
 unfold rd_T34
 rw [Int.toNat_natCast, List.getD_eq_getElem?_getD, List.getElem?_eq_getElem h]
 rfl
theorem rd_T27_cons (l : List S27) (i : Nat) (h : i < l.length) : rd_T27 l (i : Int) = l[i] := by
 unfold rd_T27
 rw [Int.toNat_natCast, List.getD_eq_getElem?_getD, List.getElem?_eq_getElem h]
 rfl
end Go.Proofs.YthdjmojpnimhjaaDoor.PCbg
