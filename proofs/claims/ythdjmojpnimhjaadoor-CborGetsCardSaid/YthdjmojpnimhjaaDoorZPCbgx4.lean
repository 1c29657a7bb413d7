import Derived.Test.YthdjmojpnimhjaaDoorZPCbgx0
namespace Go.Proofs.YthdjmojpnimhjaaDoor.PCbg
open Go.RowKit Go.Proofs.YthdjmojpnimhjaaDoorW.PrintWords Go.Proofs.YthdjmojpnimhjaaDoorW.PrintLast Go.Proofs.YthdjmojpnimhjaaDoorW.PrintMore
set_option linter.unusedVariables false
set_option linter.unusedSimpArgs false
theorem cb_load (w : World) (A : Option Addr) (c : Nat) (l : List Int) (h : Kd.C (Kd.int .u8) w A l.length l) : (Extern.Bytes.bytesOf (.slice A l.length c)).run Tryd.prog w = .ok ⟨(Lib.bytesOf l).toArray⟩ w := by
 cases A with
 | none =>
  cases l with
  | nil => rfl
  | cons x xs =>
   obtain ⟨ad, e, _⟩ := Kd.at_int h 0 (by omega) (by simp)
   cases e
 | some a =>
  have hl := Lib.run_loadBytesX (P := Tryd.prog) w l a .empty (fun j x hj => by
   have hjl := (List.getElem?_eq_some_iff.1 hj).1
   obtain ⟨ad, e, hx⟩ := Kd.at_int h (j : Int) (by omega) (by omega)
   cases e
   rw [Int.toNat_natCast] at hx
   rw [hx, rd, Int.toNat_natCast, List.getD_eq_getElem?_getD, hj]
   rfl)
  have he : (⟨ByteArray.empty.data ++ (Lib.bytesOf l).toArray⟩ : ByteArray) = ⟨(Lib.bytesOf l).toArray⟩ := by
   apply ByteArray.ext
   show (#[] : Array UInt8) ++ (Lib.bytesOf l).toArray = (Lib.bytesOf l).toArray
   simp
  rw [he] at hl
  exact hl
theorem cb_compare (w : World) (A : Option Addr) (c : Nat) (l : List Int) (h : Kd.C (Kd.int .u8) w A l.length l) (A' : Option Addr) (c' : Nat) (l' : List Int) (h' : Kd.C (Kd.int .u8) w A' l'.length l') :
  (Extern.BytealgCompare.compare #[.slice A l.length c, .slice A' l'.length c']).run Tryd.prog w = .ok (.int .i64 (Lib.compareBytes (Lib.bytesOf l) (Lib.bytesOf l'))) w := by
 change Sem.run Tryd.prog (do pure (goInt (Extern.BytealgCompare.cmp (← Extern.Bytes.bytesOf (.slice A l.length c)) (← Extern.Bytes.bytesOf (.slice A' l'.length c'))))) w = _
 simp only [Sem.run_bind, Sem.run_pure, cb_load w A c l h, cb_load w A' c' l' h', Result.andThen]
 rw [Lib.cmp_eq]
 rfl
def bytes_Compare.f (l0 l1 : List Int) : Option Int := some (Lib.compareBytes (Lib.bytesOf l0) (Lib.bytesOf l1))
set_option maxHeartbeats 2000000 in
set_option maxRecDepth 100000 in
theorem bytes_Compare.calls (A0 : Option Addr) (c0 : Nat) (l0 : List Int) (A1 : Option Addr) (c1 : Nat) (l1 : List Int) (r : Int) (w : World) (hr0 : Kd.C (Kd.int .u8) w A0 l0.length l0) (hc0 : l0.length ≤ c0) (hr1 : Kd.C (Kd.int .u8) w A1 l1.length l1) (hc1 : l1.length ≤ c1) (h : bytes_Compare.f l0 l1 = some r) :
  Calls Tryd.prog 100 #[.slice A0 l0.length c0, .slice A1 l1.length c1] w fun e w' => e = .returned (.int .i64 r) ∧ Drawn0 w w' := by
 obtain rfl := Option.some.inj h
 have HC := cb_compare w A0 c0 l0 hr0 A1 c1 l1 hr1
 clear h
 go_enter Tryd.func100, Tryd.ntmps100
 go_wp2
 rw [run_callFunc_extern Tryd.func121 (by kernel_rfl) (by kernel_rfl) (by kernel_rfl) (e := Extern.BytealgCompare.compare) (by kernel_rfl), HC]
 simp only [Result.andThen]
 rw [Oper.upon_value]
 go_wp2
 go_ret
 exact ⟨rfl, Drawn0.refl _⟩
end Go.Proofs.YthdjmojpnimhjaaDoor.PCbg
