/- xmss: the reference's keys and signatures, totals: no condition. -/
import Derived.Test.YtgmnknhfeoleaaaGreatDoorZPXmssx25
import Derived.Test.YtgmnknhfeoleaaaGreatDoorZPXmssx19
import Derived.Test.YtgmnknhfeoleaaaGreatDoorZXXm1
import Derived.Test.YtgmnknhfeoleaaaGreatDoorZXmssSpread
namespace Go.Proofs.YtgmnknhfeoleaaaGreatDoor.PXmss
open Go.RowKit Go.Proofs.YtgmnknhfeoleaaaGreatDoorW.PrintWords Go.Proofs.YtgmnknhfeoleaaaGreatDoorW.PrintLast Go.Proofs.YtgmnknhfeoleaaaGreatDoorW.PrintMore Go.Proofs.YtgmnknhfeoleaaaGreatDoorW.Pu
set_option linter.unusedVariables false
theorem app_ev {g : Nat → Option (List Int)} (B r : List Int) (h : Ev g r) (hl : B.length + r.length < 140737488355328) : Ev (fun k => (g k).bind fun t => if B.length + t.length < 140737488355328 then some (B ++ t) else none) (B ++ r) :=
  Ev.bind h (Ev.const (if_pos hl))
theorem bytes4 (x : Int) (h0 : 0 ≤ x) : IsBytes [(x / 16777216) % 256, (x / 65536) % 256, (x / 256) % 256, x % 256] := by
  intro y hy
  simp only [List.mem_cons, List.not_mem_nil, or_false] at hy
  rcases hy with rfl | rfl | rfl | rfl <;> omega
theorem numbers_ev (a : Int) (h0 : 20 ≤ a) (h1 : a ≤ 25) : ∃ n h w : Nat, pyxref22_Numbers.f a = some [(n : Int), (h : Int), (w : Int)] ∧ n ≤ 64 ∧ h ≤ 20 ∧ w ≤ 131 ∧ 1 ≤ n := by
  rcases (show a = 20 ∨ a = 21 ∨ a = 22 ∨ a = 23 ∨ a = 24 ∨ a = 25 by omega) with rfl | rfl | rfl | rfl | rfl | rfl
  · exact ⟨32, 10, 67, by kernel_rfl, by decide, by decide, by decide, by decide⟩
  · exact ⟨32, 16, 67, by kernel_rfl, by decide, by decide, by decide, by decide⟩
  · exact ⟨32, 20, 67, by kernel_rfl, by decide, by decide, by decide, by decide⟩
  · exact ⟨64, 10, 131, by kernel_rfl, by decide, by decide, by decide, by decide⟩
  · exact ⟨64, 16, 131, by kernel_rfl, by decide, by decide, by decide, by decide⟩
  · exact ⟨64, 20, 131, by kernel_rfl, by decide, by decide, by decide, by decide⟩
def be4 (x : Int) : List Int := [(x / 16777216) % 256, (x / 65536) % 256, (x / 256) % 256, x % 256]
theorem be4_len (x : Int) : (be4 x).length = 4 := rfl
theorem make_eq (k : Nat) (a x s : Int) (n h w M : Nat) (hn : pyxref22_Numbers.f a = some [(n : Int), (h : Int), (w : Int)]) (hM : n * (1 + h + w) = M) (n1 : n ≤ 64) (n2 : h ≤ 20) (n3 : w ≤ 131) (hM2 : M ≤ 9728) :
    pyxref22_Make.f k a x s = (pyxref15_Spread.f k s (M : Int)).bind fun t => if (be4 x).length + t.length < 140737488355328 then some (be4 x ++ t) else none := by
  have e1 : wrap64 (1 + (h : Int)) = ((1 + h : Nat) : Int) := by rw [w64 (by omega) (by omega)]; omega
  have e2 : wrap64 (((1 + h : Nat) : Int) + (w : Int)) = ((1 + h + w : Nat) : Int) := by rw [w64 (by omega) (by omega)]; omega
  have e3 : wrap64 ((n : Int) * ((1 + h + w : Nat) : Int)) = (M : Int) := by
    rw [← Int.natCast_mul, hM, w64 (by omega) (by omega)]
  have q0 : rd [(n : Int), (h : Int), (w : Int)] 0 = n := rfl
  have q1 : rd [(n : Int), (h : Int), (w : Int)] 1 = h := rfl
  have q2 : rd [(n : Int), (h : Int), (w : Int)] 2 = w := rfl
  have l0 : 0 < (([(n : Int), (h : Int), (w : Int)].length : Nat) : Int) := by simp
  have l1 : 1 < (([(n : Int), (h : Int), (w : Int)].length : Nat) : Int) := by simp
  have l2 : 2 < (([(n : Int), (h : Int), (w : Int)].length : Nat) : Int) := by simp
  rw [pyxref22_Make.f, hn, Option.bind_some, Option.bind_some, if_pos l0, if_pos l1, if_pos l2, q0, q1, q2, e1, e2, e3]
  rfl
theorem make_ev (a x s : Int) (h0 : 20 ≤ a) (h1 : a ≤ 25) (hx : 0 ≤ x) : ∃ r, Ev (fun k => pyxref22_Make.f k a x s) r ∧ IsBytes r ∧ r.length ≤ 20000 ∧ ∃ n h w : Nat, pyxref22_Numbers.f a = some [(n : Int), (h : Int), (w : Int)] ∧ r.length = 4 + n * (1 + h + w) ∧ r.take 4 = be4 x := by
  obtain ⟨n, h, w, hn, n1, n2, n3, _⟩ := numbers_ev a h0 h1
  have hb1 : n * (1 + h + w) ≤ 64 * 152 := Nat.mul_le_mul n1 (by omega)
  obtain ⟨M, hM⟩ : ∃ M, n * (1 + h + w) = M := ⟨_, rfl⟩
  rw [hM] at hb1
  obtain ⟨r, r1, r2, r3⟩ := spread_ev s M (by omega)
  have hl : (be4 x ++ r).length = 4 + M := by rw [List.length_append, be4_len, r3]
  exact ⟨be4 x ++ r, Ev.congr (fun k => make_eq k a x s n h w M hn hM n1 n2 n3 (by omega)) (app_ev (be4 x) r r1 (by rw [be4_len, r3]; omega)), bytes_app (bytes4 x hx) r2, by rw [hl]; omega, n, h, w, hn, by rw [hl, hM], List.take_left' (be4_len x)⟩
theorem makekey_eq (k : Nat) (a s : Int) (n h w M : Nat) (hn : pyxref22_Numbers.f a = some [(n : Int), (h : Int), (w : Int)]) (hM : 2 * n = M) (n1 : n ≤ 64) (B : List Int) (hB : B = [0, 0, 0, (wrap64 (a - 19)) % 256]) :
    pyxref22_MakeKey.f k a s = (pyxref15_Spread.f k s (M : Int)).bind fun t => if B.length + t.length < 140737488355328 then some (B ++ t) else none := by
  have e1 : wrap64 (2 * (n : Int)) = (M : Int) := by rw [w64 (by omega) (by omega)]; omega
  have q0 : rd [(n : Int), (h : Int), (w : Int)] 0 = n := rfl
  have l0 : 0 < (([(n : Int), (h : Int), (w : Int)].length : Nat) : Int) := by simp
  rw [pyxref22_MakeKey.f, Option.bind_some, hn, Option.bind_some, if_pos l0, q0, e1, hB]
theorem makekey_ev (a s : Int) (h0 : 20 ≤ a) (h1 : a ≤ 25) : ∃ r, Ev (fun k => pyxref22_MakeKey.f k a s) r ∧ IsBytes r ∧ r.length ≤ 20000 := by
  obtain ⟨n, h, w, hn, n1, n2, n3, _⟩ := numbers_ev a h0 h1
  obtain ⟨M, hM⟩ : ∃ M, 2 * n = M := ⟨_, rfl⟩
  obtain ⟨r, r1, r2, r3⟩ := spread_ev s M (by omega)
  obtain ⟨B, hB⟩ : ∃ B : List Int, B = [0, 0, 0, (wrap64 (a - 19)) % 256] := ⟨_, rfl⟩
  have hb4 : IsBytes B := by
    rw [hB]
    intro y hy
    simp only [List.mem_cons, List.not_mem_nil, or_false] at hy
    rcases hy with rfl | rfl | rfl | rfl <;> omega
  have hlB : B.length = 4 := by rw [hB]; rfl
  exact ⟨B ++ r, Ev.congr (fun k => makekey_eq k a s n h w M hn hM n1 B hB) (app_ev B r r1 (by rw [hlB, r3]; omega)), bytes_app hb4 r2, by rw [List.length_append, hlB, r3]; omega⟩
end Go.Proofs.YtgmnknhfeoleaaaGreatDoor.PXmss
