/- XmssJoins, the pure half. -/
import Derived.Test.YtgmnknhfeoleaaaGreatDoorZPXmssx25
import Derived.Test.YtgmnknhfeoleaaaGreatDoorZPXmssx19
import Derived.Test.YtgmnknhfeoleaaaGreatDoorZXXm1
import Derived.Test.YtgmnknhfeoleaaaGreatDoorZXmssSpread
import Derived.Test.YtgmnknhfeoleaaaGreatDoorZPXmssx36
import Derived.Test.YtgmnknhfeoleaaaGreatDoorZXXm2
namespace Go.Proofs.YtgmnknhfeoleaaaGreatDoor.PXmss
open Go.RowKit Go.Proofs.YtgmnknhfeoleaaaGreatDoorW.PrintWords Go.Proofs.YtgmnknhfeoleaaaGreatDoorW.PrintLast Go.Proofs.YtgmnknhfeoleaaaGreatDoorW.PrintMore Go.Proofs.YtgmnknhfeoleaaaGreatDoorW.Pu
set_option linter.unusedVariables false
theorem app_ev {g : Nat → Option (List Int)} (B r : List Int) (h : Ev g r) (hl : B.length + r.length < 140737488355328) : Ev (fun k => (g k).bind fun t => if B.length + t.length < 140737488355328 then some (B ++ t) else none) (B ++ r) :=
 Ev.bind h (Ev.const (if_pos hl))
theorem bytes4 (x : Int) (h0 : 0 ≤ x) : IsBytes [(x / 16777216) % 256, (x / 65536) % 256, (x / 256) % 256, x % 256] := by
 intro y hy
 simp only [List.mem_cons, List.not_mem_nil, or_false] at hy
 rcases hy with rfl | rfl | rfl | rfl <;> omega
theorem numbers_ev (a : Int) (h0 : 20 ≤ a) (h1 : a ≤ 25) : ∃ n h w : Nat, pyxref22_Numbers.f a = some [(n : Int), (h : Int), (w : Int)] ∧ n ≤ 64 ∧ h ≤ 20 ∧ w ≤ 131 ∧ 1 ≤ n := by
 rcases (show a = 20 ∨ a = 21 ∨ a = 22 ∨ a = 23 ∨ a = 24 ∨ a = 25 by omega) with rfl | rfl | rfl | rfl | rfl | rfl
 ·exact ⟨32, 10, 67, by kernel_rfl, by decide, by decide, by decide, by decide⟩
 ·exact ⟨32, 16, 67, by kernel_rfl, by decide, by decide, by decide, by decide⟩
 ·exact ⟨32, 20, 67, by kernel_rfl, by decide, by decide, by decide, by decide⟩
 ·exact ⟨64, 10, 131, by kernel_rfl, by decide, by decide, by decide, by decide⟩
 ·exact ⟨64, 16, 131, by kernel_rfl, by decide, by decide, by decide, by decide⟩
 ·exact ⟨64, 20, 131, by kernel_rfl, by decide, by decide, by decide, by decide⟩
def be4 (x : Int) : List Int := [(x / 16777216) % 256, (x / 65536) % 256, (x / 256) % 256, x % 256]
theorem be4_len (x : Int) : (be4 x).length = 4 := rfl
theorem make_eq (k : Nat) (a x s : Int) (n h w M : Nat) (hn : pyxref22_Numbers.f a = some [(n : Int), (h : Int), (w : Int)]) (hM : n * (1 + h + w) = M) (n1 : n ≤ 64) (n2 : h ≤ 20) (n3 : w ≤ 131) (hM2 : M ≤ 9728) :
  pyxref22_Make.f k a x s = (pyxref15_Spread.f k s (M : Int)).bind fun t => if (be4 x).length + t.length < 140737488355328 then some (be4 x ++ t) else none := by
 have e1 : wrap64 (1 + (h : Int)) = ((1 + h : Nat) : Int) := by rw [w64 (by omega) (by omega)]; omega
 have e2 : wrap64 (((1 + h : Nat) : Int) + (w : Int)) = ((1 + h + w : Nat) : Int) := by rw [w64 (by omega) (by omega)]; omega
 have e3 : wrap64 ((n : Int) * ((1 + h + w : Nat) : Int)) = (M : Int) := by
  rw [← Int.natCast_mul, hM, w64 (by omega) (by omega)]
 have q0 : rd [(n : Int), (h : Int), (w : Int)] 0 = n := rfl
 have q1 : rd [(n : Int), (h : Int), (w : Int)] 1 = h := rfl
 have q2 : rd [(n : Int), (h : Int), (w : Int)] 2 = w := rfl
 have l0 : 0 < (([(n : Int), (h : Int), (w : Int)].length : Nat) : Int) := by simp
 have l1 : 1 < (([(n : Int), (h : Int), (w : Int)].length : Nat) : Int) := by simp
 have l2 : 2 < (([(n : Int), (h : Int), (w : Int)].length : Nat) : Int) := by simp
 rw [pyxref22_Make.f, hn, Option.bind_some, Option.bind_some, if_pos l0, if_pos l1, if_pos l2, q0, q1, q2, e1, e2, e3]
 rfl
theorem make_ev (a x s : Int) (h0 : 20 ≤ a) (h1 : a ≤ 25) (hx : 0 ≤ x) : ∃ r, Ev (fun k => pyxref22_Make.f k a x s) r ∧ IsBytes r ∧ r.length ≤ 20000 ∧ ∃ n h w : Nat, pyxref22_Numbers.f a = some [(n : Int), (h : Int), (w : Int)] ∧ r.length = 4 + n * (1 + h + w) ∧ r.take 4 = be4 x := by
 obtain ⟨n, h, w, hn, n1, n2, n3, _⟩ := numbers_ev a h0 h1
 have hb1 : n * (1 + h + w) ≤ 64 * 152 := Nat.mul_le_mul n1 (by omega)
 obtain ⟨M, hM⟩ : ∃ M, n * (1 + h + w) = M := ⟨_, rfl⟩
 rw [hM] at hb1
 obtain ⟨r, r1, r2, r3⟩ := spread_ev s M (by omega)
 have hl : (be4 x ++ r).length = 4 + M := by rw [List.length_append, be4_len, r3]
 exact ⟨be4 x ++ r, Ev.congr (fun k => make_eq k a x s n h w M hn hM n1 n2 n3 (by omega)) (app_ev (be4 x) r r1 (by rw [be4_len, r3]; omega)), bytes_app (bytes4 x hx) r2, by rw [hl]; omega, n, h, w, hn, by rw [hl, hM], List.take_left' (be4_len x)⟩
end Go.Proofs.YtgmnknhfeoleaaaGreatDoor.PXmss

namespace Go.Proofs.YtgmnknhfeoleaaaGreatDoor.Pure
open Go.RowKit Go.Proofs.YtgmnknhfeoleaaaGreatDoor.PXmss Go.Proofs.YtgmnknhfeoleaaaGreatDoorW.PrintWords Go.Proofs.YtgmnknhfeoleaaaGreatDoorW.PrintLast Go.Proofs.YtgmnknhfeoleaaaGreatDoorW.PrintMore Go.Proofs.YtgmnknhfeoleaaaGreatDoorW.Pu
theorem flat_le (B : Nat) : ∀ (L : List (List Int)), (∀ y ∈ L, y.length ≤ B) → L.flatten.length ≤ L.length * B := by
 intro L
 induction L with
 | nil => intro _; simp
 | cons y L ih =>
  intro h
  have h1 := h y (by simp)
  have h2 := ih (fun z hz => h z (by simp [hz]))
  rw [List.flatten_cons, List.length_append, List.length_cons, Nat.add_mul, Nat.one_mul]
  omega
theorem joins_fin (a1 a2 : Int) (R : List Int) (O P : List (List Int)) (h0 : 0 ≤ a1) (h1 : a1 < 4294967296) (hO : O.length ≤ 131) (hP : P.length ≤ 20) (hR : R.length ≤ 64) (ho : ∀ y ∈ O, y.length ≤ 64) (hp : ∀ y ∈ P, y.length ≤ 64) :
  Ev (fun k => (xmss_Join.f a2 a1 R O P).bind fun b => (pyxref22_Join.f k a2 a1 R O P).bind fun b' => (pyxref01_Same.f k b.1 b'.1).bind fun t => if t = true then some (b.2 == b'.2) else some false) true := by
 have hf := flat_le 64 (partsOf R O P) (fun y hy => by
  rcases List.mem_cons.1 hy with rfl | hy
  ·exact hR
  ·exact (List.mem_append.1 hy).elim (ho y) (hp y))
 have hl : (partsOf R O P).length ≤ 152 := by simp [partsOf]; omega
 obtain ⟨r, ok, e1, e2, e3⟩ := join_agree a2 a1 R O P h0 h1 (by omega) (by omega) (by omega)
 refine Ev.congr (fun k => by rw [e1, Option.bind_some]) ?_
 refine Ev.bind e2 ?_
 have hs : Ev (fun k => pyxref01_Same.f k r r) true := by
  have := same_ev r r (by omega)
  simpa using this
 refine Ev.bind hs (Ev.const ?_)
 rw [if_pos rfl]
 simp
theorem sig_made (A : Int) (l : List Int) (hb : IsBytes l) (n h w : Nat) (h0 : 20 ≤ A) (h1 : A ≤ 25) (hn : pyxref22_Numbers.f A = some [(n : Int), (h : Int), (w : Int)]) (hl : l.length = 4 + n * (1 + h + w)) (ht : l.take 4 = be4 1) : xmss_Signature.f l = some (A, none) := by
 have hv : v256 (l.take 4) = 1 := by rw [ht]; decide
 rcases (show A = 20 ∨ A = 21 ∨ A = 22 ∨ A = 23 ∨ A = 24 ∨ A = 25 by omega) with rfl | rfl | rfl | rfl | rfl | rfl
 ·rw [show pyxref22_Numbers.f 20 = some [((32 : Nat) : Int), ((10 : Nat) : Int), ((67 : Nat) : Int)] from by kernel_rfl] at hn
  simp only [Option.some.injEq, List.cons.injEq, and_true, Int.natCast_inj] at hn
  obtain ⟨rfl, rfl, rfl⟩ := hn
  have hx : (l.length : Int) = 2500 := by omega
  rw [xmss_Signature.f, if_pos ⟨bytesOk_of hb, by omega⟩, hx, bysize_20, Option.bind_some]
  dsimp only
  rw [show xmss_Numbers.f 20 = some (32, 10, 67, true) from by kernel_rfl, Option.bind_some]
  dsimp only
  rw [if_pos ⟨by omega, by decide, by decide⟩, hv, if_neg (by decide)]
 ·rw [show pyxref22_Numbers.f 21 = some [((32 : Nat) : Int), ((16 : Nat) : Int), ((67 : Nat) : Int)] from by kernel_rfl] at hn
  simp only [Option.some.injEq, List.cons.injEq, and_true, Int.natCast_inj] at hn
  obtain ⟨rfl, rfl, rfl⟩ := hn
  have hx : (l.length : Int) = 2692 := by omega
  rw [xmss_Signature.f, if_pos ⟨bytesOk_of hb, by omega⟩, hx, bysize_21, Option.bind_some]
  dsimp only
  rw [show xmss_Numbers.f 21 = some (32, 16, 67, true) from by kernel_rfl, Option.bind_some]
  dsimp only
  rw [if_pos ⟨by omega, by decide, by decide⟩, hv, if_neg (by decide)]
 ·rw [show pyxref22_Numbers.f 22 = some [((32 : Nat) : Int), ((20 : Nat) : Int), ((67 : Nat) : Int)] from by kernel_rfl] at hn
  simp only [Option.some.injEq, List.cons.injEq, and_true, Int.natCast_inj] at hn
  obtain ⟨rfl, rfl, rfl⟩ := hn
  have hx : (l.length : Int) = 2820 := by omega
  rw [xmss_Signature.f, if_pos ⟨bytesOk_of hb, by omega⟩, hx, bysize_22, Option.bind_some]
  dsimp only
  rw [show xmss_Numbers.f 22 = some (32, 20, 67, true) from by kernel_rfl, Option.bind_some]
  dsimp only
  rw [if_pos ⟨by omega, by decide, by decide⟩, hv, if_neg (by decide)]
 ·rw [show pyxref22_Numbers.f 23 = some [((64 : Nat) : Int), ((10 : Nat) : Int), ((131 : Nat) : Int)] from by kernel_rfl] at hn
  simp only [Option.some.injEq, List.cons.injEq, and_true, Int.natCast_inj] at hn
  obtain ⟨rfl, rfl, rfl⟩ := hn
  have hx : (l.length : Int) = 9092 := by omega
  rw [xmss_Signature.f, if_pos ⟨bytesOk_of hb, by omega⟩, hx, bysize_23, Option.bind_some]
  dsimp only
  rw [show xmss_Numbers.f 23 = some (64, 10, 131, true) from by kernel_rfl, Option.bind_some]
  dsimp only
  rw [if_pos ⟨by omega, by decide, by decide⟩, hv, if_neg (by decide)]
 ·rw [show pyxref22_Numbers.f 24 = some [((64 : Nat) : Int), ((16 : Nat) : Int), ((131 : Nat) : Int)] from by kernel_rfl] at hn
  simp only [Option.some.injEq, List.cons.injEq, and_true, Int.natCast_inj] at hn
  obtain ⟨rfl, rfl, rfl⟩ := hn
  have hx : (l.length : Int) = 9476 := by omega
  rw [xmss_Signature.f, if_pos ⟨bytesOk_of hb, by omega⟩, hx, bysize_24, Option.bind_some]
  dsimp only
  rw [show xmss_Numbers.f 24 = some (64, 16, 131, true) from by kernel_rfl, Option.bind_some]
  dsimp only
  rw [if_pos ⟨by omega, by decide, by decide⟩, hv, if_neg (by decide)]
 ·rw [show pyxref22_Numbers.f 25 = some [((64 : Nat) : Int), ((20 : Nat) : Int), ((131 : Nat) : Int)] from by kernel_rfl] at hn
  simp only [Option.some.injEq, List.cons.injEq, and_true, Int.natCast_inj] at hn
  obtain ⟨rfl, rfl, rfl⟩ := hn
  have hx : (l.length : Int) = 9732 := by omega
  rw [xmss_Signature.f, if_pos ⟨bytesOk_of hb, by omega⟩, hx, bysize_25, Option.bind_some]
  dsimp only
  rw [show xmss_Numbers.f 25 = some (64, 20, 131, true) from by kernel_rfl, Option.bind_some]
  dsimp only
  rw [if_pos ⟨by omega, by decide, by decide⟩, hv, if_neg (by decide)]
theorem XmssJoins : pyxlaw22_XmssJoins.Pure := by
 intro a0 a1 a2 a3 a4 h0 h1 h2 h3 h4
 have ha0 := wf_u8 h0
 have ha1 := wf_u32 h1
 have ha3 := wf_u8 h3
 have ha4 := wf_u8 h4
 have e0 : wrap64 a0 = a0 := w64 (by omega) (by omega)
 have e1 : Int.tmod a0 6 = a0 % 6 := tmod_nn (by omega)
 have e2 : wrap64 (20 + a0 % 6) = 20 + a0 % 6 := w64 (by omega) (by omega)
 have e3 : Int.tmod a3 5 = a3 % 5 := tmod_nn (by omega)
 have e4 : wrap64 a4 = a4 := w64 (by omega) (by omega)
 have e5 : Int.tmod a4 2 = a4 % 2 := tmod_nn (by omega)
 obtain ⟨A, hA⟩ : ∃ A, A = 20 + a0 % 6 := ⟨_, rfl⟩
 obtain ⟨K, hK⟩ : ∃ K : Nat, (K : Int) = a4 % 2 ∧ K ≤ 1 := ⟨(a4 % 2).toNat, by omega, by omega⟩
 obtain ⟨m, m1, m2, m3, n, h, w, hn, hl, ht⟩ := make_ev A 1 a1 (by omega) (by omega) (by omega)
 have hsig := sig_made A m m2 n h w (by omega) (by omega) hn hl ht
 obtain ⟨a, e, cc, t, x1, x2, x3, x4, x5⟩ := sig_agree m m2 (by omega)
 rw [hsig] at x1
 obtain ⟨rfl, rfl⟩ : A = a ∧ none = e := by
  have := Option.some.inj x1
  exact Prod.mk.inj this
 have hc : cc = 0 := by
  by_cases hc : cc = 0
  ·exact hc
  ·exact absurd rfl (x5 hc).2.1
 obtain ⟨_, _, _, ht0⟩ := x4 hc
 subst hc ht0
 obtain ⟨x, R, O, P, S1, S2, S3, r1, r2, o1, p1, ho, hp⟩ := split_agree m m2 (by omega) A hsig x2
 have ho' : ∀ y ∈ O, y.length ≤ 64 := fun y hy => by rw [ho y hy]; exact r1
 have hp' : ∀ y ∈ P, y.length ≤ 64 := fun y hy => by rw [hp y hy]; exact r1
 have cut : ∀ N : Nat, 1 ≤ N → N ≤ 1000 → wrap64 ((N : Int) - (K : Int)) = ((N - K : Nat) : Int) := fun N h1 h2 => by rw [w64 (by omega) (by omega)]; omega
 have H : Ev (fun k => pyxlaw22_XmssJoins.f k a0 a1 a2 a3 a4) true := by
  refine Ev.congr (fun k => by rw [pyxlaw22_XmssJoins.f, pyxlaw22_awake.f, Option.bind_some, if_pos rfl, e0, e1, e2, ← hA, e3, e4, e5, ← hK.1]) ?_
  refine Ev.bind m1 (Ev.bind S2 ?_)
  dsimp only
  by_cases c0 : a3 % 5 = 0
  ·refine Ev.congr (fun k => if_pos c0) ?_
   refine Ev.congr (fun k => by rw [cut R.length (by omega) (by omega), if_pos (by omega), if_pos (by omega), Option.bind_some, Int.toNat_natCast]) ?_
   exact joins_fin a1 a2 _ O P ha1.1 ha1.2 (by omega) (by omega) (by rw [List.length_take]; omega) ho' hp'
  ·refine Ev.congr (fun k => if_neg c0) ?_
   by_cases c1 : a3 % 5 = 1
   ·refine Ev.congr (fun k => if_pos c1) ?_
    have hr0 : rd_L10 O 0 = O[0]'(by omega) := rdX_get (l := O) (i := 0) (by omega)
    have hlr : (rd_L10 O 0).length = R.length := by rw [hr0]; exact ho _ (List.getElem_mem _)
    refine Ev.congr (fun k => by rw [if_pos (by omega), hlr, cut R.length (by omega) (by omega), if_pos (by omega), if_pos (by omega), Option.bind_some, Int.toNat_natCast]) ?_
    exact joins_fin a1 a2 R _ P ha1.1 ha1.2 (by rw [List.length_set]; omega) (by omega) r1 (fun y hy => by
     rcases List.mem_or_eq_of_mem_set hy with hy | rfl
     ·exact ho' y hy
     ·rw [List.length_take, hlr]; omega) hp'
   ·refine Ev.congr (fun k => if_neg c1) ?_
    by_cases c2 : a3 % 5 = 2
    ·refine Ev.congr (fun k => if_pos c2) ?_
     have hr0 : rd_L10 P 0 = P[0]'(by omega) := rdX_get (l := P) (i := 0) (by omega)
     have hlr : (rd_L10 P 0).length = R.length := by rw [hr0]; exact hp _ (List.getElem_mem _)
     refine Ev.congr (fun k => by rw [if_pos (by omega), hlr, cut R.length (by omega) (by omega), if_pos (by omega), if_pos (by omega), Option.bind_some, Int.toNat_natCast]) ?_
     exact joins_fin a1 a2 R O _ ha1.1 ha1.2 (by omega) (by rw [List.length_set]; omega) r1 ho' (fun y hy => by
      rcases List.mem_or_eq_of_mem_set hy with hy | rfl
      ·exact hp' y hy
      ·rw [List.length_take, hlr]; omega)
    ·refine Ev.congr (fun k => if_neg c2) ?_
     by_cases c3 : a3 % 5 = 3
     ·refine Ev.congr (fun k => if_pos c3) ?_
      refine Ev.congr (fun k => by rw [cut O.length (by omega) (by omega), if_pos (by omega), if_pos (by omega), Option.bind_some, Int.toNat_natCast]) ?_
      exact joins_fin a1 a2 R _ P ha1.1 ha1.2 (by rw [List.length_take]; omega) (by omega) r1 (fun y hy => ho' y (List.mem_of_mem_take hy)) hp'
     ·refine Ev.congr (fun k => if_neg c3) ?_
      refine Ev.congr (fun k => by rw [cut P.length (by omega) (by omega), if_pos (by omega), if_pos (by omega), Option.bind_some, Int.toNat_natCast]) ?_
      exact joins_fin a1 a2 R O _ ha1.1 ha1.2 (by omega) (by rw [List.length_take]; omega) r1 ho' (fun y hy => hp' y (List.mem_of_mem_take hy))
 exact H.rounds
end Go.Proofs.YtgmnknhfeoleaaaGreatDoor.Pure
