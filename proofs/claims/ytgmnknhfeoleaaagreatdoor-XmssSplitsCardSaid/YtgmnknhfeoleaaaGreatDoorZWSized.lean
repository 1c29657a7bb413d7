import Derived.Test.YtgmnknhfeoleaaaGreatDoorZPXmssx25
import Derived.Test.YtgmnknhfeoleaaaGreatDoorZPXmssx19
import Derived.Test.YtgmnknhfeoleaaaGreatDoorZXXm1
import Derived.Test.YtgmnknhfeoleaaaGreatDoorZXmssSpread
import Derived.Test.YtgmnknhfeoleaaaGreatDoorZPXmssx33
import Derived.Test.YtgmnknhfeoleaaaGreatDoorZXXm2
import Derived.SizedLaws
import Derived.ChangeSlices
namespace Go.Proofs.YtgmnknhfeoleaaaGreatDoor.PXmss
open Go.RowKit Go.Proofs.YtgmnknhfeoleaaaGreatDoorW.PrintWords Go.Proofs.YtgmnknhfeoleaaaGreatDoorW.PrintLast Go.Proofs.YtgmnknhfeoleaaaGreatDoorW.PrintMore Go.Proofs.YtgmnknhfeoleaaaGreatDoorW.Pu
set_option linter.unusedVariables false
theorem app_ev {g : Nat → Option (List Int)} (B r : List Int) (h : Ev g r) (hl : B.length + r.length < 140737488355328) : Ev (fun k => (g k).bind fun t => if B.length + t.length < 140737488355328 then some (B ++ t) else none) (B ++ r) :=
 Ev.bind h (Ev.const (if_pos hl))
theorem bytes4 (x : Int) (h0 : 0 ≤ x) : IsBytes [(x / 16777216) % 256, (x / 65536) % 256, (x / 256) % 256, x % 256] := by
 intro y hy
 simp only [List.mem_cons, List.not_mem_nil, or_false] at hy
 rcases hy with rfl | rfl | rfl | rfl <;> omega
theorem numbers_ev (a : Int) (h0 : 20 ≤ a) (h1 : a ≤ 25) : ∃ n h w : Nat, pyxref22_Numbers.f a = some [(n : Int), (h : Int), (w : Int)] ∧ n ≤ 64 ∧ h ≤ 20 ∧ w ≤ 131 ∧ 1 ≤ n := by
 rcases (show a = 20 ∨ a = 21 ∨ a = 22 ∨ a = 23 ∨ a = 24 ∨ a = 25 by omega) with rfl | rfl | rfl | rfl | rfl | rfl
 ·exact ⟨32, 10, 67, by kernel_rfl, by decide, by decide, by decide, by decide⟩
 ·exact ⟨32, 16, 67, by kernel_rfl, by decide, by decide, by decide, by decide⟩
 ·exact ⟨32, 20, 67, by kernel_rfl, by decide, by decide, by decide, by decide⟩
 ·exact ⟨64, 10, 131, by kernel_rfl, by decide, by decide, by decide, by decide⟩
 ·exact ⟨64, 16, 131, by kernel_rfl, by decide, by decide, by decide, by decide⟩
 ·exact ⟨64, 20, 131, by kernel_rfl, by decide, by decide, by decide, by decide⟩
def be4 (x : Int) : List Int := [(x / 16777216) % 256, (x / 65536) % 256, (x / 256) % 256, x % 256]
theorem be4_len (x : Int) : (be4 x).length = 4 := rfl
theorem make_eq (k : Nat) (a x s : Int) (n h w M : Nat) (hn : pyxref22_Numbers.f a = some [(n : Int), (h : Int), (w : Int)]) (hM : n * (1 + h + w) = M) (n1 : n ≤ 64) (n2 : h ≤ 20) (n3 : w ≤ 131) (hM2 : M ≤ 9728) :
  pyxref22_Make.f k a x s = (pyxref15_Spread.f k s (M : Int)).bind fun t => if (be4 x).length + t.length < 140737488355328 then some (be4 x ++ t) else none := by
 have e1 : wrap64 (1 + (h : Int)) = ((1 + h : Nat) : Int) := by rw [w64 (by omega) (by omega)]; omega
 have e2 : wrap64 (((1 + h : Nat) : Int) + (w : Int)) = ((1 + h + w : Nat) : Int) := by rw [w64 (by omega) (by omega)]; omega
 have e3 : wrap64 ((n : Int) * ((1 + h + w : Nat) : Int)) = (M : Int) := by
  rw [← Int.natCast_mul, hM, w64 (by omega) (by omega)]
 have q0 : rd [(n : Int), (h : Int), (w : Int)] 0 = n := rfl
 have q1 : rd [(n : Int), (h : Int), (w : Int)] 1 = h := rfl
 have q2 : rd [(n : Int), (h : Int), (w : Int)] 2 = w := rfl
 have l0 : 0 < (([(n : Int), (h : Int), (w : Int)].length : Nat) : Int) := by simp
 have l1 : 1 < (([(n : Int), (h : Int), (w : Int)].length : Nat) : Int) := by simp
 have l2 : 2 < (([(n : Int), (h : Int), (w : Int)].length : Nat) : Int) := by simp
 rw [pyxref22_Make.f, hn, Option.bind_some, Option.bind_some, if_pos l0, if_pos l1, if_pos l2, q0, q1, q2, e1, e2, e3]
 rfl
theorem make_ev (a x s : Int) (h0 : 20 ≤ a) (h1 : a ≤ 25) (hx : 0 ≤ x) : ∃ r, Ev (fun k => pyxref22_Make.f k a x s) r ∧ IsBytes r ∧ r.length ≤ 20000 ∧ ∃ n h w : Nat, pyxref22_Numbers.f a = some [(n : Int), (h : Int), (w : Int)] ∧ r.length = 4 + n * (1 + h + w) ∧ r.take 4 = be4 x := by
 obtain ⟨n, h, w, hn, n1, n2, n3, _⟩ := numbers_ev a h0 h1
 have hb1 : n * (1 + h + w) ≤ 64 * 152 := Nat.mul_le_mul n1 (by omega)
 obtain ⟨M, hM⟩ : ∃ M, n * (1 + h + w) = M := ⟨_, rfl⟩
 rw [hM] at hb1
 obtain ⟨r, r1, r2, r3⟩ := spread_ev s M (by omega)
 have hl : (be4 x ++ r).length = 4 + M := by rw [List.length_append, be4_len, r3]
 exact ⟨be4 x ++ r, Ev.congr (fun k => make_eq k a x s n h w M hn hM n1 n2 n3 (by omega)) (app_ev (be4 x) r r1 (by rw [be4_len, r3]; omega)), bytes_app (bytes4 x hx) r2, by rw [hl]; omega, n, h, w, hn, by rw [hl, hM], List.take_left' (be4_len x)⟩
end Go.Proofs.YtgmnknhfeoleaaaGreatDoor.PXmss

namespace Go.Proofs.YtgmnknhfeoleaaaGreatDoor.Pure
open Go.RowKit Go.Proofs.YtgmnknhfeoleaaaGreatDoor.PXmss Go.Proofs.YtgmnknhfeoleaaaGreatDoorW.PrintWords Go.Proofs.YtgmnknhfeoleaaaGreatDoorW.PrintLast Go.Proofs.YtgmnknhfeoleaaaGreatDoorW.PrintMore Go.Proofs.YtgmnknhfeoleaaaGreatDoorW.Pu
theorem same_self (a : List Int) (h : a.length < 1000000000) : Ev (fun k => pyxref01_Same.f k a a) true := by
 have := same_ev a a (by omega)
 simpa using this
theorem law_l1 (s : List Int) (a x : Int) (R : List Int) (O P : List (List Int)) (hP : P.length < 1000) (hl : ∀ y ∈ P, y.length < 1000) (hj : xmss_Join.f a x R O P = some (s, true)) (hs : s.length < 1000000000) : ∀ (d i : Nat), P.length - i = d → i ≤ P.length →
  Ev (fun k => pyxlaw22_XmssSplits.l1 k s (i : Int) a x R O P a x R O P) true := by
 intro d
 induction d with
 | zero =>
  intro i e hi
  refine Ev.step (fun k => by rw [pyxlaw22_XmssSplits.l1, if_neg (by omega), hj, Option.bind_some, if_pos rfl]) ?_
  exact Ev.bind (same_self s hs) (Ev.const rfl)
 | succ d ih =>
  intro i e hi
  have hlt : i < P.length := by omega
  refine Ev.step (fun k => by rw [pyxlaw22_XmssSplits.l1, if_pos (by omega), if_pos (by omega), if_pos (by omega), wsucc (by omega)]) ?_
  refine Ev.bind (same_self _ (by rw [rdX_get hlt]; have := hl _ (List.getElem_mem hlt); omega)) ?_
  exact Ev.congr (fun k => if_pos rfl) (ih (i + 1) (by omega) (by omega))
theorem law_l0 (s : List Int) (a x : Int) (R : List Int) (O P : List (List Int)) (hO : O.length < 1000) (hl : ∀ y ∈ O, y.length < 1000) (hn : Ev (fun k => pyxlaw22_XmssSplits.l1 k s ((0 : Nat) : Int) a x R O P a x R O P) true) : ∀ (d i : Nat), O.length - i = d → i ≤ O.length →
  Ev (fun k => pyxlaw22_XmssSplits.l0 k s (i : Int) a x R O P a x R O P) true := by
 intro d
 induction d with
 | zero =>
  intro i e hi
  exact Ev.step' hn (fun k => by rw [pyxlaw22_XmssSplits.l0, if_neg (by omega)]; rfl)
 | succ d ih =>
  intro i e hi
  have hlt : i < O.length := by omega
  refine Ev.step (fun k => by rw [pyxlaw22_XmssSplits.l0, if_pos (by omega), if_pos (by omega), if_pos (by omega), wsucc (by omega)]) ?_
  refine Ev.bind (same_self _ (by rw [rdX_get hlt]; have := hl _ (List.getElem_mem hlt); omega)) ?_
  exact Ev.congr (fun k => if_pos rfl) (ih (i + 1) (by omega) (by omega))
theorem XmssSplits : pyxlaw22_XmssSplits.Pure := by
 intro a0 a1 a2 l h0 h1 h2 _ _ hl
 have ha0 := wf_u8 h0
 have ha1 := wf_u32 h1
 have hw : ∀ x ∈ l, Wf65 x := fun x hx => ⟨(hl x hx).1, (hl x hx).2.1, (hl x hx).2.2.1, fun y hy => wf_u8 ((hl x hx).2.2.2.2 y hy)⟩
 by_cases c : (l.length : Int) > 20
 ·exact ⟨1, by rw [pyxlaw22_XmssSplits.f, pyxlaw22_awake.f, Option.bind_some, if_pos rfl, decide_eq_true c]; rfl⟩
 ·have e0 : wrap64 a0 = a0 := w64 (by omega) (by omega)
  have e1 : Int.tmod a0 6 = a0 % 6 := tmod_nn (by omega)
  have e2 : wrap64 (20 + a0 % 6) = 20 + a0 % 6 := w64 (by omega) (by omega)
  obtain ⟨A, hA⟩ : ∃ A, A = 20 + a0 % 6 := ⟨_, rfl⟩
  obtain ⟨m, m1, m2, m3, _⟩ := make_ev A a1 a2 (by omega) (by omega) (by omega)
  obtain ⟨s, s1, s2, s3⟩ := changed_ev m m2 (by omega) l (by omega) hw
  obtain ⟨a, e, cc, t, x1, x2, x3, x4, x5⟩ := sig_agree s s2 (by omega)
  have H : Ev (fun k => pyxlaw22_XmssSplits.f k a0 a1 a2 l) true := by
   refine Ev.congr (f := fun k => pyxlaw22_XmssSplits.j0 k a0 a1 a2 l false) (fun k => by rw [pyxlaw22_XmssSplits.f, pyxlaw22_awake.f, Option.bind_some, if_pos rfl, decide_eq_false c]) ?_
   refine Ev.step (fun k => by rw [pyxlaw22_XmssSplits.j0, if_neg (by decide), e0, e1, e2, ← hA]) ?_
   refine Ev.bind m1 (Ev.bind s1 ?_)
   by_cases hc : cc = 0
   ·obtain ⟨hen, ha1, ha2, ht⟩ := x4 hc
    subst hen hc ht
    obtain ⟨x, R, O, P, S1, S2, S3, r1, r2, o1, p1, ho, hp⟩ := split_agree s s2 (by omega) a x1 x2
    refine Ev.congr (fun k => by rw [S1, Option.bind_some]) ?_
    refine Ev.bind x2 ?_
    refine Ev.congr (fun k => if_pos rfl) ?_
    refine Ev.bind S2 ?_
    refine Ev.congr (fun k => if_pos rfl) ?_
    refine Ev.congr (fun k => if_pos rfl) ?_
    refine Ev.congr (fun k => if_pos rfl) ?_
    refine Ev.bind (same_self R (by omega)) ?_
    refine Ev.congr (fun k => if_pos rfl) ?_
    refine Ev.congr (fun k => if_pos rfl) ?_
    refine Ev.step (fun k => by rw [pyxlaw22_XmssSplits.j1, if_neg (by simp)]) ?_
    exact law_l0 s a x R O P (by omega) (fun y hy => by rw [ho y hy]; omega) (law_l1 s a x R O P (by omega) (fun y hy => by rw [hp y hy]; omega) S3 (by omega) P.length 0 (by omega) (by omega)) O.length 0 (by omega) (by omega)
   ·obtain ⟨ha, he, _⟩ := x5 hc
    subst ha
    have hes : e.isSome = true := by
     cases e with
     | none => exact absurd rfl he
     | some y => rfl
    have S1 : xmss_Split.f s = some (0, 0, [], [], [], e) := by
     rw [xmss_Split.f, x1, Option.bind_some]
     exact if_pos hes
    refine Ev.congr (fun k => by rw [S1, Option.bind_some]) ?_
    refine Ev.bind x2 ?_
    refine Ev.congr (fun k => if_neg hc) ?_
    refine Ev.const ?_
    dsimp only
    rw [x3, Option.bind_some, if_pos rfl, if_pos rfl]
    show _ = some true
    kernel_rfl
  exact H.rounds
end Go.Proofs.YtgmnknhfeoleaaaGreatDoor.Pure

namespace Go.Proofs.YtgmnknhfeoleaaaGreatDoorW.PrintWords
open Go.ChangeShapes Go.WideShapes
end Go.Proofs.YtgmnknhfeoleaaaGreatDoorW.PrintWords
