/- WireJoins: no condition. -/
import Derived.Test.YtifejkgppdjeoaaPWirex5
import Derived.Test.YtifejkgppdjeoaaWireSame
namespace Go.Proofs.Ytifejkgppdjeoaa.Pure
open Go.RowKit Go.Proofs.Ytifejkgppdjeoaa.PWire Go.Proofs.YtifejkgppdjeoaaW.PrintWords Go.Proofs.YtifejkgppdjeoaaW.PrintLast Go.Proofs.YtifejkgppdjeoaaW.PrintMore Go.Proofs.YtifejkgppdjeoaaW.Pu
set_option linter.unusedVariables false
theorem rdL1_get {l : List (List Int)} {i : Nat} (h : i < l.length) : rd_L2 l (i : Int) = l[i] := by
  unfold rd_L2
  rw [Int.toNat_natCast, List.getD_eq_getElem?_getD, List.getElem?_eq_getElem h]
  rfl
theorem drop_flat {l : List (List Int)} {i : Nat} (h : i < l.length) : (l.drop i).flatten = rd_L2 l (i : Int) ++ (l.drop (i + 1)).flatten := by
  rw [List.drop_eq_getElem_cons h, List.flatten_cons, rdL1_get h]
theorem join_l0 (l : List (List Int)) (hl : l.length ≤ 1000) : ∀ (d : Nat) (acc : List Int) (i : Nat), l.length - i = d → i ≤ l.length → acc.length + (l.drop i).flatten.length ≤ 100000 →
    Ev (fun k => pyxref01_Join.l0 k l acc (i : Int)) (acc ++ (l.drop i).flatten) := by
  intro d
  induction d with
  | zero =>
    intro acc i e h hn
    rw [List.drop_eq_nil_of_le (by omega), List.flatten_nil, List.append_nil]
    exact Ev.last fun k => by rw [pyxref01_Join.l0, if_neg (by omega)]
  | succ d ih =>
    intro acc i e h hn
    have hlt : i < l.length := by omega
    rw [drop_flat hlt] at hn ⊢
    rw [List.length_append] at hn
    have h1 := ih (acc ++ rd_L2 l (i : Int)) (i + 1) (by omega) (by omega) (by rw [List.length_append]; omega)
    rw [← List.append_assoc]
    refine Ev.step' h1 fun k => ?_
    rw [pyxref01_Join.l0, if_pos (by omega), if_pos (by omega), if_pos (by omega), wsucc (by omega)]
theorem join_ev (l : List (List Int)) (hl : l.length ≤ 1000) (hn : l.flatten.length ≤ 100000) : Ev (fun k => pyxref01_Join.f k l) l.flatten := by
  have h := join_l0 l hl l.length [] 0 (by omega) (by omega) (by simpa using hn)
  simpa [pyxref01_Join.f] using h
theorem wsame {a b : List Int} (ha : IsBytes a) (hb : IsBytes b) : wire_Same.f a b = some (decide (a = b)) := by
  rw [wire_Same.f, bytes_Equal.f, Option.bind_some]
  congr 1
  have h := str_inj ha hb
  by_cases c : a = b
  · rw [decide_eq_true c]; exact beq_iff_eq.2 (h.2 c)
  · rw [decide_eq_false c]; exact beq_eq_false_iff_ne.2 (fun h2 => c (h.1 h2))
/-- The numbers are turned one after the other; the parts are not. -/
theorem turn_l1 (l : List (List Int)) (hl : l.length ≤ 1000) (hn : l.flatten.length ≤ 100000) : ∀ (d : Nat) (g : List Int) (i : Nat), g.length - i = d → i ≤ g.length → g.length ≤ 100000 → Ev (fun k => pyxlaw01_WireJoins.l1 k l l.flatten g (i : Int)) true := by
  intro d
  induction d with
  | zero =>
    intro g i e h hg
    refine Ev.step (fun k => by rw [pyxlaw01_WireJoins.l1, if_neg (by omega)]) ?_
    refine Ev.bind (join_ev l hl hn) ?_
    refine Ev.bind (same_ev l.flatten l.flatten (by omega)) ?_
    exact Ev.const' fun k => by simp
  | succ d ih =>
    intro g i e h hg
    have h1 := ih (g.set i (((rd g (i : Int)) + 1) % 256)) (i + 1) (by rw [List.length_set]; omega) (by rw [List.length_set]; omega) (by rw [List.length_set]; omega)
    refine Ev.step' h1 fun k => ?_
    rw [pyxlaw01_WireJoins.l1, if_pos (by omega), if_pos (by omega), Int.toNat_natCast, wsucc (by omega)]
theorem sum_l0 (l : List (List Int)) (a b : List Int) (hl : l.length ≤ 50) (ha : a.length ≤ 300) (hb : b.length ≤ 300) (ba : IsBytes a) (bb : IsBytes b) (hx : ∀ x ∈ l, x.length ≤ 140737488351232 ∧ IsBytes x) :
    ∀ (d : Nat) (i : Nat) (s : Int), l.length - i = d → i ≤ l.length → 0 ≤ s → s ≤ 140737488351232 * i → s + ((l.drop i).flatten.length : Int) = (l.flatten.length : Int) → Ev (fun k => pyxlaw01_WireJoins.l0 k l a b s (i : Int)) true := by
  intro d
  induction d with
  | zero =>
    intro i s e h h0 hs hsum
    rw [List.drop_eq_nil_of_le (by omega), List.flatten_nil, List.length_nil] at hsum
    by_cases c : s > 1000
    · exact Ev.last fun k => by rw [pyxlaw01_WireJoins.l0, if_neg (by omega), if_pos c]
    · have hn : l.flatten.length ≤ 100000 := by omega
      refine Ev.step (fun k => by rw [pyxlaw01_WireJoins.l0, if_neg (by omega), if_neg c]) ?_
      refine Ev.bind (join_ev l (by omega) hn) ?_
      have hj : wire_Join.f l = some l.flatten := by rw [wire_Join.f, slices_Concat.f, if_pos ⟨by omega, by omega⟩, Option.bind_some]
      refine Ev.congr (fun k => by rw [hj, Option.bind_some]) ?_
      refine Ev.bind (same_ev l.flatten l.flatten (by omega)) ?_
      refine Ev.congr (fun k => by rw [decide_eq_true rfl, if_pos rfl, wsame ba bb, Option.bind_some]) ?_
      refine Ev.bind (same_ev a b (by omega)) ?_
      have e2 : ¬ ((decide (a = b) != decide (a = b)) = true) := by simp
      refine Ev.congr (fun k => by rw [if_neg e2, wsame ba ba, Option.bind_some]) ?_
      refine Ev.step (fun k => by rw [pyxlaw01_WireJoins.j2, if_neg (by simp)]) ?_
      exact turn_l1 l (by omega) hn l.flatten.length l.flatten 0 (by omega) (by omega) hn
  | succ d ih =>
    intro i s e h h0 hs hsum
    have hlt : i < l.length := by omega
    rw [drop_flat hlt, List.length_append] at hsum
    have hm := (hx (rd_L2 l (i : Int)) (by rw [rdL1_get hlt]; exact List.getElem_mem hlt)).1
    have h1 := ih (i + 1) (s + ((rd_L2 l (i : Int)).length : Int)) (by omega) hlt (by omega) (by omega) (by omega)
    refine Ev.step' h1 fun k => ?_
    rw [pyxlaw01_WireJoins.l0, if_pos (by omega), if_pos (by omega), w64 (x := s + ((rd_L2 l (i : Int)).length : Int)) (by omega) (by omega), wsucc (by omega)]
theorem WireJoins : pyxlaw01_WireJoins.Pure := by
  intro l a b _ hl hx _ ha hwa _ hb hwb
  apply Ev.rounds
  have haw : pyxlaw01_awake.f = some true := rfl
  have ba : IsBytes a := fun y hy => wf_u8 (hwa y hy)
  have bb : IsBytes b := fun y hy => wf_u8 (hwb y hy)
  have no : Ev (fun k => pyxlaw01_WireJoins.j0 k l a b true) true := Ev.last fun k => by rw [pyxlaw01_WireJoins.j0, if_pos rfl, haw, Option.bind_some]
  refine Ev.congr (fun k => by rw [pyxlaw01_WireJoins.f, haw, Option.bind_some, if_pos rfl]) ?_
  by_cases c1 : (l.length : Int) > 50
  · exact Ev.congr (fun k => by rw [if_pos c1]) no
  refine Ev.congr (fun k => by rw [if_neg c1]) ?_
  by_cases c2 : (a.length : Int) > 300
  · exact Ev.congr (fun k => by rw [if_pos c2]) no
  refine Ev.congr (fun k => by rw [if_neg c2]) ?_
  by_cases c3 : (b.length : Int) > 300
  · exact Ev.congr (fun k => by rw [decide_eq_true c3]) no
  refine Ev.congr (fun k => by rw [decide_eq_false c3]) ?_
  refine Ev.step (fun k => by rw [pyxlaw01_WireJoins.j0, if_neg (by decide)]) ?_
  have hb5 : Try.prog.bytesOf 5 = 1 := by kernel_rfl
  refine sum_l0 l a b (by omega) (by omega) (by omega) ba bb (fun x hxx => ⟨?_, fun y hy => wf_u8 ((hx x hxx).2 y hy)⟩) l.length 0 0 (by omega) (by omega) (by decide) (by omega) (by simp)
  have h1 := (hx x hxx).1
  rw [hb5, Nat.mul_one] at h1
  exact h1
end Go.Proofs.Ytifejkgppdjeoaa.Pure
