/- BitsSingle: the bits of a packing are those of the numbers, in order; no condition. -/
import Derived.Test.YtifejkgppdjeoaaXBits4
namespace Go.Proofs.Ytifejkgppdjeoaa.Pure
open Go.RowKit Go.Proofs.Ytifejkgppdjeoaa.PBits Go.Proofs.YtifejkgppdjeoaaW.PrintWords Go.Proofs.YtifejkgppdjeoaaW.PrintMore Go.Proofs.YtifejkgppdjeoaaW.PrintLast Go.Proofs.YtifejkgppdjeoaaW.Pu

theorem BitsSingle : pyxlaw05_BitsSingle.Pure := by
  intro a l at' ha _ hl hw hat
  have h32 : Is32 l := fun x hx => wf_u32 (hw x hx)
  have ha' := wf_u8 ha
  have hat' := wf_u16 hat
  have hA : Ev (fun k => pyxlaw05_awake.f k) true := Ev.of pyxlaw05_awake.mono pyxlaw05_awake.eval
  have hT : Ev (fun k => pyxlaw05_BitsSingle.j0 k a l at' true) true := Ev.step' (Ev.bind hA (Ev.now true)) fun k => by rw [pyxlaw05_BitsSingle.j0, if_pos rfl]
  refine Ev.rounds (g := fun k => pyxlaw05_BitsSingle.f k a l at') ?_
  refine Ev.bind hA (Ev.congr (fun k => if_pos rfl) ?_)
  by_cases c : (l.length : Int) > 300
  · exact Ev.congr (fun k => if_pos c) hT
  · refine Ev.congr (fun k => if_neg c) ?_
    by_cases c2 : (l.length : Int) = 0
    · rw [show ((l.length : Int) == 0) = true from beq_iff_eq.2 c2]
      exact hT
    · rw [show ((l.length : Int) == 0) = false from beq_eq_false_iff_ne.2 c2]
      obtain ⟨d, hd⟩ : ∃ d : Nat, 1 + a % 32 = (d : Int) := ⟨(1 + a % 32).toNat, by omega⟩
      have e1 : wrap64 (1 + (Int.tmod (wrap64 a) 32)) = (d : Int) := by rw [w64 (x := a) (by omega) (by omega), tmod_nn ha'.1, w64 (by omega) (by omega), hd]
      have hdl : (d : Int) * (l.length : Int) = ((d * l.length : Nat) : Int) := (Int.natCast_mul _ _).symm
      have hdl2 : d * l.length ≤ 32 * 300 := Nat.mul_le_mul (by omega) (by omega)
      have hdl3 : 0 < d * l.length := Nat.mul_pos (by omega) (by omega)
      have e2 : wrap64 ((d : Int) * (l.length : Int)) = ((d * l.length : Nat) : Int) := by rw [hdl, w64 (by omega) (by omega)]
      obtain ⟨i, hi⟩ : ∃ i : Nat, at' % ((d * l.length : Nat) : Int) = (i : Int) := ⟨(at' % ((d * l.length : Nat) : Int)).toNat, by have := Int.emod_nonneg at' (show ((d * l.length : Nat) : Int) ≠ 0 by omega); omega⟩
      have hilt : i < d * l.length := by have := Int.emod_lt_of_pos at' (show (0 : Int) < ((d * l.length : Nat) : Int) by omega); omega
      have e3 : Int.tmod (wrap64 at') ((d * l.length : Nat) : Int) = (i : Int) := by rw [w64 (by omega) (by omega), tmod_nn hat'.1, hi]
      have hid : i / d < l.length := (Nat.div_lt_iff_lt_mul (by omega)).2 (by rw [Nat.mul_comm]; exact hilt)
      have hq0 := Int.natCast_nonneg (i / d)
      have e4 : wrap64 (Int.tdiv (i : Int) (d : Int)) = ((i / d : Nat) : Int) := by
        rw [tdiv_nn (by omega), ← Int.natCast_ediv, w64 (by omega) (by omega)]
      have e5 : IntKind.u64.wrap (Int.tmod (i : Int) (d : Int)) = ((i % d : Nat) : Int) := by
        have : i % d < d := Nat.mod_lt _ (by omega)
        rw [tmod_nn (by omega), ← Int.natCast_emod, wu64 (by omega) (by omega)]
      refine Ev.step' (f := fun k => (bits_Pack.f k (d : Int) l).bind fun bt245 => if bt245.2 = true then ((bits_Bit.f bt245.1 (i : Int)).bind fun bt249 => ((bits_Bit.f bt245.1 (wrap64 (8 * (bt245.1.length : Int)))).bind fun bt251 => ((bits_Bit.f bt245.1 (wrap64 ((-1) - (i : Int)))).bind fun bt253 => (if bt249.2 = true then (if bt251.2 = true then (some false) else (if bt253.2 = true then (some false) else some (bt249.1 == (wrap64 (Go.bits .and .u32 (shr .u32 (rd l ((i / d : Nat) : Int)) ((i % d : Nat) : Int)) 1))))) else (some false))))) else some true) ?_ (fun k => ?_)
      · by_cases hf : Fits d l
        · have g1 := (pack_good (d := d) (by omega) (by omega) (by omega) h32).1 hf
          have hL := flat_bits d l
          have hLl := flat_len d l
          have hb := pk_bytes ((d * l.length + 7) / 8) hL
          have hbl := pk_len ((d * l.length + 7) / 8) (l.flatMap (bitsN d))
          have h8 := bits8_pk ((d * l.length + 7) / 8) _ hL (by omega)
          have b1 := bit_in hb (by omega) (i := i) (by omega)
          rw [h8, rd_append_left (by omega), rd_flat d (by omega) l i hilt] at b1
          have b2 := bit_out (b := pk ((d * l.length + 7) / 8) (l.flatMap (bitsN d))) (i := wrap64 (8 * ((pk ((d * l.length + 7) / 8) (l.flatMap (bitsN d))).length : Int))) (by omega) (.inr (by rw [w64 (by omega) (by omega)]; omega))
          have b3 := bit_out (b := pk ((d * l.length + 7) / 8) (l.flatMap (bitsN d))) (i := wrap64 ((-1) - (i : Int))) (by omega) (.inl (by rw [w64 (by omega) (by omega)]; omega))
          refine Ev.bind g1 (Ev.congr (fun k => if_pos rfl) ?_)
          refine Ev.bind (Ev.const b1) (Ev.bind (Ev.const b2) (Ev.bind (Ev.const b3) (Ev.const' fun k => ?_)))
          have hx := h32 _ (rd_mem hid)
          have h9 := div_p2_nonneg (i % d) hx.1
          have h10 := div_le_self' hx.1 (i % d)
          have hm : i % d < d := Nat.mod_lt _ (by omega)
          rw [if_pos rfl, if_neg (by decide), if_neg (by decide), shr_small' (by simp [IntKind.bits]; omega), and1_u32 h9 (by omega), w64 (by omega) (by omega), beq_self_eq_true]
        · have g2 := (pack_good (d := d) (by omega) (by omega) (by omega) h32).2 hf
          exact Ev.bind g2 (Ev.const' fun k => if_neg (by decide))
      · rw [pyxlaw05_BitsSingle.j0, if_neg (by decide)]
        simp only [e1, e2, e3, e4, e5]
        have n1 : (((d * l.length : Nat) : Int) = 0) = False := eq_false (by omega)
        have n2 : ((d : Int) = 0) = False := eq_false (by omega)
        have n3 : ((0 : Int) ≤ ((i / d : Nat) : Int)) = True := eq_true (Int.natCast_nonneg _)
        have n4 : (((i / d : Nat) : Int) < (l.length : Int)) = True := eq_true (Int.ofNat_lt.2 hid)
        have n5 : ((0 : Int) ≤ ((i % d : Nat) : Int)) = True := eq_true (Int.natCast_nonneg _)
        simp only [n1, n2, n3, n4, n5, if_true, if_false]

end Go.Proofs.Ytifejkgppdjeoaa.Pure
