/- BitsInverse: numbers that are packed are unpacked again, and the packing has the size that is told; no condition. -/
import Derived.Test.YtifejkgppdjeoaaXBits4
namespace Go.Proofs.Ytifejkgppdjeoaa.Pure
open Go.RowKit Go.Proofs.Ytifejkgppdjeoaa.PBits Go.Proofs.YtifejkgppdjeoaaW.PrintWords Go.Proofs.YtifejkgppdjeoaaW.PrintMore Go.Proofs.YtifejkgppdjeoaaW.PrintLast Go.Proofs.YtifejkgppdjeoaaW.Pu

theorem shl_one {d : Nat} (hd : d ≤ 32) : shl .u64 1 (IntKind.u64.wrap (d : Int)) = 2 ^ d := by
  have hp := p2_pos d
  have hl : (2 : Int) ^ d ≤ 2 ^ 32 := p2_le hd
  rw [show (2 : Int) ^ 32 = 4294967296 from rfl] at hl
  rw [wu64 (by omega) (by omega)]
  unfold shl
  rw [show ((d : Int).toNat) = d from rfl, Nat.min_eq_left (by simp [IntKind.bits]; omega), Int.one_mul, wu64 (by omega) (by omega)]
theorem inverse_end (d : Nat) (hd1 : 1 ≤ d) (hd : d ≤ 32) (s : List Int) (hs : s.length ≤ 300) (h : ∀ x ∈ s, 0 ≤ x ∧ x < 2 ^ d) :
    Ev (fun k => (bits_Pack.f k (d : Int) s).bind fun bt233 => ((bits_Unpack.f k (d : Int) (s.length : Int) bt233.1).bind fun bt237 => (if bt233.2 = true then (if bt237.2 = true then ((pyxref05_Same.f k bt237.1 s).bind fun t241 => (if t241 = true then ((bits_Size.f (d : Int) (s.length : Int)).bind fun t242 => (some ((bt233.1.length : Int) == t242))) else (some false))) else (some false)) else (some false)))) true := by
  have hp : (2 : Int) ^ d ≤ 2 ^ 32 := p2_le hd
  rw [show (2 : Int) ^ 32 = 4294967296 from rfl] at hp
  have h32 : Is32 s := fun x hx => by have := h x hx; omega
  have hf : Fits d s := fun x hx => (h x hx).2
  have g1 := (pack_good hd1 hd (by omega) h32).1 hf
  have hL := flat_bits d s
  have hLl := flat_len d s
  have hb := pk_bytes ((d * s.length + 7) / 8) hL
  have hbl := pk_len ((d * s.length + 7) / 8) (s.flatMap (bitsN d))
  have h8 := bits8_pk ((d * s.length + 7) / 8) _ hL (by omega)
  have hds : ((d * s.length : Nat) : Int) = (d : Int) * (s.length : Int) := Int.natCast_mul _ _
  have hsz : ((pk ((d * s.length + 7) / 8) (s.flatMap (bitsN d))).length : Int) = ((d : Int) * (s.length : Int) + 7) / 8 := by rw [hbl]; omega
  have g2 := (unpack_good hd1 hd (by omega) hb hsz).1 (by
    rw [h8, Nat.mul_comm, ← hLl, List.drop_left]
    intro x hx
    exact (List.mem_replicate.1 hx).2)
  rw [h8, unp_flat d s _ h32 hf] at g2
  have hs5 := same5_ev s s (by omega)
  rw [decide_eq_true rfl] at hs5
  refine Ev.bind g1 (Ev.bind g2 (Ev.congr (fun k => by rw [if_pos rfl, if_pos rfl]) (Ev.bind hs5 ?_)))
  exact Ev.const' fun k => by rw [if_pos rfl, size_ev (by omega) (by omega) (by omega) (by omega), Option.bind_some, hsz, beq_self_eq_true]
theorem inverse_l0 (d : Nat) (hd1 : 1 ≤ d) (hd : d ≤ 32) (l : List Int) (h32 : Is32 l) (hl : l.length ≤ 300) : ∀ (m i : Nat) (s : List Int), l.length - i = m → i ≤ l.length → s.length = i → (∀ x ∈ s, 0 ≤ x ∧ x < 2 ^ d) →
    Ev (fun k => pyxlaw05_BitsInverse.l0 k l (d : Int) s (i : Int)) true := by
  intro m
  induction m with
  | zero =>
    intro i s e hi hs h
    exact Ev.step' (inverse_end d hd1 hd s (by omega) h) fun k => by rw [pyxlaw05_BitsInverse.l0, if_neg (by omega)]
  | succ m ih =>
    intro i s e hi hs h
    have hlt : i < l.length := by omega
    have hx := h32 _ (rd_mem hlt)
    have hm := mod_p2 (x := rd l (i : Int)) d
    have hp := p2_pos d
    have hl2 : (2 : Int) ^ d ≤ 2 ^ 32 := p2_le hd
    rw [show (2 : Int) ^ 32 = 4294967296 from rfl] at hl2
    have h1 := ih (i + 1) (s ++ [rd l (i : Int) % 2 ^ d]) (by omega) (by omega) (by simp; omega) (fun x hx => by
      rcases List.mem_append.1 hx with hx | hx
      · exact h x hx
      · simp at hx; subst hx; exact hm)
    exact Ev.step' h1 fun k => by
      rw [pyxlaw05_BitsInverse.l0, if_pos (by omega), if_pos (by omega), shl_one hd, wu64 (x := (d : Int)) (by omega) (by omega), if_pos (by omega), if_neg (by omega), if_pos (by omega), wu64 hx.1 (by omega), tmod_nn hx.1, Int.emod_eq_of_lt hm.1 (by omega), wsucc (by omega)]
theorem BitsInverse : pyxlaw05_BitsInverse.Pure := by
  intro a l ha _ hl hw
  have h32 : Is32 l := fun x hx => wf_u32 (hw x hx)
  have ha' := wf_u8 ha
  have hA : Ev (fun k => pyxlaw05_awake.f k) true := Ev.of pyxlaw05_awake.mono pyxlaw05_awake.eval
  refine Ev.rounds (g := fun k => pyxlaw05_BitsInverse.f k a l) ?_
  refine Ev.bind hA (Ev.congr (fun k => if_pos rfl) ?_)
  by_cases c : (l.length : Int) > 300
  · rw [decide_eq_true c]
    exact Ev.step' (Ev.bind hA (Ev.now true)) fun k => by rw [pyxlaw05_BitsInverse.j0, if_pos rfl]
  · rw [decide_eq_false c]
    obtain ⟨d, hd⟩ : ∃ d : Nat, (d : Int) = 1 + a % 32 := ⟨(1 + a % 32).toNat, by omega⟩
    have h := inverse_l0 d (by omega) (by omega) l h32 (by omega) l.length 0 [] (by omega) (by omega) rfl (fun x hx => by simp at hx)
    refine Ev.step' h fun k => ?_
    rw [pyxlaw05_BitsInverse.j0, if_neg (by decide), w64 (x := a) (by omega) (by omega), tmod_nn ha'.1, w64 (by omega) (by omega), hd]
    rfl

end Go.Proofs.Ytifejkgppdjeoaa.Pure
