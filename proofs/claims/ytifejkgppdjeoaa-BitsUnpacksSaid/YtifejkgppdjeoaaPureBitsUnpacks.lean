/- BitsUnpacks: for every d, n and every list of bytes, Unpack of the implementation and of the reference tell the same, and the packing of what is unpacked is the bytes; no condition. -/
import Derived.Test.YtifejkgppdjeoaaXBits3
namespace Go.Proofs.Ytifejkgppdjeoaa.Pure
open Go.RowKit Go.Proofs.Ytifejkgppdjeoaa.PBits Go.Proofs.YtifejkgppdjeoaaW.PrintWords Go.Proofs.YtifejkgppdjeoaaW.PrintLast Go.Proofs.YtifejkgppdjeoaaW.Pu

theorem BitsUnpacks : pyxlaw05_BitsUnpacks.Pure := by
  intro d n b hd hn _ hl hw
  have hb : IsBytes b := fun x hx => wf_u8 (hw x hx)
  have hA : Ev (fun k => pyxlaw05_awake.f k) true := Ev.of pyxlaw05_awake.mono pyxlaw05_awake.eval
  refine Ev.rounds (g := fun k => pyxlaw05_BitsUnpacks.f k d n b) ?_
  refine Ev.bind hA (Ev.congr (fun k => if_pos rfl) ?_)
  by_cases c : (b.length : Int) > 500
  · rw [decide_eq_true c]
    refine Ev.step' (Ev.bind hA (Ev.now true)) fun k => by rw [pyxlaw05_BitsUnpacks.j0, if_pos rfl]
  · rw [decide_eq_false c]
    have key : ∀ (l : List Int) (ok : Bool), l.length ≤ 1048576 → Ev (fun k => bits_Unpack.f k d n b) (l, ok) → Ev (fun k => pyxref05_Unpack.f k d n b) (l, ok) → (ok = true → Ev (fun k => bits_Pack.f k d l) (b, true)) →
        Ev (fun k => pyxlaw05_BitsUnpacks.j0 k d n b false) true := by
      intro l ok hl h1 h2 h3
      have hs := same_ev l l (by omega)
      rw [decide_eq_true rfl] at hs
      have hend : Ev (fun k => pyxlaw05_BitsUnpacks.j1 k d b l ok false) true := by
        cases ok with
        | false => exact Ev.last fun k => by rw [pyxlaw05_BitsUnpacks.j1, if_neg (by decide), if_neg (by decide)]
        | true =>
          have hs2 := same_ev b b (by omega)
          rw [decide_eq_true rfl] at hs2
          refine Ev.step' (f := fun k => (bits_Pack.f k d l).bind fun bt222 => (if bt222.2 = true then ((pyxref01_Same.f k bt222.1 b).bind fun t226 => (some t226)) else (some false))) ?_ fun k => by rw [pyxlaw05_BitsUnpacks.j1, if_neg (by decide), if_pos rfl]
          refine Ev.bind (h3 rfl) (Ev.congr (fun k => if_pos rfl) ?_)
          exact Ev.bind hs2 (Ev.now true)
      refine Ev.step' (f := fun k => (bits_Unpack.f k d n b).bind fun bt211 => ((pyxref05_Unpack.f k d n b).bind fun bt215 => ((pyxref05_Same.f k bt211.1 bt215.1).bind fun t219 => (if t219 = true then (if (bt211.2 != bt215.2) = true then (pyxlaw05_BitsUnpacks.j1 k d b bt211.1 bt211.2 true) else ((bits_Size.f d n).bind fun t220 => ((pyxref05_Size.f k d n).bind fun t221 => (pyxlaw05_BitsUnpacks.j1 k d b bt211.1 bt211.2 (t220 != t221))))) else (pyxlaw05_BitsUnpacks.j1 k d b bt211.1 bt211.2 true))))) ?_ fun k => by rw [pyxlaw05_BitsUnpacks.j0, if_neg (by decide)]
      have hs5 := same5_ev l l (by omega)
      rw [decide_eq_true rfl] at hs5
      refine Ev.bind h1 (Ev.bind h2 (Ev.bind hs5 (Ev.congr (fun k => if_pos rfl) ?_)))
      refine Ev.congr (fun k => if_neg (by simp)) ?_
      refine Ev.bind (Ev.const (size_all d n)) (Ev.bind rsize_ev ?_)
      rw [bne_self_eq_false]
      exact hend
    by_cases c2 : d < 1 ∨ 32 < d ∨ n < 0 ∨ 1048576 < n ∨ (b.length : Int) ≠ (d * n + 7) / 8
    · exact key [] false (by simp) (unpack_bad c2) (runpack_bad c2) (fun h => by cases h)
    · obtain ⟨d, rfl⟩ := Int.eq_ofNat_of_zero_le (show 0 ≤ d by omega)
      obtain ⟨n, rfl⟩ := Int.eq_ofNat_of_zero_le (show 0 ≤ n by omega)
      have hsz : (b.length : Int) = ((d : Int) * (n : Int) + 7) / 8 := by omega
      obtain ⟨a1, a2⟩ := unpack_good (d := d) (n := n) (by omega) (by omega) (by omega) hb hsz
      obtain ⟨e1, e2⟩ := runpack_good (d := d) (n := n) (by omega) (by omega) (by omega) hb hsz
      by_cases hz : ∀ x ∈ (bits8 b).drop (n * d), x = 0
      · refine key _ true (by rw [unp_len]; omega) (a1 hz) (e1 hz) (fun _ => ?_)
        have hnd : ((n * d : Nat) : Int) = (d : Int) * (n : Int) := by rw [Int.natCast_mul, Int.mul_comm]
        have hle : n * d ≤ (bits8 b).length := by rw [bits8_len]; omega
        have hfit := unp_fits d n (bits8 b) (bits8_bits b)
        have hp : (2 : Int) ^ d ≤ 2 ^ 32 := p2_le (by omega)
        rw [show (2 : Int) ^ 32 = 4294967296 from rfl] at hp
        have h := (pack_good (d := d) (l := unp d n (bits8 b)) (by omega) (by omega) (by rw [unp_len]; omega) (fun x hx => by have := hfit x hx; omega)).1 (fun x hx => (hfit x hx).2)
        rw [unp_len, flat_unp d n _ (bits8_bits b) hle, show (d * n + 7) / 8 = b.length + 0 by rw [Nat.mul_comm]; omega] at h
        have hsplit : bits8 b = (bits8 b).take (n * d) ++ List.replicate ((bits8 b).drop (n * d)).length 0 := by
          rw [← zeros_of hz, List.take_append_drop]
        have h2 := pk_pad (b.length + 0) ((bits8 b).take (n * d)) ((bits8 b).drop (n * d)).length
        rw [← hsplit] at h2
        have h3 := pk_bits8 hb 0 []
        rw [List.append_nil] at h3
        rw [← h2, h3] at h
        simpa [pk] using h
      · exact key [] false (by simp) (a2 hz) (e2 hz) (fun h => by cases h)

end Go.Proofs.Ytifejkgppdjeoaa.Pure
