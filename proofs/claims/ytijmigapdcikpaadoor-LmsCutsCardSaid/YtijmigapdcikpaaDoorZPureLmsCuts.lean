/- LmsCuts: no condition. -/
import Derived.Test.YtijmigapdcikpaaDoorZPLmsx17
import Derived.Test.YtijmigapdcikpaaDoorZXLms6
namespace Go.Proofs.YtijmigapdcikpaaDoor.Pure
open Go.RowKit Go.Proofs.YtijmigapdcikpaaDoor.PLms Go.Proofs.YtijmigapdcikpaaDoorW.PrintWords Go.Proofs.YtijmigapdcikpaaDoorW.PrintLast Go.Proofs.YtijmigapdcikpaaDoorW.PrintMore Go.Proofs.YtijmigapdcikpaaDoorW.Pu
theorem j1_true (a : Int) (ha : 0 ≤ a ∧ a < 4294967296) (s : List Int) (hs : IsBytes s) (h4 : 4 ≤ s.length) (hl : s.length ≤ 200000) (c at_ : Int) (h : c = 0 → ∃ xs, lparse s = (xs, none)) : Ev (fun k => pyxlaw21_LmsCuts.j1 k a s false c at_) true := by
  refine Ev.last fun k => ?_
  rw [pyxlaw21_LmsCuts.j1, if_neg (by decide), if_neg (by omega)]
  by_cases hc : c = 0
  · obtain ⟨xs, hx⟩ := h hc
    obtain ⟨n, hn⟩ : ∃ n : Nat, Int.tmod (wrap64 a) (s.length : Int) = (n : Int) := by
      rw [w64 (by omega) (by omega), tmod_nn ha.1]
      exact ⟨(a % (s.length : Int)).toNat, (Int.toNat_of_nonneg (Int.emod_nonneg _ (by omega))).symm⟩
    have hlt : n < s.length := by
      have h2 : a % (s.length : Int) < (s.length : Int) := Int.emod_lt_of_pos _ (by omega)
      rw [w64 (by omega) (by omega), tmod_nn ha.1] at hn
      omega
    have hp := lparse_T s n hlt xs hx
    have hbB : bytesB (s.take n) = true := List.all_eq_true.2 (fun x hx => decide_eq_true (hs x (List.mem_of_mem_take hx)))
    have hlen : (s.take n).length < 1000000000000 := by rw [List.length_take]; omega
    have hpi : lms_CheckSignature.f (s.take n) = some (some (.fault 3 n)) := by
      rw [lms_CheckSignature.f, lms_Parse.f, if_pos ⟨hbB, hlen⟩, Option.bind_some, hp]
    rw [if_pos hc, hn, if_pos (by omega), if_pos (by omega), Int.toNat_natCast, hpi, Option.bind_some, told_some 3 n (by decide) (by omega) (by omega), Option.bind_some]
  · rw [if_neg hc]
theorem LmsCuts : pyxlaw21_LmsCuts.Pure := by
  intro l a _ hl hq ha
  apply Ev.rounds
  have ha' := wf_u32 ha
  obtain ⟨fb, f1, f2⟩ := few_ev l (by omega)
  refine Ev.congr (fun k => by rw [pyxlaw21_LmsCuts.f]) ?_
  refine Ev.bind awake_ev ?_
  refine Ev.congr (fun k => by rw [if_pos rfl]) ?_
  refine Ev.bind f1 ?_
  cases fb with
  | false => exact Ev.step (fun k => by rw [pyxlaw21_LmsCuts.j0, if_pos (show (!false) = true from rfl)]) (Ev.bind awake_ev (Ev.now _))
  | true =>
    have hf := f2 rfl
    obtain ⟨m, m1, m2, m3, m4⟩ := make_ev l hf
    refine Ev.step (fun k => by rw [pyxlaw21_LmsCuts.j0, if_neg (by decide)]) ?_
    refine Ev.bind m1 ?_
    have hpe : ∃ xs c at_, Ev (fun k => pyxref21_Parse.f k m) (xs, c, at_) ∧ (c = 0 → ∃ ys, lparse m = (ys, none)) := by
      rcases parse_eq m (by omega) m2 20 (Nat.le_refl _) with ⟨xs, p1, p2, p3, p4⟩ | ⟨cc, b, p1, p2, p3⟩
      · exact ⟨_, 0, 0, Ev.of (fun k => pyxref21_Parse.mono m k) p1, fun _ => ⟨xs, p2⟩⟩
      · exact ⟨_, cc, b, Ev.of (fun k => pyxref21_Parse.mono m k) p1, fun h => absurd h p2.1⟩
    obtain ⟨xs, c, at_, e1, e2⟩ := hpe
    refine Ev.bind e1 ?_
    obtain ⟨_, hl1, hl2⟩ := hf
    have q1 : (0 : Int) < (l.length : Int) := by omega
    refine Ev.congr (fun k => by rw [if_pos q1]) ?_
    obtain ⟨r, h1, h2, h3⟩ := hss_ev 1 (rd_T87 l 0).f2 (rd_T87 l 0).f1 (rd_T87 l 0).f3
    obtain ⟨key, hkey⟩ : ∃ key, key = be4 1 ++ r := ⟨_, rfl⟩
    rw [← hkey] at h1
    have kl : key.length = 60 := by rw [hkey, List.length_append, h3]; rfl
    have kb : IsBytes key := by rw [hkey]; exact bytes_app (be4_bytes 1) h2
    refine Ev.bind h1 ?_
    obtain ⟨kc, ka, k1, k2⟩ := rkey_cases key kl kb
    refine Ev.bind k1 ?_
    have done := j1_true a ha' m m2 m3 m4 c at_ e2
    by_cases hk : kc = 0
    · obtain ⟨w1, w8, w9⟩ := k2 hk
      obtain ⟨n, hn⟩ : ∃ n : Nat, Int.tmod (wrap64 a) 60 = (n : Int) := by
        rw [w64 (by omega) (by omega), tmod_nn ha'.1]
        exact ⟨(a % 60).toNat, (Int.toNat_of_nonneg (Int.emod_nonneg _ (by decide))).symm⟩
      have hlt : n < 60 := by
        rw [w64 (by omega) (by omega), tmod_nn ha'.1] at hn
        omega
      have hp := lck_T key n kl hlt kb w1 w8 w9
      have hbB : bytesB (key.take n) = true := List.all_eq_true.2 (fun x hx => decide_eq_true (kb x (List.mem_of_mem_take hx)))
      have hlen : (key.take n).length < 1000000000000 := by rw [List.length_take]; omega
      have hpi : lms_CheckKey.f (key.take n) = some (some (.fault 3 n)) := by rw [lms_CheckKey.f, if_pos ⟨hbB, hlen⟩, hp]
      refine Ev.congr (fun k => by rw [if_pos hk, hn, if_pos (by omega), if_pos (by omega), Int.toNat_natCast, hpi, Option.bind_some, told_some 3 n (by decide) (by omega) (by omega), Option.bind_some]) ?_
      exact done
    · refine Ev.congr (fun k => by rw [if_neg hk]) ?_
      exact done
end Go.Proofs.YtijmigapdcikpaaDoor.Pure
