/- CborLimits: the pure half. -/
import Derived.Test.YthdjmojpnimhjaaDoorZPCbix18
import Derived.Test.YthdjmojpnimhjaaDoorZXCb1
import Derived.KernelRfl
namespace Go.Proofs.YthdjmojpnimhjaaDoor.Pure
open Go.RowKit Go.Proofs.YthdjmojpnimhjaaDoor.PCbi Go.Proofs.YthdjmojpnimhjaaDoorW.PrintWords Go.Proofs.YthdjmojpnimhjaaDoorW.PrintLast Go.Proofs.YthdjmojpnimhjaaDoorW.PrintMore Go.Proofs.YthdjmojpnimhjaaDoorW.Pu
theorem deep_all : ((List.range 20).all fun d => pyxlaw10_CborLimits.l0 100 (d : Int) [] 0 == some true) = true := by kernel_rfl
theorem deep_ev (a1 : Int) (h : 0 ≤ a1 ∧ a1 < 256) : Ev (fun k => pyxlaw10_CborLimits.j0 k a1) true := by
  have h1 := List.all_eq_true.1 deep_all (a1 % 20).toNat (List.mem_range.2 (by omega))
  have h2 := beq_iff_eq.1 h1
  rw [Int.toNat_of_nonneg (by omega)] at h2
  refine Ev.of (fun k => (pyxlaw10_CborLimits.mono_l k).1 a1) (k := 101) ?_
  rw [show (101 : Nat) = 100 + 1 from rfl, pyxlaw10_CborLimits.j0, w64 (by omega) (by omega), tmod_nn h.1]
  exact h2
theorem limit_ev (a1 v : Int) (h : 0 ≤ a1 ∧ a1 < 256) (hv : 0 ≤ v ∧ v ≤ 1048571) (hs5 : (hs 2 v).length ≤ 5) :
    Ev (fun k => (cbor_Encode.f k 2 0 (List.replicate v.toNat 0) []).bind fun bt322 => (if v > 1048571 then (if (bt322.1.length : Int) = 0 then ((pyxlaw10_code.f bt322.2).bind fun t326 => (if t326 = 12 then (pyxlaw10_CborLimits.j0 k a1) else (some false))) else (some false)) else ((cbor_Parse.f k bt322.1).bind fun bt327 => (if bt322.2.isNone = true then ((pyxref10_Head.f k 2 (IntKind.u64.wrap v)).bind fun t338 => (if (bt322.1.length : Int) = (wrap64 (v + (t338.length : Int))) then (if bt327.2.2.2.2.isNone = true then (if (bt327.2.2.1.length : Int) = v then (pyxlaw10_CborLimits.j0 k a1) else (some false)) else (some false)) else (some false))) else (some false))))) true := by
  have hl := hs_len 2 v
  have hL : (List.replicate v.toNat (0 : Int)).length = v.toNat := List.length_replicate
  have hif : (if (2 : Int) = 2 ∨ (2 : Int) = 3 then (((List.replicate v.toNat (0 : Int)).length : Nat) : Int) else 0) = v := by rw [if_pos (.inl rfl), hL]; omega
  have hE : Ev (fun k => cbor_Encode.f k 2 0 (List.replicate v.toNat 0) []) (hs 2 v ++ List.replicate v.toNat 0, none) := by
    have h1 := valid_leaf 0 2 0 (List.replicate v.toNat 0) (by rw [hL]; omega) (by decide) (by decide) (fun _ => rfl) (by intro h; omega)
    have h2 := enc_leaf 0 2 0 (List.replicate v.toNat 0) (by rw [hL]; omega) (by decide) (by decide)
    rw [hif] at h1 h2
    refine Ev.bind (Ev.of (fun k => cbor_Valid.mono _ _ _ _ k) h1) ?_
    rw [decide_eq_true (by rw [List.length_append, hL]; omega)]
    refine Ev.congr (fun k => by rw [if_neg (by decide)]) ?_
    refine Ev.bind (Ev.of (fun k => (encM_mono k).1 _ _ _ _) h2) (Ev.const' fun k => by rw [if_pos (by rw [List.length_append, hL]; omega)])
  have hP : Ev (fun k => cbor_Parse.f k (hs 2 v ++ List.replicate v.toNat 0)) (2, 0, List.replicate v.toNat 0, [], none) := by
    have h1 := parse_bytes 0 (List.replicate v.toNat 0) (by intro x hx; rw [List.eq_of_mem_replicate hx]; decide) (by rw [hL, show ((v.toNat : Nat) : Int) = v by omega]; omega)
    rw [hL, show ((v.toNat : Nat) : Int) = v by omega] at h1
    exact Ev.of (fun k => cbor_Parse.mono _ k) h1
  refine Ev.bind hE ?_
  refine Ev.congr (fun k => by rw [if_neg (by omega)]) ?_
  refine Ev.bind hP ?_
  refine Ev.congr (fun k => by rw [if_pos (show (none : Option E).isNone = true from rfl), wu64 (by omega) (by omega)]) ?_
  refine Ev.bind (Ev.of (fun k => pyxref10_Head.mono _ _ k) (rhead_eq 0 2 v (by decide) hv.1 (by omega))) ?_
  refine Ev.congr (fun k => by rw [if_pos (by rw [w64 (by omega) (by omega), List.length_append, hL]; omega), if_pos (show (none : Option E).isNone = true from rfl), if_pos (by dsimp only; rw [hL]; omega)]) ?_
  exact deep_ev a1 h
theorem limit_big (a1 : Int) (h : 0 ≤ a1 ∧ a1 < 256) :
    Ev (fun k => (cbor_Encode.f k 2 0 (List.replicate (1048572 : Int).toNat 0) []).bind fun bt322 => (if (1048572 : Int) > 1048571 then (if (bt322.1.length : Int) = 0 then ((pyxlaw10_code.f bt322.2).bind fun t326 => (if t326 = 12 then (pyxlaw10_CborLimits.j0 k a1) else (some false))) else (some false)) else ((cbor_Parse.f k bt322.1).bind fun bt327 => (if bt322.2.isNone = true then ((pyxref10_Head.f k 2 (IntKind.u64.wrap 1048572)).bind fun t338 => (if (bt322.1.length : Int) = (wrap64 (1048572 + (t338.length : Int))) then (if bt327.2.2.2.2.isNone = true then (if (bt327.2.2.1.length : Int) = 1048572 then (pyxlaw10_CborLimits.j0 k a1) else (some false)) else (some false)) else (some false))) else (some false))))) true := by
  have hL : (List.replicate (1048572 : Int).toNat (0 : Int)).length = 1048572 := List.length_replicate
  have h5 : (hs 2 1048572).length = 5 := rfl
  have hif : (if (2 : Int) = 2 ∨ (2 : Int) = 3 then (((List.replicate (1048572 : Int).toNat (0 : Int)).length : Nat) : Int) else 0) = 1048572 := by rw [if_pos (.inl rfl), hL]; rfl
  have hE : Ev (fun k => cbor_Encode.f k 2 0 (List.replicate (1048572 : Int).toNat 0) []) ([], some (.code 12)) := by
    have h1 := valid_leaf 0 2 0 (List.replicate (1048572 : Int).toNat 0) (by rw [hL]; omega) (by decide) (by decide) (fun _ => rfl) (by intro h; omega)
    rw [hif] at h1
    refine Ev.bind (Ev.of (fun k => cbor_Valid.mono _ _ _ _ k) h1) ?_
    rw [decide_eq_false (by rw [List.length_append, hL, h5]; omega)]
    exact Ev.const' fun k => by rw [if_pos rfl]
  refine Ev.bind hE ?_
  refine Ev.congr (fun k => by rw [if_pos (by decide), if_pos (by rfl)]) ?_
  refine Ev.bind (Ev.const (show pyxlaw10_code.f (some (E.code 12)) = some 12 from rfl)) ?_
  refine Ev.congr (fun k => by rw [if_pos rfl]) ?_
  exact deep_ev a1 h
theorem CborLimits : pyxlaw10_CborLimits.Pure := by
  intro a0 a1 hw0 hw1
  have h0 := wf_u8 hw0
  have h1 := wf_u8 hw1
  have haw : Ev (fun k => pyxlaw10_awake.f k) true := Ev.of (fun k => pyxlaw10_awake.mono k) pyxlaw10_awake.eval
  refine Ev.rounds (g := fun k => pyxlaw10_CborLimits.f k a0 a1) ?_
  refine Ev.bind haw (Ev.congr (fun k => by rw [if_pos rfl, Option.bind_some]) ?_)
  have ei : Int.tmod (wrap64 a0) 8 = a0 % 8 := by rw [w64 (by omega) (by omega), tmod_nn h0.1]
  have hc : a0 % 8 = 0 ∨ a0 % 8 = 1 ∨ a0 % 8 = 2 ∨ a0 % 8 = 3 ∨ a0 % 8 = 4 ∨ a0 % 8 = 5 ∨ a0 % 8 = 6 ∨ a0 % 8 = 7 := by omega
  rw [ei]
  rcases hc with e | e | e | e | e | e | e | e <;> rw [e]
  · refine Ev.congr (fun k => by rw [show rd [23, 24, 255, 256, 65535, 65536, 1048571, 1048572] 0 = 23 from rfl, if_pos (by decide), if_pos (by decide), if_pos (by decide), if_pos (by decide)]) ?_
    exact limit_ev a1 23 h1 (by decide) (show (hs 2 23).length ≤ 5 by decide)
  · refine Ev.congr (fun k => by rw [show rd [23, 24, 255, 256, 65535, 65536, 1048571, 1048572] 1 = 24 from rfl, if_pos (by decide), if_pos (by decide), if_pos (by decide), if_pos (by decide)]) ?_
    exact limit_ev a1 24 h1 (by decide) (show (hs 2 24).length ≤ 5 by decide)
  · refine Ev.congr (fun k => by rw [show rd [23, 24, 255, 256, 65535, 65536, 1048571, 1048572] 2 = 255 from rfl, if_pos (by decide), if_pos (by decide), if_pos (by decide), if_pos (by decide)]) ?_
    exact limit_ev a1 255 h1 (by decide) (show (hs 2 255).length ≤ 5 by decide)
  · refine Ev.congr (fun k => by rw [show rd [23, 24, 255, 256, 65535, 65536, 1048571, 1048572] 3 = 256 from rfl, if_pos (by decide), if_pos (by decide), if_pos (by decide), if_pos (by decide)]) ?_
    exact limit_ev a1 256 h1 (by decide) (show (hs 2 256).length ≤ 5 by decide)
  · refine Ev.congr (fun k => by rw [show rd [23, 24, 255, 256, 65535, 65536, 1048571, 1048572] 4 = 65535 from rfl, if_pos (by decide), if_pos (by decide), if_pos (by decide), if_pos (by decide)]) ?_
    exact limit_ev a1 65535 h1 (by decide) (show (hs 2 65535).length ≤ 5 by decide)
  · refine Ev.congr (fun k => by rw [show rd [23, 24, 255, 256, 65535, 65536, 1048571, 1048572] 5 = 65536 from rfl, if_pos (by decide), if_pos (by decide), if_pos (by decide), if_pos (by decide)]) ?_
    exact limit_ev a1 65536 h1 (by decide) (show (hs 2 65536).length ≤ 5 by decide)
  · refine Ev.congr (fun k => by rw [show rd [23, 24, 255, 256, 65535, 65536, 1048571, 1048572] 6 = 1048571 from rfl, if_pos (by decide), if_pos (by decide), if_pos (by decide), if_pos (by decide)]) ?_
    exact limit_ev a1 1048571 h1 (by decide) (show (hs 2 1048571).length ≤ 5 by decide)
  · refine Ev.congr (fun k => by rw [show rd [23, 24, 255, 256, 65535, 65536, 1048571, 1048572] 7 = 1048572 from rfl, if_pos (by decide), if_pos (by decide), if_pos (by decide), if_pos (by decide)]) ?_
    exact limit_big a1 h1
end Go.Proofs.YthdjmojpnimhjaaDoor.Pure
