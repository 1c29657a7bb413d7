/- CborInts: the pure half. -/
import Derived.Test.YthdjmojpnimhjaaDoorZPCbix17
import Derived.Test.YthdjmojpnimhjaaDoorZXCb2
import Derived.Test.YthdjmojpnimhjaaDoorZCbiSame
import Derived.KernelRfl
namespace Go.Proofs.YthdjmojpnimhjaaDoor.Pure
open Go.RowKit Go.Proofs.YthdjmojpnimhjaaDoor.PCbi Go.Proofs.YthdjmojpnimhjaaDoorW.PrintWords Go.Proofs.YthdjmojpnimhjaaDoorW.PrintLast Go.Proofs.YthdjmojpnimhjaaDoorW.PrintMore Go.Proofs.YthdjmojpnimhjaaDoorW.Pu
theorem CborInts : pyxlaw10_CborInts.Pure := by
  intro a0 hw
  have hr := wf_i64 hw
  have haw : Ev (fun k => pyxlaw10_awake.f k) true := Ev.of (fun k => pyxlaw10_awake.mono k) pyxlaw10_awake.eval
  refine Ev.rounds (g := fun k => pyxlaw10_CborInts.f k a0) ?_
  refine Ev.bind haw (Ev.congr (fun k => by rw [if_pos rfl]) ?_)
  obtain ⟨t, n, ht, hn, hI, hR, hV⟩ := cbor_int_cases a0 hr
  have hl := hs_len t n
  have hif : (if t = 2 ∨ t = 3 then ((([] : List Int).length : Nat) : Int) else n) = n := by rw [if_neg (by omega)]
  have hE : Ev (fun k => cbor_Encode.f k t n [] []) (hs t n, none) := by
    have h1 := valid_leaf 0 t n [] (by simp) (by omega) hn.1 (by omega) (by simp)
    have h2 := enc_leaf 0 t n [] (by simp) (by omega) hn.1
    rw [hif, List.append_nil] at h1 h2
    refine Ev.bind (Ev.of (fun k => cbor_Valid.mono _ _ _ _ k) h1) ?_
    rw [decide_eq_true (by omega)]
    refine Ev.congr (fun k => by rw [if_neg (by decide)]) ?_
    refine Ev.bind (Ev.of (fun k => (encM_mono k).1 _ _ _ _) h2) (Ev.const' fun k => by rw [if_pos (by omega)])
  have hC : Ev (fun k => pyxref10_Code.f k t n [] []) (hs t n) := by
    have h2 := code_leaf 0 t n [] (by simp) (by omega) (by omega)
    rw [hif, List.append_nil] at h2
    exact Ev.of (fun k => pyxref10_Code.mono _ _ _ _ k) h2
  have hS : Ev (fun k => pyxref01_Same.f k (hs t n) (hs t n)) true := by
    have := same_ev (hs t n) (hs t n) (by omega)
    rw [decide_eq_true rfl] at this
    exact this
  refine Ev.congr (fun k => by rw [hI, Option.bind_some]) ?_
  refine Ev.bind (Ev.of (fun k => cbor_Value.mono _ _ _ _ k) (hV 0)) ?_
  refine Ev.bind hE ?_
  refine Ev.bind (Ev.of (fun k => pyxlaw10_back.mono _ _ _ _ k) (back_leaf 0 t n [])) ?_
  refine Ev.congr (fun k => by rw [hR, Option.bind_some]) ?_
  refine Ev.bind (Ev.of (fun k => pyxref10_Same.mono _ _ _ _ _ _ _ _ k) (rsame_leaf 0 t n)) ?_
  refine Ev.congr (fun k => by rw [if_pos rfl, if_pos rfl, if_pos rfl, if_pos (show (none : Option E).isNone = true from rfl), Option.bind_some]) ?_
  exact Ev.bind hC (Ev.bind hS (Ev.now true))
end Go.Proofs.YthdjmojpnimhjaaDoor.Pure
