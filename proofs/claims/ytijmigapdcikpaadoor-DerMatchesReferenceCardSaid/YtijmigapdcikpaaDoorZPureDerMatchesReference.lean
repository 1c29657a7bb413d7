/- DerMatchesReference: the pure half. -/
import Derived.Test.YtijmigapdcikpaaDoorZPDerx14
import Derived.Test.YtijmigapdcikpaaDoorZXDer7
import Derived.KernelRfl
namespace Go.Proofs.YtijmigapdcikpaaDoor.Pure
open Go.RowKit Go.Proofs.YtijmigapdcikpaaDoor.PDer Go.Proofs.YtijmigapdcikpaaDoorW.PrintWords Go.Proofs.YtijmigapdcikpaaDoorW.PrintLast Go.Proofs.YtijmigapdcikpaaDoorW.PrintMore Go.Proofs.YtijmigapdcikpaaDoorW.Pu
theorem told_ok (c n : Int) (h0 : 0 ≤ n) (h1 : n ≤ 3000) : pyxlaw08_told.f (some (E.fault c n)) c n = some true := by
  unfold pyxlaw08_told.f
  rw [show fault_At.f (some (E.fault c n)) = some (wrap64 n, true) from rfl, Option.bind_some, if_neg (by simp), show pyxlaw08_code.f (some ((some (E.fault c n)).getD default)) = some c from rfl, Option.bind_some, if_pos rfl]
  rw [w64 (x := n) (by omega) (by omega)]
  simp
theorem zero_same : Ev (fun k => pyxlaw08_same.f k 0 [] [] 0 [] []) true := Ev.of (fun k => pyxlaw08_same.mono _ _ _ _ _ _ _) (show pyxlaw08_same.f 10 0 [] [] 0 [] [] = some true by kernel_rfl)
theorem DerMatchesReference : pyxlaw08_DerMatchesReference.Pure := by
  intro l0 hm hy hw
  have hb : ∀ x ∈ l0, 0 ≤ x ∧ x < 256 := fun x hx => wf_u8 (hw x hx)
  have haw : Ev (fun k => pyxlaw08_awake.f k) true := Ev.of (fun k => pyxlaw08_awake.mono k) pyxlaw08_awake.eval
  refine Ev.rounds (g := fun k => pyxlaw08_DerMatchesReference.f k l0) ?_
  refine Ev.bind haw (Ev.congr (fun k => by rw [if_pos rfl]) ?_)
  by_cases c : (l0.length : Int) > 3000
  · rw [decide_eq_true c]
    refine Ev.step (fun k => by rw [pyxlaw08_DerMatchesReference.j0, if_pos rfl]) (Ev.bind haw (Ev.now true))
  rw [decide_eq_false c]
  refine Ev.step (fun k => by rw [pyxlaw08_DerMatchesReference.j0, if_neg (by decide)]) ?_
  rcases agree l0 hb (by omega) l0.length 0 (l0.length : Int) 0 (by omega) (by omega) (by omega) (by omega) (by omega) (by omega) with ⟨ec, en, q, hc, e1, e2⟩ | ⟨t, bs, ks, ks', q, e1, e2, hq, hqe, hg⟩
  · have hP : Ev (fun k => der_Parse.f k l0) (0, [], [], some (.fault ec en)) := by
      refine Ev.congr (fun k => by rw [der_Parse.f, if_neg (by omega)]) (Ev.bind e1 (Ev.const' fun k => by rfl))
    have hR : Ev (fun k => pyxref08_Parse.f k l0) (0, [], [], 0, ec, en) := by
      refine Ev.congr (fun k => by rw [pyxref08_Parse.f, if_neg (by omega)]) (Ev.bind e2 (Ev.const' fun k => by rw [if_neg hc.1]))
    refine Ev.bind hP (Ev.bind hR (Ev.congr (fun k => by rw [if_neg hc.1]) ?_))
    dsimp only
    refine Ev.bind (Ev.const (told_ok ec en hc.2.1 hc.2.2)) (Ev.congr (fun k => by rw [if_pos rfl]) ?_)
    exact Ev.bind zero_same (Ev.now true)
  · by_cases c2 : q < (l0.length : Int)
    · have hP : Ev (fun k => der_Parse.f k l0) (0, [], [], some (.fault 4 q)) := by
        refine Ev.congr (fun k => by rw [der_Parse.f, if_neg (by omega)]) (Ev.bind e1 (Ev.const' fun k => by rw [if_neg (show ¬ ((none : Option E).isSome = true) by simp), if_pos c2]))
      have hR : Ev (fun k => pyxref08_Parse.f k l0) (0, [], [], 0, 4, q) := by
        refine Ev.congr (fun k => by rw [pyxref08_Parse.f, if_neg (by omega)]) (Ev.bind e2 (Ev.const' fun k => by rw [if_pos rfl, if_pos c2]))
      refine Ev.bind hP (Ev.bind hR (Ev.congr (fun k => by rw [if_neg (show ¬ (4 : Int) = 0 by decide)]) ?_))
      dsimp only
      refine Ev.bind (Ev.const (told_ok 4 q (by omega) (by omega))) (Ev.congr (fun k => by rw [if_pos rfl]) ?_)
      exact Ev.bind zero_same (Ev.now true)
    · obtain rfl : q = (l0.length : Int) := by omega
      have hseg : (l0.drop (0 : Int).toNat).take ((l0.length : Int) - 0).toNat = l0 := by simp
      rw [hseg] at hg
      have hP : Ev (fun k => der_Parse.f k l0) (t, bs, ks, none) := by
        refine Ev.congr (fun k => by rw [der_Parse.f, if_neg (by omega)]) (Ev.bind e1 (Ev.const' fun k => by rw [if_neg (show ¬ ((none : Option E).isSome = true) by simp), if_neg c2]))
      have hR : Ev (fun k => pyxref08_Parse.f k l0) (t, bs, ks', (l0.length : Int), 0, 0) := by
        refine Ev.congr (fun k => by rw [pyxref08_Parse.f, if_neg (by omega)]) (Ev.bind e2 (Ev.const' fun k => by rw [if_pos rfl, if_neg c2]))
      obtain ⟨d, d0, d1, hd⟩ := hg.dep
      have hV : Ev (fun k => der_Valid.f k t bs ks) true := by
        refine Ev.bind hd (Ev.congr (fun k => by rw [if_pos (by omega)]) ?_)
        refine Ev.bind hg.shp (Ev.congr (fun k => by rw [if_pos rfl]) ?_)
        refine Ev.bind hg.siz (Ev.const' fun k => ?_)
        rw [decide_eq_true (by omega)]
      have hE : Ev (fun k => der_Encode.f k t bs ks) (l0, none) := by
        refine Ev.bind hV (Ev.congr (fun k => by rw [if_neg (by decide)]) ?_)
        exact Ev.bind hg.enc (Ev.now _)
      have hS : Ev (fun k => pyxref01_Same.f k l0 l0) true := by
        have := same_ev l0 l0 (by omega)
        rw [decide_eq_true rfl] at this
        exact this
      refine Ev.bind hP (Ev.bind hR (Ev.congr (fun k => by rw [if_pos (show (0 : Int) = 0 from rfl)]) ?_))
      dsimp only
      refine Ev.bind hE (Ev.congr (fun k => by rw [if_pos (show (none : Option E).isNone = true from rfl)]) ?_)
      refine Ev.bind hg.sam (Ev.congr (fun k => by rw [if_pos rfl, if_pos (show (none : Option E).isNone = true from rfl)]) ?_)
      exact Ev.bind hS (Ev.now true)
end Go.Proofs.YtijmigapdcikpaaDoor.Pure
