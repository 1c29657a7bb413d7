/- der: nodes that fit: what is known of a node that was read; plain lemmas, no condition. -/
import Derived.Test.YtijmigapdcikpaaDoorZXDer5
import Derived.Test.YtijmigapdcikpaaDoorZPDerx13
import Derived.Test.YtijmigapdcikpaaDoorZDerSame
namespace Go.Proofs.YtijmigapdcikpaaDoor.PDer
open Go.RowKit Go.Proofs.YtijmigapdcikpaaDoorW.PrintWords Go.Proofs.YtijmigapdcikpaaDoorW.PrintLast Go.Proofs.YtijmigapdcikpaaDoorW.PrintMore Go.Proofs.YtijmigapdcikpaaDoorW.Pu
set_option linter.unusedVariables false
set_option linter.unusedSimpArgs false
theorem take_one (l : List Int) (p : Int) (h0 : 0 ≤ p) (h : p < (l.length : Int)) (m : Nat) : (l.drop p.toNat).take (m + 1) = rd l p :: (l.drop (p + 1).toNat).take m := by
  obtain ⟨i, rfl⟩ := Int.eq_ofNat_of_zero_le h0
  rw [Int.toNat_natCast, drop_rd l (by omega), List.take_succ_cons, show ((i : Int) + 1).toNat = i + 1 by omega]
theorem lenR_seg (l : List Int) (p e v q : Int) (hb : ∀ x ∈ l, 0 ≤ x ∧ x < 256) (h0 : 0 ≤ p) (h1 : e ≤ (l.length : Int)) (h : lenR l p e = .inr (v, q)) : 0 ≤ v ∧ v < 16777216 ∧ p < q ∧ q ≤ e ∧ (l.drop p.toNat).take (q - p).toNat = hdr v := by
  have b0 := rdB hb p
  have b1 := rdB hb (p + 1)
  have b2 := rdB hb (p + 2)
  have b3 := rdB hb (p + 3)
  unfold lenR at h
  by_cases c0 : e ≤ p
  · rw [if_pos c0] at h; cases h
  rw [if_neg c0] at h
  by_cases c1 : rd l p < 128
  · rw [if_pos c1] at h
    cases h
    refine ⟨b0.1, by omega, by omega, by omega, ?_⟩
    rw [show (p + 1 - p).toNat = 0 + 1 by omega, take_one l p h0 (by omega)]
    unfold hdr
    rw [if_pos c1]
    rfl
  rw [if_neg c1] at h
  by_cases c2 : rd l p = 128 ∨ 131 < rd l p
  · rw [if_pos c2] at h; cases h
  rw [if_neg c2] at h
  by_cases c3 : rd l p = 129
  · rw [if_pos c3] at h
    by_cases d1 : e ≤ p + 1
    · rw [if_pos d1] at h; cases h
    rw [if_neg d1] at h
    by_cases d2 : rd l (p + 1) < 128
    · rw [if_pos d2] at h; cases h
    rw [if_neg d2] at h
    cases h
    refine ⟨b1.1, by omega, by omega, by omega, ?_⟩
    rw [show (p + 2 - p).toNat = 0 + 1 + 1 by omega, take_one l p h0 (by omega), take_one l (p + 1) (by omega) (by omega), c3]
    unfold hdr
    rw [if_neg d2, if_pos b1.2, show rd l (p + 1) % 256 = rd l (p + 1) by omega]
    rfl
  rw [if_neg c3] at h
  by_cases c4 : rd l p = 130
  · rw [if_pos c4] at h
    by_cases d1 : e ≤ p + 2
    · rw [if_pos d1] at h; cases h
    rw [if_neg d1] at h
    by_cases d2 : rd l (p + 1) * 256 + rd l (p + 2) < 256
    · rw [if_pos d2] at h; cases h
    rw [if_neg d2] at h
    cases h
    refine ⟨by omega, by omega, by omega, by omega, ?_⟩
    rw [show (p + 3 - p).toNat = 0 + 1 + 1 + 1 by omega, take_one l p h0 (by omega), take_one l (p + 1) (by omega) (by omega), show p + 1 + 1 = p + 2 by omega, take_one l (p + 2) (by omega) (by omega), c4]
    unfold hdr
    rw [if_neg (by omega), if_neg d2, if_pos (by omega), show (rd l (p + 1) * 256 + rd l (p + 2)) / 256 % 256 = rd l (p + 1) by omega, show (rd l (p + 1) * 256 + rd l (p + 2)) % 256 = rd l (p + 2) by omega]
    rfl
  rw [if_neg c4] at h
  by_cases d1 : e ≤ p + 3
  · rw [if_pos d1] at h; cases h
  rw [if_neg d1] at h
  by_cases d2 : (rd l (p + 1) * 256 + rd l (p + 2)) * 256 + rd l (p + 3) < 65536
  · rw [if_pos d2] at h; cases h
  rw [if_neg d2] at h
  cases h
  refine ⟨by omega, by omega, by omega, by omega, ?_⟩
  have c5 : rd l p = 131 := by omega
  rw [show (p + 4 - p).toNat = 0 + 1 + 1 + 1 + 1 by omega, take_one l p h0 (by omega), take_one l (p + 1) (by omega) (by omega), show p + 1 + 1 = p + 2 by omega, take_one l (p + 2) (by omega) (by omega), show p + 2 + 1 = p + 3 by omega, take_one l (p + 3) (by omega) (by omega), c5]
  unfold hdr
  rw [if_neg (by omega), if_neg (by omega), if_neg d2, show ((rd l (p + 1) * 256 + rd l (p + 2)) * 256 + rd l (p + 3)) / 65536 % 256 = rd l (p + 1) by omega, show ((rd l (p + 1) * 256 + rd l (p + 2)) * 256 + rd l (p + 3)) / 256 % 256 = rd l (p + 2) by omega, show ((rd l (p + 1) * 256 + rd l (p + 2)) * 256 + rd l (p + 3)) % 256 = rd l (p + 3) by omega]
  rfl
theorem lenR_code (l : List Int) (p e c n : Int) (h : lenR l p e = .inl (c, n)) : c ≠ 0 ∧ (n = e ∨ n = p) := by
  unfold lenR at h
  repeat' split at h
  all_goals first | (cases h; done) | (injection h with h; injection h with h1 h2; omega)
structure GoodN (a : Int) (seg : List Int) (t : Int) (bs : List Int) (ks : List (S26)) (ks' : List (S33)) : Prop where
  enc : Ev (fun k => encM k t bs ks) seg
  dep : ∃ d, 1 ≤ d ∧ d ≤ 8 - a ∧ Ev (fun k => der_Depth.f k t bs ks) d
  shp : Ev (fun k => der_shaped.f k t bs ks) true
  siz : Ev (fun k => der_size.f k t bs ks) (seg.length : Int)
  sam : Ev (fun k => pyxlaw08_same.f k t bs ks t bs ks') true
abbrev T3 := List Int × S26 × S33
def GoodL (a : Int) (L : List T3) : Prop := ∀ x ∈ L, x.2.2.f0 = x.2.1.f0 ∧ x.2.2.f1 = x.2.1.f1 ∧ GoodN a x.1 x.2.1.f0 x.2.1.f1 x.2.1.f2 x.2.2.f2
def segs (L : List T3) : List Int := (L.map (·.1)).flatten
theorem segs_cons (x : T3) (L : List T3) : segs (x :: L) = x.1 ++ segs L := by simp [segs]
theorem segs_snoc (x : T3) (L : List T3) : segs (L ++ [x]) = segs L ++ x.1 := by simp [segs]
theorem cont_ev {a : Int} : ∀ (L : List T3), GoodL a L → ∀ acc : List Int, acc.length + (segs L).length < 1000000000 → Ev (fun k => contE k (L.map (·.2.1)) acc) (acc ++ segs L) := by
  intro L
  induction L with
  | nil => intro _ acc _; exact Ev.last fun k => by simp [contE, segs]
  | cons x xs ih =>
    intro h acc hl
    rw [segs_cons] at hl ⊢
    have hx := h x (by simp)
    rw [List.length_append] at hl
    refine Ev.step (f := fun k => (encM k x.2.1.f0 x.2.1.f1 x.2.1.f2).bind fun r => if acc.length + r.length < 1000000000 then contE k (xs.map (·.2.1)) (acc ++ r) else none) (fun k => by rw [List.map_cons, contE]) ?_
    refine Ev.bind hx.2.2.enc ?_
    have := ih (fun y hy => h y (by simp [hy])) (acc ++ x.1) (by rw [List.length_append]; omega)
    rw [List.append_assoc] at this
    exact Ev.congr (fun k => by rw [if_pos (by omega)]) this
theorem all_ev {a : Int} : ∀ (L : List T3), GoodL a L → Ev (fun k => allO (fun x => der_shaped.f k x.f0 x.f1 x.f2) (L.map (·.2.1))) true := by
  intro L
  induction L with
  | nil => intro _; exact Ev.const' fun k => rfl
  | cons x xs ih =>
    intro h
    have hx := h x (by simp)
    refine Ev.congr (f := fun k => (der_shaped.f k x.2.1.f0 x.2.1.f1 x.2.1.f2).bind fun r => if r = true then allO (fun x => der_shaped.f k x.f0 x.f1 x.f2) (xs.map (·.2.1)) else some false) (fun k => rfl) ?_
    refine Ev.bind hx.2.2.shp ?_
    exact Ev.congr (fun k => by rw [if_pos rfl]) (ih (fun y hy => h y (by simp [hy])))
theorem rd26 (L : List T3) (i : Nat) (h : i < L.length) : rd_T26 (L.map (·.2.1)) (i : Int) = L[i].2.1 := by
  unfold rd_T26
  rw [Int.toNat_natCast, List.getD_eq_getElem?_getD, List.getElem?_map, List.getElem?_eq_getElem h]
  rfl
theorem rd33 (L : List T3) (i : Nat) (h : i < L.length) : rd_T33 (L.map (·.2.2)) (i : Int) = L[i].2.2 := by
  unfold rd_T33
  rw [Int.toNat_natCast, List.getD_eq_getElem?_getD, List.getElem?_map, List.getElem?_eq_getElem h]
  rfl
theorem depth_ev {a : Int} (L : List T3) (h : GoodL (a + 1) L) (ha : 0 ≤ a ∧ a ≤ 7) (hL : L.length < 1000000) : ∀ d i : Nat, L.length - i = d → i ≤ L.length → ∀ m : Int, 0 ≤ m → m ≤ 7 - a → ∃ r, 1 ≤ r ∧ r ≤ 8 - a ∧ Ev (fun k => der_Depth.l0 k m (L.map (·.2.1)) ((L.map (·.2.1)).length : Int) (i : Int)) r := by
  intro d
  induction d with
  | zero =>
    intro i hd hi m h0 h1
    exact ⟨m + 1, by omega, by omega, Ev.last fun k => by rw [der_Depth.l0, if_neg (by rw [List.length_map]; omega), w64 (by omega) (by omega)]⟩
  | succ d ih =>
    intro i hd hi m h0 h1
    have hlt : i < L.length := by omega
    obtain ⟨dd, d0, d1, hdd⟩ := (h L[i] (List.getElem_mem hlt)).2.2.dep
    have hm : 0 ≤ mx m dd ∧ mx m dd ≤ 7 - a := by unfold mx; split <;> omega
    obtain ⟨r, r0, r1, hr⟩ := ih (i + 1) (by omega) (by omega) (mx m dd) hm.1 hm.2
    refine ⟨r, r0, r1, ?_⟩
    refine Ev.step (f := fun k => (der_Depth.f k L[i].2.1.f0 L[i].2.1.f1 L[i].2.1.f2).bind fun t120 => (der_Depth.l0 k (mx m t120) (L.map (·.2.1)) ((L.map (·.2.1)).length : Int) ((i + 1 : Nat) : Int))) (fun k => ?_) (Ev.bind hdd hr)
    rw [der_Depth.l0, if_pos (by rw [List.length_map]; omega), if_pos (by omega), if_pos (by rw [List.length_map]; omega), rd26 L i hlt, wsucc (by omega)]
theorem size_ev {a : Int} (L : List T3) (h : GoodL a L) (hL : L.length < 1000000) : ∀ d i : Nat, L.length - i = d → i ≤ L.length → ∀ n : Int, 0 ≤ n → n + ((segs (L.drop i)).length : Int) < 16777216 → Ev (fun k => der_size.l0 k n (L.map (·.2.1)) ((L.map (·.2.1)).length : Int) (i : Int)) (n + ((segs (L.drop i)).length : Int) + 1 + ((hdr (n + ((segs (L.drop i)).length : Int))).length : Int)) := by
  intro d
  induction d with
  | zero =>
    intro i hd hi n h0 h1
    rw [List.drop_eq_nil_of_le (by omega)] at h1 ⊢
    have e : n + ((segs ([] : List T3)).length : Int) = n := by simp [segs]
    rw [e] at h1 ⊢
    refine ⟨4, fun k hk => ?_⟩
    obtain ⟨k, rfl⟩ : ∃ m, k = m + 1 := ⟨k - 1, by omega⟩
    exact size_of k n (by omega) h0 h1 _ _ (by rw [List.length_map]; omega)
  | succ d ih =>
    intro i hd hi n h0 h1
    have hlt : i < L.length := by omega
    have e : L.drop i = L[i] :: L.drop (i + 1) := List.drop_eq_getElem_cons hlt
    rw [e, segs_cons, List.length_append] at h1 ⊢
    have hs := (h L[i] (List.getElem_mem hlt)).2.2.siz
    have := ih (i + 1) (by omega) (by omega) (n + (L[i].1.length : Int)) (by omega) (by omega)
    rw [show n + (L[i].1.length : Int) + ((segs (L.drop (i + 1))).length : Int) = n + ((L[i].1.length + (segs (L.drop (i + 1))).length : Nat) : Int) by omega] at this
    refine Ev.step (f := fun k => (der_size.f k L[i].2.1.f0 L[i].2.1.f1 L[i].2.1.f2).bind fun t124 => (der_size.l0 k (wrap64 (n + t124)) (L.map (·.2.1)) ((L.map (·.2.1)).length : Int) ((i + 1 : Nat) : Int))) (fun k => ?_) (Ev.bind hs (Ev.congr (fun k => by rw [w64 (x := n + (L[i].1.length : Int)) (by omega) (by omega)]) this))
    rw [der_size.l0, if_pos (by rw [List.length_map]; omega), if_pos (by omega), if_pos (by rw [List.length_map]; omega), rd26 L i hlt, wsucc (by omega)]
theorem same_ev2 {a : Int} (L : List T3) (h : GoodL a L) (hL : L.length < 1000000) (t t' : Int) (b b' : List Int) : ∀ d i : Nat, L.length - i = d → i ≤ L.length → Ev (fun k => pyxlaw08_same.l0 k (i : Int) t b (L.map (·.2.1)) t' b' (L.map (·.2.2))) true := by
  intro d
  induction d with
  | zero =>
    intro i hd hi
    exact Ev.last fun k => by rw [pyxlaw08_same.l0, if_neg (by rw [List.length_map]; omega)]
  | succ d ih =>
    intro i hd hi
    have hlt : i < L.length := by omega
    have hx := h L[i] (List.getElem_mem hlt)
    refine Ev.step (f := fun k => (pyxlaw08_same.f k L[i].2.1.f0 L[i].2.1.f1 L[i].2.1.f2 L[i].2.1.f0 L[i].2.1.f1 L[i].2.2.f2).bind fun t246 => (if t246 = true then (pyxlaw08_same.l0 k ((i + 1 : Nat) : Int) t b (L.map (·.2.1)) t' b' (L.map (·.2.2))) else (some false))) (fun k => ?_) (Ev.bind hx.2.2.sam (Ev.congr (fun k => by rw [if_pos rfl]) (ih (i + 1) (by omega) (by omega))))
    rw [pyxlaw08_same.l0, if_pos (by rw [List.length_map]; omega), if_pos (by omega), if_pos (by rw [List.length_map]; omega), rd26 L i hlt, rd33 L i hlt, wsucc (by omega), hx.1, hx.2.1]
theorem same_top (t : Int) (b : List Int) (hb : b.length < 1000000000) (ks : List (S26)) (ks' : List (S33)) (hl : ks.length = ks'.length) (h : Ev (fun k => pyxlaw08_same.l0 k 0 t b ks t b ks') true) : Ev (fun k => pyxlaw08_same.f k t b ks t b ks') true := by
  have hs : Ev (fun k => pyxref01_Same.f k b b) true := by
    have := same_ev b b (by omega)
    rw [decide_eq_true rfl] at this
    exact this
  refine Ev.step (f := fun k => (pyxref01_Same.f k b b).bind fun t243 => (if t243 = true then (pyxlaw08_same.j0 k ((ks.length : Int) != (ks'.length : Int)) t b ks t b ks') else (pyxlaw08_same.j0 k true t b ks t b ks'))) (fun k => by rw [pyxlaw08_same.f, if_pos rfl]) (Ev.bind hs ?_)
  refine Ev.congr (fun k => by rw [if_pos rfl]) ?_
  refine Ev.step (fun k => by rw [hl, pyxlaw08_same.j0, if_neg (by simp)]) h
theorem good_node (a t : Int) (L : List T3) (h : GoodL (a + 1) L) (ha : 0 ≤ a ∧ a ≤ 7) (hL : L.length < 1000000) (hs : (segs L).length < 1000000) (hr : der_right.f t = some true) (hc : der_composed.f t = some true) :
    GoodN a (t :: (hdr ((segs L).length : Int) ++ segs L)) t [] (L.map (·.2.1)) (L.map (·.2.2)) := by
  have hc1 := cont_ev L h [] (by simp; omega)
  rw [List.nil_append] at hc1
  refine ⟨?_, ?_, ?_, ?_, ?_⟩
  · obtain ⟨K, hK⟩ := hc1
    refine ⟨K + 4, fun k hk => ?_⟩
    obtain ⟨k, rfl⟩ : ∃ m, k = m + 1 := ⟨k - 1, by omega⟩
    exact enc_of k t [] _ _ (by omega) (by simp) (by rw [List.length_map]; omega) (hK k (by omega)) (by omega)
  · obtain ⟨r, r0, r1, hr⟩ := depth_ev L h ha hL L.length 0 (by omega) (by omega) 0 (by omega) (by omega)
    exact ⟨r, r0, r1, Ev.step (fun k => by rw [der_Depth.f]; rfl) hr⟩
  · refine Ev.step (fun k => by rw [der_shaped.f, if_pos (by rw [List.length_map]; omega), hr, Option.bind_some, if_pos rfl, hc, Option.bind_some, if_pos rfl, if_neg (by simp)]) (all_ev L h)
  · have := size_ev L h hL L.length 0 (by omega) (by omega) 0 (by omega) (by rw [List.drop_zero]; omega)
    rw [List.drop_zero, Int.zero_add] at this
    have e : ((t :: (hdr ((segs L).length : Int) ++ segs L)).length : Int) = ((segs L).length : Int) + 1 + ((hdr ((segs L).length : Int)).length : Int) := by simp; omega
    rw [e]
    exact Ev.step (fun k => by rw [der_size.f]; rfl) this
  · exact same_top t [] (by simp) _ _ (by simp) (same_ev2 L h hL t t [] [] L.length 0 (by omega) (by omega))
theorem good_leaf (a t : Int) (bs : List Int) (ha : a ≤ 7) (hs : bs.length < 1000000) (hr : der_right.f t = some true) (hc : der_composed.f t = some false) :
    GoodN a (t :: (hdr (bs.length : Int) ++ bs)) t bs [] [] := by
  refine ⟨?_, ?_, ?_, ?_, ?_⟩
  · refine ⟨5, fun k hk => ?_⟩
    obtain ⟨k, rfl⟩ : ∃ m, k = m + 1 + 1 := ⟨k - 2, by omega⟩
    exact enc_of (k + 1) t bs [] _ (by omega) (by omega) (by simp) rfl (by omega)
  · exact ⟨1, by omega, by omega, ⟨2, fun k hk => by obtain ⟨k, rfl⟩ : ∃ m, k = m + 1 + 1 := ⟨k - 2, by omega⟩; show der_Depth.f (k + 1 + 1) t bs [] = some 1; rw [der_Depth.f, der_Depth.l0, if_neg (by simp)]; exact congrArg some (w64 (by omega) (by omega))⟩⟩
  · exact Ev.last fun k => by rw [der_shaped.f, if_pos (by simp), hr, Option.bind_some, if_pos rfl, hc, Option.bind_some, if_neg (by decide), if_neg (by simp)]; rfl
  · refine ⟨5, fun k hk => ?_⟩
    obtain ⟨k, rfl⟩ : ∃ m, k = m + 1 + 1 := ⟨k - 2, by omega⟩
    show der_size.f (k + 1 + 1) t bs [] = some _
    rw [der_size.f, show ((([] : List (S26)).length : Nat) : Int) = (([] : List (S26)).length : Int) from rfl, size_of k _ (by omega) (by omega) (by omega) [] 0 (by simp)]
    exact congrArg some (by simp; omega)
  · exact same_top t bs (by omega) [] [] rfl (Ev.last fun k => by rw [pyxlaw08_same.l0, if_neg (by simp)])
end Go.Proofs.YtijmigapdcikpaaDoor.PDer
