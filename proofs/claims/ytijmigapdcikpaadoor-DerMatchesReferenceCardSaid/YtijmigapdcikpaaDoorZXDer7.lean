/- der: the program reads what the reference reads; plain lemmas, no condition. -/
import Derived.Test.YtijmigapdcikpaaDoorZXDer6
import Derived.KernelRfl
namespace Go.Proofs.YtijmigapdcikpaaDoor.PDer
open Go.RowKit Go.Proofs.YtijmigapdcikpaaDoorW.PrintWords Go.Proofs.YtijmigapdcikpaaDoorW.PrintLast Go.Proofs.YtijmigapdcikpaaDoorW.PrintMore Go.Proofs.YtijmigapdcikpaaDoorW.Pu
set_option linter.unusedVariables false
set_option linter.unusedSimpArgs false
theorem tag_all : ((List.range 256).all fun i => (der_right.f (i : Int) == pyxref08_Tag.f (i : Int)) && (der_right.f (i : Int)).isSome && (der_composed.f (i : Int) == some (((Int.tdiv (i : Int) 32 % 256) % 2) != 0))) = true := by kernel_rfl
theorem tag_ev (t : Int) (h0 : 0 ≤ t) (h1 : t < 256) : ∃ b, der_right.f t = some b ∧ pyxref08_Tag.f t = some b ∧ der_composed.f t = some (((Int.tdiv t 32 % 256) % 2) != 0) := by
  have := List.all_eq_true.1 tag_all t.toNat (by rw [List.mem_range]; omega)
  rw [show (t.toNat : Int) = t by omega] at this
  simp only [Bool.and_eq_true] at this
  obtain ⟨⟨e1, e2⟩, e3⟩ := this
  obtain ⟨b, hb⟩ := Option.isSome_iff_exists.1 e2
  exact ⟨b, hb, by rw [← eq_of_beq e1, hb], eq_of_beq e3⟩
def Res (l : List Int) (p e a : Int) : Prop :=
  (∃ c n q, (c ≠ 0 ∧ 0 ≤ n ∧ n ≤ 3000) ∧ Ev (fun k => nodeM k l p e a) (0, [], [], some (.fault c n), q) ∧ Ev (fun k => pyxref08_read.f k l p e a) (0, [], [], 0, c, n)) ∨
  (∃ t bs ks ks' q, Ev (fun k => nodeM k l p e a) (t, bs, ks, none, q) ∧ Ev (fun k => pyxref08_read.f k l p e a) (t, bs, ks', q, 0, 0) ∧ p < q ∧ q ≤ e ∧ GoodN a ((l.drop p.toNat).take (q - p).toNat) t bs ks ks')
theorem seg_split (l : List Int) (p q r : Int) (h0 : 0 ≤ p) (h1 : p ≤ q) (h2 : q ≤ r) : (l.drop p.toNat).take (r - p).toNat = (l.drop p.toNat).take (q - p).toNat ++ (l.drop q.toNat).take (r - q).toNat := by
  rw [show (r - p).toNat = (q - p).toNat + (r - q).toNat by omega, List.take_add, List.drop_drop, show p.toNat + (q - p).toNat = q.toNat by omega]
theorem seg_len (l : List Int) (p q : Int) (h0 : 0 ≤ p) (h1 : p ≤ q) (h2 : q ≤ (l.length : Int)) : (((l.drop p.toNat).take (q - p).toNat).length : Int) = q - p := by simp; omega
theorem kids_agree (l : List Int) (hl : l.length ≤ 3000) (t a q0 stop : Int) (h0 : 0 ≤ q0) (hs : stop ≤ (l.length : Int)) (ha : 0 ≤ a ∧ a ≤ 7) (ih : ∀ q, q0 ≤ q → q ≤ stop → Res l q stop (a + 1)) :
    ∀ (dd : Nat) (q : Int) (L : List T3), (stop - q).toNat ≤ dd → q0 ≤ q → q ≤ stop → GoodL (a + 1) L → segs L = (l.drop q0.toNat).take (q - q0).toNat → (L.length : Int) ≤ q - q0 →
      (∃ c n q', (c ≠ 0 ∧ 0 ≤ n ∧ n ≤ 3000) ∧ Ev (fun k => kidsM k l q stop a t (L.map (·.2.1))) (0, [], [], some (.fault c n), q') ∧ Ev (fun k => pyxref08_read.l1 k l a q stop t (L.map (·.2.2))) (0, [], [], 0, c, n)) ∨
      (∃ L' : List T3, GoodL (a + 1) L' ∧ segs L' = (l.drop q0.toNat).take (stop - q0).toNat ∧ (L'.length : Int) ≤ stop - q0 ∧ Ev (fun k => kidsM k l q stop a t (L.map (·.2.1))) (t, [], L'.map (·.2.1), none, stop) ∧ Ev (fun k => pyxref08_read.l1 k l a q stop t (L.map (·.2.2))) (t, [], L'.map (·.2.2), stop, 0, 0)) := by
  intro dd
  induction dd with
  | zero =>
    intro q L hd h1 h2 hg hsg hll
    obtain rfl : q = stop := by omega
    exact .inr ⟨L, hg, hsg, hll, Ev.last fun k => by rw [kidsM, if_neg (by omega)], Ev.last fun k => by rw [pyxref08_read.l1, if_neg (by omega)]⟩
  | succ dd ihd =>
    intro q L hd h1 h2 hg hsg hll
    by_cases c : q < stop
    · have w1 : wrap64 (a + 1) = a + 1 := w64 (by omega) (by omega)
      rcases ih q h1 h2 with ⟨c', n, q', hc', e1, e2⟩ | ⟨t', bs, ks, ks', q', e1, e2, hq, hqe, hgn⟩
      · refine .inl ⟨c', n, q', hc', ?_, ?_⟩
        · refine Ev.step (fun k => by rw [kidsM, if_pos c]) (Ev.bind e1 ?_)
          exact Ev.const' fun k => by rfl
        · refine Ev.step (fun k => by rw [pyxref08_read.l1, if_pos c, w1]) (Ev.bind e2 ?_)
          exact Ev.const' fun k => by rw [if_neg hc'.1]
      · have hgl : GoodL (a + 1) (L ++ [((l.drop q.toNat).take (q' - q).toNat, (⟨t', bs, ks⟩ : S26), (⟨t', bs, ks'⟩ : S33))]) := by
          intro x hx
          rcases List.mem_append.1 hx with hx | hx
          · exact hg x hx
          · obtain rfl := List.mem_singleton.1 hx
            exact ⟨rfl, rfl, hgn⟩
        have hsg2 : segs (L ++ [((l.drop q.toNat).take (q' - q).toNat, (⟨t', bs, ks⟩ : S26), (⟨t', bs, ks'⟩ : S33))]) = (l.drop q0.toNat).take (q' - q0).toNat := by
          rw [segs_snoc, hsg, seg_split l q0 q q' h0 h1 (by omega)]
        have key := ihd q' (L ++ [((l.drop q.toNat).take (q' - q).toNat, (⟨t', bs, ks⟩ : S26), (⟨t', bs, ks'⟩ : S33))]) (by omega) (by omega) hqe hgl hsg2 (by rw [List.length_append, List.length_singleton]; omega)
        rw [List.map_append, List.map_append] at key
        have s1 : ∀ r, Ev (fun k => kidsM k l q' stop a t (L.map (·.2.1) ++ [(⟨t', bs, ks⟩ : S26)])) r → Ev (fun k => kidsM k l q stop a t (L.map (·.2.1))) r := fun r hr => by
          refine Ev.step (fun k => by rw [kidsM, if_pos c]) (Ev.bind e1 ?_)
          exact Ev.congr (fun k => by rw [if_neg (show ¬ ((none : Option E).isSome = true) by simp), if_pos (by rw [List.length_map]; omega)]) hr
        have s2 : ∀ r, Ev (fun k => pyxref08_read.l1 k l a q' stop t (L.map (·.2.2) ++ [(⟨t', bs, ks'⟩ : S33)])) r → Ev (fun k => pyxref08_read.l1 k l a q stop t (L.map (·.2.2))) r := fun r hr => by
          refine Ev.step (fun k => by rw [pyxref08_read.l1, if_pos c, w1]) (Ev.bind e2 ?_)
          exact Ev.congr (fun k => by rw [if_pos rfl, if_pos (by rw [List.length_map]; omega)]) hr
        rcases key with ⟨c', n, q'', hc', k1, k2⟩ | ⟨L', g1, g2, g3, k1, k2⟩
        · exact .inl ⟨c', n, q'', hc', s1 _ k1, s2 _ k2⟩
        · exact .inr ⟨L', g1, g2, g3, s1 _ k1, s2 _ k2⟩
    · obtain rfl : q = stop := by omega
      exact .inr ⟨L, hg, hsg, hll, Ev.last fun k => by rw [kidsM, if_neg (by omega)], Ev.last fun k => by rw [pyxref08_read.l1, if_neg (by omega)]⟩
theorem agree (l : List Int) (hb : ∀ x ∈ l, 0 ≤ x ∧ x < 256) (hl : l.length ≤ 3000) : ∀ (d : Nat) (p e a : Int), (e - p).toNat ≤ d → 0 ≤ p → 0 ≤ e → e ≤ (l.length : Int) → 0 ≤ a → a ≤ 8 → Res l p e a := by
  intro d
  induction d with
  | zero =>
    intro p e a hd h0 he0 h1 ha ha8
    exact .inl ⟨3, e, p, ⟨by decide, he0, by omega⟩, Ev.last fun k => by rw [nodeM, if_pos (by omega)], Ev.last fun k => by rw [pyxref08_read.f, if_pos (by omega)]⟩
  | succ d ih =>
    intro p e a hd h0 he0 h1 ha ha8
    by_cases c0 : e ≤ p
    · exact .inl ⟨3, e, p, ⟨by decide, he0, by omega⟩, Ev.last fun k => by rw [nodeM, if_pos c0], Ev.last fun k => by rw [pyxref08_read.f, if_pos (by omega)]⟩
    have b0 := rdB hb p
    obtain ⟨b, t1, t2, t3⟩ := tag_ev (rd l p) b0.1 b0.2
    have cond : 0 ≤ p ∧ p < (l.length : Int) ∧ e ≤ (l.length : Int) ∧ 0 ≤ a := ⟨h0, by omega, h1, ha⟩
    cases b with
    | false =>
      refine .inl ⟨5, p, p, ⟨by decide, h0, by omega⟩, Ev.last fun k => by rw [nodeM, if_neg c0, if_pos cond, t1, Option.bind_some, if_pos rfl], Ev.last fun k => ?_⟩
      rw [pyxref08_read.f, if_neg (by omega), if_pos h0, if_pos (by omega), w64 (x := rd l p) (by omega) (by omega), t2, Option.bind_some, if_neg (by decide)]
    | true =>
    by_cases c1 : 8 ≤ a
    · refine .inl ⟨2, p, p, ⟨by decide, h0, by omega⟩, Ev.last fun k => by rw [nodeM, if_neg c0, if_pos cond, t1, Option.bind_some, if_neg (by decide), if_pos c1], Ev.last fun k => ?_⟩
      rw [pyxref08_read.f, if_neg (by omega), if_pos h0, if_pos (by omega), w64 (x := rd l p) (by omega) (by omega), t2, Option.bind_some, if_pos rfl, if_pos (by omega)]
    obtain ⟨qq, hp⟩ := prog_len l (p + 1) e hb (by omega) h1 (by omega) 0
    have hpe := Ev.of (fun k => der_reader_length.mono l (p + 1) e k) hp
    have node : ∀ r, Ev (fun k => (der_reader_length.f k l (p + 1) e).bind fun y => if y.2.1.isSome = true then some (0, [], [], y.2.1, y.2.2) else if 0 ≤ y.2.2 ∧ 0 ≤ y.1 ∧ y.2.2 ≤ (l.length : Int) ∧ y.1 ≤ 281474976710656 then (if e - y.2.2 < y.1 then some (0, [], [], some (.fault 3 e), y.2.2) else (der_composed.f (rd l p)).bind fun c => if c = false then some (rd l p, (l.drop y.2.2.toNat).take y.1.toNat, [], none, y.2.2 + y.1) else kidsM k l y.2.2 (y.2.2 + y.1) a (rd l p) []) else none) r → Ev (fun k => nodeM k l p e a) r := fun r hr =>
      Ev.step (fun k => by rw [nodeM, if_neg c0, if_pos cond, t1, Option.bind_some, if_neg (by decide), if_neg c1]) hr
    cases hlr : lenR l (p + 1) e with
    | inl cn =>
      obtain ⟨c, n⟩ := cn
      rw [hlr] at hpe
      have hcn := lenR_code l _ _ c n hlr
      refine .inl ⟨c, n, qq, ⟨hcn.1, by omega, by omega⟩, node _ (Ev.bind hpe (Ev.const' fun k => by rfl)), ?_⟩
      refine ref_head l p e a hb h0 (by omega) h1 (by omega) t2 (by omega) _ (fun c' n' h => ?_) (fun v q h => ?_)
      · rw [hlr] at h; cases h; rfl
      · rw [hlr] at h; cases h
    | inr vq =>
      obtain ⟨v, q0⟩ := vq
      rw [hlr] at hpe
      replace hpe : Ev (fun k => der_reader_length.f k l (p + 1) e) (v, none, q0) := hpe
      obtain ⟨v0, v1, vq0, vq1, hseg⟩ := lenR_seg l (p + 1) e v q0 hb (by omega) h1 hlr
      have cond2 : 0 ≤ q0 ∧ 0 ≤ v ∧ q0 ≤ (l.length : Int) ∧ v ≤ 281474976710656 := by omega
      have read : ∀ r, Ev (fun k => pyxref08_read.j2 k l p e a v q0) r → Ev (fun k => pyxref08_read.f k l p e a) r := fun r hr =>
        ref_head l p e a hb h0 (by omega) h1 (by omega) t2 (by omega) r (fun c' n' h => by rw [hlr] at h; cases h) (fun v' q' h => by rw [hlr] at h; cases h; exact hr)
      have w1 : wrap64 (q0 + v) = q0 + v := w64 (by omega) (by omega)
      by_cases c2 : e - q0 < v
      · refine .inl ⟨3, e, q0, ⟨by decide, he0, by omega⟩, node _ (Ev.bind hpe (Ev.const' fun k => by rw [if_neg (show ¬ ((none : Option E).isSome = true) by simp), if_pos cond2, if_pos c2])), read _ (Ev.last fun k => by rw [pyxref08_read.j2, w1, if_pos (by omega)])⟩
      have hlenb : (((l.drop q0.toNat).take (q0 + v - q0).toNat).length : Int) = v := by rw [seg_len l q0 (q0 + v) (by omega) (by omega) (by omega)]; omega
      have hall : (l.drop p.toNat).take (q0 + v - p).toNat = rd l p :: (hdr v ++ (l.drop q0.toNat).take (q0 + v - q0).toNat) := by
        rw [show (q0 + v - p).toNat = (q0 + v - (p + 1)).toNat + 1 by omega, take_one l p h0 (by omega), seg_split l (p + 1) q0 (q0 + v) (by omega) (by omega) (by omega), hseg]
      by_cases c3 : ((Int.tdiv (rd l p) 32 % 256) % 2) = 0
      · have hcf : der_composed.f (rd l p) = some false := by rw [t3, c3]; rfl
        refine .inr ⟨rd l p, (l.drop q0.toNat).take (q0 + v - q0).toNat, [], [], q0 + v, ?_, ?_, by omega, by omega, ?_⟩
        · refine node _ (Ev.bind hpe (Ev.const' fun k => ?_))
          rw [if_neg (show ¬ ((none : Option E).isSome = true) by simp), if_pos cond2, if_neg c2, hcf, Option.bind_some, if_pos rfl, show (q0 + v - q0).toNat = v.toNat by omega]
        · refine read _ (Ev.last fun k => ?_)
          have ed : (l.take (q0 + v).toNat).drop q0.toNat = (l.drop q0.toNat).take (q0 + v - q0).toNat := by
            rw [List.drop_take, show (q0 + v).toNat - q0.toNat = (q0 + v - q0).toNat by omega]
          rw [pyxref08_read.j2, w1, if_neg (by omega), if_pos h0, if_pos (by omega), if_pos c3, Option.bind_some, if_pos cond2.1, if_pos (by omega), if_pos (by omega), ed, if_pos (by simp; omega)]
          rfl
        · rw [hall]
          have := good_leaf a (rd l p) ((l.drop q0.toNat).take (q0 + v - q0).toNat) (by omega) (by omega) t1 hcf
          rw [hlenb] at this
          exact this
      · have hct : der_composed.f (rd l p) = some true := by
          rw [t3]
          exact congrArg some (bne_iff_ne.mpr c3)
        have hk := kids_agree l hl (rd l p) a q0 (q0 + v) (by omega) (by omega) ⟨ha, by omega⟩ (fun q g1 g2 => ih q (q0 + v) (a + 1) (by omega) (by omega) (by omega) (by omega) (by omega) (by omega)) (q0 + v - q0).toNat q0 [] (Nat.le_refl _) (by omega) (by omega) (fun x hx => by cases hx) (by rw [show (q0 - q0).toNat = 0 by omega]; rfl) (by simp)
        have n2 : ∀ r, Ev (fun k => kidsM k l q0 (q0 + v) a (rd l p) []) r → Ev (fun k => nodeM k l p e a) r := fun r hr => by
          refine node _ (Ev.bind hpe (Ev.congr (fun k => ?_) hr))
          rw [if_neg (show ¬ ((none : Option E).isSome = true) by simp), if_pos cond2, if_neg c2, hct, Option.bind_some, if_neg (by decide)]
        have r2 : ∀ r, Ev (fun k => pyxref08_read.l1 k l a q0 (q0 + v) (rd l p) []) r → Ev (fun k => pyxref08_read.f k l p e a) r := fun r hr => by
          refine read _ (Ev.step (fun k => ?_) hr)
          rw [pyxref08_read.j2, w1, if_neg (by omega), if_pos h0, if_pos (by omega), if_neg c3]
        rcases hk with ⟨c', n, q', hc', k1, k2⟩ | ⟨L', g1, g2, g3, k1, k2⟩
        · exact .inl ⟨c', n, q', hc', n2 _ k1, r2 _ k2⟩
        · refine .inr ⟨rd l p, [], _, _, q0 + v, n2 _ k1, r2 _ k2, by omega, by omega, ?_⟩
          have hlen : ((segs L').length : Int) = v := by rw [g2]; exact hlenb
          have := good_node a (rd l p) L' g1 ⟨ha, by omega⟩ (by omega) (by omega) t1 hct
          rw [hlen, g2] at this
          rw [hall]
          exact this
end Go.Proofs.YtijmigapdcikpaaDoor.PDer
