import Derived.Test.YtgmnknhfeoleaaaGreatDoorZPXmssx0
import Derived.Test.YtgmnknhfeoleaaaGreatDoorZPXmssx6
import Derived.Test.YtgmnknhfeoleaaaGreatDoorZPXmssx9
namespace Go.Proofs.YtgmnknhfeoleaaaGreatDoor.PXmss
open Go.RowKit Go.Proofs.YtgmnknhfeoleaaaGreatDoorW.PrintWords Go.Proofs.YtgmnknhfeoleaaaGreatDoorW.PrintLast Go.Proofs.YtgmnknhfeoleaaaGreatDoorW.PrintMore
set_option linter.unusedVariables false
set_option linter.unusedSimpArgs false
def spl : List UInt8 → List UInt8 → List (List UInt8)
  | cur, [] => [cur]
  | cur, c :: r => if c = 46 then cur :: spl [] r else spl (cur ++ [c]) r
theorem spl_skip : ∀ (a cur r : List UInt8), (∀ x ∈ a, x ≠ 46) → spl cur (a ++ r) = spl (cur ++ a) r := by
  intro a
  induction a with
  | nil => intro cur r _; simp
  | cons c a ih =>
    intro cur r h
    rw [List.cons_append, spl, if_neg (h c (by simp)), ih _ _ (fun x hx => h x (by simp [hx])), List.append_assoc]
    rfl
theorem spl_eq : ∀ (k : Nat) (l : List UInt8), l.length ≤ k → Lib.splitK [46] 0 (Lib.count l [46]) l = spl [] l := by
  intro k
  induction k with
  | zero =>
    intro l h
    obtain rfl := List.eq_nil_of_length_eq_zero (Nat.le_zero.1 h)
    rfl
  | succ k ih =>
    intro l h
    have hne : ([46] : List UInt8) ≠ [] := by simp
    rcases Lib.index_spec l [46] with ⟨h1, _⟩ | ⟨i, h1, h2, h3, h4⟩
    · rw [Lib.count_miss h1, Lib.splitK]
      rw [Lib.index_one] at h1
      have h5 : ∀ x ∈ l, x ≠ 46 := by
        intro x hx hx2
        obtain ⟨j, hj⟩ := List.getElem?_of_mem hx
        exact Lib.indexByte_none h1 j (by rw [hj, hx2])
      have h6 := spl_skip l [] [] h5
      rw [List.append_nil, List.nil_append] at h6
      rw [h6]
      rfl
    · rw [Lib.count_hit hne h1, Nat.add_comm, Lib.splitK, if_neg (fun e => by have := beq_iff_eq.1 e; omega), h1]
      simp only [Int.toNat_natCast, Nat.add_zero, List.length_singleton]
      rw [Lib.index_one] at h1
      obtain ⟨h5, h6⟩ := Lib.indexByte_some h1
      have hlt : i < l.length := (List.getElem?_eq_some_iff.1 h5).1
      rw [ih (l.drop (i + 1)) (by rw [List.length_drop]; omega)]
      have e1 : l = l.take i ++ 46 :: l.drop (i + 1) := by
        conv => lhs; rw [← List.take_append_drop i l, List.drop_eq_getElem_cons hlt]
        rw [(List.getElem?_eq_some_iff.1 h5).2]
      conv => rhs; rw [e1]
      rw [spl_skip (l.take i) [] _ (by
        intro x hx hx2
        obtain ⟨j, hj⟩ := List.getElem?_of_mem hx
        have hji : j < i := by have := (List.getElem?_eq_some_iff.1 hj).1; rw [List.length_take] at this; omega
        rw [List.getElem?_take, if_pos hji] at hj
        exact h6 j hji (by rw [hj, hx2])), List.nil_append, spl, if_pos rfl]
def words (s : ByteArray) : List ByteArray := (spl [] s.data.toList).map fun l => ⟨l.toArray⟩
theorem words_eq (s : ByteArray) : Lib.splitB ⟨#[46]⟩ 0 (Lib.countB s ⟨#[46]⟩) s = words s := by
  have h := Lib.splitB_data ⟨#[46]⟩ 0 (Lib.countB s ⟨#[46]⟩) s
  have h2 := spl_eq _ s.data.toList (Nat.le_refl _)
  have h3 : (Lib.splitB ⟨#[46]⟩ 0 (Lib.countB s ⟨#[46]⟩) s).map (·.data.toList) = spl [] s.data.toList := h.trans h2
  unfold words
  rw [← h3, List.map_map]
  conv => lhs; rw [← List.map_id (Lib.splitB ⟨#[46]⟩ 0 (Lib.countB s ⟨#[46]⟩) s)]
  apply List.map_congr_left
  intro x _
  simp
theorem words_len (s : ByteArray) : (words s).length = Lib.countB s ⟨#[46]⟩ + 1 := by
  rw [← words_eq]
  exact Lib.splitB_all ⟨#[46]⟩ (Nat.le_refl 1) 0 _ s rfl
def parseW : List ByteArray → List Int → Option (List Int)
  | [], out => some out
  | x :: r, out => match Lib.parseUintB 32 x.data.toList with
    | .ok u => if out.length > 20 then none else parseW r (out ++ [(u : Int)])
    | _ => none
def oid_Parse.f (k : Nat) (a0 : ByteArray) : Option (List Int × Bool) :=
  if a0.size ≤ 1000000 then (match parseW (words a0) [] with
    | none => some ([], false)
    | some out => (oid_Text.f k out).bind fun t => if t = a0 ∧ validB out = true then some (out, true) else some ([], false)) else none
theorem parse_uint (s : ByteArray) (hs : s.size ≤ 1000000) (w : World) (hG : GOK w) :
    Calls Tryz.prog 73 #[.string s, .int .i64 10, .int .i64 32] w fun e w' => ∃ (n : Int) (ev : Value), e = .returned (.tuple #[.int .u64 n, ev]) ∧ Below w.heap.size w w' ∧
      ((∃ u : Nat, Lib.parseUintB 32 s.data.toList = .ok u ∧ n = u ∧ ev = .nilIface) ∨ ((∀ u, Lib.parseUintB 32 s.data.toList ≠ .ok u) ∧ ∃ t N, ev = .iface t (.pointer (some ⟨N, 0, none⟩)))) := by
  cases h : Lib.parseUintB 32 s.data.toList with
  | ok u =>
    refine (Tryz.strconv_ParseUint_10_at32_ok s (by omega) u h w).mono ?_
    rintro e w' ⟨rfl, hw⟩
    refine ⟨_, _, rfl, ?_, .inl ⟨u, rfl, rfl, rfl⟩⟩
    rcases hw with rfl | rfl
    · exact Below.refl _ _
    · exact Lib.bytesWorld_below _ _ _
  | range =>
    obtain ⟨tp, p, hc⟩ := hG.rng
    refine (Tryz.strconv_ParseUint_10_at32_range s (by omega) h _ w hc (.inr ⟨_, _, rfl⟩)).mono ?_
    rintro e w' ⟨N, rfl, _, _, hb⟩
    exact ⟨_, _, rfl, hb, .inr ⟨(fun _ h2 => by cases h2), _, N, rfl⟩⟩
  | _ =>
    obtain ⟨tp, p, hc⟩ := hG.syn
    refine (Tryz.strconv_ParseUint_10_at32_syntax s (by omega) (fun _ e_ => by rw [h] at e_; cases e_) (fun e_ => by rw [h] at e_; cases e_) _ w hc (.inr ⟨_, _, rfl⟩)).mono ?_
    rintro e w' ⟨N, rfl, _, _, hb⟩
    exact ⟨_, _, rfl, hb, .inr ⟨(fun _ h2 => by cases h2), _, N, rfl⟩⟩
theorem split_calls (s : ByteArray) (hs : s.size ≤ 1000000) (w : World) (hG : GOK w) :
    Calls Tryz.prog 72 #[.string s, .string ⟨#[46]⟩] w fun e w' => e = .returned (.slice (some ⟨w.heap.size, 0, none⟩) (words s).length (words s).length) ∧ w.heap.size < w'.heap.size ∧ Below w.heap.size w w' ∧ ∀ (j : Nat) x, (words s)[j]? = some x → w'.cell? ⟨w.heap.size, j, none⟩ = some (.string x) := by
  obtain ⟨m, hm⟩ := hG.mx
  refine (Tryz.strings_Split s ⟨#[46]⟩ m w (by omega) hm (Nat.le_refl 1)).mono ?_
  rintro e w' ⟨rfl, rfl⟩
  rw [words_eq, ← words_len]
  refine ⟨rfl, by simp, below_alloc (Below.refl _ _) _, fun j x hx => ?_⟩
  rw [World.cell?_alloc_new]
  simp [hx]
theorem spl_size : ∀ (l cur : List UInt8), ∀ x ∈ spl cur l, x.length ≤ cur.length + l.length := by
  intro l
  induction l with
  | nil => intro cur x hx; simp [spl] at hx; subst hx; simp
  | cons c r ih =>
    intro cur x hx
    rw [spl] at hx
    split at hx
    · rcases List.mem_cons.1 hx with rfl | hx
      · simp
      · have := ih [] x hx; simp at this ⊢; omega
    · have := ih _ x hx; simp at this ⊢; omega
theorem words_size (s : ByteArray) : ∀ x ∈ words s, x.size ≤ s.size := by
  intro x hx
  obtain ⟨l, hl, rfl⟩ := List.mem_map.1 hx
  have := spl_size _ _ l hl
  show l.toArray.size ≤ s.data.size
  simpa using this
theorem info_u32p : (Tryz.prog.info? 22).map (fun i => (i.zero, i.size, i.bytes)) = some (some (.int .u32 0), 1, 4) := by kernel_rfl
set_option maxHeartbeats 8000000 in
set_option maxRecDepth 100000 in
theorem oid_Parse.calls (k : Nat) (a0 : ByteArray) (r1 : List Int) (r2 : Bool) (w : World) (h : oid_Parse.f k a0 = some (r1, r2)) (hG : GOK w) :
    Calls Tryz.prog 60 #[.string a0] w fun e w' => ∃ v0_ : Value, e = .returned (.tuple #[v0_, .bool r2]) ∧ Kd.R (Kd.int .u32) 22 w' w.heap.size (fun _ => True) v0_ r1 ∧ Below w.heap.size w w' := by
  have HG := Aside0.mk hG
  clear hG
  rw [oid_Parse.f] at h
  by_cases hsz : a0.size ≤ 1000000
  case neg => rw [if_neg hsz] at h; cases h
  rw [if_pos hsz] at h
  obtain ⟨T, hT⟩ : ∃ T, parseW (words a0) [] = T := ⟨_, rfl⟩
  rw [hT] at h
  obtain ⟨ws, hws⟩ : ∃ ws, words a0 = ws := ⟨_, rfl⟩
  have hsp := split_calls a0 hsz w HG.out
  rw [hws] at hsp hT
  have hwl : ∀ x ∈ ws, x.size ≤ 1000000 := fun x hx => Nat.le_trans (words_size a0 x (by rw [hws]; exact hx)) hsz
  have hn : ws.length ≤ 1000001 := by
    rw [← hws, words_len]
    have := Lib.countB_le ⟨#[46]⟩ (Nat.le_refl 1) _ a0 (Nat.le_refl _)
    omega
  have HWL := Aside0.mk hwl
  have HN := Aside0.mk hn
  have HT := Aside0.mk hT
  have HH := Aside0.mk h
  have HS := Aside0.mk hsp
  clear hwl hn hT h hsp hws
  go_enter Tryz.func60, Tryz.ntmps60
  go_wp2_with (go_at_call 72; ((with_reducible refine HS.out.mono ?_); rintro e w1 ⟨rfl, hlt1, hb1, hc1⟩; have HB1 := Aside0.mk hb1; have HC1 := Aside0.mk hc1; have HL1 := Aside0.mk hlt1; clear hlt1 hb1 hc1))
  clear HS
  go_loopg [4, 12] ws.length (fun kq v4 v12 wr => ∃ (i : Nat) (out : List Int), v12 = .int .i64 (i : Int) ∧ Aside0 (i ≤ ws.length ∧ kq = ws.length - i) ∧ Aside0 (parseW (ws.drop i) out = T) ∧ Aside0 (Kd.R (Kd.int .u32) 22 wr w1.heap.size (fun _ => True) v4 out) ∧ Aside0 (Below w1.heap.size w1 wr))
  case atStart => exact ⟨0, [], rfl, ⟨by omega⟩, ⟨HT.out⟩, ⟨Kd.R_nil _ _ _ _ _⟩, ⟨Below.refl _ _⟩⟩
  case round =>
    obtain ⟨i, out, rfl, HI, HP, HO, HB⟩ := hrel
    obtain ⟨hi, hk⟩ := HI.out
    by_cases ci : i < ws.length
    · have cb : decide ((i : Int) < (ws.length : Int)) = true := decide_eq_true (by omega)
      obtain ⟨x, hx⟩ : ∃ x, ws[i]? = some x := ⟨_, List.getElem?_eq_getElem ci⟩
      have hc := HC1.out i x hx
      have hcr : wr.cell? ⟨w.heap.size, i, none⟩ = some (.string x) := (HB.out.cell HL1.out).trans hc
      have hdrop : ws.drop i = x :: ws.drop (i + 1) := by rw [List.drop_eq_getElem_cons ci]; congr 1; rw [List.getElem?_eq_getElem ci] at hx; exact Option.some.inj hx
      have hP := HP.out
      rw [hdrop, parseW] at hP
      have hBw : Below w.heap.size w wr := below_step HB1.out HB.out
      have hpu := parse_uint x (HWL.out x (List.mem_of_getElem? hx)) wr (HG.out.below hBw)
      obtain ⟨A4, c4, rfl⟩ := Kd.R_slice HO.out
      have HPU := Aside0.mk hpu
      have HBW := Aside0.mk hBw
      have i0 : (0 ≤ (i : Int)) = True := eq_true (by omega)
      have i1 : ((i : Int) < (ws.length : Int)) = True := eq_true (by omega)
      have hw4 : wrap64 ((i : Int) + 1) = ((i + 1 : Nat) : Int) := by have := HN.out; unfold wrap64; omega
      clear hpu hBw HP hdrop hc hx
      have HI2 := Aside0.mk (show i < ws.length ∧ gk = ws.length - i from ⟨ci, hk⟩)
      clear HI hi hk ci
      cases hp : Lib.parseUintB 32 x.data.toList with
      | ok u =>
        rw [hp] at hP
        simp only at hP
        have HC := Aside0.mk hp
        clear hp
        by_cases c20 : out.length > 20
        · rw [if_pos c20] at hP
          have d20 : decide ((out.length : Int) > 20) = true := decide_eq_true (by omega)
          subst hP
          have hr := HH.out
          simp only [Option.some.injEq, Prod.mk.injEq] at hr
          obtain ⟨rfl, rfl⟩ := hr
          go_wp2_with (go_at_call 73; ((with_reducible refine HPU.out.mono ?_); rintro e w2 ⟨n, ev, rfl, hb2, hcase⟩; have hcase' : n = (u : Int) ∧ ev = .nilIface := (hcase.elim (fun ⟨u', h1, h2, h3⟩ => ⟨by rw [h2]; rw [HC.out] at h1; cases h1; rfl, h3⟩) (fun h1 => absurd HC.out (h1.1 u))); obtain ⟨rfl, rfl⟩ := hcase'; clear hcase; have HB2 := Aside0.mk hb2; clear hb2))
          go_ret2
          exact ⟨_, rfl, Kd.R_nil _ _ _ _ _, below_step HBW.out HB2.out⟩
        · rw [if_neg c20] at hP
          have d20 : decide ((out.length : Int) > 20) = false := decide_eq_false (by omega)
          have hule := Lib.parseUintB_le HC.out
          have hm : (u : Int) % 4294967296 = (u : Int) := by have : u ≤ 4294967295 := hule; omega
          have HM := Aside0.mk hm
          have HP2 := Aside0.mk hP
          have HLM := Aside0.mk (show out.length ≤ 20 by omega)
          clear hule hm hP c20
          go_wp2_with (first | (go_at_call 73; ((with_reducible refine HPU.out.mono ?_); rintro e w2 ⟨n, ev, rfl, hb2, hcase⟩; have hcase' : n = (u : Int) ∧ ev = .nilIface := (hcase.elim (fun ⟨u', h1, h2, h3⟩ => ⟨by rw [h2]; rw [HC.out] at h1; cases h1; rfl, h3⟩) (fun h1 => absurd HC.out (h1.1 u))); obtain ⟨rfl, rfl⟩ := hcase'; clear hcase; have HB2 := Aside0.mk hb2; clear hb2)) | ((with_reducible refine gate_builtin (b := .append) (xs := #[.tmp 28, .tmp 31]) rfl ?_); at_builtin; refine Kd.R_append (Kd.int .u32) (w0 := w1) w1.heap.size rfl (.tmp 28) (.tmp 31) 43 22 (.int .u32 0) 4 rfl Tryz.underlying43 info_u32p rfl (by decide) (by omega) (.slice A4 out.length c4) out ((u : Int) % 4294967296) [.int .u32 ((u : Int) % 4294967296)] (fun _ => True) (fun _ => False) rfl rfl ?aP (fun _ hk => hk.elim) ?aF ?aO ?aB ?aS ?aL ?_; (case aP => exact rfl); (case aB => exact below_step HB.out HB2.out); (case aF => exact (fun _ _ => trivial)); (case aO => exact Kd.R_below HO.out HB2.out); (case aS => exact (below_size (below_step HB.out HB2.out))); (case aL => have := HLM.out; omega); intro v142 w14 ho hb hg hat; rw [HM.out] at ho; have HB3 := Aside0.mk hb; have HO3 := Aside0.mk ho; clear ho hb hg hat))
          go_roundg (ws.length - (i + 1))
          case measure => have := HI2.out; omega
          case rel => exact ⟨i + 1, out ++ [(u : Int)], by first | rfl | (rw [← hw4]), ⟨by have := HI2.out; omega⟩, ⟨HP2.out⟩, ⟨HO3.out⟩, ⟨HB3.out⟩⟩
      | range =>
        rw [hp] at hP
        simp only at hP
        have HC := Aside0.mk (show ∀ u, Lib.parseUintB 32 x.data.toList ≠ .ok u from fun u h2 => by rw [hp] at h2; cases h2)
        clear hp
        subst hP
        have hr := HH.out
        simp only [Option.some.injEq, Prod.mk.injEq] at hr
        obtain ⟨rfl, rfl⟩ := hr
        go_wp2_with (go_at_call 73; ((with_reducible refine HPU.out.mono ?_); rintro e w2 ⟨n, ev, rfl, hb2, hcase⟩; have hcase' : ∃ t N, ev = .iface t (.pointer (some ⟨N, 0, none⟩)) := (hcase.elim (fun ⟨u', h1, h2, h3⟩ => absurd h1 (HC.out u')) (fun h1 => h1.2)); obtain ⟨t_, N_, rfl⟩ := hcase'; clear hcase; have HB2 := Aside0.mk hb2; clear hb2))
        go_ret2
        exact ⟨_, rfl, Kd.R_nil _ _ _ _ _, below_step HBW.out HB2.out⟩
      | _ =>
        rw [hp] at hP
        simp only at hP
        have HC := Aside0.mk (show ∀ u, Lib.parseUintB 32 x.data.toList ≠ .ok u from fun u h2 => by rw [hp] at h2; cases h2)
        clear hp
        subst hP
        have hr := HH.out
        simp only [Option.some.injEq, Prod.mk.injEq] at hr
        obtain ⟨rfl, rfl⟩ := hr
        go_wp2_with (go_at_call 73; ((with_reducible refine HPU.out.mono ?_); rintro e w2 ⟨n, ev, rfl, hb2, hcase⟩; have hcase' : ∃ t N, ev = .iface t (.pointer (some ⟨N, 0, none⟩)) := (hcase.elim (fun ⟨u', h1, h2, h3⟩ => absurd h1 (HC.out u')) (fun h1 => h1.2)); obtain ⟨t_, N_, rfl⟩ := hcase'; clear hcase; have HB2 := Aside0.mk hb2; clear hb2))
        go_ret2
        exact ⟨_, rfl, Kd.R_nil _ _ _ _ _, below_step HBW.out HB2.out⟩
    · have cb : decide ((i : Int) < (ws.length : Int)) = false := decide_eq_false (by omega)
      have cb2 : decide (i < ws.length) = false := decide_eq_false (by omega)
      have hP := HP.out
      rw [List.drop_eq_nil_of_le (by omega), parseW] at hP
      subst hP
      have hr := HH.out
      simp only at hr
      replace hr := Option.bind_eq_some_iff.mp hr
      obtain ⟨t, ht, hr⟩ := hr
      have hBw : Below w.heap.size w wr := below_step HB1.out HB.out
      obtain ⟨A4, c4, rfl⟩ := Kd.R_slice HO.out
      have htx := oid_Text.calls k A4 c4 out t wr (Kd.R_reads' HO.out).2.2 (Kd.R_reads' HO.out).2.1 ht (HG.out.below hBw)
      have HTX := Aside0.mk htx
      have HBW := Aside0.mk hBw
      clear htx hBw ht HP HI hi hk ci
      by_cases ct : t = a0
      · subst ct
        have ce : (t.toList == t.toList) = true := by simp
        cases hv : validB out with
        | true =>
          have HVV := Aside0.mk (fun W (hC : Kd.C (Kd.int .u32) W A4 out.length out) => oid_Valid.calls A4 c4 out true W hC (Kd.R_reads' HO.out).2.1 (congrArg some hv))
          rw [if_pos ⟨rfl, hv⟩] at hr
          simp only [Option.some.injEq, Prod.mk.injEq] at hr
          obtain ⟨rfl, rfl⟩ := hr
          go_wp2_with (first | (go_at_call 74; ((with_reducible refine HTX.out.mono ?_); rintro e w2 ⟨rfl, hb2⟩; have HB2 := Aside0.mk hb2; clear hb2)) | (go_at_call 75; ((with_reducible refine (HVV.out _ (Kd.R_reads' (Kd.R_below HO.out HB2.out)).2.2).mono ?_); rintro e w3 ⟨rfl, ⟨q, rfl⟩⟩)))
          go_ret2
          exact ⟨_, rfl, Kd.R_lower (Kd.R_drewN (Kd.R_below HO.out HB2.out) _) (below_size HB1.out), pw_below_drewN (below_step HBW.out HB2.out) _⟩
        | false =>
          have HVV := Aside0.mk (fun W (hC : Kd.C (Kd.int .u32) W A4 out.length out) => oid_Valid.calls A4 c4 out false W hC (Kd.R_reads' HO.out).2.1 (congrArg some hv))
          rw [if_neg (fun h => by rw [hv] at h; exact absurd h.2 (by decide))] at hr
          simp only [Option.some.injEq, Prod.mk.injEq] at hr
          obtain ⟨rfl, rfl⟩ := hr
          go_wp2_with (first | (go_at_call 74; ((with_reducible refine HTX.out.mono ?_); rintro e w2 ⟨rfl, hb2⟩; have HB2 := Aside0.mk hb2; clear hb2)) | (go_at_call 75; ((with_reducible refine (HVV.out _ (Kd.R_reads' (Kd.R_below HO.out HB2.out)).2.2).mono ?_); rintro e w3 ⟨rfl, ⟨q, rfl⟩⟩)))
          go_ret2
          exact ⟨_, rfl, Kd.R_nil _ _ _ _ _, pw_below_drewN (below_step HBW.out HB2.out) _⟩
      · have ce : (t.toList == a0.toList) = false := beq_eq_false_iff_ne.2 (fun h => ct (ByteArray.ext (by rw [ByteArray.toList_eq, ByteArray.toList_eq] at h; exact Array.toList_inj.1 h)))
        rw [if_neg (fun h => ct h.1)] at hr
        simp only [Option.some.injEq, Prod.mk.injEq] at hr
        obtain ⟨rfl, rfl⟩ := hr
        go_wp2_with (go_at_call 74; ((with_reducible refine HTX.out.mono ?_); rintro e w2 ⟨rfl, hb2⟩; have HB2 := Aside0.mk hb2; clear hb2))
        go_ret2
        exact ⟨_, rfl, Kd.R_nil _ _ _ _ _, below_step HBW.out HB2.out⟩
end Go.Proofs.YtgmnknhfeoleaaaGreatDoor.PXmss
