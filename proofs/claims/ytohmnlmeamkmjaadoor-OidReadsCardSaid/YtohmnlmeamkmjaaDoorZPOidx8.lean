import Derived.Test.YtohmnlmeamkmjaaDoorZPOidx0
import Derived.Test.YtohmnlmeamkmjaaDoorZPOidx1
import Derived.Test.YtohmnlmeamkmjaaDoorZPOidx5
namespace Go.Proofs.YtohmnlmeamkmjaaDoor.POid
open Go.RowKit Go.Proofs.YtohmnlmeamkmjaaDoorW.PrintWords Go.Proofs.YtohmnlmeamkmjaaDoorW.PrintLast Go.Proofs.YtohmnlmeamkmjaaDoorW.PrintMore
set_option linter.unusedVariables false
set_option linter.unusedSimpArgs false
def rdO : List Int → List Int → Int → Bool → Option (List Int)
  | [], out, _, op => if op = false ∧ validB out = true then some out else none
  | c :: r, out, n, op =>
    if (op = false ∧ c = 128) ∨ 20 < out.length then none
    else if 4294967296 ≤ n then none
    else if 128 ≤ c then rdO r out (n * 128 + c % 128) true
    else if 4294967296 ≤ n * 128 + c % 128 then none
    else rdO r (out ++ (if out.length = 0 then [min ((n * 128 + c % 128) / 40) 2, n * 128 + c % 128 - 40 * min ((n * 128 + c % 128) / 40) 2] else [n * 128 + c % 128])) 0 false
def u8B (l : List Int) : Bool := l.all fun n => decide (0 ≤ n ∧ n < 256)
def oid_Read.f (l0 : List Int) : Option (List Int × Bool) := if u8B l0 = true ∧ l0.length ≤ 1000000 then some (match rdO l0 [] 0 false with | none => ([], false) | some o => (o, true)) else none
set_option maxRecDepth 100000 in
theorem and_127 {c : Int} (h0 : 0 ≤ c) (h1 : c < 256) : Go.bits .and .u8 c 127 = c % 128 := by
  have hd : ∀ r : Fin 256, Go.bits .and .u8 (r.val : Int) 127 = (r.val : Int) % 128 := by decide
  obtain ⟨r, rfl⟩ := Int.eq_ofNat_of_zero_le h0
  exact hd ⟨r, by omega⟩
theorem shl_7 {n : Int} (h0 : 0 ≤ n) (h1 : n < 72057594037927936) : shl .u64 n 7 = n * 128 := by
  unfold shl
  rw [show ((7 : Int).toNat) = 7 from rfl, Nat.min_eq_left (by simp [IntKind.bits]), show (2 : Int) ^ 7 = 128 from rfl, IntKind.wrap_u64]
  omega
theorem or_7 {n c : Int} (h0 : 0 ≤ n) (h1 : n < 72057594037927936) (c0 : 0 ≤ c) (c1 : c < 128) : Go.bits .or .u64 (n * 128) c = n * 128 + c :=
  bits_join .u64 64 (by decide) (fun n a b => by rw [IntKind.wrap_u64]; omega) 7 (n * 128) c (by omega) (by omega) (by omega) c0 c1 (by omega)
theorem lit2_C (W : World) (x y : Int) : ReadsRow (fun p c => c = [Value.int .u32 p]) 1 (W.alloc (.cells #[.int .u32 x, .int .u32 y] 33)) (some ⟨W.heap.size, 0, none⟩) 2 [x, y] := by
  obtain ⟨A, c, e, hr⟩ := own_reads_row (own_lit_of W W.heap.size 33 (enc := Value.int .u32) [x, y] (Nat.le_refl _) (by simp)) (R := fun p c => c = [Value.int .u32 p]) (ps := [x, y]) (Reps.one rfl (Reps.one rfl (Reps.none _ _))) rfl
  injection e with e1 e2 e3
  subst e1
  exact hr
set_option maxHeartbeats 16000000 in
set_option maxRecDepth 100000 in
theorem oid_Read.calls (A0 : Option Addr) (c0 : Nat) (l0 : List Int) (r1 : List Int) (r2 : Bool) (w : World) (hr0 : Kd.C (Kd.int .u8) w A0 l0.length l0) (hc0 : l0.length ≤ c0) (h : oid_Read.f l0 = some (r1, r2)) :
    Calls Tryd.prog 22 #[.slice A0 l0.length c0] w fun e w' => ∃ v0_ : Value, e = .returned (.tuple #[v0_, .bool r2]) ∧ Kd.R (Kd.int .u32) 33 w' w.heap.size (fun _ => True) v0_ r1 ∧ Below w.heap.size w w' := by
  rw [oid_Read.f] at h
  split at h
  case isFalse => cases h
  rename_i hu
  obtain ⟨hu1, hN⟩ := hu
  have hu' : ∀ n ∈ l0, 0 ≤ n ∧ n < 256 := fun n hn => of_decide_eq_true (List.all_eq_true.1 hu1 n hn)
  obtain ⟨T, hT⟩ : ∃ T, rdO l0 [] 0 false = T := ⟨_, rfl⟩
  rw [hT] at h
  have hres := Option.some.inj h
  have HU := Aside0.mk hu'
  have HT := Aside0.mk hT
  have HH := Aside0.mk hres
  have HN := Aside0.mk hN
  have HR0 := Aside0.mk hr0
  clear hu' hT hres h hu1 hN hr0
  go_enter Tryd.func22, Tryd.ntmps22
  go_wp2
  go_step3
  go_wp2
  go_step3
  go_wp2
  go_loopg [4, 5, 6, 12] l0.length (fun kq v4 v5 v6 v12 wr => ∃ (i : Nat) (out : List Int) (n : Int) (op : Bool), v12 = .int .i64 (i : Int) ∧ v5 = .int .u64 n ∧ v6 = .bool op ∧ Aside0 (i ≤ l0.length ∧ kq = l0.length - i ∧ 0 ≤ n ∧ n < 1099511627776) ∧ Aside0 (rdO (l0.drop i) out n op = T) ∧ Aside0 (Kd.R (Kd.int .u32) 33 wr w.heap.size (fun _ => True) v4 out) ∧ Aside0 (Below w.heap.size w wr))
  case atStart => exact ⟨0, [], 0, false, rfl, rfl, rfl, ⟨by omega⟩, ⟨HT.out⟩, ⟨Kd.R_nil _ _ _ _ _⟩, ⟨Below.refl _ _⟩⟩
  case round =>
    obtain ⟨i, out, n, op, rfl, rfl, rfl, HI, HP, HO, HB⟩ := hrel
    obtain ⟨hi, hk, n0, n1⟩ := HI.out
    by_cases ci : i < l0.length
    · have cb : decide ((i : Int) < (l0.length : Int)) = true := decide_eq_true (by omega)
      have cb2 : decide (i < l0.length) = true := decide_eq_true ci
      obtain ⟨ad, ea, hx⟩ := Kd.at_int HR0.out (i : Int) (by omega) (by omega)
      cases ea
      rw [Int.toNat_natCast] at hx
      replace hx := (HB.out.cell (World.block_lt_of_cell? w _ hx)).trans hx
      have hin := HU.out _ (rd_in ci)
      have hdrop : l0.drop i = rd l0 (i : Int) :: l0.drop (i + 1) := by
        rw [List.drop_eq_getElem_cons ci]
        unfold rd
        rw [Int.toNat_natCast, List.getD_eq_getElem?_getD, List.getElem?_eq_getElem ci]
        rfl
      have hP := HP.out
      rw [hdrop, rdO] at hP
      clear hdrop HP
      generalize rd l0 (i : Int) = c at hx hin hP
      have i0 : (0 ≤ (i : Int)) = True := eq_true (by omega)
      have i1 : ((i : Int) < (l0.length : Int)) = True := eq_true (by omega)
      have i2 : (i < l0.length) = True := eq_true ci
      obtain ⟨A4, c4, rfl⟩ := Kd.R_slice HO.out
      by_cases ca : op = false ∧ c = 128
      · obtain ⟨rfl, rfl⟩ := ca
        rw [if_pos (.inl ⟨rfl, rfl⟩)] at hP
        subst hP
        have hr := HH.out
        simp only [Prod.mk.injEq] at hr
        obtain ⟨rfl, rfl⟩ := hr
        go_wp2
        go_ret2
        exact ⟨_, rfl, Kd.R_nil _ _ _ _ _, HB.out⟩
      · have hop : op = true ∨ (op = false ∧ (c == 128) = false) := by
          cases op with
          | true => exact .inl rfl
          | false => exact .inr ⟨rfl, beq_eq_false_iff_ne.2 (fun h => ca ⟨rfl, h⟩)⟩
        by_cases cl : 20 < out.length
        · rw [if_pos (.inr cl)] at hP
          subst hP
          have hr := HH.out
          simp only [Prod.mk.injEq] at hr
          obtain ⟨rfl, rfl⟩ := hr
          have dl : decide ((out.length : Int) > 20) = true := decide_eq_true (by omega)
          rcases hop with rfl | ⟨rfl, hc⟩
          all_goals
            go_wp2
            go_ret2
            exact ⟨_, rfl, Kd.R_nil _ _ _ _ _, HB.out⟩
        · have dl : decide ((out.length : Int) > 20) = false := decide_eq_false (by omega)
          rw [if_neg (fun h => h.elim ca cl)] at hP
          by_cases cn : 4294967296 ≤ n
          · rw [if_pos cn] at hP
            subst hP
            have hr := HH.out
            simp only [Prod.mk.injEq] at hr
            obtain ⟨rfl, rfl⟩ := hr
            have dn : decide (n ≥ 4294967296) = true := decide_eq_true cn
            rcases hop with rfl | ⟨rfl, hc⟩
            all_goals
              go_wp2
              go_ret2
              exact ⟨_, rfl, Kd.R_nil _ _ _ _ _, HB.out⟩
          · rw [if_neg cn] at hP
            have dn : decide (n ≥ 4294967296) = false := decide_eq_false (by omega)
            have hand : Go.bits .and .u8 c 127 = c % 128 := and_127 hin.1 hin.2
            have hw3 : IntKind.u64.wrap (c % 128) = c % 128 := wrap_small (by omega) (by omega)
            have hshl : shl .u64 n 7 = n * 128 := shl_7 n0 (by omega)
            have hor : Go.bits .or .u64 (n * 128) (c % 128) = n * 128 + c % 128 := or_7 n0 (by omega) (by omega) (by omega)
            have hN0 : 0 ≤ n * 128 + c % 128 ∧ n * 128 + c % 128 < 549755813888 := by clear hand hw3 hshl hor; omega
            by_cases ch : 128 ≤ c
            · rw [if_pos ch] at hP
              have dc : decide (c ≥ 128) = true := decide_eq_true ch
              have w1 : wrap64 ((i : Int) + 1) = ((i + 1 : Nat) : Int) := wrap_succ (by have := HN.out; clear hand hw3 hshl hor; omega)
              have HP2 := Aside0.mk hP
              have HI2 := Aside0.mk (show i < l0.length ∧ gk = l0.length - i from ⟨ci, hk⟩)
              clear hP HI ca cn cl hin n1 hi hk ci ch
              rcases hop with rfl | ⟨rfl, hc⟩
              all_goals
                go_wp2
                go_roundg (l0.length - (i + 1))
                case measure => have := HI2.out; omega
                case rel => exact ⟨i + 1, out, _, true, by first | rfl | (rw [← w1]), rfl, rfl, ⟨by have := HI2.out; omega, by have := HI2.out; omega, hN0.1, by omega⟩, HP2, HO, HB⟩
            · rw [if_neg ch] at hP
              have dc : decide (c ≥ 128) = false := decide_eq_false ch
              by_cases cm : 4294967296 ≤ n * 128 + c % 128
              · rw [if_pos cm] at hP
                subst hP
                have hr := HH.out
                simp only [Prod.mk.injEq] at hr
                obtain ⟨rfl, rfl⟩ := hr
                have dm : decide (n * 128 + c % 128 ≥ 4294967296) = true := decide_eq_true cm
                rcases hop with rfl | ⟨rfl, hc⟩
                all_goals
                  go_wp2
                  go_ret2
                  exact ⟨_, rfl, Kd.R_nil _ _ _ _ _, HB.out⟩
              · rw [if_neg cm] at hP
                have dm : decide (n * 128 + c % 128 ≥ 4294967296) = false := decide_eq_false cm
                have w1 : wrap64 ((i : Int) + 1) = ((i + 1 : Nat) : Int) := wrap_succ (by have := HN.out; clear hand hw3 hshl hor; omega)
                have HI2 := Aside0.mk (show i < l0.length ∧ gk = l0.length - i from ⟨ci, hk⟩)
                have HLO := Aside0.mk (show out.length ≤ 20 by omega)
                by_cases c0_ : out.length = 0
                · obtain rfl : out = [] := List.eq_nil_of_length_eq_zero c0_
                  rw [if_pos (List.length_nil (α := Int))] at hP
                  have hw5 : 0 ≤ min ((n * 128 + c % 128) / 40) 2 ∧ min ((n * 128 + c % 128) / 40) 2 ≤ 2 ∧ 40 * min ((n * 128 + c % 128) / 40) 2 ≤ n * 128 + c % 128 := by clear hand hw3 hshl hor hP; omega
                  have HM5 := Aside0.mk hw5
                  have d0 : decide ((([] : List Int).length : Int) = 0) = true := rfl
                  have d0' : ((([] : List Int).length : Int) == 0) = true := rfl
                  have HP2 := Aside0.mk hP
                  clear hP HI ca cn cl hin n1 hi hk ci ch c0_
                  have HL2 := Aside0.mk (lit2_C wr (min ((n * 128 + c % 128) / 40) 2) (n * 128 + c % 128 - 40 * min ((n * 128 + c % 128) / 40) 2))
                  rcases hop with rfl | ⟨rfl, hc⟩
                  all_goals
                    go_wp2_with ((with_reducible refine gate_builtin (b := .append) (xs := #[.tmp 46, .tmp 54]) rfl ?_); at_builtin; refine Kd.R_append_rows (Kd.int .u32) (w0 := w) w.heap.size rfl (.tmp 46) (.tmp 54) 22 33 (.int .u32 0) 4 rfl Tryd.underlying22 info_u32q rfl (by decide) (by omega) (.slice A4 0 c4) [] [min ((n * 128 + c % 128) / 40) 2, n * 128 + c % 128 - 40 * min ((n * 128 + c % 128) / 40) 2] (some ⟨wr.heap.size, 0, none⟩) 2 2 (fun _ => True) (fun _ => False) rfl rfl ?aO ?aR (fun _ _ h => h) (fun _ h => h.elim) ?aF ?aB ?aS ?aL ?_; (case aO => exact Kd.R_below HO.out (below_alloc (Below.refl _ _) _)); (case aR => exact HL2.out); (case aF => exact fun _ _ => trivial); (case aB => exact below_step HB.out (below_alloc (Below.refl _ _) _)); (case aS => exact below_size (below_step HB.out (below_alloc (Below.refl _ _) _))); (case aL => decide); intro v142 w14 ho hb hg hat; have HB3 := Aside0.mk hb; have HO3 := Aside0.mk ho; clear ho hb hg hat)
                    go_roundg (l0.length - (i + 1))
                    case measure => have := HI2.out; omega
                    case rel => exact ⟨i + 1, _, 0, false, by first | rfl | (rw [← w1]), rfl, rfl, ⟨by have := HI2.out; omega, by have := HI2.out; omega, Int.le_refl 0, by decide⟩, HP2, HO3, HB3⟩
                · rw [if_neg c0_] at hP
                  have d0' : ((out.length : Int) == 0) = false := beq_eq_false_iff_ne.2 (by omega)
                  have hm32 : (n * 128 + c % 128) % 4294967296 = n * 128 + c % 128 := Int.emod_eq_of_lt hN0.1 (by omega)
                  have HM3 := Aside0.mk hm32
                  have HP2 := Aside0.mk hP
                  clear hP HI ca cn cl hin n1 hi hk ci ch c0_ hm32
                  rcases hop with rfl | ⟨rfl, hc⟩
                  all_goals
                    go_wp2_with ((with_reducible refine gate_builtin (b := .append) (xs := #[.tmp 56, .tmp 59]) rfl ?_); at_builtin; refine Kd.R_append (Kd.int .u32) (w0 := w) w.heap.size rfl (.tmp 56) (.tmp 59) 22 33 (.int .u32 0) 4 rfl Tryd.underlying22 info_u32q rfl (by decide) (by omega) (.slice A4 out.length c4) out (n * 128 + c % 128) [.int .u32 (n * 128 + c % 128)] (fun _ => True) (fun _ => False) rfl rfl ?aP (fun _ hk => hk.elim) ?aF ?aO ?aB ?aS ?aL ?_; (case aP => exact rfl); (case aB => exact HB.out); (case aF => exact (fun _ _ => trivial)); (case aO => exact HO.out); (case aS => exact (below_size HB.out)); (case aL => have := HLO.out; omega); intro v142 w14 ho hb hg hat; have HB3 := Aside0.mk hb; have HO3 := Aside0.mk ho; clear ho hb hg hat)
                    go_roundg (l0.length - (i + 1))
                    case measure => have := HI2.out; omega
                    case rel => exact ⟨i + 1, _, 0, false, by first | rfl | (rw [← w1]), rfl, rfl, ⟨by have := HI2.out; omega, by have := HI2.out; omega, Int.le_refl 0, by decide⟩, HP2, HO3, HB3⟩
    · have hP := HP.out
      rw [List.drop_eq_nil_of_le (by omega), rdO] at hP
      have cb : decide ((i : Int) < (l0.length : Int)) = false := decide_eq_false (by omega)
      have cb2 : decide (i < l0.length) = false := decide_eq_false ci
      obtain ⟨A4, c4, rfl⟩ := Kd.R_slice HO.out
      cases op with
      | true =>
        rw [if_neg (fun h => absurd h.1 (by decide))] at hP
        subst hP
        have hr := HH.out
        simp only [Prod.mk.injEq] at hr
        obtain ⟨rfl, rfl⟩ := hr
        clear HP HI hi hk n0 n1
        go_wp2
        go_ret2
        exact ⟨_, rfl, Kd.R_nil _ _ _ _ _, HB.out⟩
      | false =>
        cases hv : validB out with
        | true =>
          have HVV := Aside0.mk (fun W (hC : Kd.C (Kd.int .u32) W A4 out.length out) => oid_Valid.calls A4 c4 out true W hC (Kd.R_reads' HO.out).2.1 (congrArg some hv))
          rw [if_pos ⟨rfl, hv⟩] at hP
          subst hP
          have hr := HH.out
          simp only [Prod.mk.injEq] at hr
          obtain ⟨rfl, rfl⟩ := hr
          clear HP HI hi hk n0 n1
          go_wp2_with (go_at_call 16; ((with_reducible refine (HVV.out _ (Kd.R_reads' HO.out).2.2).mono ?_); rintro e w3 ⟨rfl, ⟨q, rfl⟩⟩))
          try rw [Exit.noGoto_ret]
          go_ret2
          exact ⟨_, rfl, Kd.R_drewN HO.out _, pw_below_drewN HB.out _⟩
        | false =>
          have HVV := Aside0.mk (fun W (hC : Kd.C (Kd.int .u32) W A4 out.length out) => oid_Valid.calls A4 c4 out false W hC (Kd.R_reads' HO.out).2.1 (congrArg some hv))
          rw [if_neg (fun h => by rw [hv] at h; exact absurd h.2 (by decide))] at hP
          subst hP
          have hr := HH.out
          simp only [Prod.mk.injEq] at hr
          obtain ⟨rfl, rfl⟩ := hr
          clear HP HI hi hk n0 n1
          go_wp2_with (go_at_call 16; ((with_reducible refine (HVV.out _ (Kd.R_reads' HO.out).2.2).mono ?_); rintro e w3 ⟨rfl, ⟨q, rfl⟩⟩))
          try rw [Exit.noGoto_ret]
          go_ret2
          exact ⟨_, rfl, Kd.R_nil _ _ _ _ _, pw_below_drewN HB.out _⟩
end Go.Proofs.YtohmnlmeamkmjaaDoor.POid
