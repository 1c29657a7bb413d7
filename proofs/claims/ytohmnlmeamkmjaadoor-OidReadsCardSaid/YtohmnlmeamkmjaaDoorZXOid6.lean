/- The reference's Read; both agree. -/
import Derived.Test.YtohmnlmeamkmjaaDoorZXOid5
namespace Go.Proofs.YtohmnlmeamkmjaaDoor.POid
open Go.RowKit Go.Proofs.YtohmnlmeamkmjaaDoorW.PrintWords Go.Proofs.YtohmnlmeamkmjaaDoorW.PrintLast Go.Proofs.YtohmnlmeamkmjaaDoorW.PrintMore Go.Proofs.YtohmnlmeamkmjaaDoorW.Pu
def newR (out : List Int) (n : Int) : List Int := if out.length = 0 then (if n < 40 then [0, n] else if n < 80 then [1, n - 40] else [2, (n - 80) % 4294967296]) else out ++ [n % 4294967296]
def rrd : List Int → List Int → Int → Option (List Int)
  | [], out, _ => some out
  | c :: r, out, n =>
    if 4294967375 < n * 128 + c % 128 then none
    else if 128 ≤ c then rrd r out (n * 128 + c % 128)
    else rrd r (newR out (n * 128 + c % 128)) 0
theorem newR_u32 {out : List Int} {n : Int} (h : IsU32 out) (h0 : 0 ≤ n) : IsU32 (newR out n) := by
  intro x hx
  unfold newR at hx
  split at hx
  · split at hx
    · simp at hx; omega
    · split at hx
      · simp at hx; omega
      · simp at hx; omega
  · rw [List.mem_append, List.mem_singleton] at hx
    rcases hx with hx | rfl
    · exact h x hx
    · omega
theorem rrd_u32 : ∀ (b out : List Int) (n : Int) (res : List Int), IsU32 out → 0 ≤ n → (∀ c ∈ b, 0 ≤ c ∧ c < 256) → rrd b out n = some res → IsU32 res ∧ res.length ≤ out.length + 2 * b.length := by
  intro b
  induction b with
  | nil => intro out n res hu _ _ h; simp only [rrd, Option.some.injEq] at h; subst h; exact ⟨hu, by simp⟩
  | cons c r ih =>
    intro out n res hu h0 hb h
    have hc := hb c (by simp)
    have hr : ∀ c ∈ r, 0 ≤ c ∧ c < 256 := fun x hx => hb x (List.mem_cons_of_mem _ hx)
    rw [rrd] at h
    split at h
    · cases h
    · split at h
      · have := ih _ _ res hu (by omega) hr h
        exact ⟨this.1, by rw [List.length_cons]; omega⟩
      · have := ih _ _ res (newR_u32 hu (by omega)) (Int.le_refl 0) hr h
        refine ⟨this.1, ?_⟩
        have hl : (newR out (n * 128 + c % 128)).length ≤ out.length + 2 := by
          unfold newR
          split
          · split
            · simp
            · split <;> simp
          · rw [List.length_append]; simp
        rw [List.length_cons]
        omega
theorem rrd_open : ∀ (f : Nat) (n : Int) (r out : List Int), n < 128 ^ f → 0 ≤ n → n < 4294967296 → rrd (gop n ++ r) out 0 = rrd r out n := by
  intro f
  induction f with
  | zero =>
    intro n r out h h1
    have : n = 0 := by simp at h; omega
    subst this
    intro _
    rw [gop_eq (by decide) (by decide), if_neg (by decide)]
    show rrd (128 :: r) out 0 = _
    rw [rrd, if_neg (by decide), if_pos (by decide)]
    rfl
  | succ f ih =>
    intro n r out h h1 h2
    rw [gop_eq (by omega) (by omega)]
    by_cases hb : 128 ≤ n
    · rw [if_pos hb, List.append_assoc, ih (n / 128) _ out (by rw [Int.pow_succ] at h; omega) (by omega) (by omega)]
      show rrd ((n % 128 + 128) :: r) out (n / 128) = _
      rw [rrd, if_neg (by omega), if_pos (by omega)]
      congr 1
      omega
    · rw [if_neg hb]
      show rrd ((n % 128 + 128) :: r) out 0 = _
      rw [rrd, if_neg (by omega), if_pos (by omega)]
      congr 1
      omega
theorem rrd_close {n : Int} (r out : List Int) (h0 : 0 ≤ n) (h1 : n < 4294967296) : rrd (gcl n ++ r) out 0 = rrd r (newR out n) 0 := by
  rw [gcl_eq h0 (by omega)]
  by_cases hb : 128 ≤ n
  · rw [if_pos hb, List.append_assoc, rrd_open 5 (n / 128) _ out (by rw [show (128 : Int) ^ 5 = 34359738368 from rfl]; omega) (by omega) (by omega)]
    show rrd ((n % 128) :: r) out (n / 128) = _
    rw [rrd, show n / 128 * 128 + n % 128 % 128 = n by omega, if_neg (by omega), if_neg (by omega)]
  · rw [if_neg hb]
    show rrd ((n % 128) :: r) out 0 = _
    rw [rrd, show 0 * 128 + n % 128 % 128 = n by omega, if_neg (by omega), if_neg (by omega)]
theorem rrd_flat : ∀ (ns out : List Int), IsU32 ns → 1 ≤ out.length → rrd (ns.flatMap gcl) out 0 = some (out ++ ns) := by
  intro ns
  induction ns with
  | nil => intro out _ _; simp [rrd]
  | cons n ns ih =>
    intro out h h1
    have hn := h n (by simp)
    rw [List.flatMap_cons, rrd_close _ out hn.1 hn.2]
    have e : newR out n = out ++ [n] := by unfold newR; rw [if_neg (by omega), Int.emod_eq_of_lt hn.1 hn.2]
    rw [e, ih (out ++ [n]) (fun m hm => h m (List.mem_cons_of_mem _ hm)) (by simp), List.append_assoc]
    rfl
theorem rrd_cont {l : List Int} (hu : IsU32 l) (hv : validB l = true) : rrd (cont l) [] 0 = some l := by
  have hl := valid_len hv
  have hx := valid_two hv
  have hr0 : 0 ≤ rd l 0 ∧ rd l 0 < 4294967296 := hu _ (rd_mem (show 0 < l.length by omega))
  have hr1 : 0 ≤ rd l 1 ∧ rd l 1 < 4294967216 := ⟨(hu _ (rd_mem (show 1 < l.length by omega))).1, hx.2.2 _ (rd_mem (show 1 < l.length by omega))⟩
  have ec : cont l = gcl (40 * rd l 0 + rd l 1) ++ (l.drop 2).flatMap gcl := by unfold cont; rw [if_pos hv]; rfl
  rw [ec, rrd_close _ [] (by omega) (by omega)]
  have e : newR [] (40 * rd l 0 + rd l 1) = [rd l 0, rd l 1] := by
    have h2 := hx.2.1
    unfold newR
    rw [if_pos (List.length_nil (α := Int))]
    split
    · rw [show rd l 0 = 0 by omega]; simp
    · split
      · rw [show rd l 0 = 1 by omega]; simp; omega
      · have h3 : rd l 0 = 2 := by omega
        rw [h3]; simp; omega
  rw [e, rrd_flat (l.drop 2) _ (fun n hn => hu n (List.mem_of_mem_drop hn)) (by simp)]
  have e2 : [rd l 0, rd l 1] ++ l.drop 2 = l := (two_of hl.1).symm
  rw [e2]
def RR (b : List Int) : List Int × Bool := match rdO b [] 0 false with | none => ([], false) | some o => (o, true)
theorem read_ev (b : List Int) (hb : ∀ c ∈ b, 0 ≤ c ∧ c < 256) (hl : b.length ≤ 1000000) : oid_Read.f b = some (RR b) := by
  rw [oid_Read.f, if_pos ⟨by unfold u8B; rw [List.all_eq_true]; exact fun n hn => decide_eq_true (hb n hn), hl⟩]
  rfl
theorem rread_l1 (b L C : List Int) (hlen : C.length = b.length) (hn : b.length ≤ 1000000) : ∀ d i : Nat, C.length - i = d → i ≤ C.length →
    Ev (fun k => pyxref09_Read.l1 k b L C (i : Int)) (if C.drop i = b.drop i then (L, true) else ([], false)) := by
  intro d
  induction d with
  | zero =>
    intro i hd hi
    rw [List.drop_eq_nil_of_le (show C.length ≤ i by omega), List.drop_eq_nil_of_le (show b.length ≤ i by omega), if_pos rfl]
    exact Ev.last fun k => by rw [pyxref09_Read.l1, if_neg (by omega)]
  | succ d ih =>
    intro i hd hi
    have h1 : i < C.length := by omega
    have h2 : i < b.length := by omega
    rw [drop_rd C h1, drop_rd b h2]
    by_cases hr : rd C i = rd b i
    · have e : (if rd C i :: C.drop (i + 1) = rd b i :: b.drop (i + 1) then (L, true) else (([] : List Int), false)) = (if C.drop (i + 1) = b.drop (i + 1) then (L, true) else ([], false)) := by
        rw [hr]; simp
      rw [e]
      exact Ev.step' (ih (i + 1) (by omega) (by omega)) fun k => by rw [pyxref09_Read.l1, if_pos (by omega), if_pos (by omega), if_pos (by omega), if_pos hr, wsucc (by omega)]
    · rw [if_neg (by simp [hr])]
      exact Ev.last fun k => by rw [pyxref09_Read.l1, if_pos (by omega), if_pos (by omega), if_pos (by omega), if_neg hr]
theorem rread_end (b L : List Int) (hu : IsU32 L) (hn : b.length ≤ 1000000) (n : Int) (i : Nat) (hi : b.length ≤ i) :
    Ev (fun k => pyxref09_Read.l0 k b L n (i : Int)) (if validB L = true ∧ cont L = b then (L, true) else ([], false)) := by
  have hj : Ev (fun k => pyxref09_Read.j1 k b L (cont L) true) (([] : List Int), false) := Ev.last fun k => by rw [pyxref09_Read.j1, if_pos rfl]
  have hb : Ev (fun k => (pyxref09_Content.f k L).bind fun t235 => ((pyxref09_Valid.f k L).bind fun t238 => (if t238 = true then (pyxref09_Read.j1 k b L t235 ((t235.length : Int) != (b.length : Int))) else (pyxref09_Read.j1 k b L t235 true)))) (if validB L = true ∧ cont L = b then (L, true) else ([], false)) := by
    refine Ev.bind (rcont_ev hu) (Ev.bind (rvalid L) ?_)
    cases hv : validB L with
    | false =>
      rw [if_neg (by simp)]
      exact Ev.congr (fun k => by rw [if_neg (by decide)]) hj
    | true =>
      by_cases hl : (cont L).length = b.length
      · have e : (((cont L).length : Int) != (b.length : Int)) = false := by rw [hl]; simp
        have h1 := rread_l1 b L (cont L) hl hn (cont L).length 0 (by omega) (by omega)
        rw [List.drop_zero, List.drop_zero] at h1
        have e2 : (if true = true ∧ cont L = b then (L, true) else (([] : List Int), false)) = (if cont L = b then (L, true) else ([], false)) := by simp
        rw [e2]
        refine Ev.congr (f := fun k => pyxref09_Read.j1 k b L (cont L) false) (fun k => by rw [if_pos rfl, e]) (Ev.step' h1 fun k => by rw [pyxref09_Read.j1, if_neg (by decide)]; rfl)
      · have e : (((cont L).length : Int) != (b.length : Int)) = true := by rw [bne_iff_ne]; omega
        rw [if_neg (fun h => hl (by rw [h.2]))]
        exact Ev.congr (fun k => by rw [if_pos rfl, e]) hj
  exact Ev.step' hb fun k => by rw [pyxref09_Read.l0, if_neg (by omega)]
theorem rread_l (b : List Int) (hb : ∀ c ∈ b, 0 ≤ c ∧ c < 256) (hn : b.length ≤ 1000000) : ∀ d i : Nat, b.length - i = d → i ≤ b.length → ∀ (out : List Int) (n : Int), IsU32 out → out.length ≤ 2 * i → 0 ≤ n → n ≤ 4294967375 →
    Ev (fun k => pyxref09_Read.l0 k b out n (i : Int)) (match rrd (b.drop i) out n with | none => ([], false) | some L => if validB L = true ∧ cont L = b then (L, true) else ([], false)) := by
  intro d
  induction d with
  | zero =>
    intro i hd hi out n hu _ _ _
    rw [List.drop_eq_nil_of_le (show b.length ≤ i by omega)]
    exact rread_end b out hu hn n i (by omega)
  | succ d ih =>
    intro i hd hi out n hu ho h0 h9
    have h1 : i < b.length := by omega
    have hc := hb _ (rd_mem h1)
    rw [drop_rd b h1, rrd]
    generalize hcc : rd b (i : Int) = c at hc
    have hw : wrap64 ((wrap64 (n * 128)) + (Int.tmod (wrap64 c) 128)) = n * 128 + c % 128 := by
      rw [w64 (x := n * 128) (by omega) (by omega), w64 (x := c) (by omega) (by omega), tmod_nn hc.1, w64 (by omega) (by omega)]
    by_cases hbig : 4294967375 < n * 128 + c % 128
    · rw [if_pos hbig]
      exact Ev.last fun k => by rw [pyxref09_Read.l0, if_pos (by omega), if_pos (by omega), hcc, hw, if_pos hbig]
    · rw [if_neg hbig]
      by_cases h128 : 128 ≤ c
      · rw [if_pos h128]
        refine Ev.step' (ih (i + 1) (by omega) (by omega) out (n * 128 + c % 128) hu (by omega) (by omega) (by omega)) fun k => ?_
        rw [pyxref09_Read.l0, if_pos (by omega), if_pos (by omega), hcc, hw, if_neg hbig, if_pos h128, wsucc (by omega)]
      · rw [if_neg h128]
        have hl : (newR out (n * 128 + c % 128)).length ≤ out.length + 2 := by
          unfold newR
          split
          · split
            · simp
            · split <;> simp
          · rw [List.length_append]; simp
        have hh := ih (i + 1) (by omega) (by omega) (newR out (n * 128 + c % 128)) 0 (newR_u32 hu (by omega)) (by omega) (by omega) (by decide)
        refine Ev.step' hh fun k => ?_
        rw [pyxref09_Read.l0, if_pos (by omega), if_pos (by omega), hcc, hw, if_neg hbig, if_neg h128, wsucc (by omega)]
        unfold newR
        have hm0 : 0 ≤ n * 128 + c % 128 := by omega
        clear hw hh hl
        generalize n * 128 + c % 128 = m at hbig hm0
        by_cases ho0 : out.length = 0
        · rw [if_neg (by omega), if_pos ho0]
          by_cases h40 : m < 40
          · rw [if_pos h40, if_pos h40, Int.emod_eq_of_lt (by omega) (by omega)]
          · rw [if_neg h40, if_neg h40]
            by_cases h80 : m < 80
            · rw [if_pos h80, if_pos h80, w64 (by omega) (by omega), Int.emod_eq_of_lt (by omega) (by omega)]
            · rw [if_neg h80, if_neg h80, w64 (by omega) (by omega)]
        · rw [if_pos (by omega), if_neg ho0, if_pos (by omega)]
theorem rread_ev (b : List Int) (hb : ∀ c ∈ b, 0 ≤ c ∧ c < 256) (hn : b.length ≤ 1000000) : Ev (fun k => pyxref09_Read.f k b) (RR b) := by
  have h := rread_l b hb hn b.length 0 (by omega) (by omega) [] 0 (fun n hn => by simp at hn) (by simp) (Int.le_refl 0) (by decide)
  rw [List.drop_zero] at h
  have e : (match rrd b [] 0 with | none => (([] : List Int), false) | some L => if validB L = true ∧ cont L = b then (L, true) else ([], false)) = RR b := by
    unfold RR
    cases ho : rdO b [] 0 false with
    | some o =>
      obtain ⟨hv, hu, hc⟩ := rdO_some hb ho
      have hr := rrd_cont hu hv
      rw [hc] at hr
      rw [hr]
      simp only
      rw [if_pos ⟨hv, hc⟩]
    | none =>
      cases hr : rrd b [] 0 with
      | none => rfl
      | some L =>
        simp only
        rw [if_neg]
        rintro ⟨hv, hc⟩
        have hu := (rrd_u32 b [] 0 L (fun n hn => by simp at hn) (Int.le_refl 0) hb hr).1
        have := read_cont hu hv
        rw [hc, ho] at this
        cases this
  rw [e] at h
  exact h
theorem RR_true {b : List Int} (hb : ∀ c ∈ b, 0 ≤ c ∧ c < 256) (h : (RR b).2 = true) : validB (RR b).1 = true ∧ IsU32 (RR b).1 ∧ cont (RR b).1 = b := by
  unfold RR at h ⊢
  cases ho : rdO b [] 0 false with
  | none => rw [ho] at h; cases h
  | some o => exact rdO_some hb ho
theorem RR_len {b : List Int} (hb : ∀ c ∈ b, 0 ≤ c ∧ c < 256) : (RR b).1.length ≤ 20 := by
  cases h : (RR b).2 with
  | true => exact (valid_len (RR_true hb h).1).2
  | false =>
    unfold RR at h ⊢
    cases ho : rdO b [] 0 false with
    | none => simp
    | some o => rw [ho] at h; cases h
theorem cont_ev {l : List Int} (hu : IsU32 l) : oid_Content.f l = some (cont l) := by
  rw [oid_Content.f, if_pos (by unfold u32B; rw [List.all_eq_true]; exact fun n hn => decide_eq_true (hu n hn))]
end Go.Proofs.YtohmnlmeamkmjaaDoor.POid
