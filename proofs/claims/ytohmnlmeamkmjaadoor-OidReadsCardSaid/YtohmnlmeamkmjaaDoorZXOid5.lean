/- The groups of a content: written and read. -/
import Derived.Test.YtohmnlmeamkmjaaDoorZXOid4
import Derived.Test.YtohmnlmeamkmjaaDoorZPOidx16
namespace Go.Proofs.YtohmnlmeamkmjaaDoor.POid
open Go.RowKit Go.Proofs.YtohmnlmeamkmjaaDoorW.PrintWords Go.Proofs.YtohmnlmeamkmjaaDoorW.PrintLast Go.Proofs.YtohmnlmeamkmjaaDoorW.PrintMore Go.Proofs.YtohmnlmeamkmjaaDoorW.Pu
theorem ggo_succ (f : Nat) (n m : Int) : ggo (f + 1) n m = (if 128 ≤ n then ggo f (n / 128) 128 else []) ++ [n % 128 + m] := rfl
theorem ggo_any : ∀ (f g : Nat) (n m : Int), 0 ≤ n → n < 128 ^ (f + 1) → n < 128 ^ (g + 1) → ggo (f + 1) n m = ggo (g + 1) n m := by
  intro f
  induction f with
  | zero =>
    intro g n m h0 h1 _
    have h2 : ¬ 128 ≤ n := by simp at h1; omega
    rw [ggo_succ, ggo_succ g, if_neg h2, if_neg h2]
  | succ f ih =>
    intro g n m h0 h1 h2
    rw [ggo_succ (f + 1), ggo_succ g]
    by_cases h : 128 ≤ n
    · rw [if_pos h, if_pos h]
      cases g with
      | zero => simp at h2; omega
      | succ g =>
        rw [ih g (n / 128) 128 (by omega) (by rw [Int.pow_succ] at h1; omega) (by rw [Int.pow_succ] at h2; omega)]
    · rw [if_neg h, if_neg h]
def gop (n : Int) : List Int := ggo 9 n 128
def gcl (n : Int) : List Int := ggo 9 n 0
theorem ggo_step {n : Int} (m : Int) (h0 : 0 ≤ n) (h1 : n < 1099511627776) : ggo 9 n m = (if 128 ≤ n then gop (n / 128) else []) ++ [n % 128 + m] := by
  have e : ggo 9 n m = (if 128 ≤ n then ggo 8 (n / 128) 128 else []) ++ [n % 128 + m] := by rw [ggo]
  rw [e, ggo_any 7 8 (n / 128) 128 (by omega) (by rw [show (128 : Int) ^ (7 + 1) = 72057594037927936 from rfl]; omega) (by rw [show (128 : Int) ^ (8 + 1) = 9223372036854775808 from rfl]; omega)]
  rfl
theorem gop_eq {n : Int} (h0 : 0 ≤ n) (h1 : n < 1099511627776) : gop n = (if 128 ≤ n then gop (n / 128) else []) ++ [n % 128 + 128] := ggo_step 128 h0 h1
theorem gcl_eq {n : Int} (h0 : 0 ≤ n) (h1 : n < 1099511627776) : gcl n = (if 128 ≤ n then gop (n / 128) else []) ++ [n % 128] := by
  have := ggo_step 0 h0 h1
  rw [Int.add_zero] at this
  exact this
theorem rgroup_l : ∀ (f : Nat) (x : Int) (acc : List Int), f ≤ 5 → 0 ≤ x → x < 128 ^ f → acc.length ≤ 20 - f →
    Ev (fun k => pyxref09_group.l0 k x acc) ((if 0 < x then gop x else []) ++ acc) := by
  intro f
  induction f with
  | zero =>
    intro x acc _ h0 h1 _
    have : x = 0 := by simp at h1; omega
    subst this
    exact Ev.last fun k => by rw [pyxref09_group.l0, if_neg (by decide)]; rfl
  | succ f ih =>
    intro x acc hf h0 h1 ha
    by_cases hx : 0 < x
    · have hb : x < 1099511627776 := by
        have h5 : (128 : Int) ^ (f + 1) ≤ 128 ^ 5 := by
          have := Nat.pow_le_pow_right (show 0 < 128 by decide) hf
          exact_mod_cast this
        rw [show (128 : Int) ^ 5 = 34359738368 from rfl] at h5
        omega
      have hh := ih (x / 128) ((x % 128 + 128) :: acc) (by omega) (by omega) (by rw [Int.pow_succ] at h1; omega) (by rw [List.length_cons]; omega)
      rw [if_pos hx, gop_eq h0 hb]
      have e : (if 128 ≤ x then gop (x / 128) else []) ++ [x % 128 + 128] ++ acc = (if 0 < x / 128 then gop (x / 128) else []) ++ (x % 128 + 128) :: acc := by
        by_cases h : 128 ≤ x
        · rw [if_pos h, if_pos (by omega)]; simp
        · rw [if_neg h, if_neg (by omega)]; rfl
      rw [e]
      refine Ev.step' hh fun k => ?_
      have hv : [(wrap64 (128 + (Int.tmod x 128))) % 256] = [x % 128 + 128] := by
        rw [tmod_nn h0, w64 (by omega) (by omega)]
        congr 1
        omega
      rw [pyxref09_group.l0, if_pos hx, hv, Option.bind_some, if_pos (by simp; omega), tdiv_nn h0, w64 (by omega) (by omega)]
      rfl
    · rw [if_neg hx]
      exact Ev.last fun k => by rw [pyxref09_group.l0, if_neg hx]; rfl
theorem rgroup_ev {n : Int} (h0 : 0 ≤ n) (h1 : n < 34359738368) : Ev (fun k => pyxref09_group.f k n) (gcl n) := by
  have hh := rgroup_l 5 (n / 128) [n % 128] (Nat.le_refl _) (by omega) (by rw [show (128 : Int) ^ 5 = 34359738368 from rfl]; omega) (by simp)
  have e : gcl n = (if 0 < n / 128 then gop (n / 128) else []) ++ [n % 128] := by
    rw [gcl_eq h0 (by omega)]
    by_cases h : 128 ≤ n
    · rw [if_pos h, if_pos (by omega)]
    · rw [if_neg h, if_neg (by omega)]
  rw [e]
  refine Ev.congr (fun k => ?_) hh
  have hv : [(Int.tmod n 128) % 256] = [n % 128] := by rw [tmod_nn h0]; congr 1; omega
  rw [pyxref09_group.f, hv, tdiv_nn h0, w64 (by omega) (by omega)]
theorem gcl_len (n : Int) : (gcl n).length ≤ 9 := ggo_len 9 n 0
theorem rcont_l (l : List Int) (h : IsU32 l) (hl : l.length ≤ 20) : ∀ d i : Nat, l.length - i = d → i ≤ l.length → ∀ acc : List Int, acc.length ≤ 9 * i →
    Ev (fun k => pyxref09_Content.l0 k l acc (i : Int)) (acc ++ (l.drop i).flatMap gcl) := by
  intro d
  induction d with
  | zero =>
    intro i hd hi acc ha
    rw [List.drop_eq_nil_of_le (by omega)]
    exact Ev.last fun k => by rw [pyxref09_Content.l0, if_neg (by omega)]; simp
  | succ d ih =>
    intro i hd hi acc ha
    have h1 : i < l.length := by omega
    have hr := h _ (rd_mem h1)
    have hg := rgroup_ev hr.1 (by omega)
    have hgl := gcl_len (rd l (i : Int))
    rw [drop_rd l h1, List.flatMap_cons, ← List.append_assoc]
    have hh := ih (i + 1) (by omega) (by omega) (acc ++ gcl (rd l (i : Int))) (by rw [List.length_append]; omega)
    have hb : Ev (fun k => (pyxref09_group.f k (wrap64 (rd l (i : Int)))).bind fun t174 => (if acc.length + t174.length < 140737488355328 then (pyxref09_Content.l0 k l (acc ++ t174) (wrap64 ((i : Int) + 1))) else (none))) (acc ++ gcl (rd l (i : Int)) ++ (l.drop (i + 1)).flatMap gcl) := by
      rw [w64 (x := rd l (i : Int)) (by omega) (by omega)]
      exact Ev.bind hg (Ev.congr (fun k => by rw [if_pos (by omega), wsucc (by omega)]) hh)
    exact Ev.step' hb fun k => by rw [pyxref09_Content.l0, if_pos (by omega), if_pos (by omega)]
theorem rcont_ev {l : List Int} (h : IsU32 l) : Ev (fun k => pyxref09_Content.f k l) (cont l) := by
  unfold cont
  have hv0 := rvalid l
  cases hv : validB l with
  | false =>
    rw [hv] at hv0
    rw [if_neg (by decide)]
    exact Ev.bind hv0 (Ev.const' fun k => by rw [if_neg (by decide)])
  | true =>
    rw [hv] at hv0
    have hl := valid_len hv
    have hx := valid_two hv
    rw [if_pos rfl]
    have hr0 : 0 ≤ rd l 0 ∧ rd l 0 < 4294967296 := h _ (rd_mem (show 0 < l.length by omega))
    have hr1 : 0 ≤ rd l 1 ∧ rd l 1 < 4294967296 := h _ (rd_mem (show 1 < l.length by omega))
    have hg := rgroup_ev (n := 40 * rd l 0 + rd l 1) (by omega) (by omega)
    have hgl := gcl_len (40 * rd l 0 + rd l 1)
    have hh := rcont_l l h hl.2 (l.length - 2) 2 rfl (by omega) (gcl (40 * rd l 0 + rd l 1)) (by omega)
    refine Ev.bind hv0 ?_
    have hw : wrap64 ((wrap64 (40 * (wrap64 (rd l 0)))) + (wrap64 (rd l 1))) = 40 * rd l 0 + rd l 1 := by
      rw [w64 (x := rd l 0) (by omega) (by omega), w64 (x := rd l 1) (by omega) (by omega), w64 (x := 40 * rd l 0) (by omega) (by omega), w64 (by omega) (by omega)]
    refine Ev.congr (f := fun k => (pyxref09_group.f k (40 * rd l 0 + rd l 1)).bind fun t170 => (pyxref09_Content.l0 k l t170 2)) (fun k => ?_) (Ev.bind hg hh)
    rw [if_pos rfl, if_pos (by omega), if_pos (by omega), hw]
theorem rdO_open : ∀ (f : Nat) (n : Int) (r out : List Int), n < 128 ^ f → 1 ≤ n → n < 4294967296 → out.length ≤ 20 → rdO (gop n ++ r) out 0 false = rdO r out n true := by
  intro f
  induction f with
  | zero => intro n r out h h1; simp at h; omega
  | succ f ih =>
    intro n r out h h1 h2 ho
    rw [gop_eq (by omega) (by omega)]
    by_cases hb : 128 ≤ n
    · rw [if_pos hb, List.append_assoc, ih (n / 128) _ out (by rw [Int.pow_succ] at h; omega) (by omega) (by omega) ho]
      show rdO ((n % 128 + 128) :: r) out (n / 128) true = _
      rw [rdO, if_neg (by simp; omega), if_neg (by omega), if_pos (by omega)]
      congr 1
      omega
    · rw [if_neg hb]
      show rdO ((n % 128 + 128) :: r) out 0 false = _
      rw [rdO, if_neg (by simp; omega), if_neg (by omega), if_pos (by omega)]
      congr 1
      omega
def newO (out : List Int) (n : Int) : List Int := out ++ (if out.length = 0 then [min (n / 40) 2, n - 40 * min (n / 40) 2] else [n])
theorem rdO_close {n : Int} (r out : List Int) (h0 : 0 ≤ n) (h1 : n < 4294967296) (ho : out.length ≤ 20) : rdO (gcl n ++ r) out 0 false = rdO r (newO out n) 0 false := by
  rw [gcl_eq h0 (by omega)]
  by_cases hb : 128 ≤ n
  · rw [if_pos hb, List.append_assoc, rdO_open 5 (n / 128) _ out (by rw [show (128 : Int) ^ 5 = 34359738368 from rfl]; omega) (by omega) (by omega) ho]
    show rdO ((n % 128) :: r) out (n / 128) true = _
    rw [rdO, if_neg (by simp; omega), if_neg (by omega), if_neg (by omega), show n / 128 * 128 + n % 128 % 128 = n by omega, if_neg (by omega)]
    rfl
  · rw [if_neg hb]
    show rdO ((n % 128) :: r) out 0 false = _
    rw [rdO, if_neg (by simp; omega), if_neg (by omega), if_neg (by omega), show 0 * 128 + n % 128 % 128 = n by omega, if_neg (by omega)]
    rfl
theorem rdO_flat : ∀ (ns out : List Int), IsU32 ns → 1 ≤ out.length → out.length + ns.length ≤ 20 → rdO (ns.flatMap gcl) out 0 false = rdO [] (out ++ ns) 0 false := by
  intro ns
  induction ns with
  | nil => intro out _ _ _; simp
  | cons n ns ih =>
    intro out h h1 hl
    have hn := h n (by simp)
    rw [List.length_cons] at hl
    rw [List.flatMap_cons, rdO_close _ out hn.1 hn.2 (by omega)]
    have e : newO out n = out ++ [n] := by unfold newO; rw [if_neg (by omega)]
    rw [e, ih (out ++ [n]) (fun m hm => h m (List.mem_cons_of_mem _ hm)) (by simp) (by rw [List.length_append]; simp; omega), List.append_assoc]
    rfl
theorem two_of {l : List Int} (h : 2 ≤ l.length) : l = rd l 0 :: rd l 1 :: l.drop 2 := by
  have e0 := drop_rd l (show 0 < l.length by omega)
  have e1 := drop_rd l (show 1 < l.length by omega)
  rw [List.drop_zero] at e0
  have e2 : l.drop (0 + 1) = rd l 1 :: l.drop 2 := e1
  rw [e2] at e0
  exact e0
theorem first_two {a b : Int} (ha : 0 ≤ a ∧ a ≤ 2) (hb : 0 ≤ b) (hab : a < 2 → b < 40) : min ((40 * a + b) / 40) 2 = a := by
  by_cases h : a < 2
  · have := hab h; omega
  · omega
theorem read_cont {l : List Int} (hu : IsU32 l) (hv : validB l = true) : rdO (cont l) [] 0 false = some l := by
  have hl := valid_len hv
  have hx := valid_two hv
  have hr0 : 0 ≤ rd l 0 ∧ rd l 0 < 4294967296 := hu _ (rd_mem (show 0 < l.length by omega))
  have hr1 : 0 ≤ rd l 1 ∧ rd l 1 < 4294967216 := ⟨(hu _ (rd_mem (show 1 < l.length by omega))).1, hx.2.2 _ (rd_mem (show 1 < l.length by omega))⟩
  have ec : cont l = gcl (40 * rd l 0 + rd l 1) ++ (l.drop 2).flatMap gcl := by unfold cont; rw [if_pos hv]; rfl
  rw [ec, rdO_close _ [] (by omega) (by omega) (by simp)]
  have e : newO [] (40 * rd l 0 + rd l 1) = [rd l 0, rd l 1] := by
    unfold newO
    rw [if_pos (List.length_nil (α := Int)), first_two ⟨hr0.1, hx.1⟩ hr1.1 hx.2.1, List.nil_append]
    congr 2
    omega
  rw [e, rdO_flat (l.drop 2) _ (fun n hn => hu n (List.mem_of_mem_drop hn)) (by simp) (by rw [List.length_drop]; simp; omega)]
  have e2 : [rd l 0, rd l 1] ++ l.drop 2 = l := (two_of hl.1).symm
  rw [e2, rdO, if_pos ⟨rfl, hv⟩]
def contX (out : List Int) : List Int := if out = [] then [] else gcl (40 * rd out 0 + rd out 1) ++ (out.drop 2).flatMap gcl
theorem contX_add {out : List Int} (h : 2 ≤ out.length) (n : Int) : contX (out ++ [n]) = contX out ++ gcl n := by
  have e := two_of h
  generalize rd out 0 = a at e
  generalize rd out 1 = b at e
  generalize out.drop 2 = r at e
  subst e
  unfold contX
  rw [if_neg (by simp), if_neg (by simp)]
  show gcl (40 * a + b) ++ (r ++ [n]).flatMap gcl = gcl (40 * a + b) ++ r.flatMap gcl ++ gcl n
  rw [List.flatMap_append, List.append_assoc]
  simp
theorem rdO_inv : ∀ (b out : List Int) (n : Int) (op : Bool) (res : List Int), (∀ c ∈ b, 0 ≤ c ∧ c < 256) → IsU32 out → (out = [] ∨ 2 ≤ out.length) → 0 ≤ n → n < 1099511627776 → (op = false → n = 0) → (op = true → 1 ≤ n) →
    rdO b out n op = some res → validB res = true ∧ IsU32 res ∧ contX out ++ (if op = true then gop n else []) ++ b = contX res := by
  intro b
  induction b with
  | nil =>
    intro out n op res _ hu _ _ _ _ _ h
    rw [rdO] at h
    split at h
    · rename_i hc
      obtain ⟨rfl, hv⟩ := hc
      obtain rfl := Option.some.inj h
      exact ⟨hv, hu, by simp⟩
    · cases h
  | cons c r ih =>
    intro out n op res hb hu ho n0 n1 hf ht h
    have hc := hb c (by simp)
    have hr : ∀ c ∈ r, 0 ≤ c ∧ c < 256 := fun x hx => hb x (List.mem_cons_of_mem _ hx)
    rw [rdO] at h
    split at h
    · cases h
    · rename_i h1
      split at h
      · cases h
      · rename_i h2
        by_cases h3 : 128 ≤ c
        · rw [if_pos h3] at h
          have hpos : 1 ≤ n * 128 + c % 128 := by
            cases op with
            | true => have := ht rfl; omega
            | false =>
              have := hf rfl
              have : ¬ c = 128 := fun h => h1 (.inl ⟨rfl, h⟩)
              omega
          obtain ⟨hv, hu2, e⟩ := ih out (n * 128 + c % 128) true res hr hu ho (by omega) (by omega) (fun h => by cases h) (fun _ => hpos) h
          refine ⟨hv, hu2, ?_⟩
          rw [← e, if_pos rfl, gop_eq (n := n * 128 + c % 128) (by omega) (by omega), show (n * 128 + c % 128) / 128 = n by omega, show (n * 128 + c % 128) % 128 + 128 = c by omega]
          cases op with
          | true => have := ht rfl; rw [if_pos (show 128 ≤ n * 128 + c % 128 by omega)]; simp
          | false => have := hf rfl; rw [if_neg (show ¬ 128 ≤ n * 128 + c % 128 by omega)]; simp
        · rw [if_neg h3] at h
          split at h
          · cases h
          · rename_i h4
            have hgc : gcl (n * 128 + c % 128) = (if op = true then gop n else []) ++ [c] := by
              rw [gcl_eq (n := n * 128 + c % 128) (by omega) (by omega), show (n * 128 + c % 128) / 128 = n by omega, show (n * 128 + c % 128) % 128 = c by omega]
              cases op with
              | true => have := ht rfl; rw [if_pos (show 128 ≤ n * 128 + c % 128 by omega)]; simp
              | false => have := hf rfl; rw [if_neg (show ¬ 128 ≤ n * 128 + c % 128 by omega)]; simp
            generalize hm : n * 128 + c % 128 = m at h h4 hgc
            have hm0 : 0 ≤ m ∧ m < 4294967296 := by omega
            rcases ho with rfl | ho
            · rw [if_pos (List.length_nil (α := Int))] at h
              obtain ⟨hv, hu2, e⟩ := ih _ 0 false res hr (fun x hx => by simp at hx; omega) (.inr (by simp)) (Int.le_refl 0) (by decide) (fun _ => rfl) (fun h => by cases h) h
              refine ⟨hv, hu2, ?_⟩
              rw [← e]
              have e3 : contX ([] ++ [min (m / 40) 2, m - 40 * min (m / 40) 2]) = gcl m := by
                show gcl (40 * min (m / 40) 2 + (m - 40 * min (m / 40) 2)) ++ [] = gcl m
                rw [List.append_nil]
                congr 1
                omega
              rw [e3, hgc]
              simp [contX]
            · rw [if_neg (by omega)] at h
              obtain ⟨hv, hu2, e⟩ := ih _ 0 false res hr (fun x hx => by
                rw [List.mem_append, List.mem_singleton] at hx
                rcases hx with hx | rfl
                · exact hu x hx
                · exact hm0) (.inr (by rw [List.length_append]; omega)) (Int.le_refl 0) (by decide) (fun _ => rfl) (fun h => by cases h) h
              refine ⟨hv, hu2, ?_⟩
              rw [← e, contX_add ho, hgc]
              simp
theorem rdO_some {b res : List Int} (hb : ∀ c ∈ b, 0 ≤ c ∧ c < 256) (h : rdO b [] 0 false = some res) : validB res = true ∧ IsU32 res ∧ cont res = b := by
  obtain ⟨hv, hu, e⟩ := rdO_inv b [] 0 false res hb (fun n hn => by simp at hn) (.inl rfl) (Int.le_refl 0) (by decide) (fun _ => rfl) (fun h => by cases h) h
  refine ⟨hv, hu, ?_⟩
  have hl := valid_len hv
  have e2 : cont res = contX res := by
    unfold cont contX
    rw [if_pos hv, if_neg (by intro h; subst h; simp at hl)]
    rfl
  rw [e2, ← e]
  simp [contX]
end Go.Proofs.YtohmnlmeamkmjaaDoor.POid
