/- The groups of a content: written and read. -/
import Derived.Test.YtohmnlmeamkmjaaDoorZXOid4
import Derived.Test.YtohmnlmeamkmjaaDoorZPOidx16
namespace Go.Proofs.YtohmnlmeamkmjaaDoor.POid
open Go.RowKit Go.Proofs.YtohmnlmeamkmjaaDoorW.PrintWords Go.Proofs.YtohmnlmeamkmjaaDoorW.PrintLast Go.Proofs.YtohmnlmeamkmjaaDoorW.PrintMore Go.Proofs.YtohmnlmeamkmjaaDoorW.Pu
theorem ggo_succ (f : Nat) (n m : Int) : ggo (f + 1) n m = (if 128 ≤ n then ggo f (n / 128) 128 else []) ++ [n % 128 + m] := rfl
theorem ggo_any : ∀ (f g : Nat) (n m : Int), 0 ≤ n → n < 128 ^ (f + 1) → n < 128 ^ (g + 1) → ggo (f + 1) n m = ggo (g + 1) n m := by
  intro f
  induction f with
  | zero =>
    intro g n m h0 h1 _
    have h2 : ¬ 128 ≤ n := by simp at h1; omega
    rw [ggo_succ, ggo_succ g, if_neg h2, if_neg h2]
  | succ f ih =>
    intro g n m h0 h1 h2
    rw [ggo_succ (f + 1), ggo_succ g]
    by_cases h : 128 ≤ n
    · rw [if_pos h, if_pos h]
      cases g with
      | zero => simp at h2; omega
      | succ g =>
        rw [ih g (n / 128) 128 (by omega) (by rw [Int.pow_succ] at h1; omega) (by rw [Int.pow_succ] at h2; omega)]
    · rw [if_neg h, if_neg h]
def gop (n : Int) : List Int := ggo 9 n 128
def gcl (n : Int) : List Int := ggo 9 n 0
theorem ggo_step {n : Int} (m : Int) (h0 : 0 ≤ n) (h1 : n < 1099511627776) : ggo 9 n m = (if 128 ≤ n then gop (n / 128) else []) ++ [n % 128 + m] := by
  have e : ggo 9 n m = (if 128 ≤ n then ggo 8 (n / 128) 128 else []) ++ [n % 128 + m] := by rw [ggo]
  rw [e, ggo_any 7 8 (n / 128) 128 (by omega) (by rw [show (128 : Int) ^ (7 + 1) = 72057594037927936 from rfl]; omega) (by rw [show (128 : Int) ^ (8 + 1) = 9223372036854775808 from rfl]; omega)]
  rfl
theorem gop_eq {n : Int} (h0 : 0 ≤ n) (h1 : n < 1099511627776) : gop n = (if 128 ≤ n then gop (n / 128) else []) ++ [n % 128 + 128] := ggo_step 128 h0 h1
theorem gcl_eq {n : Int} (h0 : 0 ≤ n) (h1 : n < 1099511627776) : gcl n = (if 128 ≤ n then gop (n / 128) else []) ++ [n % 128] := by
  have := ggo_step 0 h0 h1
  rw [Int.add_zero] at this
  exact this
theorem rdO_open : ∀ (f : Nat) (n : Int) (r out : List Int), n < 128 ^ f → 1 ≤ n → n < 4294967296 → out.length ≤ 20 → rdO (gop n ++ r) out 0 false = rdO r out n true := by
  intro f
  induction f with
  | zero => intro n r out h h1; simp at h; omega
  | succ f ih =>
    intro n r out h h1 h2 ho
    rw [gop_eq (by omega) (by omega)]
    by_cases hb : 128 ≤ n
    · rw [if_pos hb, List.append_assoc, ih (n / 128) _ out (by rw [Int.pow_succ] at h; omega) (by omega) (by omega) ho]
      show rdO ((n % 128 + 128) :: r) out (n / 128) true = _
      rw [rdO, if_neg (by simp; omega), if_neg (by omega), if_pos (by omega)]
      congr 1
      omega
    · rw [if_neg hb]
      show rdO ((n % 128 + 128) :: r) out 0 false = _
      rw [rdO, if_neg (by simp; omega), if_neg (by omega), if_pos (by omega)]
      congr 1
      omega
def newO (out : List Int) (n : Int) : List Int := out ++ (if out.length = 0 then [min (n / 40) 2, n - 40 * min (n / 40) 2] else [n])
theorem rdO_close {n : Int} (r out : List Int) (h0 : 0 ≤ n) (h1 : n < 4294967296) (ho : out.length ≤ 20) : rdO (gcl n ++ r) out 0 false = rdO r (newO out n) 0 false := by
  rw [gcl_eq h0 (by omega)]
  by_cases hb : 128 ≤ n
  · rw [if_pos hb, List.append_assoc, rdO_open 5 (n / 128) _ out (by rw [show (128 : Int) ^ 5 = 34359738368 from rfl]; omega) (by omega) (by omega) ho]
    show rdO ((n % 128) :: r) out (n / 128) true = _
    rw [rdO, if_neg (by simp; omega), if_neg (by omega), if_neg (by omega), show n / 128 * 128 + n % 128 % 128 = n by omega, if_neg (by omega)]
    rfl
  · rw [if_neg hb]
    show rdO ((n % 128) :: r) out 0 false = _
    rw [rdO, if_neg (by simp; omega), if_neg (by omega), if_neg (by omega), show 0 * 128 + n % 128 % 128 = n by omega, if_neg (by omega)]
    rfl
theorem rdO_flat : ∀ (ns out : List Int), IsU32 ns → 1 ≤ out.length → out.length + ns.length ≤ 20 → rdO (ns.flatMap gcl) out 0 false = rdO [] (out ++ ns) 0 false := by
  intro ns
  induction ns with
  | nil => intro out _ _ _; simp
  | cons n ns ih =>
    intro out h h1 hl
    have hn := h n (by simp)
    rw [List.length_cons] at hl
    rw [List.flatMap_cons, rdO_close _ out hn.1 hn.2 (by omega)]
    have e : newO out n = out ++ [n] := by unfold newO; rw [if_neg (by omega)]
    rw [e, ih (out ++ [n]) (fun m hm => h m (List.mem_cons_of_mem _ hm)) (by simp) (by rw [List.length_append]; simp; omega), List.append_assoc]
    rfl
theorem two_of {l : List Int} (h : 2 ≤ l.length) : l = rd l 0 :: rd l 1 :: l.drop 2 := by
  have e0 := drop_rd l (show 0 < l.length by omega)
  have e1 := drop_rd l (show 1 < l.length by omega)
  rw [List.drop_zero] at e0
  have e2 : l.drop (0 + 1) = rd l 1 :: l.drop 2 := e1
  rw [e2] at e0
  exact e0
theorem first_two {a b : Int} (ha : 0 ≤ a ∧ a ≤ 2) (hb : 0 ≤ b) (hab : a < 2 → b < 40) : min ((40 * a + b) / 40) 2 = a := by
  by_cases h : a < 2
  · have := hab h; omega
  · omega
theorem read_cont {l : List Int} (hu : IsU32 l) (hv : validB l = true) : rdO (cont l) [] 0 false = some l := by
  have hl := valid_len hv
  have hx := valid_two hv
  have hr0 : 0 ≤ rd l 0 ∧ rd l 0 < 4294967296 := hu _ (rd_mem (show 0 < l.length by omega))
  have hr1 : 0 ≤ rd l 1 ∧ rd l 1 < 4294967216 := ⟨(hu _ (rd_mem (show 1 < l.length by omega))).1, hx.2.2 _ (rd_mem (show 1 < l.length by omega))⟩
  have ec : cont l = gcl (40 * rd l 0 + rd l 1) ++ (l.drop 2).flatMap gcl := by unfold cont; rw [if_pos hv]; rfl
  rw [ec, rdO_close _ [] (by omega) (by omega) (by simp)]
  have e : newO [] (40 * rd l 0 + rd l 1) = [rd l 0, rd l 1] := by
    unfold newO
    rw [if_pos (List.length_nil (α := Int)), first_two ⟨hr0.1, hx.1⟩ hr1.1 hx.2.1, List.nil_append]
    congr 2
    omega
  rw [e, rdO_flat (l.drop 2) _ (fun n hn => hu n (List.mem_of_mem_drop hn)) (by simp) (by rw [List.length_drop]; simp; omega)]
  have e2 : [rd l 0, rd l 1] ++ l.drop 2 = l := (two_of hl.1).symm
  rw [e2, rdO, if_pos ⟨rfl, hv⟩]
end Go.Proofs.YtohmnlmeamkmjaaDoor.POid
