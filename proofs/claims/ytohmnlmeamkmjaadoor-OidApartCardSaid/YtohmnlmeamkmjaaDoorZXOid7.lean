/- Texts that begin alike. -/
import Derived.Test.YtohmnlmeamkmjaaDoorZXOid4
namespace Go.Proofs.YtohmnlmeamkmjaaDoor.POid
open Go.RowKit Go.Proofs.YtohmnlmeamkmjaaDoorW.PrintWords Go.Proofs.YtohmnlmeamkmjaaDoorW.PrintLast Go.Proofs.YtohmnlmeamkmjaaDoorW.PrintMore Go.Proofs.YtohmnlmeamkmjaaDoorW.Pu
theorem DD_inj {a b : Int} (ha : 0 ≤ a) (hb : 0 ≤ b) (h : DD a = DD b) : a = b := by
  have := congrArg (dval 0) h
  unfold DD at this
  rw [dd_val, dd_val] at this
  omega
theorem map_DD_inj : ∀ (a b : List Int), IsU32 a → IsU32 b → a.map DD = b.map DD → a = b := by
  intro a
  induction a with
  | nil => intro b _ _ h; cases b with
    | nil => rfl
    | cons _ _ => simp at h
  | cons x a ih =>
    intro b ha hb h
    cases b with
    | nil => simp at h
    | cons y b =>
      simp only [List.map_cons, List.cons.injEq] at h
      rw [DD_inj (ha x (by simp)).1 (hb y (by simp)).1 h.1, ih b (fun n hn => ha n (List.mem_cons_of_mem _ hn)) (fun n hn => hb n (List.mem_cons_of_mem _ hn)) h.2]
theorem txl_inj {a b : List Int} (ha : IsU32 a) (hb : IsU32 b) (va : validB a = true) (vb : validB b = true) (h : txl a = txl b) : a = b := by
  unfold txl at h
  rw [if_pos va, if_pos vb] at h
  have h2 := congrArg (spl []) h
  have la := valid_len va
  have lb := valid_len vb
  rw [spl_tx (by intro h; subst h; simp at la), spl_tx (by intro h; subst h; simp at lb)] at h2
  exact map_DD_inj a b ha hb h2
end Go.Proofs.YtohmnlmeamkmjaaDoor.POid
