/- Short forms of steps that the texts of this claim repeat: no condition. -/
import Derived.Test.YtgmnknhfeoleaaaGreatDoorZWWords
import Derived.Test.YtgmnknhfeoleaaaGreatDoorZWLast
import Derived.Test.YtgmnknhfeoleaaaGreatDoorZWTab
import Derived.Test.YtgmnknhfeoleaaaGreatDoorZXWords
namespace Go.Proofs.YtgmnknhfeoleaaaGreatDoor
open Go.RowKit Go.Proofs.YtgmnknhfeoleaaaGreatDoorW.PrintWords Go.Proofs.YtgmnknhfeoleaaaGreatDoorW.PrintLast Go.Proofs.YtgmnknhfeoleaaaGreatDoorW.PrintMore
set_option linter.unusedVariables false
set_option linter.unusedSimpArgs false
theorem cells10_ {w : World} {g : Nat} {t : TypeId} {a0 a1 a2 a3 a4 a5 a6 a7 a8 a9 : Value} (h : w.heap[g]? = some (.cells #[a0, a1, a2, a3, a4, a5, a6, a7, a8, a9] t (0, 0))) : w.cell? ⟨g, 0, none⟩ = some a0 ∧ w.cell? ⟨g, 1, none⟩ = some a1 ∧ w.cell? ⟨g, 2, none⟩ = some a2 ∧ w.cell? ⟨g, 3, none⟩ = some a3 ∧ w.cell? ⟨g, 4, none⟩ = some a4 ∧ w.cell? ⟨g, 5, none⟩ = some a5 ∧ w.cell? ⟨g, 6, none⟩ = some a6 ∧ w.cell? ⟨g, 7, none⟩ = some a7 ∧ w.cell? ⟨g, 8, none⟩ = some a8 ∧ w.cell? ⟨g, 9, none⟩ = some a9 := ⟨(blk_cell h 0).trans rfl, (blk_cell h 1).trans rfl, (blk_cell h 2).trans rfl, (blk_cell h 3).trans rfl, (blk_cell h 4).trans rfl, (blk_cell h 5).trans rfl, (blk_cell h 6).trans rfl, (blk_cell h 7).trans rfl, (blk_cell h 8).trans rfl, (blk_cell h 9).trans rfl⟩
theorem frz10_ {w : World} {g : Nat} {t : TypeId} {cs : Array Value} (h : w.heap[g]? = some (.cells cs t (0, 0))) : w.frozen? ⟨g, 0, none⟩ = false ∧ w.frozen? ⟨g, 1, none⟩ = false ∧ w.frozen? ⟨g, 2, none⟩ = false ∧ w.frozen? ⟨g, 3, none⟩ = false ∧ w.frozen? ⟨g, 4, none⟩ = false ∧ w.frozen? ⟨g, 5, none⟩ = false ∧ w.frozen? ⟨g, 6, none⟩ = false ∧ w.frozen? ⟨g, 7, none⟩ = false ∧ w.frozen? ⟨g, 8, none⟩ = false ∧ w.frozen? ⟨g, 9, none⟩ = false := ⟨blk_frozen h 0, blk_frozen h 1, blk_frozen h 2, blk_frozen h 3, blk_frozen h 4, blk_frozen h 5, blk_frozen h 6, blk_frozen h 7, blk_frozen h 8, blk_frozen h 9⟩
theorem set10_0123456789_ {w : World} {g : Nat} {t : TypeId} {a0 a1 a2 a3 a4 a5 a6 a7 a8 a9 : Value} {v0 v1 v2 v3 v4 v5 v6 v7 v8 v9 : Value} (h : w.heap[g]? = some (.cells #[a0, a1, a2, a3, a4, a5, a6, a7, a8, a9] t (0, 0))) : ((((((((((w.setCell ⟨g, 0, none⟩ v0).setCell ⟨g, 1, none⟩ v1).setCell ⟨g, 2, none⟩ v2).setCell ⟨g, 3, none⟩ v3).setCell ⟨g, 4, none⟩ v4).setCell ⟨g, 5, none⟩ v5).setCell ⟨g, 6, none⟩ v6).setCell ⟨g, 7, none⟩ v7).setCell ⟨g, 8, none⟩ v8).setCell ⟨g, 9, none⟩ v9).heap[g]? = some (.cells #[v0, v1, v2, v3, v4, v5, v6, v7, v8, v9] t (0, 0)) := by
 have h0 := blk_put (cs' := #[v0, a1, a2, a3, a4, a5, a6, a7, a8, a9]) h 0 v0 rfl
 have h1 := blk_put (cs' := #[v0, v1, a2, a3, a4, a5, a6, a7, a8, a9]) h0 1 v1 rfl
 have h2 := blk_put (cs' := #[v0, v1, v2, a3, a4, a5, a6, a7, a8, a9]) h1 2 v2 rfl
 have h3 := blk_put (cs' := #[v0, v1, v2, v3, a4, a5, a6, a7, a8, a9]) h2 3 v3 rfl
 have h4 := blk_put (cs' := #[v0, v1, v2, v3, v4, a5, a6, a7, a8, a9]) h3 4 v4 rfl
 have h5 := blk_put (cs' := #[v0, v1, v2, v3, v4, v5, a6, a7, a8, a9]) h4 5 v5 rfl
 have h6 := blk_put (cs' := #[v0, v1, v2, v3, v4, v5, v6, a7, a8, a9]) h5 6 v6 rfl
 have h7 := blk_put (cs' := #[v0, v1, v2, v3, v4, v5, v6, v7, a8, a9]) h6 7 v7 rfl
 have h8 := blk_put (cs' := #[v0, v1, v2, v3, v4, v5, v6, v7, v8, a9]) h7 8 v8 rfl
 have h9 := blk_put (cs' := #[v0, v1, v2, v3, v4, v5, v6, v7, v8, v9]) h8 9 v9 rfl
 exact h9
theorem farR_0123456789_ {α : Type} {d : Kd α} {e : TypeId} {w : World} {base g : Nat} {ok : Nat → Prop} {x : Value} {xs : List α} {v0 v1 v2 v3 v4 v5 v6 v7 v8 v9 : Value} (h : d.R e w base (fun k => ok k ∧ k ≠ g) x xs) : d.R e ((((((((((w.setCell ⟨g, 0, none⟩ v0).setCell ⟨g, 1, none⟩ v1).setCell ⟨g, 2, none⟩ v2).setCell ⟨g, 3, none⟩ v3).setCell ⟨g, 4, none⟩ v4).setCell ⟨g, 5, none⟩ v5).setCell ⟨g, 6, none⟩ v6).setCell ⟨g, 7, none⟩ v7).setCell ⟨g, 8, none⟩ v8).setCell ⟨g, 9, none⟩ v9) base (fun _ => True) x xs := by
 have h0 := Kd.R_far (p := ⟨g, 0, none⟩) h (fun _ hk => hk.2) v0
 have h1 := Kd.R_far (p := ⟨g, 1, none⟩) h0 (fun _ hk => hk.2) v1
 have h2 := Kd.R_far (p := ⟨g, 2, none⟩) h1 (fun _ hk => hk.2) v2
 have h3 := Kd.R_far (p := ⟨g, 3, none⟩) h2 (fun _ hk => hk.2) v3
 have h4 := Kd.R_far (p := ⟨g, 4, none⟩) h3 (fun _ hk => hk.2) v4
 have h5 := Kd.R_far (p := ⟨g, 5, none⟩) h4 (fun _ hk => hk.2) v5
 have h6 := Kd.R_far (p := ⟨g, 6, none⟩) h5 (fun _ hk => hk.2) v6
 have h7 := Kd.R_far (p := ⟨g, 7, none⟩) h6 (fun _ hk => hk.2) v7
 have h8 := Kd.R_far (p := ⟨g, 8, none⟩) h7 (fun _ hk => hk.2) v8
 have h9 := Kd.R_far (p := ⟨g, 9, none⟩) h8 (fun _ hk => hk.2) v9
 exact Kd.R_mono h9 (fun _ _ => trivial)
theorem cells2_ {w : World} {g : Nat} {t : TypeId} {a0 a1 : Value} (h : w.heap[g]? = some (.cells #[a0, a1] t (0, 0))) : w.cell? ⟨g, 0, none⟩ = some a0 ∧ w.cell? ⟨g, 1, none⟩ = some a1 := ⟨(blk_cell h 0).trans rfl, (blk_cell h 1).trans rfl⟩
theorem frz2_ {w : World} {g : Nat} {t : TypeId} {cs : Array Value} (h : w.heap[g]? = some (.cells cs t (0, 0))) : w.frozen? ⟨g, 0, none⟩ = false ∧ w.frozen? ⟨g, 1, none⟩ = false := ⟨blk_frozen h 0, blk_frozen h 1⟩
theorem pu_ {P : Program} {md : Region.Mode} {ops : Array Oper} {Q : Exit → Act → World → Prop} {S : World → Prop} {ds : List Nat} {N : Option Tmp} {oi : Oper} {fuel : Nat} {l : Array Bool} {a a' : Act} {w : World} {v : Value} (i : Nat) (l' : Array Bool) (hi : ops[i]? = some oi) (hN : oi.dst = N) (h : wpAnyLast P md ops Q S ds fuel l' a' w) (hc : anyB md ops l l' i = true := by exact any_of HT_.out (by kernel_rfl)) (hQ : ∀ c a w, Q (.panic c) (a.put oi.dst v) w → Q (.panic c) a w := by exact fun _ _ _ h => h) (hy : Yields P ops oi v a := by refine Or.inl ⟨by rfl, ?_⟩; intro w'; go_simp; with_reducible rfl) (ha : a.put N v = a' := by simp only [Act.put, List.setIfInBounds_toArray, List.set_cons_zero, List.set_cons_succ, i64_w, i32_w]; rfl) : wpAnyLast P md ops Q S ds (fuel + 1) l a w := pure_ l' hi hN hc hQ hy ha h
theorem tk8_ {P : Program} {md : Region.Mode} {ops : Array Oper} {Q : Exit → Act → World → Prop} {S : World → Prop} {ds : List Nat} {N : Option Tmp} {oi : Oper} {fuel : Nat} {l : Array Bool} {a a' : Act} {w : World} {v : Value} (i : Nat) (l' : Array Bool) (hi : ops[i]? = some oi) (hN : oi.dst = N) (hS : S w) (h : wpAnyLast P md ops Q S ds fuel l' a' w) (hc : takeB md ops ds l l' i = true := by exact take_ofW HT_.out HW_.out (by kernel_rfl)) (hQ : ∀ c a w, Q (.panic c) (a.put oi.dst v) w → Q (.panic c) a w := by exact fun _ _ _ h => h) (hy : YieldsIf P ops S oi v a := by refine Or.inl ⟨by rfl, ?_⟩; rintro w' ⟨s0, s1, s2, s3, s4, s5, s6, s7⟩; go_simp; with_reducible rfl) (ha : a.put N v = a' := by simp only [Act.put, List.setIfInBounds_toArray, List.set_cons_zero, List.set_cons_succ, i64_w, i32_w]; rfl) : wpAnyLast P md ops Q S ds (fuel + 1) l a w := take_ l' hi hN hc hQ hy hS ha h
theorem tk3_ {P : Program} {md : Region.Mode} {ops : Array Oper} {Q : Exit → Act → World → Prop} {S : World → Prop} {ds : List Nat} {N : Option Tmp} {oi : Oper} {fuel : Nat} {l : Array Bool} {a a' : Act} {w : World} {v : Value} (i : Nat) (l' : Array Bool) (hi : ops[i]? = some oi) (hN : oi.dst = N) (hS : S w) (h : wpAnyLast P md ops Q S ds fuel l' a' w) (hc : takeB md ops ds l l' i = true := by exact take_ofW HT_.out HW_.out (by kernel_rfl)) (hQ : ∀ c a w, Q (.panic c) (a.put oi.dst v) w → Q (.panic c) a w := by exact fun _ _ _ h => h) (hy : YieldsIf P ops S oi v a := by refine Or.inl ⟨by rfl, ?_⟩; rintro w' ⟨s0, s1, s2⟩; go_simp; with_reducible rfl) (ha : a.put N v = a' := by simp only [Act.put, List.setIfInBounds_toArray, List.set_cons_zero, List.set_cons_succ, i64_w, i32_w]; rfl) : wpAnyLast P md ops Q S ds (fuel + 1) l a w := take_ l' hi hN hc hQ hy hS ha h
theorem set2_01_ {w : World} {g : Nat} {t : TypeId} {a0 a1 : Value} {v0 v1 : Value} (h : w.heap[g]? = some (.cells #[a0, a1] t (0, 0))) : ((w.setCell ⟨g, 0, none⟩ v0).setCell ⟨g, 1, none⟩ v1).heap[g]? = some (.cells #[v0, v1] t (0, 0)) := by
 have h0 := blk_put (cs' := #[v0, a1]) h 0 v0 rfl
 have h1 := blk_put (cs' := #[v0, v1]) h0 1 v1 rfl
 exact h1
theorem tk1_ {P : Program} {md : Region.Mode} {ops : Array Oper} {Q : Exit → Act → World → Prop} {S : World → Prop} {ds : List Nat} {N : Option Tmp} {oi : Oper} {fuel : Nat} {l : Array Bool} {a a' : Act} {w : World} {v : Value} (i : Nat) (l' : Array Bool) (hi : ops[i]? = some oi) (hN : oi.dst = N) (hS : S w) (h : wpAnyLast P md ops Q S ds fuel l' a' w) (hc : takeB md ops ds l l' i = true := by exact take_ofW HT_.out HW_.out (by kernel_rfl)) (hQ : ∀ c a w, Q (.panic c) (a.put oi.dst v) w → Q (.panic c) a w := by exact fun _ _ _ h => h) (hy : YieldsIf P ops S oi v a := by refine Or.inl ⟨by rfl, ?_⟩; intro w' s0; go_simp; with_reducible rfl) (ha : a.put N v = a' := by simp only [Act.put, List.setIfInBounds_toArray, List.set_cons_zero, List.set_cons_succ, i64_w, i32_w]; rfl) : wpAnyLast P md ops Q S ds (fuel + 1) l a w := take_ l' hi hN hc hQ hy hS ha h
theorem tk2_ {P : Program} {md : Region.Mode} {ops : Array Oper} {Q : Exit → Act → World → Prop} {S : World → Prop} {ds : List Nat} {N : Option Tmp} {oi : Oper} {fuel : Nat} {l : Array Bool} {a a' : Act} {w : World} {v : Value} (i : Nat) (l' : Array Bool) (hi : ops[i]? = some oi) (hN : oi.dst = N) (hS : S w) (h : wpAnyLast P md ops Q S ds fuel l' a' w) (hc : takeB md ops ds l l' i = true := by exact take_ofW HT_.out HW_.out (by kernel_rfl)) (hQ : ∀ c a w, Q (.panic c) (a.put oi.dst v) w → Q (.panic c) a w := by exact fun _ _ _ h => h) (hy : YieldsIf P ops S oi v a := by refine Or.inl ⟨by rfl, ?_⟩; rintro w' ⟨s0, s1⟩; go_simp; with_reducible rfl) (ha : a.put N v = a' := by simp only [Act.put, List.setIfInBounds_toArray, List.set_cons_zero, List.set_cons_succ, i64_w, i32_w]; rfl) : wpAnyLast P md ops Q S ds (fuel + 1) l a w := take_ l' hi hN hc hQ hy hS ha h
theorem cells5_ {w : World} {g : Nat} {t : TypeId} {a0 a1 a2 a3 a4 : Value} (h : w.heap[g]? = some (.cells #[a0, a1, a2, a3, a4] t (0, 0))) : w.cell? ⟨g, 0, none⟩ = some a0 ∧ w.cell? ⟨g, 1, none⟩ = some a1 ∧ w.cell? ⟨g, 2, none⟩ = some a2 ∧ w.cell? ⟨g, 3, none⟩ = some a3 ∧ w.cell? ⟨g, 4, none⟩ = some a4 := ⟨(blk_cell h 0).trans rfl, (blk_cell h 1).trans rfl, (blk_cell h 2).trans rfl, (blk_cell h 3).trans rfl, (blk_cell h 4).trans rfl⟩
theorem frz5_ {w : World} {g : Nat} {t : TypeId} {cs : Array Value} (h : w.heap[g]? = some (.cells cs t (0, 0))) : w.frozen? ⟨g, 0, none⟩ = false ∧ w.frozen? ⟨g, 1, none⟩ = false ∧ w.frozen? ⟨g, 2, none⟩ = false ∧ w.frozen? ⟨g, 3, none⟩ = false ∧ w.frozen? ⟨g, 4, none⟩ = false := ⟨blk_frozen h 0, blk_frozen h 1, blk_frozen h 2, blk_frozen h 3, blk_frozen h 4⟩
theorem set5_01234_ {w : World} {g : Nat} {t : TypeId} {a0 a1 a2 a3 a4 : Value} {v0 v1 v2 v3 v4 : Value} (h : w.heap[g]? = some (.cells #[a0, a1, a2, a3, a4] t (0, 0))) : (((((w.setCell ⟨g, 0, none⟩ v0).setCell ⟨g, 1, none⟩ v1).setCell ⟨g, 2, none⟩ v2).setCell ⟨g, 3, none⟩ v3).setCell ⟨g, 4, none⟩ v4).heap[g]? = some (.cells #[v0, v1, v2, v3, v4] t (0, 0)) := by
 have h0 := blk_put (cs' := #[v0, a1, a2, a3, a4]) h 0 v0 rfl
 have h1 := blk_put (cs' := #[v0, v1, a2, a3, a4]) h0 1 v1 rfl
 have h2 := blk_put (cs' := #[v0, v1, v2, a3, a4]) h1 2 v2 rfl
 have h3 := blk_put (cs' := #[v0, v1, v2, v3, a4]) h2 3 v3 rfl
 have h4 := blk_put (cs' := #[v0, v1, v2, v3, v4]) h3 4 v4 rfl
 exact h4
theorem farR_01234_ {α : Type} {d : Kd α} {e : TypeId} {w : World} {base g : Nat} {ok : Nat → Prop} {x : Value} {xs : List α} {v0 v1 v2 v3 v4 : Value} (h : d.R e w base (fun k => ok k ∧ k ≠ g) x xs) : d.R e (((((w.setCell ⟨g, 0, none⟩ v0).setCell ⟨g, 1, none⟩ v1).setCell ⟨g, 2, none⟩ v2).setCell ⟨g, 3, none⟩ v3).setCell ⟨g, 4, none⟩ v4) base (fun _ => True) x xs := by
 have h0 := Kd.R_far (p := ⟨g, 0, none⟩) h (fun _ hk => hk.2) v0
 have h1 := Kd.R_far (p := ⟨g, 1, none⟩) h0 (fun _ hk => hk.2) v1
 have h2 := Kd.R_far (p := ⟨g, 2, none⟩) h1 (fun _ hk => hk.2) v2
 have h3 := Kd.R_far (p := ⟨g, 3, none⟩) h2 (fun _ hk => hk.2) v3
 have h4 := Kd.R_far (p := ⟨g, 4, none⟩) h3 (fun _ hk => hk.2) v4
 exact Kd.R_mono h4 (fun _ _ => trivial)
end Go.Proofs.YtgmnknhfeoleaaaGreatDoor
