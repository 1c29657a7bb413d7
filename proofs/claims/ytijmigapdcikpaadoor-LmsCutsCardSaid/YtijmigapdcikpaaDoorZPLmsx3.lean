import Derived.Test.YtijmigapdcikpaaDoorZPLmsx0
import Derived.Test.YtijmigapdcikpaaDoorZPLmsx2
namespace Go.Proofs.YtijmigapdcikpaaDoor.PLms
open Go.RowKit Go.Proofs.YtijmigapdcikpaaDoorW.PrintWords Go.Proofs.YtijmigapdcikpaaDoorW.PrintLast Go.Proofs.YtijmigapdcikpaaDoorW.PrintMore
set_option linter.unusedVariables false
set_option linter.unusedSimpArgs false
def Stab (F : World → Prop) (B g gr : Nat) : Prop := ∀ W W', F W → W.heap.size ≤ W'.heap.size → B ≤ W.heap.size → (∀ i, i < B → i ≠ g → i ≠ gr → W'.heap[i]? = W.heap[i]?) → F W'
def LE (w0 W : World) (gr g : Nat) (l : List Int) (p : Nat) (e : Option E) (F : World → Prop) : Prop :=
  RD w0 W g l p ∧ W.heap[gr]? = some (.cells #[.pointer (some ⟨g, 0, none⟩), .int .i64 (l.length : Int), errW e] 116 (0, 0)) ∧ w0.heap.size ≤ gr ∧ GOK w0 ∧
    (F W ∧ ∃ B, B ≤ W.heap.size ∧ Stab F B g gr) ∧ (∀ x ∈ l, 0 ≤ x ∧ x < 256)
section
variable {w0 W W' : World} {gr g : Nat} {l : List Int} {p p' : Nat} {e e' : Option E} {F : World → Prop}
theorem LE.rdr (h : LE w0 W gr g l p e F) : RD w0 W g l p := h.1
theorem LE.all (h : LE w0 W gr g l p e F) : Below w0.heap.size w0 W := h.1.all
theorem LE.gok (h : LE w0 W gr g l p e F) : GOK W := h.2.2.2.1.below h.all
theorem LE.ne (h : LE w0 W gr g l p e F) : gr ≠ g := by
  obtain ⟨A, c, h1, _⟩ := h.1
  exact blk_ne h.2.1 h1 (by decide)
theorem LE.ple (h : LE w0 W gr g l p e F) : p ≤ l.length := by
  obtain ⟨A, c, _, _, h3, _⟩ := h.1
  exact h3
theorem LE.mv (h : LE w0 W gr g l p e F) (hs : W.heap.size ≤ W'.heap.size) (hk : ∀ i, i < W.heap.size → i ≠ g → i ≠ gr → W'.heap[i]? = W.heap[i]?) : F W' ∧ ∃ B, B ≤ W'.heap.size ∧ Stab F B g gr := by
  obtain ⟨B, hB, hS⟩ := h.2.2.2.2.1.2
  exact ⟨hS _ _ h.2.2.2.2.1.1 hs hB (fun i hi => hk i (by omega)), B, by omega, hS⟩
theorem LE.below (h : LE w0 W gr g l p e F) (hb : Below W.heap.size W W') : LE w0 W' gr g l p e F :=
  ⟨h.1.below hb, blk_below h.2.1 hb, h.2.2.1, h.2.2.2.1, h.mv hb.size (fun i hi _ _ => hb.block i hi), h.2.2.2.2.2⟩
theorem LE.drewN (h : LE w0 W gr g l p e F) (m : Nat) : LE w0 (W.drewN m) gr g l p e F := h.below (pw_below_drewN (Below.refl _ _) m)
theorem LE.drawn (h : LE w0 W gr g l p e F) (hd : Drawn0 W W') : LE w0 W' gr g l p e F := h.below hd.below
theorem LE.step (h : LE w0 W gr g l p e F) (hd : RD w0 W' g l p') (hk : KeepBut W W' g none) : LE w0 W' gr g l p' e F :=
  ⟨hd, KeepBut.blk hk h.2.1 h.ne (by simp), h.2.2.1, h.2.2.2.1, h.mv hk.1 (fun i hi hg _ => hk.2 i hi hg (by simp)), h.2.2.2.2.2⟩
theorem LE.set (h : LE w0 W gr g l p e F) (e' : Option E) : LE w0 (W.setCell ⟨gr, 2, none⟩ (errW e')) gr g l p e' F := by
  obtain ⟨A, c, h1, h2, h3, h4, h5, h6⟩ := h.1
  refine ⟨⟨A, c, blk_far h1 (Ne.symm h.ne) _, Kd.R_set h2 h.2.1 (by decide) 2 _, h3, h4, h5, below_set h6 h.2.2.1⟩, by simpa using blk_set h.2.1 2 (errW e'), h.2.2.1, h.2.2.2.1, h.mv (by simp) (fun i hi _ hgr => Below.heap_setCell W ⟨gr, 2, none⟩ (errW e') i hgr), h.2.2.2.2.2⟩
theorem Stab.and {B : Nat} (hS : Stab F B g gr) {b : Nat} (o : Obj) (hB : B ≤ b) (hg : b ≠ g) (hgr : b ≠ gr) : Stab (fun W' => F W' ∧ W'.heap[b]? = some o) (b + 1) g gr :=
  fun W1 W2 h1 hs hB1 hk => ⟨hS W1 W2 h1.1 hs (by omega) (fun i hi => hk i (by omega)), (hk b (by omega) hg hgr).trans h1.2⟩
theorem LE.hold (h : LE w0 W gr g l p e F) {b : Nat} {o : Obj} (hb : W.heap[b]? = some o) (hg : b ≠ g) (hgr : b ≠ gr) : LE w0 W gr g l p e (fun W' => F W' ∧ W'.heap[b]? = some o) := by
  obtain ⟨B, hB, hS⟩ := h.2.2.2.2.1.2
  have hbl := blk_lt hb
  refine ⟨h.1, h.2.1, h.2.2.1, h.2.2.2.1, ⟨⟨h.2.2.2.2.1.1, hb⟩, max B (b + 1), by omega, fun W1 W2 h1 hs hB1 hk => ⟨hS W1 W2 h1.1 hs (by omega) (fun i hi => hk i (by omega)), (hk b (by omega) hg hgr).trans h1.2⟩⟩, h.2.2.2.2.2⟩
theorem LE.drop {G : World → Prop} {B : Nat} (h : LE w0 W gr g l p e (fun W' => F W' ∧ G W')) (hB : B ≤ W.heap.size) (hS : Stab F B g gr) : LE w0 W gr g l p e F :=
  ⟨h.1, h.2.1, h.2.2.1, h.2.2.2.1, ⟨h.2.2.2.2.1.1.1, B, hB, hS⟩, h.2.2.2.2.2⟩
theorem LE.inv (h : LE w0 W gr g l p e F) : F W := h.2.2.2.2.1.1
theorem LE.fr (h : LE w0 W gr g l p e F) : ∃ B, B ≤ W.heap.size ∧ Stab F B g gr := h.2.2.2.2.1.2
theorem LE.setp {b B t : Nat} {cs : Array Value} (h : LE w0 W gr g l p e (fun W' => F W' ∧ W'.heap[b]? = some (.cells cs t (0, 0)))) (hS : Stab F B g gr) (hB : B ≤ b) (ht : t ≠ 5) (hg : b ≠ g) (hgr : b ≠ gr) (h0 : w0.heap.size ≤ b) (j : Nat) (u : Value) :
    LE w0 (W.setCell ⟨b, j, none⟩ u) gr g l p e (fun W' => F W' ∧ W'.heap[b]? = some (.cells (cs.setIfInBounds j u) t (0, 0))) := by
  obtain ⟨A, c, h1, h2, h3, h4, h5, h6⟩ := h.1
  have hb := h.inv.2
  have hbl := blk_lt hb
  have hS' : Stab (fun W' => F W' ∧ W'.heap[b]? = some (.cells (cs.setIfInBounds j u) t (0, 0))) (b + 1) g gr := fun W1 W2 h1 hs hB1 hk => ⟨hS W1 W2 h1.1 hs (by omega) (fun i hi => hk i (by omega)), (hk b (by omega) hg hgr).trans h1.2⟩
  refine ⟨⟨A, c, blk_far h1 (Ne.symm hg) _, Kd.R_set h2 hb (fun q hq => (List.mem_cons.1 hq).elim (fun e => e ▸ Ne.symm ht) (fun hq => by cases (show q ∈ ([] : List Nat) from hq))) j _, h3, h4, h5, below_set h6 h0⟩, blk_far h.2.1 (Ne.symm hgr) _, h.2.2.1, h.2.2.2.1, ⟨⟨hS _ _ h.inv.1 (by simp) (by omega) (fun i hi _ _ => Below.heap_setCell W ⟨b, j, none⟩ u i (by show i ≠ b; omega)), blk_set hb j u⟩, b + 1, by simp; omega, hS'⟩, h.2.2.2.2.2⟩
theorem LE.lt (h : LE w0 W gr g l p e F) : g < W.heap.size ∧ gr < W.heap.size := by
  obtain ⟨A, c, h1, _⟩ := h.1
  exact ⟨blk_lt h1, blk_lt h.2.1⟩
theorem LE.c0 (h : LE w0 W gr g l p e F) : W.cell? ⟨gr, 0, none⟩ = some (.pointer (some ⟨g, 0, none⟩)) := (blk_cell h.2.1 0).trans rfl
theorem LE.c1 (h : LE w0 W gr g l p e F) : W.cell? ⟨gr, 1, none⟩ = some (.int .i64 (l.length : Int)) := (blk_cell h.2.1 1).trans rfl
theorem LE.c2 (h : LE w0 W gr g l p e F) : W.cell? ⟨gr, 2, none⟩ = some (errW e) := (blk_cell h.2.1 2).trans rfl
theorem LE.f2 (h : LE w0 W gr g l p e F) : W.frozen? ⟨gr, 2, none⟩ = false := blk_frozen h.2.1 2
def fl (c at_ : Int) : Option E → Option E
  | none => some (.fault c at_)
  | some x => some x
set_option maxHeartbeats 1000000 in
theorem lms_fail (h : LE w0 W gr g l p e F) (c a : Int) :
    Calls Tryd.prog 63 #[.pointer (some ⟨gr, 0, none⟩), .int .i64 c, .int .i64 a] W fun ev w' => ev = .returned (.tuple #[]) ∧ LE w0 w' gr g l p (fl c a e) F := by
  have c2 := h.c2
  have f2 := h.f2
  cases e with
  | none =>
    rw [errW_none] at c2
    go_enter Tryd.func63, Tryd.ntmps63
    have C := fun W => fault_New.calls c a (some (.fault c a)) W rfl
    simp only [errW_some] at C
    go_wp2_with (go_at_call 45; ((with_reducible refine (C _).mono ?_); rintro ev w' ⟨rfl, hb⟩; have h := h.below hb; have c2 := h.c2; have f2 := h.f2))
    go_end0
    exact ⟨rfl, h.set (some (.fault c a))⟩
  | some x =>
    rw [errW_some] at c2
    go_enter Tryd.func63, Tryd.ntmps63
    go_wp2
    go_end0
    exact ⟨rfl, h⟩
def lw (l : List Int) (s : Nat × Option E) : Int × Nat × Option E := if s.1 + 4 ≤ l.length then (v256 ((l.drop s.1).take 4), s.1 + 4, s.2) else (0, s.1, fl 3 l.length s.2)
theorem w_true4 : wire_width.f 4 = some true := by kernel_rfl
theorem lw_bd (hb : ∀ x ∈ l, 0 ≤ x ∧ x < 256) (s : Nat × Option E) : 0 ≤ (lw l s).1 ∧ (lw l s).1 < 4294967296 := by
  unfold lw
  split
  · have h := v256_bd ((l.drop s.1).take 4) (fun x hx => hb x (List.mem_of_mem_drop (List.mem_of_mem_take hx)))
    have hl : ((l.drop s.1).take 4).length = 4 := by simp; omega
    rw [hl] at h
    simpa using h
  · simp
set_option maxHeartbeats 1000000 in
theorem lms_word (h : LE w0 W gr g l p e F) :
    Calls Tryd.prog 62 #[.pointer (some ⟨gr, 0, none⟩)] W fun ev w' => ev = .returned (.int .u32 (lw l (p, e)).1) ∧ LE w0 w' gr g l (lw l (p, e)).2.1 (lw l (p, e)).2.2 F := by
  have c0 := h.c0
  have c1 := h.c1
  have hbd := lw_bd h.2.2.2.2.2 (p, e)
  by_cases c : p + 4 ≤ l.length
  · have e1 : lw l (p, e) = (v256 ((l.drop p).take 4), p + 4, e) := by rw [lw]; exact if_pos c
    rw [e1] at hbd ⊢
    have hw := word_ok h.rdr h.2.2.2.2.2 4 (by decide) w_true4 c
    generalize hV : v256 ((l.drop p).take 4) = V at hbd hw ⊢
    obtain ⟨b1, b2⟩ := hbd
    simp only at b1 b2
    have HW := Aside0.mk hw
    clear hw hV e1
    go_enter Tryd.func62, Tryd.ntmps62
    go_wp2_with (go_at_call 87; (refine (HW.out).mono ?_; rintro ev w' ⟨rfl, hd, hk⟩; have h := h.step hd hk; clear hd hk; have c0 := h.c0; have c1 := h.c1))
    go_ret
    exact ⟨rfl, h⟩
  · have e1 : lw l (p, e) = (0, p, fl 3 l.length e) := by rw [lw]; exact if_neg c
    rw [e1]
    have hw := word_no h.rdr 4 w_true4 (by omega)
    have HW := Aside0.mk hw
    clear hw e1 hbd
    go_enter Tryd.func62, Tryd.ntmps62
    go_wp2_with (first | (go_at_call 87; (refine (HW.out).mono ?_; rintro ev w' ⟨rfl, m, rfl⟩; have h := h.drewN m; have c0 := h.c0; have c1 := h.c1)) | (go_at_call 63; ((with_reducible refine (lms_fail h 3 _).mono ?_); rintro ev w' ⟨rfl, h⟩)))
    go_ret
    exact ⟨rfl, h⟩
def lskip (l : List Int) (m : Nat) (s : Nat × Option E) : Nat × Option E := if s.1 + m ≤ l.length then (s.1 + m, s.2) else (s.1, fl 3 l.length s.2)
set_option maxHeartbeats 1000000 in
theorem lms_skip (h : LE w0 W gr g l p e F) (n : Int) (m : Nat) (en : (m : Int) = n) :
    Calls Tryd.prog 89 #[.pointer (some ⟨gr, 0, none⟩), .int .i64 n] W fun ev w' => ev = .returned (.tuple #[]) ∧ LE w0 w' gr g l (lskip l m (p, e)).1 (lskip l m (p, e)).2 F := by
  have c0 := h.c0
  have c1 := h.c1
  by_cases c : p + m ≤ l.length
  · have e1 : lskip l m (p, e) = (p + m, e) := by rw [lskip]; exact if_pos c
    rw [e1]
    have hw := take_ok h.rdr m c
    rw [en] at hw
    have HW := Aside0.mk hw
    clear hw e1 en
    go_enter Tryd.func89, Tryd.ntmps89
    go_wp2_with (go_at_call 99; (refine (HW.out).mono ?_; rintro ev w' ⟨vt, rfl, -, hd, hk⟩; have h := h.step hd hk; clear hd hk; have c0 := h.c0; have c1 := h.c1))
    go_end0
    exact ⟨rfl, h⟩
  · have e1 : lskip l m (p, e) = (p, fl 3 l.length e) := by rw [lskip]; exact if_neg c
    rw [e1]
    have hp := h.ple
    have hw := take_no h.rdr n (.inr (by omega))
    have HW := Aside0.mk hw
    clear hw e1 en
    go_enter Tryd.func89, Tryd.ntmps89
    go_wp2_with (first | (go_at_call 99; (refine (HW.out).mono ?_; rintro ev w' ⟨rfl, m, rfl⟩; have h := h.drewN m; have c0 := h.c0; have c1 := h.c1)) | (go_at_call 63; ((with_reducible refine (lms_fail h 3 _).mono ?_); rintro ev w' ⟨rfl, h⟩)))
    go_end0
    exact ⟨rfl, h⟩
end
section
variable {w0 W W' : World} {gr g : Nat} {l : List Int} {p p' : Nat} {e e' : Option E} {F : World → Prop}
def hgt (t : Int) : Int × Bool := if 5 ≤ t ∧ t ≤ 9 then (5 * (t - 4), true) else (0, false)
def chn (t : Int) : Int × Bool := if t = 1 then (265, true) else if t = 2 then (133, true) else if t = 3 then (67, true) else if t = 4 then (34, true) else (0, false)
def lty (num : Int → Int × Bool) (l : List Int) (s : Nat × Option E) : (Int × Int) × Nat × Option E :=
  (((lw l s).1, (num (lw l s).1).1), (lw l s).2.1, if (num (lw l s).1).2 = true then (lw l s).2.2 else fl 8 s.1 (lw l s).2.2)
set_option maxHeartbeats 1000000 in
theorem lms_typedH (h : LE w0 W gr g l p e F) :
    Calls Tryd.prog 88 #[.pointer (some ⟨gr, 0, none⟩), .func (.func 33) #[] #[]] W fun ev w' => ev = .returned (.tuple #[.int .u32 (lty hgt l (p, e)).1.1, .int .i64 (lty hgt l (p, e)).1.2]) ∧ LE w0 w' gr g l (lty hgt l (p, e)).2.1 (lty hgt l (p, e)).2.2 F := by
  have c0 := h.c0
  have hn : lms_Height.f (lw l (p, e)).1 = some ((hgt (lw l (p, e)).1).1, (hgt (lw l (p, e)).1).2) := rfl
  unfold lty
  have hw := lms_word h
  generalize (lw l (p, e)).1 = t at hn hw ⊢
  generalize (lw l (p, e)).2.1 = q at hw ⊢
  generalize (lw l (p, e)).2.2 = e1 at hw ⊢
  generalize hb : (hgt t).2 = b at hn ⊢
  generalize hm : (hgt t).1 = m at hn ⊢
  have HW := Aside0.mk hw
  have HN := Aside0.mk hn
  clear hw hn hb hm
  cases b
  · rw [if_neg (by decide)]
    go_enter Tryd.func88, Tryd.ntmps88
    go_wp2_with (first | (go_at_call 67; ((with_reducible refine (at_q h.rdr).mono ?_); rintro ev w' ⟨rfl, rfl⟩)) | (go_at_call 62; ((with_reducible refine (HW.out).mono ?_); rintro ev w' ⟨rfl, h⟩)) | (go_at_call 33; ((with_reducible refine (lms_Height.calls t m false _ HN.out h.gok).mono ?_); rintro ev w' ⟨rfl, hd⟩; have h := h.drawn hd; clear hd)) | (go_at_call 63; ((with_reducible refine (lms_fail h 8 _).mono ?_); rintro ev w' ⟨rfl, h⟩)))
    go_ret2
    exact ⟨rfl, h⟩
  · rw [if_pos rfl]
    go_enter Tryd.func88, Tryd.ntmps88
    go_wp2_with (first | (go_at_call 67; ((with_reducible refine (at_q h.rdr).mono ?_); rintro ev w' ⟨rfl, rfl⟩)) | (go_at_call 62; ((with_reducible refine (HW.out).mono ?_); rintro ev w' ⟨rfl, h⟩)) | (go_at_call 33; ((with_reducible refine (lms_Height.calls t m true _ HN.out h.gok).mono ?_); rintro ev w' ⟨rfl, hd⟩; have h := h.drawn hd; clear hd)))
    go_ret2
    exact ⟨rfl, h⟩
set_option maxHeartbeats 1000000 in
theorem lms_typedC (h : LE w0 W gr g l p e F) :
    Calls Tryd.prog 88 #[.pointer (some ⟨gr, 0, none⟩), .func (.func 34) #[] #[]] W fun ev w' => ev = .returned (.tuple #[.int .u32 (lty chn l (p, e)).1.1, .int .i64 (lty chn l (p, e)).1.2]) ∧ LE w0 w' gr g l (lty chn l (p, e)).2.1 (lty chn l (p, e)).2.2 F := by
  have c0 := h.c0
  have hn : lms_Chains.f (lw l (p, e)).1 = some ((chn (lw l (p, e)).1).1, (chn (lw l (p, e)).1).2) := rfl
  unfold lty
  have hw := lms_word h
  generalize (lw l (p, e)).1 = t at hn hw ⊢
  generalize (lw l (p, e)).2.1 = q at hw ⊢
  generalize (lw l (p, e)).2.2 = e1 at hw ⊢
  generalize hb : (chn t).2 = b at hn ⊢
  generalize hm : (chn t).1 = m at hn ⊢
  have HW := Aside0.mk hw
  have HN := Aside0.mk hn
  clear hw hn hb hm
  cases b
  · rw [if_neg (by decide)]
    go_enter Tryd.func88, Tryd.ntmps88
    go_wp2_with (first | (go_at_call 67; ((with_reducible refine (at_q h.rdr).mono ?_); rintro ev w' ⟨rfl, rfl⟩)) | (go_at_call 62; ((with_reducible refine (HW.out).mono ?_); rintro ev w' ⟨rfl, h⟩)) | (go_at_call 34; ((with_reducible refine (lms_Chains.calls t m false _ HN.out h.gok).mono ?_); rintro ev w' ⟨rfl, hd⟩; have h := h.drawn hd; clear hd)) | (go_at_call 63; ((with_reducible refine (lms_fail h 8 _).mono ?_); rintro ev w' ⟨rfl, h⟩)))
    go_ret2
    exact ⟨rfl, h⟩
  · rw [if_pos rfl]
    go_enter Tryd.func88, Tryd.ntmps88
    go_wp2_with (first | (go_at_call 67; ((with_reducible refine (at_q h.rdr).mono ?_); rintro ev w' ⟨rfl, rfl⟩)) | (go_at_call 62; ((with_reducible refine (HW.out).mono ?_); rintro ev w' ⟨rfl, h⟩)) | (go_at_call 34; ((with_reducible refine (lms_Chains.calls t m true _ HN.out h.gok).mono ?_); rintro ev w' ⟨rfl, hd⟩; have h := h.drawn hd; clear hd)))
    go_ret2
    exact ⟨rfl, h⟩
def lkey1 (l : List Int) (s : Nat × Option E) : Nat × Option E := if s.2.isNone = true then (lty chn l s).2 else s
def lkey2 (l : List Int) (s : Nat × Option E) : Nat × Option E := if s.2.isNone = true then lskip l 48 s else s
def lkey (l : List Int) (s : Nat × Option E) : Nat × Option E := lkey2 l (lkey1 l (lty hgt l s).2)
theorem err_isNil (W : World) (e : Option E) : (binOp .eql 28 (errW e) .nilIface).run Tryd.prog W = .ok (.bool e.isNone) W := by
  cases e with
  | none => kernel_rfl
  | some x => cases x <;> kernel_rfl
theorem err_notNil (W : World) (e : Option E) : (binOp .neq 28 (errW e) .nilIface).run Tryd.prog W = .ok (.bool e.isSome) W := by
  cases e with
  | none => kernel_rfl
  | some x => cases x <;> kernel_rfl
theorem err_guard (op : BinOp) (t : TypeId) (x : Operand) (e : Option E) : eqGuard op t x (.const .nilIface) (errW e) .nilIface = pure () := by
  cases e with
  | none => cases op <;> cases x <;> rfl
  | some y => cases y <;> cases op <;> rfl
set_option maxHeartbeats 1000000 in
theorem lms_key (h : LE w0 W gr g l p e F) :
    Calls Tryd.prog 65 #[.pointer (some ⟨gr, 0, none⟩)] W fun ev w' => ev = .returned (.tuple #[]) ∧ LE w0 w' gr g l (lkey l (p, e)).1 (lkey l (p, e)).2 F := by
  have q1 := err_isNil
  have q2 := err_guard
  have hA := Aside0.mk (lms_typedH h)
  unfold lkey
  generalize (lty hgt l (p, e)).2 = s1 at hA ⊢
  obtain ⟨p1, e1⟩ := s1
  dsimp only at hA
  cases he1 : e1.isNone
  · have k1 : lkey1 l (p1, e1) = (p1, e1) := by rw [lkey1, if_neg (by simp [he1])]
    have k2 : lkey2 l (p1, e1) = (p1, e1) := by rw [lkey2, if_neg (by simp [he1])]
    rw [k1, k2]
    clear k1 k2
    go_enter Tryd.func65, Tryd.ntmps65
    go_wp2_with (go_at_call 88; ((with_reducible refine (hA.out).mono ?_); rintro ev w' ⟨rfl, h⟩; have c2 := h.c2))
    go_end0
    exact ⟨rfl, h⟩
  · have k1 : lkey1 l (p1, e1) = (lty chn l (p1, e1)).2 := by rw [lkey1, if_pos (by simp [he1])]
    rw [k1]
    clear k1
    cases he2 : (lty chn l (p1, e1)).2.2.isNone
    · have k2 : lkey2 l (lty chn l (p1, e1)).2 = (lty chn l (p1, e1)).2 := by rw [lkey2, if_neg (by simp [he2])]
      rw [k2]
      clear k2
      go_enter Tryd.func65, Tryd.ntmps65
      go_wp2_with (first | (go_at_call 88; ((with_reducible refine (hA.out).mono ?_); rintro ev w' ⟨rfl, h⟩; have c2 := h.c2)) | (go_at_call 88; ((with_reducible refine (lms_typedC h).mono ?_); rintro ev w' ⟨rfl, h⟩; have c2 := h.c2)))
      go_end0
      exact ⟨rfl, h⟩
    · have k2 : lkey2 l (lty chn l (p1, e1)).2 = lskip l 48 (lty chn l (p1, e1)).2 := by rw [lkey2, if_pos (by simp [he2])]
      rw [k2]
      clear k2
      go_enter Tryd.func65, Tryd.ntmps65
      go_wp2_with (first | (go_at_call 88; ((with_reducible refine (hA.out).mono ?_); rintro ev w' ⟨rfl, h⟩; have c2 := h.c2)) | (go_at_call 88; ((with_reducible refine (lms_typedC h).mono ?_); rintro ev w' ⟨rfl, h⟩; have c2 := h.c2)) | (go_at_call 89; ((with_reducible refine (lms_skip h 48 48 rfl).mono ?_); rintro ev w' ⟨rfl, h⟩)))
      go_end0
      exact ⟨rfl, h⟩
end
section
variable {w0 W W' : World} {gr g : Nat} {l : List Int} {p p' : Nat} {e e' : Option E} {F : World → Prop}
theorem held5 {b t : Nat} {a0 a1 a2 a3 a4 : Value} (hb : W.heap[b]? = some (.cells #[a0, a1, a2, a3, a4] t (0, 0))) :
    W.cell? ⟨b, 0, none⟩ = some a0 ∧ W.cell? ⟨b, 1, none⟩ = some a1 ∧ W.cell? ⟨b, 2, none⟩ = some a2 ∧ W.cell? ⟨b, 3, none⟩ = some a3 ∧ W.cell? ⟨b, 4, none⟩ = some a4 ∧
    W.frozen? ⟨b, 0, none⟩ = false ∧ W.frozen? ⟨b, 1, none⟩ = false ∧ W.frozen? ⟨b, 2, none⟩ = false ∧ W.frozen? ⟨b, 3, none⟩ = false ∧ W.frozen? ⟨b, 4, none⟩ = false :=
  ⟨(blk_cell hb 0).trans rfl, (blk_cell hb 1).trans rfl, (blk_cell hb 2).trans rfl, (blk_cell hb 3).trans rfl, (blk_cell hb 4).trans rfl, blk_frozen hb 0, blk_frozen hb 1, blk_frozen hb 2, blk_frozen hb 3, blk_frozen hb 4⟩
def LP (w0 W : World) (gr g : Nat) (l : List Int) (p : Nat) (e : Option E) (F : World → Prop) (B b : Nat) (a0 a1 a2 a3 a4 : Value) : Prop :=
  LE w0 W gr g l p e (fun W' => (F W' ∧ W'.heap[b]? = some (.cells #[.int .i64 0, .int .i64 0, .int .u32 0, .int .i64 0, .int .i64 0] 70 (0, 0))) ∧ W'.heap[b + 1]? = some (.cells #[a0, a1, a2, a3, a4] 70 (0, 0))) ∧ Stab F B g gr ∧ B ≤ b ∧ b ≠ g ∧ b ≠ gr ∧ b + 1 ≠ g ∧ b + 1 ≠ gr ∧ w0.heap.size ≤ b
variable {B b : Nat} {a0 a1 a2 a3 a4 : Value}
theorem LP.start (h : LE w0 W gr g l p e F) : ∃ B, LP w0 ((W.alloc (.cells #[.int .i64 0, .int .i64 0, .int .u32 0, .int .i64 0, .int .i64 0] 70)).alloc (.cells #[.int .i64 0, .int .i64 0, .int .u32 0, .int .i64 (p : Int), .int .i64 0] 70)) gr g l p e F B W.heap.size (.int .i64 0) (.int .i64 0) (.int .u32 0) (.int .i64 (p : Int)) (.int .i64 0) := by
  obtain ⟨hl1, hl2⟩ := h.lt
  obtain ⟨B, hB, hS⟩ := h.fr
  have h0 := h.all.size
  have h1 := (h.below (below_alloc (Below.refl _ _) (.cells #[.int .i64 0, .int .i64 0, .int .u32 0, .int .i64 0, .int .i64 0] 70))).hold (blk_new W _) (by omega) (by omega)
  have h2 := (h1.below (below_alloc (Below.refl _ _) (.cells #[.int .i64 0, .int .i64 0, .int .u32 0, .int .i64 (p : Int), .int .i64 0] 70))).hold (b := W.heap.size + 1) (by have h3 := blk_new (W.alloc (.cells #[.int .i64 0, .int .i64 0, .int .u32 0, .int .i64 0, .int .i64 0] 70)) (.cells #[.int .i64 0, .int .i64 0, .int .u32 0, .int .i64 (p : Int), .int .i64 0] 70); rw [show W.heap.size + 1 = (W.alloc (.cells #[.int .i64 0, .int .i64 0, .int .u32 0, .int .i64 0, .int .i64 0] 70)).heap.size by simp]; exact h3) (by omega) (by omega)
  exact ⟨B, h2, hS, hB, by omega, by omega, by omega, by omega, h0⟩
theorem LP.le (h : LP w0 W gr g l p e F B b a0 a1 a2 a3 a4) : LE w0 W gr g l p e (fun W' => (F W' ∧ W'.heap[b]? = some (.cells #[.int .i64 0, .int .i64 0, .int .u32 0, .int .i64 0, .int .i64 0] 70 (0, 0))) ∧ W'.heap[b + 1]? = some (.cells #[a0, a1, a2, a3, a4] 70 (0, 0))) := h.1
theorem LP.mv (h : LP w0 W gr g l p e F B b a0 a1 a2 a3 a4) {q : Nat} {e1 : Option E} (h' : LE w0 W' gr g l q e1 (fun W' => (F W' ∧ W'.heap[b]? = some (.cells #[.int .i64 0, .int .i64 0, .int .u32 0, .int .i64 0, .int .i64 0] 70 (0, 0))) ∧ W'.heap[b + 1]? = some (.cells #[a0, a1, a2, a3, a4] 70 (0, 0)))) : LP w0 W' gr g l q e1 F B b a0 a1 a2 a3 a4 := ⟨h', h.2⟩
theorem LP.set2 (h : LP w0 W gr g l p e F B b a0 a1 a2 a3 a4) (u : Value) : LP w0 (W.setCell ⟨b + 1, 2, none⟩ u) gr g l p e F B b a0 a1 u a3 a4 := by
  obtain ⟨h1, h2, h3, h4, h5, h6, h7, h8⟩ := h
  exact ⟨h1.setp (Stab.and h2 _ h3 h4 h5) (Nat.le_refl _) (by decide) h6 h7 (by omega) 2 u, h2, h3, h4, h5, h6, h7, h8⟩
theorem LP.set1 (h : LP w0 W gr g l p e F B b a0 a1 a2 a3 a4) (u : Value) : LP w0 (W.setCell ⟨b + 1, 1, none⟩ u) gr g l p e F B b a0 u a2 a3 a4 := by
  obtain ⟨h1, h2, h3, h4, h5, h6, h7, h8⟩ := h
  exact ⟨h1.setp (Stab.and h2 _ h3 h4 h5) (Nat.le_refl _) (by decide) h6 h7 (by omega) 1 u, h2, h3, h4, h5, h6, h7, h8⟩
theorem LP.set0 (h : LP w0 W gr g l p e F B b a0 a1 a2 a3 a4) (u : Value) : LP w0 (W.setCell ⟨b + 1, 0, none⟩ u) gr g l p e F B b u a1 a2 a3 a4 := by
  obtain ⟨h1, h2, h3, h4, h5, h6, h7, h8⟩ := h
  exact ⟨h1.setp (Stab.and h2 _ h3 h4 h5) (Nat.le_refl _) (by decide) h6 h7 (by omega) 0 u, h2, h3, h4, h5, h6, h7, h8⟩
theorem LP.set4 (h : LP w0 W gr g l p e F B b a0 a1 a2 a3 a4) (u : Value) : LP w0 (W.setCell ⟨b + 1, 4, none⟩ u) gr g l p e F B b a0 a1 a2 a3 u := by
  obtain ⟨h1, h2, h3, h4, h5, h6, h7, h8⟩ := h
  exact ⟨h1.setp (Stab.and h2 _ h3 h4 h5) (Nat.le_refl _) (by decide) h6 h7 (by omega) 4 u, h2, h3, h4, h5, h6, h7, h8⟩
theorem LP.facts (h : LP w0 W gr g l p e F B b a0 a1 a2 a3 a4) :
    W.cell? ⟨gr, 0, none⟩ = some (.pointer (some ⟨g, 0, none⟩)) ∧ W.cell? ⟨gr, 2, none⟩ = some (errW e) ∧
    W.cell? ⟨b + 1, 0, none⟩ = some a0 ∧ W.cell? ⟨b + 1, 1, none⟩ = some a1 ∧ W.cell? ⟨b + 1, 2, none⟩ = some a2 ∧ W.cell? ⟨b + 1, 3, none⟩ = some a3 ∧ W.cell? ⟨b + 1, 4, none⟩ = some a4 ∧
    W.frozen? ⟨b + 1, 0, none⟩ = false ∧ W.frozen? ⟨b + 1, 1, none⟩ = false ∧ W.frozen? ⟨b + 1, 2, none⟩ = false ∧ W.frozen? ⟨b + 1, 3, none⟩ = false ∧ W.frozen? ⟨b + 1, 4, none⟩ = false := ⟨h.1.c0, h.1.c2, held5 h.1.inv.2⟩
theorem LP.drew (h : LP w0 W gr g l p e F B b a0 a1 a2 a3 a4) : LP w0 W.drew gr g l p e F B b a0 a1 a2 a3 a4 := ⟨h.1.below (below_drew (Below.refl _ _)), h.2⟩
theorem LP.zero (h : LP w0 W gr g l p e F B b a0 a1 a2 a3 a4) : W.heap[b]? = some (.cells #[.int .i64 0, .int .i64 0, .int .u32 0, .int .i64 0, .int .i64 0] 70 (0, 0)) := h.1.inv.1.2
theorem LP.done (h : LP w0 W gr g l p e F B b a0 a1 a2 a3 a4) (cs : List Value) : LE w0 W gr g l p e F := by
  obtain ⟨h1, h2, h3, h4, h5, h6, h7, h8⟩ := h
  have hz := blk_lt h1.inv.1.2
  exact (h1.drop (B := b + 1) (by omega) (Stab.and h2 _ h3 h4 h5)).drop (B := B) (by omega) h2
theorem LP.ret (h : LP w0 W gr g l p e F B b a0 a1 a2 a3 a4) (u0 u1 u2 u3 u4 : Value) :
    LE w0 (((((W.setCell ⟨b, 0, none⟩ u0).setCell ⟨b, 1, none⟩ u1).setCell ⟨b, 2, none⟩ u2).setCell ⟨b, 3, none⟩ u3).setCell ⟨b, 4, none⟩ u4) gr g l p e F ∧
    (((((W.setCell ⟨b, 0, none⟩ u0).setCell ⟨b, 1, none⟩ u1).setCell ⟨b, 2, none⟩ u2).setCell ⟨b, 3, none⟩ u3).setCell ⟨b, 4, none⟩ u4).heap[b]? = some (.cells #[u0, u1, u2, u3, u4] 70 (0, 0)) := by
  obtain ⟨h1, h2, h3, h4, h5, h6, h7, h8⟩ := h
  have hz := blk_lt h1.inv.1.2
  have k0 := h1.drop (B := b + 1) (by omega) (Stab.and h2 _ h3 h4 h5)
  have k1 := k0.setp h2 h3 (by decide) h4 h5 h8 0 u0
  have k2 := k1.setp h2 h3 (by decide) h4 h5 h8 1 u1
  have k3 := k2.setp h2 h3 (by decide) h4 h5 h8 2 u2
  have k4 := k3.setp h2 h3 (by decide) h4 h5 h8 3 u3
  have k5 := k4.setp h2 h3 (by decide) h4 h5 h8 4 u4
  exact ⟨k5.drop (B := B) (by simp; omega) h2, k5.inv.2⟩
end
section
variable {w0 W W' : World} {gr g : Nat} {l : List Int} {p p' : Nat} {e e' : Option E} {F : World → Prop}
set_option maxHeartbeats 4000000 in
set_option maxRecDepth 100000 in
theorem lms_sig1 (h : LE w0 W gr g l p e F) (q : Int) (p1 : Nat) (e1 : Option E) (hw : lw l (p, e) = (q, p1, e1)) (he : e1.isSome = true) :
    Calls Tryd.prog 64 #[.pointer (some ⟨gr, 0, none⟩)] W fun ev w' => ev = .returned (.agg #[.int .i64 0, .int .i64 0, .int .u32 q, .int .i64 (p : Int), .int .i64 0]) ∧ LE w0 w' gr g l p1 e1 F := by
  have q1 := err_notNil
  have q2 := err_guard
  have q3 := err_isNil
  obtain ⟨hl1, hl2⟩ := h.lt
  have h1 := h.below (below_alloc (Below.refl _ _) (.cells #[.int .i64 0, .int .i64 0, .int .u32 0, .int .i64 0, .int .i64 0] 70))
  obtain ⟨B, hp⟩ := LP.start h
  have c0 := h1.c0
  have W1 := lms_word hp.1
  rw [hw] at W1
  dsimp only at W1
  have HW := Aside0.mk W1
  clear W1 hw
  go_enter Tryd.func64, Tryd.ntmps64
  go_wp2_with (first | (go_at_call 67; ((with_reducible refine (at_q h1.rdr).mono ?_); rintro ev w' ⟨rfl, rfl⟩)) | (go_at_call 62; ((with_reducible refine (HW.out).mono ?_); rintro ev w' ⟨rfl, h'⟩; have hp := hp.mv h'; obtain ⟨c0, c2, x0, x1, x2, x3, x4, y0, y1, y2, y3, y4⟩ := hp.facts; obtain ⟨z0, z1, z2, z3, z4, v0, v1, v2, v3, v4⟩ := held5 hp.zero; have hp := hp.set2 (.int .u32 q); obtain ⟨c0, c2, x0, x1, x2, x3, x4, y0, y1, y2, y3, y4⟩ := hp.facts; obtain ⟨z0, z1, z2, z3, z4, v0, v1, v2, v3, v4⟩ := held5 hp.zero)))
  obtain ⟨hL, hR⟩ := hp.ret (.int .i64 0) (.int .i64 0) (.int .u32 q) (.int .i64 (p : Int)) (.int .i64 0)
  refine bodyPost_ret (v := .agg #[.int .i64 0, .int .i64 0, .int .u32 q, .int .i64 (p : Int), .int .i64 0]) ?_ rfl ⟨rfl, hL⟩
  have d5 := held5 hR
  simp [results, Tryd.results64, go_sem, d5]
set_option maxHeartbeats 4000000 in
set_option maxRecDepth 100000 in
theorem lms_sig2 (h : LE w0 W gr g l p e F) (q : Int) (p1 : Nat) (hw : lw l (p, e) = (q, p1, none)) (t c : Int) (p2 : Nat) (e2 : Option E) (hC : lty chn l (p1, none) = ((t, c), p2, e2)) (he : e2.isSome = true) :
    Calls Tryd.prog 64 #[.pointer (some ⟨gr, 0, none⟩)] W fun ev w' => ev = .returned (.agg #[.int .i64 0, .int .i64 0, .int .u32 q, .int .i64 (p : Int), .int .i64 0]) ∧ LE w0 w' gr g l p2 e2 F := by
  have he' : e2.isNone = false := by cases e2 <;> simp_all
  have HC := Aside0.mk hC
  clear hC
  have q1 := err_notNil
  have q2 := err_guard
  have q3 := err_isNil
  obtain ⟨hl1, hl2⟩ := h.lt
  have h1 := h.below (below_alloc (Below.refl _ _) (.cells #[.int .i64 0, .int .i64 0, .int .u32 0, .int .i64 0, .int .i64 0] 70))
  obtain ⟨B, hp⟩ := LP.start h
  have c0 := h1.c0
  have W1 := lms_word hp.1
  rw [hw] at W1
  dsimp only at W1
  have HW := Aside0.mk W1
  clear W1 hw
  go_enter Tryd.func64, Tryd.ntmps64
  go_wp2_with (first | (go_at_call 67; ((with_reducible refine (at_q h1.rdr).mono ?_); rintro ev w' ⟨rfl, rfl⟩)) | (go_at_call 62; ((with_reducible refine (HW.out).mono ?_); rintro ev w' ⟨rfl, h'⟩; have hp := hp.mv h'; obtain ⟨c0, c2, x0, x1, x2, x3, x4, y0, y1, y2, y3, y4⟩ := hp.facts; obtain ⟨z0, z1, z2, z3, z4, v0, v1, v2, v3, v4⟩ := held5 hp.zero; have hp := hp.set2 (.int .u32 q); obtain ⟨c0, c2, x0, x1, x2, x3, x4, y0, y1, y2, y3, y4⟩ := hp.facts; obtain ⟨z0, z1, z2, z3, z4, v0, v1, v2, v3, v4⟩ := held5 hp.zero)) | (go_at_call 88; have T := lms_typedC hp.1; rw [HC.out] at T; dsimp only at T; ((with_reducible refine T.mono ?_); rintro ev w' ⟨rfl, h'⟩; clear T; have hp := hp.mv h'; obtain ⟨c0, c2, x0, x1, x2, x3, x4, y0, y1, y2, y3, y4⟩ := hp.facts; obtain ⟨z0, z1, z2, z3, z4, v0, v1, v2, v3, v4⟩ := held5 hp.zero)))
  obtain ⟨hL, hR⟩ := hp.ret (.int .i64 0) (.int .i64 0) (.int .u32 q) (.int .i64 (p : Int)) (.int .i64 0)
  refine bodyPost_ret (v := .agg #[.int .i64 0, .int .i64 0, .int .u32 q, .int .i64 (p : Int), .int .i64 0]) ?_ rfl ⟨rfl, hL⟩
  have d5 := held5 hR
  simp [results, Tryd.results64, go_sem, d5]
set_option maxHeartbeats 4000000 in
set_option maxRecDepth 100000 in
theorem lms_sig3 (h : LE w0 W gr g l p e F) (q : Int) (p1 : Nat) (hw : lw l (p, e) = (q, p1, none)) (t c : Int) (p2 : Nat) (hC : lty chn l (p1, none) = ((t, c), p2, none)) (hc0 : 0 ≤ c) (hc1 : c ≤ 265) (m2 : Nat) (hm2 : (m2 : Int) = 32 * (1 + c)) (p3 : Nat) (e3 : Option E) (hS1 : lskip l m2 (p2, none) = (p3, e3)) (he : e3.isSome = true) :
    Calls Tryd.prog 64 #[.pointer (some ⟨gr, 0, none⟩)] W fun ev w' => ev = .returned (.agg #[.int .i64 0, .int .i64 0, .int .u32 q, .int .i64 (p : Int), .int .i64 0]) ∧ LE w0 w' gr g l p3 e3 F := by
  have HC := Aside0.mk hC
  clear hC
  have HS1 := Aside0.mk hS1
  clear hS1
  have hm2a : (m2 : Int) ≤ 32 * (1 + c) := by omega
  have hm2b : 32 * (1 + c) ≤ (m2 : Int) := by omega
  clear hm2
  have q1 := err_notNil
  have q2 := err_guard
  have q3 := err_isNil
  obtain ⟨hl1, hl2⟩ := h.lt
  have h1 := h.below (below_alloc (Below.refl _ _) (.cells #[.int .i64 0, .int .i64 0, .int .u32 0, .int .i64 0, .int .i64 0] 70))
  obtain ⟨B, hp⟩ := LP.start h
  have c0 := h1.c0
  have W1 := lms_word hp.1
  rw [hw] at W1
  dsimp only at W1
  have HW := Aside0.mk W1
  clear W1 hw
  go_enter Tryd.func64, Tryd.ntmps64
  go_wp2_with (first | (go_at_call 67; ((with_reducible refine (at_q h1.rdr).mono ?_); rintro ev w' ⟨rfl, rfl⟩)) | (go_at_call 62; ((with_reducible refine (HW.out).mono ?_); rintro ev w' ⟨rfl, h'⟩; have hp := hp.mv h'; obtain ⟨c0, c2, x0, x1, x2, x3, x4, y0, y1, y2, y3, y4⟩ := hp.facts; obtain ⟨z0, z1, z2, z3, z4, v0, v1, v2, v3, v4⟩ := held5 hp.zero; have hp := hp.set2 (.int .u32 q); obtain ⟨c0, c2, x0, x1, x2, x3, x4, y0, y1, y2, y3, y4⟩ := hp.facts; obtain ⟨z0, z1, z2, z3, z4, v0, v1, v2, v3, v4⟩ := held5 hp.zero)) | (go_at_call 88; have T := lms_typedC hp.1; rw [HC.out] at T; dsimp only at T; ((with_reducible refine T.mono ?_); rintro ev w' ⟨rfl, h'⟩; clear T; have hp := hp.mv h'; obtain ⟨c0, c2, x0, x1, x2, x3, x4, y0, y1, y2, y3, y4⟩ := hp.facts; obtain ⟨z0, z1, z2, z3, z4, v0, v1, v2, v3, v4⟩ := held5 hp.zero)) | (go_at_call 89; have T := lms_skip hp.1 (32 * (1 + c)) m2 (by omega); rw [HS1.out] at T; dsimp only at T; ((with_reducible refine T.mono ?_); rintro ev w' ⟨rfl, h'⟩; clear T; have hp := hp.mv h'; obtain ⟨c0, c2, x0, x1, x2, x3, x4, y0, y1, y2, y3, y4⟩ := hp.facts; obtain ⟨z0, z1, z2, z3, z4, v0, v1, v2, v3, v4⟩ := held5 hp.zero)))
  obtain ⟨hL, hR⟩ := hp.ret (.int .i64 0) (.int .i64 0) (.int .u32 q) (.int .i64 (p : Int)) (.int .i64 0)
  refine bodyPost_ret (v := .agg #[.int .i64 0, .int .i64 0, .int .u32 q, .int .i64 (p : Int), .int .i64 0]) ?_ rfl ⟨rfl, hL⟩
  have d5 := held5 hR
  simp [results, Tryd.results64, go_sem, d5]
set_option maxHeartbeats 4000000 in
set_option maxRecDepth 100000 in
theorem lms_sig4 (h : LE w0 W gr g l p e F) (q : Int) (p1 : Nat) (hw : lw l (p, e) = (q, p1, none)) (t c : Int) (p2 : Nat) (hC : lty chn l (p1, none) = ((t, c), p2, none)) (hc0 : 0 ≤ c) (hc1 : c ≤ 265) (m2 : Nat) (hm2 : (m2 : Int) = 32 * (1 + c)) (p3 : Nat) (hS1 : lskip l m2 (p2, none) = (p3, none)) (u hh : Int) (p4 : Nat) (e4 : Option E) (hH : lty hgt l (p3, none) = ((u, hh), p4, e4)) (he : e4.isSome = true) :
    Calls Tryd.prog 64 #[.pointer (some ⟨gr, 0, none⟩)] W fun ev w' => ev = .returned (.agg #[.int .i64 0, .int .i64 0, .int .u32 q, .int .i64 (p : Int), .int .i64 0]) ∧ LE w0 w' gr g l p4 e4 F := by
  have HC := Aside0.mk hC
  clear hC
  have HS1 := Aside0.mk hS1
  clear hS1
  have hm2a : (m2 : Int) ≤ 32 * (1 + c) := by omega
  have hm2b : 32 * (1 + c) ≤ (m2 : Int) := by omega
  clear hm2
  have HH := Aside0.mk hH
  clear hH
  have q1 := err_notNil
  have q2 := err_guard
  have q3 := err_isNil
  obtain ⟨hl1, hl2⟩ := h.lt
  have h1 := h.below (below_alloc (Below.refl _ _) (.cells #[.int .i64 0, .int .i64 0, .int .u32 0, .int .i64 0, .int .i64 0] 70))
  obtain ⟨B, hp⟩ := LP.start h
  have c0 := h1.c0
  have W1 := lms_word hp.1
  rw [hw] at W1
  dsimp only at W1
  have HW := Aside0.mk W1
  clear W1 hw
  go_enter Tryd.func64, Tryd.ntmps64
  go_wp2_with (first | (go_at_call 67; ((with_reducible refine (at_q h1.rdr).mono ?_); rintro ev w' ⟨rfl, rfl⟩)) | (go_at_call 62; ((with_reducible refine (HW.out).mono ?_); rintro ev w' ⟨rfl, h'⟩; have hp := hp.mv h'; obtain ⟨c0, c2, x0, x1, x2, x3, x4, y0, y1, y2, y3, y4⟩ := hp.facts; obtain ⟨z0, z1, z2, z3, z4, v0, v1, v2, v3, v4⟩ := held5 hp.zero; have hp := hp.set2 (.int .u32 q); obtain ⟨c0, c2, x0, x1, x2, x3, x4, y0, y1, y2, y3, y4⟩ := hp.facts; obtain ⟨z0, z1, z2, z3, z4, v0, v1, v2, v3, v4⟩ := held5 hp.zero)) | (go_at_call 88; have T := lms_typedC hp.1; rw [HC.out] at T; dsimp only at T; ((with_reducible refine T.mono ?_); rintro ev w' ⟨rfl, h'⟩; clear T; have hp := hp.mv h'; obtain ⟨c0, c2, x0, x1, x2, x3, x4, y0, y1, y2, y3, y4⟩ := hp.facts; obtain ⟨z0, z1, z2, z3, z4, v0, v1, v2, v3, v4⟩ := held5 hp.zero)) | (go_at_call 89; have T := lms_skip hp.1 (32 * (1 + c)) m2 (by omega); rw [HS1.out] at T; dsimp only at T; ((with_reducible refine T.mono ?_); rintro ev w' ⟨rfl, h'⟩; clear T; have hp := hp.mv h'; obtain ⟨c0, c2, x0, x1, x2, x3, x4, y0, y1, y2, y3, y4⟩ := hp.facts; obtain ⟨z0, z1, z2, z3, z4, v0, v1, v2, v3, v4⟩ := held5 hp.zero)) | (go_at_call 88; have T := lms_typedH hp.1; rw [HH.out] at T; dsimp only at T; ((with_reducible refine T.mono ?_); rintro ev w' ⟨rfl, h'⟩; clear T; have hp := hp.mv h'; obtain ⟨c0, c2, x0, x1, x2, x3, x4, y0, y1, y2, y3, y4⟩ := hp.facts; obtain ⟨z0, z1, z2, z3, z4, v0, v1, v2, v3, v4⟩ := held5 hp.zero)))
  obtain ⟨hL, hR⟩ := hp.ret (.int .i64 0) (.int .i64 0) (.int .u32 q) (.int .i64 (p : Int)) (.int .i64 0)
  refine bodyPost_ret (v := .agg #[.int .i64 0, .int .i64 0, .int .u32 q, .int .i64 (p : Int), .int .i64 0]) ?_ rfl ⟨rfl, hL⟩
  have d5 := held5 hR
  simp [results, Tryd.results64, go_sem, d5]
set_option maxHeartbeats 4000000 in
set_option maxRecDepth 100000 in
theorem lms_sig5 (h : LE w0 W gr g l p e F) (q : Int) (p1 : Nat) (hw : lw l (p, e) = (q, p1, none)) (t c : Int) (p2 : Nat) (hC : lty chn l (p1, none) = ((t, c), p2, none)) (hc0 : 0 ≤ c) (hc1 : c ≤ 265) (m2 : Nat) (hm2 : (m2 : Int) = 32 * (1 + c)) (p3 : Nat) (hS1 : lskip l m2 (p2, none) = (p3, none)) (u hh : Int) (p4 : Nat) (hH : lty hgt l (p3, none) = ((u, hh), p4, none)) (hh0 : 0 ≤ hh) (hh1 : hh ≤ 25) (hq0 : 0 ≤ q) (hq1 : q < 4294967296) (hq : 0 < q / 2 ^ hh.toNat) :
    Calls Tryd.prog 64 #[.pointer (some ⟨gr, 0, none⟩)] W fun ev w' => ev = .returned (.agg #[.int .i64 0, .int .i64 0, .int .u32 q, .int .i64 (p : Int), .int .i64 0]) ∧ LE w0 w' gr g l p4 (some (.fault 9 p)) F := by
  have HC := Aside0.mk hC
  clear hC
  have HS1 := Aside0.mk hS1
  clear hS1
  have hm2a : (m2 : Int) ≤ 32 * (1 + c) := by omega
  have hm2b : 32 * (1 + c) ≤ (m2 : Int) := by omega
  clear hm2
  have HH := Aside0.mk hH
  clear hH
  have q1 := err_notNil
  have q2 := err_guard
  have q3 := err_isNil
  obtain ⟨hl1, hl2⟩ := h.lt
  have h1 := h.below (below_alloc (Below.refl _ _) (.cells #[.int .i64 0, .int .i64 0, .int .u32 0, .int .i64 0, .int .i64 0] 70))
  obtain ⟨B, hp⟩ := LP.start h
  have c0 := h1.c0
  have W1 := lms_word hp.1
  rw [hw] at W1
  dsimp only at W1
  have HW := Aside0.mk W1
  clear W1 hw
  go_enter Tryd.func64, Tryd.ntmps64
  go_wp2_with (first | (go_at_call 67; ((with_reducible refine (at_q h1.rdr).mono ?_); rintro ev w' ⟨rfl, rfl⟩)) | (go_at_call 62; ((with_reducible refine (HW.out).mono ?_); rintro ev w' ⟨rfl, h'⟩; have hp := hp.mv h'; obtain ⟨c0, c2, x0, x1, x2, x3, x4, y0, y1, y2, y3, y4⟩ := hp.facts; obtain ⟨z0, z1, z2, z3, z4, v0, v1, v2, v3, v4⟩ := held5 hp.zero; have hp := hp.set2 (.int .u32 q); obtain ⟨c0, c2, x0, x1, x2, x3, x4, y0, y1, y2, y3, y4⟩ := hp.facts; obtain ⟨z0, z1, z2, z3, z4, v0, v1, v2, v3, v4⟩ := held5 hp.zero)) | (go_at_call 88; have T := lms_typedC hp.1; rw [HC.out] at T; dsimp only at T; ((with_reducible refine T.mono ?_); rintro ev w' ⟨rfl, h'⟩; clear T; have hp := hp.mv h'; obtain ⟨c0, c2, x0, x1, x2, x3, x4, y0, y1, y2, y3, y4⟩ := hp.facts; obtain ⟨z0, z1, z2, z3, z4, v0, v1, v2, v3, v4⟩ := held5 hp.zero)) | (go_at_call 89; have T := lms_skip hp.1 (32 * (1 + c)) m2 (by omega); rw [HS1.out] at T; dsimp only at T; ((with_reducible refine T.mono ?_); rintro ev w' ⟨rfl, h'⟩; clear T; have hp := hp.mv h'; obtain ⟨c0, c2, x0, x1, x2, x3, x4, y0, y1, y2, y3, y4⟩ := hp.facts; obtain ⟨z0, z1, z2, z3, z4, v0, v1, v2, v3, v4⟩ := held5 hp.zero)) | (go_at_call 88; have T := lms_typedH hp.1; rw [HH.out] at T; dsimp only at T; ((with_reducible refine T.mono ?_); rintro ev w' ⟨rfl, h'⟩; clear T; have hp := hp.mv h'; obtain ⟨c0, c2, x0, x1, x2, x3, x4, y0, y1, y2, y3, y4⟩ := hp.facts; obtain ⟨z0, z1, z2, z3, z4, v0, v1, v2, v3, v4⟩ := held5 hp.zero)) | (go_at_call 63; ((with_reducible refine (lms_fail hp.le 9 p).mono ?_); rintro ev w' ⟨rfl, h'⟩; have hp := hp.mv h'; obtain ⟨c0, c2, x0, x1, x2, x3, x4, y0, y1, y2, y3, y4⟩ := hp.facts; obtain ⟨z0, z1, z2, z3, z4, v0, v1, v2, v3, v4⟩ := held5 hp.zero)))
  obtain ⟨hL, hR⟩ := hp.ret (.int .i64 0) (.int .i64 0) (.int .u32 q) (.int .i64 (p : Int)) (.int .i64 0)
  refine bodyPost_ret (v := .agg #[.int .i64 0, .int .i64 0, .int .u32 q, .int .i64 (p : Int), .int .i64 0]) ?_ rfl ⟨rfl, hL⟩
  have d5 := held5 hR
  simp [results, Tryd.results64, go_sem, d5]
end
section
theorem i64_in_ (n : Int) (h : -9223372036854775808 ≤ n ∧ n ≤ 9223372036854775807) : IntKind.i64.wrap n = n := by rw [IntKind.wrap_i64]; omega
theorem at_cell {w0 w : World} {g : Nat} {l : List Int} {p : Nat} (h : RD w0 w g l p) : w.cell? ⟨g, 1, none⟩ = some (.int .i64 (p : Int)) := by
  obtain ⟨A, c, h1, _⟩ := h
  exact (blk_cell h1 1).trans rfl
theorem at_c (g : Nat) (p : Int) (w : World) (c1 : w.cell? ⟨g, 1, none⟩ = some (.int .i64 p)) :
    Calls Tryd.prog 67 #[.pointer (some ⟨g, 0, none⟩)] w fun e w' => e = .returned (.int .i64 p) ∧ w' = w := by
  go_enter Tryd.func67, Tryd.ntmps67
  go_wp2
  go_ret
  exact ⟨rfl, rfl⟩
variable {w0 W W' : World} {gr g : Nat} {l : List Int} {p p' : Nat} {e e' : Option E} {F : World → Prop}
set_option maxHeartbeats 4000000 in
set_option maxRecDepth 100000 in
theorem lms_sig6 (h : LE w0 W gr g l p e F) (q : Int) (p1 : Nat) (hw : lw l (p, e) = (q, p1, none)) (t c : Int) (p2 : Nat) (hC : lty chn l (p1, none) = ((t, c), p2, none)) (hc0 : 0 ≤ c) (hc1 : c ≤ 265) (m2 : Nat) (hm2 : (m2 : Int) = 32 * (1 + c)) (p3 : Nat) (hS1 : lskip l m2 (p2, none) = (p3, none)) (u hh : Int) (p4 : Nat) (hH : lty hgt l (p3, none) = ((u, hh), p4, none)) (hh0 : 0 ≤ hh) (hh1 : hh ≤ 25) (hq0 : 0 ≤ q) (hq1 : q < 4294967296) (m5 : Nat) (hm5 : (m5 : Int) = 32 * hh) (p5 : Nat) (e5 : Option E) (hS2 : lskip l m5 (p4, none) = (p5, e5)) (hp5 : p ≤ p5) (hp6 : p5 < 1000000000000) (ht0 : 0 ≤ t) (ht1 : t < 4294967296) (hu0 : 0 ≤ u) (hu1 : u < 4294967296) (hq : q / 2 ^ hh.toNat = 0) :
    Calls Tryd.prog 64 #[.pointer (some ⟨gr, 0, none⟩)] W fun ev w' => ev = .returned (.agg #[.int .i64 u, .int .i64 t, .int .u32 q, .int .i64 (p : Int), .int .i64 ((p5 : Int) - (p : Int))]) ∧ LE w0 w' gr g l p5 e5 F := by
  have HC := Aside0.mk hC
  clear hC
  have HS1 := Aside0.mk hS1
  clear hS1
  have hm2a : (m2 : Int) ≤ 32 * (1 + c) := by omega
  have hm2b : 32 * (1 + c) ≤ (m2 : Int) := by omega
  clear hm2
  have HH := Aside0.mk hH
  clear hH
  have HS2 := Aside0.mk hS2
  clear hS2
  have hm5a : (m5 : Int) ≤ 32 * hh := by omega
  have hm5b : 32 * hh ≤ (m5 : Int) := by omega
  clear hm5
  have q1 := err_notNil
  have q2 := err_guard
  have q3 := err_isNil
  obtain ⟨hl1, hl2⟩ := h.lt
  have h1 := h.below (below_alloc (Below.refl _ _) (.cells #[.int .i64 0, .int .i64 0, .int .u32 0, .int .i64 0, .int .i64 0] 70))
  obtain ⟨B, hp⟩ := LP.start h
  have c0 := h1.c0
  have W1 := lms_word hp.1
  rw [hw] at W1
  dsimp only at W1
  have HW := Aside0.mk W1
  clear W1 hw
  go_enter Tryd.func64, Tryd.ntmps64
  go_wp2_with (first | (go_at_call 67; ((with_reducible refine (at_q h1.rdr).mono ?_); rintro ev w' ⟨rfl, rfl⟩)) | (go_at_call 62; ((with_reducible refine (HW.out).mono ?_); rintro ev w' ⟨rfl, h'⟩; have hp := hp.mv h'; obtain ⟨c0, c2, x0, x1, x2, x3, x4, y0, y1, y2, y3, y4⟩ := hp.facts; obtain ⟨z0, z1, z2, z3, z4, v0, v1, v2, v3, v4⟩ := held5 hp.zero; have hp := hp.set2 (.int .u32 q); obtain ⟨c0, c2, x0, x1, x2, x3, x4, y0, y1, y2, y3, y4⟩ := hp.facts; obtain ⟨z0, z1, z2, z3, z4, v0, v1, v2, v3, v4⟩ := held5 hp.zero)) | (go_at_call 88; have T := lms_typedC hp.1; rw [HC.out] at T; dsimp only at T; ((with_reducible refine T.mono ?_); rintro ev w' ⟨rfl, h'⟩; clear T; have hp := hp.mv h'; obtain ⟨c0, c2, x0, x1, x2, x3, x4, y0, y1, y2, y3, y4⟩ := hp.facts; obtain ⟨z0, z1, z2, z3, z4, v0, v1, v2, v3, v4⟩ := held5 hp.zero)) | (go_at_call 89; have T := lms_skip hp.1 (32 * (1 + c)) m2 (by omega); rw [HS1.out] at T; dsimp only at T; ((with_reducible refine T.mono ?_); rintro ev w' ⟨rfl, h'⟩; clear T; have hp := hp.mv h'; obtain ⟨c0, c2, x0, x1, x2, x3, x4, y0, y1, y2, y3, y4⟩ := hp.facts; obtain ⟨z0, z1, z2, z3, z4, v0, v1, v2, v3, v4⟩ := held5 hp.zero)) | (go_at_call 88; have T := lms_typedH hp.1; rw [HH.out] at T; dsimp only at T; ((with_reducible refine T.mono ?_); rintro ev w' ⟨rfl, h'⟩; clear T; have hp := hp.mv h'; obtain ⟨c0, c2, x0, x1, x2, x3, x4, y0, y1, y2, y3, y4⟩ := hp.facts; obtain ⟨z0, z1, z2, z3, z4, v0, v1, v2, v3, v4⟩ := held5 hp.zero)) | (go_at_call 89; have T := lms_skip hp.1 (32 * hh) m5 (by omega); rw [HS2.out] at T; dsimp only at T; ((with_reducible refine T.mono ?_); rintro ev w' ⟨rfl, h'⟩; clear T; have hp := hp.mv h'; obtain ⟨c0, c2, x0, x1, x2, x3, x4, y0, y1, y2, y3, y4⟩ := hp.facts; obtain ⟨z0, z1, z2, z3, z4, v0, v1, v2, v3, v4⟩ := held5 hp.zero)) | (go_at_call 67; ((with_reducible refine (at_q hp.le.rdr).mono ?_); rintro ev w' ⟨rfl, rfl⟩)))
  have E1 := i64_in_ t (by omega)
  have E2 := i64_in_ u (by omega)
  have E3 := i64_in_ ((p5 : Int) - (p : Int)) (by omega)
  have G1 := at_cell hp.le.rdr
  have G2 := hp.2.2.2.2.2.2.1
  go_region_with (go_at_call 67; ((with_reducible refine (at_c g p5 _ ?hq).mono ?_); (case hq => first | exact G1 | (simp [G1, G2]; done)); rintro ev w2 ⟨rfl, rfl⟩))
  all_goals
    have hp := (((hp.set1 (.int .i64 t)).set0 (.int .i64 u)).set4 (.int .i64 ((p5 : Int) - (p : Int)))).drew
    (try rw [E1, E2, E3])
    obtain ⟨w9, hw9⟩ : ∃ w9, w9 = (((w'.setCell ⟨W.heap.size + 1, 1, none⟩ (.int .i64 t)).setCell ⟨W.heap.size + 1, 0, none⟩ (.int .i64 u)).setCell ⟨W.heap.size + 1, 4, none⟩ (.int .i64 ((p5 : Int) - (p : Int)))).drew := ⟨_, rfl⟩
    rw [← hw9] at hp ⊢
    clear hw9
    obtain ⟨c0, c2, x0, x1, x2, x3, x4, y0, y1, y2, y3, y4⟩ := hp.facts
    obtain ⟨z0, z1, z2, z3, z4, v0, v1, v2, v3, v4⟩ := held5 hp.zero
    go_wp2
    obtain ⟨hL, hR⟩ := hp.ret (.int .i64 u) (.int .i64 t) (.int .u32 q) (.int .i64 (p : Int)) (.int .i64 ((p5 : Int) - (p : Int)))
    refine bodyPost_ret (v := .agg #[.int .i64 u, .int .i64 t, .int .u32 q, .int .i64 (p : Int), .int .i64 ((p5 : Int) - (p : Int))]) ?_ rfl ⟨rfl, hL⟩
    have d5 := held5 hR
    simp [results, Tryd.results64, go_sem, d5]
end
section
variable {w0 W W' : World} {gr g : Nat} {l : List Int} {p p' : Nat} {e e' : Option E} {F : World → Prop}
def lsig (l : List Int) (s : Nat × Option E) : S70 × Nat × Option E :=
  if (lw l s).2.2.isSome = true then (⟨0, 0, (lw l s).1, s.1, 0⟩, (lw l s).2) else
  if (lty chn l (lw l s).2).2.2.isSome = true then (⟨0, 0, (lw l s).1, s.1, 0⟩, (lty chn l (lw l s).2).2) else
  if (lskip l (32 * (1 + (lty chn l (lw l s).2).1.2)).toNat (lty chn l (lw l s).2).2).2.isSome = true then (⟨0, 0, (lw l s).1, s.1, 0⟩, lskip l (32 * (1 + (lty chn l (lw l s).2).1.2)).toNat (lty chn l (lw l s).2).2) else
  if (lty hgt l (lskip l (32 * (1 + (lty chn l (lw l s).2).1.2)).toNat (lty chn l (lw l s).2).2)).2.2.isSome = true then (⟨0, 0, (lw l s).1, s.1, 0⟩, (lty hgt l (lskip l (32 * (1 + (lty chn l (lw l s).2).1.2)).toNat (lty chn l (lw l s).2).2)).2) else
  if 0 < (lw l s).1 / 2 ^ (lty hgt l (lskip l (32 * (1 + (lty chn l (lw l s).2).1.2)).toNat (lty chn l (lw l s).2).2)).1.2.toNat then (⟨0, 0, (lw l s).1, s.1, 0⟩, (lty hgt l (lskip l (32 * (1 + (lty chn l (lw l s).2).1.2)).toNat (lty chn l (lw l s).2).2)).2.1, some (.fault 9 s.1)) else
  (⟨(lty hgt l (lskip l (32 * (1 + (lty chn l (lw l s).2).1.2)).toNat (lty chn l (lw l s).2).2)).1.1, (lty chn l (lw l s).2).1.1, (lw l s).1, s.1,
    ((lskip l (32 * (lty hgt l (lskip l (32 * (1 + (lty chn l (lw l s).2).1.2)).toNat (lty chn l (lw l s).2).2)).1.2).toNat (lty hgt l (lskip l (32 * (1 + (lty chn l (lw l s).2).1.2)).toNat (lty chn l (lw l s).2).2)).2).1 : Int) - s.1⟩,
   lskip l (32 * (lty hgt l (lskip l (32 * (1 + (lty chn l (lw l s).2).1.2)).toNat (lty chn l (lw l s).2).2)).1.2).toNat (lty hgt l (lskip l (32 * (1 + (lty chn l (lw l s).2).1.2)).toNat (lty chn l (lw l s).2).2)).2)
theorem fl_some (c a : Int) (e : Option E) : (fl c a e).isSome = true := by cases e <;> rfl
theorem lw_le (l : List Int) (s : Nat × Option E) : s.1 ≤ (lw l s).2.1 := by unfold lw; split <;> simp
theorem lskip_le (l : List Int) (m : Nat) (s : Nat × Option E) : s.1 ≤ (lskip l m s).1 := by unfold lskip; split <;> simp
theorem lw_lt (l : List Int) (s : Nat × Option E) (h : s.1 ≤ l.length) : (lw l s).2.1 ≤ l.length := by unfold lw; split <;> simp <;> omega
theorem lskip_lt (l : List Int) (m : Nat) (s : Nat × Option E) (h : s.1 ≤ l.length) : (lskip l m s).1 ≤ l.length := by unfold lskip; split <;> simp <;> omega
theorem lty_none {num : Int → Int × Bool} {s : Nat × Option E} (h : (lty num l s).2.2.isSome = false) : (num (lty num l s).1.1).2 = true ∧ (lty num l s).1.2 = (num (lty num l s).1.1).1 := by
  unfold lty at h ⊢
  by_cases c : (num (lw l s).1).2 = true
  · exact ⟨c, rfl⟩
  · simp only [if_neg c, fl_some] at h
    cases h
theorem chn_bd {t : Int} (h : (chn t).2 = true) : 0 ≤ (chn t).1 ∧ (chn t).1 ≤ 265 := by
  unfold chn at h ⊢
  split
  · simp
  · split
    · simp
    · split
      · simp
      · split <;> simp
theorem hgt_bd {t : Int} (h : (hgt t).2 = true) : 0 ≤ (hgt t).1 ∧ (hgt t).1 ≤ 25 := by
  unfold hgt at h ⊢
  split <;> simp <;> omega
theorem opt_none {e : Option E} (h : ¬ e.isSome = true) : e = none := by cases e <;> simp_all
theorem lms_sig (h : LE w0 W gr g l p none F) :
    Calls Tryd.prog 64 #[.pointer (some ⟨gr, 0, none⟩)] W fun ev w' => ev = .returned (.agg #[.int .i64 (lsig l (p, none)).1.f0, .int .i64 (lsig l (p, none)).1.f1, .int .u32 (lsig l (p, none)).1.f2, .int .i64 (lsig l (p, none)).1.f3, .int .i64 (lsig l (p, none)).1.f4]) ∧ LE w0 w' gr g l (lsig l (p, none)).2.1 (lsig l (p, none)).2.2 F := by
  have hb := h.2.2.2.2.2
  have hp := h.ple
  have hl : l.length < 1000000000000 := by
    obtain ⟨A, c, _, _, _, h4, _⟩ := h.rdr
    exact h4
  have bq := lw_bd hb (p, none)
  have hq1 := lw_le l (p, none)
  have hq2 := lw_lt l (p, none) hp
  unfold lsig
  rcases e0 : lw l (p, none) with ⟨q, p1, e1⟩
  rw [e0] at bq hq1 hq2
  dsimp only at bq hq1 hq2 ⊢
  by_cases c1 : e1.isSome = true
  · rw [if_pos c1]
    exact lms_sig1 h q p1 e1 e0 c1
  rw [if_neg c1]
  obtain rfl := opt_none c1
  have bt := lw_bd hb (p1, none)
  have hr1 := lw_le l (p1, none)
  have hr2 := lw_lt l (p1, none) hq2
  have hn := lty_none (l := l) (num := chn) (s := (p1, none))
  have hty1 : (lty chn l (p1, none)).1.1 = (lw l (p1, none)).1 := rfl
  have hty2 : (lty chn l (p1, none)).2.1 = (lw l (p1, none)).2.1 := rfl
  rcases ec : lty chn l (p1, none) with ⟨⟨t, c⟩, p2, e2⟩
  rw [ec] at hn hty1 hty2
  dsimp only at hn hty1 hty2 ⊢
  rw [← hty1] at bt
  rw [← hty2] at hr1 hr2
  by_cases c2 : e2.isSome = true
  · rw [if_pos c2]
    exact lms_sig2 h q p1 e0 t c p2 e2 ec c2
  rw [if_neg c2]
  obtain rfl := opt_none c2
  obtain ⟨n1, n2⟩ := hn rfl
  have bc := chn_bd n1
  rw [← n2] at bc
  have hm2 : (((32 * (1 + c)).toNat : Nat) : Int) = 32 * (1 + c) := Int.toNat_of_nonneg (by omega)
  have hs1 := lskip_le l (32 * (1 + c)).toNat (p2, none)
  have hs2 := lskip_lt l (32 * (1 + c)).toNat (p2, none) hr2
  generalize (32 * (1 + c)).toNat = m2 at hm2 hs1 hs2 ⊢
  rcases es : lskip l m2 (p2, none) with ⟨p3, e3⟩
  rw [es] at hs1 hs2
  dsimp only at hs1 hs2 ⊢
  by_cases c3 : e3.isSome = true
  · rw [if_pos c3]
    exact lms_sig3 h q p1 e0 t c p2 ec bc.1 bc.2 m2 hm2 p3 e3 es c3
  rw [if_neg c3]
  obtain rfl := opt_none c3
  have bu := lw_bd hb (p3, none)
  have hu1 := lw_le l (p3, none)
  have hu2 := lw_lt l (p3, none) hs2
  have hn' := lty_none (l := l) (num := hgt) (s := (p3, none))
  have hty3 : (lty hgt l (p3, none)).1.1 = (lw l (p3, none)).1 := rfl
  have hty4 : (lty hgt l (p3, none)).2.1 = (lw l (p3, none)).2.1 := rfl
  rcases eh : lty hgt l (p3, none) with ⟨⟨u, hh⟩, p4, e4⟩
  rw [eh] at hn' hty3 hty4
  dsimp only at hn' hty3 hty4 ⊢
  rw [← hty3] at bu
  rw [← hty4] at hu1 hu2
  by_cases c4 : e4.isSome = true
  · rw [if_pos c4]
    exact lms_sig4 h q p1 e0 t c p2 ec bc.1 bc.2 m2 hm2 p3 es u hh p4 e4 eh c4
  rw [if_neg c4]
  obtain rfl := opt_none c4
  obtain ⟨n3, n4⟩ := hn' rfl
  have bh := hgt_bd n3
  rw [← n4] at bh
  by_cases c5 : 0 < q / 2 ^ hh.toNat
  · rw [if_pos c5]
    exact lms_sig5 h q p1 e0 t c p2 ec bc.1 bc.2 m2 hm2 p3 es u hh p4 eh bh.1 bh.2 bq.1 bq.2 c5
  rw [if_neg c5]
  have hm5 : (((32 * hh).toNat : Nat) : Int) = 32 * hh := Int.toNat_of_nonneg (by omega)
  have hv1 := lskip_le l (32 * hh).toNat (p4, none)
  have hv2 := lskip_lt l (32 * hh).toNat (p4, none) hu2
  generalize (32 * hh).toNat = m5 at hm5 hv1 hv2 ⊢
  rcases ef : lskip l m5 (p4, none) with ⟨p5, e5⟩
  rw [ef] at hv1 hv2
  dsimp only at hv1 hv2 ⊢
  have hq0 : q / 2 ^ hh.toNat = 0 := by
    have : 0 ≤ q / 2 ^ hh.toNat := Int.ediv_nonneg bq.1 (Int.pow_nonneg (by decide))
    omega
  exact lms_sig6 h q p1 e0 t c p2 ec bc.1 bc.2 m2 hm2 p3 es u hh p4 eh bh.1 bh.2 bq.1 bq.2 m5 hm5 p5 e5 ef (by omega) (by omega) bt.1 bt.2 bu.1 bu.2 hq0
end
section
variable {w0 W W' : World} {gr g : Nat} {l : List Int} {p p' : Nat} {e e' : Option E} {F : World → Prop}
def RowF (w0 : World) (g gr B : Nat) (v : Value) (xs : List S70) (W : World) : Prop := Kd.R k70 70 W w0.heap.size (fun k => k ≠ g ∧ k ≠ gr ∧ k < B) v xs
theorem RowF.stab (w0 : World) (g gr B : Nat) (v : Value) (xs : List S70) : Stab (RowF w0 g gr B v xs) B g gr :=
  fun W1 W2 h1 hs hB hk => Kd.R_step h1 (fun k hk1 hlt => hk k hk1.2.2 hk1.1 hk1.2.1)
theorem LE.with (h : LE w0 W gr g l p e F) {v : Value} {xs : List S70} (hr : Kd.R k70 70 W w0.heap.size (fun k => k ≠ g ∧ k ≠ gr) v xs) : LE w0 W gr g l p e (RowF w0 g gr W.heap.size v xs) :=
  ⟨h.1, h.2.1, h.2.2.1, h.2.2.2.1, ⟨Kd.R_mono (Kd.R_bound hr) (fun k hk => ⟨hk.1.1, hk.1.2, hk.2.2.1⟩), W.heap.size, Nat.le_refl _, RowF.stab w0 g gr _ v xs⟩, h.2.2.2.2.2⟩
theorem LE.row {B : Nat} {v : Value} {xs : List S70} (h : LE w0 W gr g l p e (RowF w0 g gr B v xs)) : Kd.R k70 70 W w0.heap.size (fun k => k ≠ g ∧ k ≠ gr) v xs := Kd.R_mono h.inv (fun k hk => ⟨hk.1, hk.2.1⟩)
theorem LE.grown (h : LE w0 W gr g l p e F) {v : Value} {ok : Nat → Prop} {base : Nat} {xs : List S70} (hr : Kd.R k70 70 W base ok v xs) (hg : W.grownBy W' v.ownBlock) (hb : Below w0.heap.size w0 W') : LE w0 W' gr g l p e (fun _ => True) := by
  obtain ⟨A, c, h1, h2, h3, h4, h5, h6⟩ := h.1
  have t1 := Kd.R_typed hr
  refine ⟨⟨A, c, blk_grown h1 hg (Kd.R_ne hr h1 (by decide)), Kd.R_over' h2 t1 (by decide) hg, h3, h4, h5, hb⟩, blk_grown h.2.1 hg (Kd.R_ne hr h.2.1 (by decide)), h.2.2.1, h.2.2.2.1, ⟨trivial, 0, by omega, fun _ _ _ _ _ _ => trivial⟩, h.2.2.2.2.2⟩
theorem lms_open (A0 : Option Addr) (c0 : Nat) (l0 : List Int) (w : World) (hr0 : Kd.C (Kd.int .u8) w A0 l0.length l0) (hc0 : l0.length ≤ c0) (hl : l0.length < 1000000000000) (hb : ∀ x ∈ l0, 0 ≤ x ∧ x < 256) (hG : GOK w) :
    Calls Tryd.prog 61 #[.slice A0 l0.length c0] w fun ev w' => ∃ gr g, ev = .returned (.pointer (some ⟨gr, 0, none⟩)) ∧ LE w w' gr g l0 0 none (fun _ => True) := by
  have HC := Aside0.mk (wire_New.calls A0 c0 l0 w w (Below.refl _ _) hr0 hc0 hl)
  clear hr0
  go_enter Tryd.func61, Tryd.ntmps61
  go_wp2_with (go_at_call 86; ((with_reducible refine (HC.out).mono ?_); rintro ev w' ⟨g, rfl, hd, hb'⟩; have HD := Aside0.mk hd; have HB := Aside0.mk hb'; clear hd hb'))
  go_ret
  refine ⟨w'.heap.size, g, rfl, ?_⟩
  have hb2 : Below w'.heap.size w' (w'.alloc (.cells #[.pointer (some ⟨g, 0, none⟩), .int .i64 (l0.length : Int), .nilIface] 116)) := below_alloc (Below.refl _ _) _
  exact ⟨HD.out.below hb2, by simpa [errW_none] using heap_alloc_new w' (.cells #[.pointer (some ⟨g, 0, none⟩), .int .i64 (l0.length : Int), .nilIface] 116), HB.out.size, hG, ⟨trivial, 0, by omega, fun _ _ _ _ _ _ => trivial⟩, hb⟩
def lck1 (l : List Int) : Nat × Option E := if (lw l (0, none)).2.2.isNone = true ∧ ((lw l (0, none)).1 < 1 ∨ 8 < (lw l (0, none)).1) then ((lw l (0, none)).2.1, fl 9 0 (lw l (0, none)).2.2) else (lw l (0, none)).2
def lck2 (l : List Int) (s : Nat × Option E) : Nat × Option E := if s.2.isNone = true then lkey l s else s
def lck3 (l : List Int) (s : Nat × Option E) : Option E := if 0 < l.length - s.1 then fl 4 s.1 s.2 else s.2
def lck (l : List Int) : Option E := lck3 l (lck2 l (lck1 l))
def bytesB (l : List Int) : Bool := l.all fun x => decide (0 ≤ x ∧ x < 256)
theorem bytesB_iff {l : List Int} (h : bytesB l = true) : ∀ x ∈ l, 0 ≤ x ∧ x < 256 := fun x hx => of_decide_eq_true (List.all_eq_true.1 h x hx)
def lms_CheckKey.f (l0 : List Int) : Option (Option E) := if bytesB l0 = true ∧ l0.length < 1000000000000 then some (lck l0) else none
set_option maxHeartbeats 4000000 in
set_option maxRecDepth 100000 in
theorem ck_a (A0 : Option Addr) (c0 : Nat) (l : List Int) (w : World) (HO : Aside0 (Calls Tryd.prog 61 #[.slice A0 l.length c0] w fun ev w' => ∃ gr g, ev = .returned (.pointer (some ⟨gr, 0, none⟩)) ∧ LE w w' gr g l 0 none (fun _ => True))) (q : Int) (p1 : Nat) (e1 : Option E) (hw : lw l (0, none) = (q, p1, e1)) (he : e1.isNone = false) :
    Calls Tryd.prog 43 #[.slice A0 l.length c0] w fun ev w' => ev = .returned (errW (lck3 l (p1, e1))) ∧ Below w.heap.size w w' := by
  have q1 := err_isNil
  have q2 := err_guard
  have E0 := Aside0.mk hw
  clear hw
  by_cases hL : 0 < l.length - p1
  · rw [lck3, if_pos hL]
    have d1 : decide ((0 : Int) < ((l.length - p1 : Nat) : Int)) = true := decide_eq_true (by omega)
    have d2 : decide (0 < l.length - p1) = true := decide_eq_true hL
    clear hL
    go_enter Tryd.func43, Tryd.ntmps43
    go_wp2_with (first | (go_at_call 61; ((with_reducible refine (HO.out).mono ?_); rintro ev w' ⟨gr, g, rfl, h⟩; have c2 := h.c2; have c0 := h.c0)) | (go_at_call 62; have T := lms_word h; rw [E0.out] at T; dsimp only at T; ((with_reducible refine T.mono ?_); rintro ev w' ⟨rfl, h⟩; clear T; have c2 := h.c2; have c0 := h.c0)) | (go_at_call 66; ((with_reducible refine (left_q h.rdr).mono ?_); rintro ev w' ⟨rfl, m, rfl⟩; have h := h.drewN m; have c2 := h.c2; have c0 := h.c0)) | (go_at_call 67; ((with_reducible refine (at_q h.rdr).mono ?_); rintro ev w' ⟨rfl, rfl⟩)) | (go_at_call 63; ((with_reducible refine (lms_fail h 4 p1).mono ?_); rintro ev w' ⟨rfl, h⟩; have c2 := h.c2; have c0 := h.c0)))
    go_ret
    exact ⟨rfl, h.all⟩
  · rw [lck3, if_neg hL]
    have d1 : decide ((0 : Int) < ((l.length - p1 : Nat) : Int)) = false := decide_eq_false (by omega)
    have d2 : decide (0 < l.length - p1) = false := decide_eq_false hL
    clear hL
    go_enter Tryd.func43, Tryd.ntmps43
    go_wp2_with (first | (go_at_call 61; ((with_reducible refine (HO.out).mono ?_); rintro ev w' ⟨gr, g, rfl, h⟩; have c2 := h.c2; have c0 := h.c0)) | (go_at_call 62; have T := lms_word h; rw [E0.out] at T; dsimp only at T; ((with_reducible refine T.mono ?_); rintro ev w' ⟨rfl, h⟩; clear T; have c2 := h.c2; have c0 := h.c0)) | (go_at_call 66; ((with_reducible refine (left_q h.rdr).mono ?_); rintro ev w' ⟨rfl, m, rfl⟩; have h := h.drewN m; have c2 := h.c2; have c0 := h.c0)))
    go_ret
    exact ⟨rfl, h.all⟩
set_option maxHeartbeats 4000000 in
set_option maxRecDepth 100000 in
theorem ck_b (A0 : Option Addr) (c0 : Nat) (l : List Int) (w : World) (HO : Aside0 (Calls Tryd.prog 61 #[.slice A0 l.length c0] w fun ev w' => ∃ gr g, ev = .returned (.pointer (some ⟨gr, 0, none⟩)) ∧ LE w w' gr g l 0 none (fun _ => True))) (q : Int) (p1 : Nat) (hw : lw l (0, none) = (q, p1, none)) (hq0 : 0 ≤ q) (hq1 : q < 4294967296) (hq : q < 1 ∨ 8 < q) :
    Calls Tryd.prog 43 #[.slice A0 l.length c0] w fun ev w' => ev = .returned (errW (lck3 l (p1, some (.fault 9 0)))) ∧ Below w.heap.size w w' := by
  have q1 := err_isNil
  have q2 := err_guard
  have E0 := Aside0.mk hw
  clear hw
  rcases hq with hq | hq
  · have b1 : decide (q < 1) = true := decide_eq_true hq
    by_cases hL : 0 < l.length - p1
    · rw [lck3, if_pos hL]
      have d1 : decide ((0 : Int) < ((l.length - p1 : Nat) : Int)) = true := decide_eq_true (by omega)
      have d2 : decide (0 < l.length - p1) = true := decide_eq_true hL
      clear hL
      go_enter Tryd.func43, Tryd.ntmps43
      go_wp2_with (first | (go_at_call 61; ((with_reducible refine (HO.out).mono ?_); rintro ev w' ⟨gr, g, rfl, h⟩; have c2 := h.c2; have c0 := h.c0)) | (go_at_call 62; have T := lms_word h; rw [E0.out] at T; dsimp only at T; ((with_reducible refine T.mono ?_); rintro ev w' ⟨rfl, h⟩; clear T; have c2 := h.c2; have c0 := h.c0)) | (go_at_call 63; ((with_reducible refine (lms_fail h 9 0).mono ?_); rintro ev w' ⟨rfl, h⟩; have c2 := h.c2; have c0 := h.c0)) | (go_at_call 66; ((with_reducible refine (left_q h.rdr).mono ?_); rintro ev w' ⟨rfl, m, rfl⟩; have h := h.drewN m; have c2 := h.c2; have c0 := h.c0)) | (go_at_call 67; ((with_reducible refine (at_q h.rdr).mono ?_); rintro ev w' ⟨rfl, rfl⟩)) | (go_at_call 63; ((with_reducible refine (lms_fail h 4 p1).mono ?_); rintro ev w' ⟨rfl, h⟩; have c2 := h.c2; have c0 := h.c0)))
      go_ret
      exact ⟨rfl, h.all⟩
    · rw [lck3, if_neg hL]
      have d1 : decide ((0 : Int) < ((l.length - p1 : Nat) : Int)) = false := decide_eq_false (by omega)
      have d2 : decide (0 < l.length - p1) = false := decide_eq_false hL
      clear hL
      go_enter Tryd.func43, Tryd.ntmps43
      go_wp2_with (first | (go_at_call 61; ((with_reducible refine (HO.out).mono ?_); rintro ev w' ⟨gr, g, rfl, h⟩; have c2 := h.c2; have c0 := h.c0)) | (go_at_call 62; have T := lms_word h; rw [E0.out] at T; dsimp only at T; ((with_reducible refine T.mono ?_); rintro ev w' ⟨rfl, h⟩; clear T; have c2 := h.c2; have c0 := h.c0)) | (go_at_call 63; ((with_reducible refine (lms_fail h 9 0).mono ?_); rintro ev w' ⟨rfl, h⟩; have c2 := h.c2; have c0 := h.c0)) | (go_at_call 66; ((with_reducible refine (left_q h.rdr).mono ?_); rintro ev w' ⟨rfl, m, rfl⟩; have h := h.drewN m; have c2 := h.c2; have c0 := h.c0)))
      go_ret
      exact ⟨rfl, h.all⟩
  · have b1 : decide (q < 1) = false := decide_eq_false (by omega)
    have b2 : decide (8 < q) = true := decide_eq_true hq
    by_cases hL : 0 < l.length - p1
    · rw [lck3, if_pos hL]
      have d1 : decide ((0 : Int) < ((l.length - p1 : Nat) : Int)) = true := decide_eq_true (by omega)
      have d2 : decide (0 < l.length - p1) = true := decide_eq_true hL
      clear hL
      go_enter Tryd.func43, Tryd.ntmps43
      go_wp2_with (first | (go_at_call 61; ((with_reducible refine (HO.out).mono ?_); rintro ev w' ⟨gr, g, rfl, h⟩; have c2 := h.c2; have c0 := h.c0)) | (go_at_call 62; have T := lms_word h; rw [E0.out] at T; dsimp only at T; ((with_reducible refine T.mono ?_); rintro ev w' ⟨rfl, h⟩; clear T; have c2 := h.c2; have c0 := h.c0)) | (go_at_call 63; ((with_reducible refine (lms_fail h 9 0).mono ?_); rintro ev w' ⟨rfl, h⟩; have c2 := h.c2; have c0 := h.c0)) | (go_at_call 66; ((with_reducible refine (left_q h.rdr).mono ?_); rintro ev w' ⟨rfl, m, rfl⟩; have h := h.drewN m; have c2 := h.c2; have c0 := h.c0)) | (go_at_call 67; ((with_reducible refine (at_q h.rdr).mono ?_); rintro ev w' ⟨rfl, rfl⟩)) | (go_at_call 63; ((with_reducible refine (lms_fail h 4 p1).mono ?_); rintro ev w' ⟨rfl, h⟩; have c2 := h.c2; have c0 := h.c0)))
      go_ret
      exact ⟨rfl, h.all⟩
    · rw [lck3, if_neg hL]
      have d1 : decide ((0 : Int) < ((l.length - p1 : Nat) : Int)) = false := decide_eq_false (by omega)
      have d2 : decide (0 < l.length - p1) = false := decide_eq_false hL
      clear hL
      go_enter Tryd.func43, Tryd.ntmps43
      go_wp2_with (first | (go_at_call 61; ((with_reducible refine (HO.out).mono ?_); rintro ev w' ⟨gr, g, rfl, h⟩; have c2 := h.c2; have c0 := h.c0)) | (go_at_call 62; have T := lms_word h; rw [E0.out] at T; dsimp only at T; ((with_reducible refine T.mono ?_); rintro ev w' ⟨rfl, h⟩; clear T; have c2 := h.c2; have c0 := h.c0)) | (go_at_call 63; ((with_reducible refine (lms_fail h 9 0).mono ?_); rintro ev w' ⟨rfl, h⟩; have c2 := h.c2; have c0 := h.c0)) | (go_at_call 66; ((with_reducible refine (left_q h.rdr).mono ?_); rintro ev w' ⟨rfl, m, rfl⟩; have h := h.drewN m; have c2 := h.c2; have c0 := h.c0)))
      go_ret
      exact ⟨rfl, h.all⟩
set_option maxHeartbeats 4000000 in
set_option maxRecDepth 100000 in
theorem ck_c (A0 : Option Addr) (c0 : Nat) (l : List Int) (w : World) (HO : Aside0 (Calls Tryd.prog 61 #[.slice A0 l.length c0] w fun ev w' => ∃ gr g, ev = .returned (.pointer (some ⟨gr, 0, none⟩)) ∧ LE w w' gr g l 0 none (fun _ => True))) (q : Int) (p1 : Nat) (hw : lw l (0, none) = (q, p1, none)) (hq0 : 1 ≤ q) (hq1 : q ≤ 8) (p2 : Nat) (e2 : Option E) (hk : lkey l (p1, none) = (p2, e2)) :
    Calls Tryd.prog 43 #[.slice A0 l.length c0] w fun ev w' => ev = .returned (errW (lck3 l (p2, e2))) ∧ Below w.heap.size w w' := by
  have q1 := err_isNil
  have q2 := err_guard
  have E0 := Aside0.mk hw
  have EK := Aside0.mk hk
  clear hw hk
  have b1 : decide (q < 1) = false := decide_eq_false (by omega)
  have b2 : decide (8 < q) = false := decide_eq_false (by omega)
  by_cases hL : 0 < l.length - p2
  · rw [lck3, if_pos hL]
    have d1 : decide ((0 : Int) < ((l.length - p2 : Nat) : Int)) = true := decide_eq_true (by omega)
    have d2 : decide (0 < l.length - p2) = true := decide_eq_true hL
    clear hL
    go_enter Tryd.func43, Tryd.ntmps43
    go_wp2_with (first | (go_at_call 61; ((with_reducible refine (HO.out).mono ?_); rintro ev w' ⟨gr, g, rfl, h⟩; have c2 := h.c2; have c0 := h.c0)) | (go_at_call 62; have T := lms_word h; rw [E0.out] at T; dsimp only at T; ((with_reducible refine T.mono ?_); rintro ev w' ⟨rfl, h⟩; clear T; have c2 := h.c2; have c0 := h.c0)) | (go_at_call 65; have T := lms_key h; rw [EK.out] at T; dsimp only at T; ((with_reducible refine T.mono ?_); rintro ev w' ⟨rfl, h⟩; clear T; have c2 := h.c2; have c0 := h.c0)) | (go_at_call 66; ((with_reducible refine (left_q h.rdr).mono ?_); rintro ev w' ⟨rfl, m, rfl⟩; have h := h.drewN m; have c2 := h.c2; have c0 := h.c0)) | (go_at_call 67; ((with_reducible refine (at_q h.rdr).mono ?_); rintro ev w' ⟨rfl, rfl⟩)) | (go_at_call 63; ((with_reducible refine (lms_fail h 4 p2).mono ?_); rintro ev w' ⟨rfl, h⟩; have c2 := h.c2; have c0 := h.c0)))
    go_ret
    exact ⟨rfl, h.all⟩
  · rw [lck3, if_neg hL]
    have d1 : decide ((0 : Int) < ((l.length - p2 : Nat) : Int)) = false := decide_eq_false (by omega)
    have d2 : decide (0 < l.length - p2) = false := decide_eq_false hL
    clear hL
    go_enter Tryd.func43, Tryd.ntmps43
    go_wp2_with (first | (go_at_call 61; ((with_reducible refine (HO.out).mono ?_); rintro ev w' ⟨gr, g, rfl, h⟩; have c2 := h.c2; have c0 := h.c0)) | (go_at_call 62; have T := lms_word h; rw [E0.out] at T; dsimp only at T; ((with_reducible refine T.mono ?_); rintro ev w' ⟨rfl, h⟩; clear T; have c2 := h.c2; have c0 := h.c0)) | (go_at_call 65; have T := lms_key h; rw [EK.out] at T; dsimp only at T; ((with_reducible refine T.mono ?_); rintro ev w' ⟨rfl, h⟩; clear T; have c2 := h.c2; have c0 := h.c0)) | (go_at_call 66; ((with_reducible refine (left_q h.rdr).mono ?_); rintro ev w' ⟨rfl, m, rfl⟩; have h := h.drewN m; have c2 := h.c2; have c0 := h.c0)))
    go_ret
    exact ⟨rfl, h.all⟩
theorem lms_CheckKey.calls (A0 : Option Addr) (c0 : Nat) (l0 : List Int) (r : Option E) (w : World) (hr0 : Kd.C (Kd.int .u8) w A0 l0.length l0) (hc0 : l0.length ≤ c0) (h : lms_CheckKey.f l0 = some r) (hG : GOK w) :
    Calls Tryd.prog 43 #[.slice A0 l0.length c0] w fun ev w' => ev = .returned (errW r) ∧ Below w.heap.size w w' := by
  unfold lms_CheckKey.f at h
  by_cases hc : bytesB l0 = true ∧ l0.length < 1000000000000
  · rw [if_pos hc] at h
    obtain rfl := Option.some.inj h
    have hb := bytesB_iff hc.1
    have HO := Aside0.mk (lms_open A0 c0 l0 w hr0 hc0 hc.2 hb hG)
    have bq := lw_bd hb (0, none)
    unfold lck lck1
    rcases e0 : lw l0 (0, none) with ⟨q, p1, e1⟩
    rw [e0] at bq
    dsimp only at bq ⊢
    cases e1 with
    | some x =>
      rw [if_neg (by simp)]
      rw [show lck2 l0 (p1, some x) = (p1, some x) from rfl]
      exact ck_a A0 c0 l0 w HO q p1 (some x) e0 rfl
    | none =>
      by_cases c1 : q < 1 ∨ 8 < q
      · rw [if_pos ⟨rfl, c1⟩]
        rw [show lck2 l0 (p1, fl 9 0 none) = (p1, some (.fault 9 0)) from rfl]
        exact ck_b A0 c0 l0 w HO q p1 e0 bq.1 bq.2 c1
      · rw [if_neg (fun hh => c1 hh.2)]
        rcases ek : lkey l0 (p1, none) with ⟨p2, e2⟩
        rw [show lck2 l0 (p1, none) = (p2, e2) from by rw [lck2, if_pos (by rfl), ek]]
        exact ck_c A0 c0 l0 w HO q p1 e0 (by omega) (by omega) p2 e2 ek
  · rw [if_neg hc] at h
    cases h
end
end Go.Proofs.YtijmigapdcikpaaDoor.PLms
