-- Written by a program: a copy of the kit's print, turned by this session (wip/xprint).
import Derived.Test.YtifejkgppdjeoaaPWirex0
import Derived.Test.YtifejkgppdjeoaaPWirex1
import Derived.Test.YtifejkgppdjeoaaPWirex2
namespace Go.Proofs.Ytifejkgppdjeoaa.PWire
open Go.RowKit Go.Proofs.YtifejkgppdjeoaaW.PrintWords Go.Proofs.YtifejkgppdjeoaaW.PrintLast Go.Proofs.YtifejkgppdjeoaaW.PrintMore
set_option linter.unusedVariables false
set_option linter.unusedSimpArgs false

/-! ### pyxlaw01_awake: function 23 -/
-- PLAIN
/-- What a walk holds: what stood at w0 stands; a reader (block, bytes, offset), if there is one; rows of bytes, own ones or such as came in. -/
def Env (w0 W : World) (rd : Option (Nat × List Int × Nat)) (rows : List (Value × List Int)) : Prop :=
  Below w0.heap.size w0 W ∧ (∀ x, rd = some x → RD w0 W x.1 x.2.1 x.2.2) ∧
  ∀ x ∈ rows, Kd.R (Kd.int .u8) 5 W w0.heap.size (fun k => ∀ y, rd = some y → k ≠ y.1) x.1 x.2 ∨ ∃ A c, x.1 = .slice A x.2.length c ∧ x.2.length ≤ c ∧ Kd.C (Kd.int .u8) w0 A x.2.length x.2
section
variable {w0 W W' : World} {rd : Option (Nat × List Int × Nat)} {rows : List (Value × List Int)} {v v' : Value} {xs ys : List Int} {g : Nat} {l : List Int} {p : Nat}
theorem Env.start (w : World) : Env w w none [] := ⟨Below.refl _ _, (fun _ h => by cases h), (fun _ h => by cases h)⟩
theorem Env.all (h : Env w0 W rd rows) : Below w0.heap.size w0 W := h.1
theorem Env.came {A : Option Addr} {c : Nat} (h : Env w0 W rd rows) (hr : Kd.C (Kd.int .u8) w0 A xs.length xs) (hc : xs.length ≤ c) : Env w0 W rd ((.slice A xs.length c, xs) :: rows) := by
  refine ⟨h.1, h.2.1, fun x hx => ?_⟩
  rcases List.mem_cons.1 hx with rfl | hx
  · exact .inr ⟨A, c, rfl, hc, hr⟩
  · exact h.2.2 x hx
theorem Env.below (h : Env w0 W rd rows) (hb : Below W.heap.size W W') : Env w0 W' rd rows := by
  refine ⟨below_step h.1 hb, fun x hx => (h.2.1 x hx).below hb, fun x hx => ?_⟩
  rcases h.2.2 x hx with hr | hr
  · exact .inl (Kd.R_below hr hb)
  · exact .inr hr
theorem Env.drewN (h : Env w0 W rd rows) (m : Nat) : Env w0 (W.drewN m) rd rows := h.below (pw_below_drewN (Below.refl _ _) m)
theorem Env.drawn (h : Env w0 W rd rows) (hd : Drawn0 W W') : Env w0 W' rd rows := h.below hd.below
theorem Env.keep (h : Env w0 W (some (g, l, p)) rows) {p' : Nat} (hd : RD w0 W' g l p') (hk : KeepBut W W' g none) : Env w0 W' (some (g, l, p')) rows := by
  refine ⟨hd.all, fun x hx => ?_, fun x hx => ?_⟩
  · cases hx; exact hd
  · rcases h.2.2 x hx with hr | hr
    · refine .inl (Kd.R_mono (Kd.R_keep hr hk (fun k hk => hk (g, l, p) rfl)) (fun k hk y hy => ?_))
      cases hy
      exact hk (g, l, p) rfl
    · exact .inr hr
theorem Env.add (h : Env w0 W rd rows) {ok : Nat → Prop} (hr : Kd.R (Kd.int .u8) 5 W W.heap.size ok v xs) : Env w0 W rd ((v, xs) :: rows) := by
  refine ⟨h.1, h.2.1, fun x hx => ?_⟩
  rcases List.mem_cons.1 hx with rfl | hx
  · refine .inl (Kd.R_mono (Kd.R_lower (Kd.R_bound hr) h.1.size) (fun k hk y hy => ?_))
    obtain ⟨A, c, h1, _⟩ := h.2.1 y hy
    have := blk_lt h1
    have := hk.2.1
    omega
  · exact h.2.2 x hx
/-- A row that was made by the step from W to W'. -/
theorem Env.made (h : Env w0 W rd rows) {ok : Nat → Prop} (hb : Below W.heap.size W W') (hr : Kd.R (Kd.int .u8) 5 W' W.heap.size ok v xs) : Env w0 W' rd ((v, xs) :: rows) := by
  have h' := h.below hb
  refine ⟨h'.1, h'.2.1, fun x hx => ?_⟩
  rcases List.mem_cons.1 hx with rfl | hx
  · refine .inl (Kd.R_mono (Kd.R_lower (Kd.R_bound hr) h.1.size) (fun k hk y hy => ?_))
    obtain ⟨A, c, h1, _⟩ := h.2.1 y hy
    have := blk_lt h1
    have := hk.2.1
    omega
  · exact h'.2.2 x hx
/-- A row that a step of the reader made. -/
theorem Env.taken (h : Env w0 W (some (g, l, p)) rows) {p' : Nat} {ok : Nat → Prop} (hr : Kd.R (Kd.int .u8) 5 W' W.heap.size ok v xs) (hd : RD w0 W' g l p') (hk : KeepBut W W' g none) : Env w0 W' (some (g, l, p')) ((v, xs) :: rows) := by
  have h' := h.keep hd hk
  refine ⟨h'.1, h'.2.1, fun x hx => ?_⟩
  rcases List.mem_cons.1 hx with rfl | hx
  · refine .inl (Kd.R_mono (Kd.R_lower (Kd.R_bound hr) h.1.size) (fun k hk y hy => ?_))
    cases hy
    obtain ⟨A, c, h1, _⟩ := h.2.1 _ rfl
    have := blk_lt h1
    have := hk.2.1
    show k ≠ g
    omega
  · exact h'.2.2 x hx
theorem Env.nil_ (h : Env w0 W rd rows) : Env w0 W rd ((.slice none 0 0, []) :: rows) := h.add (ok := fun _ => True) (Kd.R_nil _ _ _ _ _)
theorem Env.reader (h : Env w0 W none rows) (hd : RD W W' g l p) (hb : Below W.heap.size W W') : Env w0 W' (some (g, l, p)) rows := by
  obtain ⟨A, c, h1, h2, h3, h4, h5, h6⟩ := hd
  refine ⟨below_step h.1 hb, fun x hx => ?_, fun x hx => ?_⟩
  · cases hx; exact ⟨A, c, h1, Kd.R_lower h2 h.1.size, h3, h4, Nat.le_trans h.1.size h5, below_step h.1 hb⟩
  · rcases h.2.2 x hx with hr | hr
    · refine .inl (Kd.R_mono (Kd.R_below (Kd.R_bound hr) hb) (fun k hk y hy => ?_))
      cases hy
      have := hk.2.2.1
      show k ≠ g
      omega
    · exact .inr hr
theorem Env.read (h : Env w0 W rd rows) (hx : (v, xs) ∈ rows) : ∃ A c, v = .slice A xs.length c ∧ xs.length ≤ c ∧ Kd.C (Kd.int .u8) W A xs.length xs := by
  rcases h.2.2 _ hx with hr | ⟨A, c, h1, h2, h3⟩
  · exact Kd.R_reads hr
  · exact ⟨A, c, h1, h2, Kd.C_below h3 h.1⟩
theorem Env.drop (h : Env w0 W rd rows) {rows' : List (Value × List Int)} (hs : ∀ x ∈ rows', x ∈ rows) : Env w0 W rd rows' := ⟨h.1, h.2.1, fun x hx => h.2.2 x (hs x hx)⟩
theorem Env.rdr (h : Env w0 W (some (g, l, p)) rows) : RD w0 W g l p := h.2.1 _ rfl
/-- The calls. -/
theorem Env.new_ (h : Env w0 W none rows) (hx : (v, xs) ∈ rows) (hl : xs.length < 1000000000000) :
    Calls Try.prog 24 #[v] W fun e w' => ∃ g, e = .returned (.pointer (some ⟨g, 0, none⟩)) ∧ Env w0 w' (some (g, xs, 0)) rows := by
  obtain ⟨A, c, rfl, hc, hr⟩ := h.read hx
  refine (wire_New.calls A c xs W W (Below.refl _ _) hr hc hl).mono ?_
  rintro e w' ⟨g, rfl, hd, hb⟩
  exact ⟨g, rfl, h.reader hd hb⟩
theorem Env.same_ (h : Env w0 W rd rows) (hx : (v, xs) ∈ rows) (hy : (v', ys) ∈ rows) (k : Nat) (r : Bool) (hf : pyxref01_Same.f k xs ys = some r) :
    Calls Try.prog 30 #[v, v'] W fun e w' => e = .returned (.bool r) ∧ Env w0 w' rd rows := by
  obtain ⟨A, c, rfl, hc, hr⟩ := h.read hx
  obtain ⟨A', c', rfl, hc', hr'⟩ := h.read hy
  refine (pyxref01_Same.calls k A c xs A' c' ys r W hr hc hr' hc' hf).mono ?_
  rintro e w' ⟨rfl, hd⟩
  exact ⟨rfl, h.drawn hd⟩
theorem Env.wsame_ (h : Env w0 W rd rows) (hx : (v, xs) ∈ rows) (hy : (v', ys) ∈ rows) (r : Bool) (hf : wire_Same.f xs ys = some r) :
    Calls Try.prog 48 #[v, v'] W fun e w' => e = .returned (.bool r) ∧ Env w0 w' rd rows := by
  obtain ⟨A, c, rfl, hc, hr⟩ := h.read hx
  obtain ⟨A', c', rfl, hc', hr'⟩ := h.read hy
  refine (wire_Same.calls A c xs A' c' ys r W hr hc hr' hc' hf).mono ?_
  rintro e w' ⟨rfl, hd⟩
  exact ⟨rfl, h.drawn hd⟩
theorem Env.put_ (h : Env w0 W rd rows) (k : Nat) (n x : Int) (r1 : List Int) (r2 : Bool) (hf : wire_Put.f k n x = some (r1, r2)) :
    Calls Try.prog 33 #[.int .i64 n, .int .u64 x] W fun e w' => ∃ v, e = .returned (.tuple #[v, .bool r2]) ∧ Env w0 w' rd ((v, r1) :: rows) := by
  refine (wire_Put.calls k n x r1 r2 W hf).mono ?_
  rintro e w' ⟨v, rfl, hR, hb⟩
  exact ⟨v, rfl, h.made hb hR⟩
theorem Env.refput_ (h : Env w0 W rd rows) (k : Nat) (n x : Int) (r1 : List Int) (r2 : Bool) (hf : pyxref01_Put.f k n x = some (r1, r2)) :
    Calls Try.prog 34 #[.int .i64 n, .int .u64 x] W fun e w' => ∃ v, e = .returned (.tuple #[v, .bool r2]) ∧ Env w0 w' rd ((v, r1) :: rows) := by
  refine (pyxref01_Put.calls k n x r1 r2 W hf).mono ?_
  rintro e w' ⟨v, rfl, hR, hb⟩
  exact ⟨v, rfl, h.made hb hR⟩
theorem Env.left_ (h : Env w0 W (some (g, l, p)) rows) (r : Int) (hr : ((l.length - p : Nat) : Int) = r) :
    Calls Try.prog 32 #[.pointer (some ⟨g, 0, none⟩)] W fun e w' => e = .returned (.int .i64 r) ∧ Env w0 w' (some (g, l, p)) rows := by
  subst hr
  refine (left_q h.rdr).mono ?_
  rintro e w' ⟨rfl, m, rfl⟩
  exact ⟨rfl, h.drewN m⟩
theorem Env.at_ (h : Env w0 W (some (g, l, p)) rows) (r : Int) (hr : (p : Int) = r) :
    Calls Try.prog 31 #[.pointer (some ⟨g, 0, none⟩)] W fun e w' => e = .returned (.int .i64 r) ∧ Env w0 w' (some (g, l, p)) rows := by
  subst hr
  refine (at_q h.rdr).mono ?_
  rintro e w' ⟨rfl, rfl⟩
  exact ⟨rfl, h⟩
theorem Env.rest_ (h : Env w0 W (some (g, l, p)) rows) (ys : List Int) (hy : l.drop p = ys) :
    Calls Try.prog 29 #[.pointer (some ⟨g, 0, none⟩)] W fun e w' => ∃ v, e = .returned v ∧ Env w0 w' (some (g, l, l.length)) ((v, ys) :: rows) := by
  subst hy
  refine (rest_ok h.rdr).mono ?_
  rintro e w' ⟨v, rfl, hR, hd, hk⟩
  exact ⟨v, rfl, h.taken hR hd hk⟩
theorem Env.take_ (h : Env w0 W (some (g, l, p)) rows) (n : Int) (m : Nat) (e : (m : Int) = n) (hn : p + m ≤ l.length) (ys : List Int) (hy : (l.drop p).take m = ys) :
    Calls Try.prog 25 #[.pointer (some ⟨g, 0, none⟩), .int .i64 n] W fun e w' => ∃ v, e = .returned (.tuple #[v, .bool true]) ∧ Env w0 w' (some (g, l, p + m)) ((v, ys) :: rows) := by
  subst hy e
  refine (take_ok h.rdr m hn).mono ?_
  rintro e w' ⟨v, rfl, hR, hd, hk⟩
  exact ⟨v, rfl, h.taken hR hd hk⟩
theorem Env.takeno_ (h : Env w0 W (some (g, l, p)) rows) (n : Int) (hn : n < 0 ∨ ((l.length - p : Nat) : Int) < n) :
    Calls Try.prog 25 #[.pointer (some ⟨g, 0, none⟩), .int .i64 n] W fun e w' => e = .returned (.tuple #[.slice none 0 0, .bool false]) ∧ Env w0 w' (some (g, l, p)) rows := by
  refine (take_no h.rdr n hn).mono ?_
  rintro e w' ⟨rfl, m, rfl⟩
  exact ⟨rfl, h.drewN m⟩
theorem Env.word_ (h : Env w0 W (some (g, l, p)) rows) (hby : ∀ x ∈ l, 0 ≤ x ∧ x < 256) (n : Int) (m : Nat) (e : (m : Int) = n) (hn8 : m ≤ 8) (hw : wire_width.f n = some true) (hn : p + m ≤ l.length) (x : Int) (hx : v256 ((l.drop p).take m) = x) :
    Calls Try.prog 27 #[.pointer (some ⟨g, 0, none⟩), .int .i64 n] W fun e w' => e = .returned (.tuple #[.int .u64 x, .bool true]) ∧ Env w0 w' (some (g, l, p + m)) rows := by
  subst hx e
  refine (word_ok h.rdr hby m hn8 hw hn).mono ?_
  rintro e w' ⟨rfl, hd, hk⟩
  exact ⟨rfl, h.keep hd hk⟩
theorem Env.wordno_ (h : Env w0 W (some (g, l, p)) rows) (n : Int) (hw : wire_width.f n = some true) (hn : ((l.length - p : Nat) : Int) < n) :
    Calls Try.prog 27 #[.pointer (some ⟨g, 0, none⟩), .int .i64 n] W fun e w' => e = .returned (.tuple #[.int .u64 0, .bool false]) ∧ Env w0 w' (some (g, l, p)) rows := by
  refine (word_no h.rdr n hw hn).mono ?_
  rintro e w' ⟨rfl, m, rfl⟩
  exact ⟨rfl, h.drewN m⟩
theorem Env.wordbad_ (h : Env w0 W rd rows) (r : Option Addr) (n : Int) (hw : wire_width.f n = some false) :
    Calls Try.prog 27 #[.pointer r, .int .i64 n] W fun e w' => e = .returned (.tuple #[.int .u64 0, .bool false]) ∧ Env w0 w' rd rows := by
  refine (word_bad r n hw W).mono ?_
  rintro e w' ⟨rfl, m, rfl⟩
  exact ⟨rfl, h.drewN m⟩
end
theorem lit_R (W : World) (x : Int) : Kd.R (Kd.int .u8) 5 (W.alloc (.cells #[.int .u8 x] 5)) W.heap.size (fun _ => True) (.slice (some ⟨W.heap.size, 0, none⟩) 1 1) [x] :=
  ⟨fun _ _ => trivial, [.int .u8 x], own_lit_of W W.heap.size 5 (enc := Value.int .u8) [x] (Nat.le_refl _) (by simp), Reps.one (show Kd.M (Kd.int .u8) _ _ _ x [.int .u8 x] from rfl) (Reps.none _ _)⟩
theorem Env.lit1 {w0 W : World} {rd : Option (Nat × List Int × Nat)} {rows : List (Value × List Int)} (h : Env w0 W rd rows) (x : Int) : Env w0 (W.alloc (.cells #[.int .u8 x] 5)) rd ((.slice (some ⟨W.heap.size, 0, none⟩) 1 1, [x]) :: rows) :=
  h.made (below_alloc (Below.refl _ _) _) (lit_R W x)
def pyxlaw01_awake.f : Option Bool := some true
theorem put258 : wire_Put.f 20 2 258 = some ([1, 2], true) := by kernel_rfl
theorem put256 : wire_Put.f 20 1 256 = some ([], false) := by kernel_rfl
theorem w_true2 : wire_width.f 2 = some true := by kernel_rfl
set_option maxHeartbeats 4000000 in
set_option maxRecDepth 100000 in
theorem pyxlaw01_awake.calls (r : Bool) (w : World) (h : pyxlaw01_awake.f = some r) :
    Calls Try.prog 23 #[] w fun e w' => e = .returned (.bool r) ∧ Below w.heap.size w w' := by
  obtain rfl := Option.some.inj h
  have HE := Env.start w
  go_enter Try.func23, Try.ntmps23
  go_wp2_with (first | (go_at_call 33; ((with_reducible refine (HE.put_ 20 2 258 [1, 2] true put258).mono ?_); rintro e _ ⟨vb, rfl, HE⟩)) | (go_at_call 33; ((with_reducible refine (HE.put_ 20 1 256 [] false put256).mono ?_); rintro e _ ⟨vn, rfl, HE⟩)) | ((with_reducible refine gate_dst (N := 18) rfl ?_); refine Kd.R_lit (Kd.int .u8) _ 5 ?hg (N := 18) ?hd (xs := ([1, 2, 3] : List Int)) (inner := [.int .u8 1, .int .u8 2, .int .u8 3]) (ok := fun _ => True) (okp := fun _ => True) ?hr ?hp (fun _ hk => hk) trivial (Below.refl _ _) (Nat.le_refl _) (by simp) ?_; (case hd => rfl); (case hg => rfl); (case hr => first | (go_simp; done) | (go_simp; rfl)); (case hp => exact (Reps.one (show Kd.M (Kd.int .u8) _ _ _ 1 [.int .u8 1] from rfl) (Reps.one (show Kd.M (Kd.int .u8) _ _ _ 2 [.int .u8 2] from rfl) (Reps.one (show Kd.M (Kd.int .u8) _ _ _ 3 [.int .u8 3] from rfl) (Reps.none _ _))))); intro vl18 wl18 ho hb hg_ hnew_; clear hg_ hnew_; have HE := Env.made HE hb ho; clear ho hb) | (go_at_call 24; ((with_reducible refine (HE.new_ (xs := [1, 2, 3]) (by simp) (by decide)).mono ?_); rintro e _ ⟨g, rfl, HE⟩)) | (go_at_call 27; ((with_reducible refine (HE.word_ (p := 0) (by decide) 2 2 rfl (by decide) w_true2 (by decide) 258 (by decide)).mono ?_); rintro e _ ⟨rfl, HE⟩)) | (go_at_call 27; ((with_reducible refine (HE.wordno_ (p := 0 + 2) 2 w_true2 (by decide)).mono ?_); rintro e _ ⟨rfl, HE⟩)) | ((with_reducible refine gate_dst (N := 33) rfl ?_); refine Kd.R_lit (Kd.int .u8) _ 5 ?hg (N := 33) ?hd (xs := ([1, 2] : List Int)) (inner := [.int .u8 1, .int .u8 2]) (ok := fun _ => True) (okp := fun _ => True) ?hr ?hp (fun _ hk => hk) trivial (Below.refl _ _) (Nat.le_refl _) (by simp) ?_; (case hd => rfl); (case hg => rfl); (case hr => first | (go_simp; done) | (go_simp; rfl)); (case hp => exact (Reps.one (show Kd.M (Kd.int .u8) _ _ _ 1 [.int .u8 1] from rfl) (Reps.one (show Kd.M (Kd.int .u8) _ _ _ 2 [.int .u8 2] from rfl) (Reps.none _ _)))); intro vl33 wl33 ho hb hg_ hnew_; clear hg_ hnew_; have HE := Env.made HE hb ho; clear ho hb) | (go_at_call 30; ((with_reducible refine (HE.same_ (v := vb) (v' := vl33) (xs := [1, 2]) (ys := [1, 2]) (by simp) (by simp) 20 true (by kernel_rfl)).mono ?_); rintro e _ ⟨rfl, HE⟩)) | (go_at_call 31; ((with_reducible refine (HE.at_ (p := 0 + 2) 2 (by decide)).mono ?_); rintro e _ ⟨rfl, HE⟩)) | (go_at_call 32; ((with_reducible refine (HE.left_ (p := 0 + 2) 1 (by decide)).mono ?_); rintro e _ ⟨rfl, HE⟩)) | (go_at_call 29; ((with_reducible refine (HE.rest_ (p := 0 + 2) [3] (by decide)).mono ?_); rintro e _ ⟨vr, rfl, HE⟩; have HE := Env.nil_ HE)) | (go_at_call 30; ((with_reducible refine ((HE.lit1 3).same_ (v := vr) (xs := [3]) (ys := [3]) (by simp) (by simp) 20 true (by kernel_rfl)).mono ?_); rintro e _ ⟨rfl, HE⟩)) | (go_at_call 32; ((with_reducible refine (HE.left_ (p := [1, 2, 3].length) 0 (by decide)).mono ?_); rintro e _ ⟨rfl, HE⟩)) | (go_at_call 48; ((with_reducible refine (HE.wsame_ (v := vb) (v' := vb) (xs := [1, 2]) (ys := [1, 2]) (by simp) (by simp) true (by kernel_rfl)).mono ?_); rintro e _ ⟨rfl, HE⟩)) | (go_at_call 48; ((with_reducible refine (HE.wsame_ (v := vb) (v' := .slice none 0 0) (xs := [1, 2]) (ys := []) (by simp) (by simp) false (by kernel_rfl)).mono ?_); rintro e _ ⟨rfl, HE⟩)))
  go_ret
  exact ⟨rfl, HE.all⟩

end Go.Proofs.Ytifejkgppdjeoaa.PWire
