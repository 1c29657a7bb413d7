-- Written by a program: a copy of the kit's print, turned by this session (wip/xprint).
import Derived.Test.YtifejkgppdjeoaaPWirex0
import Derived.Test.YtifejkgppdjeoaaPWirex1
import Derived.Test.YtifejkgppdjeoaaPWirex2
import Derived.Test.YtifejkgppdjeoaaPWirex3
namespace Go.Proofs.Ytifejkgppdjeoaa.PWire
open Go.RowKit Go.Proofs.YtifejkgppdjeoaaW.PrintWords Go.Proofs.YtifejkgppdjeoaaW.PrintLast Go.Proofs.YtifejkgppdjeoaaW.PrintMore
set_option linter.unusedVariables false
set_option linter.unusedSimpArgs false

/-! ### pyxlaw01_WirePuts: function 7 -/
-- PLAIN
theorem tdiv256 (x : Int) (h0 : 0 ≤ x) : Int.tdiv x 256 = x / 256 := by rw [Int.tdiv_eq_ediv_of_nonneg h0]
theorem tmod256 (x : Int) (h0 : 0 ≤ x) : Int.tmod x 256 = x % 256 := by rw [Int.tmod_eq_emod_of_nonneg h0]
theorem wrap_u64_in (x : Int) (h0 : 0 ≤ x) (h1 : x < 18446744073709551616) : IntKind.u64.wrap x = x := by rw [IntKind.wrap_u64]; omega
theorem put1 (x : Int) (h0 : 0 ≤ x) (h1 : x < 256) : wire_Put.f 20 1 x = some ([x % 256], true) := by
  have e : x / 256 = 0 := Int.ediv_eq_zero_of_lt h0 (by omega)
  simp [wire_Put.f, wire_width.f, wire_Put.j0, wire_Put.l0, wrap64, shr, IntKind.bits, e]
theorem nput1 (x : Int) (h0 : 0 ≤ x) (h1 : 256 ≤ x) : wire_Put.f 20 1 x = some ([], false) := by
  have e : 0 < x / 256 := by omega
  simp [wire_Put.f, wire_width.f, wire_Put.j0, wire_Put.l0, wrap64, shr, IntKind.bits, e]
theorem rput1 (x : Int) (h0 : 0 ≤ x) (h2 : x < 18446744073709551616) : pyxref01_Put.f 20 1 x = if x < 256 then some ([x % 256], true) else some ([], false) := by
  have w0 : IntKind.u64.wrap (Int.tdiv x 256) = x / 256 := by rw [tdiv256 _ (by omega), wrap_u64_in _ (by omega) (by omega)]; try omega
  have t0 : Int.tmod x 256 % 256 = x % 256 := by rw [tmod256 _ (by omega)]; try omega
  have e : (x / 256 > 0) = ¬ (x < 256) := by apply propext; omega
  simp only [pyxref01_Put.f, pyxref01_Put.j0]
  simp [pyxref01_Put.l0, wrap64, w0, t0]
  by_cases c : x < 256
  · have : x / 256 = 0 := by omega
    simp [c, this]
  · have : 0 < x / 256 := by omega
    simp [c, this]
theorem put2 (x : Int) (h0 : 0 ≤ x) (h1 : x < 65536) : wire_Put.f 20 2 x = some ([x / 256 % 256, x % 256], true) := by
  have e : x / 65536 = 0 := Int.ediv_eq_zero_of_lt h0 (by omega)
  simp [wire_Put.f, wire_width.f, wire_Put.j0, wire_Put.l0, wrap64, shr, IntKind.bits, e]
theorem nput2 (x : Int) (h0 : 0 ≤ x) (h1 : 65536 ≤ x) : wire_Put.f 20 2 x = some ([], false) := by
  have e : 0 < x / 65536 := by omega
  simp [wire_Put.f, wire_width.f, wire_Put.j0, wire_Put.l0, wrap64, shr, IntKind.bits, e]
theorem rput2 (x : Int) (h0 : 0 ≤ x) (h2 : x < 18446744073709551616) : pyxref01_Put.f 20 2 x = if x < 65536 then some ([x / 256 % 256, x % 256], true) else some ([], false) := by
  have w0 : IntKind.u64.wrap (Int.tdiv x 256) = x / 256 := by rw [tdiv256 _ (by omega), wrap_u64_in _ (by omega) (by omega)]; try omega
  have t0 : Int.tmod x 256 % 256 = x % 256 := by rw [tmod256 _ (by omega)]; try omega
  have w1 : IntKind.u64.wrap (Int.tdiv (x / 256) 256) = x / 65536 := by rw [tdiv256 _ (by omega), wrap_u64_in _ (by omega) (by omega)]; try omega
  have t1 : Int.tmod (x / 256) 256 % 256 = x / 256 % 256 := by rw [tmod256 _ (by omega)]; try omega
  have e : (x / 65536 > 0) = ¬ (x < 65536) := by apply propext; omega
  simp only [pyxref01_Put.f, pyxref01_Put.j0]
  simp [pyxref01_Put.l0, wrap64, w0, t0, w1, t1]
  by_cases c : x < 65536
  · have : x / 65536 = 0 := by omega
    simp [c, this]
  · have : 0 < x / 65536 := by omega
    simp [c, this]
theorem put4 (x : Int) (h0 : 0 ≤ x) (h1 : x < 4294967296) : wire_Put.f 20 4 x = some ([x / 16777216 % 256, x / 65536 % 256, x / 256 % 256, x % 256], true) := by
  have e : x / 4294967296 = 0 := Int.ediv_eq_zero_of_lt h0 (by omega)
  simp [wire_Put.f, wire_width.f, wire_Put.j0, wire_Put.l0, wrap64, shr, IntKind.bits, e]
theorem nput4 (x : Int) (h0 : 0 ≤ x) (h1 : 4294967296 ≤ x) : wire_Put.f 20 4 x = some ([], false) := by
  have e : 0 < x / 4294967296 := by omega
  simp [wire_Put.f, wire_width.f, wire_Put.j0, wire_Put.l0, wrap64, shr, IntKind.bits, e]
theorem rput4 (x : Int) (h0 : 0 ≤ x) (h2 : x < 18446744073709551616) : pyxref01_Put.f 20 4 x = if x < 4294967296 then some ([x / 16777216 % 256, x / 65536 % 256, x / 256 % 256, x % 256], true) else some ([], false) := by
  have w0 : IntKind.u64.wrap (Int.tdiv x 256) = x / 256 := by rw [tdiv256 _ (by omega), wrap_u64_in _ (by omega) (by omega)]; try omega
  have t0 : Int.tmod x 256 % 256 = x % 256 := by rw [tmod256 _ (by omega)]; try omega
  have w1 : IntKind.u64.wrap (Int.tdiv (x / 256) 256) = x / 65536 := by rw [tdiv256 _ (by omega), wrap_u64_in _ (by omega) (by omega)]; try omega
  have t1 : Int.tmod (x / 256) 256 % 256 = x / 256 % 256 := by rw [tmod256 _ (by omega)]; try omega
  have w2 : IntKind.u64.wrap (Int.tdiv (x / 65536) 256) = x / 16777216 := by rw [tdiv256 _ (by omega), wrap_u64_in _ (by omega) (by omega)]; try omega
  have t2 : Int.tmod (x / 65536) 256 % 256 = x / 65536 % 256 := by rw [tmod256 _ (by omega)]; try omega
  have w3 : IntKind.u64.wrap (Int.tdiv (x / 16777216) 256) = x / 4294967296 := by rw [tdiv256 _ (by omega), wrap_u64_in _ (by omega) (by omega)]; try omega
  have t3 : Int.tmod (x / 16777216) 256 % 256 = x / 16777216 % 256 := by rw [tmod256 _ (by omega)]; try omega
  have e : (x / 4294967296 > 0) = ¬ (x < 4294967296) := by apply propext; omega
  simp only [pyxref01_Put.f, pyxref01_Put.j0]
  simp [pyxref01_Put.l0, wrap64, w0, t0, w1, t1, w2, t2, w3, t3]
  by_cases c : x < 4294967296
  · have : x / 4294967296 = 0 := by omega
    simp [c, this]
  · have : 0 < x / 4294967296 := by omega
    simp [c, this]
theorem put8 (x : Int) (h0 : 0 ≤ x) (h1 : x < 18446744073709551616) : wire_Put.f 20 8 x = some ([x / 72057594037927936 % 256, x / 281474976710656 % 256, x / 1099511627776 % 256, x / 4294967296 % 256, x / 16777216 % 256, x / 65536 % 256, x / 256 % 256, x % 256], true) := by
  have e : x / 18446744073709551616 = 0 := Int.ediv_eq_zero_of_lt h0 (by omega)
  simp [wire_Put.f, wire_width.f, wire_Put.j0, wire_Put.l0, wrap64, shr, IntKind.bits, e]
theorem rput8 (x : Int) (h0 : 0 ≤ x) (h2 : x < 18446744073709551616) : pyxref01_Put.f 20 8 x = if x < 18446744073709551616 then some ([x / 72057594037927936 % 256, x / 281474976710656 % 256, x / 1099511627776 % 256, x / 4294967296 % 256, x / 16777216 % 256, x / 65536 % 256, x / 256 % 256, x % 256], true) else some ([], false) := by
  have w0 : IntKind.u64.wrap (Int.tdiv x 256) = x / 256 := by rw [tdiv256 _ (by omega), wrap_u64_in _ (by omega) (by omega)]; try omega
  have t0 : Int.tmod x 256 % 256 = x % 256 := by rw [tmod256 _ (by omega)]; try omega
  have w1 : IntKind.u64.wrap (Int.tdiv (x / 256) 256) = x / 65536 := by rw [tdiv256 _ (by omega), wrap_u64_in _ (by omega) (by omega)]; try omega
  have t1 : Int.tmod (x / 256) 256 % 256 = x / 256 % 256 := by rw [tmod256 _ (by omega)]; try omega
  have w2 : IntKind.u64.wrap (Int.tdiv (x / 65536) 256) = x / 16777216 := by rw [tdiv256 _ (by omega), wrap_u64_in _ (by omega) (by omega)]; try omega
  have t2 : Int.tmod (x / 65536) 256 % 256 = x / 65536 % 256 := by rw [tmod256 _ (by omega)]; try omega
  have w3 : IntKind.u64.wrap (Int.tdiv (x / 16777216) 256) = x / 4294967296 := by rw [tdiv256 _ (by omega), wrap_u64_in _ (by omega) (by omega)]; try omega
  have t3 : Int.tmod (x / 16777216) 256 % 256 = x / 16777216 % 256 := by rw [tmod256 _ (by omega)]; try omega
  have w4 : IntKind.u64.wrap (Int.tdiv (x / 4294967296) 256) = x / 1099511627776 := by rw [tdiv256 _ (by omega), wrap_u64_in _ (by omega) (by omega)]; try omega
  have t4 : Int.tmod (x / 4294967296) 256 % 256 = x / 4294967296 % 256 := by rw [tmod256 _ (by omega)]; try omega
  have w5 : IntKind.u64.wrap (Int.tdiv (x / 1099511627776) 256) = x / 281474976710656 := by rw [tdiv256 _ (by omega), wrap_u64_in _ (by omega) (by omega)]; try omega
  have t5 : Int.tmod (x / 1099511627776) 256 % 256 = x / 1099511627776 % 256 := by rw [tmod256 _ (by omega)]; try omega
  have w6 : IntKind.u64.wrap (Int.tdiv (x / 281474976710656) 256) = x / 72057594037927936 := by rw [tdiv256 _ (by omega), wrap_u64_in _ (by omega) (by omega)]; try omega
  have t6 : Int.tmod (x / 281474976710656) 256 % 256 = x / 281474976710656 % 256 := by rw [tmod256 _ (by omega)]; try omega
  have w7 : IntKind.u64.wrap (Int.tdiv (x / 72057594037927936) 256) = x / 18446744073709551616 := by rw [tdiv256 _ (by omega), wrap_u64_in _ (by omega) (by omega)]; try omega
  have t7 : Int.tmod (x / 72057594037927936) 256 % 256 = x / 72057594037927936 % 256 := by rw [tmod256 _ (by omega)]; try omega
  have e : (x / 18446744073709551616 > 0) = ¬ (x < 18446744073709551616) := by apply propext; omega
  simp only [pyxref01_Put.f, pyxref01_Put.j0]
  simp [pyxref01_Put.l0, wrap64, w0, t0, w1, t1, w2, t2, w3, t3, w4, t4, w5, t5, w6, t6, w7, t7]
  by_cases c : x < 18446744073709551616
  · have : x / 18446744073709551616 = 0 := by omega
    simp [c, this]
  · have : 0 < x / 18446744073709551616 := by omega
    simp [c, this]
theorem bad_put (n x : Int) (h : ¬ (n = 1 ∨ n = 2 ∨ n = 4 ∨ n = 8)) : wire_Put.f 20 n x = some ([], false) ∧ pyxref01_Put.f 20 n x = some ([], false) ∧ wire_width.f n = some false := by
  have a1 : n ≠ 1 := fun e => h (.inl e)
  have a2 : n ≠ 2 := fun e => h (.inr (.inl e))
  have a3 : n ≠ 4 := fun e => h (.inr (.inr (.inl e)))
  have a4 : n ≠ 8 := fun e => h (.inr (.inr (.inr e)))
  refine ⟨?_, ?_, ?_⟩
  · simp [wire_Put.f, wire_width.f, wire_Put.j0, a1, a2, a3, a4]
  · simp [pyxref01_Put.f, pyxref01_Put.j0, a1, a2, a3, a4]
  · simp [wire_width.f, a1, a2, a3, a4]
/-- Either both write the word, or both refuse it. -/
theorem put_both (n x : Int) (h0 : 0 ≤ x) (h1 : x < 18446744073709551616) :
    (∃ bs, wire_Put.f 20 n x = some (bs, true) ∧ pyxref01_Put.f 20 n x = some (bs, true) ∧ wire_width.f n = some true ∧ (bs.length : Int) = n ∧ bs.length ≤ 8 ∧ v256 bs = x ∧ (∀ y ∈ bs, 0 ≤ y ∧ y < 256)) ∨
    (wire_Put.f 20 n x = some ([], false) ∧ pyxref01_Put.f 20 n x = some ([], false)) := by
  by_cases hn : n = 1 ∨ n = 2 ∨ n = 4 ∨ n = 8
  · rcases hn with rfl | rfl | rfl | rfl
    · by_cases c : x < 256
      · exact .inl ⟨_, put1 x h0 c, (rput1 x h0 h1).trans (by rw [if_pos c]), rfl, rfl, by simp, by simp [v256]; omega, by simp; omega⟩
      · exact .inr ⟨nput1 x h0 (by omega), (rput1 x h0 h1).trans (by rw [if_neg c])⟩
    · by_cases c : x < 65536
      · exact .inl ⟨_, put2 x h0 c, (rput2 x h0 h1).trans (by rw [if_pos c]), rfl, rfl, by simp, by simp [v256]; omega, by simp; omega⟩
      · exact .inr ⟨nput2 x h0 (by omega), (rput2 x h0 h1).trans (by rw [if_neg c])⟩
    · by_cases c : x < 4294967296
      · exact .inl ⟨_, put4 x h0 c, (rput4 x h0 h1).trans (by rw [if_pos c]), rfl, rfl, by simp, by simp [v256]; omega, by simp; omega⟩
      · exact .inr ⟨nput4 x h0 (by omega), (rput4 x h0 h1).trans (by rw [if_neg c])⟩
    · exact .inl ⟨_, put8 x h0 h1, (rput8 x h0 h1).trans (by rw [if_pos h1]), rfl, rfl, by simp, by simp [v256]; omega, by simp; omega⟩
  · exact .inr ⟨(bad_put n x hn).1, (bad_put n x hn).2.1⟩
/-- A list has the same bytes as itself. -/
theorem refsame_go (xs : List Int) (hx : xs.length ≤ 9000000000000000000) : ∀ (d : Nat) (k : Nat) (i : Int), 0 ≤ i → i ≤ xs.length → (xs.length : Int) - i = d → d < k → pyxref01_Same.l0 k xs xs i = some true := by
  intro d
  induction d with
  | zero =>
    intro k i h0 h1 hd hk
    obtain ⟨k, rfl⟩ : ∃ m, k = m + 1 := ⟨k - 1, by omega⟩
    rw [pyxref01_Same.l0, if_neg (by omega)]
  | succ d ih =>
    intro k i h0 h1 hd hk
    obtain ⟨k, rfl⟩ : ∃ m, k = m + 1 := ⟨k - 1, by omega⟩
    have hw : wrap64 (i + 1) = i + 1 := by unfold wrap64; omega
    rw [pyxref01_Same.l0, if_pos (by omega), if_pos h0, if_pos (by omega), if_pos rfl, hw]
    exact ih k (i + 1) (by omega) (by omega) (by omega) (by omega)
theorem refsame_self (xs : List Int) (hx : xs.length ≤ 9000000000000000000) : pyxref01_Same.f (xs.length + 1) xs xs = some true := by
  rw [pyxref01_Same.f, if_pos rfl]
  exact refsame_go xs hx xs.length _ 0 (by omega) (by omega) (by omega) (by omega)
def pyxlaw01_WirePuts.f (a0 a1 : Int) : Option Bool := if 0 ≤ a1 ∧ a1 < 18446744073709551616 then some true else none
set_option maxHeartbeats 4000000 in
set_option maxRecDepth 100000 in
theorem pyxlaw01_WirePuts.calls (a0 a1 : Int) (r : Bool) (w : World) (h : pyxlaw01_WirePuts.f a0 a1 = some r) (hr : r = true) :
    Calls Try.prog 7 #[.int .i64 a0, .int .u64 a1] w fun e w' => e = .returned (.bool r) ∧ Below w.heap.size w w' := by
  subst hr
  rw [pyxlaw01_WirePuts.f] at h
  by_cases c : 0 ≤ a1 ∧ a1 < 18446744073709551616
  · have HE := Env.start w
    rcases put_both a0 a1 c.1 c.2 with ⟨bs, hp, hq, hw, hl, hl8, hv, hb⟩ | ⟨hp, hq⟩
    · have hs := refsame_self bs (by omega)
      have HP := Aside0.mk hp
      have HQ := Aside0.mk hq
      have HW := Aside0.mk hw
      have HL := Aside0.mk hl
      have HV := Aside0.mk hv
      have HB := Aside0.mk hb
      have HS := Aside0.mk hs
      have e1 : (a1 == a1) = true := beq_self_eq_true a1
      clear hp hq hw hl hv hb hs h c
      go_enter Try.func7, Try.ntmps7
      go_wp2_with (first | (go_at_call 23; ((with_reducible refine (pyxlaw01_awake.calls true _ rfl).mono ?_); rintro e _ ⟨rfl, hb⟩; have HE := HE.below hb; clear hb)) | (go_at_call 33; ((with_reducible refine (HE.put_ 20 a0 a1 bs true HP.out).mono ?_); rintro e _ ⟨vb, rfl, HE⟩)) | (go_at_call 34; ((with_reducible refine (HE.refput_ 20 a0 a1 bs true HQ.out).mono ?_); rintro e _ ⟨vn, rfl, HE⟩)) | (go_at_call 30; ((with_reducible refine (HE.same_ (v := vb) (v' := vn) (xs := bs) (ys := bs) (by simp) (by simp) (bs.length + 1) true HS.out).mono ?_); rintro e _ ⟨rfl, HE⟩)) | (go_at_call 24; ((with_reducible refine (HE.new_ (v := vb) (xs := bs) (by simp) (by omega)).mono ?_); rintro e _ ⟨g, rfl, HE⟩)) | (go_at_call 27; ((with_reducible refine (HE.word_ (p := 0) HB.out a0 bs.length HL.out hl8 HW.out (by omega) a1 (by rw [List.drop_zero, List.take_length]; exact HV.out)).mono ?_); rintro e _ ⟨rfl, HE⟩)) | (go_at_call 32; ((with_reducible refine (HE.left_ (p := 0 + bs.length) 0 (by omega)).mono ?_); rintro e _ ⟨rfl, HE⟩)))
      go_ret
      exact ⟨rfl, HE.all⟩
    · have hs : pyxref01_Same.f 1 [] [] = some true := refsame_self [] (by simp)
      have HP := Aside0.mk hp
      have HQ := Aside0.mk hq
      have HS := Aside0.mk hs
      clear hp hq hs h c
      go_enter Try.func7, Try.ntmps7
      go_wp2_with (first | (go_at_call 23; ((with_reducible refine (pyxlaw01_awake.calls true _ rfl).mono ?_); rintro e _ ⟨rfl, hb⟩; have HE := HE.below hb; clear hb)) | (go_at_call 33; ((with_reducible refine (HE.put_ 20 a0 a1 [] false HP.out).mono ?_); rintro e _ ⟨vb, rfl, HE⟩; obtain ⟨Ab, cb, rfl, -, -⟩ := HE.read (xs := []) (.head _))) | (go_at_call 34; ((with_reducible refine (HE.refput_ 20 a0 a1 [] false HQ.out).mono ?_); rintro e _ ⟨vn, rfl, HE⟩)) | (go_at_call 30; ((with_reducible refine (HE.same_ (v := .slice Ab 0 cb) (v' := vn) (xs := []) (ys := []) (by simp) (by simp) 1 true HS.out).mono ?_); rintro e _ ⟨rfl, HE⟩)))
      go_ret
      exact ⟨rfl, HE.all⟩
  · rw [if_neg c] at h
    cases h

/-- THE ONE PURE STATEMENT of pyxlaw01_WirePuts: yours. -/
def pyxlaw01_WirePuts.Pure : Prop := ∀ (a0 : Int) (a1 : Int), (Lit.int .i64 a0).wf = true → (Lit.int .u64 a1).wf = true → pyxlaw01_WirePuts.f a0 a1 = some true
theorem pyxlaw01_WirePuts.walk (P : pyxlaw01_WirePuts.Pure) (a0 : Int) (a1 : Int) (w : World) (w0 : (Lit.int .i64 a0).wf = true) (w1 : (Lit.int .u64 a1).wf = true) :
    Calls Try.prog 7 #[.int .i64 a0, .int .u64 a1] w fun e w' => e = .returned (.bool true) ∧ Below w.heap.size w w' := by
  have h := P a0 a1 w0 w1
  refine (pyxlaw01_WirePuts.calls a0 a1 true w h rfl).mono ?_
  rintro e w' ⟨rfl, hd⟩
  exact ⟨rfl, hd⟩

end Go.Proofs.Ytifejkgppdjeoaa.PWire
