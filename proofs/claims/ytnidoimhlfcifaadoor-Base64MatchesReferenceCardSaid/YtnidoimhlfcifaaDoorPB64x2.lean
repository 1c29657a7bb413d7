-- Written by a program: a copy of the kit's print, turned by this session (wip/xprint).
import Derived.Test.YtnidoimhlfcifaaDoorPB64x0
import Derived.Test.YtnidoimhlfcifaaDoorPB64x1
namespace Go.Proofs.YtnidoimhlfcifaaDoor.PB64
open Go.RowKit Go.Proofs.YtnidoimhlfcifaaDoorW.PrintWords Go.Proofs.YtnidoimhlfcifaaDoorW.PrintLast Go.Proofs.YtnidoimhlfcifaaDoorW.PrintMore
set_option linter.unusedVariables false
set_option linter.unusedSimpArgs false

/-! ### base64_Encode: function 13 -/
-- PLAIN
def b64u (z : Int) : UInt8 := z.toNat.toUInt8
def b64d (t : ByteArray) (v : Int) : UInt8 := b64u (bt t (v % 64))
def b64pad (a : Int) : List UInt8 := if a = 1 then [61] else []
/-- The digits of an encoding, by groups of three bytes. -/
def b64enc (a : Int) (t : ByteArray) : List Int → List UInt8
  | x :: y :: z :: r => b64d t (x / 4) :: b64d t (x * 16 + y / 16) :: b64d t (y * 4 + z / 64) :: b64d t z :: b64enc a t r
  | [x, y] => b64d t (x / 4) :: b64d t (x * 16 + y / 16) :: b64d t (y * 4) :: b64pad a
  | [x] => b64d t (x / 4) :: b64d t (x * 16) :: (b64pad a ++ b64pad a)
  | [] => []
def base64_Encode.f (a0 : Int) (l1 : List Int) : Option ByteArray := (base64_table.f a0).bind fun t => if t.data.toList = [] then some ⟨#[]⟩ else (if l1.length ≤ 1000000000 then (if t.size = 64 then (if ∀ x ∈ l1, 0 ≤ x ∧ x < 256 then some ⟨(b64enc a0 t l1).toArray⟩ else none) else none) else none)
theorem bld_zero (w : World) : Lib.IsBuilder 67 5 w.heap.size w.heap.size [] (w.alloc (.cells #[.pointer none, .slice none 0 0] 67)) := by
  refine .inl ⟨Nat.le_refl _, .slice none 0 0, ?_, ?_, ?_⟩
  · exact heap_alloc_new w _
  · exact own_nil _ _ _ _
  · simp [Value.ownBlock]
theorem b64u_nat {z : Int} (h0 : 0 ≤ z) (h1 : z < 256) : ((b64u z).toNat : Int) = z := by
  unfold b64u
  rw [show z.toNat.toUInt8.toNat = z.toNat % 256 from by simp [Nat.toUInt8, UInt8.toNat_ofNat']]
  omega
theorem bt_bd (t : ByteArray) (i : Int) : 0 ≤ bt t i ∧ bt t i < 256 := by
  unfold bt
  split
  · rename_i h
    have := (t[i.toNat]'h).toNat_lt
    omega
  · omega
theorem bld_put {T e B b : Nat} {l : List UInt8} {w : World} {z : Int} (h0 : 0 ≤ z) (h1 : z < 256) (h : Lib.BuilderAt T e B b (.pointer (some ⟨b, 0, none⟩)) (Lib.byteCells l ++ [.int .u8 z]) w) : Lib.IsBuilder T e B b (Lib.byteCells (l ++ [b64u z])) w := by
  refine .inr ?_
  have e : Lib.byteCells (l ++ [b64u z]) = Lib.byteCells l ++ [.int .u8 z] := by
    simp [Lib.byteCells, b64u_nat h0 h1]
  rw [e]
  exact h
theorem bld_len (l : List UInt8) : (Lib.byteCells l).length = l.length := by simp [Lib.byteCells]
theorem and63 {x : Int} (h0 : 0 ≤ x) (h1 : x < 9223372036854775808) : Go.bits .and .i64 x 63 = x % 64 := bits_mask .i64 63 (by decide) (fun n a b => by rw [IntKind.wrap_i64]; rw [show (2 : Int) ^ 63 = 9223372036854775808 from rfl] at b; omega) 6 (by decide) x h0 (by simpa using h1)
theorem or8 {x y : Int} (h0 : 0 ≤ x) (h1 : x < 65536) (hy0 : 0 ≤ y) (hy1 : y < 256) : Go.bits .or .i64 (x * 256) y = x * 256 + y := bits_join .i64 63 (by decide) (fun n a b => by rw [IntKind.wrap_i64]; rw [show (2 : Int) ^ 63 = 9223372036854775808 from rfl] at b; omega) 8 (x * 256) y (by omega) (by rw [show (2 : Int) ^ 8 = 256 from rfl]; omega) (by rw [show (2 : Int) ^ 63 = 9223372036854775808 from rfl]; omega) hy0 (by rw [show (2 : Int) ^ 8 = 256 from rfl]; omega) (by rw [show (2 : Int) ^ 63 = 9223372036854775808 from rfl]; omega)
theorem or0 {y : Int} (hy0 : 0 ≤ y) (hy1 : y < 256) : Go.bits .or .i64 0 y = y := by have := or8 (x := 0) (by omega) (by omega) hy0 hy1; simpa using this
set_option maxHeartbeats 8000000 in
set_option maxRecDepth 100000 in
theorem b64_walk (a0 : Int) (A1 : Option Addr) (c1 : Nat) (l1 : List Int) (t : ByteArray) (w : World) (hr1 : Kd.C (Kd.int .u8) w A1 l1.length l1) (hc1 : l1.length ≤ c1) (ht : base64_table.f a0 = some t) (hne : (t.toList == ([] : List UInt8)) = false) (h64 : t.size = 64) (hlen : l1.length ≤ 1000000000) (hby : ∀ x ∈ l1, 0 ≤ x ∧ x < 256) :
    Calls Tryd.prog 13 #[.int .i64 a0, .slice A1 l1.length c1] w fun e w' => e = .returned (.string ⟨(b64enc a0 t l1).toArray⟩) ∧ Below w.heap.size w w' := by
  have HT := Aside0.mk ht
  clear ht
  have H64 := Aside0.mk h64
  clear h64
  have HR := Aside0.mk hr1
  clear hr1
  have HLEN := Aside0.mk hlen
  have HC := Aside0.mk hc1
  have HBY := Aside0.mk hby
  clear hlen hc1 hby
  go_enter Tryd.func13, Tryd.ntmps13
  go_wp2_with (go_at_call 30; (with_reducible refine (base64_table.calls a0 t _ HT.out).mono ?_); rintro e w' ⟨rfl, ⟨nd, rfl⟩⟩)
  have HB0 : Aside0 (Lib.IsBuilder 67 5 w.heap.size w.heap.size [] ((w.drewN nd).alloc (.cells #[.pointer none, .slice none 0 0] 67))) := ⟨bld_zero (w.drewN nd)⟩
  go_loopg [1] l1.length (fun kq v1 w' => ∃ (n : Nat) (A : Option Addr) (c : Nat) (rest : List Int) (outl : List UInt8), v1 = .slice A n c ∧ Aside0 (n = rest.length) ∧ Aside0 (kq = n) ∧ Aside0 (n ≤ c) ∧ Aside0 (Kd.C (Kd.int .u8) w A rest.length rest) ∧ Aside0 (∀ x ∈ rest, 0 ≤ x ∧ x < 256) ∧ Aside0 (Lib.IsBuilder 67 5 w.heap.size w.heap.size (Lib.byteCells outl) w') ∧ Aside0 (b64enc a0 t l1 = outl ++ b64enc a0 t rest) ∧ Aside0 (outl.length + 4 * rest.length ≤ 4000000000) ∧ Aside0 (Below w.heap.size w w'))
  case atStart => exact ⟨l1.length, A1, c1, l1, [], rfl, ⟨rfl⟩, ⟨rfl⟩, HC, HR, HBY, HB0, ⟨rfl⟩, ⟨by have := HLEN.out; simp; omega⟩, ⟨below_alloc (pw_below_drewN (Below.refl _ _) _) _⟩⟩
  case round =>
    obtain ⟨n, A, c, rest, outl, rfl, HN, HK, hcr, HRr, HBr, HBd, HS, HL, HB⟩ := hrel
    rcases rest with _ | ⟨x, _ | ⟨y, _ | ⟨z, r⟩⟩⟩
    · obtain rfl : n = 0 := HN.out
      go_wp2_with (go_at_call 32; refine (Tryd.Builder_String_any w.heap.size w.heap.size outl _ HBd.out (below_size HB.out)).mono ?_; rintro e w2 ⟨rfl, hb⟩)
      go_ret
      refine ⟨?_, HB.out.trans hb⟩
      have h_ := HS.out
      simp only [b64enc, List.append_nil] at h_
      rw [h_]
      rfl
    · obtain rfl : n = 1 := HN.out
      have hmin : min (1 : Int) 3 = 1 := by omega
      have hmn : mn (1 : Int) 3 = 1 := by decide
      by_cases ha0 : a0 = 1
      · have ha := Aside0.mk ha0
        clear ha0
        have hcI : (1 : Int) ≤ (c : Int) := by have := hcr.out; omega
        obtain ⟨i0, hi0, _, hsz, _⟩ := info_parts info5
        obtain ⟨A', hcut, hA, hC⟩ := print_drop_of (P := Tryd.prog) (Value.int .u8) 0 23 5 .i64 Tryd.underlying23 hi0 hsz A c [x] 1 (by omega) (by simp) (by have := hcr.out; rw [← HN.out]; exact this)
        rw [← HN.out] at hcut
        have e3 : (([x]).drop (1 : Int).toNat).length = 0 := rfl
        rw [e3] at hcut
        have hx := HBr.out x (by simp)
        have HA := Aside0.mk (show Kd.C (Kd.int .u8) w A' [].length ([] : List Int) from Kd.C_of_reads (h1 := fun _ => rfl) (hA _ (Kd.reads_of_C HRr.out)))
        have HCa := Aside0.mk hC
        clear hC
        have HRw := Kd.C_below HRr.out HB.out
        obtain ⟨ad, rfl, h0⟩ := Kd.at_int HRw 0 (by omega) (by simp)
        simp only [show ((0 : Int)).toNat = 0 from rfl, show rd [x] 0 = x from rfl, Addr.add_zero'] at h0
        clear hA e3 HRw
        obtain ⟨hx0, hx1⟩ := hx
        have o1 : Go.bits .or .i64 0 x = x := or0 hx0 hx1
        obtain ⟨k0, hk00, hk01, hk0t, hk0e, ek0⟩ : ∃ k : Int, 0 ≤ k ∧ k < 64 ∧ k < (t.size : Int) ∧ Go.bits .and .i64 ((x * 256 * 256) / 262144) 63 = k ∧ Aside0 (k = (x / 4) % 64) := ⟨((x * 256 * 256) / 262144) % 64, by omega, by omega, by have := H64.out; omega, and63 (by omega) (by omega), ⟨by omega⟩⟩
        have hb0 := bt_at t k0
        obtain ⟨k1, hk10, hk11, hk1t, hk1e, ek1⟩ : ∃ k : Int, 0 ≤ k ∧ k < 64 ∧ k < (t.size : Int) ∧ Go.bits .and .i64 ((x * 256 * 256) / 4096) 63 = k ∧ Aside0 (k = (x * 16) % 64) := ⟨((x * 256 * 256) / 4096) % 64, by omega, by omega, by have := H64.out; omega, and63 (by omega) (by omega), ⟨by omega⟩⟩
        have hb1 := bt_at t k1
        have hab : (a0 == 1) = true := beq_iff_eq.2 ha.out
        go_wp2_with (fail)
        refine wp_loop_rounds 4 ?_
        repeat (rw [rounds_succ]; go_wp2_with (fail))
        refine wp_loop_rounds 5 ?_
        rw [rounds_succ]
        go_wp2_with (fail)
        refine (bld_WriteByte w.heap.size w.heap.size _ _ _ HBd.out (by rw [bld_len]; have := HL.out; simp at this ⊢; omega) (below_size HB.out)).mono ?_
        rintro e w1 ⟨rfl, hp, hb⟩
        have HBd' := Aside0.mk (bld_put (bt_bd t k0).1 (bt_bd t k0).2 hp)
        have HB' := Aside0.mk (HB.out.trans hb)
        clear hp HBd HB
        have HBd := HBd'
        have HB := HB'
        clear HBd' HB' hb
        go_wp2_with (fail)
        rw [rounds_succ]
        go_wp2_with (fail)
        refine (bld_WriteByte w.heap.size w.heap.size _ _ _ HBd.out (by rw [bld_len]; have := HL.out; simp at this ⊢; omega) (below_size HB.out)).mono ?_
        rintro e w2 ⟨rfl, hp, hb⟩
        have HBd' := Aside0.mk (bld_put (bt_bd t k1).1 (bt_bd t k1).2 hp)
        have HB' := Aside0.mk (HB.out.trans hb)
        clear hp HBd HB
        have HBd := HBd'
        have HB := HB'
        clear HBd' HB' hb
        go_wp2_with (fail)
        rw [rounds_succ]
        go_wp2_with (fail)
        refine (bld_WriteByte w.heap.size w.heap.size _ _ _ HBd.out (by rw [bld_len]; have := HL.out; simp at this ⊢; omega) (below_size HB.out)).mono ?_
        rintro e w3 ⟨rfl, hp, hb⟩
        have HBd' := Aside0.mk (bld_put (z := 61) (by omega) (by omega) hp)
        have HB' := Aside0.mk (HB.out.trans hb)
        clear hp HBd HB
        have HBd := HBd'
        have HB := HB'
        clear HBd' HB' hb
        go_wp2_with (fail)
        rw [rounds_succ]
        go_wp2_with (fail)
        refine (bld_WriteByte w.heap.size w.heap.size _ _ _ HBd.out (by rw [bld_len]; have := HL.out; simp at this ⊢; omega) (below_size HB.out)).mono ?_
        rintro e w4 ⟨rfl, hp, hb⟩
        have HBd' := Aside0.mk (bld_put (z := 61) (by omega) (by omega) hp)
        have HB' := Aside0.mk (HB.out.trans hb)
        clear hp HBd HB
        have HBd := HBd'
        have HB := HB'
        clear HBd' HB' hb
        go_wp2_with (fail)
        repeat (rw [rounds_succ]; go_wp2_with (fail))
        go_roundg 0
        case measure => have := HK.out; omega
        case rel => exact ⟨0, A', c - 1, [], outl ++ [b64u (bt t k0)] ++ [b64u (bt t k1)] ++ [b64u 61] ++ [b64u 61], rfl, ⟨rfl⟩, ⟨rfl⟩, ⟨by omega⟩, HA, ⟨fun q hq => by simp at hq⟩, HBd, ⟨by rw [HS.out]; simp only [b64enc, b64d, ← ek0.out, ← ek1.out, b64pad, if_pos ha.out]; simp [b64u]⟩, ⟨by have := HL.out; simp at this ⊢; omega⟩, HB⟩
      · have ha := Aside0.mk ha0
        clear ha0
        have hcI : (1 : Int) ≤ (c : Int) := by have := hcr.out; omega
        obtain ⟨i0, hi0, _, hsz, _⟩ := info_parts info5
        obtain ⟨A', hcut, hA, hC⟩ := print_drop_of (P := Tryd.prog) (Value.int .u8) 0 23 5 .i64 Tryd.underlying23 hi0 hsz A c [x] 1 (by omega) (by simp) (by have := hcr.out; rw [← HN.out]; exact this)
        rw [← HN.out] at hcut
        have e3 : (([x]).drop (1 : Int).toNat).length = 0 := rfl
        rw [e3] at hcut
        have hx := HBr.out x (by simp)
        have HA := Aside0.mk (show Kd.C (Kd.int .u8) w A' [].length ([] : List Int) from Kd.C_of_reads (h1 := fun _ => rfl) (hA _ (Kd.reads_of_C HRr.out)))
        have HCa := Aside0.mk hC
        clear hC
        have HRw := Kd.C_below HRr.out HB.out
        obtain ⟨ad, rfl, h0⟩ := Kd.at_int HRw 0 (by omega) (by simp)
        simp only [show ((0 : Int)).toNat = 0 from rfl, show rd [x] 0 = x from rfl, Addr.add_zero'] at h0
        clear hA e3 HRw
        obtain ⟨hx0, hx1⟩ := hx
        have o1 : Go.bits .or .i64 0 x = x := or0 hx0 hx1
        obtain ⟨k0, hk00, hk01, hk0t, hk0e, ek0⟩ : ∃ k : Int, 0 ≤ k ∧ k < 64 ∧ k < (t.size : Int) ∧ Go.bits .and .i64 ((x * 256 * 256) / 262144) 63 = k ∧ Aside0 (k = (x / 4) % 64) := ⟨((x * 256 * 256) / 262144) % 64, by omega, by omega, by have := H64.out; omega, and63 (by omega) (by omega), ⟨by omega⟩⟩
        have hb0 := bt_at t k0
        obtain ⟨k1, hk10, hk11, hk1t, hk1e, ek1⟩ : ∃ k : Int, 0 ≤ k ∧ k < 64 ∧ k < (t.size : Int) ∧ Go.bits .and .i64 ((x * 256 * 256) / 4096) 63 = k ∧ Aside0 (k = (x * 16) % 64) := ⟨((x * 256 * 256) / 4096) % 64, by omega, by omega, by have := H64.out; omega, and63 (by omega) (by omega), ⟨by omega⟩⟩
        have hb1 := bt_at t k1
        have hab : (a0 == 1) = false := beq_eq_false_iff_ne.2 ha.out
        go_wp2_with (fail)
        refine wp_loop_rounds 4 ?_
        repeat (rw [rounds_succ]; go_wp2_with (fail))
        refine wp_loop_rounds 5 ?_
        rw [rounds_succ]
        go_wp2_with (fail)
        refine (bld_WriteByte w.heap.size w.heap.size _ _ _ HBd.out (by rw [bld_len]; have := HL.out; simp at this ⊢; omega) (below_size HB.out)).mono ?_
        rintro e w1 ⟨rfl, hp, hb⟩
        have HBd' := Aside0.mk (bld_put (bt_bd t k0).1 (bt_bd t k0).2 hp)
        have HB' := Aside0.mk (HB.out.trans hb)
        clear hp HBd HB
        have HBd := HBd'
        have HB := HB'
        clear HBd' HB' hb
        go_wp2_with (fail)
        rw [rounds_succ]
        go_wp2_with (fail)
        refine (bld_WriteByte w.heap.size w.heap.size _ _ _ HBd.out (by rw [bld_len]; have := HL.out; simp at this ⊢; omega) (below_size HB.out)).mono ?_
        rintro e w2 ⟨rfl, hp, hb⟩
        have HBd' := Aside0.mk (bld_put (bt_bd t k1).1 (bt_bd t k1).2 hp)
        have HB' := Aside0.mk (HB.out.trans hb)
        clear hp HBd HB
        have HBd := HBd'
        have HB := HB'
        clear HBd' HB' hb
        go_wp2_with (fail)
        repeat (rw [rounds_succ]; go_wp2_with (fail))
        go_roundg 0
        case measure => have := HK.out; omega
        case rel => exact ⟨0, A', c - 1, [], outl ++ [b64u (bt t k0)] ++ [b64u (bt t k1)], rfl, ⟨rfl⟩, ⟨rfl⟩, ⟨by omega⟩, HA, ⟨fun q hq => by simp at hq⟩, HBd, ⟨by rw [HS.out]; simp only [b64enc, b64d, ← ek0.out, ← ek1.out, b64pad, if_neg ha.out]; simp [b64u]⟩, ⟨by have := HL.out; simp at this ⊢; omega⟩, HB⟩
    · obtain rfl : n = 2 := HN.out
      have hmin : min (2 : Int) 3 = 2 := by omega
      have hmn : mn (2 : Int) 3 = 2 := by decide
      by_cases ha0 : a0 = 1
      · have ha := Aside0.mk ha0
        clear ha0
        have hcI : (2 : Int) ≤ (c : Int) := by have := hcr.out; omega
        obtain ⟨i0, hi0, _, hsz, _⟩ := info_parts info5
        obtain ⟨A', hcut, hA, hC⟩ := print_drop_of (P := Tryd.prog) (Value.int .u8) 0 23 5 .i64 Tryd.underlying23 hi0 hsz A c [x, y] 2 (by omega) (by simp) (by have := hcr.out; rw [← HN.out]; exact this)
        rw [← HN.out] at hcut
        have e3 : (([x, y]).drop (2 : Int).toNat).length = 0 := rfl
        rw [e3] at hcut
        have hx := HBr.out x (by simp)
        have hy := HBr.out y (by simp)
        have HA := Aside0.mk (show Kd.C (Kd.int .u8) w A' [].length ([] : List Int) from Kd.C_of_reads (h1 := fun _ => rfl) (hA _ (Kd.reads_of_C HRr.out)))
        have HCa := Aside0.mk hC
        clear hC
        have HRw := Kd.C_below HRr.out HB.out
        obtain ⟨ad, rfl, h0⟩ := Kd.at_int HRw 0 (by omega) (by simp)
        obtain ⟨ad', e1, h1⟩ := Kd.at_int HRw 1 (by omega) (by simp)
        cases e1
        simp only [show ((0 : Int)).toNat = 0 from rfl, show rd [x, y] 0 = x from rfl, show ((1 : Int)).toNat = 1 from rfl, show rd [x, y] 1 = y from rfl, Addr.add_zero'] at h0 h1
        simp only [Nat.reduceEqDiff, Go.Addr.add, ↓reduceIte] at h1
        clear hA e3 HRw
        obtain ⟨hx0, hx1⟩ := hx
        obtain ⟨hy0, hy1⟩ := hy
        have o1 : Go.bits .or .i64 0 x = x := or0 hx0 hx1
        have o2 : Go.bits .or .i64 (x * 256) y = x * 256 + y := or8 hx0 (by omega) hy0 hy1
        obtain ⟨k0, hk00, hk01, hk0t, hk0e, ek0⟩ : ∃ k : Int, 0 ≤ k ∧ k < 64 ∧ k < (t.size : Int) ∧ Go.bits .and .i64 (((x * 256 + y) * 256) / 262144) 63 = k ∧ Aside0 (k = (x / 4) % 64) := ⟨(((x * 256 + y) * 256) / 262144) % 64, by omega, by omega, by have := H64.out; omega, and63 (by omega) (by omega), ⟨by omega⟩⟩
        have hb0 := bt_at t k0
        obtain ⟨k1, hk10, hk11, hk1t, hk1e, ek1⟩ : ∃ k : Int, 0 ≤ k ∧ k < 64 ∧ k < (t.size : Int) ∧ Go.bits .and .i64 (((x * 256 + y) * 256) / 4096) 63 = k ∧ Aside0 (k = (x * 16 + y / 16) % 64) := ⟨(((x * 256 + y) * 256) / 4096) % 64, by omega, by omega, by have := H64.out; omega, and63 (by omega) (by omega), ⟨by omega⟩⟩
        have hb1 := bt_at t k1
        obtain ⟨k2, hk20, hk21, hk2t, hk2e, ek2⟩ : ∃ k : Int, 0 ≤ k ∧ k < 64 ∧ k < (t.size : Int) ∧ Go.bits .and .i64 (((x * 256 + y) * 256) / 64) 63 = k ∧ Aside0 (k = (y * 4) % 64) := ⟨(((x * 256 + y) * 256) / 64) % 64, by omega, by omega, by have := H64.out; omega, and63 (by omega) (by omega), ⟨by omega⟩⟩
        have hb2 := bt_at t k2
        have hab : (a0 == 1) = true := beq_iff_eq.2 ha.out
        go_wp2_with (fail)
        refine wp_loop_rounds 4 ?_
        repeat (rw [rounds_succ]; go_wp2_with (fail))
        refine wp_loop_rounds 5 ?_
        rw [rounds_succ]
        go_wp2_with (fail)
        refine (bld_WriteByte w.heap.size w.heap.size _ _ _ HBd.out (by rw [bld_len]; have := HL.out; simp at this ⊢; omega) (below_size HB.out)).mono ?_
        rintro e w1 ⟨rfl, hp, hb⟩
        have HBd' := Aside0.mk (bld_put (bt_bd t k0).1 (bt_bd t k0).2 hp)
        have HB' := Aside0.mk (HB.out.trans hb)
        clear hp HBd HB
        have HBd := HBd'
        have HB := HB'
        clear HBd' HB' hb
        go_wp2_with (fail)
        rw [rounds_succ]
        go_wp2_with (fail)
        refine (bld_WriteByte w.heap.size w.heap.size _ _ _ HBd.out (by rw [bld_len]; have := HL.out; simp at this ⊢; omega) (below_size HB.out)).mono ?_
        rintro e w2 ⟨rfl, hp, hb⟩
        have HBd' := Aside0.mk (bld_put (bt_bd t k1).1 (bt_bd t k1).2 hp)
        have HB' := Aside0.mk (HB.out.trans hb)
        clear hp HBd HB
        have HBd := HBd'
        have HB := HB'
        clear HBd' HB' hb
        go_wp2_with (fail)
        rw [rounds_succ]
        go_wp2_with (fail)
        refine (bld_WriteByte w.heap.size w.heap.size _ _ _ HBd.out (by rw [bld_len]; have := HL.out; simp at this ⊢; omega) (below_size HB.out)).mono ?_
        rintro e w3 ⟨rfl, hp, hb⟩
        have HBd' := Aside0.mk (bld_put (bt_bd t k2).1 (bt_bd t k2).2 hp)
        have HB' := Aside0.mk (HB.out.trans hb)
        clear hp HBd HB
        have HBd := HBd'
        have HB := HB'
        clear HBd' HB' hb
        go_wp2_with (fail)
        rw [rounds_succ]
        go_wp2_with (fail)
        refine (bld_WriteByte w.heap.size w.heap.size _ _ _ HBd.out (by rw [bld_len]; have := HL.out; simp at this ⊢; omega) (below_size HB.out)).mono ?_
        rintro e w4 ⟨rfl, hp, hb⟩
        have HBd' := Aside0.mk (bld_put (z := 61) (by omega) (by omega) hp)
        have HB' := Aside0.mk (HB.out.trans hb)
        clear hp HBd HB
        have HBd := HBd'
        have HB := HB'
        clear HBd' HB' hb
        go_wp2_with (fail)
        repeat (rw [rounds_succ]; go_wp2_with (fail))
        go_roundg 0
        case measure => have := HK.out; omega
        case rel => exact ⟨0, A', c - 2, [], outl ++ [b64u (bt t k0)] ++ [b64u (bt t k1)] ++ [b64u (bt t k2)] ++ [b64u 61], rfl, ⟨rfl⟩, ⟨rfl⟩, ⟨by omega⟩, HA, ⟨fun q hq => by simp at hq⟩, HBd, ⟨by rw [HS.out]; simp only [b64enc, b64d, ← ek0.out, ← ek1.out, ← ek2.out, b64pad, if_pos ha.out]; simp [b64u]⟩, ⟨by have := HL.out; simp at this ⊢; omega⟩, HB⟩
      · have ha := Aside0.mk ha0
        clear ha0
        have hcI : (2 : Int) ≤ (c : Int) := by have := hcr.out; omega
        obtain ⟨i0, hi0, _, hsz, _⟩ := info_parts info5
        obtain ⟨A', hcut, hA, hC⟩ := print_drop_of (P := Tryd.prog) (Value.int .u8) 0 23 5 .i64 Tryd.underlying23 hi0 hsz A c [x, y] 2 (by omega) (by simp) (by have := hcr.out; rw [← HN.out]; exact this)
        rw [← HN.out] at hcut
        have e3 : (([x, y]).drop (2 : Int).toNat).length = 0 := rfl
        rw [e3] at hcut
        have hx := HBr.out x (by simp)
        have hy := HBr.out y (by simp)
        have HA := Aside0.mk (show Kd.C (Kd.int .u8) w A' [].length ([] : List Int) from Kd.C_of_reads (h1 := fun _ => rfl) (hA _ (Kd.reads_of_C HRr.out)))
        have HCa := Aside0.mk hC
        clear hC
        have HRw := Kd.C_below HRr.out HB.out
        obtain ⟨ad, rfl, h0⟩ := Kd.at_int HRw 0 (by omega) (by simp)
        obtain ⟨ad', e1, h1⟩ := Kd.at_int HRw 1 (by omega) (by simp)
        cases e1
        simp only [show ((0 : Int)).toNat = 0 from rfl, show rd [x, y] 0 = x from rfl, show ((1 : Int)).toNat = 1 from rfl, show rd [x, y] 1 = y from rfl, Addr.add_zero'] at h0 h1
        simp only [Nat.reduceEqDiff, Go.Addr.add, ↓reduceIte] at h1
        clear hA e3 HRw
        obtain ⟨hx0, hx1⟩ := hx
        obtain ⟨hy0, hy1⟩ := hy
        have o1 : Go.bits .or .i64 0 x = x := or0 hx0 hx1
        have o2 : Go.bits .or .i64 (x * 256) y = x * 256 + y := or8 hx0 (by omega) hy0 hy1
        obtain ⟨k0, hk00, hk01, hk0t, hk0e, ek0⟩ : ∃ k : Int, 0 ≤ k ∧ k < 64 ∧ k < (t.size : Int) ∧ Go.bits .and .i64 (((x * 256 + y) * 256) / 262144) 63 = k ∧ Aside0 (k = (x / 4) % 64) := ⟨(((x * 256 + y) * 256) / 262144) % 64, by omega, by omega, by have := H64.out; omega, and63 (by omega) (by omega), ⟨by omega⟩⟩
        have hb0 := bt_at t k0
        obtain ⟨k1, hk10, hk11, hk1t, hk1e, ek1⟩ : ∃ k : Int, 0 ≤ k ∧ k < 64 ∧ k < (t.size : Int) ∧ Go.bits .and .i64 (((x * 256 + y) * 256) / 4096) 63 = k ∧ Aside0 (k = (x * 16 + y / 16) % 64) := ⟨(((x * 256 + y) * 256) / 4096) % 64, by omega, by omega, by have := H64.out; omega, and63 (by omega) (by omega), ⟨by omega⟩⟩
        have hb1 := bt_at t k1
        obtain ⟨k2, hk20, hk21, hk2t, hk2e, ek2⟩ : ∃ k : Int, 0 ≤ k ∧ k < 64 ∧ k < (t.size : Int) ∧ Go.bits .and .i64 (((x * 256 + y) * 256) / 64) 63 = k ∧ Aside0 (k = (y * 4) % 64) := ⟨(((x * 256 + y) * 256) / 64) % 64, by omega, by omega, by have := H64.out; omega, and63 (by omega) (by omega), ⟨by omega⟩⟩
        have hb2 := bt_at t k2
        have hab : (a0 == 1) = false := beq_eq_false_iff_ne.2 ha.out
        go_wp2_with (fail)
        refine wp_loop_rounds 4 ?_
        repeat (rw [rounds_succ]; go_wp2_with (fail))
        refine wp_loop_rounds 5 ?_
        rw [rounds_succ]
        go_wp2_with (fail)
        refine (bld_WriteByte w.heap.size w.heap.size _ _ _ HBd.out (by rw [bld_len]; have := HL.out; simp at this ⊢; omega) (below_size HB.out)).mono ?_
        rintro e w1 ⟨rfl, hp, hb⟩
        have HBd' := Aside0.mk (bld_put (bt_bd t k0).1 (bt_bd t k0).2 hp)
        have HB' := Aside0.mk (HB.out.trans hb)
        clear hp HBd HB
        have HBd := HBd'
        have HB := HB'
        clear HBd' HB' hb
        go_wp2_with (fail)
        rw [rounds_succ]
        go_wp2_with (fail)
        refine (bld_WriteByte w.heap.size w.heap.size _ _ _ HBd.out (by rw [bld_len]; have := HL.out; simp at this ⊢; omega) (below_size HB.out)).mono ?_
        rintro e w2 ⟨rfl, hp, hb⟩
        have HBd' := Aside0.mk (bld_put (bt_bd t k1).1 (bt_bd t k1).2 hp)
        have HB' := Aside0.mk (HB.out.trans hb)
        clear hp HBd HB
        have HBd := HBd'
        have HB := HB'
        clear HBd' HB' hb
        go_wp2_with (fail)
        rw [rounds_succ]
        go_wp2_with (fail)
        refine (bld_WriteByte w.heap.size w.heap.size _ _ _ HBd.out (by rw [bld_len]; have := HL.out; simp at this ⊢; omega) (below_size HB.out)).mono ?_
        rintro e w3 ⟨rfl, hp, hb⟩
        have HBd' := Aside0.mk (bld_put (bt_bd t k2).1 (bt_bd t k2).2 hp)
        have HB' := Aside0.mk (HB.out.trans hb)
        clear hp HBd HB
        have HBd := HBd'
        have HB := HB'
        clear HBd' HB' hb
        go_wp2_with (fail)
        repeat (rw [rounds_succ]; go_wp2_with (fail))
        go_roundg 0
        case measure => have := HK.out; omega
        case rel => exact ⟨0, A', c - 2, [], outl ++ [b64u (bt t k0)] ++ [b64u (bt t k1)] ++ [b64u (bt t k2)], rfl, ⟨rfl⟩, ⟨rfl⟩, ⟨by omega⟩, HA, ⟨fun q hq => by simp at hq⟩, HBd, ⟨by rw [HS.out]; simp only [b64enc, b64d, ← ek0.out, ← ek1.out, ← ek2.out, b64pad, if_neg ha.out]; simp [b64u]⟩, ⟨by have := HL.out; simp at this ⊢; omega⟩, HB⟩
    · have hn3 : (3 : Int) ≤ (n : Int) := by have := HN.out; simp at this; omega
      have hmin : min (n : Int) 3 = 3 := by omega
      have hmn : mn (n : Int) 3 = 3 := by unfold mn; split <;> omega
      have hcI : (3 : Int) ≤ (c : Int) := by have := hcr.out; omega
      obtain ⟨i0, hi0, _, hsz, _⟩ := info_parts info5
      obtain ⟨A', hcut, hA, hC⟩ := print_drop_of (P := Tryd.prog) (Value.int .u8) 0 23 5 .i64 Tryd.underlying23 hi0 hsz A c (x :: y :: z :: r) 3 (by omega) (by simp; omega) (by have := hcr.out; rw [← HN.out]; exact this)
      rw [← HN.out] at hcut
      have e3 : (((x :: y :: z :: r)).drop (3 : Int).toNat).length = n - 3 := by rw [HN.out]; simp
      rw [e3] at hcut
      have hx := HBr.out x (by simp)
      have hy := HBr.out y (by simp)
      have hz := HBr.out z (by simp)
      have HA := Aside0.mk (show Kd.C (Kd.int .u8) w A' r.length r from Kd.C_of_reads (h1 := fun _ => rfl) (hA _ (Kd.reads_of_C HRr.out)))
      have HCa := Aside0.mk hC
      clear hC
      have HRw := Kd.C_below HRr.out HB.out
      obtain ⟨ad, rfl, h0⟩ := Kd.at_int HRw 0 (by omega) (by simp; omega)
      obtain ⟨ad', e1, h1⟩ := Kd.at_int HRw 1 (by omega) (by simp; omega)
      obtain ⟨ad'', e2, h2⟩ := Kd.at_int HRw 2 (by omega) (by simp; omega)
      cases e1
      cases e2
      simp only [show ((0 : Int)).toNat = 0 from rfl, show rd (x :: y :: z :: r) 0 = x from rfl, show ((1 : Int)).toNat = 1 from rfl, show rd (x :: y :: z :: r) 1 = y from rfl, show ((2 : Int)).toNat = 2 from rfl, show rd (x :: y :: z :: r) 2 = z from rfl, Addr.add_zero'] at h0 h1 h2
      simp only [Nat.reduceEqDiff, Go.Addr.add, ↓reduceIte] at h1 h2
      clear hA e3 HRw
      obtain ⟨hx0, hx1⟩ := hx
      obtain ⟨hy0, hy1⟩ := hy
      obtain ⟨hz0, hz1⟩ := hz
      have o1 : Go.bits .or .i64 0 x = x := or0 hx0 hx1
      have o2 : Go.bits .or .i64 (x * 256) y = x * 256 + y := or8 hx0 (by omega) hy0 hy1
      have o3 : Go.bits .or .i64 ((x * 256 + y) * 256) z = (x * 256 + y) * 256 + z := or8 (by omega) (by omega) hz0 hz1
      obtain ⟨k0, hk00, hk01, hk0t, hk0e, ek0⟩ : ∃ k : Int, 0 ≤ k ∧ k < 64 ∧ k < (t.size : Int) ∧ Go.bits .and .i64 (((x * 256 + y) * 256 + z) / 262144) 63 = k ∧ Aside0 (k = (x / 4) % 64) := ⟨(((x * 256 + y) * 256 + z) / 262144) % 64, by omega, by omega, by have := H64.out; omega, and63 (by omega) (by omega), ⟨by omega⟩⟩
      have hb0 := bt_at t k0
      obtain ⟨k1, hk10, hk11, hk1t, hk1e, ek1⟩ : ∃ k : Int, 0 ≤ k ∧ k < 64 ∧ k < (t.size : Int) ∧ Go.bits .and .i64 (((x * 256 + y) * 256 + z) / 4096) 63 = k ∧ Aside0 (k = (x * 16 + y / 16) % 64) := ⟨(((x * 256 + y) * 256 + z) / 4096) % 64, by omega, by omega, by have := H64.out; omega, and63 (by omega) (by omega), ⟨by omega⟩⟩
      have hb1 := bt_at t k1
      obtain ⟨k2, hk20, hk21, hk2t, hk2e, ek2⟩ : ∃ k : Int, 0 ≤ k ∧ k < 64 ∧ k < (t.size : Int) ∧ Go.bits .and .i64 (((x * 256 + y) * 256 + z) / 64) 63 = k ∧ Aside0 (k = (y * 4 + z / 64) % 64) := ⟨(((x * 256 + y) * 256 + z) / 64) % 64, by omega, by omega, by have := H64.out; omega, and63 (by omega) (by omega), ⟨by omega⟩⟩
      have hb2 := bt_at t k2
      obtain ⟨k3, hk30, hk31, hk3t, hk3e, ek3⟩ : ∃ k : Int, 0 ≤ k ∧ k < 64 ∧ k < (t.size : Int) ∧ Go.bits .and .i64 (((x * 256 + y) * 256 + z)) 63 = k ∧ Aside0 (k = (z) % 64) := ⟨(((x * 256 + y) * 256 + z)) % 64, by omega, by omega, by have := H64.out; omega, and63 (by omega) (by omega), ⟨by omega⟩⟩
      have hb3 := bt_at t k3
      go_wp2_with (fail)
      refine wp_loop_rounds 4 ?_
      repeat (rw [rounds_succ]; go_wp2_with (fail))
      refine wp_loop_rounds 5 ?_
      rw [rounds_succ]
      go_wp2_with (fail)
      refine (bld_WriteByte w.heap.size w.heap.size _ _ _ HBd.out (by rw [bld_len]; have := HL.out; simp at this ⊢; omega) (below_size HB.out)).mono ?_
      rintro e w1 ⟨rfl, hp, hb⟩
      have HBd' := Aside0.mk (bld_put (bt_bd t k0).1 (bt_bd t k0).2 hp)
      have HB' := Aside0.mk (HB.out.trans hb)
      clear hp HBd HB
      have HBd := HBd'
      have HB := HB'
      clear HBd' HB' hb
      go_wp2_with (fail)
      rw [rounds_succ]
      go_wp2_with (fail)
      refine (bld_WriteByte w.heap.size w.heap.size _ _ _ HBd.out (by rw [bld_len]; have := HL.out; simp at this ⊢; omega) (below_size HB.out)).mono ?_
      rintro e w2 ⟨rfl, hp, hb⟩
      have HBd' := Aside0.mk (bld_put (bt_bd t k1).1 (bt_bd t k1).2 hp)
      have HB' := Aside0.mk (HB.out.trans hb)
      clear hp HBd HB
      have HBd := HBd'
      have HB := HB'
      clear HBd' HB' hb
      go_wp2_with (fail)
      rw [rounds_succ]
      go_wp2_with (fail)
      refine (bld_WriteByte w.heap.size w.heap.size _ _ _ HBd.out (by rw [bld_len]; have := HL.out; simp at this ⊢; omega) (below_size HB.out)).mono ?_
      rintro e w3 ⟨rfl, hp, hb⟩
      have HBd' := Aside0.mk (bld_put (bt_bd t k2).1 (bt_bd t k2).2 hp)
      have HB' := Aside0.mk (HB.out.trans hb)
      clear hp HBd HB
      have HBd := HBd'
      have HB := HB'
      clear HBd' HB' hb
      go_wp2_with (fail)
      rw [rounds_succ]
      go_wp2_with (fail)
      refine (bld_WriteByte w.heap.size w.heap.size _ _ _ HBd.out (by rw [bld_len]; have := HL.out; simp at this ⊢; omega) (below_size HB.out)).mono ?_
      rintro e w4 ⟨rfl, hp, hb⟩
      have HBd' := Aside0.mk (bld_put (bt_bd t k3).1 (bt_bd t k3).2 hp)
      have HB' := Aside0.mk (HB.out.trans hb)
      clear hp HBd HB
      have HBd := HBd'
      have HB := HB'
      clear HBd' HB' hb
      go_wp2_with (fail)
      repeat (rw [rounds_succ]; go_wp2_with (fail))
      go_roundg (n - 3)
      case measure => have := HK.out; have := HN.out; omega
      case rel => exact ⟨n - 3, A', c - 3, r, outl ++ [b64u (bt t k0)] ++ [b64u (bt t k1)] ++ [b64u (bt t k2)] ++ [b64u (bt t k3)], rfl, ⟨by have := HN.out; simp at this ⊢; omega⟩, ⟨rfl⟩, ⟨by have := hcr.out; have := HN.out; omega⟩, HA, ⟨fun q hq => HBr.out q (by simp [hq])⟩, HBd, ⟨by rw [HS.out]; simp only [b64enc, b64d, ← ek0.out, ← ek1.out, ← ek2.out, ← ek3.out]; simp [b64u]⟩, ⟨by have := HL.out; simp at this ⊢; omega⟩, HB⟩
theorem base64_Encode.calls (a0 : Int) (A1 : Option Addr) (c1 : Nat) (l1 : List Int) (r : ByteArray) (w : World) (hr1 : Kd.C (Kd.int .u8) w A1 l1.length l1) (hc1 : l1.length ≤ c1) (h : base64_Encode.f a0 l1 = some r) :
    Calls Tryd.prog 13 #[.int .i64 a0, .slice A1 l1.length c1] w fun e w' => e = .returned (.string r) ∧ Below w.heap.size w w' := by
  unfold base64_Encode.f at h
  obtain ⟨t, ht, h⟩ := Option.bind_eq_some_iff.mp h
  by_cases c0 : t.data.toList = []
  · rw [if_pos c0] at h
    obtain rfl := Option.some.inj h
    have hne : (t.toList == ([] : List UInt8)) = true := beq_iff_eq.2 ((ByteArray.toList_eq t).trans c0)
    go_enter Tryd.func13, Tryd.ntmps13
    go_wp2_with (go_at_call 30; (with_reducible refine (base64_table.calls a0 t _ ht).mono ?_); rintro e w' ⟨rfl, ⟨nd, rfl⟩⟩)
    go_ret
    exact ⟨rfl, pw_below_drewN (Below.refl _ _) _⟩
  · rw [if_neg c0] at h
    have hne : (t.toList == ([] : List UInt8)) = false := beq_eq_false_iff_ne.2 (fun h' => c0 ((ByteArray.toList_eq t).symm.trans h'))
    by_cases c2 : l1.length ≤ 1000000000
    · rw [if_pos c2] at h
      by_cases c3 : t.size = 64
      · rw [if_pos c3] at h
        by_cases c4 : ∀ x ∈ l1, 0 ≤ x ∧ x < 256
        · rw [if_pos c4] at h
          obtain rfl := Option.some.inj h
          exact b64_walk a0 A1 c1 l1 t w hr1 hc1 ht hne c3 c2 c4
        · rw [if_neg c4] at h; cases h
      · rw [if_neg c3] at h; cases h
    · rw [if_neg c2] at h; cases h

end Go.Proofs.YtnidoimhlfcifaaDoor.PB64
