import Derived.Test.YtohmnlmeamkmjaaDoorZPOidx0
import Derived.Test.YtohmnlmeamkmjaaDoorZPOidx1
namespace Go.Proofs.YtohmnlmeamkmjaaDoor.POid
open Go.RowKit Go.Proofs.YtohmnlmeamkmjaaDoorW.PrintWords Go.Proofs.YtohmnlmeamkmjaaDoorW.PrintLast Go.Proofs.YtohmnlmeamkmjaaDoorW.PrintMore
set_option linter.unusedVariables false
set_option linter.unusedSimpArgs false
theorem allEq_int : ∀ (xs ys : List Int), Lib.allEq (fun x y : Int => x == y) xs ys = decide (xs = ys)
  | [], [] => rfl
  | [], _ :: _ => by simp [Lib.allEq]
  | _ :: _, [] => by simp [Lib.allEq]
  | x :: xs, y :: ys => by
    rw [Lib.allEq, allEq_int xs ys]
    by_cases c : x = y
    · subst c; simp
    · simp [c]
def belowB (l a : List Int) : Bool := validB l && (validB a && (decide (a.length < l.length) && decide (l.take a.length = a)))
def oid_Below.f (l0 l1 : List Int) : Option Bool := some (belowB l0 l1)
theorem info_u32 : (Tryd.prog.info? 33).map (fun i => (i.zero, i.size, i.bytes)) = some (some (.int .u32 0), 1, 4) := by kernel_rfl
theorem oid_Below.calls (A0 : Option Addr) (c0 : Nat) (l0 : List Int) (A1 : Option Addr) (c1 : Nat) (l1 : List Int) (r : Bool) (w : World) (hr0 : Kd.C (Kd.int .u32) w A0 l0.length l0) (hc0 : l0.length ≤ c0) (hr1 : Kd.C (Kd.int .u32) w A1 l1.length l1) (hc1 : l1.length ≤ c1) (h : oid_Below.f l0 l1 = some r) :
    Calls Tryd.prog 26 #[.slice A0 l0.length c0, .slice A1 l1.length c1] w fun e w' => e = .returned (.bool r) ∧ Drawn0 w w' := by
  obtain rfl : belowB l0 l1 = r := Option.some.inj h
  clear h
  have hv0 := fun b (hb : validB l0 = b) W (hC : Kd.C (Kd.int .u32) W A0 l0.length l0) => oid_Valid.calls A0 c0 l0 b W hC hc0 (congrArg some hb)
  have hv1 := fun b (hb : validB l1 = b) W (hC : Kd.C (Kd.int .u32) W A1 l1.length l1) => oid_Valid.calls A1 c1 l1 b W hC hc1 (congrArg some hb)
  by_cases b0 : validB l0 = true
  case neg =>
    have b0' := Bool.eq_false_iff.2 b0
    rw [show belowB l0 l1 = false by rw [belowB, b0', Bool.false_and]]
    go_enter Tryd.func26, Tryd.ntmps26
    go_wp2_with (go_at_call 16; ((with_reducible refine (hv0 _ b0' _ hr0).mono ?_); rintro e w' ⟨rfl, ⟨q, rfl⟩⟩))
    go_ret
    exact ⟨rfl, ⟨_, rfl⟩⟩
  by_cases b1 : validB l1 = true
  case neg =>
    have b1' := Bool.eq_false_iff.2 b1
    rw [show belowB l0 l1 = false by rw [belowB, b1', Bool.false_and, Bool.and_false]]
    go_enter Tryd.func26, Tryd.ntmps26
    go_wp2_with (first | (go_at_call 16; ((with_reducible refine (hv0 _ b0 _ hr0).mono ?_); rintro e w' ⟨rfl, ⟨q, rfl⟩⟩)) | (go_at_call 16; ((with_reducible refine (hv1 _ b1' _ (Kd.C_drewN hr1 _)).mono ?_); rintro e w' ⟨rfl, ⟨q2, rfl⟩⟩)))
    go_ret
    exact ⟨rfl, by repeat (first | exact Drawn0.refl _ | apply Drawn0.step)⟩
  by_cases b2 : l1.length < l0.length
  case neg =>
    rw [show belowB l0 l1 = false by rw [belowB, decide_eq_false b2, Bool.false_and, Bool.and_false, Bool.and_false]]
    have d2 : decide ((l0.length : Int) > (l1.length : Int)) = false := decide_eq_false (by omega)
    go_enter Tryd.func26, Tryd.ntmps26
    go_wp2_with (first | (go_at_call 16; ((with_reducible refine (hv0 _ b0 _ hr0).mono ?_); rintro e w' ⟨rfl, ⟨q, rfl⟩⟩)) | (go_at_call 16; ((with_reducible refine (hv1 _ b1 _ (Kd.C_drewN hr1 _)).mono ?_); rintro e w' ⟨rfl, ⟨q2, rfl⟩⟩)))
    go_ret
    exact ⟨rfl, by repeat (first | exact Drawn0.refl _ | apply Drawn0.step)⟩
  have d2 : decide ((l0.length : Int) > (l1.length : Int)) = true := decide_eq_true (by omega)
  have l2 : 2 ≤ l1.length := by
    unfold validB at b1
    simp only [Bool.and_eq_true, decide_eq_true_eq] at b1
    exact b1.1
  obtain ⟨bk0, o0, rfl, _, mx0, blk0, cell0⟩ := row_plain hr0 (by omega)
  obtain ⟨bk1, o1, rfl, _, mx1, blk1, cell1⟩ := row_plain hr1 (by omega)
  have hB : belowB l0 l1 = decide (l0.take l1.length = l1) := by rw [belowB, b0, b1, decide_eq_true b2, Bool.true_and, Bool.true_and, Bool.true_and]
  rw [hB]
  obtain ⟨i0, hi0, _⟩ := info_parts info_u32
  have hcut := cut_to (P := Tryd.prog) 22 33 .i64 Tryd.underlying22 hi0 (some ⟨bk0, o0, none⟩) l0.length c0 (l1.length : Int) (by omega) (by omega) hc0
  rw [Int.toNat_natCast] at hcut
  have heq := fun W (h0 : ∀ j, j < l0.length → W.cell? ⟨bk0, o0 + j, none⟩ = some (.int .u32 l0[j]!)) (h1 : ∀ j, j < l1.length → W.cell? ⟨bk1, o1 + j, none⟩ = some (.int .u32 l1[j]!)) => Tryd.slices_Equal_f23 (Value.int .u32) (fun x y => x == y) (NeqAt.int _ _ _) bk0 o0 l1.length c0 bk1 o1 l1.length c1 l0 l1 W (by omega) (Nat.le_refl _) mx1 mx1 h0 h1
  rw [List.take_length] at heq
  rw [allEq_int] at heq
  have HQ := Aside0.mk heq
  have C0 := Aside0.mk cell0
  have C1 := Aside0.mk cell1
  clear heq cell0 cell1 hB hi0
  go_enter Tryd.func26, Tryd.ntmps26
  go_wp2_with (first | (go_at_call 16; ((with_reducible refine (hv0 _ b0 _ hr0).mono ?_); rintro e w' ⟨rfl, ⟨q, rfl⟩⟩)) | (go_at_call 16; ((with_reducible refine (hv1 _ b1 _ (Kd.C_drewN hr1 _)).mono ?_); rintro e w' ⟨rfl, ⟨q2, rfl⟩⟩)) | (go_at_call 23; ((with_reducible refine (HQ.out _ (fun j hj => ?s1) (fun j hj => ?s2)).mono ?_); (case s1 => simp only [World.cell?_drewN]; exact C0.out j hj); (case s2 => simp only [World.cell?_drewN]; exact C1.out j hj); rintro e w' ⟨rfl, q3, rfl⟩)))
  go_ret
  exact ⟨by simp, by repeat (first | exact Drawn0.refl _ | apply Drawn0.step)⟩
end Go.Proofs.YtohmnlmeamkmjaaDoor.POid
