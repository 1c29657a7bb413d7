import Derived.Test.YtohmnlmeamkmjaaDoorZPOidx0
import Derived.Test.YtohmnlmeamkmjaaDoorZPOidx1
import Derived.Test.YtohmnlmeamkmjaaDoorZPOidx4
import Derived.Test.YtohmnlmeamkmjaaDoorZPOidx5
import Derived.Test.YtohmnlmeamkmjaaDoorZPOidx6
import Derived.Test.YtohmnlmeamkmjaaDoorZPOidx7
import Derived.Test.YtohmnlmeamkmjaaDoorZPOidx8
import Derived.Test.YtohmnlmeamkmjaaDoorZPOidx9
import Derived.Test.YtohmnlmeamkmjaaDoorZPOidx10
namespace Go.Proofs.YtohmnlmeamkmjaaDoor.POid
open Go.RowKit Go.Proofs.YtohmnlmeamkmjaaDoorW.PrintWords Go.Proofs.YtohmnlmeamkmjaaDoorW.PrintLast Go.Proofs.YtohmnlmeamkmjaaDoorW.PrintMore
attribute [local go_sem] max2_int min2_int max_two min_two max_three min_three max_four min_four
set_option linter.unusedVariables false
set_option linter.unusedSimpArgs false
def pyxlaw09_awake.f (k : Nat)  : Option (Bool) := (oid_Parse.f k (⟨#[50, 46, 49, 54, 46, 56, 52, 48, 46, 49, 46, 49, 48, 49, 46, 51, 46, 52, 46, 52, 46, 49]⟩ : ByteArray)).bind fun bt112 => ((oid_Parse.f k (⟨#[49, 46, 52, 48]⟩ : ByteArray)).bind fun bt116 => ((oid_Read.f (([96, 134, 72, 1, 101, 3, 4, 4, 1] : List Int))).bind fun bt123 => ((oid_Read.f (([96, 128, 1] : List Int))).bind fun bt130 => (if (bt112.1.length : Int) = 9 then (if bt112.2 = true then (if bt116.2 = true then (some false) else ((slices_Equal_uint32_uint32.f k bt112.1 bt123.1).bind fun t134 => (if t134 = true then (if bt123.2 = true then (if bt130.2 = true then (some false) else ((oid_Text.f k bt112.1).bind fun t135 => (if t135.toList = ([50, 46, 49, 54, 46, 56, 52, 48, 46, 49, 46, 49, 48, 49, 46, 51, 46, 52, 46, 52, 46, 49] : List UInt8) then ((oid_Content.f bt112.1).bind fun t136 => ((pyxref01_Same.f k t136 (([96, 134, 72, 1, 101, 3, 4, 4, 1] : List Int))).bind fun t142 => (if t142 = true then ((oid_Valid.f bt112.1).bind fun t143 => (if t143 = true then ((oid_Below.f bt112.1 (([2, 16] : List Int))).bind fun t147 => (if t147 = true then ((oid_Below.f bt112.1 bt112.1).bind fun t148 => (some (!t148))) else (some false))) else (some false))) else (some false)))) else (some false)))) else (some false)) else (some false)))) else (some false)) else (some false)))))
theorem pyxlaw09_awake.mono : ∀ k, LeO (pyxlaw09_awake.f k ) (pyxlaw09_awake.f (k + 1) ) := by
  intro  k
  unfold pyxlaw09_awake.f
  repeat' first
      | (with_reducible exact oid_Parse.mono _ _)
      | (with_reducible exact oid_Text.mono _ _)
      | (with_reducible exact pyxref01_Same.mono _ _ _)
      | (with_reducible exact slices_Equal_uint32_uint32.mono _ _ _)
      | (with_reducible exact LeO.refl _)
      | (with_reducible exact LeO.none _)
      | (with_reducible refine LeO.ite ?_ ?_)
      | (with_reducible refine LeO.bind ?_ (fun _ => ?_))
      | exact oid_Parse.mono _ _
      | exact oid_Text.mono _ _
      | exact pyxref01_Same.mono _ _ _
      | exact slices_Equal_uint32_uint32.mono _ _ _
      | exact LeO.none _
      | refine LeO.ite ?_ ?_
      | refine LeO.bind ?_ (fun _ => ?_)
theorem pyxlaw09_awake.eval : pyxlaw09_awake.f 64 = some true := by kernel_rfl
theorem pyxlaw09_awake.only {k : Nat} {r : Bool} (h : pyxlaw09_awake.f k = some r) : r = true := by
  obtain ⟨k', h1, h2⟩ := together pyxlaw09_awake.mono pyxlaw09_awake.mono ⟨k, h⟩ ⟨64, pyxlaw09_awake.eval⟩
  exact Option.some.inj (h1.symm.trans h2)
set_option maxHeartbeats 8000000 in
set_option maxRecDepth 100000 in
theorem pyxlaw09_awake.calls (k : Nat)  (r : Bool) (w : World) (h : pyxlaw09_awake.f k  = some r) (hG : GOK w) :
    Calls Tryd.prog 13 #[] w fun e w' => e = .returned (.bool r) ∧ Below w.heap.size w w' := by
  have HG := Aside0.mk hG
  clear hG
  have HT := Aside0.mk (pyxlaw09_awake.only h)
  have HB := Aside0.mk (Below.refl w.heap.size w)
  have H : ((oid_Parse.f k (⟨#[50, 46, 49, 54, 46, 56, 52, 48, 46, 49, 46, 49, 48, 49, 46, 51, 46, 52, 46, 52, 46, 49]⟩ : ByteArray)).bind fun bt112 => ((oid_Parse.f k (⟨#[49, 46, 52, 48]⟩ : ByteArray)).bind fun bt116 => ((oid_Read.f (([96, 134, 72, 1, 101, 3, 4, 4, 1] : List Int))).bind fun bt123 => ((oid_Read.f (([96, 128, 1] : List Int))).bind fun bt130 => (if (bt112.1.length : Int) = 9 then (if bt112.2 = true then (if bt116.2 = true then (some false) else ((slices_Equal_uint32_uint32.f k bt112.1 bt123.1).bind fun t134 => (if t134 = true then (if bt123.2 = true then (if bt130.2 = true then (some false) else ((oid_Text.f k bt112.1).bind fun t135 => (if t135.toList = ([50, 46, 49, 54, 46, 56, 52, 48, 46, 49, 46, 49, 48, 49, 46, 51, 46, 52, 46, 52, 46, 49] : List UInt8) then ((oid_Content.f bt112.1).bind fun t136 => ((pyxref01_Same.f k t136 (([96, 134, 72, 1, 101, 3, 4, 4, 1] : List Int))).bind fun t142 => (if t142 = true then ((oid_Valid.f bt112.1).bind fun t143 => (if t143 = true then ((oid_Below.f bt112.1 (([2, 16] : List Int))).bind fun t147 => (if t147 = true then ((oid_Below.f bt112.1 bt112.1).bind fun t148 => (some (!t148))) else (some false))) else (some false))) else (some false)))) else (some false)))) else (some false)) else (some false)))) else (some false)) else (some false)))))) = some r := h
  clear h
  replace H := Option.bind_eq_some_iff.mp H
  obtain ⟨⟨t112, t113⟩, A10, H⟩ := H
  replace H : ((oid_Parse.f k (⟨#[49, 46, 52, 48]⟩ : ByteArray)).bind fun bt116 => ((oid_Read.f (([96, 134, 72, 1, 101, 3, 4, 4, 1] : List Int))).bind fun bt123 => ((oid_Read.f (([96, 128, 1] : List Int))).bind fun bt130 => (if (t112.length : Int) = 9 then (if t113 = true then (if bt116.2 = true then (some false) else ((slices_Equal_uint32_uint32.f k t112 bt123.1).bind fun t134 => (if t134 = true then (if bt123.2 = true then (if bt130.2 = true then (some false) else ((oid_Text.f k t112).bind fun t135 => (if t135.toList = ([50, 46, 49, 54, 46, 56, 52, 48, 46, 49, 46, 49, 48, 49, 46, 51, 46, 52, 46, 52, 46, 49] : List UInt8) then ((oid_Content.f t112).bind fun t136 => ((pyxref01_Same.f k t136 (([96, 134, 72, 1, 101, 3, 4, 4, 1] : List Int))).bind fun t142 => (if t142 = true then ((oid_Valid.f t112).bind fun t143 => (if t143 = true then ((oid_Below.f t112 (([2, 16] : List Int))).bind fun t147 => (if t147 = true then ((oid_Below.f t112 t112).bind fun t148 => (some (!t148))) else (some false))) else (some false))) else (some false)))) else (some false)))) else (some false)) else (some false)))) else (some false)) else (some false))))) = some r := H
  have A1 := Aside0.mk A10
  clear A10
  replace H := Option.bind_eq_some_iff.mp H
  obtain ⟨⟨t116, t117⟩, A20, H⟩ := H
  replace H : ((oid_Read.f (([96, 134, 72, 1, 101, 3, 4, 4, 1] : List Int))).bind fun bt123 => ((oid_Read.f (([96, 128, 1] : List Int))).bind fun bt130 => (if (t112.length : Int) = 9 then (if t113 = true then (if t117 = true then (some false) else ((slices_Equal_uint32_uint32.f k t112 bt123.1).bind fun t134 => (if t134 = true then (if bt123.2 = true then (if bt130.2 = true then (some false) else ((oid_Text.f k t112).bind fun t135 => (if t135.toList = ([50, 46, 49, 54, 46, 56, 52, 48, 46, 49, 46, 49, 48, 49, 46, 51, 46, 52, 46, 52, 46, 49] : List UInt8) then ((oid_Content.f t112).bind fun t136 => ((pyxref01_Same.f k t136 (([96, 134, 72, 1, 101, 3, 4, 4, 1] : List Int))).bind fun t142 => (if t142 = true then ((oid_Valid.f t112).bind fun t143 => (if t143 = true then ((oid_Below.f t112 (([2, 16] : List Int))).bind fun t147 => (if t147 = true then ((oid_Below.f t112 t112).bind fun t148 => (some (!t148))) else (some false))) else (some false))) else (some false)))) else (some false)))) else (some false)) else (some false)))) else (some false)) else (some false)))) = some r := H
  have A2 := Aside0.mk A20
  clear A20
  obtain ⟨y120, hy120⟩ : ∃ y_ : List Int, y_ = (([96, 134, 72, 1, 101, 3, 4, 4, 1] : List Int)) := ⟨_, rfl⟩
  replace H : ((oid_Read.f y120).bind fun bt123 => ((oid_Read.f (([96, 128, 1] : List Int))).bind fun bt130 => (if (t112.length : Int) = 9 then (if t113 = true then (if t117 = true then (some false) else ((slices_Equal_uint32_uint32.f k t112 bt123.1).bind fun t134 => (if t134 = true then (if bt123.2 = true then (if bt130.2 = true then (some false) else ((oid_Text.f k t112).bind fun t135 => (if t135.toList = ([50, 46, 49, 54, 46, 56, 52, 48, 46, 49, 46, 49, 48, 49, 46, 51, 46, 52, 46, 52, 46, 49] : List UInt8) then ((oid_Content.f t112).bind fun t136 => ((pyxref01_Same.f k t136 (([96, 134, 72, 1, 101, 3, 4, 4, 1] : List Int))).bind fun t142 => (if t142 = true then ((oid_Valid.f t112).bind fun t143 => (if t143 = true then ((oid_Below.f t112 (([2, 16] : List Int))).bind fun t147 => (if t147 = true then ((oid_Below.f t112 t112).bind fun t148 => (some (!t148))) else (some false))) else (some false))) else (some false)))) else (some false)))) else (some false)) else (some false)))) else (some false)) else (some false)))) = some r := by first | (rw [hy120]; with_reducible exact H) | (have H2_ := (Option.bind_some _ _).symm.trans H; rw [hy120]; with_reducible exact H2_) | (have H2_ := (Option.bind_some _ _).symm.trans H; with_reducible exact H2_) | with_reducible exact H | (rw [hy120]; exact H) | exact H
  have Ny120 := Aside0.mk hy120
  clear hy120
  replace H := Option.bind_eq_some_iff.mp H
  obtain ⟨⟨t123, t124⟩, A30, H⟩ := H
  replace H : ((oid_Read.f (([96, 128, 1] : List Int))).bind fun bt130 => (if (t112.length : Int) = 9 then (if t113 = true then (if t117 = true then (some false) else ((slices_Equal_uint32_uint32.f k t112 t123).bind fun t134 => (if t134 = true then (if t124 = true then (if bt130.2 = true then (some false) else ((oid_Text.f k t112).bind fun t135 => (if t135.toList = ([50, 46, 49, 54, 46, 56, 52, 48, 46, 49, 46, 49, 48, 49, 46, 51, 46, 52, 46, 52, 46, 49] : List UInt8) then ((oid_Content.f t112).bind fun t136 => ((pyxref01_Same.f k t136 (([96, 134, 72, 1, 101, 3, 4, 4, 1] : List Int))).bind fun t142 => (if t142 = true then ((oid_Valid.f t112).bind fun t143 => (if t143 = true then ((oid_Below.f t112 (([2, 16] : List Int))).bind fun t147 => (if t147 = true then ((oid_Below.f t112 t112).bind fun t148 => (some (!t148))) else (some false))) else (some false))) else (some false)))) else (some false)))) else (some false)) else (some false)))) else (some false)) else (some false))) = some r := H
  have A3 := Aside0.mk A30
  clear A30
  obtain ⟨y127, hy127⟩ : ∃ y_ : List Int, y_ = (([96, 128, 1] : List Int)) := ⟨_, rfl⟩
  replace H : ((oid_Read.f y127).bind fun bt130 => (if (t112.length : Int) = 9 then (if t113 = true then (if t117 = true then (some false) else ((slices_Equal_uint32_uint32.f k t112 t123).bind fun t134 => (if t134 = true then (if t124 = true then (if bt130.2 = true then (some false) else ((oid_Text.f k t112).bind fun t135 => (if t135.toList = ([50, 46, 49, 54, 46, 56, 52, 48, 46, 49, 46, 49, 48, 49, 46, 51, 46, 52, 46, 52, 46, 49] : List UInt8) then ((oid_Content.f t112).bind fun t136 => ((pyxref01_Same.f k t136 (([96, 134, 72, 1, 101, 3, 4, 4, 1] : List Int))).bind fun t142 => (if t142 = true then ((oid_Valid.f t112).bind fun t143 => (if t143 = true then ((oid_Below.f t112 (([2, 16] : List Int))).bind fun t147 => (if t147 = true then ((oid_Below.f t112 t112).bind fun t148 => (some (!t148))) else (some false))) else (some false))) else (some false)))) else (some false)))) else (some false)) else (some false)))) else (some false)) else (some false))) = some r := by first | (rw [hy127]; with_reducible exact H) | (have H2_ := (Option.bind_some _ _).symm.trans H; rw [hy127]; with_reducible exact H2_) | (have H2_ := (Option.bind_some _ _).symm.trans H; with_reducible exact H2_) | with_reducible exact H | (rw [hy127]; exact H) | exact H
  have Ny127 := Aside0.mk hy127
  clear hy127
  replace H := Option.bind_eq_some_iff.mp H
  obtain ⟨⟨t130, t131⟩, A40, H⟩ := H
  replace H : (if (t112.length : Int) = 9 then (if t113 = true then (if t117 = true then (some false) else ((slices_Equal_uint32_uint32.f k t112 t123).bind fun t134 => (if t134 = true then (if t124 = true then (if t131 = true then (some false) else ((oid_Text.f k t112).bind fun t135 => (if t135.toList = ([50, 46, 49, 54, 46, 56, 52, 48, 46, 49, 46, 49, 48, 49, 46, 51, 46, 52, 46, 52, 46, 49] : List UInt8) then ((oid_Content.f t112).bind fun t136 => ((pyxref01_Same.f k t136 (([96, 134, 72, 1, 101, 3, 4, 4, 1] : List Int))).bind fun t142 => (if t142 = true then ((oid_Valid.f t112).bind fun t143 => (if t143 = true then ((oid_Below.f t112 (([2, 16] : List Int))).bind fun t147 => (if t147 = true then ((oid_Below.f t112 t112).bind fun t148 => (some (!t148))) else (some false))) else (some false))) else (some false)))) else (some false)))) else (some false)) else (some false)))) else (some false)) else (some false)) = some r := H
  have A4 := Aside0.mk A40
  clear A40
  by_cases c5 : (t112.length : Int) = 9
  · rw [if_pos c5] at H
    have c5b0 : ((t112.length : Int) == 9) = true := beq_iff_eq.mpr c5
    have c5b1 : ((t112.length : Int) != 9) = false := bne_eq_false_iff_eq.mpr c5
    clear c5
    by_cases c6 : t113 = true
    · subst c6
      have H1 : (if t117 = true then (some false) else ((slices_Equal_uint32_uint32.f k t112 t123).bind fun t134 => (if t134 = true then (if t124 = true then (if t131 = true then (some false) else ((oid_Text.f k t112).bind fun t135 => (if t135.toList = ([50, 46, 49, 54, 46, 56, 52, 48, 46, 49, 46, 49, 48, 49, 46, 51, 46, 52, 46, 52, 46, 49] : List UInt8) then ((oid_Content.f t112).bind fun t136 => ((pyxref01_Same.f k t136 (([96, 134, 72, 1, 101, 3, 4, 4, 1] : List Int))).bind fun t142 => (if t142 = true then ((oid_Valid.f t112).bind fun t143 => (if t143 = true then ((oid_Below.f t112 (([2, 16] : List Int))).bind fun t147 => (if t147 = true then ((oid_Below.f t112 t112).bind fun t148 => (some (!t148))) else (some false))) else (some false))) else (some false)))) else (some false)))) else (some false)) else (some false)))) = some r := by rw [if_pos rfl] at H; exact H
      clear H
      have H := H1
      clear H1
      by_cases c7 : t117 = true
      · subst c7
        have H1 : (some false) = some r := by rw [if_pos rfl] at H; exact H
        clear H
        have H := H1
        clear H1
        exact absurd ((Option.some.inj H).trans HT.out) (by decide)
      · replace c7 := Bool.eq_false_iff.mpr c7
        subst c7
        have H1 : ((slices_Equal_uint32_uint32.f k t112 t123).bind fun t134 => (if t134 = true then (if t124 = true then (if t131 = true then (some false) else ((oid_Text.f k t112).bind fun t135 => (if t135.toList = ([50, 46, 49, 54, 46, 56, 52, 48, 46, 49, 46, 49, 48, 49, 46, 51, 46, 52, 46, 52, 46, 49] : List UInt8) then ((oid_Content.f t112).bind fun t136 => ((pyxref01_Same.f k t136 (([96, 134, 72, 1, 101, 3, 4, 4, 1] : List Int))).bind fun t142 => (if t142 = true then ((oid_Valid.f t112).bind fun t143 => (if t143 = true then ((oid_Below.f t112 (([2, 16] : List Int))).bind fun t147 => (if t147 = true then ((oid_Below.f t112 t112).bind fun t148 => (some (!t148))) else (some false))) else (some false))) else (some false)))) else (some false)))) else (some false)) else (some false))) = some r := by rw [if_neg (show ¬ (false = true) by decide)] at H; exact H
        clear H
        have H := H1
        clear H1
        replace H := Option.bind_eq_some_iff.mp H
        obtain ⟨t134, A80, H⟩ := H
        replace H : (if t134 = true then (if t124 = true then (if t131 = true then (some false) else ((oid_Text.f k t112).bind fun t135 => (if t135.toList = ([50, 46, 49, 54, 46, 56, 52, 48, 46, 49, 46, 49, 48, 49, 46, 51, 46, 52, 46, 52, 46, 49] : List UInt8) then ((oid_Content.f t112).bind fun t136 => ((pyxref01_Same.f k t136 (([96, 134, 72, 1, 101, 3, 4, 4, 1] : List Int))).bind fun t142 => (if t142 = true then ((oid_Valid.f t112).bind fun t143 => (if t143 = true then ((oid_Below.f t112 (([2, 16] : List Int))).bind fun t147 => (if t147 = true then ((oid_Below.f t112 t112).bind fun t148 => (some (!t148))) else (some false))) else (some false))) else (some false)))) else (some false)))) else (some false)) else (some false)) = some r := H
        have A8 := Aside0.mk A80
        clear A80
        by_cases c9 : t134 = true
        · subst c9
          have H1 : (if t124 = true then (if t131 = true then (some false) else ((oid_Text.f k t112).bind fun t135 => (if t135.toList = ([50, 46, 49, 54, 46, 56, 52, 48, 46, 49, 46, 49, 48, 49, 46, 51, 46, 52, 46, 52, 46, 49] : List UInt8) then ((oid_Content.f t112).bind fun t136 => ((pyxref01_Same.f k t136 (([96, 134, 72, 1, 101, 3, 4, 4, 1] : List Int))).bind fun t142 => (if t142 = true then ((oid_Valid.f t112).bind fun t143 => (if t143 = true then ((oid_Below.f t112 (([2, 16] : List Int))).bind fun t147 => (if t147 = true then ((oid_Below.f t112 t112).bind fun t148 => (some (!t148))) else (some false))) else (some false))) else (some false)))) else (some false)))) else (some false)) = some r := by rw [if_pos rfl] at H; exact H
          clear H
          have H := H1
          clear H1
          by_cases c10 : t124 = true
          · subst c10
            have H1 : (if t131 = true then (some false) else ((oid_Text.f k t112).bind fun t135 => (if t135.toList = ([50, 46, 49, 54, 46, 56, 52, 48, 46, 49, 46, 49, 48, 49, 46, 51, 46, 52, 46, 52, 46, 49] : List UInt8) then ((oid_Content.f t112).bind fun t136 => ((pyxref01_Same.f k t136 (([96, 134, 72, 1, 101, 3, 4, 4, 1] : List Int))).bind fun t142 => (if t142 = true then ((oid_Valid.f t112).bind fun t143 => (if t143 = true then ((oid_Below.f t112 (([2, 16] : List Int))).bind fun t147 => (if t147 = true then ((oid_Below.f t112 t112).bind fun t148 => (some (!t148))) else (some false))) else (some false))) else (some false)))) else (some false)))) = some r := by rw [if_pos rfl] at H; exact H
            clear H
            have H := H1
            clear H1
            by_cases c11 : t131 = true
            · subst c11
              have H1 : (some false) = some r := by rw [if_pos rfl] at H; exact H
              clear H
              have H := H1
              clear H1
              exact absurd ((Option.some.inj H).trans HT.out) (by decide)
            · replace c11 := Bool.eq_false_iff.mpr c11
              subst c11
              have H1 : ((oid_Text.f k t112).bind fun t135 => (if t135.toList = ([50, 46, 49, 54, 46, 56, 52, 48, 46, 49, 46, 49, 48, 49, 46, 51, 46, 52, 46, 52, 46, 49] : List UInt8) then ((oid_Content.f t112).bind fun t136 => ((pyxref01_Same.f k t136 (([96, 134, 72, 1, 101, 3, 4, 4, 1] : List Int))).bind fun t142 => (if t142 = true then ((oid_Valid.f t112).bind fun t143 => (if t143 = true then ((oid_Below.f t112 (([2, 16] : List Int))).bind fun t147 => (if t147 = true then ((oid_Below.f t112 t112).bind fun t148 => (some (!t148))) else (some false))) else (some false))) else (some false)))) else (some false))) = some r := by rw [if_neg (show ¬ (false = true) by decide)] at H; exact H
              clear H
              have H := H1
              clear H1
              replace H := Option.bind_eq_some_iff.mp H
              obtain ⟨t135, A120, H⟩ := H
              replace H : (if t135.toList = ([50, 46, 49, 54, 46, 56, 52, 48, 46, 49, 46, 49, 48, 49, 46, 51, 46, 52, 46, 52, 46, 49] : List UInt8) then ((oid_Content.f t112).bind fun t136 => ((pyxref01_Same.f k t136 (([96, 134, 72, 1, 101, 3, 4, 4, 1] : List Int))).bind fun t142 => (if t142 = true then ((oid_Valid.f t112).bind fun t143 => (if t143 = true then ((oid_Below.f t112 (([2, 16] : List Int))).bind fun t147 => (if t147 = true then ((oid_Below.f t112 t112).bind fun t148 => (some (!t148))) else (some false))) else (some false))) else (some false)))) else (some false)) = some r := H
              have A12 := Aside0.mk A120
              clear A120
              by_cases c13 : t135.toList = ([50, 46, 49, 54, 46, 56, 52, 48, 46, 49, 46, 49, 48, 49, 46, 51, 46, 52, 46, 52, 46, 49] : List UInt8)
              · rw [if_pos c13] at H
                have c13b0 : (t135.toList == ([50, 46, 49, 54, 46, 56, 52, 48, 46, 49, 46, 49, 48, 49, 46, 51, 46, 52, 46, 52, 46, 49] : List UInt8)) = true := beq_iff_eq.mpr c13
                have c13b1 : (t135.toList != ([50, 46, 49, 54, 46, 56, 52, 48, 46, 49, 46, 49, 48, 49, 46, 51, 46, 52, 46, 52, 46, 49] : List UInt8)) = false := bne_eq_false_iff_eq.mpr c13
                clear c13
                replace H := Option.bind_eq_some_iff.mp H
                obtain ⟨t136, A140, H⟩ := H
                replace H : ((pyxref01_Same.f k t136 (([96, 134, 72, 1, 101, 3, 4, 4, 1] : List Int))).bind fun t142 => (if t142 = true then ((oid_Valid.f t112).bind fun t143 => (if t143 = true then ((oid_Below.f t112 (([2, 16] : List Int))).bind fun t147 => (if t147 = true then ((oid_Below.f t112 t112).bind fun t148 => (some (!t148))) else (some false))) else (some false))) else (some false))) = some r := H
                have A14 := Aside0.mk A140
                clear A140
                obtain ⟨y139, hy139⟩ : ∃ y_ : List Int, y_ = (([96, 134, 72, 1, 101, 3, 4, 4, 1] : List Int)) := ⟨_, rfl⟩
                replace H : ((pyxref01_Same.f k t136 y139).bind fun t142 => (if t142 = true then ((oid_Valid.f t112).bind fun t143 => (if t143 = true then ((oid_Below.f t112 (([2, 16] : List Int))).bind fun t147 => (if t147 = true then ((oid_Below.f t112 t112).bind fun t148 => (some (!t148))) else (some false))) else (some false))) else (some false))) = some r := by first | (rw [hy139]; with_reducible exact H) | (have H2_ := (Option.bind_some _ _).symm.trans H; rw [hy139]; with_reducible exact H2_) | (have H2_ := (Option.bind_some _ _).symm.trans H; with_reducible exact H2_) | with_reducible exact H | (rw [hy139]; exact H) | exact H
                have Ny139 := Aside0.mk hy139
                clear hy139
                replace H := Option.bind_eq_some_iff.mp H
                obtain ⟨t142, A150, H⟩ := H
                replace H : (if t142 = true then ((oid_Valid.f t112).bind fun t143 => (if t143 = true then ((oid_Below.f t112 (([2, 16] : List Int))).bind fun t147 => (if t147 = true then ((oid_Below.f t112 t112).bind fun t148 => (some (!t148))) else (some false))) else (some false))) else (some false)) = some r := H
                have A15 := Aside0.mk A150
                clear A150
                by_cases c16 : t142 = true
                · subst c16
                  have H1 : ((oid_Valid.f t112).bind fun t143 => (if t143 = true then ((oid_Below.f t112 (([2, 16] : List Int))).bind fun t147 => (if t147 = true then ((oid_Below.f t112 t112).bind fun t148 => (some (!t148))) else (some false))) else (some false))) = some r := by rw [if_pos rfl] at H; exact H
                  clear H
                  have H := H1
                  clear H1
                  replace H := Option.bind_eq_some_iff.mp H
                  obtain ⟨t143, A170, H⟩ := H
                  replace H : (if t143 = true then ((oid_Below.f t112 (([2, 16] : List Int))).bind fun t147 => (if t147 = true then ((oid_Below.f t112 t112).bind fun t148 => (some (!t148))) else (some false))) else (some false)) = some r := H
                  have A17 := Aside0.mk A170
                  clear A170
                  by_cases c18 : t143 = true
                  · subst c18
                    have H1 : ((oid_Below.f t112 (([2, 16] : List Int))).bind fun t147 => (if t147 = true then ((oid_Below.f t112 t112).bind fun t148 => (some (!t148))) else (some false))) = some r := by rw [if_pos rfl] at H; exact H
                    clear H
                    have H := H1
                    clear H1
                    obtain ⟨y144, hy144⟩ : ∃ y_ : List Int, y_ = (([2, 16] : List Int)) := ⟨_, rfl⟩
                    replace H : ((oid_Below.f t112 y144).bind fun t147 => (if t147 = true then ((oid_Below.f t112 t112).bind fun t148 => (some (!t148))) else (some false))) = some r := by first | (rw [hy144]; with_reducible exact H) | (have H2_ := (Option.bind_some _ _).symm.trans H; rw [hy144]; with_reducible exact H2_) | (have H2_ := (Option.bind_some _ _).symm.trans H; with_reducible exact H2_) | with_reducible exact H | (rw [hy144]; exact H) | exact H
                    have Ny144 := Aside0.mk hy144
                    clear hy144
                    replace H := Option.bind_eq_some_iff.mp H
                    obtain ⟨t147, A190, H⟩ := H
                    replace H : (if t147 = true then ((oid_Below.f t112 t112).bind fun t148 => (some (!t148))) else (some false)) = some r := H
                    have A19 := Aside0.mk A190
                    clear A190
                    by_cases c20 : t147 = true
                    · subst c20
                      have H1 : ((oid_Below.f t112 t112).bind fun t148 => (some (!t148))) = some r := by rw [if_pos rfl] at H; exact H
                      clear H
                      have H := H1
                      clear H1
                      replace H := Option.bind_eq_some_iff.mp H
                      obtain ⟨t148, A210, H⟩ := H
                      replace H : (some (!t148)) = some r := H
                      have A21 := Aside0.mk A210
                      clear A210
                      obtain rfl := Option.some.inj H
                      go_enter Tryd.func13, Tryd.ntmps13
                      go_wp2_with (first | ((with_reducible refine gate_callee (f := 21) rfl ?_); refine goesL_ (some 10) rfl rfl Tryd.func21 (by kernel_rfl) rfl #[.string (⟨#[50, 46, 49, 54, 46, 56, 52, 48, 46, 49, 46, 49, 48, 49, 46, 51, 46, 52, 46, 52, 46, 49]⟩ : ByteArray)] rfl (by (try simp only [List.map_toArray, List.map_cons, List.map_nil]); first | done | rfl | (simp only [List.length_drop, List.length_take]; rfl)) ?_; (with_reducible refine (oid_Parse.calls k (⟨#[50, 46, 49, 54, 46, 56, 52, 48, 46, 49, 46, 49, 48, 49, 46, 51, 46, 52, 46, 52, 46, 49]⟩ : ByteArray) t112 true _ A1.out (by first | exact GOK.below HG.out (by repeat (first | (with_reducible first | exact HB.out | apply below_alloc | apply pw_below_drewN | apply below_drew1) | exact HB.out)) | (repeat (first | exact HG.out | apply GOK.drewN | apply GOK.drew)))).mono ?_); rintro e w22 ⟨v114, rfl, ho0, hb⟩; refine ⟨_, rfl, ?_⟩; have n0_ := Aside0.mk (Kd.R_lower ho0 (below_size (by repeat (first | (with_reducible first | exact HB.out | apply below_alloc | apply pw_below_drewN | apply below_drew1) | exact HB.out)))); have n1_ := Aside0.mk (below_step (by repeat (first | (with_reducible first | exact HB.out | apply below_alloc | apply pw_below_drewN | apply below_drew1) | exact HB.out)) hb); clear HB; have HO115 := n0_; have HB := n1_; clear n0_ n1_; (try clear hb); (try clear hb2); (try clear hk); (try clear hi); (try clear ho0)) | ((with_reducible refine gate_callee (f := 21) rfl ?_); refine goesL_ (some 14) rfl rfl Tryd.func21 (by kernel_rfl) rfl #[.string (⟨#[49, 46, 52, 48]⟩ : ByteArray)] rfl (by (try simp only [List.map_toArray, List.map_cons, List.map_nil]); first | done | rfl | (simp only [List.length_drop, List.length_take]; rfl)) ?_; (with_reducible refine (oid_Parse.calls k (⟨#[49, 46, 52, 48]⟩ : ByteArray) t116 false _ A2.out (by first | exact GOK.below HG.out (by repeat (first | (with_reducible first | exact HB.out | apply below_alloc | apply pw_below_drewN | apply below_drew1) | exact HB.out)) | (repeat (first | exact HG.out | apply GOK.drewN | apply GOK.drew)))).mono ?_); rintro e w23 ⟨v118, rfl, ho0, hb⟩; refine ⟨_, rfl, ?_⟩; have n0_ := Aside0.mk (Kd.R_elder' (by (with_reducible repeat (first | apply Kd.R_alloc | apply Kd.R_drewN | apply Kd.R_drew)); exact HO115.out) (Kd.R_base ho0) hb); have n1_ := Aside0.mk (Kd.R_lower (Kd.R_new' ho0 (Kd.R_lt (by (with_reducible repeat (first | apply Kd.R_alloc | apply Kd.R_drewN | apply Kd.R_drew)); exact HO115.out))) (below_size (by repeat (first | (with_reducible first | exact HB.out | apply below_alloc | apply pw_below_drewN | apply below_drew1) | exact HB.out)))); have n2_ := Aside0.mk (below_step (by repeat (first | (with_reducible first | exact HB.out | apply below_alloc | apply pw_below_drewN | apply below_drew1) | exact HB.out)) hb); clear HO115; clear HB; have HO115 := n0_; have HO119 := n1_; have HB := n2_; clear n0_ n1_ n2_; (try clear hb); (try clear hb2); (try clear hk); (try clear hi); (try clear ho0)) | ((with_reducible refine gate_dst (N := 18) rfl ?_); (try (refine gate_guard (by rfl) ?_; dsimp only)); refine Kd.R_lit (Kd.int .u8) _ 5 ?hg (N := 18) ?hd (xs := ([96, 134, 72, 1, 101, 3, 4, 4, 1] : List Int)) (inner := [.int .u8 96, .int .u8 134, .int .u8 72, .int .u8 1, .int .u8 101, .int .u8 3, .int .u8 4, .int .u8 4, .int .u8 1]) (ok := fun _ => True) (okp := fun _ => True) ?hr ?hp (fun _ hk => hk) trivial (Below.refl _ _) (Nat.le_refl _) (by simp) ?_; (case hd => rfl); (case hg => rfl); (case hr => first | (go_simp; done) | (go_simp; rfl)); (case hp => exact (Reps.one (show Kd.M (Kd.int .u8) _ _ _ 96 [.int .u8 96] from rfl) (Reps.one (show Kd.M (Kd.int .u8) _ _ _ 134 [.int .u8 134] from rfl) (Reps.one (show Kd.M (Kd.int .u8) _ _ _ 72 [.int .u8 72] from rfl) (Reps.one (show Kd.M (Kd.int .u8) _ _ _ 1 [.int .u8 1] from rfl) (Reps.one (show Kd.M (Kd.int .u8) _ _ _ 101 [.int .u8 101] from rfl) (Reps.one (show Kd.M (Kd.int .u8) _ _ _ 3 [.int .u8 3] from rfl) (Reps.one (show Kd.M (Kd.int .u8) _ _ _ 4 [.int .u8 4] from rfl) (Reps.one (show Kd.M (Kd.int .u8) _ _ _ 4 [.int .u8 4] from rfl) (Reps.one (show Kd.M (Kd.int .u8) _ _ _ 1 [.int .u8 1] from rfl) (Reps.none _ _))))))))))); intro v121 w24 ho25 hb hg_ hnew_; clear hg_ hnew_; (first | rw [← Ny120.out] at ho25 | (simp only [Int.reduceToNat] at ho25; rw [← Ny120.out] at ho25)); have n0_ := Aside0.mk (Kd.R_below (by (with_reducible repeat (first | apply Kd.R_alloc | apply Kd.R_drewN | apply Kd.R_drew)); exact HO115.out) hb); have n1_ := Aside0.mk (Kd.R_below (by (with_reducible repeat (first | apply Kd.R_alloc | apply Kd.R_drewN | apply Kd.R_drew)); exact HO119.out) hb); have n2_ := Aside0.mk (Kd.R_lower ho25 (below_size (by repeat (first | (with_reducible first | exact HB.out | apply below_alloc | apply pw_below_drewN | apply below_drew1) | exact HB.out)))); have n3_ := Aside0.mk (below_step (by repeat (first | (with_reducible first | exact HB.out | apply below_alloc | apply pw_below_drewN | apply below_drew1) | exact HB.out)) hb); clear HO115; clear HO119; clear HB; have HO115 := n0_; have HO119 := n1_; have HO122 := n2_; have HB := n3_; clear n0_ n1_ n2_ n3_; clear hb ho25; obtain ⟨Ao26, co26, eo26⟩ := Kd.R_slice HO122.out; subst eo26) | ((with_reducible refine gate_callee (f := 22) rfl ?_); refine goesL_ (some 19) rfl rfl Tryd.func22 (by kernel_rfl) rfl #[.slice Ao26 y120.length co26] rfl (by (try simp only [List.map_toArray, List.map_cons, List.map_nil]); first | done | rfl | (simp only [List.length_drop, List.length_take]; rfl)) ?_; (with_reducible refine (oid_Read.calls _ _ y120 t123 true _ ?side1 ?side2 A3.out).mono ?_); (case side1 => repeat (first | exact (Kd.R_reads' HO122.out).2.2 | (with_reducible refine Kd.C_alloc ?_ _) | (with_reducible refine Kd.C_drewN ?_ _) | (with_reducible refine Kd.C_drew ?_))); (case side2 => exact (Kd.R_reads' HO122.out).2.1); rintro e w27 ⟨v125, rfl, ho0, hb⟩; refine ⟨_, rfl, ?_⟩; have n0_ := Aside0.mk (Kd.R_elder' (by (with_reducible repeat (first | apply Kd.R_alloc | apply Kd.R_drewN | apply Kd.R_drew)); exact HO115.out) (Kd.R_base ho0) hb); have n1_ := Aside0.mk (Kd.R_elder' (by (with_reducible repeat (first | apply Kd.R_alloc | apply Kd.R_drewN | apply Kd.R_drew)); exact HO119.out) (Kd.R_base ho0) hb); have n2_ := Aside0.mk (Kd.R_below (by (with_reducible repeat (first | apply Kd.R_alloc | apply Kd.R_drewN | apply Kd.R_drew)); exact HO122.out) hb); have n3_ := Aside0.mk (Kd.R_lower (Kd.R_new' (Kd.R_new' ho0 (Kd.R_lt (by (with_reducible repeat (first | apply Kd.R_alloc | apply Kd.R_drewN | apply Kd.R_drew)); exact HO115.out))) (Kd.R_lt (by (with_reducible repeat (first | apply Kd.R_alloc | apply Kd.R_drewN | apply Kd.R_drew)); exact HO119.out))) (below_size (by repeat (first | (with_reducible first | exact HB.out | apply below_alloc | apply pw_below_drewN | apply below_drew1) | exact HB.out)))); have n4_ := Aside0.mk (below_step (by repeat (first | (with_reducible first | exact HB.out | apply below_alloc | apply pw_below_drewN | apply below_drew1) | exact HB.out)) hb); clear HO115; clear HO119; clear HO122; clear HB; have HO115 := n0_; have HO119 := n1_; have HO122 := n2_; have HO126 := n3_; have HB := n4_; clear n0_ n1_ n2_ n3_ n4_; (try clear hb); (try clear hb2); (try clear hk); (try clear hi); (try clear ho0)) | ((with_reducible refine gate_dst (N := 23) rfl ?_); (try (refine gate_guard (by rfl) ?_; dsimp only)); refine Kd.R_lit (Kd.int .u8) _ 5 ?hg (N := 23) ?hd (xs := ([96, 128, 1] : List Int)) (inner := [.int .u8 96, .int .u8 128, .int .u8 1]) (ok := fun _ => True) (okp := fun _ => True) ?hr ?hp (fun _ hk => hk) trivial (Below.refl _ _) (Nat.le_refl _) (by simp) ?_; (case hd => rfl); (case hg => rfl); (case hr => first | (go_simp; done) | (go_simp; rfl)); (case hp => exact (Reps.one (show Kd.M (Kd.int .u8) _ _ _ 96 [.int .u8 96] from rfl) (Reps.one (show Kd.M (Kd.int .u8) _ _ _ 128 [.int .u8 128] from rfl) (Reps.one (show Kd.M (Kd.int .u8) _ _ _ 1 [.int .u8 1] from rfl) (Reps.none _ _))))); intro v128 w28 ho29 hb hg_ hnew_; clear hg_ hnew_; (first | rw [← Ny127.out] at ho29 | (simp only [Int.reduceToNat] at ho29; rw [← Ny127.out] at ho29)); have n0_ := Aside0.mk (Kd.R_below (by (with_reducible repeat (first | apply Kd.R_alloc | apply Kd.R_drewN | apply Kd.R_drew)); exact HO115.out) hb); have n1_ := Aside0.mk (Kd.R_below (by (with_reducible repeat (first | apply Kd.R_alloc | apply Kd.R_drewN | apply Kd.R_drew)); exact HO119.out) hb); have n2_ := Aside0.mk (Kd.R_elder' (by (with_reducible repeat (first | apply Kd.R_alloc | apply Kd.R_drewN | apply Kd.R_drew)); exact HO122.out) (Kd.R_base ho29) hb); have n3_ := Aside0.mk (Kd.R_below (by (with_reducible repeat (first | apply Kd.R_alloc | apply Kd.R_drewN | apply Kd.R_drew)); exact HO126.out) hb); have n4_ := Aside0.mk (Kd.R_lower (Kd.R_new' ho29 (Kd.R_lt (by (with_reducible repeat (first | apply Kd.R_alloc | apply Kd.R_drewN | apply Kd.R_drew)); exact HO122.out))) (below_size (by repeat (first | (with_reducible first | exact HB.out | apply below_alloc | apply pw_below_drewN | apply below_drew1) | exact HB.out)))); have n5_ := Aside0.mk (below_step (by repeat (first | (with_reducible first | exact HB.out | apply below_alloc | apply pw_below_drewN | apply below_drew1) | exact HB.out)) hb); clear HO115; clear HO119; clear HO122; clear HO126; clear HB; have HO115 := n0_; have HO119 := n1_; have HO122 := n2_; have HO126 := n3_; have HO129 := n4_; have HB := n5_; clear n0_ n1_ n2_ n3_ n4_ n5_; clear hb ho29; obtain ⟨Ao30, co30, eo30⟩ := Kd.R_slice HO129.out; subst eo30) | ((with_reducible refine gate_callee (f := 22) rfl ?_); refine goesL_ (some 24) rfl rfl Tryd.func22 (by kernel_rfl) rfl #[.slice Ao30 y127.length co30] rfl (by (try simp only [List.map_toArray, List.map_cons, List.map_nil]); first | done | rfl | (simp only [List.length_drop, List.length_take]; rfl)) ?_; (with_reducible refine (oid_Read.calls _ _ y127 t130 false _ ?side1 ?side2 A4.out).mono ?_); (case side1 => repeat (first | exact (Kd.R_reads' HO129.out).2.2 | (with_reducible refine Kd.C_alloc ?_ _) | (with_reducible refine Kd.C_drewN ?_ _) | (with_reducible refine Kd.C_drew ?_))); (case side2 => exact (Kd.R_reads' HO129.out).2.1); rintro e w31 ⟨v132, rfl, ho0, hb⟩; refine ⟨_, rfl, ?_⟩; have n0_ := Aside0.mk (Kd.R_elder' (by (with_reducible repeat (first | apply Kd.R_alloc | apply Kd.R_drewN | apply Kd.R_drew)); exact HO115.out) (Kd.R_base ho0) hb); have n1_ := Aside0.mk (Kd.R_elder' (by (with_reducible repeat (first | apply Kd.R_alloc | apply Kd.R_drewN | apply Kd.R_drew)); exact HO119.out) (Kd.R_base ho0) hb); have n2_ := Aside0.mk (Kd.R_below (by (with_reducible repeat (first | apply Kd.R_alloc | apply Kd.R_drewN | apply Kd.R_drew)); exact HO122.out) hb); have n3_ := Aside0.mk (Kd.R_elder' (by (with_reducible repeat (first | apply Kd.R_alloc | apply Kd.R_drewN | apply Kd.R_drew)); exact HO126.out) (Kd.R_base ho0) hb); have n4_ := Aside0.mk (Kd.R_below (by (with_reducible repeat (first | apply Kd.R_alloc | apply Kd.R_drewN | apply Kd.R_drew)); exact HO129.out) hb); have n5_ := Aside0.mk (Kd.R_lower (Kd.R_new' (Kd.R_new' (Kd.R_new' ho0 (Kd.R_lt (by (with_reducible repeat (first | apply Kd.R_alloc | apply Kd.R_drewN | apply Kd.R_drew)); exact HO115.out))) (Kd.R_lt (by (with_reducible repeat (first | apply Kd.R_alloc | apply Kd.R_drewN | apply Kd.R_drew)); exact HO119.out))) (Kd.R_lt (by (with_reducible repeat (first | apply Kd.R_alloc | apply Kd.R_drewN | apply Kd.R_drew)); exact HO126.out))) (below_size (by repeat (first | (with_reducible first | exact HB.out | apply below_alloc | apply pw_below_drewN | apply below_drew1) | exact HB.out)))); have n6_ := Aside0.mk (below_step (by repeat (first | (with_reducible first | exact HB.out | apply below_alloc | apply pw_below_drewN | apply below_drew1) | exact HB.out)) hb); clear HO115; clear HO119; clear HO122; clear HO126; clear HO129; clear HB; have HO115 := n0_; have HO119 := n1_; have HO122 := n2_; have HO126 := n3_; have HO129 := n4_; have HO133 := n5_; have HB := n6_; clear n0_ n1_ n2_ n3_ n4_ n5_ n6_; (try clear hb); (try clear hb2); (try clear hk); (try clear hi); (try clear ho0); obtain ⟨Ao32, co32, eo32⟩ := Kd.R_slice HO115.out; subst eo32; obtain ⟨Ao33, co33, eo33⟩ := Kd.R_slice HO126.out; subst eo33) | (go_at_call 23; (with_reducible refine (slices_Equal_uint32_uint32.calls k _ _ t112 _ _ t123 true _ ?side1 ?side2 ?side3 ?side4 A8.out).mono ?_); (case side1 => repeat (first | exact (Kd.R_reads' HO115.out).2.2 | (with_reducible refine Kd.C_alloc ?_ _) | (with_reducible refine Kd.C_drewN ?_ _) | (with_reducible refine Kd.C_drew ?_))); (case side2 => exact (Kd.R_reads' HO115.out).2.1); (case side3 => repeat (first | exact (Kd.R_reads' HO126.out).2.2 | (with_reducible refine Kd.C_alloc ?_ _) | (with_reducible refine Kd.C_drewN ?_ _) | (with_reducible refine Kd.C_drew ?_))); (case side4 => exact (Kd.R_reads' HO126.out).2.1); rintro e w' ⟨rfl, ⟨nd, rfl⟩⟩) | (go_at_call 14; (with_reducible refine (oid_Text.calls k _ _ t112 t135 _ ?side1 ?side2 A12.out (by first | exact GOK.below HG.out (by repeat (first | (with_reducible first | exact HB.out | apply below_alloc | apply pw_below_drewN | apply below_drew1) | exact HB.out)) | (repeat (first | exact HG.out | apply GOK.drewN | apply GOK.drew)))).mono ?_); (case side1 => repeat (first | exact (Kd.R_reads' HO115.out).2.2 | (with_reducible refine Kd.C_alloc ?_ _) | (with_reducible refine Kd.C_drewN ?_ _) | (with_reducible refine Kd.C_drew ?_))); (case side2 => exact (Kd.R_reads' HO115.out).2.1); rintro e w34 ⟨rfl, hb⟩; have n0_ := Aside0.mk (Kd.R_below (by (with_reducible repeat (first | apply Kd.R_alloc | apply Kd.R_drewN | apply Kd.R_drew)); exact HO115.out) hb); have n1_ := Aside0.mk (Kd.R_below (by (with_reducible repeat (first | apply Kd.R_alloc | apply Kd.R_drewN | apply Kd.R_drew)); exact HO119.out) hb); have n2_ := Aside0.mk (Kd.R_below (by (with_reducible repeat (first | apply Kd.R_alloc | apply Kd.R_drewN | apply Kd.R_drew)); exact HO122.out) hb); have n3_ := Aside0.mk (Kd.R_below (by (with_reducible repeat (first | apply Kd.R_alloc | apply Kd.R_drewN | apply Kd.R_drew)); exact HO126.out) hb); have n4_ := Aside0.mk (Kd.R_below (by (with_reducible repeat (first | apply Kd.R_alloc | apply Kd.R_drewN | apply Kd.R_drew)); exact HO129.out) hb); have n5_ := Aside0.mk (Kd.R_below (by (with_reducible repeat (first | apply Kd.R_alloc | apply Kd.R_drewN | apply Kd.R_drew)); exact HO133.out) hb); have n6_ := Aside0.mk (below_step (by repeat (first | (with_reducible first | exact HB.out | apply below_alloc | apply pw_below_drewN | apply below_drew1) | exact HB.out)) hb); clear HO115; clear HO119; clear HO122; clear HO126; clear HO129; clear HO133; clear HB; have HO115 := n0_; have HO119 := n1_; have HO122 := n2_; have HO126 := n3_; have HO129 := n4_; have HO133 := n5_; have HB := n6_; clear n0_ n1_ n2_ n3_ n4_ n5_ n6_; (try clear hb); (try clear hb2); (try clear hk); (try clear hi)) | (go_at_call 15; (with_reducible refine (oid_Content.calls _ _ t112 t136 _ ?side1 ?side2 A14.out).mono ?_); (case side1 => repeat (first | exact (Kd.R_reads' HO115.out).2.2 | (with_reducible refine Kd.C_alloc ?_ _) | (with_reducible refine Kd.C_drewN ?_ _) | (with_reducible refine Kd.C_drew ?_))); (case side2 => exact (Kd.R_reads' HO115.out).2.1); rintro e w35 ⟨v137, rfl, ho0, hb⟩; have n0_ := Aside0.mk (Kd.R_below (by (with_reducible repeat (first | apply Kd.R_alloc | apply Kd.R_drewN | apply Kd.R_drew)); exact HO115.out) hb); have n1_ := Aside0.mk (Kd.R_below (by (with_reducible repeat (first | apply Kd.R_alloc | apply Kd.R_drewN | apply Kd.R_drew)); exact HO119.out) hb); have n2_ := Aside0.mk (Kd.R_elder' (by (with_reducible repeat (first | apply Kd.R_alloc | apply Kd.R_drewN | apply Kd.R_drew)); exact HO122.out) (Kd.R_base ho0) hb); have n3_ := Aside0.mk (Kd.R_below (by (with_reducible repeat (first | apply Kd.R_alloc | apply Kd.R_drewN | apply Kd.R_drew)); exact HO126.out) hb); have n4_ := Aside0.mk (Kd.R_elder' (by (with_reducible repeat (first | apply Kd.R_alloc | apply Kd.R_drewN | apply Kd.R_drew)); exact HO129.out) (Kd.R_base ho0) hb); have n5_ := Aside0.mk (Kd.R_below (by (with_reducible repeat (first | apply Kd.R_alloc | apply Kd.R_drewN | apply Kd.R_drew)); exact HO133.out) hb); have n6_ := Aside0.mk (Kd.R_lower (Kd.R_new' (Kd.R_new' ho0 (Kd.R_lt (by (with_reducible repeat (first | apply Kd.R_alloc | apply Kd.R_drewN | apply Kd.R_drew)); exact HO122.out))) (Kd.R_lt (by (with_reducible repeat (first | apply Kd.R_alloc | apply Kd.R_drewN | apply Kd.R_drew)); exact HO129.out))) (below_size (by repeat (first | (with_reducible first | exact HB.out | apply below_alloc | apply pw_below_drewN | apply below_drew1) | exact HB.out)))); have n7_ := Aside0.mk (below_step (by repeat (first | (with_reducible first | exact HB.out | apply below_alloc | apply pw_below_drewN | apply below_drew1) | exact HB.out)) hb); clear HO115; clear HO119; clear HO122; clear HO126; clear HO129; clear HO133; clear HB; have HO115 := n0_; have HO119 := n1_; have HO122 := n2_; have HO126 := n3_; have HO129 := n4_; have HO133 := n5_; have HO138 := n6_; have HB := n7_; clear n0_ n1_ n2_ n3_ n4_ n5_ n6_ n7_; (try clear hb); (try clear hb2); (try clear hk); (try clear hi); (try clear ho0)) | ((with_reducible refine gate_dst (N := 57) rfl ?_); (try (refine gate_guard (by rfl) ?_; dsimp only)); refine Kd.R_lit (Kd.int .u8) _ 5 ?hg (N := 57) ?hd (xs := ([96, 134, 72, 1, 101, 3, 4, 4, 1] : List Int)) (inner := [.int .u8 96, .int .u8 134, .int .u8 72, .int .u8 1, .int .u8 101, .int .u8 3, .int .u8 4, .int .u8 4, .int .u8 1]) (ok := fun _ => True) (okp := fun _ => True) ?hr ?hp (fun _ hk => hk) trivial (Below.refl _ _) (Nat.le_refl _) (by simp) ?_; (case hd => rfl); (case hg => rfl); (case hr => first | (go_simp; done) | (go_simp; rfl)); (case hp => exact (Reps.one (show Kd.M (Kd.int .u8) _ _ _ 96 [.int .u8 96] from rfl) (Reps.one (show Kd.M (Kd.int .u8) _ _ _ 134 [.int .u8 134] from rfl) (Reps.one (show Kd.M (Kd.int .u8) _ _ _ 72 [.int .u8 72] from rfl) (Reps.one (show Kd.M (Kd.int .u8) _ _ _ 1 [.int .u8 1] from rfl) (Reps.one (show Kd.M (Kd.int .u8) _ _ _ 101 [.int .u8 101] from rfl) (Reps.one (show Kd.M (Kd.int .u8) _ _ _ 3 [.int .u8 3] from rfl) (Reps.one (show Kd.M (Kd.int .u8) _ _ _ 4 [.int .u8 4] from rfl) (Reps.one (show Kd.M (Kd.int .u8) _ _ _ 4 [.int .u8 4] from rfl) (Reps.one (show Kd.M (Kd.int .u8) _ _ _ 1 [.int .u8 1] from rfl) (Reps.none _ _))))))))))); intro v140 w36 ho37 hb hg_ hnew_; clear hg_ hnew_; (first | rw [← Ny139.out] at ho37 | (simp only [Int.reduceToNat] at ho37; rw [← Ny139.out] at ho37)); have n0_ := Aside0.mk (Kd.R_below (by (with_reducible repeat (first | apply Kd.R_alloc | apply Kd.R_drewN | apply Kd.R_drew)); exact HO115.out) hb); have n1_ := Aside0.mk (Kd.R_below (by (with_reducible repeat (first | apply Kd.R_alloc | apply Kd.R_drewN | apply Kd.R_drew)); exact HO119.out) hb); have n2_ := Aside0.mk (Kd.R_elder' (by (with_reducible repeat (first | apply Kd.R_alloc | apply Kd.R_drewN | apply Kd.R_drew)); exact HO122.out) (Kd.R_base ho37) hb); have n3_ := Aside0.mk (Kd.R_below (by (with_reducible repeat (first | apply Kd.R_alloc | apply Kd.R_drewN | apply Kd.R_drew)); exact HO126.out) hb); have n4_ := Aside0.mk (Kd.R_elder' (by (with_reducible repeat (first | apply Kd.R_alloc | apply Kd.R_drewN | apply Kd.R_drew)); exact HO129.out) (Kd.R_base ho37) hb); have n5_ := Aside0.mk (Kd.R_below (by (with_reducible repeat (first | apply Kd.R_alloc | apply Kd.R_drewN | apply Kd.R_drew)); exact HO133.out) hb); have n6_ := Aside0.mk (Kd.R_elder' (by (with_reducible repeat (first | apply Kd.R_alloc | apply Kd.R_drewN | apply Kd.R_drew)); exact HO138.out) (Kd.R_base ho37) hb); have n7_ := Aside0.mk (Kd.R_lower (Kd.R_new' (Kd.R_new' (Kd.R_new' ho37 (Kd.R_lt (by (with_reducible repeat (first | apply Kd.R_alloc | apply Kd.R_drewN | apply Kd.R_drew)); exact HO122.out))) (Kd.R_lt (by (with_reducible repeat (first | apply Kd.R_alloc | apply Kd.R_drewN | apply Kd.R_drew)); exact HO129.out))) (Kd.R_lt (by (with_reducible repeat (first | apply Kd.R_alloc | apply Kd.R_drewN | apply Kd.R_drew)); exact HO138.out))) (below_size (by repeat (first | (with_reducible first | exact HB.out | apply below_alloc | apply pw_below_drewN | apply below_drew1) | exact HB.out)))); have n8_ := Aside0.mk (below_step (by repeat (first | (with_reducible first | exact HB.out | apply below_alloc | apply pw_below_drewN | apply below_drew1) | exact HB.out)) hb); clear HO115; clear HO119; clear HO122; clear HO126; clear HO129; clear HO133; clear HO138; clear HB; have HO115 := n0_; have HO119 := n1_; have HO122 := n2_; have HO126 := n3_; have HO129 := n4_; have HO133 := n5_; have HO138 := n6_; have HO141 := n7_; have HB := n8_; clear n0_ n1_ n2_ n3_ n4_ n5_ n6_ n7_ n8_; clear hb ho37; obtain ⟨Ao38, co38, eo38⟩ := Kd.R_slice HO138.out; subst eo38; obtain ⟨Ao39, co39, eo39⟩ := Kd.R_slice HO141.out; subst eo39) | (go_at_call 19; (with_reducible refine (pyxref01_Same.calls k _ _ t136 _ _ y139 true _ ?side1 ?side2 ?side3 ?side4 A15.out).mono ?_); (case side1 => repeat (first | exact (Kd.R_reads' HO138.out).2.2 | (with_reducible refine Kd.C_alloc ?_ _) | (with_reducible refine Kd.C_drewN ?_ _) | (with_reducible refine Kd.C_drew ?_))); (case side2 => exact (Kd.R_reads' HO138.out).2.1); (case side3 => repeat (first | exact (Kd.R_reads' HO141.out).2.2 | (with_reducible refine Kd.C_alloc ?_ _) | (with_reducible refine Kd.C_drewN ?_ _) | (with_reducible refine Kd.C_drew ?_))); (case side4 => exact (Kd.R_reads' HO141.out).2.1); rintro e w' ⟨rfl, ⟨nd, rfl⟩⟩) | (go_at_call 16; (with_reducible refine (oid_Valid.calls _ _ t112 true _ ?side1 ?side2 A17.out).mono ?_); (case side1 => repeat (first | exact (Kd.R_reads' HO115.out).2.2 | (with_reducible refine Kd.C_alloc ?_ _) | (with_reducible refine Kd.C_drewN ?_ _) | (with_reducible refine Kd.C_drew ?_))); (case side2 => exact (Kd.R_reads' HO115.out).2.1); rintro e w' ⟨rfl, ⟨nd, rfl⟩⟩) | ((with_reducible refine gate_dst (N := 66) rfl ?_); (try (refine gate_guard (by rfl) ?_; dsimp only)); refine Kd.R_lit (Kd.int .u32) _ 33 ?hg (N := 66) ?hd (xs := ([2, 16] : List Int)) (inner := [.int .u32 2, .int .u32 16]) (ok := fun _ => True) (okp := fun _ => True) ?hr ?hp (fun _ hk => hk) trivial (Below.refl _ _) (Nat.le_refl _) (by simp) ?_; (case hd => rfl); (case hg => rfl); (case hr => first | (go_simp; done) | (go_simp; rfl)); (case hp => exact (Reps.one (show Kd.M (Kd.int .u32) _ _ _ 2 [.int .u32 2] from rfl) (Reps.one (show Kd.M (Kd.int .u32) _ _ _ 16 [.int .u32 16] from rfl) (Reps.none _ _)))); intro v145 w40 ho41 hb hg_ hnew_; clear hg_ hnew_; (first | rw [← Ny144.out] at ho41 | (simp only [Int.reduceToNat] at ho41; rw [← Ny144.out] at ho41)); have n0_ := Aside0.mk (Kd.R_elder' (by (with_reducible repeat (first | apply Kd.R_alloc | apply Kd.R_drewN | apply Kd.R_drew)); exact HO115.out) (Kd.R_base ho41) hb); have n1_ := Aside0.mk (Kd.R_elder' (by (with_reducible repeat (first | apply Kd.R_alloc | apply Kd.R_drewN | apply Kd.R_drew)); exact HO119.out) (Kd.R_base ho41) hb); have n2_ := Aside0.mk (Kd.R_below (by (with_reducible repeat (first | apply Kd.R_alloc | apply Kd.R_drewN | apply Kd.R_drew)); exact HO122.out) hb); have n3_ := Aside0.mk (Kd.R_elder' (by (with_reducible repeat (first | apply Kd.R_alloc | apply Kd.R_drewN | apply Kd.R_drew)); exact HO126.out) (Kd.R_base ho41) hb); have n4_ := Aside0.mk (Kd.R_below (by (with_reducible repeat (first | apply Kd.R_alloc | apply Kd.R_drewN | apply Kd.R_drew)); exact HO129.out) hb); have n5_ := Aside0.mk (Kd.R_elder' (by (with_reducible repeat (first | apply Kd.R_alloc | apply Kd.R_drewN | apply Kd.R_drew)); exact HO133.out) (Kd.R_base ho41) hb); have n6_ := Aside0.mk (Kd.R_below (by (with_reducible repeat (first | apply Kd.R_alloc | apply Kd.R_drewN | apply Kd.R_drew)); exact HO138.out) hb); have n7_ := Aside0.mk (Kd.R_below (by (with_reducible repeat (first | apply Kd.R_alloc | apply Kd.R_drewN | apply Kd.R_drew)); exact HO141.out) hb); have n8_ := Aside0.mk (Kd.R_lower (Kd.R_new' (Kd.R_new' (Kd.R_new' (Kd.R_new' ho41 (Kd.R_lt (by (with_reducible repeat (first | apply Kd.R_alloc | apply Kd.R_drewN | apply Kd.R_drew)); exact HO115.out))) (Kd.R_lt (by (with_reducible repeat (first | apply Kd.R_alloc | apply Kd.R_drewN | apply Kd.R_drew)); exact HO119.out))) (Kd.R_lt (by (with_reducible repeat (first | apply Kd.R_alloc | apply Kd.R_drewN | apply Kd.R_drew)); exact HO126.out))) (Kd.R_lt (by (with_reducible repeat (first | apply Kd.R_alloc | apply Kd.R_drewN | apply Kd.R_drew)); exact HO133.out))) (below_size (by repeat (first | (with_reducible first | exact HB.out | apply below_alloc | apply pw_below_drewN | apply below_drew1) | exact HB.out)))); have n9_ := Aside0.mk (below_step (by repeat (first | (with_reducible first | exact HB.out | apply below_alloc | apply pw_below_drewN | apply below_drew1) | exact HB.out)) hb); clear HO115; clear HO119; clear HO122; clear HO126; clear HO129; clear HO133; clear HO138; clear HO141; clear HB; have HO115 := n0_; have HO119 := n1_; have HO122 := n2_; have HO126 := n3_; have HO129 := n4_; have HO133 := n5_; have HO138 := n6_; have HO141 := n7_; have HO146 := n8_; have HB := n9_; clear n0_ n1_ n2_ n3_ n4_ n5_ n6_ n7_ n8_ n9_; clear hb ho41; obtain ⟨Ao42, co42, eo42⟩ := Kd.R_slice HO146.out; subst eo42) | (go_at_call 26; (with_reducible refine (oid_Below.calls _ _ t112 _ _ y144 true _ ?side1 ?side2 ?side3 ?side4 A19.out).mono ?_); (case side1 => repeat (first | exact (Kd.R_reads' HO115.out).2.2 | (with_reducible refine Kd.C_alloc ?_ _) | (with_reducible refine Kd.C_drewN ?_ _) | (with_reducible refine Kd.C_drew ?_))); (case side2 => exact (Kd.R_reads' HO115.out).2.1); (case side3 => repeat (first | exact (Kd.R_reads' HO146.out).2.2 | (with_reducible refine Kd.C_alloc ?_ _) | (with_reducible refine Kd.C_drewN ?_ _) | (with_reducible refine Kd.C_drew ?_))); (case side4 => exact (Kd.R_reads' HO146.out).2.1); rintro e w' ⟨rfl, ⟨nd, rfl⟩⟩) | (go_at_call 26; (with_reducible refine (oid_Below.calls _ _ t112 _ _ t112 t148 _ ?side1 ?side2 ?side3 ?side4 A21.out).mono ?_); (case side1 => repeat (first | exact (Kd.R_reads' HO115.out).2.2 | (with_reducible refine Kd.C_alloc ?_ _) | (with_reducible refine Kd.C_drewN ?_ _) | (with_reducible refine Kd.C_drew ?_))); (case side2 => exact (Kd.R_reads' HO115.out).2.1); (case side3 => repeat (first | exact (Kd.R_reads' HO115.out).2.2 | (with_reducible refine Kd.C_alloc ?_ _) | (with_reducible refine Kd.C_drewN ?_ _) | (with_reducible refine Kd.C_drew ?_))); (case side4 => exact (Kd.R_reads' HO115.out).2.1); rintro e w' ⟨rfl, ⟨nd, rfl⟩⟩))
                      go_ret
                      exact ⟨by first | rfl | (simp [errW_none, errW_some] <;> rfl) | (simp [*, errW_none, errW_some] <;> rfl), by repeat (first | (with_reducible first | exact HB.out | apply below_alloc | apply pw_below_drewN | apply below_drew1) | exact HB.out)⟩
                    · replace c20 := Bool.eq_false_iff.mpr c20
                      subst c20
                      have H1 : (some false) = some r := by rw [if_neg (show ¬ (false = true) by decide)] at H; exact H
                      clear H
                      have H := H1
                      clear H1
                      exact absurd ((Option.some.inj H).trans HT.out) (by decide)
                  · replace c18 := Bool.eq_false_iff.mpr c18
                    subst c18
                    have H1 : (some false) = some r := by rw [if_neg (show ¬ (false = true) by decide)] at H; exact H
                    clear H
                    have H := H1
                    clear H1
                    exact absurd ((Option.some.inj H).trans HT.out) (by decide)
                · replace c16 := Bool.eq_false_iff.mpr c16
                  subst c16
                  have H1 : (some false) = some r := by rw [if_neg (show ¬ (false = true) by decide)] at H; exact H
                  clear H
                  have H := H1
                  clear H1
                  exact absurd ((Option.some.inj H).trans HT.out) (by decide)
              · rw [if_neg c13] at H
                have c13b0 : (t135.toList == ([50, 46, 49, 54, 46, 56, 52, 48, 46, 49, 46, 49, 48, 49, 46, 51, 46, 52, 46, 52, 46, 49] : List UInt8)) = false := beq_eq_false_iff_ne.mpr c13
                have c13b1 : (t135.toList != ([50, 46, 49, 54, 46, 56, 52, 48, 46, 49, 46, 49, 48, 49, 46, 51, 46, 52, 46, 52, 46, 49] : List UInt8)) = true := bne_iff_ne.mpr c13
                exact absurd ((Option.some.inj H).trans HT.out) (by decide)
          · replace c10 := Bool.eq_false_iff.mpr c10
            subst c10
            have H1 : (some false) = some r := by rw [if_neg (show ¬ (false = true) by decide)] at H; exact H
            clear H
            have H := H1
            clear H1
            exact absurd ((Option.some.inj H).trans HT.out) (by decide)
        · replace c9 := Bool.eq_false_iff.mpr c9
          subst c9
          have H1 : (some false) = some r := by rw [if_neg (show ¬ (false = true) by decide)] at H; exact H
          clear H
          have H := H1
          clear H1
          exact absurd ((Option.some.inj H).trans HT.out) (by decide)
    · replace c6 := Bool.eq_false_iff.mpr c6
      subst c6
      have H1 : (some false) = some r := by rw [if_neg (show ¬ (false = true) by decide)] at H; exact H
      clear H
      have H := H1
      clear H1
      exact absurd ((Option.some.inj H).trans HT.out) (by decide)
  · rw [if_neg c5] at H
    have c5b0 : ((t112.length : Int) == 9) = false := beq_eq_false_iff_ne.mpr c5
    have c5b1 : ((t112.length : Int) != 9) = true := bne_iff_ne.mpr c5
    exact absurd ((Option.some.inj H).trans HT.out) (by decide)
mutual
def pyxref09_Valid.j0 : Nat → List Int → Bool → Option (Bool)
  | 0, _, _ => none
  | k + 1, x0, x29 => if x29 = true then (some false) else (pyxref09_Valid.l0 k x0 0)
def pyxref09_Valid.l0 : Nat → List Int → Int → Option (Bool)
  | 0, _, _ => none
  | k + 1, x0, x3 => if x3 < (x0.length : Int) then (if 0 ≤ x3 then (if (rd x0 x3) ≥ 4294967216 then (some false) else (pyxref09_Valid.l0 k x0 (wrap64 (x3 + 1)))) else (none)) else (some true)
end
def pyxref09_Valid.f (k : Nat) (l0 : List Int) : Option (Bool) := if (l0.length : Int) < 2 then (pyxref09_Valid.j0 k l0 true) else (if (l0.length : Int) > 20 then (pyxref09_Valid.j0 k l0 true) else (if 0 < (l0.length : Int) then (if (rd l0 0) > 2 then (pyxref09_Valid.j0 k l0 true) else (if (rd l0 0) < 2 then (if 1 < (l0.length : Int) then (pyxref09_Valid.j0 k l0 (decide ((rd l0 1) > 39))) else (none)) else (pyxref09_Valid.j0 k l0 false))) else (none)))
set_option maxHeartbeats 8000000 in
set_option maxRecDepth 100000 in
theorem pyxref09_Valid.calls (k : Nat) (A0 : Option Addr) (c0 : Nat) (l0 : List Int) (r : Bool) (w : World) (hr0 : Kd.C (Kd.int .u32) w A0 l0.length l0) (hc0 : l0.length ≤ c0) (h : pyxref09_Valid.f k l0 = some r) :
    Calls Tryd.prog 17 #[.slice A0 l0.length c0] w fun e w' => e = .returned (.bool r) ∧ Drawn0 w w' := by
  have HR0 := Aside0.mk hr0
  have HC0 := Aside0.mk hc0
  clear hr0 hc0
  have H : (if (l0.length : Int) < 2 then (pyxref09_Valid.j0 k l0 true) else (if (l0.length : Int) > 20 then (pyxref09_Valid.j0 k l0 true) else (if 0 < (l0.length : Int) then (if (rd l0 0) > 2 then (pyxref09_Valid.j0 k l0 true) else (if (rd l0 0) < 2 then (if 1 < (l0.length : Int) then (pyxref09_Valid.j0 k l0 (decide ((rd l0 1) > 39))) else (none)) else (pyxref09_Valid.j0 k l0 false))) else (none)))) = some r := h
  clear h
  have HC2 := Aside0.mk H
  clear H
  go_enter Tryd.func17, Tryd.ntmps17
  go_upto_region 1 with (fail)
  go_cut [29] (fun v29 wc => ∃ (kq : Nat) (x29_1 : Bool), v29 = .bool x29_1 ∧ Aside0 (pyxref09_Valid.j0 kq l0 x29_1 = some r) ∧ Aside0 (kq ≤ k) ∧ Drawn0 w wc)
  case first =>
    have H := HC2.out
    clear HC2
    by_cases c3 : (l0.length : Int) < 2
    · rw [if_pos c3] at H
      have c3b0 : decide ((l0.length : Int) < 2) = true := decide_eq_true c3
      have c3b1 : decide (l0.length < 2) = true := decide_eq_true (by omega)
      clear c3
      (first | rw [c3b0] | (simp only [i64_w, i32_w]; rw [c3b0]) | skip)
      have H' := Aside0.mk H
      clear H
      go_wp2
      go_meet
      case rel => exact ⟨_, (true), (by first | rfl | (simp; done) | (simp [*]; done)), H', ⟨by first | omega | exact Nat.le_refl _⟩, by repeat (first | exact Drawn0.refl _ | apply Drawn0.step)⟩
    · rw [if_neg c3] at H
      have c3b0 : decide ((l0.length : Int) < 2) = false := decide_eq_false c3
      have c3b1 : decide (l0.length < 2) = false := decide_eq_false (by omega)
      clear c3
      (first | rw [c3b0] | (simp only [i64_w, i32_w]; rw [c3b0]) | skip)
      by_cases c4 : (l0.length : Int) > 20
      · rw [if_pos c4] at H
        have c4b0 : decide (20 < (l0.length : Int)) = true := decide_eq_true c4
        have c4b1 : decide (20 < l0.length) = true := decide_eq_true (by omega)
        clear c4
        have H' := Aside0.mk H
        clear H
        go_wp2
        go_meet
        case rel => exact ⟨_, (true), (by first | rfl | (simp; done) | (simp [*]; done)), H', ⟨by first | omega | exact Nat.le_refl _⟩, by repeat (first | exact Drawn0.refl _ | apply Drawn0.step)⟩
      · rw [if_neg c4] at H
        have c4b0 : decide (20 < (l0.length : Int)) = false := decide_eq_false c4
        have c4b1 : decide (20 < l0.length) = false := decide_eq_false (by omega)
        clear c4
        by_cases c5 : 0 < (l0.length : Int)
        · rw [if_pos c5] at H
          have c5b0 : decide (0 < (l0.length : Int)) = true := decide_eq_true c5
          have c5b1 : decide (0 < l0.length) = true := decide_eq_true (by omega)
          clear c5
          by_cases c6 : (rd l0 0) > 2
          · rw [if_pos c6] at H
            have c6b0 : decide (2 < (rd l0 0)) = true := decide_eq_true c6
            clear c6
            have H' := Aside0.mk H
            clear H
            have p149 : 0 ≤ (0 : Int) := (by omega)
            have q149 : 0 < (l0.length : Int) := of_decide_eq_true (by first | (with_reducible assumption) | assumption)
            obtain ⟨ad149, e149, hx149_0⟩ := Kd.at_int HR0.out 0 p149 q149
            cases e149
            have qi149 : (0 < l0.length) = True := eq_true (by omega)
            (try rw [show ((0 : Int)).toNat = 0 from rfl] at hx149_0)
            (try rw [Addr.add_zero'] at hx149_0)
            replace p149 := eq_true p149
            replace q149 := eq_true q149
            go_wp2
            go_meet
            case rel => exact ⟨_, (true), (by first | rfl | (simp; done) | (simp [*]; done)), H', ⟨by first | omega | exact Nat.le_refl _⟩, by repeat (first | exact Drawn0.refl _ | apply Drawn0.step)⟩
          · rw [if_neg c6] at H
            have c6b0 : decide (2 < (rd l0 0)) = false := decide_eq_false c6
            clear c6
            by_cases c7 : (rd l0 0) < 2
            · rw [if_pos c7] at H
              have c7b0 : decide ((rd l0 0) < 2) = true := decide_eq_true c7
              clear c7
              by_cases c8 : 1 < (l0.length : Int)
              · rw [if_pos c8] at H
                have c8b0 : decide (1 < (l0.length : Int)) = true := decide_eq_true c8
                have c8b1 : decide (1 < l0.length) = true := decide_eq_true (by omega)
                clear c8
                have H' := Aside0.mk H
                clear H
                have p149 : 0 ≤ (0 : Int) := (by omega)
                have q149 : 0 < (l0.length : Int) := of_decide_eq_true (by first | (with_reducible assumption) | assumption)
                obtain ⟨ad149, e149, hx149_0⟩ := Kd.at_int HR0.out 0 p149 q149
                cases e149
                have qi149 : (0 < l0.length) = True := eq_true (by omega)
                (try rw [show ((0 : Int)).toNat = 0 from rfl] at hx149_0)
                (try rw [Addr.add_zero'] at hx149_0)
                replace p149 := eq_true p149
                replace q149 := eq_true q149
                have p150 : 0 ≤ (0 : Int) := (by omega)
                have q150 : 0 < (l0.length : Int) := of_decide_eq_true (by first | (with_reducible assumption) | assumption)
                obtain ⟨ad150, e150, hx150_0⟩ := Kd.at_int HR0.out 0 p150 q150
                obtain rfl : ad149 = ad150 := (by injection e150)
                have qi150 : (0 < l0.length) = True := eq_true (by omega)
                (try rw [show ((0 : Int)).toNat = 0 from rfl] at hx150_0)
                (try rw [Addr.add_zero'] at hx150_0)
                replace p150 := eq_true p150
                replace q150 := eq_true q150
                have p151 : 0 ≤ (1 : Int) := (by omega)
                have q151 : 1 < (l0.length : Int) := of_decide_eq_true (by first | (with_reducible assumption) | assumption)
                obtain ⟨ad151, e151, hx151_0⟩ := Kd.at_int HR0.out 1 p151 q151
                obtain rfl : ad149 = ad151 := (by injection e151)
                (try simp only [show (1 : Int).toNat = 1 from rfl, Nat.reduceMul, Nat.reduceEqDiff, Go.Addr.add, ↓reduceIte] at hx151_0)
                have qi151 : (1 < l0.length) = True := eq_true (by omega)
                (try rw [show ((1 : Int)).toNat = 1 from rfl] at hx151_0)
                replace p151 := eq_true p151
                replace q151 := eq_true q151
                go_wp2
                go_meet
                case rel => exact ⟨_, (decide ((rd l0 1) > 39)), (by first | rfl | (simp; done) | (simp [*]; done)), H', ⟨by first | omega | exact Nat.le_refl _⟩, by repeat (first | exact Drawn0.refl _ | apply Drawn0.step)⟩
              · rw [if_neg c8] at H
                exact absurd H (by simp)
            · rw [if_neg c7] at H
              have c7b0 : decide ((rd l0 0) < 2) = false := decide_eq_false c7
              clear c7
              have H' := Aside0.mk H
              clear H
              have p149 : 0 ≤ (0 : Int) := (by omega)
              have q149 : 0 < (l0.length : Int) := of_decide_eq_true (by first | (with_reducible assumption) | assumption)
              obtain ⟨ad149, e149, hx149_0⟩ := Kd.at_int HR0.out 0 p149 q149
              cases e149
              have qi149 : (0 < l0.length) = True := eq_true (by omega)
              (try rw [show ((0 : Int)).toNat = 0 from rfl] at hx149_0)
              (try rw [Addr.add_zero'] at hx149_0)
              replace p149 := eq_true p149
              replace q149 := eq_true q149
              have p150 : 0 ≤ (0 : Int) := (by omega)
              have q150 : 0 < (l0.length : Int) := of_decide_eq_true (by first | (with_reducible assumption) | assumption)
              obtain ⟨ad150, e150, hx150_0⟩ := Kd.at_int HR0.out 0 p150 q150
              obtain rfl : ad149 = ad150 := (by injection e150)
              have qi150 : (0 < l0.length) = True := eq_true (by omega)
              (try rw [show ((0 : Int)).toNat = 0 from rfl] at hx150_0)
              (try rw [Addr.add_zero'] at hx150_0)
              replace p150 := eq_true p150
              replace q150 := eq_true q150
              go_wp2
              go_meet
              case rel => exact ⟨_, (false), (by first | rfl | (simp; done) | (simp [*]; done)), H', ⟨by first | omega | exact Nat.le_refl _⟩, by repeat (first | exact Drawn0.refl _ | apply Drawn0.step)⟩
        · rw [if_neg c5] at H
          exact absurd H (by simp)
  case rest =>
    clear HC2
    try clear c1
    try clear p1
    try clear q1
    try clear hx1
    try clear qi1
    try clear p2
    try clear c3
    try clear c3b0
    try clear c3b1
    try clear c4
    try clear c4b0
    try clear c4b1
    try clear c5
    try clear c5b0
    try clear c5b1
    try clear c6
    try clear c6b0
    try clear c7
    try clear c7b0
    try clear c8
    try clear c8b0
    try clear c8b1
    try clear hx149_0
    try clear hx150_0
    try clear hx151_0
    try clear p149
    try clear p150
    try clear p151
    try clear q149
    try clear q150
    try clear q151
    obtain ⟨kq, x29_1, rfl, HA, HJ1, ⟨mc1, rfl⟩⟩ := hcut
    cases kq with
    | zero => exact absurd HA.out (by simp [pyxref09_Valid.j0])
    | succ kj1 =>
      have H := HA.out
      clear HA
      simp only [pyxref09_Valid.j0] at H
      by_cases c9 : x29_1 = true
      · subst c9
        have H1 : (some false) = some r := by rw [if_pos rfl] at H; exact H
        clear H
        have H := H1
        clear H1
        obtain rfl := Option.some.inj H
        go_wp2
        go_ret
        exact ⟨by first | rfl | (simp; done) | (simp [*]; done), by repeat (first | exact Drawn0.refl _ | apply Drawn0.step)⟩
      · replace c9 := Bool.eq_false_iff.mpr c9
        subst c9
        have H1 : (pyxref09_Valid.l0 kj1 l0 0) = some r := by rw [if_neg (show ¬ (false = true) by decide)] at H; exact H
        clear H
        have H := H1
        clear H1
        have H' := Aside0.mk H
        clear H
        go_wp2
        go_loopg [3] kj1 (fun kq v3 w' => ∃ (x3_2 : Int), v3 = .int .i64 x3_2 ∧ Aside0 (pyxref09_Valid.l0 kq l0 x3_2 = some r) ∧ Aside0 (kq ≤ kj1) ∧ Drawn0 w w')
        case atStart => exact ⟨(0), (by first | rfl | (simp; done) | (simp [*]; done)), H', ⟨Nat.le_refl _⟩, by repeat (first | exact Drawn0.refl _ | apply Drawn0.step)⟩
        case round =>
          clear H'
          try clear c1
          try clear p1
          try clear q1
          try clear hx1
          try clear qi1
          try clear p2
          try clear c3
          try clear c3b0
          try clear c3b1
          try clear c4
          try clear c4b0
          try clear c4b1
          try clear c5
          try clear c5b0
          try clear c5b1
          try clear c6
          try clear c6b0
          try clear c7
          try clear c7b0
          try clear c8
          try clear c8b0
          try clear c8b1
          try clear c9
          try clear hx149_0
          try clear hx150_0
          try clear hx151_0
          try clear p1
          try clear p149
          try clear p150
          try clear p151
          try clear p2
          try clear q1
          try clear q149
          try clear q150
          try clear q151
          obtain ⟨x3_2, rfl, HA, HK2, ⟨m2, rfl⟩⟩ := hrel
          cases gk with
          | zero => exact absurd HA.out (by simp [pyxref09_Valid.l0])
          | succ k2 =>
            have H := HA.out
            clear HA
            simp only [pyxref09_Valid.l0] at H
            by_cases c10 : x3_2 < (l0.length : Int)
            · rw [if_pos c10] at H
              have c10b0 : decide (x3_2 < (l0.length : Int)) = true := decide_eq_true c10
              clear c10
              by_cases c11 : 0 ≤ x3_2
              · rw [if_pos c11] at H
                have c11b0 : decide (0 ≤ x3_2) = true := decide_eq_true c11
                clear c11
                by_cases c12 : (rd l0 x3_2) ≥ 4294967216
                · rw [if_pos c12] at H
                  have c12b0 : decide (4294967216 ≤ (rd l0 x3_2)) = true := decide_eq_true c12
                  clear c12
                  obtain rfl := Option.some.inj H
                  have p152 : 0 ≤ (x3_2 : Int) := of_decide_eq_true (by first | (with_reducible assumption) | assumption)
                  have q152 : x3_2 < (l0.length : Int) := of_decide_eq_true (by first | (with_reducible assumption) | assumption)
                  obtain ⟨ad152, e152, hx152_0⟩ := Kd.at_int HR0.out x3_2 p152 q152
                  cases e152
                  replace p152 := eq_true p152
                  replace q152 := eq_true q152
                  go_wp2
                  go_ret
                  exact ⟨by first | rfl | (simp; done) | (simp [*]; done), by repeat (first | exact Drawn0.refl _ | apply Drawn0.step)⟩
                · rw [if_neg c12] at H
                  have c12b0 : decide (4294967216 ≤ (rd l0 x3_2)) = false := decide_eq_false c12
                  clear c12
                  have H' := Aside0.mk H
                  clear H
                  have p152 : 0 ≤ (x3_2 : Int) := of_decide_eq_true (by first | (with_reducible assumption) | assumption)
                  have q152 : x3_2 < (l0.length : Int) := of_decide_eq_true (by first | (with_reducible assumption) | assumption)
                  obtain ⟨ad152, e152, hx152_0⟩ := Kd.at_int HR0.out x3_2 p152 q152
                  cases e152
                  replace p152 := eq_true p152
                  replace q152 := eq_true q152
                  go_wp2
                  go_roundg k2
                  case measure => have := HJ1.out; have := HK2.out; omega
                  case rel => exact ⟨(wrap64 (x3_2 + 1)), (by first | rfl | (simp; done) | (simp [*]; done)), H', ⟨by have := HJ1.out; have := HK2.out; omega⟩, by repeat (first | exact Drawn0.refl _ | apply Drawn0.step)⟩
              · rw [if_neg c11] at H
                exact absurd H (by simp)
            · rw [if_neg c10] at H
              have c10b0 : decide (x3_2 < (l0.length : Int)) = false := decide_eq_false c10
              clear c10
              obtain rfl := Option.some.inj H
              go_wp2
              go_ret
              exact ⟨by first | rfl | (simp; done) | (simp [*]; done), by repeat (first | exact Drawn0.refl _ | apply Drawn0.step)⟩
end Go.Proofs.YtohmnlmeamkmjaaDoor.POid
