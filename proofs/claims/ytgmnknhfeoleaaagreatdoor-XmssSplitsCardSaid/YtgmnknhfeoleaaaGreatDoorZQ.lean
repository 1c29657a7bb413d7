/- Short names for the proofs of terms that the texts of this claim repeat: no condition. -/
import Derived.Test.YtgmnknhfeoleaaaGreatDoorRows
import Derived.WalkKit
import Derived.ProofKit
import Derived.OpenShut
import Derived.ShutString
import Derived.ChangeOld
import Derived.Below
import Derived.SizedLaws
import Derived.Test.YtgmnknhfeoleaaaGreatDoorCards
import Derived.Test.YtgmnknhfeoleaaaGreatDoorTie
import Derived.LaidMore
import Derived.Lay
import Derived.LaidHandle
import Derived.SevenTiedAt
import Derived.Stop.Joined
import Derived.Test.YtgmnknhfeoleaaaGreatDoorProg
import Derived.Deep.Draws
import Derived.Deep.AppendLies
import Derived.Maps.AppendAt
import Derived.OwnWalk
import Derived.Laws.BytesArg
import Derived.Laws.MakeOwn
import Derived.Laws.OwnMore
import Derived.Deep.OwnRows
import Derived.Tactics
import Derived.Lib.ConvBytes
import Derived.Laws.Slices
import Derived.KernelRfl
import Derived.RowKit3
import Derived.Deep.LoopGhost
import Derived.Deep.QuietTactic
import Derived.BigQuiet
import Derived.WideLaws
import Derived.Deep.DeepCutAuto
import Derived.Deep.CutBlock
import Derived.Deep.RegionHeld3
import Derived.Laws.Rows
import Derived.Lib.AppendStr
import Derived.ArgAppend
import Derived.Laws.IdiomCopy
import Derived.OrdersHeld
import Derived.Laws.BitsLemmas
import Derived.RowKit
import Derived.Handed
import Derived.Lib.LaidTab
import Derived.Stop.LaidErr
import Derived.LaidEql
import Derived.Stop.Asserts
import Derived.Lib.AppendIntMem
import Derived.LaidLaws
import Derived.Laws.EntriesVeiled
import Derived.Deep.RegionWith
import Derived.RegionTactic
import Derived.WalkMore
import Derived.Lib.AtoiErrMem
import Derived.Laws.BitsAllLaws
import Derived.Laws.Bits64
import Derived.Lib.SliceRun
import Derived.Lib.AppendZerosOnto
import Derived.Lib.Walk
import Derived.RangeFuncNested
import Derived.RangeFuncBound
import Derived.RangeFuncCalls
import Derived.RangeFuncLeaves
import Derived.Shelf.Abstract
import Derived.Shelf.RegionOpen
import Derived.OwnWalkIn
import Derived.TacticsInMore
import Derived.LoopNIn
import Derived.LoopIn
import Derived.RangeFuncBox
import Derived.RangeFuncWrites
import Derived.RangeFuncMany
import Derived.StillTailTactics
namespace Go.Proofs.YtgmnknhfeoleaaaGreatDoor
set_option linter.unusedVariables false
theorem q0_ {P : Prop} (h : P := by (with_reducible repeat (first | apply Kd.V_alloc | apply Kd.V_drewN | apply Kd.V_drew)); exact (Kd.V_mono (Kd.V_far (p := ⟨gb459, 4, none⟩) (Kd.V_far (p := ⟨gb459, 3, none⟩) (Kd.V_far (p := ⟨gb459, 2, none⟩) (Kd.V_far (p := ⟨gb459, 1, none⟩) (Kd.V_far (p := ⟨gb459, 0, none⟩) (Kd.V_mono HO434.out (fun k_ hk => (⟨hk, hk.2⟩ : _ ∧ k_ ≠ gb459))) (fun _ hk => hk.2) (.int .i64 t448)) (fun _ hk => hk.2) (.int .u32 t449)) (fun _ hk => hk.2) (.slice Ao41 t450.length co41)) (fun _ hk => hk.2) (.slice Ao42 t453.length co42)) (fun _ hk => hk.2) (.slice Ao43 t456.length co43)) (fun _ h_ => h_.1))) : P := h
theorem q1_ {P : Prop} (h : P := by (with_reducible repeat (first | apply Kd.V_alloc | apply Kd.V_drewN | apply Kd.V_drew)); exact (Kd.V_mono (Kd.V_far (p := ⟨gb459, 4, none⟩) (Kd.V_far (p := ⟨gb459, 3, none⟩) (Kd.V_far (p := ⟨gb459, 2, none⟩) (Kd.V_far (p := ⟨gb459, 1, none⟩) (Kd.V_far (p := ⟨gb459, 0, none⟩) (Kd.V_mono HO452.out (fun k_ hk => (⟨hk, hk.2⟩ : _ ∧ k_ ≠ gb459))) (fun _ hk => hk.2) (.int .i64 t448)) (fun _ hk => hk.2) (.int .u32 t449)) (fun _ hk => hk.2) (.slice Ao41 t450.length co41)) (fun _ hk => hk.2) (.slice Ao42 t453.length co42)) (fun _ hk => hk.2) (.slice Ao43 t456.length co43)) (fun _ h_ => h_.1))) : P := h
theorem q2_ {P : Prop} (h : P := by (with_reducible repeat (first | apply Kd.R_alloc | apply Kd.R_drewN | apply Kd.R_drew)); exact (Kd.R_mono (Kd.R_far (p := ⟨gb442, 4, none⟩) (Kd.R_far (p := ⟨gb442, 3, none⟩) (Kd.R_far (p := ⟨gb442, 2, none⟩) (Kd.R_far (p := ⟨gb442, 1, none⟩) (Kd.R_far (p := ⟨gb442, 0, none⟩) (Kd.R_types HO429.out BK442.out (by decide)) (fun _ hk => hk.2) (.int .i64 t430)) (fun _ hk => hk.2) (.int .u32 t431)) (fun _ hk => hk.2) (.slice Ao116 t432.length co116)) (fun _ hk => hk.2) (.slice Ao117 t435.length co117)) (fun _ hk => hk.2) (.slice Ao118 t438.length co118)) (fun _ h_ => h_.1))) : P := h
theorem q3_ {P : Prop} (h : P := by first | exact V_blk HO390.out (by first | assumption | exact of_decide_eq_true (by assumption) | omega) (fun _ hk => hk.2.2.2) | (rw [add_block]; exact V_blk HO390.out (by first | assumption | exact of_decide_eq_true (by assumption) | omega) (fun _ hk => hk.2.2.2)) | (show (Addr.add _ _).block ≠ _; rw [add_block]; exact V_blk HO390.out (by first | assumption | exact of_decide_eq_true (by assumption) | omega) (fun _ hk => hk.2.2.2)) | (dsimp only; exact V_blk HO390.out (by first | assumption | exact of_decide_eq_true (by assumption) | omega) (fun _ hk => hk.2.2.2))) : P := h
theorem q4_ {P : Prop} (h : P := by (with_reducible repeat (first | apply Kd.R_alloc | apply Kd.R_drewN | apply Kd.R_drew)); exact (Kd.R_mono (Kd.R_far (p := ⟨gb442, 4, none⟩) (Kd.R_far (p := ⟨gb442, 3, none⟩) (Kd.R_far (p := ⟨gb442, 2, none⟩) (Kd.R_far (p := ⟨gb442, 1, none⟩) (Kd.R_far (p := ⟨gb442, 0, none⟩) (Kd.R_types HO429.out BK442.out (by decide)) (fun _ hk => hk.2) (.int .i64 t430)) (fun _ hk => hk.2) (.int .u32 t431)) (fun _ hk => hk.2) (.slice Ao27 t432.length co27)) (fun _ hk => hk.2) (.slice Ao28 t435.length co28)) (fun _ hk => hk.2) (.slice Ao29 t438.length co29)) (fun _ h_ => h_.1))) : P := h
theorem q5_ {P : Prop} (h : P := by (with_reducible repeat (first | refine blk_drewN ?_ _ | refine blk_drew ?_ | refine blk_alloc ?_ _)); refine blk_far ?_ NB383_387.out _; (with_reducible repeat (first | refine blk_drewN ?_ _ | refine blk_drew ?_ | refine blk_alloc ?_ _)); refine blk_far ?_ NB383_387.out _; (with_reducible repeat (first | refine blk_drewN ?_ _ | refine blk_drew ?_ | refine blk_alloc ?_ _)); exact BK383.out) : P := h
theorem q6_ {P : Prop} (h : P := by (with_reducible repeat (first | refine blk_drewN ?_ _ | refine blk_drew ?_ | refine blk_alloc ?_ _)); refine blk_far ?_ NB442_446.out _; (with_reducible repeat (first | refine blk_drewN ?_ _ | refine blk_drew ?_ | refine blk_alloc ?_ _)); refine blk_far ?_ NB442_446.out _; (with_reducible repeat (first | refine blk_drewN ?_ _ | refine blk_drew ?_ | refine blk_alloc ?_ _)); exact BK442.out) : P := h
theorem q7_ {P : Prop} (h : P := by first | exact GOK.below HG.out (by repeat (first | (with_reducible first | exact HB.out | apply below_alloc | apply pw_below_drewN | apply below_drew1 | refine below_set ?_ GE120.out | refine below_set ?_ GE121.out) | exact HB.out)) | (repeat (first | exact HG.out | apply GOK.drewN | apply GOK.drew))) : P := h
theorem q8_ {P : Prop} (h : P := by first | exact GOK.below HG.out (by repeat (first | (with_reducible first | exact HB.out | apply below_alloc | apply pw_below_drewN | apply below_drew1 | refine below_set ?_ GE233.out) | exact HB.out)) | (repeat (first | exact HG.out | apply GOK.drewN | apply GOK.drew))) : P := h
theorem q9_ {P : Prop} (h : P := by first | exact GOK.below HG.out (by repeat (first | (with_reducible first | exact HB.out | apply below_alloc | apply pw_below_drewN | apply below_drew1) | exact HB.out)) | (repeat (first | exact HG.out | apply GOK.drewN | apply GOK.drew))) : P := h
theorem q10_ {P : Prop} (h : P := by repeat (first | (with_reducible first | exact HB.out | apply below_alloc | apply pw_below_drewN | apply below_drew1 | refine below_set ?_ GE383.out | refine below_set ?_ GE387.out | refine below_set ?_ GE398.out) | exact HB.out)) : P := h
theorem q11_ {P : Prop} (h : P := by repeat (first | (with_reducible first | exact HB.out | apply below_alloc | apply pw_below_drewN | apply below_drew1 | refine below_set ?_ GE442.out | refine below_set ?_ GE446.out | refine below_set ?_ GE459.out) | exact HB.out)) : P := h
theorem q12_ {P : Prop} (h : P := by repeat (first | (with_reducible first | exact HB.out | apply below_alloc | apply pw_below_drewN | apply below_drew1 | refine below_set ?_ GE120.out | refine below_set ?_ GE121.out) | exact HB.out)) : P := h
theorem q13_ {P : Prop} (h : P := by repeat (first | (with_reducible first | exact HB.out | apply below_alloc | apply pw_below_drewN | apply below_drew1 | refine below_set ?_ GE383.out | refine below_set ?_ GE387.out) | exact HB.out)) : P := h
theorem q14_ {P : Prop} (h : P := by repeat (first | (with_reducible first | exact HB.out | apply below_alloc | apply pw_below_drewN | apply below_drew1 | refine below_set ?_ GE442.out | refine below_set ?_ GE446.out) | exact HB.out)) : P := h
theorem q15_ {P : Prop} (h : P := by repeat (first | (with_reducible exact HR462_0.out) | (with_reducible refine Kd.C_alloc ?_ _) | (with_reducible refine Kd.C_drewN ?_ _) | (with_reducible refine Kd.C_drew ?_) | exact HR462_0.out)) : P := h
theorem q16_ {P : Prop} (h : P := by repeat (first | (with_reducible exact HR463_0.out) | (with_reducible refine Kd.C_alloc ?_ _) | (with_reducible refine Kd.C_drewN ?_ _) | (with_reducible refine Kd.C_drew ?_) | exact HR463_0.out)) : P := h
theorem q17_ {P : Prop} (h : P := by repeat (first | (with_reducible exact HR465_0.out) | (with_reducible refine Kd.C_alloc ?_ _) | (with_reducible refine Kd.C_drewN ?_ _) | (with_reducible refine Kd.C_drew ?_) | exact HR465_0.out)) : P := h
theorem q18_ {P : Prop} (h : P := by repeat (first | (with_reducible exact HR466_0.out) | (with_reducible refine Kd.C_alloc ?_ _) | (with_reducible refine Kd.C_drewN ?_ _) | (with_reducible refine Kd.C_drew ?_) | exact HR466_0.out)) : P := h
theorem q19_ {P : Prop} (h : P := by (with_reducible repeat (first | apply Kd.V_alloc | apply Kd.V_drewN | apply Kd.V_drew)); exact Kd.V_mono HO390.out (fun _ hk => ⟨hk.1.1, ⟨hk.1.2.1, ⟨hk.1.2.2, hk.2⟩⟩⟩)) : P := h
theorem q20_ {P : Prop} (h : P := by (with_reducible repeat (first | apply Kd.V_alloc | apply Kd.V_drewN | apply Kd.V_drew)); exact Kd.V_mono HO397.out (fun _ hk => ⟨hk.1.1.1, ⟨hk.1.1.2, ⟨hk.1.2, hk.2⟩⟩⟩)) : P := h
theorem q21_ {P : Prop} (h : P := by (with_reducible repeat (first | apply Kd.V_alloc | apply Kd.V_drewN | apply Kd.V_drew)); exact Kd.V_mono HO0.out (fun _ hk => ⟨hk.1.1.1, ⟨hk.1.1.2, ⟨hk.1.2, hk.2⟩⟩⟩)) : P := h
theorem q22_ {P : Prop} (h : P := by repeat (first | (with_reducible first | exact HB.out | apply below_alloc | apply pw_below_drewN | apply below_drew1 | refine below_set ?_ GE120.out) | exact HB.out)) : P := h
theorem q23_ {P : Prop} (h : P := by repeat (first | (with_reducible first | exact HB.out | apply below_alloc | apply pw_below_drewN | apply below_drew1 | refine below_set ?_ GE233.out) | exact HB.out)) : P := h
theorem q24_ {P : Prop} (h : P := by repeat (first | (with_reducible first | exact HB.out | apply below_alloc | apply pw_below_drewN | apply below_drew1 | refine below_set ?_ GE284.out) | exact HB.out)) : P := h
theorem q25_ {P : Prop} (h : P := by repeat (first | (with_reducible first | exact HB.out | apply below_alloc | apply pw_below_drewN | apply below_drew1 | refine below_set ?_ GE383.out) | exact HB.out)) : P := h
theorem q26_ {P : Prop} (h : P := by repeat (first | (with_reducible first | exact HB.out | apply below_alloc | apply pw_below_drewN | apply below_drew1 | refine below_set ?_ GE442.out) | exact HB.out)) : P := h
theorem q27_ {P : Prop} (h : P := by repeat (first | (with_reducible first | exact HB.out | apply below_alloc | apply pw_below_drewN | apply below_drew1 | refine below_set ?_ GE104.out) | exact HB.out)) : P := h
theorem q28_ {P : Prop} (h : P := by repeat (first | (with_reducible first | exact HB.out | apply below_alloc | apply pw_below_drewN | apply below_drew1 | refine below_set ?_ GE.out) | exact HB.out)) : P := h
theorem q29_ {P : Prop} (h : P := by (try simp only [List.map_toArray, List.map_cons, List.map_nil]); first | done | rfl | (simp only [List.length_drop, List.length_take]; rfl)) : P := h
theorem q30_ {P : Prop} (h : P := by repeat (first | (with_reducible first | exact HB.out | apply below_alloc | apply pw_below_drewN | apply below_drew1) | exact HB.out)) : P := h
theorem q31_ {P : Prop} (h : P := by (with_reducible repeat (first | refine blk_drewN ?_ _ | refine blk_drew ?_ | refine blk_alloc ?_ _)); exact set10_0123456789_ BK.out) : P := h
theorem q32_ {P : Prop} (h : P := by (with_reducible repeat (first | refine blk_drewN ?_ _ | refine blk_drew ?_ | refine blk_alloc ?_ _)); exact set2_01_ BK284.out) : P := h
theorem q33_ {P : Prop} (h : P := by (with_reducible repeat (first | refine blk_drewN ?_ _ | refine blk_drew ?_ | refine blk_alloc ?_ _)); exact BK120.out) : P := h
theorem q34_ {P : Prop} (h : P := by (with_reducible repeat (first | refine blk_drewN ?_ _ | refine blk_drew ?_ | refine blk_alloc ?_ _)); exact BK121.out) : P := h
theorem q35_ {P : Prop} (h : P := by (with_reducible repeat (first | refine blk_drewN ?_ _ | refine blk_drew ?_ | refine blk_alloc ?_ _)); exact BK233.out) : P := h
theorem q36_ {P : Prop} (h : P := by (with_reducible repeat (first | refine blk_drewN ?_ _ | refine blk_drew ?_ | refine blk_alloc ?_ _)); exact BK284.out) : P := h
theorem q37_ {P : Prop} (h : P := by (with_reducible repeat (first | refine blk_drewN ?_ _ | refine blk_drew ?_ | refine blk_alloc ?_ _)); exact BK383.out) : P := h
theorem q38_ {P : Prop} (h : P := by (with_reducible repeat (first | refine blk_drewN ?_ _ | refine blk_drew ?_ | refine blk_alloc ?_ _)); exact BK387.out) : P := h
theorem q39_ {P : Prop} (h : P := by (with_reducible repeat (first | refine blk_drewN ?_ _ | refine blk_drew ?_ | refine blk_alloc ?_ _)); exact BK398.out) : P := h
theorem q40_ {P : Prop} (h : P := by (with_reducible repeat (first | refine blk_drewN ?_ _ | refine blk_drew ?_ | refine blk_alloc ?_ _)); exact BK442.out) : P := h
theorem q41_ {P : Prop} (h : P := by (with_reducible repeat (first | refine blk_drewN ?_ _ | refine blk_drew ?_ | refine blk_alloc ?_ _)); exact BK446.out) : P := h
theorem q42_ {P : Prop} (h : P := by (with_reducible repeat (first | refine blk_drewN ?_ _ | refine blk_drew ?_ | refine blk_alloc ?_ _)); exact BK.out) : P := h
theorem q43_ {P : Prop} (h : P := by (with_reducible repeat (first | refine blk_drewN ?_ _ | refine blk_drew ?_ | refine blk_alloc ?_ _)); exact BA.out) : P := h
theorem q44_ {P : Prop} (h : P := by (with_reducible repeat (first | apply Kd.R_alloc | apply Kd.R_drewN | apply Kd.R_drew)); exact HO_122007.out) : P := h
theorem q45_ {P : Prop} (h : P := by (with_reducible repeat (first | apply Kd.R_alloc | apply Kd.R_drewN | apply Kd.R_drew)); exact HO178.out) : P := h
theorem q46_ {P : Prop} (h : P := by (with_reducible repeat (first | apply Kd.R_alloc | apply Kd.R_drewN | apply Kd.R_drew)); exact HO181.out) : P := h
theorem q47_ {P : Prop} (h : P := by (with_reducible repeat (first | apply Kd.R_alloc | apply Kd.R_drewN | apply Kd.R_drew)); exact HO184.out) : P := h
theorem q48_ {P : Prop} (h : P := by (with_reducible repeat (first | apply Kd.R_alloc | apply Kd.R_drewN | apply Kd.R_drew)); exact HO187.out) : P := h
theorem q49_ {P : Prop} (h : P := by (with_reducible repeat (first | apply Kd.R_alloc | apply Kd.R_drewN | apply Kd.R_drew)); exact HO222.out) : P := h
theorem q50_ {P : Prop} (h : P := by (with_reducible repeat (first | apply Kd.R_alloc | apply Kd.R_drewN | apply Kd.R_drew)); exact HO426.out) : P := h
theorem q51_ {P : Prop} (h : P := by (with_reducible repeat (first | apply Kd.R_alloc | apply Kd.R_drewN | apply Kd.R_drew)); exact HO429.out) : P := h
theorem q52_ {P : Prop} (h : P := by (with_reducible repeat (first | apply Kd.V_alloc | apply Kd.V_drewN | apply Kd.V_drew)); exact HO434.out) : P := h
theorem q53_ {P : Prop} (h : P := by (with_reducible repeat (first | apply Kd.V_alloc | apply Kd.V_drewN | apply Kd.V_drew)); exact HO437.out) : P := h
theorem q54_ {P : Prop} (h : P := by (with_reducible repeat (first | apply Kd.V_alloc | apply Kd.V_drewN | apply Kd.V_drew)); exact HO440.out) : P := h
theorem q55_ {P : Prop} (h : P := by (with_reducible repeat (first | apply Kd.R_alloc | apply Kd.R_drewN | apply Kd.R_drew)); exact HO_6.out) : P := h
theorem q56_ {P : Prop} (h : P := by (with_reducible repeat (first | apply Kd.R_alloc | apply Kd.R_drewN | apply Kd.R_drew)); exact HO_5.out) : P := h
theorem q57_ {P : Prop} (h : P := by (with_reducible repeat (first | apply Kd.R_alloc | apply Kd.R_drewN | apply Kd.R_drew)); exact HO_3.out) : P := h
theorem q58_ {P : Prop} (h : P := by (with_reducible repeat (first | apply Kd.V_alloc | apply Kd.V_drewN | apply Kd.V_drew)); exact HO0.out) : P := h
theorem q59_ {P : Prop} (h : P := by repeat (first | exact HB2.out | apply below_alloc | apply pw_below_drewN | apply below_drew1)) : P := h
theorem q60_ {P : Prop} (h : P := by repeat (first | exact HR2.out | apply Kd.R_alloc | apply Kd.R_drewN | apply Kd.R_drew)) : P := h
theorem q61_ {P : Prop} (h : P := by repeat (first | exact HV.out | apply Kd.R_alloc | apply Kd.R_drewN | apply Kd.R_drew)) : P := h
theorem q62_ {P : Prop} (h : P := by (try simp only [List.map_toArray, List.map_cons, List.map_nil]); first | done | rfl) : P := h
theorem q63_ {P : Prop} (h : P := by first | (with_reducible assumption) | assumption) : P := h
theorem q64_ {P : Prop} (h : P := by first | rfl | (simp; done) | (simp [*]; done)) : P := h
end Go.Proofs.YtgmnknhfeoleaaaGreatDoor
