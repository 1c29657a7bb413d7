import Derived.Test.YthdjmojpnimhjaaDoorZPCbgx0
namespace Go.Proofs.YthdjmojpnimhjaaDoor.PCbg
open Go.RowKit Go.Proofs.YthdjmojpnimhjaaDoorW.PrintWords Go.Proofs.YthdjmojpnimhjaaDoorW.PrintLast Go.Proofs.YthdjmojpnimhjaaDoorW.PrintMore
set_option linter.unusedVariables false
set_option linter.unusedSimpArgs false
section
open Go.Extern.Stop Go.Stop Go.Extern
theorem xe_valueOfP (t : Addr) (w : World) : (ReflectliteValue.unpack (.iface 148 (.pointer (some t)))).run Tryd.prog w
  = .ok (.agg #[.pointer (some ⟨2, 148, none⟩), .pointer (some ⟨w.heap.size, 0, none⟩), .int .u64 150]) (w.alloc (.cells #[.pointer (some t)] 148)) := by kernel_rfl
theorem xe_typeP (a : Addr) (w : World) : (ReflectliteValue.methodAny (ReflectliteValue.valueError "reflectlite.Value.Type" 0) (fun t _ _ _ => ReflectliteType.toType t) #[.agg #[.pointer (some ⟨2, 148, none⟩), .pointer (some a), .int .u64 150]]).run Tryd.prog w
  = .ok (.iface 189 (.agg #[.pointer (some ⟨2, 148, none⟩)])) w := by kernel_rfl
theorem xe_kindP (w : World) : ((ReflectliteType.abiMethod fun t => (fun a : Nat => Value.int IntKind.u8 (a : Int)) <$> Rtype.kind t) #[.pointer (some ⟨2, 148, none⟩)]).run Tryd.prog w = .ok (.int .u8 22) w := by kernel_rfl
theorem xe_kindC (w : World) : ((ReflectliteType.abiMethod fun t => (fun a : Nat => Value.int IntKind.u8 (a : Int)) <$> Rtype.kind t) #[.pointer (some ⟨2, 89, none⟩)]).run Tryd.prog w = .ok (.int .u8 2) w := by kernel_rfl
theorem xe_rlm (z : Sem Value) (f : TypeId → Addr → Nat → Nat → Sem Value) (v : Value) :
  ReflectliteValue.method z f #[v] = (do match ← ReflectliteValue.parts v with | none => z | some (t, a, fl) => f t a fl (fl % 32)) := rfl
theorem xe_partsP (a : Addr) (w : World) : (ReflectliteValue.parts (.agg #[.pointer (some ⟨2, 148, none⟩), .pointer (some a), .int .u64 150])).run Tryd.prog w = .ok (some (148, a, 150)) w := by kernel_rfl
theorem xe_isNil (a p : Addr) (W : World) (ha : W.cell? a = some (.pointer (some p))) :
  (ReflectliteValue.method (ReflectliteValue.valueError "reflectlite.Value.IsNil" 0) ReflectliteValue.isNil #[.agg #[.pointer (some ⟨2, 148, none⟩), .pointer (some a), .int .u64 150]]).run Tryd.prog W = .ok (.bool false) W := by
 rw [xe_rlm]
 simp only [Sem.run_bind, xe_partsP, Result.andThen]
 simp [ReflectliteValue.isNil, loadVar, isAgg, underlying, Tryd.underlying148, ha, Result.andThen]
theorem xe_elem (w : World) : (ReflectliteType.method ReflectliteType.elem #[.agg #[.pointer (some ⟨2, 148, none⟩)]]).run Tryd.prog w = .ok (.iface 189 (.agg #[.pointer (some ⟨2, 89, none⟩)])) w := by kernel_rfl
theorem xe_impl (w : World) : (ReflectliteType.relation "Implements" ReflectliteType.implements_ #[.agg #[.pointer (some ⟨2, 89, none⟩)], .iface 189 (.agg #[.pointer (some ⟨2, 29, none⟩)])]).run Tryd.prog w = .ok (.bool true) w := by kernel_rfl
theorem xe_typeOfC (v : Value) (w : World) : (ReflectliteType.typeOf #[.iface 89 v]).run Tryd.prog w = .ok (.iface 189 (.agg #[.pointer (some ⟨2, 89, none⟩)])) w := by kernel_rfl
theorem xe_typeOfF (v : Value) (w : World) : (ReflectliteType.typeOf #[.iface 127 v]).run Tryd.prog w = .ok (.iface 189 (.agg #[.pointer (some ⟨2, 127, none⟩)])) w := by kernel_rfl
theorem xe_asgC (w : World) : (ReflectliteType.relation "AssignableTo" ReflectliteType.assignableTo #[.agg #[.pointer (some ⟨2, 89, none⟩)], .iface 189 (.agg #[.pointer (some ⟨2, 89, none⟩)])]).run Tryd.prog w = .ok (.bool true) w := by kernel_rfl
theorem xe_asgF (w : World) : (ReflectliteType.relation "AssignableTo" ReflectliteType.assignableTo #[.agg #[.pointer (some ⟨2, 127, none⟩)], .iface 189 (.agg #[.pointer (some ⟨2, 89, none⟩)])]).run Tryd.prog w = .ok (.bool false) w := by kernel_rfl
theorem xe_valueOfC (c : Int) (w : World) : (ReflectliteValue.unpack (.iface 89 (.int .i64 c))).run Tryd.prog w
  = .ok (.agg #[.pointer (some ⟨2, 89, none⟩), .pointer (some ⟨w.heap.size, 0, none⟩), .int .u64 130]) (w.alloc (.cells #[.int .i64 c] 89)) := by kernel_rfl
theorem xe_elemOf (w : World) : (Rtype.elem? 148).run Tryd.prog w = .ok (some 89) w := by kernel_rfl
theorem xe_mk (p : Addr) (w : World) : (ReflectliteValue.mk 89 p ReflectliteValue.flagAddr).run Tryd.prog w = .ok (.agg #[.pointer (some ⟨2, 89, none⟩), .pointer (some p), .int .u64 386]) w := by kernel_rfl
theorem xe_elemV (a p : Addr) (W : World) (ha : W.cell? a = some (.pointer (some p))) :
  (ReflectliteValue.method (ReflectliteValue.valueError "reflectlite.Value.Elem" 0) ReflectliteValue.elem #[.agg #[.pointer (some ⟨2, 148, none⟩), .pointer (some a), .int .u64 150]]).run Tryd.prog W
   = .ok (.agg #[.pointer (some ⟨2, 89, none⟩), .pointer (some p), .int .u64 386]) W := by
 rw [xe_rlm]
 simp only [Sem.run_bind, xe_partsP, Result.andThen]
 simp [ReflectliteValue.elem, loadVar, isAgg, underlying, Tryd.underlying148, ha, Result.andThen, xe_elemOf, xe_mk]
theorem xe_rls (v x : Value) : ReflectliteValue.set #[v, x] = (do
  let (some (dst, a, fl), some (src, b, _)) := (← ReflectliteValue.parts v, ← ReflectliteValue.parts x)
   | unsupported (.noEntry "extern/(internal/reflectlite.Value).Set.zeroValue")
  if fl / ReflectliteValue.flagAddr % 2 == 0 then unsupported (.noEntry "extern/(internal/reflectlite.Value).Set.unaddressable")
  let val ← loadVar src b
  if ← Rtype.directlyAssignable dst src then storeVar dst a val
  else if ← Rtype.implements dst src then
   if (← Rtype.kind src) == 20 then
    match val with
    | .nilIface => unsupported (.noEntry "extern/reflectlite: a nil value of one interface type handed on as a value of another")
    | _ => storeVar dst a val
   else storeVar dst a (.iface src val)
  else panicString ("reflectlite.Set: value of type " ++ (← Rtype.spelt src) ++ " is not assignable to type " ++ (← Rtype.spelt dst))
  pure (.tuple #[])) := rfl
theorem xe_partsA (a : Addr) (w : World) : (ReflectliteValue.parts (.agg #[.pointer (some ⟨2, 89, none⟩), .pointer (some a), .int .u64 386])).run Tryd.prog w = .ok (some (89, a, 386)) w := by kernel_rfl
theorem xe_partsB (a : Addr) (w : World) : (ReflectliteValue.parts (.agg #[.pointer (some ⟨2, 89, none⟩), .pointer (some a), .int .u64 130])).run Tryd.prog w = .ok (some (89, a, 130)) w := by kernel_rfl
theorem xe_direct (w : World) : (Rtype.directlyAssignable 89 89).run Tryd.prog w = .ok true w := by kernel_rfl
theorem xe_set (ta b : Addr) (c : Int) (old : Value) (W : World) (hb : W.cell? b = some (.int .i64 c)) (ht : W.cell? ta = some old) (hf : W.frozen? ta = false) :
  (ReflectliteValue.set #[.agg #[.pointer (some ⟨2, 89, none⟩), .pointer (some ta), .int .u64 386], .agg #[.pointer (some ⟨2, 89, none⟩), .pointer (some b), .int .u64 130]]).run Tryd.prog W
   = .ok (.tuple #[]) (W.setCell ta (.int .i64 c)) := by
 rw [xe_rls]
 simp only [Sem.run_bind, xe_partsA, xe_partsB, Result.andThen]
 simp [ReflectliteValue.flagAddr, loadVar, isAgg, underlying, Tryd.underlying89, hb, Result.andThen, xe_direct, storeVar, Value.cells, storeCells, Addr.add]
 rw [run_store Tryd.prog W ta _ _ (by rfl)]
 simp [ht, hf]
theorem xe_mKind (h : Value) (w : World) : (Go.method 325 189 (.agg #[h]) "Kind").run Tryd.prog w = .ok (149, h) w := by kernel_rfl
theorem xe_mElem (h : Value) (w : World) : (Go.method 325 189 (.agg #[h]) "Elem").run Tryd.prog w = .ok (163, .agg #[h]) w := by kernel_rfl
theorem xe_mImpl (h : Value) (w : World) : (Go.method 325 189 (.agg #[h]) "Implements").run Tryd.prog w = .ok (164, .agg #[h]) w := by kernel_rfl
theorem xe_mAsg (h : Value) (w : World) : (Go.method 325 189 (.agg #[h]) "AssignableTo").run Tryd.prog w = .ok (161, .agg #[h]) w := by kernel_rfl
theorem xe_mUnw (c n : Int) (w : World) : (Go.method 325 127 (.agg #[.int .i64 c, .int .i64 n]) "Unwrap").run Tryd.prog w = .ok (155, .agg #[.int .i64 c, .int .i64 n]) w := by kernel_rfl
def E.cd : E → Int
 | .fault c _ => c
 | .code c => c
theorem xe_noAsF (v : Value) (xT : TypeId) (w : World) : (Instr.typeAssert (.iface 127 v) xT 194 true).run Tryd.prog w = .ok (.tuple #[.nilIface, .bool false]) w := run_typeAssert_lacksB Tryd.underlying194 (by kernel_rfl) (by kernel_rfl) v xT w
theorem xe_unwF (v : Value) (xT : TypeId) (w : World) : (Instr.typeAssert (.iface 127 v) xT 167 true).run Tryd.prog w = .ok (.tuple #[.iface 127 v, .bool true]) w := run_typeAssert_hasB Tryd.underlying167 (by kernel_rfl) v xT w
theorem xe_unwC (v : Value) (xT : TypeId) (w : World) : (Instr.typeAssert (.iface 89 v) xT 167 true).run Tryd.prog w = .ok (.tuple #[.nilIface, .bool false]) w := run_typeAssert_lacksB Tryd.underlying167 (by kernel_rfl) (by kernel_rfl) v xT w
end
section
open Go.Extern.Stop Go.Stop Go.Extern
set_option maxHeartbeats 4000000 in
set_option maxRecDepth 100000 in
theorem xe_asC (c : Int) (t a : Addr) (old : Value) (w : World) (ha : w.cell? a = some (.pointer (some t))) (ht : w.cell? t = some old) (hf : w.frozen? t = false) :
  Calls Tryd.prog 125 #[.iface 89 (.int .i64 c), .iface 148 (.pointer (some t)), .agg #[.pointer (some ⟨2, 148, none⟩), .pointer (some a), .int .u64 150], .iface 189 (.agg #[.pointer (some ⟨2, 89, none⟩)])] w fun ev w' => ev = .returned (.bool true) ∧ ∃ w1, w' = w1.setCell t (.int .i64 c) ∧ Below w.heap.size w w1 := by
 have hlt := World.block_lt_of_cell? w t ht
 have hla := World.block_lt_of_cell? w a ha
 have hfTypeOf := @run_callFunc_extern Tryd.prog 130 _ ReflectliteType.typeOf Tryd.func130 (by kernel_rfl) (by kernel_rfl) (by kernel_rfl) (by kernel_rfl)
 have hfAsg := @run_callFunc_extern Tryd.prog 161 _ (ReflectliteType.relation "AssignableTo" ReflectliteType.assignableTo) Tryd.func161 (by kernel_rfl) (by kernel_rfl) (by kernel_rfl) (by kernel_rfl)
 have hfValueOf := @run_callFunc_extern Tryd.prog 122 _ (fun args => ReflectliteValue.unpack (args.getD 0 (.tuple #[]))) Tryd.func122 (by kernel_rfl) (by kernel_rfl) (by kernel_rfl) (by kernel_rfl)
 have hfElemV := @run_callFunc_extern Tryd.prog 131 _ (ReflectliteValue.method (ReflectliteValue.valueError "reflectlite.Value.Elem" 0) ReflectliteValue.elem) Tryd.func131 (by kernel_rfl) (by kernel_rfl) (by kernel_rfl) (by kernel_rfl)
 have hfSet := @run_callFunc_extern Tryd.prog 132 _ ReflectliteValue.set Tryd.func132 (by kernel_rfl) (by kernel_rfl) (by kernel_rfl) (by kernel_rfl)
 have t1 := xe_typeOfC
 have m1 := xe_mAsg
 have a1 := xe_asgC
 have v1 := xe_valueOfC c
 obtain ⟨W1, hW1⟩ : ∃ W1, w.alloc (.cells #[.pointer (some ⟨2, 148, none⟩), .pointer (some a), .int .u64 150] 175) = W1 := ⟨_, rfl⟩
 have hs1 : W1.heap.size = w.heap.size + 1 := by rw [← hW1]; simp
 have ev := xe_elemV a t W1 (by rw [← hW1, World.cell?_alloc_lt _ _ a hla]; exact ha)
 have st := xe_set t ⟨W1.heap.size, 0, none⟩ c old (W1.alloc (.cells #[.int .i64 c] 89)) (by rw [World.cell?_alloc_at _ _ _ _ (by simp)]; rfl)
  (by rw [World.cell?_alloc_lt _ _ t (by rw [hs1]; omega), ← hW1, World.cell?_alloc_lt _ _ t hlt]; exact ht)
  (by rw [World.frozen?_alloc_old _ _ t (by rw [hs1]; omega), ← hW1, World.frozen?_alloc_old _ _ t (by omega)]; exact hf)
 rw [hs1] at st
 clear hs1
 subst hW1
 go_enter Tryd.func125, Tryd.ntmps125
 go_wp2
 refine wp_loop_rounds 1 ?_
 rw [rounds_succ]
 go_wp2
 go_ret
 refine ⟨rfl, _, rfl, ?_⟩
 exact ((Below.refl _ _).alloc (Nat.le_refl _) _).alloc (by simp) _
set_option maxHeartbeats 4000000 in
set_option maxRecDepth 100000 in
theorem xe_asF (c n : Int) (t a : Addr) (old : Value) (w : World) (ha : w.cell? a = some (.pointer (some t))) (ht : w.cell? t = some old) (hf : w.frozen? t = false) :
  Calls Tryd.prog 125 #[.iface 127 (.agg #[.int .i64 c, .int .i64 n]), .iface 148 (.pointer (some t)), .agg #[.pointer (some ⟨2, 148, none⟩), .pointer (some a), .int .u64 150], .iface 189 (.agg #[.pointer (some ⟨2, 89, none⟩)])] w fun ev w' => ev = .returned (.bool true) ∧ ∃ w1, w' = w1.setCell t (.int .i64 c) ∧ Below w.heap.size w w1 := by
 have hlt := World.block_lt_of_cell? w t ht
 have hla := World.block_lt_of_cell? w a ha
 have hfTypeOf := @run_callFunc_extern Tryd.prog 130 _ ReflectliteType.typeOf Tryd.func130 (by kernel_rfl) (by kernel_rfl) (by kernel_rfl) (by kernel_rfl)
 have hfAsg := @run_callFunc_extern Tryd.prog 161 _ (ReflectliteType.relation "AssignableTo" ReflectliteType.assignableTo) Tryd.func161 (by kernel_rfl) (by kernel_rfl) (by kernel_rfl) (by kernel_rfl)
 have hfValueOf := @run_callFunc_extern Tryd.prog 122 _ (fun args => ReflectliteValue.unpack (args.getD 0 (.tuple #[]))) Tryd.func122 (by kernel_rfl) (by kernel_rfl) (by kernel_rfl) (by kernel_rfl)
 have hfElemV := @run_callFunc_extern Tryd.prog 131 _ (ReflectliteValue.method (ReflectliteValue.valueError "reflectlite.Value.Elem" 0) ReflectliteValue.elem) Tryd.func131 (by kernel_rfl) (by kernel_rfl) (by kernel_rfl) (by kernel_rfl)
 have hfSet := @run_callFunc_extern Tryd.prog 132 _ ReflectliteValue.set Tryd.func132 (by kernel_rfl) (by kernel_rfl) (by kernel_rfl) (by kernel_rfl)
 have t1 := xe_typeOfC
 have m1 := xe_mAsg
 have a1 := xe_asgC
 have t2 := xe_typeOfF
 have a2 := xe_asgF
 have m2 := xe_mUnw c n
 have n1 := xe_noAsF
 have u1 := xe_unwF
 have v1 := xe_valueOfC c
 obtain ⟨W1, hW1⟩ : ∃ W1, (w.alloc (.cells #[.pointer (some ⟨2, 148, none⟩), .pointer (some a), .int .u64 150] 175)).alloc (.cells #[.int .i64 c, .int .i64 n] 127) = W1 := ⟨_, rfl⟩
 have hs1 : W1.heap.size = w.heap.size + 1 + 1 := by rw [← hW1]; simp
 have ev := xe_elemV a t W1 (by rw [← hW1, World.cell?_alloc_lt _ _ a (by simp <;> omega), World.cell?_alloc_lt _ _ a hla]; exact ha)
 have st := xe_set t ⟨W1.heap.size, 0, none⟩ c old (W1.alloc (.cells #[.int .i64 c] 89)) (by rw [World.cell?_alloc_at _ _ _ _ (by simp)]; rfl)
  (by rw [World.cell?_alloc_lt _ _ t (by rw [hs1]; omega), ← hW1, World.cell?_alloc_lt _ _ t (by simp <;> omega), World.cell?_alloc_lt _ _ t hlt]; exact ht)
  (by rw [World.frozen?_alloc_old _ _ t (by rw [hs1]; omega), ← hW1, World.frozen?_alloc_old _ _ t (by simp <;> omega), World.frozen?_alloc_old _ _ t (by omega)]; exact hf)
 rw [hs1] at st
 clear hs1
 subst hW1
 go_enter Tryd.func125, Tryd.ntmps125
 go_wp2
 refine wp_loop_rounds 2 ?_
 rw [rounds_succ]
 go_wp2
 rw [rounds_succ]
 go_wp2
 go_ret
 refine ⟨rfl, _, rfl, ?_⟩
 exact (((Below.refl _ _).alloc (Nat.le_refl _) _).alloc (by simp) _).alloc (by simp <;> omega) _
end
section
open Go.Extern.Stop Go.Stop Go.Extern
theorem xe_as (x : E) (t a : Addr) (old : Value) (w : World) (ha : w.cell? a = some (.pointer (some t))) (ht : w.cell? t = some old) (hf : w.frozen? t = false) :
  Calls Tryd.prog 125 #[.iface x.ty x.val, .iface 148 (.pointer (some t)), .agg #[.pointer (some ⟨2, 148, none⟩), .pointer (some a), .int .u64 150], .iface 189 (.agg #[.pointer (some ⟨2, 89, none⟩)])] w
   fun ev w' => ev = .returned (.bool true) ∧ ∃ w1, w' = w1.setCell t (.int .i64 x.cd) ∧ Below w.heap.size w w1 := by
 cases x with
 | fault c n => exact xe_asF c n t a old w ha ht hf
 | code c => exact xe_asC c t a old w ha ht hf
theorem xe_As_nil (t : Value) (w : World) :
  Calls Tryd.prog 101 #[.nilIface, t] w fun e w' => e = .returned (.bool false) ∧ w' = w := by
 go_enter Tryd.func101, Tryd.ntmps101
 go_wp2
 go_ret
 exact ⟨rfl, rfl⟩
set_option maxHeartbeats 4000000 in
set_option maxRecDepth 100000 in
theorem xe_As (x : E) (t : Addr) (old : Value) (w : World) (hg : GOK w) (ht : w.cell? t = some old) (hf : w.frozen? t = false) :
  Calls Tryd.prog 101 #[.iface x.ty x.val, .iface 148 (.pointer (some t))] w fun ev w' => ev = .returned (.bool true) ∧ ∃ w1, w' = w1.setCell t (.int .i64 x.cd) ∧ Below w.heap.size w w1 := by
 have hg1 := hg.ge
 have hlt := World.block_lt_of_cell? w t ht
 have hlg : 0 < w.heap.size := World.block_lt_of_cell? w _ hg1
 have hfValueOf := @run_callFunc_extern Tryd.prog 122 _ (fun args => ReflectliteValue.unpack (args.getD 0 (.tuple #[]))) Tryd.func122 (by kernel_rfl) (by kernel_rfl) (by kernel_rfl) (by kernel_rfl)
 have hfType := @run_callFunc_extern Tryd.prog 123 _ (ReflectliteValue.methodAny (ReflectliteValue.valueError "reflectlite.Value.Type" 0) (fun t _ _ _ => ReflectliteType.toType t)) Tryd.func123 (by kernel_rfl) (by kernel_rfl) (by kernel_rfl) (by kernel_rfl)
 have hfIsNil := @run_callFunc_extern Tryd.prog 124 _ (ReflectliteValue.method (ReflectliteValue.valueError "reflectlite.Value.IsNil" 0) ReflectliteValue.isNil) Tryd.func124 (by kernel_rfl) (by kernel_rfl) (by kernel_rfl) (by kernel_rfl)
 have hfKind := @run_callFunc_extern Tryd.prog 149 _ (ReflectliteType.abiMethod fun t => do pure (.int .u8 (← Rtype.kind t))) Tryd.func149 (by kernel_rfl) (by kernel_rfl) (by kernel_rfl) (by kernel_rfl)
 have hfElemT := @run_callFunc_extern Tryd.prog 163 _ (ReflectliteType.method ReflectliteType.elem) Tryd.func163 (by kernel_rfl) (by kernel_rfl) (by kernel_rfl) (by kernel_rfl)
 have hfImpl := @run_callFunc_extern Tryd.prog 164 _ (ReflectliteType.relation "Implements" ReflectliteType.implements_) Tryd.func164 (by kernel_rfl) (by kernel_rfl) (by kernel_rfl) (by kernel_rfl)
 have f6 := xe_valueOfP
 have f7 := xe_typeP
 have m1 := xe_mKind
 have m2 := xe_mElem
 have m3 := xe_mImpl
 have k1 := xe_kindP
 have k2 := xe_kindC
 have e1 := xe_elem
 have i1 := xe_impl
 have HX := Aside0.mk (xe_as x t ⟨w.heap.size, 0, none⟩ old ((w.alloc (.cells #[.pointer (some t)] 148)).alloc (.cells #[.pointer (some ⟨2, 148, none⟩), .pointer (some ⟨w.heap.size, 0, none⟩), .int .u64 150] 175))
  (by rw [World.cell?_alloc_lt _ _ ⟨w.heap.size, 0, none⟩ (by simp)]; simp)
  (by rw [World.cell?_alloc_lt _ _ t (by simp <;> omega), World.cell?_alloc_lt _ _ t hlt]; exact ht)
  (by rw [World.frozen?_alloc_old _ _ t (by simp <;> omega), World.frozen?_alloc_old _ _ t (by omega)]; exact hf))
 have n8 := xe_isNil ⟨w.heap.size, 0, none⟩ t ((w.alloc (.cells #[.pointer (some t)] 148)).alloc (.cells #[.pointer (some ⟨2, 148, none⟩), .pointer (some ⟨w.heap.size, 0, none⟩), .int .u64 150] 175)) (by rw [World.cell?_alloc_lt _ _ ⟨w.heap.size, 0, none⟩ (by simp)]; simp)
 have g2 : ((w.alloc (.cells #[.pointer (some t)] 148)).alloc (.cells #[.pointer (some ⟨2, 148, none⟩), .pointer (some ⟨w.heap.size, 0, none⟩), .int .u64 150] 175)).cell? ⟨0, 0, none⟩ = some (.iface 189 (.agg #[.pointer (some ⟨2, 29, none⟩)])) := by
  rw [World.cell?_alloc_lt _ _ ⟨0, 0, none⟩ (by simp <;> omega), World.cell?_alloc_lt _ _ ⟨0, 0, none⟩ hlg]; exact hg1
 generalize hV : x.val = V at HX ⊢
 generalize hT : x.ty = T at HX ⊢
 clear hV hT
 go_enter Tryd.func101, Tryd.ntmps101
 go_wp2_with (go_at_call 125; ((with_reducible refine (HX.out).mono ?_); rintro ev w' ⟨rfl, w1, rfl, hb⟩))
 go_ret
 refine ⟨rfl, _, rfl, ?_⟩
 exact below_then ((Below.refl _ _).alloc (Nat.le_refl _) _ |>.alloc (by simp) _) (by simp <;> omega) hb
end
def fault_Code.f (e : Option E) : Option (Int × Bool) := some (match e with | some x => (x.cd, true) | none => (0, false))
set_option maxHeartbeats 4000000 in
theorem fault_Code.calls (e : Option E) (r1 : Int) (r2 : Bool) (w : World) (h : fault_Code.f e = some (r1, r2)) (hG : GOK w) :
  Calls Tryd.prog 62 #[errW e] w fun ev w' => ev = .returned (.tuple #[.int .i64 r1, .bool r2]) ∧ Below w.heap.size w w' := by
 have h0 : (w.alloc (.cells #[.int .i64 0] 89)).cell? ⟨w.heap.size, 0, none⟩ = some (.int .i64 0) := by simp
 have hf0 : (w.alloc (.cells #[.int .i64 0] 89)).frozen? ⟨w.heap.size, 0, none⟩ = false := by simp
 have hG0 := Aside0.mk (GOK.below hG (below_alloc (Below.refl _ _) (.cells #[.int .i64 0] 89)))
 cases e with
 | none =>
  simp only [fault_Code.f, Option.some.injEq, Prod.mk.injEq] at h
  obtain ⟨rfl, rfl⟩ := h
  rw [errW_none]
  go_enter Tryd.func62, Tryd.ntmps62
  go_wp2_with (go_at_call 101; ((with_reducible refine (xe_As_nil _ _).mono ?_); rintro ev w' ⟨rfl, rfl⟩))
  go_ret2
  exact ⟨rfl, (Below.refl _ _).alloc (Nat.le_refl _) _⟩
 | some x =>
  simp only [fault_Code.f, Option.some.injEq, Prod.mk.injEq] at h
  obtain ⟨rfl, rfl⟩ := h
  rw [errW_some]
  have HX := Aside0.mk (xe_As x ⟨w.heap.size, 0, none⟩ (.int .i64 0) _ hG0.out h0 hf0)
  go_enter Tryd.func62, Tryd.ntmps62
  go_wp2_with (go_at_call 101; ((with_reducible refine (HX.out).mono ?_); rintro ev w' ⟨rfl, w1, rfl, hb⟩; have hc := World.cell?_setCell_same _ _ (v := Value.int .i64 x.cd) (pw_cell_below hb h0); have HB := Aside0.mk hb; clear hb))
  go_ret2
  exact ⟨rfl, (below_step (below_alloc (Below.refl _ _) _) HB.out).setCell (Nat.le_refl _) _⟩
theorem xe_Unwrap_code (c : Int) (w : World) : Calls Tryd.prog 92 #[.iface 89 (.int .i64 c)] w fun e w' => e = .returned .nilIface ∧ w' = w := by
 have h1 := xe_unwC
 go_enter Tryd.func92, Tryd.ntmps92
 go_wp2
 go_ret
 exact ⟨rfl, rfl⟩
theorem xe_isF (c n : Int) (xT : TypeId) (w : World) : (Instr.typeAssert (.iface 127 (.agg #[.int .i64 c, .int .i64 n])) xT 127 true).run Tryd.prog w = .ok (.tuple #[.agg #[.int .i64 c, .int .i64 n], .bool true]) w := by kernel_rfl
theorem xe_notF (c : Int) (xT : TypeId) (w : World) : (Instr.typeAssert (.iface 89 (.int .i64 c)) xT 127 true).run Tryd.prog w = .ok (.tuple #[.agg #[.int .i64 0, .int .i64 0], .bool false]) w := by kernel_rfl
theorem xe_notS (c : Int) (xT : TypeId) (w : World) : (Instr.typeAssert (.iface 89 (.int .i64 c)) xT 140 true).run Tryd.prog w = .ok (.tuple #[.agg #[.nilIface, .int .i64 0], .bool false]) w := by kernel_rfl
def fault_At.f (e : Option E) : Option (Int × Bool) := some (match e with | some (.fault _ n) => (wrap64 n, true) | _ => (0, false))
set_option maxHeartbeats 4000000 in
set_option maxRecDepth 100000 in
theorem fault_At.calls (e : Option E) (r1 : Int) (r2 : Bool) (w : World) (h : fault_At.f e = some (r1, r2)) :
  Calls Tryd.prog 56 #[errW e] w fun ev w' => ev = .returned (.tuple #[.int .i64 r1, .bool r2]) ∧ Below w.heap.size w w' := by
 cases e with
 | none =>
  simp only [fault_At.f, Option.some.injEq, Prod.mk.injEq] at h
  obtain ⟨rfl, rfl⟩ := h
  rw [errW_none]
  go_enter Tryd.func56, Tryd.ntmps56
  go_wp2
  refine wp_loop_rounds 1 ?_
  rw [rounds_succ]
  go_wp2
  go_ret2
  exact ⟨rfl, by repeat (first | exact Below.refl _ _ | apply below_alloc)⟩
 | some x =>
  cases x with
  | fault c n =>
   simp only [fault_At.f, Option.some.injEq, Prod.mk.injEq] at h
   obtain ⟨rfl, rfl⟩ := h
   rw [errW_some]
   have a1 := xe_isF c n
   change Calls _ _ #[.iface 127 (.agg #[.int .i64 c, .int .i64 n])] _ _
   go_enter Tryd.func56, Tryd.ntmps56
   go_wp2
   refine wp_loop_rounds 1 ?_
   rw [rounds_succ]
   go_wp2
   go_ret2
   exact ⟨rfl, by repeat (first | exact Below.refl _ _ | apply below_alloc)⟩
  | code c =>
   simp only [fault_At.f, Option.some.injEq, Prod.mk.injEq] at h
   obtain ⟨rfl, rfl⟩ := h
   rw [errW_some]
   have a1 := xe_notF c
   have a2 := xe_notS c
   change Calls _ _ #[.iface 89 (.int .i64 c)] _ _
   go_enter Tryd.func56, Tryd.ntmps56
   go_wp2
   refine wp_loop_rounds 2 ?_
   rw [rounds_succ]
   go_wp2_with (go_at_call 92; ((with_reducible refine (xe_Unwrap_code c _).mono ?_); rintro ev w' ⟨rfl, rfl⟩))
   rw [rounds_succ]
   go_wp2
   go_ret2
   exact ⟨rfl, by repeat (first | exact Below.refl _ _ | apply below_alloc)⟩
end Go.Proofs.YthdjmojpnimhjaaDoor.PCbg
