import Derived.Stop.Asserts
import Derived.Laws.IdiomCopy
import Derived.Laws.Cells
import Derived.Test.YtijpbpnfachlkaaDoorErrAs
/- errors.As, api.Number and api.Place at errors that are a number at a place. No statement is proved here. -/
set_option linter.unusedVariables false
set_option linter.unusedSimpArgs false
set_option maxRecDepth 100000
namespace Go.Proofs.YtijpbpnfachlkaaDoor.SL
open Go Go.RowKit Go.Extern
def fv (no p : Int) : Value := .agg #[.int .i64 no, .int .i64 p]
theorem fs_valueOfP (t : Addr) (w : World) : (ReflectliteValue.unpack (.iface 78 (.pointer (some t)))).run Tryd.prog w
    = .ok (.agg #[hdl 78, .pointer (some ⟨w.heap.size, 0, none⟩), .int .u64 150]) (w.alloc (.cells #[.pointer (some t)] 78)) := by kernel_rfl
theorem fs_typeP (a : Addr) (w : World) : (ReflectliteValue.methodAny (ReflectliteValue.valueError "reflectlite.Value.Type" 0) (fun t _ _ _ => ReflectliteType.toType t) #[.agg #[hdl 78, .pointer (some a), .int .u64 150]]).run Tryd.prog w
    = .ok (.iface 123 (.agg #[hdl 78])) w := by kernel_rfl
theorem fs_kindP (w : World) : ((ReflectliteType.abiMethod fun t => (fun a : Nat => Value.int IntKind.u8 (a : Int)) <$> Rtype.kind t) #[hdl 78]).run Tryd.prog w = .ok (.int .u8 22) w := by kernel_rfl
theorem fs_partsP (a : Addr) (w : World) : (ReflectliteValue.parts (.agg #[hdl 78, .pointer (some a), .int .u64 150])).run Tryd.prog w = .ok (some (78, a, 150)) w := by kernel_rfl
theorem fs_isNil (a p : Addr) (W : World) (ha : W.cell? a = some (.pointer (some p))) :
    (ReflectliteValue.method (ReflectliteValue.valueError "reflectlite.Value.IsNil" 0) ReflectliteValue.isNil #[.agg #[hdl 78, .pointer (some a), .int .u64 150]]).run Tryd.prog W = .ok (.bool false) W := by
  rw [rlm]
  simp only [Sem.run_bind, fs_partsP, Result.andThen]
  simp [ReflectliteValue.isNil, loadVar, isAgg, underlying, Tryd.underlying78, ha, Result.andThen]
theorem fs_elem (w : World) : (ReflectliteType.method ReflectliteType.elem #[.agg #[hdl 78]]).run Tryd.prog w = .ok (.iface 123 (.agg #[hdl 77])) w := by kernel_rfl
theorem fs_implements (w : World) : (ReflectliteType.relation "Implements" ReflectliteType.implements_ #[.agg #[hdl 77], .iface 123 (.agg #[hdl 34])]).run Tryd.prog w = .ok (.bool true) w := by kernel_rfl
theorem fs_typeOf (v : Value) (w : World) : (ReflectliteType.typeOf #[.iface 77 v]).run Tryd.prog w = .ok (.iface 123 (.agg #[hdl 77])) w := by kernel_rfl
theorem fs_assignable (w : World) : (ReflectliteType.relation "AssignableTo" ReflectliteType.assignableTo #[.agg #[hdl 77], .iface 123 (.agg #[hdl 77])]).run Tryd.prog w = .ok (.bool true) w := by kernel_rfl
theorem fs_elemOf (w : World) : (Rtype.elem? 78).run Tryd.prog w = .ok (some 77) w := by kernel_rfl
theorem fs_mk (p : Addr) (w : World) : (ReflectliteValue.mk 77 p ReflectliteValue.flagAddr).run Tryd.prog w = .ok (.agg #[hdl 77, .pointer (some p), .int .u64 409]) w := by kernel_rfl
theorem fs_elemV (a p : Addr) (W : World) (ha : W.cell? a = some (.pointer (some p))) :
    (ReflectliteValue.method (ReflectliteValue.valueError "reflectlite.Value.Elem" 0) ReflectliteValue.elem #[.agg #[hdl 78, .pointer (some a), .int .u64 150]]).run Tryd.prog W
      = .ok (.agg #[hdl 77, .pointer (some p), .int .u64 409]) W := by
  rw [rlm]
  simp only [Sem.run_bind, fs_partsP, Result.andThen]
  simp [ReflectliteValue.elem, loadVar, isAgg, underlying, Tryd.underlying78, ha, Result.andThen, fs_elemOf, fs_mk]
theorem fs_partsA (a : Addr) (w : World) : (ReflectliteValue.parts (.agg #[hdl 77, .pointer (some a), .int .u64 409])).run Tryd.prog w = .ok (some (77, a, 409)) w := by kernel_rfl
theorem fs_partsE (a : Addr) (w : World) : (ReflectliteValue.parts (.agg #[hdl 77, .pointer (some a), .int .u64 153])).run Tryd.prog w = .ok (some (77, a, 153)) w := by kernel_rfl
theorem fs_direct (w : World) : (Rtype.directlyAssignable 77 77).run Tryd.prog w = .ok true w := by kernel_rfl
theorem fs_kindE (w : World) : ((ReflectliteType.abiMethod fun t => (fun a : Nat => Value.int IntKind.u8 (a : Int)) <$> Rtype.kind t) #[hdl 77]).run Tryd.prog w = .ok (.int .u8 25) w := by kernel_rfl
theorem fs_valueOfE (no p : Int) (w : World) : (ReflectliteValue.unpack (.iface 77 (fv no p))).run Tryd.prog w
    = .ok (.agg #[hdl 77, .pointer (some ⟨w.heap.size, 0, none⟩), .int .u64 153]) (w.alloc (.cells #[.int .i64 no, .int .i64 p] 77)) := by kernel_rfl
theorem ef_assignable (w : World) : (ReflectliteType.relation "AssignableTo" ReflectliteType.assignableTo #[.agg #[hdl 77], .iface 123 (.agg #[hdl 37])]).run Tryd.prog w = .ok (.bool false) w := by kernel_rfl
theorem fe_assignable (w : World) : (ReflectliteType.relation "AssignableTo" ReflectliteType.assignableTo #[.agg #[hdl 37], .iface 123 (.agg #[hdl 77])]).run Tryd.prog w = .ok (.bool false) w := by kernel_rfl
theorem fs_noAs (v : Value) (xT : TypeId) (w : World) : (Instr.typeAssert (.iface 77 v) xT 128 true).run Tryd.prog w = .ok (.tuple #[.nilIface, .bool false]) w := run_typeAssert_lacksB Tryd.underlying128 (by kernel_rfl) (by kernel_rfl) v xT w
theorem es_noAs (v : Value) (xT : TypeId) (w : World) : (Instr.typeAssert (.iface 37 v) xT 128 true).run Tryd.prog w = .ok (.tuple #[.nilIface, .bool false]) w := run_typeAssert_lacksB Tryd.underlying128 (by kernel_rfl) (by kernel_rfl) v xT w
theorem fs_un (v : Value) (xT : TypeId) (w : World) : (Instr.typeAssert (.iface 77 v) xT 131 true).run Tryd.prog w = .ok (.tuple #[.iface 77 v, .bool true]) w := run_typeAssert_hasB Tryd.underlying131 (by kernel_rfl) v xT w
theorem es_noUn (v : Value) (xT : TypeId) (w : World) : (Instr.typeAssert (.iface 37 v) xT 131 true).run Tryd.prog w = .ok (.tuple #[.nilIface, .bool false]) w := run_typeAssert_lacksB Tryd.underlying131 (by kernel_rfl) (by kernel_rfl) v xT w
theorem es_noUns (v : Value) (xT : TypeId) (w : World) : (Instr.typeAssert (.iface 37 v) xT 132 true).run Tryd.prog w = .ok (.tuple #[.nilIface, .bool false]) w := run_typeAssert_lacksB Tryd.underlying132 (by kernel_rfl) (by kernel_rfl) v xT w
theorem fs_methodUn (v : Value) (w : World) : (Go.method 266 77 v "Unwrap").run Tryd.prog w = .ok (86, v) w := by kernel_rfl
theorem fs_size : (Tryd.prog.info? 77).map (·.size) = some 2 := by kernel_rfl
theorem fs_loadV (b : Addr) (no p : Int) (W : World) (h0 : W.cell? b = some (.int .i64 no)) (h1 : W.cell? (b.add 1) = some (.int .i64 p)) : (loadVar 77 b).run Tryd.prog W = .ok (fv no p) W := by
  have hl := run_loadCells_list (P := Tryd.prog) W b [.int .i64 no, .int .i64 p] (fun j v h => by
    match j, h with
    | 0, h => cases h; simpa [Addr.add] using h0
    | 1, h => cases h; exact h1)
  have hl2 : (loadCells b 2).run Tryd.prog W = .ok #[.int .i64 no, .int .i64 p] W := hl
  obtain ⟨i, hi, hz⟩ := Option.map_eq_some_iff.1 fs_size
  simp [loadVar, isAgg, underlying, Tryd.underlying77, sizeOf, typeInfo, hi, hz, hl2, Result.andThen, fv]
theorem fs_storeV (g o : Nat) (no p : Int) (W : World) (hc : ∀ j, j < 2 → (W.cell? ⟨g, o + j, none⟩).isSome = true) (hf : ∀ j, j < 2 → W.frozen? ⟨g, o + j, none⟩ = false) : (storeVar 77 ⟨g, o, none⟩ (fv no p)).run Tryd.prog W = .ok () (W.setCells g o [.int .i64 no, .int .i64 p]) := by
  have hs := run_storeCells_cells (P := Tryd.prog) g o [.int .i64 no, .int .i64 p] 0 W (by simpa using hc) (by simpa using hf) (by simp [Value.oneCell'])
  rw [Nat.add_zero] at hs
  obtain ⟨i, hi, hz⟩ := Option.map_eq_some_iff.1 fs_size
  simp [storeVar, sizeOf, typeInfo, hi, hz, Value.cells, fv, Result.andThen]
  exact hs
theorem fs_set (g o : Nat) (b : Addr) (no p : Int) (W : World) (h0 : W.cell? b = some (.int .i64 no)) (h1 : W.cell? (b.add 1) = some (.int .i64 p)) (hc : ∀ j, j < 2 → (W.cell? ⟨g, o + j, none⟩).isSome = true) (hf : ∀ j, j < 2 → W.frozen? ⟨g, o + j, none⟩ = false) :
    (ReflectliteValue.set #[.agg #[hdl 77, .pointer (some ⟨g, o, none⟩), .int .u64 409], .agg #[hdl 77, .pointer (some b), .int .u64 153]]).run Tryd.prog W
      = .ok (.tuple #[]) (W.setCells g o [.int .i64 no, .int .i64 p]) := by
  have hl := fs_loadV b no p W h0 h1
  have hs := fs_storeV g o no p W hc hf
  rw [rls]
  simp only [Sem.run_bind, fs_partsA, fs_partsE, Result.andThen]
  simp [ReflectliteValue.flagAddr, hl, Result.andThen, fs_direct, hs]
theorem unwrap_t (no p : Int) (w : World) : Calls Tryd.prog 86 #[fv no p] w fun ev w' => ev = .returned (.iface 37 (.int .i64 no)) ∧ w' = w.alloc (.cells #[.int .i64 no, .int .i64 p] 77) := by
  unfold fv
  go_enter Tryd.func86, Tryd.ntmps86
  go_wp2
  go_ret
  exact ⟨rfl, rfl⟩
set_option maxHeartbeats 8000000 in
/-- a place that is found at once -/
theorem asFF (no p : Int) (g : Nat) (t : Addr) (ht : t = ⟨g, 0, none⟩) (w : World) (hg : Laid w) (hgl : g < w.heap.size) (hc : ∀ j, j < 2 → (w.cell? ⟨g, j, none⟩).isSome = true) (hf : ∀ j, j < 2 → w.frozen? ⟨g, j, none⟩ = false) :
    Calls Tryd.prog 36 #[.iface 77 (fv no p), .iface 78 (.pointer (some t))] w fun ev w' => ev = .returned (.bool true) ∧ w' = ((((w.alloc (.cells #[.pointer (some t)] 78)).alloc (.cells #[hdl 78, .pointer (some ⟨w.heap.size, 0, none⟩), .int .u64 150] 109)).alloc (.cells #[hdl 78, .pointer (some ⟨w.heap.size, 0, none⟩), .int .u64 150] 109)).alloc (.cells #[.int .i64 no, .int .i64 p] 77)).setCells g 0 [.int .i64 no, .int .i64 p] := by
  have h6 := @run_callFunc_extern Tryd.prog 46 _ (fun args => ReflectliteValue.unpack (args.getD 0 (.tuple #[]))) Tryd.func46 (by kernel_rfl) (by kernel_rfl) (by kernel_rfl) (by kernel_rfl)
  have h7 := @run_callFunc_extern Tryd.prog 47 _ (ReflectliteValue.methodAny (ReflectliteValue.valueError "reflectlite.Value.Type" 0) (fun t _ _ _ => ReflectliteType.toType t)) Tryd.func47 (by kernel_rfl) (by kernel_rfl) (by kernel_rfl) (by kernel_rfl)
  have h8 := @run_callFunc_extern Tryd.prog 48 _ (ReflectliteValue.method (ReflectliteValue.valueError "reflectlite.Value.IsNil" 0) ReflectliteValue.isNil) Tryd.func48 (by kernel_rfl) (by kernel_rfl) (by kernel_rfl) (by kernel_rfl)
  have h27 := @run_callFunc_extern Tryd.prog 81 _ (ReflectliteType.abiMethod fun t => do pure (.int .u8 (← Rtype.kind t))) Tryd.func81 (by kernel_rfl) (by kernel_rfl) (by kernel_rfl) (by kernel_rfl)
  have h37 := @run_callFunc_extern Tryd.prog 94 _ (ReflectliteType.method ReflectliteType.elem) Tryd.func94 (by kernel_rfl) (by kernel_rfl) (by kernel_rfl) (by kernel_rfl)
  have h38 := @run_callFunc_extern Tryd.prog 95 _ (ReflectliteType.relation "Implements" ReflectliteType.implements_) Tryd.func95 (by kernel_rfl) (by kernel_rfl) (by kernel_rfl) (by kernel_rfl)
  have h10 := @run_callFunc_extern Tryd.prog 57 _ ReflectliteType.typeOf Tryd.func57 (by kernel_rfl) (by kernel_rfl) (by kernel_rfl) (by kernel_rfl)
  have h35 := @run_callFunc_extern Tryd.prog 92 _ (ReflectliteType.relation "AssignableTo" ReflectliteType.assignableTo) Tryd.func92 (by kernel_rfl) (by kernel_rfl) (by kernel_rfl) (by kernel_rfl)
  have h11 := @run_callFunc_extern Tryd.prog 58 _ (ReflectliteValue.method (ReflectliteValue.valueError "reflectlite.Value.Elem" 0) ReflectliteValue.elem) Tryd.func58 (by kernel_rfl) (by kernel_rfl) (by kernel_rfl) (by kernel_rfl)
  have h12 := @run_callFunc_extern Tryd.prog 59 _ ReflectliteValue.set Tryd.func59 (by kernel_rfl) (by kernel_rfl) (by kernel_rfl) (by kernel_rfl)
  have mA := as_methodAssignableTo
  have mK := as_methodKind
  have mE := as_methodElem
  have mI := as_methodImplements
  have f6 := fs_valueOfP
  have f7 := fs_typeP
  have k27 := fs_kindP
  have k25 := fs_kindE
  have e27 := fs_elem
  have i25 := fs_implements
  have n8 := fs_isNil ⟨w.heap.size, 0, none⟩ t ((w.alloc (.cells #[.pointer (some t)] 78)).alloc (.cells #[hdl 78, .pointer (some ⟨w.heap.size, 0, none⟩), .int .u64 150] 109)) (by simp)
  have tO := fs_typeOf
  have a25 := fs_assignable
  have v25 := fs_valueOfE no p
  unfold Laid at hg
  have hlt : 0 < w.heap.size := by
    rcases Nat.eq_zero_or_pos w.heap.size with h0 | h
    · simp [World.cell?, h0] at hg
    · exact h
  have hg2 : ((w.alloc (.cells #[.pointer (some t)] 78)).alloc (.cells #[hdl 78, .pointer (some ⟨w.heap.size, 0, none⟩), .int .u64 150] 109)).cell? ⟨0, 0, none⟩ = some (.iface 123 (.agg #[hdl 34])) := by
    rw [World.cell?_alloc_lt _ _ ⟨0, 0, none⟩ (by simp), World.cell?_alloc_lt _ _ ⟨0, 0, none⟩ hlt]; exact hg
  have el := fs_elemV ⟨w.heap.size, 0, none⟩ t (((w.alloc (.cells #[.pointer (some t)] 78)).alloc (.cells #[hdl 78, .pointer (some ⟨w.heap.size, 0, none⟩), .int .u64 150] 109)).alloc (.cells #[hdl 78, .pointer (some ⟨w.heap.size, 0, none⟩), .int .u64 150] 109)) (by rw [World.cell?_alloc_lt _ _ ⟨w.heap.size, 0, none⟩ (by simp; omega)]; simp)
  have st := fs_set g 0 ⟨w.heap.size + 1 + 1 + 1, 0, none⟩ no p ((((w.alloc (.cells #[.pointer (some t)] 78)).alloc (.cells #[hdl 78, .pointer (some ⟨w.heap.size, 0, none⟩), .int .u64 150] 109)).alloc (.cells #[hdl 78, .pointer (some ⟨w.heap.size, 0, none⟩), .int .u64 150] 109)).alloc (.cells #[.int .i64 no, .int .i64 p] 77))
    (by rw [World.cell?_alloc_at _ _ _ _ (by simp)]; rfl) (by rw [show ((⟨w.heap.size + 1 + 1 + 1, 0, none⟩ : Addr).add 1) = ⟨w.heap.size + 1 + 1 + 1, 1, none⟩ from rfl, World.cell?_alloc_at _ _ _ _ (by simp)]; rfl)
    (fun j hj => by simp only [Nat.zero_add]; rw [World.cell?_alloc_lt _ _ ⟨g, j, none⟩ (by simp; omega), World.cell?_alloc_lt _ _ ⟨g, j, none⟩ (by simp; omega), World.cell?_alloc_lt _ _ ⟨g, j, none⟩ (by simp; omega), World.cell?_alloc_lt _ _ ⟨g, j, none⟩ hgl]; exact hc j hj)
    (fun j hj => by simp only [Nat.zero_add]; rw [World.frozen?_alloc_old _ _ ⟨g, j, none⟩ (by simp; omega), World.frozen?_alloc_old _ _ ⟨g, j, none⟩ (by simp; omega), World.frozen?_alloc_old _ _ ⟨g, j, none⟩ (by simp; omega), World.frozen?_alloc_old _ _ ⟨g, j, none⟩ (Nat.ne_of_lt hgl)]; exact hf j hj)
  rw [← ht] at st
  clear ht
  go_enter Tryd.func36, Tryd.ntmps36
  go_wp2
  refine wp_loop_rounds 1 ?_
  rw [rounds_succ]
  go_wp2
  go_ret
  exact ⟨rfl, rfl⟩
end Go.Proofs.YtijpbpnfachlkaaDoor.SL
