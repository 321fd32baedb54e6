import Derived.Test.YtijpbpnfachlkaaDoorErrF
/- errors.As, api.Number and api.Place at errors that are a number at a place: found behind one Unwrap, not found. No statement is proved here. -/
set_option linter.unusedVariables false
set_option linter.unusedSimpArgs false
set_option maxRecDepth 100000
namespace Go.Proofs.YtijpbpnfachlkaaDoor.SL
open Go Go.RowKit Go.Extern
set_option maxHeartbeats 8000000 in
/-- a place that is not found in a number -/
theorem asFE (k : Int) (t : Addr) (w : World) (hg : Laid w) :
    Calls Tryd.prog 36 #[.iface 37 (.int .i64 k), .iface 78 (.pointer (some t))] w fun ev w' => ev = .returned (.bool false) ∧ w' = (((w.alloc (.cells #[.pointer (some t)] 78)).alloc (.cells #[hdl 78, .pointer (some ⟨w.heap.size, 0, none⟩), .int .u64 150] 109)).alloc (.cells #[hdl 78, .pointer (some ⟨w.heap.size, 0, none⟩), .int .u64 150] 109)) := by
  have h6 := @run_callFunc_extern Tryd.prog 46 _ (fun args => ReflectliteValue.unpack (args.getD 0 (.tuple #[]))) Tryd.func46 (by kernel_rfl) (by kernel_rfl) (by kernel_rfl) (by kernel_rfl)
  have h7 := @run_callFunc_extern Tryd.prog 47 _ (ReflectliteValue.methodAny (ReflectliteValue.valueError "reflectlite.Value.Type" 0) (fun t _ _ _ => ReflectliteType.toType t)) Tryd.func47 (by kernel_rfl) (by kernel_rfl) (by kernel_rfl) (by kernel_rfl)
  have h8 := @run_callFunc_extern Tryd.prog 48 _ (ReflectliteValue.method (ReflectliteValue.valueError "reflectlite.Value.IsNil" 0) ReflectliteValue.isNil) Tryd.func48 (by kernel_rfl) (by kernel_rfl) (by kernel_rfl) (by kernel_rfl)
  have h27 := @run_callFunc_extern Tryd.prog 81 _ (ReflectliteType.abiMethod fun t => do pure (.int .u8 (← Rtype.kind t))) Tryd.func81 (by kernel_rfl) (by kernel_rfl) (by kernel_rfl) (by kernel_rfl)
  have h37 := @run_callFunc_extern Tryd.prog 94 _ (ReflectliteType.method ReflectliteType.elem) Tryd.func94 (by kernel_rfl) (by kernel_rfl) (by kernel_rfl) (by kernel_rfl)
  have h38 := @run_callFunc_extern Tryd.prog 95 _ (ReflectliteType.relation "Implements" ReflectliteType.implements_) Tryd.func95 (by kernel_rfl) (by kernel_rfl) (by kernel_rfl) (by kernel_rfl)
  have h10 := @run_callFunc_extern Tryd.prog 57 _ ReflectliteType.typeOf Tryd.func57 (by kernel_rfl) (by kernel_rfl) (by kernel_rfl) (by kernel_rfl)
  have h35 := @run_callFunc_extern Tryd.prog 92 _ (ReflectliteType.relation "AssignableTo" ReflectliteType.assignableTo) Tryd.func92 (by kernel_rfl) (by kernel_rfl) (by kernel_rfl) (by kernel_rfl)
  have h11 := @run_callFunc_extern Tryd.prog 58 _ (ReflectliteValue.method (ReflectliteValue.valueError "reflectlite.Value.Elem" 0) ReflectliteValue.elem) Tryd.func58 (by kernel_rfl) (by kernel_rfl) (by kernel_rfl) (by kernel_rfl)
  have h12 := @run_callFunc_extern Tryd.prog 59 _ ReflectliteValue.set Tryd.func59 (by kernel_rfl) (by kernel_rfl) (by kernel_rfl) (by kernel_rfl)
  have mA := as_methodAssignableTo
  have mK := as_methodKind
  have mE := as_methodElem
  have mI := as_methodImplements
  have f6 := fs_valueOfP
  have f7 := fs_typeP
  have k27 := fs_kindP
  have k25 := fs_kindE
  have e27 := fs_elem
  have i25 := fs_implements
  have n8 := fs_isNil ⟨w.heap.size, 0, none⟩ t ((w.alloc (.cells #[.pointer (some t)] 78)).alloc (.cells #[hdl 78, .pointer (some ⟨w.heap.size, 0, none⟩), .int .u64 150] 109)) (by simp)
  have tO := as_typeOf
  have a25 := fe_assignable
  have x1 := es_noAs
  have x2 := es_noUn
  have x3 := es_noUns
  unfold Laid at hg
  have hlt : 0 < w.heap.size := by
    rcases Nat.eq_zero_or_pos w.heap.size with h0 | h
    · simp [World.cell?, h0] at hg
    · exact h
  have hg2 : ((w.alloc (.cells #[.pointer (some t)] 78)).alloc (.cells #[hdl 78, .pointer (some ⟨w.heap.size, 0, none⟩), .int .u64 150] 109)).cell? ⟨0, 0, none⟩ = some (.iface 123 (.agg #[hdl 34])) := by
    rw [World.cell?_alloc_lt _ _ ⟨0, 0, none⟩ (by simp), World.cell?_alloc_lt _ _ ⟨0, 0, none⟩ hlt]; exact hg
  go_enter Tryd.func36, Tryd.ntmps36
  go_wp2
  refine wp_loop_rounds 1 ?_
  rw [rounds_succ]
  go_wp2
  go_ret
  exact ⟨rfl, rfl⟩
set_option maxHeartbeats 16000000 in
/-- a number that is found behind one Unwrap -/
theorem asEF (no p : Int) (t : Addr) (old : Value) (w : World) (hg : Laid w) (ht0 : w.cell? t = some old) (hf0 : w.frozen? t = false) :
    Calls Tryd.prog 36 #[.iface 77 (fv no p), .iface 75 (.pointer (some t))] w fun ev w' => ev = .returned (.bool true) ∧ w' = (((((w.alloc (.cells #[.pointer (some t)] 75)).alloc (.cells #[hdl 75, .pointer (some ⟨w.heap.size, 0, none⟩), .int .u64 150] 109)).alloc (.cells #[hdl 75, .pointer (some ⟨w.heap.size, 0, none⟩), .int .u64 150] 109)).alloc (.cells #[.int .i64 no, .int .i64 p] 77)).alloc (.cells #[.int .i64 no] 37)).setCell t (.int .i64 no) := by
  have h6 := @run_callFunc_extern Tryd.prog 46 _ (fun args => ReflectliteValue.unpack (args.getD 0 (.tuple #[]))) Tryd.func46 (by kernel_rfl) (by kernel_rfl) (by kernel_rfl) (by kernel_rfl)
  have h7 := @run_callFunc_extern Tryd.prog 47 _ (ReflectliteValue.methodAny (ReflectliteValue.valueError "reflectlite.Value.Type" 0) (fun t _ _ _ => ReflectliteType.toType t)) Tryd.func47 (by kernel_rfl) (by kernel_rfl) (by kernel_rfl) (by kernel_rfl)
  have h8 := @run_callFunc_extern Tryd.prog 48 _ (ReflectliteValue.method (ReflectliteValue.valueError "reflectlite.Value.IsNil" 0) ReflectliteValue.isNil) Tryd.func48 (by kernel_rfl) (by kernel_rfl) (by kernel_rfl) (by kernel_rfl)
  have h27 := @run_callFunc_extern Tryd.prog 81 _ (ReflectliteType.abiMethod fun t => do pure (.int .u8 (← Rtype.kind t))) Tryd.func81 (by kernel_rfl) (by kernel_rfl) (by kernel_rfl) (by kernel_rfl)
  have h37 := @run_callFunc_extern Tryd.prog 94 _ (ReflectliteType.method ReflectliteType.elem) Tryd.func94 (by kernel_rfl) (by kernel_rfl) (by kernel_rfl) (by kernel_rfl)
  have h38 := @run_callFunc_extern Tryd.prog 95 _ (ReflectliteType.relation "Implements" ReflectliteType.implements_) Tryd.func95 (by kernel_rfl) (by kernel_rfl) (by kernel_rfl) (by kernel_rfl)
  have h10 := @run_callFunc_extern Tryd.prog 57 _ ReflectliteType.typeOf Tryd.func57 (by kernel_rfl) (by kernel_rfl) (by kernel_rfl) (by kernel_rfl)
  have h35 := @run_callFunc_extern Tryd.prog 92 _ (ReflectliteType.relation "AssignableTo" ReflectliteType.assignableTo) Tryd.func92 (by kernel_rfl) (by kernel_rfl) (by kernel_rfl) (by kernel_rfl)
  have h11 := @run_callFunc_extern Tryd.prog 58 _ (ReflectliteValue.method (ReflectliteValue.valueError "reflectlite.Value.Elem" 0) ReflectliteValue.elem) Tryd.func58 (by kernel_rfl) (by kernel_rfl) (by kernel_rfl) (by kernel_rfl)
  have h12 := @run_callFunc_extern Tryd.prog 59 _ ReflectliteValue.set Tryd.func59 (by kernel_rfl) (by kernel_rfl) (by kernel_rfl) (by kernel_rfl)
  have mA := as_methodAssignableTo
  have mK := as_methodKind
  have mE := as_methodElem
  have mI := as_methodImplements
  have f6 := as_valueOfP
  have f7 := as_typeP
  have k27 := as_kindP
  have k25 := as_kindE
  have e27 := as_elem
  have i25 := as_implements
  have n8 := as_isNil ⟨w.heap.size, 0, none⟩ t ((w.alloc (.cells #[.pointer (some t)] 75)).alloc (.cells #[hdl 75, .pointer (some ⟨w.heap.size, 0, none⟩), .int .u64 150] 109)) (by simp)
  have tO := as_typeOf
  have tO2 := fs_typeOf
  have a25 := as_assignable
  have a26 := ef_assignable
  have v25 := as_valueOfE
  have x1 := fs_noAs
  have x2 := fs_un
  have x3 := fs_methodUn
  have hu := unwrap_t no p
  unfold Laid at hg
  have hlt : 0 < w.heap.size := by
    rcases Nat.eq_zero_or_pos w.heap.size with h0 | h
    · simp [World.cell?, h0] at hg
    · exact h
  have hg2 : ((w.alloc (.cells #[.pointer (some t)] 75)).alloc (.cells #[hdl 75, .pointer (some ⟨w.heap.size, 0, none⟩), .int .u64 150] 109)).cell? ⟨0, 0, none⟩ = some (.iface 123 (.agg #[hdl 34])) := by
    rw [World.cell?_alloc_lt _ _ ⟨0, 0, none⟩ (by simp), World.cell?_alloc_lt _ _ ⟨0, 0, none⟩ hlt]; exact hg
  have htl : t.block < w.heap.size := by
    rcases Nat.lt_or_ge t.block w.heap.size with h | h
    · exact h
    · simp [World.cell?, Array.getElem?_eq_none h] at ht0
  have el := as_elemV ⟨w.heap.size, 0, none⟩ t ((((w.alloc (.cells #[.pointer (some t)] 75)).alloc (.cells #[hdl 75, .pointer (some ⟨w.heap.size, 0, none⟩), .int .u64 150] 109)).alloc (.cells #[hdl 75, .pointer (some ⟨w.heap.size, 0, none⟩), .int .u64 150] 109)).alloc (.cells #[.int .i64 no, .int .i64 p] 77)) (by rw [World.cell?_alloc_lt _ _ ⟨w.heap.size, 0, none⟩ (by simp; omega), World.cell?_alloc_lt _ _ ⟨w.heap.size, 0, none⟩ (by simp; omega)]; simp)
  have st := as_set t ⟨w.heap.size + 1 + 1 + 1 + 1, 0, none⟩ no old (((((w.alloc (.cells #[.pointer (some t)] 75)).alloc (.cells #[hdl 75, .pointer (some ⟨w.heap.size, 0, none⟩), .int .u64 150] 109)).alloc (.cells #[hdl 75, .pointer (some ⟨w.heap.size, 0, none⟩), .int .u64 150] 109)).alloc (.cells #[.int .i64 no, .int .i64 p] 77)).alloc (.cells #[.int .i64 no] 37))
    (by rw [World.cell?_alloc_at _ _ _ _ (by simp)]; rfl)
    (by rw [World.cell?_alloc_lt _ _ t (by simp; omega), World.cell?_alloc_lt _ _ t (by simp; omega), World.cell?_alloc_lt _ _ t (by simp; omega), World.cell?_alloc_lt _ _ t (by simp; omega), World.cell?_alloc_lt _ _ t htl]; exact ht0)
    (by rw [World.frozen?_alloc_old _ _ t (by simp; omega), World.frozen?_alloc_old _ _ t (by simp; omega), World.frozen?_alloc_old _ _ t (by simp; omega), World.frozen?_alloc_old _ _ t (by simp; omega), World.frozen?_alloc_old _ _ t (Nat.ne_of_lt htl)]; exact hf0)
  go_enter Tryd.func36, Tryd.ntmps36
  go_wp2
  refine wp_loop_rounds 2 ?_
  rw [rounds_succ]
  go_wp2_with (go_at_call 86; refine (hu _).mono ?_; rintro e w' ⟨rfl, rfl⟩)
  rw [rounds_succ]
  go_wp2
  go_ret
  exact ⟨rfl, rfl⟩
end Go.Proofs.YtijpbpnfachlkaaDoor.SL
