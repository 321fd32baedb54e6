import Derived.Test.YtijpbpnfachlkaaDoorSLX
/- errors.As and api.Number at an error that is an Errno itself: the number. (After the guide's worked text ToyasAs.) No statement is proved here. -/
set_option linter.unusedVariables false
set_option linter.unusedSimpArgs false
set_option maxRecDepth 100000
namespace Go.Proofs.YtijpbpnfachlkaaDoor.SL
open Go Go.RowKit Go.Extern
abbrev hdl (t : Nat) : Value := .pointer (some ⟨2, t, none⟩)
/-- what the start has laid: the type that is asked for -/
def Laid (w : World) : Prop := w.cell? ⟨0, 0, none⟩ = some (.iface 123 (.agg #[hdl 34]))
theorem laid_pos {w : World} (h : Laid w) : 0 < w.heap.size := by
  unfold Laid at h
  rcases Nat.eq_zero_or_pos w.heap.size with h0 | h1
  · simp [World.cell?, h0] at h
  · exact h1
theorem as_valueOfP (t : Addr) (w : World) : (ReflectliteValue.unpack (.iface 75 (.pointer (some t)))).run Tryd.prog w
    = .ok (.agg #[hdl 75, .pointer (some ⟨w.heap.size, 0, none⟩), .int .u64 150]) (w.alloc (.cells #[.pointer (some t)] 75)) := by kernel_rfl
theorem as_typeP (a : Addr) (w : World) : (ReflectliteValue.methodAny (ReflectliteValue.valueError "reflectlite.Value.Type" 0) (fun t _ _ _ => ReflectliteType.toType t) #[.agg #[hdl 75, .pointer (some a), .int .u64 150]]).run Tryd.prog w
    = .ok (.iface 123 (.agg #[hdl 75])) w := by kernel_rfl
theorem as_methodKind (h : Value) (w : World) : (Go.method 266 123 (.agg #[h]) "Kind").run Tryd.prog w = .ok (81, h) w := by kernel_rfl
theorem as_kindP (w : World) : ((ReflectliteType.abiMethod fun t => (fun a : Nat => Value.int IntKind.u8 (a : Int)) <$> Rtype.kind t) #[hdl 75]).run Tryd.prog w = .ok (.int .u8 22) w := by kernel_rfl
theorem as_kindE (w : World) : ((ReflectliteType.abiMethod fun t => (fun a : Nat => Value.int IntKind.u8 (a : Int)) <$> Rtype.kind t) #[hdl 37]).run Tryd.prog w = .ok (.int .u8 2) w := by kernel_rfl
theorem rlm (z : Sem Value) (f : TypeId → Addr → Nat → Nat → Sem Value) (v : Value) :
    ReflectliteValue.method z f #[v] = (do match ← ReflectliteValue.parts v with | none => z | some (t, a, fl) => f t a fl (fl % 32)) := rfl
theorem as_partsP (a : Addr) (w : World) : (ReflectliteValue.parts (.agg #[hdl 75, .pointer (some a), .int .u64 150])).run Tryd.prog w = .ok (some (75, a, 150)) w := by kernel_rfl
theorem as_isNil (a p : Addr) (W : World) (ha : W.cell? a = some (.pointer (some p))) :
    (ReflectliteValue.method (ReflectliteValue.valueError "reflectlite.Value.IsNil" 0) ReflectliteValue.isNil #[.agg #[hdl 75, .pointer (some a), .int .u64 150]]).run Tryd.prog W = .ok (.bool false) W := by
  rw [rlm]
  simp only [Sem.run_bind, as_partsP, Result.andThen]
  simp [ReflectliteValue.isNil, loadVar, isAgg, underlying, Tryd.underlying75, ha, Result.andThen]
theorem as_methodElem (h : Value) (w : World) : (Go.method 266 123 (.agg #[h]) "Elem").run Tryd.prog w = .ok (94, .agg #[h]) w := by kernel_rfl
theorem as_methodImplements (h : Value) (w : World) : (Go.method 266 123 (.agg #[h]) "Implements").run Tryd.prog w = .ok (95, .agg #[h]) w := by kernel_rfl
theorem as_methodAssignableTo (h : Value) (w : World) : (Go.method 266 123 (.agg #[h]) "AssignableTo").run Tryd.prog w = .ok (92, .agg #[h]) w := by kernel_rfl
theorem as_elem (w : World) : (ReflectliteType.method ReflectliteType.elem #[.agg #[hdl 75]]).run Tryd.prog w = .ok (.iface 123 (.agg #[hdl 37])) w := by kernel_rfl
theorem as_implements (w : World) : (ReflectliteType.relation "Implements" ReflectliteType.implements_ #[.agg #[hdl 37], .iface 123 (.agg #[hdl 34])]).run Tryd.prog w = .ok (.bool true) w := by kernel_rfl
theorem as_typeOf (v : Value) (w : World) : (ReflectliteType.typeOf #[.iface 37 v]).run Tryd.prog w = .ok (.iface 123 (.agg #[hdl 37])) w := by kernel_rfl
theorem as_assignable (w : World) : (ReflectliteType.relation "AssignableTo" ReflectliteType.assignableTo #[.agg #[hdl 37], .iface 123 (.agg #[hdl 37])]).run Tryd.prog w = .ok (.bool true) w := by kernel_rfl
theorem as_valueOfE (k : Int) (w : World) : (ReflectliteValue.unpack (.iface 37 (.int .i64 k))).run Tryd.prog w
    = .ok (.agg #[hdl 37, .pointer (some ⟨w.heap.size, 0, none⟩), .int .u64 130]) (w.alloc (.cells #[.int .i64 k] 37)) := by kernel_rfl
theorem as_elemOf (w : World) : (Rtype.elem? 75).run Tryd.prog w = .ok (some 37) w := by kernel_rfl
theorem as_mk (p : Addr) (w : World) : (ReflectliteValue.mk 37 p ReflectliteValue.flagAddr).run Tryd.prog w = .ok (.agg #[hdl 37, .pointer (some p), .int .u64 386]) w := by kernel_rfl
theorem as_elemV (a p : Addr) (W : World) (ha : W.cell? a = some (.pointer (some p))) :
    (ReflectliteValue.method (ReflectliteValue.valueError "reflectlite.Value.Elem" 0) ReflectliteValue.elem #[.agg #[hdl 75, .pointer (some a), .int .u64 150]]).run Tryd.prog W
      = .ok (.agg #[hdl 37, .pointer (some p), .int .u64 386]) W := by
  rw [rlm]
  simp only [Sem.run_bind, as_partsP, Result.andThen]
  simp [ReflectliteValue.elem, loadVar, isAgg, underlying, Tryd.underlying75, ha, Result.andThen, as_elemOf, as_mk]
theorem rls (v x : Value) : ReflectliteValue.set #[v, x] = (do
    let (some (dst, a, fl), some (src, b, _)) := (← ReflectliteValue.parts v, ← ReflectliteValue.parts x)
      | unsupported (.noEntry "extern/(internal/reflectlite.Value).Set.zeroValue")
    if fl / ReflectliteValue.flagAddr % 2 == 0 then unsupported (.noEntry "extern/(internal/reflectlite.Value).Set.unaddressable")
    let val ← loadVar src b
    if ← Rtype.directlyAssignable dst src then storeVar dst a val
    else if ← Rtype.implements dst src then
      if (← Rtype.kind src) == 20 then
        match val with
        | .nilIface => unsupported (.noEntry "extern/reflectlite: a nil value of one interface type handed on as a value of another")
        | _ => storeVar dst a val
      else storeVar dst a (.iface src val)
    else panicString ("reflectlite.Set: value of type " ++ (← Rtype.spelt src) ++ " is not assignable to type " ++ (← Rtype.spelt dst))
    pure (.tuple #[])) := rfl
theorem as_partsA (a : Addr) (w : World) : (ReflectliteValue.parts (.agg #[hdl 37, .pointer (some a), .int .u64 386])).run Tryd.prog w = .ok (some (37, a, 386)) w := by kernel_rfl
theorem as_partsE (a : Addr) (w : World) : (ReflectliteValue.parts (.agg #[hdl 37, .pointer (some a), .int .u64 130])).run Tryd.prog w = .ok (some (37, a, 130)) w := by kernel_rfl
theorem as_direct (w : World) : (Rtype.directlyAssignable 37 37).run Tryd.prog w = .ok true w := by kernel_rfl
theorem as_set (ta b : Addr) (k : Int) (old : Value) (W : World) (hb : W.cell? b = some (.int .i64 k)) (ht : W.cell? ta = some old) (hf : W.frozen? ta = false) :
    (ReflectliteValue.set #[.agg #[hdl 37, .pointer (some ta), .int .u64 386], .agg #[hdl 37, .pointer (some b), .int .u64 130]]).run Tryd.prog W
      = .ok (.tuple #[]) (W.setCell ta (.int .i64 k)) := by
  rw [rls]
  simp only [Sem.run_bind, as_partsA, as_partsE, Result.andThen]
  simp [ReflectliteValue.flagAddr, loadVar, isAgg, underlying, Tryd.underlying37, hb, Result.andThen, as_direct, storeVar, Value.cells, storeCells, Addr.add]
  rw [run_store Tryd.prog W ta _ _ (by rfl)]
  simp [ht, hf]
set_option maxHeartbeats 4000000 in
theorem as_hit (k : Int) (t : Addr) (old : Value) (w : World) (hg : Laid w) (ht0 : w.cell? t = some old) (hf0 : w.frozen? t = false) :
    Calls Tryd.prog 36 #[.iface 37 (.int .i64 k), .iface 75 (.pointer (some t))] w fun ev w' => ev = .returned (.bool true) ∧ w' = ((((w.alloc (.cells #[.pointer (some t)] 75)).alloc (.cells #[hdl 75, .pointer (some ⟨w.heap.size, 0, none⟩), .int .u64 150] 109)).alloc (.cells #[hdl 75, .pointer (some ⟨w.heap.size, 0, none⟩), .int .u64 150] 109)).alloc (.cells #[.int .i64 k] 37)).setCell t (.int .i64 k) := by
  have h6 := @run_callFunc_extern Tryd.prog 46 _ (fun args => ReflectliteValue.unpack (args.getD 0 (.tuple #[]))) Tryd.func46 (by kernel_rfl) (by kernel_rfl) (by kernel_rfl) (by kernel_rfl)
  have h7 := @run_callFunc_extern Tryd.prog 47 _ (ReflectliteValue.methodAny (ReflectliteValue.valueError "reflectlite.Value.Type" 0) (fun t _ _ _ => ReflectliteType.toType t)) Tryd.func47 (by kernel_rfl) (by kernel_rfl) (by kernel_rfl) (by kernel_rfl)
  have h8 := @run_callFunc_extern Tryd.prog 48 _ (ReflectliteValue.method (ReflectliteValue.valueError "reflectlite.Value.IsNil" 0) ReflectliteValue.isNil) Tryd.func48 (by kernel_rfl) (by kernel_rfl) (by kernel_rfl) (by kernel_rfl)
  have h27 := @run_callFunc_extern Tryd.prog 81 _ (ReflectliteType.abiMethod fun t => do pure (.int .u8 (← Rtype.kind t))) Tryd.func81 (by kernel_rfl) (by kernel_rfl) (by kernel_rfl) (by kernel_rfl)
  have h37 := @run_callFunc_extern Tryd.prog 94 _ (ReflectliteType.method ReflectliteType.elem) Tryd.func94 (by kernel_rfl) (by kernel_rfl) (by kernel_rfl) (by kernel_rfl)
  have h38 := @run_callFunc_extern Tryd.prog 95 _ (ReflectliteType.relation "Implements" ReflectliteType.implements_) Tryd.func95 (by kernel_rfl) (by kernel_rfl) (by kernel_rfl) (by kernel_rfl)
  have h10 := @run_callFunc_extern Tryd.prog 57 _ ReflectliteType.typeOf Tryd.func57 (by kernel_rfl) (by kernel_rfl) (by kernel_rfl) (by kernel_rfl)
  have h35 := @run_callFunc_extern Tryd.prog 92 _ (ReflectliteType.relation "AssignableTo" ReflectliteType.assignableTo) Tryd.func92 (by kernel_rfl) (by kernel_rfl) (by kernel_rfl) (by kernel_rfl)
  have h11 := @run_callFunc_extern Tryd.prog 58 _ (ReflectliteValue.method (ReflectliteValue.valueError "reflectlite.Value.Elem" 0) ReflectliteValue.elem) Tryd.func58 (by kernel_rfl) (by kernel_rfl) (by kernel_rfl) (by kernel_rfl)
  have h12 := @run_callFunc_extern Tryd.prog 59 _ ReflectliteValue.set Tryd.func59 (by kernel_rfl) (by kernel_rfl) (by kernel_rfl) (by kernel_rfl)
  have tO := as_typeOf
  have mA := as_methodAssignableTo
  have a25 := as_assignable
  have v25 := as_valueOfE
  have f6 := as_valueOfP
  have f7 := as_typeP
  have mK := as_methodKind
  have mE := as_methodElem
  have mI := as_methodImplements
  have k27 := as_kindP
  have k25 := as_kindE
  have e27 := as_elem
  have i25 := as_implements
  have n8 := as_isNil ⟨w.heap.size, 0, none⟩ t ((w.alloc (.cells #[.pointer (some t)] 75)).alloc (.cells #[hdl 75, .pointer (some ⟨w.heap.size, 0, none⟩), .int .u64 150] 109)) (by simp)
  unfold Laid at hg
  have hlt : 0 < w.heap.size := by
    rcases Nat.eq_zero_or_pos w.heap.size with h0 | h
    · simp [World.cell?, h0] at hg
    · exact h
  have hg2 : ((w.alloc (.cells #[.pointer (some t)] 75)).alloc (.cells #[hdl 75, .pointer (some ⟨w.heap.size, 0, none⟩), .int .u64 150] 109)).cell? ⟨0, 0, none⟩ = some (.iface 123 (.agg #[hdl 34])) := by
    rw [World.cell?_alloc_lt _ _ ⟨0, 0, none⟩ (by simp), World.cell?_alloc_lt _ _ ⟨0, 0, none⟩ hlt]; exact hg
  have htl : t.block < w.heap.size := by
    rcases Nat.lt_or_ge t.block w.heap.size with h | h
    · exact h
    · simp [World.cell?, Array.getElem?_eq_none h] at ht0
  have el := as_elemV ⟨w.heap.size, 0, none⟩ t (((w.alloc (.cells #[.pointer (some t)] 75)).alloc (.cells #[hdl 75, .pointer (some ⟨w.heap.size, 0, none⟩), .int .u64 150] 109)).alloc (.cells #[hdl 75, .pointer (some ⟨w.heap.size, 0, none⟩), .int .u64 150] 109)) (by rw [World.cell?_alloc_lt _ _ ⟨w.heap.size, 0, none⟩ (by simp; omega)]; simp)
  have st := as_set t ⟨w.heap.size + 1 + 1 + 1, 0, none⟩ k old ((((w.alloc (.cells #[.pointer (some t)] 75)).alloc (.cells #[hdl 75, .pointer (some ⟨w.heap.size, 0, none⟩), .int .u64 150] 109)).alloc (.cells #[hdl 75, .pointer (some ⟨w.heap.size, 0, none⟩), .int .u64 150] 109)).alloc (.cells #[.int .i64 k] 37))
    (by rw [World.cell?_alloc_at _ _ _ _ (by simp)]; rfl)
    (by rw [World.cell?_alloc_lt _ _ t (by simp; omega), World.cell?_alloc_lt _ _ t (by simp; omega), World.cell?_alloc_lt _ _ t (by simp; omega), World.cell?_alloc_lt _ _ t htl]; exact ht0)
    (by rw [World.frozen?_alloc_old _ _ t (by simp; omega), World.frozen?_alloc_old _ _ t (by simp; omega), World.frozen?_alloc_old _ _ t (by simp; omega), World.frozen?_alloc_old _ _ t (Nat.ne_of_lt htl)]; exact hf0)
  go_enter Tryd.func36, Tryd.ntmps36
  go_wp2
  refine wp_loop_rounds 1 ?_
  rw [rounds_succ]
  go_wp2
  go_ret
  exact ⟨rfl, rfl⟩
set_option maxHeartbeats 4000000 in
theorem number_hit (k : Int) (w : World) (hg : Laid w) :
    Calls Tryd.prog 13 #[.iface 37 (.int .i64 k)] w fun ev w' => ev = .returned (.int .i64 k) ∧ Below w.heap.size w w' := by
  have hlt : 0 < w.heap.size := by
    unfold Laid at hg
    rcases Nat.eq_zero_or_pos w.heap.size with h0 | h
    · simp [World.cell?, h0] at hg
    · exact h
  have hgA : Laid (w.alloc (.cells #[.int .i64 0] 37)) := by
    unfold Laid at hg ⊢
    rw [World.cell?_alloc_lt _ _ ⟨0, 0, none⟩ hlt]; exact hg
  have htA : (w.alloc (.cells #[.int .i64 0] 37)).cell? ⟨w.heap.size, 0, none⟩ = some (.int .i64 0) := by simp
  have hfA : (w.alloc (.cells #[.int .i64 0] 37)).frozen? ⟨w.heap.size, 0, none⟩ = false := by simp
  have hb : ∀ (W : World) (o : Obj), Below w.heap.size w W → Below w.heap.size w (W.alloc o) := fun W o h => h.alloc h.size o
  go_enter Tryd.func13, Tryd.ntmps13
  go_wp2_with (go_at_call 36; refine (as_hit k _ (.int .i64 0) _ hgA htA hfA).mono ?_; rintro e w' ⟨rfl, rfl⟩)
  go_ret
  refine ⟨rfl, ?_⟩
  exact hb _ _ (hb _ _ (hb _ _ (hb _ _ (hb _ _ (Below.refl _ _)))))
theorem number_t {w0 : World} {B : Nat} {H : List Chunk} (hL : Laid w0) (hB : 0 < B) (k : Int) :
    TCall Tryd.prog w0 B 13 #[.iface 37 (.int .i64 k)] (fun r H' => r = .int .i64 k ∧ H' = H) H :=
  TCall.below fun w ⟨HX, hr⟩ => (number_hit k w (hr.old hL hB)).mono fun e w' ⟨he, hb⟩ => ⟨_, he, rfl, hb⟩
end Go.Proofs.YtijpbpnfachlkaaDoor.SL
