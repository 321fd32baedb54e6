import Derived.Maps.RangeWalk
import Derived.WideKeyPair
import Derived.DeepKeys4
import Derived.Test.YtpfcpookdocikaaSLX
/- Sets that lie in memory as maps of bools: rules for the pieces' layer. No statement is proved here. -/
set_option linter.unusedVariables false
set_option linter.unusedSimpArgs false
set_option maxHeartbeats 1000000
namespace Go.Proofs.Ytpfcpookdocikaa.SL
open Go Go.RowKit
open Go.WideElems (Fit rd_key rd_val rg_of)
/-- a kind of keys, told by α -/
structure KeyFam (P : Program) (k : TypeId) (α : Type) where
  mkV : α → Value
  L : α → Lit
  ok : α → Prop
  law : Maps.Keyed P k
  key : ∀ {x : α}, ok x → keyOf P k (mkV x) = some (L x)
  vinj : ∀ {x y : α}, mkV x = mkV y → x = y
variable {P : Program} {k t e : TypeId} {α : Type} {F : KeyFam P k α}
theorem KeyFam.inj (F : KeyFam P k α) {x y : α} (hx : F.ok x) (hy : F.ok y) (h : F.L x = F.L y) : x = y :=
  F.vinj (F.law.inj (F.key hx) (h ▸ F.key hy))
/-- the entries of a set: all are true, and their keys are those of m -/
structure SetE (F : KeyFam P k α) (e : TypeId) (n : Nat) (m : α → Bool) (es : Array MapEntry) (clock : Nat) : Prop where
  fit : Fit (H := Unit) P k (plainElem P e) es clock
  size : es.size ≤ n
  vals : ∀ x ∈ es.toList, x.val = .bool true
  keys : ∀ x ∈ es.toList, ∃ a, F.ok a ∧ x.key = F.mkV a
  mem : ∀ a, F.ok a → (m a = true ↔ ∃ x ∈ es.toList, x.key = F.mkV a)
def SetO (F : KeyFam P k α) (e : TypeId) (n : Nat) (m : α → Bool) (o : Obj) : Prop := ∃ es clock, o = .map es clock ∧ SetE F e n m es clock
theorem SetE.mono {n n' : Nat} {m m' : α → Bool} {es : Array MapEntry} {clock : Nat} (h : SetE F e n m es clock) (hn : n ≤ n') (hm : ∀ a, F.ok a → m a = m' a) : SetE F e n' m' es clock :=
  ⟨h.fit, Nat.le_trans h.size hn, h.vals, h.keys, fun a ha => by rw [← hm a ha]; exact h.mem a ha⟩
theorem SetO.mono {n n' : Nat} {m m' : α → Bool} {o : Obj} (h : SetO F e n m o) (hn : n ≤ n') (hm : ∀ a, F.ok a → m a = m' a) : SetO F e n' m' o := by
  obtain ⟨es, clock, rfl, hs⟩ := h
  exact ⟨es, clock, rfl, hs.mono hn hm⟩
theorem setO_new (F : KeyFam P k α) (e : TypeId) : SetO F e 0 (fun _ => false) (.map #[] 0) :=
  ⟨#[], 0, rfl, ⟨⟨by simp, MapKept.stamped_empty 0, by simp⟩, Nat.le_refl _, by simp, by simp, by simp⟩⟩
section
variable {w0 : World} {B n : Nat} {fr : Fr} {H : List Chunk} {dst : Option Tmp} {ty : TypeId} {pos : String} {aft : Array Edge} {gd : Option (Nat × Bool)} {K : Fr → List Chunk → Prop}
theorem Rep.newOb {w : World} (h : Rep w0 B H w) (o : Obj) {I : Obj → Prop} (hI : I o) : Rep w0 B (.ob w.heap.size I :: H) (w.alloc o) :=
  h.cons (below_alloc' _ _) ⟨o, heap_alloc_new _ _, hI⟩ (fun k hk => by cases hk; exact Nat.le_refl _)
theorem TO_makeMap (F : KeyFam P k α) (e : TypeId) (hd : dOk n dst = true) (h : ∀ g, K (frPut dst (.map (some g)) fr) (.ob g (SetO F e 0 (fun _ => false)) :: H)) : TO P w0 B n ⟨dst, .makeMap t none, ty, pos, aft, gd⟩ K fr H := by
  intro HX a w Q hf hr
  have hrun : (Instr.makeMap t none).run P w = .ok (.map (some w.heap.size)) (w.alloc (.map #[] 0)) := rfl
  simp only [Oper.wp, execOp, Option.map_none, Sem.run_bind, hrun, Result.andThen_ok, Sem.run_pure, Oper.upon]
  exact ⟨_, _, h w.heap.size, hf.put hd _, hr.newOb _ (setO_new F e)⟩
/-- an object among the pieces is turned -/
theorem Rep.turnOb {w w' : World} {HX : List Chunk} {g : Nat} {I J : Obj → Prop} (i : Nat) (hi : H[i]? = some (.ob g I)) (h : Rep w0 B (H ++ HX) w) (hg : w.grownBy w' (some g)) (hs : w'.heap.size = w.heap.size) (hJ : ∃ o, w'.heap[g]? = some o ∧ J o) : Rep w0 B (H.set i (.ob g J) ++ HX) w' := by
  have hl : i < H.length := (List.getElem?_eq_some_iff.1 hi).1
  have hr1 := h.perm ((perm_pick hi).append_right HX)
  have hge := hr1.ge _ List.mem_cons_self g rfl
  have hr2 : Rep w0 B (.ob g J :: (H.eraseIdx i ++ HX)) w' := hr1.turn rfl rfl ⟨hg.os, hg.tape, hg.output, by omega, fun j hj => by
    by_cases hjs : j < w.heap.size
    · exact hg.block j hjs (by intro e; cases e; omega)
    · have := hr1.size_ge; omega⟩ (fun j hj hjs => hg.block j hjs (by intro e; cases e; exact hj rfl)) hJ
  exact hr2.perm ((perm_set (H := H) _ hl).append_right HX)
theorem ob_at {w : World} {HX : List Chunk} {g : Nat} {I : Obj → Prop} {i : Nat} (hi : H[i]? = some (.ob g I)) (h : Rep w0 B (H ++ HX) w) : ∃ o, w.heap[g]? = some o ∧ I o :=
  h.ok _ (List.mem_append_left _ (List.mem_of_getElem? hi))
def insB [BEq α] (m : α → Bool) (a : α) : α → Bool := fun x => m x || x == a
theorem fit_store' {es : Array MapEntry} {clock nn : Nat} {m : α → Bool} [BEq α] [LawfulBEq α] {w : World} {g : Nat} (ht : P.underlying t = some (.map k e)) (he : P.underlying e = some .bool) (hb : w.heap[g]? = some (.map es clock)) (hS : SetE F e nn m es clock) (hn : nn < maxLen) {x : α} (hx : F.ok x) :
    ∃ es' clock', (Instr.mapUpdate t (.map (some g)) (F.mkV x) (.bool true)).run P w = .ok () (ChangeMaps.setBlock w g (.map es' clock')) ∧ SetE F e (nn + 1) (insB m x) es' clock' := by
  have hkey := F.key hx
  have hv : plainElem (H := Unit) P e (.bool true) = some (.lit (.bool true), []) := plainElem_bool he true
  have hK := F.law
  rcases hK.find w hkey es.toList hS.fit.keys with ⟨h1, h2⟩ | ⟨j, e0, h1, h2, h3⟩
  · refine ⟨es.push ⟨F.mkV x, .bool true, clock⟩, clock + 1, ?_, ⟨⟨by have := hS.size; simp; omega, MapKept.stamped_push hS.fit.stamped h2, ?_⟩, by have := hS.size; simp; omega, ?_, ?_, ?_⟩⟩
    · simp [Instr.mapUpdate, run_underlying ht, MapKept.run_getObj_map hb, hK.check w false hkey, h1, MapKept.run_setObj_map _ hb, Result.andThen, ChangeMaps.setBlock]
    · intro y hy
      simp only [Array.toList_push, List.mem_append, List.mem_singleton] at hy
      rcases hy with hy | rfl
      · exact hS.fit.reads y hy
      · exact ⟨_, WideElems.rd_mk hkey hv⟩
    · intro y hy
      simp only [Array.toList_push, List.mem_append, List.mem_singleton] at hy
      rcases hy with hy | rfl
      · exact hS.vals y hy
      · rfl
    · intro y hy
      simp only [Array.toList_push, List.mem_append, List.mem_singleton] at hy
      rcases hy with hy | rfl
      · exact hS.keys y hy
      · exact ⟨x, hx, rfl⟩
    · intro a ha
      unfold insB
      rw [Bool.or_eq_true, hS.mem a ha, beq_iff_eq]
      simp only [Array.toList_push, List.mem_append, List.mem_singleton]
      constructor
      · rintro (⟨y, hy, h⟩ | rfl)
        · exact ⟨y, .inl hy, h⟩
        · exact ⟨_, .inr rfl, rfl⟩
      · rintro ⟨y, hy | rfl, h⟩
        · exact .inl ⟨y, hy, h⟩
        · exact .inr (F.vinj h).symm
  · have hj : es[j]? = some e0 := by simpa using h2
    have hjl : j < es.toList.length := (List.getElem?_eq_some_iff.1 h2).1
    have hm0 : e0 ∈ es.toList := List.mem_of_getElem? h2
    have hlist : (es.modify j (fun e' => { e' with key := F.mkV x, val := .bool true })).toList = es.toList := by
      rw [Array.toList_modify, ChangeMaps.modify_eq_set _ _ _ _ h2]
      have : ({ e0 with key := F.mkV x, val := .bool true } : MapEntry) = e0 := by
        obtain ⟨ky, vl, bn⟩ := e0
        have hv0 := hS.vals _ hm0
        simp only at h3 hv0 ⊢
        rw [h3, hv0]
      rw [this]
      apply List.ext_getElem?
      intro i
      rw [List.getElem?_set]
      split
      · rename_i hij; subst hij; rw [h2]
      · rfl
    have hes : es.modify j (fun e' => { e' with key := F.mkV x, val := .bool true }) = es := by
      apply Array.ext'
      exact hlist
    refine ⟨es, clock, ?_, hS.fit, by have := hS.size; omega, hS.vals, hS.keys, ?_⟩
    · have := hK.stays w hkey
      simp [Instr.mapUpdate, run_underlying ht, MapKept.run_getObj_map hb, hK.check w false hkey, h1, hj, h3, this, MapKept.run_setObj_map _ hb, Result.andThen, ChangeMaps.setBlock, hes]
    · intro a ha
      unfold insB
      rw [Bool.or_eq_true, hS.mem a ha, beq_iff_eq]
      constructor
      · rintro (h | rfl)
        · exact h
        · exact ⟨e0, hm0, h3⟩
      · intro h; exact .inl h
theorem grownBy_setBlock {w : World} {g : Nat} {o o' : Obj} (hb : w.heap[g]? = some o) : w.grownBy (ChangeMaps.setBlock w g o') (some g) ∧ (ChangeMaps.setBlock w g o').heap.size = w.heap.size ∧ (ChangeMaps.setBlock w g o').heap[g]? = some o' :=
  ⟨⟨rfl, rfl, rfl, by simp [ChangeMaps.setBlock], fun i _ hi => by
    show (w.heap.setIfInBounds g o')[i]? = _
    rw [Array.getElem?_setIfInBounds_ne (fun e => hi (by rw [e]))]⟩, by simp [ChangeMaps.setBlock], by
    show (w.heap.setIfInBounds g o')[g]? = _
    rw [Array.getElem?_setIfInBounds_self_of_lt (Array.getElem?_eq_some_iff.1 hb).1]⟩
theorem up_run [BEq α] [LawfulBEq α] {HX : List Chunk} {g nn : Nat} {m : α → Bool} {w : World} (i : Nat) (hi : H[i]? = some (.ob g (SetO F e nn m))) (ht : P.underlying t = some (.map k e)) (he : P.underlying e = some .bool) (hn : nn < 1000000000000) {x : α} (hx : F.ok x) (hr : Rep w0 B (H ++ HX) w) :
    ∃ w', (Instr.mapUpdate t (.map (some g)) (F.mkV x) (.bool true)).run P w = .ok () w' ∧ Rep w0 B (H.set i (.ob g (SetO F e (nn + 1) (insB m x))) ++ HX) w' := by
  obtain ⟨o, hb, es, clock, rfl, hS⟩ := ob_at hi hr
  obtain ⟨es', clock', hrun, hS'⟩ := fit_store' ht he hb hS (by unfold maxLen; omega) hx
  obtain ⟨h1, h2, h3⟩ := grownBy_setBlock (o' := .map es' clock') hb
  exact ⟨_, hrun, hr.turnOb i hi h1 h2 ⟨_, h3, es', clock', rfl, hS'⟩⟩
/-- m[x] = true -/
theorem TO_mapUp [BEq α] [LawfulBEq α] {mo xo vo : Operand} {g nn : Nat} {m : α → Bool} (i : Nat) (hi : H[i]? = some (.ob g (SetO F e nn m))) (ht : P.underlying t = some (.map k e)) (he : P.underlying e = some .bool) (hn : nn < 1000000000000) {x : α} (hx : F.ok x) {xv : Value} (hxv : F.mkV x = xv) (hd : dOk n dst = true)
    (hm : ev fr mo = some (.map (some g))) (hk : ev fr xo = some xv) (hv : ev fr vo = some (.bool true)) (h : K (frPut dst undef fr) (H.set i (.ob g (SetO F e (nn + 1) (insB m x))))) : TO P w0 B n ⟨dst, .mapUpdate t mo xo vo, ty, pos, aft, gd⟩ K fr H := by
  intro HX a w Q hf hr
  subst hxv
  obtain ⟨w', hrun, hr'⟩ := up_run i hi ht he hn hx hr
  simp only [Oper.wp, execOp, hf.ev hm, hf.ev hk, hf.ev hv]
  rw [Sem.run_bind, hrun]
  simp only [Result.andThen_ok, Sem.run_pure, Oper.upon]
  exact ⟨_, _, h, hf.put hd _, hr'⟩
theorem TO_mapIns [BEq α] [LawfulBEq α] {mo xo vo : Operand} {g nn : Nat} {m : α → Bool} (i : Nat) (hi : H[i]? = some (.ob g (SetO F e nn m))) (ht : P.underlying t = some (.map k e)) (he : P.underlying e = some .bool) (hn : nn < 1000000000000) {x : α} (hx : F.ok x) {xv : Value} (hxv : F.mkV x = xv) (hd : dOk n dst = true)
    (hm : ev fr mo = some (.map (some g))) (hk : ev fr xo = some xv) (hv : ev fr vo = some (.bool true)) (h : K (frPut dst undef fr) (H.set i (.ob g (SetO F e (nn + 1) (insB m x))))) : TO P w0 B n ⟨dst, .insert t mo xo vo, ty, pos, aft, gd⟩ K fr H := by
  intro HX a w Q hf hr
  subst hxv
  obtain ⟨w', hrun, hr'⟩ := up_run i hi ht he hn hx hr
  simp only [Oper.wp, execOp, hf.ev hm, hf.ev hk, hf.ev hv]
  rw [Sem.run_bind, hrun]
  simp only [Result.andThen_ok, Sem.run_pure, Oper.upon]
  exact ⟨_, _, h, hf.put hd _, hr'⟩
end
/-! a set that is only read -/
/-- v is a set wherever W holds: nil, or one map -/
def MS (W : World → Prop) (F : KeyFam P k α) (e : TypeId) (v : Value) (n : Nat) (m : α → Bool) : Prop :=
  (v = .map none ∧ ∀ a, F.ok a → m a = false) ∨ ∃ b es clock, v = .map (some b) ∧ SetE F e n m es clock ∧ ∀ w, W w → w.heap[b]? = some (.map es clock)
theorem MS.mono {W W' : World → Prop} {v : Value} {n n' : Nat} {m m' : α → Bool} (h : MS W F e v n m) (hw : ∀ w, W' w → W w) (hn : n ≤ n') (hm : ∀ a, F.ok a → m a = m' a) : MS W' F e v n' m' := by
  rcases h with ⟨h1, h2⟩ | ⟨b, es, clock, h1, h2, h3⟩
  · exact .inl ⟨h1, fun a ha => by rw [← hm a ha]; exact h2 a ha⟩
  · exact .inr ⟨b, es, clock, h1, h2.mono hn hm, fun w h => h3 w (hw w h)⟩
theorem MS.weak {W W' : World → Prop} {v : Value} {n : Nat} {m : α → Bool} (h : MS W F e v n m) (hw : ∀ w, W' w → W w) : MS W' F e v n m := h.mono hw (Nat.le_refl _) (fun _ _ => rfl)
section
variable {w0 : World} {B n : Nat} {fr : Fr} {H : List Chunk} {dst : Option Tmp} {ty : TypeId} {pos : String} {aft : Array Edge} {gd : Option (Nat × Bool)} {K : Fr → List Chunk → Prop} {W : World → Prop}
/-- the object is laid open -/
theorem T_openOb {c : Code} {Q : Exit → Fr → List Chunk → Prop} {g : Nat} {I : Obj → Prop} (i : Nat) (hi : H[i]? = some (.ob g I)) (h : ∀ o, I o → T P w0 B n c Q fr (H.set i (.ob g (fun x => x = o)))) : T P w0 B n c Q fr H := by
  intro HX a w hf hr
  obtain ⟨o, hb, hI⟩ := ob_at hi hr
  refine h o hI HX a w hf (hr.turnOb i hi ⟨rfl, rfl, rfl, Nat.le_refl _, fun _ _ _ => rfl⟩ rfl ⟨o, hb, rfl⟩)
theorem MS.of_ob {g nn : Nat} {m : α → Bool} {o : Obj} (h : SetO F e nn m o) (i : Nat) (hi : H[i]? = some (.ob g (fun x => x = o))) : MS (WH w0 B H) F e (.map (some g)) nn m := by
  obtain ⟨es, clock, rfl, hS⟩ := h
  refine .inr ⟨g, es, clock, rfl, hS, fun w ⟨HX, hr⟩ => ?_⟩
  obtain ⟨o, hb, rfl⟩ := ob_at hi hr
  exact hb
/-- m[x] of a set that is only read -/
theorem PV_lookMS {mo xo : Operand} {v : Value} {nn : Nat} {m : α → Bool} (hM : MS W F e v nn m) (ht : P.underlying t = some (.map k e)) (hz : (P.info? e).map (·.zero) = some (some (.bool false))) {x : α} (hx : F.ok x) {xv : Value} (hxv : F.mkV x = xv)
    (hm : ev fr mo = some v) (hk : ev fr xo = some xv) : PV P n W fr ⟨dst, .lookup t mo xo false, ty, pos, aft, gd⟩ (.bool (m x)) := fun a w hf hw => by
  subst hxv
  have hz' : (zeroValue e).run P w = .ok (.bool false) w := by
    obtain ⟨i, hi, hz⟩ := Option.map_eq_some_iff.1 hz
    simp [zeroValue, typeInfo, hi, hz]
  have hrun : (Instr.lookup t v (F.mkV x) false).run P w = .ok (.bool (m x)) w := by
    rcases hM with ⟨rfl, h2⟩ | ⟨b, es, clock, rfl, hS, hb⟩
    · rw [h2 x hx]
      rcases F.law.find w (F.key hx) [] (by simp) with ⟨f1, _⟩ | ⟨j, e0, _, f2, _⟩
      · simp [Instr.lookup, run_underlying ht, F.law.check w _ (F.key hx), f1, hz', Result.andThen]
      · simp at f2
    · have hb := hb w hw
      rcases F.law.find w (F.key hx) es.toList hS.fit.keys with ⟨h1, h2⟩ | ⟨j, e0, h1, h2, h3⟩
      · have : m x = false := by
          cases hmx : m x with
          | false => rfl
          | true =>
            obtain ⟨y, hy, h⟩ := (hS.mem x hx).1 hmx
            exact absurd h (h2 y hy)
        rw [this]
        simp [Instr.lookup, run_underlying ht, MapKept.run_getObj_map hb, F.law.check w _ (F.key hx), h1, hz', Result.andThen]
      · have hm0 : e0 ∈ es.toList := List.mem_of_getElem? h2
        rw [(hS.mem x hx).2 ⟨e0, hm0, h3⟩, ← hS.vals e0 hm0]
        simp [Instr.lookup, run_underlying ht, MapKept.run_getObj_map hb, F.law.check w _ (F.key hx), h1, Result.andThen]
  simp only [execOp, hf.ev hm, hf.ev hk]
  rw [Sem.run_bind, hrun]
  simp only [Result.andThen_ok, Sem.run_pure]
/-- m[x] of a set among the pieces -/
theorem PV_lookOb {mo xo : Operand} {g nn : Nat} {m : α → Bool} (i : Nat) (hi : H[i]? = some (.ob g (SetO F e nn m))) (ht : P.underlying t = some (.map k e)) (hz : (P.info? e).map (·.zero) = some (some (.bool false))) {x : α} (hx : F.ok x) {xv : Value} (hxv : F.mkV x = xv)
    (hm : ev fr mo = some (.map (some g))) (hk : ev fr xo = some xv) : PV P n (WH w0 B H) fr ⟨dst, .lookup t mo xo false, ty, pos, aft, gd⟩ (.bool (m x)) := fun a w hf hw => by
  obtain ⟨HX, hr⟩ := hw
  obtain ⟨o, hb, es, clock, rfl, hS⟩ := ob_at hi hr
  exact PV_lookMS (W := fun w' => w' = w) (.inr ⟨g, es, clock, rfl, hS, fun w' h => h ▸ hb⟩) ht hz hx hxv hm hk a w hf rfl
/-! going over a set -/
/-- an iterator: what it still has to give, how many, and what it gave last -/
def ItO (F : KeyFam P k α) (b : Nat) (es : Array MapEntry) (clock : Nat) (left : α → Bool) (cnt : Nat) (last : Option α) (o : Obj) : Prop :=
  ∃ seen : Array Nat, o = .mapIter (some b) clock seen clock ∧ (leftOf es seen).size = cnt ∧ (∀ a, F.ok a → (left a = true ↔ ∃ x ∈ (leftOf es seen).toList, x.key = F.mkV a)) ∧ ∀ a, last = some a → ∃ x ∈ es.toList, x.key = F.mkV a ∧ ∃ s' : Array Nat, seen = s'.push x.born
def ItN (F : KeyFam P k α) (left : α → Bool) (cnt : Nat) (last : Option α) (o : Obj) : Prop := o = .mapIter none 0 #[] 0 ∧ cnt = 0 ∧ (∀ a, F.ok a → left a = false) ∧ last = none
/-- what an iterator does, wherever W holds -/
structure Rng (W : World → Prop) (F : KeyFam P k α) (m : α → Bool) (I : (α → Bool) → Nat → Option α → Obj → Prop) : Prop where
  next : ∀ (w : World) (r : Nat) (ty : TypeId) (left : α → Bool) (cnt : Nat) (last : Option α), W w → (∃ o, w.heap[r]? = some o ∧ I left cnt last o) →
    ((∀ a, F.ok a → left a = false) ∧ (Instr.next (.pointer (some ⟨r, 0, none⟩)) false ty).run P w = .ok (.tuple #[.bool false]) w) ∨
    ∃ (x : α) (cnt' : Nat) (w' : World), F.ok x ∧ left x = true ∧ m x = true ∧ cnt' < cnt ∧ (Instr.next (.pointer (some ⟨r, 0, none⟩)) false ty).run P w = .ok (.tuple #[.bool true, F.mkV x, .bool true]) w' ∧ w.grownBy w' (some r) ∧ w'.heap.size = w.heap.size ∧
      ∃ left' : α → Bool, (∀ a, F.ok a → (left' a = true ↔ left a = true ∧ a ≠ x)) ∧ ∃ o, w'.heap[r]? = some o ∧ I left' cnt' (some x) o
  entry : ∀ (w : World) (r : Nat) (left : α → Bool) (cnt : Nat) (x : α), W w → (∃ o, w.heap[r]? = some o ∧ I left cnt (some x) o) → (Instr.entry (.pointer (some ⟨r, 0, none⟩))).run P w = .ok (.tuple #[F.mkV x, .bool true]) w
theorem Rng.mono {W' : World → Prop} {m : α → Bool} {I : (α → Bool) → Nat → Option α → Obj → Prop} (h : Rng W F m I) (hw : ∀ w, W' w → W w) : Rng W' F m I :=
  ⟨fun w r ty left cnt last hW => h.next w r ty left cnt last (hw w hW), fun w r left cnt x hW => h.entry w r left cnt x (hw w hW)⟩
theorem rng_nil {m : α → Bool} : Rng W F m (ItN F) := by
  refine ⟨fun w r ty left cnt last hW => ?_, fun w r left cnt x hW => ?_⟩
  · rintro ⟨o, hr, rfl, rfl, hl, rfl⟩
    refine .inl ⟨hl, ?_⟩
    simp only [Instr.next, getObj, Sem.run_bind, Sem.run, hr, Result.andThen]
    rfl
  · rintro ⟨o, hr, rfl, rfl, hl, h⟩
    cases h
theorem mem_leftOf {es : Array MapEntry} {seen : Array Nat} {e : MapEntry} : e ∈ (leftOf es seen).toList ↔ e ∈ es.toList ∧ seen.contains e.born = false := by
  constructor
  · exact mem_left
  · rintro ⟨h1, h2⟩
    refine Array.mem_toList_iff.2 (Array.mem_filter.2 ⟨Array.mem_toList_iff.1 h1, ?_⟩)
    rw [h2]; rfl
theorem rng_map {b nn : Nat} {m : α → Bool} {es : Array MapEntry} {clock : Nat} (hS : SetE F e nn m es clock) (hb : ∀ w, W w → w.heap[b]? = some (.map es clock)) : Rng W F m (ItO F b es clock) := by
  have hst := (MapKept.stamped_iff es clock).1 hS.fit.stamped
  refine ⟨fun w r ty left cnt last hW => ?_, fun w r left cnt x hW => ?_⟩
  · rintro ⟨o, hr, seen, rfl, rfl, hl, _⟩
    rcases run_next_at (P := P) w ty r b clock clock seen es clock hr (hb w hW) hst.1 (Nat.le_refl _) with ⟨h0, hrun⟩ | ⟨e0, he, w1, hal, hrun⟩
    · refine .inl ⟨fun a ha => ?_, hrun⟩
      cases hla : left a with
      | false => rfl
      | true =>
        obtain ⟨x, hx, _⟩ := (hl a ha).1 hla
        rw [Array.eq_empty_of_size_eq_zero h0] at hx
        simp at hx
    · obtain ⟨hem, hes⟩ := mem_left he
      obtain ⟨a, ha, hka⟩ := hS.keys e0 hem
      have hr1 : w1.heap[r]? = some (.mapIter (some b) clock seen clock) := by rcases hal with rfl | rfl <;> exact hr
      have hg : w.grownBy (ChangeMaps.setBlock w1 r (.mapIter (some b) clock (seen.push e0.born) clock)) (some r) ∧ (ChangeMaps.setBlock w1 r (.mapIter (some b) clock (seen.push e0.born) clock)).heap.size = w.heap.size ∧ (ChangeMaps.setBlock w1 r (.mapIter (some b) clock (seen.push e0.born) clock)).heap[r]? = some (.mapIter (some b) clock (seen.push e0.born) clock) := by
        rcases hal with rfl | rfl
        · exact grownBy_setBlock hr1
        · have := grownBy_setBlock (o' := .mapIter (some b) clock (seen.push e0.born) clock) hr1
          exact ⟨⟨this.1.os, this.1.tape, this.1.output, this.1.size, this.1.block⟩, this.2.1, this.2.2⟩
      refine .inr ⟨a, _, _, ha, (hl a ha).2 ⟨e0, he, hka⟩, (hS.mem a ha).2 ⟨e0, hem, hka⟩, left_shrinks es seen e0 he, ?_, hg.1, hg.2.1, fun y => left y && !(@decide (F.mkV y = F.mkV a) (Classical.propDecidable _)), ?_, _, hg.2.2, seen.push e0.born, rfl, rfl, ?_, ?_⟩
      · rw [hrun, hka, hS.vals e0 hem]
      · intro y hy
        simp only [Bool.and_eq_true, Bool.not_eq_true', decide_eq_false_iff_not]
        exact ⟨fun h => ⟨h.1, fun e => h.2 (by rw [e])⟩, fun h => ⟨h.1, fun e => h.2 (F.vinj e)⟩⟩
      · intro y hy
        simp only [Bool.and_eq_true, Bool.not_eq_true', decide_eq_false_iff_not, hl y hy]
        constructor
        · rintro ⟨⟨x, hx, hxk⟩, hne⟩
          obtain ⟨h1, h2⟩ := mem_left hx
          refine ⟨x, mem_leftOf.2 ⟨h1, ?_⟩, hxk⟩
          rw [contains_push, h2]
          cases hbn : x.born == e0.born with
          | false => rfl
          | true =>
            obtain rfl := born_inj hst.2.1 h1 hem (by simpa using hbn)
            exact absurd (hxk.symm.trans hka) hne
        · rintro ⟨x, hx, hxk⟩
          obtain ⟨h1, h2⟩ := mem_left hx
          rw [contains_push] at h2
          simp only [Bool.or_eq_false_iff] at h2
          refine ⟨⟨x, mem_leftOf.2 ⟨h1, h2.1⟩, hxk⟩, fun e1 => ?_⟩
          have : x = e0 := entry_eq_of_key hst.2.2 h1 hem (by rw [hxk, e1, ← hka])
          subst this
          simp at h2
      · intro y hy
        cases hy
        exact ⟨e0, hem, hka, seen, rfl⟩
  · rintro ⟨o, hr, seen, rfl, rfl, hl, hlast⟩
    obtain ⟨x0, hx0, hk0, s', rfl⟩ := hlast x rfl
    rw [run_entry_at (P := P) w r b clock s' es clock x0 hr (hb w hW) hx0 hst.2.1, hk0, hS.vals x0 hx0]
/-- range over a set that is only read -/
theorem TO_rangeMS {mo : Operand} {v : Value} {nn : Nat} {m : α → Bool} (hM : MS W F e v nn m) (hW : ∀ w, WH w0 B H w → W w) (ht : P.underlying t = some (.map k e)) (hd : dOk n dst = true) (hm : ev fr mo = some v)
    (h : ∀ (I : (α → Bool) → Nat → Option α → Obj → Prop) (r cnt : Nat), Rng W F m I → cnt ≤ nn → K (frPut dst (.pointer (some ⟨r, 0, none⟩)) fr) (.ob r (I m cnt none) :: H)) : TO P w0 B n ⟨dst, .range t mo, ty, pos, aft, gd⟩ K fr H := by
  intro HX a w Q hf hr
  simp only [Oper.wp, execOp, hf.ev hm]
  rcases hM with ⟨rfl, h2⟩ | ⟨b, es, clock, rfl, hS, hb⟩
  · rw [Sem.run_bind, run_range_nilMap w t k e ht]
    simp only [Result.andThen_ok, Sem.run_pure, Oper.upon]
    exact ⟨_, _, h (ItN F) w.heap.size 0 rng_nil (Nat.zero_le _), hf.put hd _, hr.newOb _ ⟨rfl, rfl, h2, rfl⟩⟩
  · rw [Sem.run_bind, run_range_map w t k e b es clock ht (hb w (hW w ⟨HX, hr⟩))]
    simp only [Result.andThen_ok, Sem.run_pure, Oper.upon]
    refine ⟨_, _, h (ItO F b es clock) w.heap.size (leftOf es #[]).size (rng_map hS hb) ?_, hf.put hd _, hr.newOb _ ⟨#[], rfl, rfl, fun a ha => ?_, fun a h => by cases h⟩⟩
    · have : (leftOf es #[]).size ≤ es.size := by unfold leftOf; exact Array.size_filter_le
      have := hS.size
      omega
    · rw [hS.mem a ha]
      constructor
      · rintro ⟨x, hx, hk⟩; exact ⟨x, mem_leftOf.2 ⟨hx, by simp⟩, hk⟩
      · rintro ⟨x, hx, hk⟩; exact ⟨x, (mem_left hx).1, hk⟩
/-- a step -/
theorem TO_nextMS {it : Operand} {r cnt : Nat} {m left : α → Bool} {last : Option α} {I : (α → Bool) → Nat → Option α → Obj → Prop} (i : Nat) (hi : H[i]? = some (.ob r (I left cnt last))) (hR : Rng W F m I) (hW : ∀ w, WH w0 B H w → W w) (hd : dOk n dst = true) (hit : ev fr it = some (.pointer (some ⟨r, 0, none⟩)))
    (hDone : (∀ a, F.ok a → left a = false) → K (frPut dst (.tuple #[.bool false]) fr) H)
    (hMore : ∀ (x : α) (cnt' : Nat) (left' : α → Bool), F.ok x → left x = true → m x = true → cnt' < cnt → (∀ a, F.ok a → (left' a = true ↔ left a = true ∧ a ≠ x)) → K (frPut dst (.tuple #[.bool true, F.mkV x, .bool true]) fr) (H.set i (.ob r (I left' cnt' (some x))))) :
    TO P w0 B n ⟨dst, .next it false, ty, pos, aft, gd⟩ K fr H := by
  intro HX a w Q hf hr
  simp only [Oper.wp, execOp, hf.ev hit]
  rcases hR.next w r ty left cnt last (hW w ⟨HX, hr⟩) (ob_at hi hr) with ⟨h1, hrun⟩ | ⟨x, cnt', w', hx, hlx, hmx, hc, hrun, hg, hs, left', hl', ho⟩
  · rw [Sem.run_bind, hrun]
    simp only [Result.andThen_ok, Sem.run_pure, Oper.upon]
    exact ⟨_, _, hDone h1, hf.put hd _, hr⟩
  · rw [Sem.run_bind, hrun]
    simp only [Result.andThen_ok, Sem.run_pure, Oper.upon]
    exact ⟨_, _, hMore x cnt' left' hx hlx hmx hc hl', hf.put hd _, hr.turnOb i hi hg hs ho⟩
/-- what the step gave -/
theorem PV_entryMS {it : Operand} {r cnt : Nat} {m left : α → Bool} {x : α} {I : (α → Bool) → Nat → Option α → Obj → Prop} (i : Nat) (hi : H[i]? = some (.ob r (I left cnt (some x)))) (hR : Rng W F m I) (hW : ∀ w, WH w0 B H w → W w) (hit : ev fr it = some (.pointer (some ⟨r, 0, none⟩))) :
    PV P n (WH w0 B H) fr ⟨dst, .entry it, ty, pos, aft, gd⟩ (.tuple #[F.mkV x, .bool true]) := fun a w hf hw => by
  simp only [execOp, hf.ev hit]
  obtain ⟨HX, hr⟩ := hw
  rw [Sem.run_bind, hR.entry w r left cnt x (hW w ⟨HX, hr⟩) (ob_at hi hr)]
  simp only [Result.andThen_ok, Sem.run_pure]
end
/-! keys -/
/-- places, as whole numbers -/
def natFam {q : TypeId} (hq : P.underlying q = some (.int .i64)) : KeyFam P q Nat where
  mkV x := .int .i64 (x : Int)
  L x := .int .i64 (x : Int)
  ok x := x ≤ 1000000000000
  law := Maps.int_keyed hq
  key := fun {x} hx => Maps.keyOf_int_mk hq (by simp [Lit.wf, IntKind.min, IntKind.max, IntKind.signed, IntKind.bits]; omega)
  vinj := fun {x y} h => by injection h with _ h; exact Int.ofNat.inj h
def pairV (x : Nat × Nat) : Value := .agg #[.int .i64 (x.1 : Int), .int .i64 (x.2 : Int)]
def pairFam {q i : TypeId} (hi : P.underlying i = some (.int .i64)) (A : WideMaps.ArrKey P q i 2) (hsz : ∃ m, P.types.size = m + 1) (law : WideMaps.KeyLaw P q) : KeyFam P q (Nat × Nat) where
  mkV := pairV
  L x := .string (keyBytes [.int .i64 (x.1 : Int), .int .i64 (x.2 : Int)])
  ok x := x.1 ≤ 1000000000000 ∧ x.2 ≤ 1000000000000
  law := Maps.Keyed.of_law law
  key := fun {x} hx => WideMaps.keyOf_pair A hi hsz (by simp [Lit.wf, IntKind.min, IntKind.max, IntKind.signed, IntKind.bits]; omega) (by simp [Lit.wf, IntKind.min, IntKind.max, IntKind.signed, IntKind.bits]; omega)
  vinj := fun {x y} h => by
    unfold pairV at h
    injection h with h
    have h := congrArg Array.toList h
    simp only [List.cons.injEq, Value.int.injEq, true_and, and_true] at h
    exact Prod.ext (Int.ofNat.inj h.1) (Int.ofNat.inj h.2)
end Go.Proofs.Ytpfcpookdocikaa.SL
