import Derived.Test.YtpfcpookdocikaaO1
import Derived.Test.YtpfcpookdocikaaM1
/- Numbers by numbers, in a map; what the law answers with. No statement is proved here. -/
set_option linter.unusedVariables false
set_option linter.unusedSimpArgs false
set_option maxRecDepth 100000
set_option maxHeartbeats 4000000
namespace Go.Proofs.Ytpfcpookdocikaa.SL
open Go Go.RowKit
structure MapV (cnt : Nat → Int) (es : Array MapEntry) : Prop where
  ent : ∀ y ∈ es.toList, ∃ a : Nat, a ≤ 1000 ∧ y.key = .int .i64 (a : Int) ∧ y.val = .int .i64 (cnt a)
  miss : ∀ a : Nat, a ≤ 1000 → (∀ y ∈ es.toList, y.key ≠ .int .i64 (a : Int)) → cnt a = 0
  uniq : ∀ (i j : Nat) (k : Value), (es.toList.map (·.key))[i]? = some k → (es.toList.map (·.key))[j]? = some k → i = j
def MapO (cnt : Nat → Int) (o : Obj) : Prop := ∃ es clock, o = .map es clock ∧ MapV cnt es
noncomputable def kN : KeyFam Try.prog 3 Nat := natFam Try.underlying3
theorem okN {x : Nat} (h : x ≤ 1000000000000) : kN.ok x := h
def setN (cnt : Nat → Int) (x : Nat) (v : Int) : Nat → Int := fun j => if j = x then v else cnt j
theorem mapV_keys {cnt : Nat → Int} {es : Array MapEntry} (h : MapV cnt es) : ∀ y ∈ es.toList, ∃ l, keyOf Try.prog 3 y.key = some l := fun y hy => by
  obtain ⟨a, ha, e, _⟩ := h.ent y hy
  exact ⟨_, by rw [e]; exact kN.key (okN (by omega))⟩
theorem int_inj {a b : Nat} (h : Value.int .i64 (a : Int) = .int .i64 (b : Int)) : a = b := Int.ofNat.inj (Value.int.inj h).2
theorem mapV_up {w : World} {g clock : Nat} {es : Array MapEntry} {cnt : Nat → Int} (hb : w.heap[g]? = some (.map es clock)) (h : MapV cnt es) {x : Nat} (hx : x ≤ 1000) (v : Int) :
    ∃ es' clock', (Instr.mapUpdate 35 (.map (some g)) (.int .i64 (x : Int)) (.int .i64 v)).run Try.prog w = .ok () (ChangeMaps.setBlock w g (.map es' clock')) ∧ MapV (setN cnt x v) es' := by
  have hkey := kN.key (okN (x := x) (by omega))
  have hK := kN.law
  have hc : ∀ em, (Instr.checkKey em 10000 3 (.int .i64 (x : Int))).run Try.prog w = .ok () w := fun em => hK.check w em hkey
  have hst : (Instr.keyThatStays (.int .i64 (x : Int)) (.int .i64 (x : Int))).run Try.prog w = .ok (.int .i64 (x : Int)) w := hK.stays w hkey
  rcases hK.find w hkey es.toList (mapV_keys h) with ⟨h1, h2⟩ | ⟨j, e0, h1, h2, h3⟩
  · have h1' : (Instr.findKey 3 (.int .i64 (x : Int)) es.toList).run Try.prog w = .ok none w := h1
    refine ⟨es.push ⟨.int .i64 (x : Int), .int .i64 v, clock⟩, clock + 1, ?_, ⟨?_, ?_, ?_⟩⟩
    · simp [Instr.mapUpdate, run_underlying Try.underlying35, MapKept.run_getObj_map hb, hc, h1', MapKept.run_setObj_map _ hb, Result.andThen, ChangeMaps.setBlock]
    · intro y hy
      simp only [Array.toList_push, List.mem_append, List.mem_singleton] at hy
      rcases hy with hy | rfl
      · obtain ⟨a, ha, e1, e2⟩ := h.ent y hy
        refine ⟨a, ha, e1, ?_⟩
        unfold setN
        rw [if_neg (fun e => h2 y hy (by rw [e1, e]; rfl)), e2]
      · exact ⟨x, hx, rfl, by unfold setN; rw [if_pos rfl]⟩
    · intro a ha hm
      simp only [Array.toList_push, List.mem_append, List.mem_singleton] at hm
      unfold setN
      rw [if_neg (fun e => hm _ (.inr rfl) (by rw [e]))]
      exact h.miss a ha fun y hy => hm y (.inl hy)
    · intro i j k hi hj
      simp only [Array.toList_push, List.map_append, List.map_cons, List.map_nil] at hi hj
      have hin : ∀ {i : Nat}, i < (es.toList.map (·.key)).length → (es.toList.map (·.key) ++ [Value.int .i64 (x : Int)])[i]? = some (.int .i64 (x : Int)) → False := fun {i} hi hh => by
        rw [List.getElem?_append_left hi] at hh
        obtain ⟨y, hy, e⟩ := List.mem_map.1 (List.mem_of_getElem? hh)
        exact h2 y hy e
      have hl : ∀ {i : Nat} {k : Value}, (es.toList.map (·.key) ++ [Value.int .i64 (x : Int)])[i]? = some k → i < (es.toList.map (·.key)).length ∨ i = (es.toList.map (·.key)).length ∧ k = .int .i64 (x : Int) := fun {i k} hh => by
        rcases Nat.lt_or_ge i (es.toList.map (·.key)).length with h' | h'
        · exact .inl h'
        · have hlt := (List.getElem?_eq_some_iff.1 hh).1
          simp only [List.length_append, List.length_cons, List.length_nil] at hlt
          have e : i = (es.toList.map (·.key)).length := by omega
          refine .inr ⟨e, ?_⟩
          rw [e, List.getElem?_append_right (Nat.le_refl _), Nat.sub_self] at hh
          exact (Option.some.inj hh).symm
      rcases hl hi with hi' | ⟨rfl, rfl⟩
      · rcases hl hj with hj' | ⟨rfl, rfl⟩
        · rw [List.getElem?_append_left hi'] at hi
          rw [List.getElem?_append_left hj'] at hj
          exact h.uniq i j k hi hj
        · exact (hin hi' hi).elim
      · rcases hl hj with hj' | ⟨rfl, _⟩
        · exact (hin hj' hj).elim
        · rfl
  · have h1' : (Instr.findKey 3 (.int .i64 (x : Int)) es.toList).run Try.prog w = .ok (some (j, e0.val)) w := h1
    have hj : es[j]? = some e0 := by simpa using h2
    have h3' : e0.key = .int .i64 (x : Int) := h3
    have hset : (es.modify j (fun e' => { e' with key := .int .i64 (x : Int), val := .int .i64 v })).toList = es.toList.set j { e0 with key := .int .i64 (x : Int), val := .int .i64 v } := by
      rw [Array.toList_modify, ChangeMaps.modify_eq_set _ _ _ _ h2]
    have hkj : (es.toList.map (·.key))[j]? = some (.int .i64 (x : Int)) := by rw [List.getElem?_map, h2]; exact congrArg some h3'
    have hmap : (es.toList.set j { e0 with key := .int .i64 (x : Int), val := .int .i64 v }).map (·.key) = es.toList.map (·.key) := by
      rw [List.map_set]
      apply List.ext_getElem?
      intro i
      by_cases hij : j = i
      · subst hij
        rw [List.getElem?_set, if_pos rfl, if_pos (List.getElem?_eq_some_iff.1 hkj).1, hkj]
      · rw [List.getElem?_set, if_neg hij]
    refine ⟨es.modify j (fun e' => { e' with key := .int .i64 (x : Int), val := .int .i64 v }), clock, ?_, ⟨?_, ?_, ?_⟩⟩
    · simp [Instr.mapUpdate, run_underlying Try.underlying35, MapKept.run_getObj_map hb, hc, h1', hj, h3', hst, MapKept.run_setObj_map _ hb, Result.andThen, ChangeMaps.setBlock]
    · intro y hy
      rw [hset] at hy
      obtain ⟨i, hi⟩ := List.mem_iff_getElem?.1 hy
      rw [List.getElem?_set] at hi
      split at hi
      · split at hi
        · cases hi
          exact ⟨x, hx, rfl, by unfold setN; rw [if_pos rfl]⟩
        · cases hi
      · rename_i hij
        obtain ⟨a, ha, e1, e2⟩ := h.ent y (List.mem_of_getElem? hi)
        refine ⟨a, ha, e1, ?_⟩
        unfold setN
        rw [if_neg, e2]
        intro e
        refine hij (h.uniq j i _ hkj ?_)
        rw [List.getElem?_map, hi, ← e, ← e1]
        rfl
    · intro a ha hm
      rw [hset] at hm
      have hjl := (List.getElem?_eq_some_iff.1 h2).1
      have hjm : ({ e0 with key := .int .i64 (x : Int), val := .int .i64 v } : MapEntry) ∈ es.toList.set j { e0 with key := .int .i64 (x : Int), val := .int .i64 v } := List.mem_iff_getElem?.2 ⟨j, by rw [List.getElem?_set, if_pos rfl, if_pos hjl]⟩
      have hax : a ≠ x := fun e => hm _ hjm (by rw [e])
      unfold setN
      rw [if_neg hax]
      refine h.miss a ha fun y hy => ?_
      obtain ⟨i, hi⟩ := List.mem_iff_getElem?.1 hy
      by_cases hij : j = i
      · subst hij
        rw [h2] at hi
        cases hi
        rw [h3']
        exact fun e => hax (int_inj e).symm
      · exact hm y (List.mem_iff_getElem?.2 ⟨i, by rw [List.getElem?_set, if_neg hij]; exact hi⟩)
    · rw [hset, hmap]
      exact h.uniq
section
variable {w0 : World} {B n : Nat} {fr : Fr} {H : List Chunk} {dst : Option Tmp} {ty : TypeId} {pos : String} {aft : Array Edge} {gd : Option (Nat × Bool)} {K : Fr → List Chunk → Prop}
theorem TO_makeV {P : Program} {t : TypeId} (hd : dOk n dst = true) (h : ∀ g, K (frPut dst (.map (some g)) fr) (.ob g (MapO fun _ => 0) :: H)) : TO P w0 B n ⟨dst, .makeMap t none, ty, pos, aft, gd⟩ K fr H := by
  intro HX a w Q hf hr
  have hrun : (Instr.makeMap t none).run P w = .ok (.map (some w.heap.size)) (w.alloc (.map #[] 0)) := rfl
  simp only [Oper.wp, execOp, Option.map_none, Sem.run_bind, hrun, Result.andThen_ok, Sem.run_pure, Oper.upon]
  exact ⟨_, _, h w.heap.size, hf.put hd _, hr.newOb (I := MapO fun _ => 0) _ ⟨#[], 0, rfl, ⟨by simp, fun _ _ _ => rfl, by simp⟩⟩⟩
theorem TO_upV {mo xo vo : Operand} {g x : Nat} {v : Int} {cnt : Nat → Int} (i : Nat) (hi : H[i]? = some (.ob g (MapO cnt))) (hx : x ≤ 1000) (hd : dOk n dst = true)
    (hm : ev fr mo = some (.map (some g))) (hk : ev fr xo = some (.int .i64 (x : Int))) (hv : ev fr vo = some (.int .i64 v)) (h : K (frPut dst undef fr) (H.set i (.ob g (MapO (setN cnt x v))))) : TO Try.prog w0 B n ⟨dst, .mapUpdate 35 mo xo vo, ty, pos, aft, gd⟩ K fr H := by
  intro HX a w Q hf hr
  obtain ⟨o, hb, es, clock, rfl, hV⟩ := ob_at hi hr
  obtain ⟨es', clock', hrun, hV'⟩ := mapV_up hb hV hx v
  obtain ⟨g1, g2, g3⟩ := grownBy_setBlock (o' := .map es' clock') hb
  simp only [Oper.wp, execOp, hf.ev hm, hf.ev hk, hf.ev hv]
  rw [Sem.run_bind, hrun]
  simp only [Result.andThen_ok, Sem.run_pure, Oper.upon]
  exact ⟨_, _, h, hf.put hd _, hr.turnOb i hi g1 g2 ⟨_, g3, es', clock', rfl, hV'⟩⟩
theorem PV_lookV {mo xo : Operand} {g x : Nat} {cnt : Nat → Int} (i : Nat) (hi : H[i]? = some (.ob g (MapO cnt))) (hx : x ≤ 1000) (hm : ev fr mo = some (.map (some g))) (hk : ev fr xo = some (.int .i64 (x : Int))) : PV Try.prog n (WH w0 B H) fr ⟨dst, .lookup 35 mo xo false, ty, pos, aft, gd⟩ (.int .i64 (cnt x)) := fun a w hf hw => by
  obtain ⟨HX, hr⟩ := hw
  obtain ⟨o, hb, es, clock, rfl, hV⟩ := ob_at hi hr
  have hz' : (zeroValue 3).run Try.prog w = .ok (.int .i64 0) w := by
    obtain ⟨i, hi, hz⟩ := Option.map_eq_some_iff.1 zr3
    simp [zeroValue, typeInfo, hi, hz]
  have hkey := kN.key (okN (x := x) (by omega))
  have hK := kN.law
  have hc : ∀ em, (Instr.checkKey em 10000 3 (.int .i64 (x : Int))).run Try.prog w = .ok () w := fun em => hK.check w em hkey
  have hrun : (Instr.lookup 35 (.map (some g)) (.int .i64 (x : Int)) false).run Try.prog w = .ok (.int .i64 (cnt x)) w := by
    rcases hK.find w hkey es.toList (mapV_keys hV) with ⟨h1, h2⟩ | ⟨j, e0, h1, h2, h3⟩
    · have h1' : (Instr.findKey 3 (.int .i64 (x : Int)) es.toList).run Try.prog w = .ok none w := h1
      rw [hV.miss x hx h2]
      simp [Instr.lookup, run_underlying Try.underlying35, MapKept.run_getObj_map hb, hc, h1', hz', Result.andThen]
    · have h1' : (Instr.findKey 3 (.int .i64 (x : Int)) es.toList).run Try.prog w = .ok (some (j, e0.val)) w := h1
      obtain ⟨a, ha, e1, e2⟩ := hV.ent e0 (List.mem_of_getElem? h2)
      have e : a = x := int_inj (e1.symm.trans h3)
      subst e
      rw [← e2]
      simp [Instr.lookup, run_underlying Try.underlying35, MapKept.run_getObj_map hb, hc, h1', Result.andThen]
  simp only [execOp, hf.ev hm, hf.ev hk]
  rw [Sem.run_bind, hrun]
  simp only [Result.andThen_ok, Sem.run_pure]
end
end Go.Proofs.Ytpfcpookdocikaa.SL
