import Derived.Deep.DeepAppendWide
import Derived.Test.YtpfcpookdocikaaSLX
/- A slice that grows far. No statement is proved here. -/
set_option linter.unusedVariables false
set_option linter.unusedSimpArgs false
namespace Go.Proofs.Ytpfcpookdocikaa.SL
open Go Go.RowKit
section
variable {P : Program} {w0 : World} {B n : Nat} {fr : Fr} {dst : Option Tmp} {ty : TypeId} {pos : String} {aft : Array Edge} {gd : Option (Nat × Bool)}
theorem TO_appendW {t e : TypeId} {s x : Operand} {es bytes m k c' : Nat} {z : Value} {v : Value} {A : Option Addr} {cs ys : List Value} {K : Fr → List Chunk → Prop} {H : List Chunk} (i : Nat) (hi : H[i]? = some (.sl v es m cs)) (ht : P.underlying t = some (.slice e)) (hz : (P.info? e).map (fun i => (i.zero, i.size, i.bytes)) = some (some z, es, bytes)) (hzs : z.cells.size = es) (hes : 0 < es) (hd : dOk n dst = true)
    (hs : ev fr s = some v) (hx : ev fr x = some (.slice A k c')) (hy : Shows (WH w0 B H) A k es ys) (h1 : ∀ u ∈ ys, u.oneCell' = true) (hb : (m + k + (m + k) / 4 + 192) * bytes ≤ 281474976710656) (hb2 : m + k ≤ 9223372036854775807)
    (h : ∀ A' c', m + k ≤ c' → K (frPut dst (.slice A' (m + k) c') fr) (H.set i (.sl (.slice A' (m + k) c') es (m + k) (cs ++ ys)))) : TO P w0 B n ⟨dst, .call { callee := .builtin .append, args := #[s, x], argTypes := #[t, t] }, ty, pos, aft, gd⟩ K fr H := by
  intro HX a w Q hf hr
  obtain ⟨inf, hinf, hz⟩ := Option.map_eq_some_iff.1 hz
  simp only [Prod.mk.injEq] at hz
  obtain ⟨hz0, hz1, hz2⟩ := hz
  have hl' : i < H.length := (List.getElem?_eq_some_iff.1 hi).1
  have hp : (H ++ HX).Perm (.sl v es m cs :: (H.eraseIdx i ++ HX)) := (perm_pick hi).append_right HX
  have hr1 := hr.perm hp
  have hl : ys.length = k * es := (hy w ⟨HX, hr⟩).1
  have hok := hr1.ok _ List.mem_cons_self
  have hcl : cs.length = m * es := hok.1
  have done : ∀ v' w', (Builtin.append_ #[t, t] ty #[v, .slice A k c']).run P w = .ok v' w' → (∃ A' c', v' = .slice A' (m + k) c' ∧ m + k ≤ c') → Rep w0 B (.sl v' es (m + k) (cs ++ ys) :: (H.eraseIdx i ++ HX)) w' →
      Oper.wp P ⟨dst, .call { callee := .builtin .append, args := #[s, x], argTypes := #[t, t] }, ty, pos, aft, gd⟩ a w (fun a' w' => ∃ fr' H', K fr' H' ∧ FrOk n fr' a' ∧ Rep w0 B (H' ++ HX) w') Q := by
    rintro v' w' hrun ⟨A', c'', rfl, hmk⟩ hr'
    unfold Oper.wp execOp
    simp only [resolve, invoke, builtin, Sem.run_bind, Sem.run_pure, Result.andThen_ok, List.map_toArray, List.map_cons, List.map_nil, hf.ev hs, hf.ev hx, hrun]
    simp only [Oper.upon]
    exact ⟨_, _, h A' c'' hmk, hf.put hd _, hr'.perm ((perm_set _ hl').append_right HX)⟩
  have hlen : (cs ++ ys).length = (m + k) * es := by rw [List.length_append, hcl, hl, Nat.add_mul]
  by_cases hk : k = 0
  · subst hk
    have hy0 : ys = [] := List.eq_nil_of_length_eq_zero (by simpa using hl)
    subst hy0
    refine done v w ?_ (by
      rcases hok.2 with ⟨rfl, rfl⟩ | ⟨g, c, rfl, hmc, ho⟩
      · exact ⟨_, _, rfl, Nat.le_refl _⟩
      · exact ⟨_, _, rfl, hmc⟩) (by simpa using hr1)
    rcases hok.2 with ⟨rfl, rfl⟩ | ⟨g, c, rfl, hmc, ho⟩
    · cases A <;> simp [Builtin.append_, run_underlying ht, sizeOf, typeInfo, hinf, Builtin.lenOf, Builtin.firstCells, loadCells, loadCellsFrom]
    · cases A <;> simp [Builtin.append_, run_underlying ht, sizeOf, typeInfo, hinf, Builtin.lenOf, Builtin.firstCells, hmc, loadCells, loadCellsFrom, storeCells]
  · have hyn : ys ≠ [] := by
      intro e
      subst e
      have : k * es = 0 := by simpa using hl.symm
      rcases Nat.mul_eq_zero.1 this with h' | h' <;> omega
    obtain ⟨p, rfl, hcells⟩ := hy.run hyn ⟨HX, hr⟩
    have mk : ∀ (cap : Nat), m + k ≤ cap → Rep w0 B (.sl (.slice (some ⟨w.heap.size, 0, none⟩) (m + k) cap) es (m + k) (cs ++ ys) :: (H.eraseIdx i ++ HX)) (w.drew.alloc (.cells (cs.toArray ++ ys.toArray ++ Builtin.zeroCells z.cells (cap - (m + k))) e)) := by
      intro cap hcap
      have hr3 : Rep w0 B (H.eraseIdx i ++ HX) w.drew := (hr1.sub (List.sublist_cons_self _ _)).drew
      refine hr3.cons (below_alloc' _ _) ⟨hlen, .inr ⟨_, _, rfl, hcap, ⟨(Builtin.zeroCells z.cells (cap - (m + k))).toList, e, (0, 0), ?_, ?_, .inr rfl⟩⟩⟩ (fun k hk => by cases hk; exact Nat.le_refl _)
      · show (w.drew.alloc _).heap[w.drew.heap.size]? = _
        rw [heap_alloc_new]
        congr 1
        simp
      · rw [hlen, Array.length_toList, size_zeroCells, hzs, ← Nat.add_mul]
        congr 1
        omega
    rcases hok.2 with ⟨rfl, rfl⟩ | ⟨g, c, rfl, hmc, ho⟩
    · have hc0 : cs = [] := List.eq_nil_of_length_eq_zero (by simpa using hcl)
      subst hc0
      have hr2 := run_append_nil (P := P) w t ty e inf z ht hinf hz0 p k c' ys (by rw [hl, hz1]) hcells (by omega) (by omega) (by rw [hz2]; simp only [Nat.zero_add] at hb; exact Nat.le_trans (Nat.mul_le_mul_right _ (by omega)) hb)
      have hm := mk (grownCap w k 0 e) (by rw [Nat.zero_add]; exact grownCap_ge w k 0 e)
      refine done _ _ hr2 ⟨_, _, by rw [Nat.zero_add], by rw [Nat.zero_add]; exact grownCap_ge w k 0 e⟩ ?_
      simpa using hm
    · by_cases hroom : m + k ≤ c
      · have hfit : (cs ++ ys).length ≤ c * es := by rw [hlen]; exact Nat.mul_le_mul_right _ hroom
        -- in place
        have key : ∀ (zs done' : List Value) (w1 : World), ys = done' ++ zs → OwnOk w1 g (c * es) (cs ++ done') → (∀ u ∈ zs, u.oneCell' = true) →
            ∃ w', (storeCells ⟨g, m * es, none⟩ zs done'.length).run P w1 = .ok () w' ∧ OwnOk w' g (c * es) (cs ++ ys) ∧ w'.os = w1.os ∧ w'.tape = w1.tape ∧ w'.output = w1.output ∧ w'.heap.size = w1.heap.size ∧ ∀ k, k ≠ g → w'.heap[k]? = w1.heap[k]? := by
          intro zs
          induction zs with
          | nil =>
            intro done' w1 he ho1 _
            rw [List.append_nil] at he
            subst he
            exact ⟨w1, rfl, ho1, rfl, rfl, rfl, rfl, fun _ _ => rfl⟩
          | cons u zs ih =>
            intro done' w1 he ho1 hu
            have hlt : (cs ++ done').length < c * es := by
              rw [he] at hfit
              simp only [List.length_append, List.length_cons] at hfit ⊢
              omega
            obtain ⟨x0, hx0⟩ := ho1.there hlt
            have hfz := ho1.free hlt
            have hpos : (cs ++ done').length = m * es + done'.length := by rw [List.length_append, hcl]
            rw [hpos] at hx0 hfz
            have ho2 := ho1.push u hlt
            rw [hpos, List.append_assoc] at ho2
            obtain ⟨w', hrun, g1, g2, g3, g4, g5, g6⟩ := ih (done' ++ [u]) _ (by rw [he]; simp) ho2 (fun y hy => hu y (List.mem_cons_of_mem _ hy))
            refine ⟨w', ?_, g1, g2, g3, g4, by rw [g5]; simp [World.setCell], fun k hk => (g6 k hk).trans (Below.heap_setCell _ _ _ _ hk)⟩
            simp only [storeCells, Sem.run_bind, add_plain']
            rw [run_store _ _ _ _ _ (hu u List.mem_cons_self)]
            simp only [hx0, hfz, Bool.false_eq_true, if_false, Result.andThen_ok]
            rw [show done'.length + 1 = (done' ++ [u]).length by simp]
            exact hrun
        obtain ⟨w', hrun, g1, g2, g3, g4, g5, g6⟩ := key ys [] w rfl (by simpa using ho) h1
        have hfc := run_firstCells_some (P := P) w es k p k c' ys hl hcells
        refine done (.slice (some ⟨g, 0, none⟩) (m + k) c) w' ?_ ⟨_, _, rfl, hroom⟩ (hr1.turn rfl rfl ⟨g2, g3, g4, by omega, fun k hk => g6 k (by have := hr1.ge _ List.mem_cons_self g rfl; omega)⟩ (fun k hk _ => g6 k hk) ⟨hlen, .inr ⟨g, c, rfl, hroom, g1⟩⟩)
        have e0 : (⟨g, 0, none⟩ : Addr).add (m * es) = ⟨g, m * es, none⟩ := by rw [add_plain', Nat.zero_add]
        simp only [List.length_nil] at hrun
        simp [Builtin.append_, run_underlying ht, sizeOf, typeInfo, hinf, hz1, Builtin.lenOf, hroom, hfc, e0, hrun]
      · have holds : ∀ j u, cs[j]? = some u → w.cell? ((⟨g, 0, none⟩ : Addr).add j) = some u := fun j u hj => by
          rw [add_plain', Nat.zero_add]
          exact ho.cell hj
        have hr2 := run_append_grow (P := P) w t ty e inf z ht hinf hz0 ⟨g, 0, none⟩ m c cs (by rw [hcl, hz1]) holds p k c' ys (by rw [hl, hz1]) hcells (by omega) (by omega) (growslice_fits_wide (by omega) (by rw [hz2]; exact hb))
        exact done _ _ hr2 ⟨_, _, rfl, grownCap_ge w (m + k) c e⟩ (mk (grownCap w (m + k) c e) (grownCap_ge w (m + k) c e))
end
end Go.Proofs.Ytpfcpookdocikaa.SL
