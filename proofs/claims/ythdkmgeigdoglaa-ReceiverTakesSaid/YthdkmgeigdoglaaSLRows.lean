import Derived.Test.YthdkmgeigdoglaaSLNum
import Derived.Deep.Matrix
/- Rows of rows, as they come in. No statement is proved here. -/
set_option linter.unusedVariables false
namespace Go.Proofs.Ythdkmgeigdoglaa.SL
open Go Go.RowKit Go.Proofs.YthdkmgeigdoglaaW.PrintWords H Hand
theorem cell_lt {w : World} {a : Addr} {v : Value} (h : w.cell? a = some v) : a.block < w.heap.size := by
  by_cases hlt : a.block < w.heap.size
  · exact hlt
  · simp [World.cell?, Array.getElem?_eq_none (show w.heap.size ≤ a.block by omega)] at h
theorem add_block (a : Addr) (j : Nat) : (a.add j).block = a.block := by
  unfold Addr.add
  split <;> rfl
theorem shows_cells {w0 : World} {H : List Chunk} {A : Option Addr} {m es : Nat} {ys : List Value} (hl : ys.length = m * es) (h : ∀ j v, ys[j]? = some v → ∃ p, A = some p ∧ w0.cell? (p.add j) = some v) : Shows (WH w0 w0.heap.size H) A m es ys := fun w ⟨HX, hr⟩ => by
  refine ⟨hl, fun j v hj => ?_⟩
  obtain ⟨p, e, hc⟩ := h j v hj
  exact ⟨p, e, hr.old hc (cell_lt hc)⟩
/-- rows as an argument brings them -/
structure RowsAt (w : World) (a : Option Addr) (rows : List Part) : Prop where
  row : ∀ H, Shows (WH w w.heap.size H) a rows.length 1 (rows.map pVal)
  all : ∀ H, ShowsAll (WH w w.heap.size H) rows
  u8 : ∀ p ∈ rows, U8s p.2.2
  max : ∀ p ∈ rows, p.2.2.length ≤ maxLen
theorem open_rows {K : Type} {enc : TypeId × Value → K} {w : World} {base : Nat} {a : Option Addr} {len cap : Nat} {d : DataW K} {ps : List MemPlace} (h : DataW.Trod enc Try.prog w base (fun _ => true) true 68 (.slice a len cap) d ps) : ∃ rows : List Part, rows.length = len ∧ len ≤ cap ∧ RowsAt w a rows := by
  obtain ⟨fuel, hf⟩ := h
  rcases Go.Deep.open_int_rows Try.underlying68 Try.underlying23 Try.underlying5 (by kernel_rfl) (by kernel_rfl) hf with ⟨hcs, _⟩ | ⟨x, l, c, A, L, C, Z, hcs, _, hlc, hm, _, hcell⟩
  · simp [Value.cells] at hcs
    obtain ⟨rfl, rfl, rfl⟩ := hcs
    exact ⟨[], rfl, Nat.le_refl _, ⟨fun H => Shows.nil, fun H p hp => (by cases hp), fun p hp => (by cases hp), fun p hp => (by cases hp)⟩⟩
  · simp [Value.cells] at hcs
    obtain ⟨rfl, rfl, rfl⟩ := hcs
    refine ⟨(List.range len).map fun r => (A r, C r, (Z r).take (L r)), by simp, hlc, ?_⟩
    have hlen : ∀ r, r < len → ((Z r).take (L r)).length = L r := fun r hr => by
      have := hcell r (by omega)
      rw [List.length_take]
      omega
    refine ⟨fun H => ?_, fun H p hp => ?_, fun p hp => ?_, fun p hp => ?_⟩
    · refine shows_cells (by simp) fun j v hj => ?_
      simp only [List.map_map, List.getElem?_map] at hj
      obtain ⟨r, hr, hv⟩ := Option.map_eq_some_iff.1 hj
      obtain ⟨hr1, hr2⟩ := List.getElem?_eq_some_iff.1 hr
      simp only [List.getElem_range] at hr2
      subst hr2
      simp only [List.length_range] at hr1
      refine ⟨x, rfl, ?_⟩
      rw [(hcell j (by omega)).1, ← hv]
      show _ = some (Value.slice (A j) ((Z j).take (L j)).length (C j))
      rw [hlen j hr1]
    · obtain ⟨r, hr, rfl⟩ := List.mem_map.1 hp
      have hr1 := List.mem_range.1 hr
      have hc := hcell r (by omega)
      refine ⟨shows_cells (by simp [nums]) fun j v hj => ?_, by show ((Z r).take (L r)).length ≤ C r; rw [hlen r hr1]; omega⟩
      have hjl : j < ((Z r).take (L r)).length := by
        have := (List.getElem?_eq_some_iff.1 hj).1
        simpa [nums] using this
      rw [hlen r hr1] at hjl
      have hv : v = .int .u8 ((Z r).getD j 0) := by
        simp only [nums, List.getElem?_map] at hj
        obtain ⟨z, hz, rfl⟩ := Option.map_eq_some_iff.1 hj
        rw [List.getElem?_take_of_lt hjl] at hz
        rw [List.getD_eq_getElem?_getD, hz]
        rfl
      cases hA : A r with
      | none => have := hc.2.2.2.2.2.1 hA; omega
      | some a' => exact ⟨a', rfl, by rw [hv]; exact ((hc.2.2.2.2.2.2 a' hA).2 j (by omega))⟩
    · obtain ⟨r, hr, rfl⟩ := List.mem_map.1 hp
      have hr1 := List.mem_range.1 hr
      exact U8s.of_wf (fun z hz => (hcell r (by omega)).2.2.2.2.1 z (List.mem_of_mem_take hz))
    · obtain ⟨r, hr, rfl⟩ := List.mem_map.1 hp
      have hr1 := List.mem_range.1 hr
      have := hcell r (by omega)
      show ((Z r).take (L r)).length ≤ maxLen
      rw [hlen r hr1]
      omega
end Go.Proofs.Ythdkmgeigdoglaa.SL
