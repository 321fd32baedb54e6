import Derived.Deep.Strs
import Derived.Test.YtijpbpnfachlkaaDoorX10
/- A slice of texts, as a row hands it. No statement is proved here. -/
set_option linter.unusedVariables false
namespace Go.Proofs.YtijpbpnfachlkaaDoor.SL
open Go Go.RowKit
def ReadsS (w : World) (A : Option Addr) (qs : List (List Int)) : Prop := 0 < qs.length → ∃ ad, A = some ad ∧ ∀ j, j < qs.length → w.cell? (ad.add j) = some (.string (strOfNums (qs.getD j [])))
open Go.ChangeShapes Go.WideShapes Go.Deep in
theorem open_strS {HT : Type} {enc : TypeId × Value → HT} {P : Program} {W : World} {base : Nat} {spare : Nat → Bool} {held : Bool} {t e : TypeId} {a : Option Addr} {len cap : Nat} {d : DataW HT} {ps : List MemPlace}
    (hu : P.underlying t = some (.slice e)) (he : P.underlying e = some .string) (hc : P.cellsOf e = 1)
    (h : DataW.Trod enc P W base spare held t (.slice a len cap) d ps) : ∃ l : List (List Int), len = l.length ∧ ReadsS W a l ∧ l.length ≤ cap ∧ l.length ≤ 9223372036854775807 ∧ (∀ q ∈ l, U8s q) ∧ ∀ q ∈ l, q.length ≤ 9223372036854775807 := by
  obtain ⟨fuel, hf⟩ := h
  rcases open_strs hu he hc hf with ⟨hcs, _⟩ | ⟨x, l, c, m, Sx, hcs, _, hl, hcm, hm, _, hcell⟩
  · simp [Value.cells] at hcs
    obtain ⟨rfl, rfl, rfl⟩ := hcs
    exact ⟨[], rfl, fun h => absurd h (by simp), Nat.le_refl _, by simp, by simp, by simp⟩
  · simp [Value.cells] at hcs
    obtain ⟨rfl, rfl, rfl⟩ := hcs
    have hlm : len ≤ m := by rw [hm]; split <;> omega
    obtain ⟨b, hb⟩ := choose_lt (α := List Int) (p := fun i q => U8s q ∧ strOfNums q = Sx i) (n := len) (fun i hi => str_of (Sx i))
    unfold maxLen at hcm hcell
    refine ⟨(List.range len).map b, by simp, fun _ => ⟨x, rfl, fun j hj => ?_⟩, by simpa using hl, by simp; omega, fun q hq => ?_, fun q hq => ?_⟩
    · simp at hj
      rw [(hcell j (by omega)).1, ← (hb j hj).2]
      simp [List.getD_eq_getElem?_getD, List.getElem?_range hj]
    · obtain ⟨i, hi, rfl⟩ := List.mem_map.1 hq
      exact (hb i (List.mem_range.1 hi)).1
    · obtain ⟨i, hi, rfl⟩ := List.mem_map.1 hq
      have hi := List.mem_range.1 hi
      have h1 := (hcell i (by omega)).2
      have h2 := (hb i hi).2
      rw [← h2, str_len] at h1
      omega
theorem shows_startS {w : World} {H : List Chunk} {A : Option Addr} {l : List (List Int)} (h : ReadsS w A l) : Shows (WH w w.heap.size H) A l.length 1 (strs l) := fun w' ⟨HX, hr⟩ => by
  refine ⟨by simp [strs], fun j v hj => ?_⟩
  have hj' : j < l.length := by have := (List.getElem?_eq_some_iff.1 hj).1; simpa [strs] using this
  obtain ⟨ad, rfl, hc⟩ := h (by omega)
  have h0 := World.block_lt_of_cell? w _ (hc 0 (by omega))
  have h0' : ad.block < w.heap.size := by simpa [Addr.add] using h0
  refine ⟨ad, rfl, hr.old ?_ ?_⟩
  · have := strs_at hj'
    rw [Nat.mul_one] at this
    rw [hc j hj', ← hj, this]
  · have := World.block_lt_of_cell? w _ (hc j hj'); exact this
end Go.Proofs.YtijpbpnfachlkaaDoor.SL
