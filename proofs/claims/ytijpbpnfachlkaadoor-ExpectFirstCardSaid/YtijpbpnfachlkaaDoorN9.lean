import Derived.Test.YtijpbpnfachlkaaDoorN7
/- Where a pattern ends, and what fits. No statement is proved here. -/
set_option linter.unusedVariables false
set_option linter.unusedSimpArgs false
set_option maxRecDepth 100000
set_option maxHeartbeats 8000000
namespace Go.Proofs.YtijpbpnfachlkaaDoor.SL
open Go Go.RowKit
/-- the places from f on that p has, the first k of them -/
def wantL (p : Nat → Bool) (f : Nat) : Nat → List Int
  | 0 => []
  | k + 1 => if p (f + k) = true then wantL p f k ++ [((f + k : Nat) : Int)] else wantL p f k
theorem wantL_le (p : Nat → Bool) (f : Nat) : ∀ k, (wantL p f k).length ≤ k
  | 0 => Nat.le_refl _
  | k + 1 => by
    have := wantL_le p f k
    unfold wantL
    split
    · simp; omega
    · omega
theorem idxT_none {R : List Bool} : ∀ {f : Nat}, (∀ j, j < f → R.getD j false = false) → idxT R f = []
  | 0, _ => rfl
  | f + 1, h => by
    unfold idxT
    rw [if_neg (by rw [h f (by omega)]; decide), idxT_none fun j hj => h j (by omega)]
theorem idxT_want {R : List Bool} {p : Nat → Bool} {f : Nat} (h0 : ∀ j, j < f → R.getD j false = false) : ∀ {k : Nat}, (∀ j, j < k → R.getD (f + j) false = p (f + j)) → idxT R (f + k) = wantL p f k
  | 0, _ => idxT_none h0
  | k + 1, h => by
    show (if R.getD (f + k) false = true then idxT R (f + k) ++ [((f + k : Nat) : Int)] else idxT R (f + k)) = (if p (f + k) = true then wantL p f k ++ [((f + k : Nat) : Int)] else wantL p f k)
    rw [h k (by omega)]
    have ih := idxT_want h0 (k := k) fun j hj => h j (by omega)
    rw [ih]
section
variable {w0 : World} {B : Nat} {H X : List Chunk}
theorem str_sub (s : List Int) (i j : Nat) : (strOfNums s).extract i j = strOfNums (sub s i j) := by
  apply ByteArray.ext
  simp only [ByteArray.data_extract, strOfNums, sub, List.map_take, List.map_drop]
  apply Array.ext'
  simp
theorem sub_mem {s : List Int} {i j : Nat} {x : Int} (h : x ∈ sub s i j) : x ∈ s := List.mem_of_mem_drop (List.mem_of_mem_take h)
theorem ends_fits {s : List Int} {t : Rx} {f j : Nat} (hf : f ≤ s.length) (hj : j ≤ s.length) : (endsL s t (startL f (s.length + 1))).getD j false = (decide (f ≤ j) && fitsT t (sub s f j)) := by
  rw [Bool.eq_iff_iff, ends_start hf, Bool.and_eq_true, decide_eq_true_eq, fitsT_iff]
  exact ⟨fun h => ⟨h.1, h.2.2⟩, fun h => ⟨h.1, hj, h.2⟩⟩
end
end Go.Proofs.YtijpbpnfachlkaaDoor.SL
