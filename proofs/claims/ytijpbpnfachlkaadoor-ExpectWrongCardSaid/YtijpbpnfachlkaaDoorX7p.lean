import Derived.Test.YtijpbpnfachlkaaDoorP8
/- Where a text that is no pattern is wrong lies within it: plain Lean. No statement is proved here. -/
set_option linter.unusedVariables false
set_option linter.unusedSimpArgs false
namespace Go.Proofs.YtijpbpnfachlkaaDoor.SL
open Go Go.RowKit
/-- a place within the text -/
def Fin' (s : List Int) (i : Nat) {α : Type} : Res α → Prop
  | .ok _ j => i ≤ j ∧ j ≤ s.length
  | .bad p _ => p ≤ s.length
theorem pPlain_bad {s : List Int} {i p j : Nat} (h : pPlain s i = .bad p j) : p = i := by
  unfold pPlain at h
  split at h
  · split at h
    · split at h
      · cases h; rfl
      · cases h
    · cases h
  · cases h; rfl
theorem pClass_fin {s : List Int} {i : Nat} (hi : i < s.length) : Fin' s i (pClass s i) := by
  cases hp : pClass s i with
  | ok t j =>
    have := pClass_lt hp
    exact ⟨by omega, this.2⟩
  | bad p j =>
    unfold pClass at hp
    split at hp
    · rename_i hq
      cases hp
      have := pClassL_from hq
      show p ≤ _
      omega
    · cases hp
theorem pOne_fin {s : List Int} {pE : Nat → Res Rx} {top : Bool} (hE : ∀ i, i ≤ s.length → Fin' s i (pE i)) {i : Nat} (hi : i < s.length) : Fin' s i (pOne pE top s i) := by
  unfold pOne
  split
  · split
    · exact Nat.le_of_lt hi
    · have h := hE (i + 1) (by omega)
      cases hp : pE (i + 1) with
      | bad p e => rw [hp] at h; exact h
      | ok t j =>
        rw [hp] at h
        obtain ⟨h1, h2⟩ := h
        show Fin' s i (if isB s j 41 = true then .ok t (j + 1) else .bad j j)
        split
        · rename_i h41
          have := (isB_lt h41).1
          exact ⟨by omega, by omega⟩
        · exact h2
  · split
    · exact pClass_fin hi
    · split
      · exact ⟨by omega, by omega⟩
      · split
        · exact Nat.le_of_lt hi
        · cases hp : pPlain s i with
          | bad p e =>
            have := pPlain_bad hp
            show p ≤ _
            omega
          | ok c j =>
            have := pPlain_lt hp
            exact ⟨by omega, this.2⟩
theorem pAgain_fin {s : List Int} {pE : Nat → Res Rx} {top : Bool} (hE : ∀ i, i ≤ s.length → Fin' s i (pE i)) {i : Nat} (hi : i < s.length) : Fin' s i (pAgain pE top s i) := by
  have h := pOne_fin (top := top) hE hi
  unfold pAgain
  cases hp : pOne pE top s i with
  | bad p e => rw [hp] at h; exact h
  | ok t j =>
    rw [hp] at h
    obtain ⟨h1, h2⟩ := h
    show Fin' s i (if j < s.length then _ else _)
    split
    · split
      · exact ⟨by omega, by omega⟩
      · split
        · exact ⟨by omega, by omega⟩
        · split
          · exact ⟨by omega, by omega⟩
          · exact ⟨h1, h2⟩
    · exact ⟨h1, h2⟩
theorem pThenL_fin {s : List Int} {pE : Nat → Res Rx} {top : Bool} (hE : ∀ i, i ≤ s.length → Fin' s i (pE i)) : ∀ {n i : Nat} {out : Rx} {first : Bool}, i ≤ s.length → Fin' s i (pThenL pE top s n i out first)
  | 0, i, out, first, hi => Nat.zero_le _
  | n + 1, i, out, first, hi => by
    unfold pThenL
    split
    · rename_i hg
      have h := pAgain_fin (top := top) hE (goesOn_lt hg).1
      cases hp : pAgain pE top s i with
      | bad p e => rw [hp] at h; exact h
      | ok t j =>
        rw [hp] at h
        obtain ⟨h1, h2⟩ := h
        have h3 := pThenL_fin (top := top) hE (n := n) (out := if first = true then t else .then_ out t) (first := false) h2
        show Fin' s i (pThenL pE top s n j _ false)
        cases hq : pThenL pE top s n j (if first = true then t else .then_ out t) false with
        | bad p e => rw [hq] at h3; exact h3
        | ok u k => rw [hq] at h3; exact ⟨by have := h3.1; omega, h3.2⟩
    · exact ⟨Nat.le_refl _, hi⟩
theorem pEitherL_fin {s : List Int} {pE : Nat → Res Rx} {top : Bool} (hE : ∀ i, i ≤ s.length → Fin' s i (pE i)) : ∀ {n i : Nat} {x : Rx}, i ≤ s.length → Fin' s i (pEitherL pE top s n i x)
  | 0, i, x, hi => Nat.zero_le _
  | n + 1, i, x, hi => by
    unfold pEitherL
    split
    · rename_i hg
      have hl := (isB_lt hg).1
      have h : Fin' s (i + 1) (pThen pE top s (i + 1)) := pThenL_fin hE (by omega)
      cases hp : pThen pE top s (i + 1) with
      | bad p e => rw [hp] at h; exact h
      | ok y j =>
        rw [hp] at h
        obtain ⟨h1, h2⟩ := h
        have h3 := pEitherL_fin (top := top) hE (n := n) (x := .either x y) h2
        show Fin' s i (pEitherL pE top s n j (.either x y))
        cases hq : pEitherL pE top s n j (.either x y) with
        | bad p e => rw [hq] at h3; exact h3
        | ok u k => rw [hq] at h3; exact ⟨by have := h3.1; omega, h3.2⟩
    · exact ⟨Nat.le_refl _, hi⟩
theorem pEither_fin {s : List Int} {pE : Nat → Res Rx} {top : Bool} (hE : ∀ i, i ≤ s.length → Fin' s i (pE i)) {i : Nat} (hi : i ≤ s.length) : Fin' s i (pEither pE top s i) := by
  have h : Fin' s i (pThen pE top s i) := pThenL_fin hE hi
  unfold pEither
  cases hp : pThen pE top s i with
  | bad p e => rw [hp] at h; exact h
  | ok x j =>
    rw [hp] at h
    obtain ⟨h1, h2⟩ := h
    have h3 := pEitherL_fin (top := top) hE (n := s.length + 1) (x := x) h2
    show Fin' s i (pEitherL pE top s (s.length + 1) j x)
    cases hq : pEitherL pE top s (s.length + 1) j x with
    | bad p e => rw [hq] at h3; exact h3
    | ok u k => rw [hq] at h3; exact ⟨by have := h3.1; omega, h3.2⟩
theorem pE_fin (s : List Int) : ∀ (k i : Nat), i ≤ s.length → Fin' s i (pE s k i)
  | 0, i, hi => pEither_fin (pE := fun _ => .bad 0 0) (fun i _ => Nat.zero_le _) hi
  | k + 1, i, hi => pEither_fin (fun i hi => pE_fin s k i hi) hi
theorem pParse_bad {s : List Int} {p j : Nat} (h : pParse s = .bad p j) : p ≤ s.length := by
  have hf := pE_fin s 6 0 (Nat.zero_le _)
  unfold pParse at h
  cases hp : pE s 6 0 with
  | bad q e => rw [hp] at h hf; cases h; exact hf
  | ok t k =>
    rw [hp] at h hf
    simp only at h
    split at h
    · cases h; exact hf.2
    · cases h
end Go.Proofs.YtijpbpnfachlkaaDoor.SL
