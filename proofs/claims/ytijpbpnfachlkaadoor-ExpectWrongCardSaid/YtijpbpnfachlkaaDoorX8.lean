import Derived.Test.YtijpbpnfachlkaaDoorX7p
import Derived.Test.YtijpbpnfachlkaaDoorN3
/- How large a pattern may be that is read of a text: plain Lean. No statement is proved here. -/
set_option linter.unusedVariables false
set_option linter.unusedSimpArgs false
namespace Go.Proofs.YtijpbpnfachlkaaDoor.SL
open Go Go.RowKit
/-- so many places, and so many pairs, at most -/
def Sized (F C : Nat) (d : Nat) (t : Rx) : Prop := pl t ≤ F * d ∧ nx t ≤ C * (pl t * pl t)
theorem sq_add (a b : Nat) : (a + b) * (a + b) = a * a + b * b + 2 * (a * b) := by
  rw [Nat.add_mul, Nat.mul_add, Nat.mul_add, Nat.mul_comm b a]
  omega
theorem nx_two {C p q x y : Nat} (hC : 1 ≤ C) (hx : x ≤ C * (p * p)) (hy : y ≤ C * (q * q)) : x + y + p * q ≤ C * ((p + q) * (p + q)) := by
  rw [sq_add, Nat.mul_add, Nat.mul_add]
  have : 1 * (2 * (p * q)) ≤ C * (2 * (p * q)) := Nat.mul_le_mul_right _ hC
  omega
theorem nx_sum {C p q x y : Nat} (hx : x ≤ C * (p * p)) (hy : y ≤ C * (q * q)) : x + y ≤ C * ((p + q) * (p + q)) := by
  rw [sq_add, Nat.mul_add, Nat.mul_add]
  omega
theorem Sized.then_ {F C d e : Nat} {a b : Rx} (hC : 1 ≤ C) (ha : Sized F C d a) (hb : Sized F C e b) : Sized F C (d + e) (.then_ a b) :=
  ⟨by show pl a + pl b ≤ _; rw [Nat.mul_add]; have := ha.1; have := hb.1; omega, nx_two hC ha.2 hb.2⟩
theorem Sized.either {F C d e : Nat} {a b : Rx} (ha : Sized F C d a) (hb : Sized F C e b) : Sized F C (d + e) (.either a b) :=
  ⟨by show pl a + pl b ≤ _; rw [Nat.mul_add]; have := ha.1; have := hb.1; omega, nx_sum ha.2 hb.2⟩
theorem Sized.mono {F F' C C' d d' : Nat} {t : Rx} (h : Sized F C d t) (hF : F ≤ F') (hC : C ≤ C') (hd : d ≤ d') : Sized F' C' d' t :=
  ⟨Nat.le_trans h.1 (Nat.mul_le_mul hF hd), Nat.le_trans h.2 (Nat.mul_le_mul_right _ hC)⟩
theorem Sized.nothing {F C d : Nat} : Sized F C d .nothing := ⟨Nat.zero_le _, Nat.zero_le _⟩
theorem Sized.one {F C d : Nat} (hF : 1 ≤ F) (hd : 1 ≤ d) (st : S4) : Sized F C d (.one st) := ⟨Nat.le_trans (by show 1 ≤ 1 * 1; omega) (Nat.mul_le_mul hF hd), Nat.zero_le _⟩
theorem Sized.star {F C d : Nat} {a : Rx} (h : Sized F C d a) : Sized F (C + 1) d (.star a) := ⟨h.1, by
  show nx a + pl a * pl a ≤ (C + 1) * (pl a * pl a)
  rw [Nat.add_mul, Nat.one_mul]
  have := h.2
  omega⟩
def SzR (F C i : Nat) : Res Rx → Prop
  | .ok t j => Sized F C (j - i) t
  | .bad _ _ => True
theorem pOne_sz {s : List Int} {pE : Nat → Res Rx} {top : Bool} {F C : Nat} (hF : 1 ≤ F) (hE : ∀ i, i ≤ s.length → Fin' s i (pE i)) (hS : ∀ i, i ≤ s.length → SzR F C i (pE i)) {i : Nat} (hi : i < s.length) : SzR F C i (pOne pE top s i) := by
  unfold pOne
  split
  · split
    · trivial
    · have h := hS (i + 1) (by omega)
      have hf := hE (i + 1) (by omega)
      cases hp : pE (i + 1) with
      | bad p e => trivial
      | ok t j =>
        rw [hp] at h hf
        show SzR F C i (if isB s j 41 = true then .ok t (j + 1) else .bad j j)
        split
        · exact Sized.mono (d := j - (i + 1)) h (Nat.le_refl _) (Nat.le_refl _) (by omega)
        · trivial
  · split
    · cases hp : pClass s i with
      | bad p j => trivial
      | ok t j =>
        have hlt := pClass_lt hp
        unfold pClass at hp
        split at hp
        · cases hp
        · cases hp
          exact Sized.one hF (by omega) _
    · split
      · exact Sized.one hF (by omega) _
      · split
        · trivial
        · cases hp : pPlain s i with
          | bad p e => trivial
          | ok c j =>
            have := pPlain_lt hp
            exact Sized.one hF (by omega) _
theorem pAgain_sz {s : List Int} {pE : Nat → Res Rx} {top : Bool} {F C : Nat} (hF : 1 ≤ F) (hE : ∀ i, i ≤ s.length → Fin' s i (pE i)) (hS : ∀ i, i ≤ s.length → SzR F C i (pE i)) {i : Nat} (hi : i < s.length) : SzR (2 * F) (C + 1) i (pAgain pE top s i) := by
  have h := pOne_sz (top := top) hF hE hS hi
  have hf := pOne_fin (top := top) hE hi
  unfold pAgain
  cases hp : pOne pE top s i with
  | bad p e => trivial
  | ok t j =>
    rw [hp] at h hf
    have h' : Sized F C (j - i) t := h
    have hij : i ≤ j := hf.1
    have hup : ∀ {d}, j - i ≤ d → Sized (2 * F) (C + 1) d t := fun hd => h'.mono (by omega) (by omega) hd
    show SzR (2 * F) (C + 1) i (if j < s.length then _ else _)
    split
    · split
      · exact h'.star.mono (by omega) (by omega) (by omega)
      · split
        · refine ⟨?_, ?_⟩
          · show pl t + pl t ≤ 2 * F * (j + 1 - i)
            have h1 := h'.1
            have : F * (j - i) ≤ F * (j + 1 - i) := Nat.mul_le_mul_left _ (by omega)
            rw [Nat.mul_assoc]
            omega
          · show nx t + (nx t + pl t * pl t) + pl t * pl t ≤ (C + 1) * ((pl t + pl t) * (pl t + pl t))
            have h2 := h'.2
            rw [sq_add, Nat.add_mul, Nat.one_mul, Nat.mul_add, Nat.mul_add]
            omega
        · split
          · refine Sized.mono (h'.either (Sized.nothing (d := 0))) (by omega) (by omega) (by omega)
          · exact hup (Nat.le_refl _)
    · exact hup (Nat.le_refl _)
theorem pThenL_sz {s : List Int} {pE : Nat → Res Rx} {top : Bool} {F C : Nat} (hF : 1 ≤ F) (hE : ∀ i, i ≤ s.length → Fin' s i (pE i)) (hS : ∀ i, i ≤ s.length → SzR F C i (pE i)) : ∀ {n i i0 : Nat} {out : Rx} {first : Bool}, i0 ≤ i → i ≤ s.length → Sized (2 * F) (C + 1) (i - i0) out → SzR (2 * F) (C + 1) i0 (pThenL pE top s n i out first)
  | 0, i, i0, out, first, h0, hi, ho => trivial
  | n + 1, i, i0, out, first, h0, hi, ho => by
    unfold pThenL
    split
    · rename_i hg
      have h := pAgain_sz (top := top) hF hE hS (goesOn_lt hg).1
      have hf := pAgain_fin (top := top) hE (goesOn_lt hg).1
      cases hp : pAgain pE top s i with
      | bad p e => trivial
      | ok t j =>
        rw [hp] at h hf
        have hij : i ≤ j := hf.1
        have hjl : j ≤ s.length := hf.2
        have h' : Sized (2 * F) (C + 1) (j - i) t := h
        refine pThenL_sz hF hE hS (by omega) hjl ?_
        split
        · exact h'.mono (Nat.le_refl _) (Nat.le_refl _) (by omega)
        · exact (ho.then_ (by omega) h').mono (Nat.le_refl _) (Nat.le_refl _) (by omega)
    · exact ho
theorem pEitherL_sz {s : List Int} {pE : Nat → Res Rx} {top : Bool} {F C : Nat} (hF : 1 ≤ F) (hE : ∀ i, i ≤ s.length → Fin' s i (pE i)) (hS : ∀ i, i ≤ s.length → SzR F C i (pE i)) : ∀ {n i i0 : Nat} {x : Rx}, i0 ≤ i → i ≤ s.length → Sized (2 * F) (C + 1) (i - i0) x → SzR (2 * F) (C + 1) i0 (pEitherL pE top s n i x)
  | 0, i, i0, x, h0, hi, hx => trivial
  | n + 1, i, i0, x, h0, hi, hx => by
    unfold pEitherL
    split
    · rename_i hg
      have hl := (isB_lt hg).1
      have h : SzR (2 * F) (C + 1) (i + 1) (pThen pE top s (i + 1)) := pThenL_sz hF hE hS (Nat.le_refl _) (by omega) Sized.nothing
      have hf : Fin' s (i + 1) (pThen pE top s (i + 1)) := pThenL_fin hE (by omega)
      cases hp : pThen pE top s (i + 1) with
      | bad p e => trivial
      | ok y j =>
        rw [hp] at h hf
        have hij : i + 1 ≤ j := hf.1
        have hjl : j ≤ s.length := hf.2
        have h' : Sized (2 * F) (C + 1) (j - (i + 1)) y := h
        exact pEitherL_sz hF hE hS (by omega) hjl ((hx.either h').mono (Nat.le_refl _) (Nat.le_refl _) (by omega))
    · exact hx
theorem pEither_sz {s : List Int} {pE : Nat → Res Rx} {top : Bool} {F C : Nat} (hF : 1 ≤ F) (hE : ∀ i, i ≤ s.length → Fin' s i (pE i)) (hS : ∀ i, i ≤ s.length → SzR F C i (pE i)) {i : Nat} (hi : i ≤ s.length) : SzR (2 * F) (C + 1) i (pEither pE top s i) := by
  have h : SzR (2 * F) (C + 1) i (pThen pE top s i) := pThenL_sz hF hE hS (Nat.le_refl _) hi Sized.nothing
  have hf : Fin' s i (pThen pE top s i) := pThenL_fin hE hi
  unfold pEither
  cases hp : pThen pE top s i with
  | bad p e => trivial
  | ok x j =>
    rw [hp] at h hf
    exact pEitherL_sz hF hE hS hf.1 hf.2 h
theorem pE_sz (s : List Int) : ∀ (k i : Nat), i ≤ s.length → SzR (2 ^ (k + 1)) (k + 1) i (pE s k i)
  | 0, i, hi => pEither_sz (pE := fun _ => .bad 0 0) (F := 1) (C := 0) (by omega) (fun i _ => Nat.zero_le _) (fun i _ => trivial) hi
  | k + 1, i, hi => by
    have h := pEither_sz (top := false) (pE := pE s k) (F := 2 ^ (k + 1)) (C := k + 1) Nat.one_le_two_pow (fun i hi => pE_fin s k i hi) (fun i hi => pE_sz s k i hi) hi
    rw [show 2 * 2 ^ (k + 1) = 2 ^ (k + 1 + 1) by rw [Nat.pow_succ 2 (k + 1), Nat.mul_comm]] at h
    exact h
theorem parse_sz {s : List Int} {t : Rx} {j : Nat} (hs : s.length ≤ 64) (h : pParse s = .ok t j) : pl t ≤ 8192 ∧ nx t ≤ 469762048 := by
  have hz := pE_sz s 6 0 (Nat.zero_le _)
  have hf := pE_fin s 6 0 (Nat.zero_le _)
  unfold pParse at h
  cases hp : pE s 6 0 with
  | bad q e => rw [hp] at h; cases h
  | ok u k =>
    rw [hp] at h hz hf
    simp only at h
    split at h
    · cases h
    · cases h
      obtain ⟨h1, h2⟩ := hz
      have hk : j ≤ s.length := hf.2
      have h3 : pl t ≤ 8192 := Nat.le_trans h1 (Nat.le_trans (Nat.mul_le_mul_left _ (show j - 0 ≤ 64 by omega)) (by decide))
      exact ⟨h3, Nat.le_trans h2 (Nat.le_trans (Nat.mul_le_mul_left _ (Nat.mul_le_mul h3 h3)) (by decide))⟩
end Go.Proofs.YtijpbpnfachlkaaDoor.SL
