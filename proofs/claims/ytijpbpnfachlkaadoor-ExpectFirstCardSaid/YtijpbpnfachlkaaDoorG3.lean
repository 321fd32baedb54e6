import Derived.Test.YtijpbpnfachlkaaDoorG2
import Derived.Test.YtijpbpnfachlkaaDoorQ2
/- A pattern that is waited for, byte by byte: plain Lean. No statement is proved here. -/
set_option linter.unusedVariables false
set_option linter.unusedSimpArgs false
namespace Go.Proofs.YtijpbpnfachlkaaDoor.SL
open Go Go.RowKit
/-- the places behind k bytes, where the pattern may begin at each -/
def seqL (t : Rx) (u : List Int) : Nat → List Bool
  | 0 => []
  | k + 1 => stepL t (seqL t u k) (rd u (k : Int)).toNat true
theorem seqL_len_le (t : Rx) (u : List Int) : ∀ k, (seqL t u k).length ≤ pl t
  | 0 => Nat.zero_le _
  | k + 1 => Nat.le_of_eq (stepL_len _ _ _ _)
theorem sub_snoc {u : List Int} {i k : Nat} (hi : i ≤ k) (hk : k < u.length) : sub u i (k + 1) = sub u i k ++ [rd u (k : Int)] := by
  rw [sub_app (m := k) hi (by omega), sub_one hk]
theorem seq_get {t : Rx} {u : List Int} : ∀ {k : Nat} {j : Nat}, k < u.length → ((seqL t u (k + 1)).getD j false = true ↔ ∃ i, i ≤ k ∧ RchP t 0 (sub u i (k + 1)) j)
  | k, j, hk => by
    show (stepL t (seqL t u k) (rd u (k : Int)).toNat true).getD j false = true ↔ _
    rw [stepL_get]
    unfold stepAt
    simp only [Bool.and_eq_true, Bool.or_eq_true, anyB_iff, true_and]
    constructor
    · rintro ⟨h1, h2 | ⟨q, h2, h3, h4⟩⟩
      · exact ⟨k, Nat.le_refl _, by rw [sub_one hk]; exact rch_one.2 ⟨h2, h1⟩⟩
      · match k, hk, h1, h2, h3 with
        | 0, hk, h1, h2, h3 => simp [seqL] at h2
        | k + 1, hk, h1, h2, h3 =>
          obtain ⟨i, hi, hr⟩ := (seq_get (k := k) (j := q) (by omega)).1 h3
          refine ⟨i, by omega, ?_⟩
          rw [sub_snoc (by omega) hk]
          exact (rch_snoc hr.ne).2 ⟨q, hr, h4, h1⟩
    · rintro ⟨i, hi, hr⟩
      rcases Nat.lt_or_ge i k with h | h
      · have hne : sub u i k ≠ [] := by
          intro e
          have := sub_len (s := u) (i := i) (j := k) (by omega) (by omega)
          rw [e] at this
          simp at this
          omega
        rw [sub_snoc (by omega) hk] at hr
        obtain ⟨q, h1, h2, h3⟩ := (rch_snoc hne).1 hr
        refine ⟨h3, .inr ⟨q, ?_, ?_, h2⟩⟩
        · match k, hk, h, h1 with
          | k + 1, hk, h, h1 =>
            have := RchP.rng h1
            show q < (stepL _ _ _ _).length
            rw [stepL_len]
            omega
        · match k, hk, h, h1 with
          | k + 1, hk, h, h1 => exact (seq_get (k := k) (j := q) (by omega)).2 ⟨i, by omega, h1⟩
      · obtain rfl : i = k := by omega
        rw [sub_one hk] at hr
        have := rch_one.1 hr
        exact ⟨this.2, .inl this.1⟩
theorem seq_ends {t : Rx} {u : List Int} {k : Nat} (hk : k < u.length) : endsT t (seqL t u (k + 1)) = true ↔ ∃ i, i ≤ k ∧ Lg t (sub u i (k + 1)) := by
  rw [endsT_iff]
  have hne : ∀ i, i ≤ k → sub u i (k + 1) ≠ [] := fun i hi e => by
    have := sub_len (s := u) (i := i) (j := k + 1) (by omega) (by omega)
    rw [e] at this
    simp at this
    omega
  constructor
  · rintro ⟨j, h1, h2⟩
    obtain ⟨i, hi, hr⟩ := (seq_get hk).1 h1
    exact ⟨i, hi, (lg_iff 0 (hne i hi)).2 ⟨j, hr, h2⟩⟩
  · rintro ⟨i, hi, h⟩
    obtain ⟨j, hr, h2⟩ := (lg_iff 0 (hne i hi)).1 h
    exact ⟨j, (seq_get hk).2 ⟨i, hi, hr⟩, h2⟩
/-- a quoted text ends where it stands -/
theorem seq_quoted {s u : List Int} (hs : U8s s) (hu : U8s u) (h0 : 1 ≤ s.length) {k : Nat} (hk : k < u.length) : endsT (chainT s) (seqL (chainT s) u (k + 1)) = true ↔ s.length ≤ k + 1 ∧ sub u (k + 1 - s.length) (k + 1) = s := by
  have hU : ∀ i j, U8s (sub u i j) := fun i j x hx => hu x (List.mem_of_mem_drop (List.mem_of_mem_take hx))
  rw [seq_ends hk]
  constructor
  · rintro ⟨i, hi, h⟩
    have e := (lg_chain hs (hU _ _)).1 h
    have hl := sub_len (s := u) (i := i) (j := k + 1) (by omega) (by omega)
    rw [e] at hl
    refine ⟨by omega, ?_⟩
    rw [show k + 1 - s.length = i by omega]
    exact e
  · rintro ⟨h1, h2⟩
    exact ⟨k + 1 - s.length, by omega, (lg_chain hs (hU _ _)).2 h2⟩
end Go.Proofs.YtijpbpnfachlkaaDoor.SL
