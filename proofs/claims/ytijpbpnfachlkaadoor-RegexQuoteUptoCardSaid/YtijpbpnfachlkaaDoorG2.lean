import Derived.Test.YtijpbpnfachlkaaDoorP13
import Derived.Test.YtijpbpnfachlkaaDoorG1
/- Where a pattern ends, told by its texts: plain Lean. No statement is proved here. -/
set_option linter.unusedVariables false
set_option linter.unusedSimpArgs false
namespace Go.Proofs.YtijpbpnfachlkaaDoor.SL
open Go Go.RowKit
def sub (s : List Int) (i j : Nat) : List Int := (s.drop i).take (j - i)
theorem sub_len {s : List Int} {i j : Nat} (h : i ≤ j) (hj : j ≤ s.length) : (sub s i j).length = j - i := by
  simp [sub]; omega
theorem sub_nil {s : List Int} {i : Nat} : sub s i i = [] := by simp [sub]
theorem sub_app {s : List Int} {i m j : Nat} (h1 : i ≤ m) (h2 : m ≤ j) : sub s i j = sub s i m ++ sub s m j := by
  unfold sub
  rw [show j - i = (m - i) + (j - m) by omega, List.take_add, List.drop_drop, show i + (m - i) = m by omega]
theorem sub_split {s u v : List Int} {i j : Nat} (h : i ≤ j) (hj : j ≤ s.length) (e : sub s i j = u ++ v) : i + u.length ≤ j ∧ u = sub s i (i + u.length) ∧ v = sub s (i + u.length) j := by
  have hl := congrArg List.length e
  rw [sub_len h hj, List.length_append] at hl
  have h1 : i + u.length ≤ j := by omega
  rw [sub_app (m := i + u.length) (by omega) h1] at e
  have h2 := List.append_inj e (by rw [sub_len (by omega) (by omega)]; omega)
  exact ⟨h1, h2.1.symm, h2.2.symm⟩
theorem sub_one {s : List Int} {k : Nat} (h : k < s.length) : sub s k (k + 1) = [rd s (k : Int)] := by
  unfold sub
  rw [show k + 1 - k = 1 by omega, List.drop_eq_getElem_cons h]
  show [s[k]] = _
  simp [rd, List.getD_eq_getElem?_getD, List.getElem?_eq_getElem h]
theorem sub_zero {s : List Int} {k : Nat} : sub s 0 k = s.take k := by simp [sub]
theorem list_getD_ext {a b : List Bool} (hl : a.length = b.length) (h : ∀ j, a.getD j false = b.getD j false) : a = b := by
  apply List.ext_getElem hl
  intro i h1 h2
  have := h i
  rw [List.getD_eq_getElem?_getD, List.getD_eq_getElem?_getD, List.getElem?_eq_getElem h1, List.getElem?_eq_getElem h2] at this
  simpa using this
theorem many_step {f : List Bool → List Bool} {n : Nat} {o : List Bool} (h : ¬ (joinP (f o) o o.length).2 = true) : (joinP (f o) o o.length).1 = o ∧ ∀ j, j < o.length → (f o).getD j false = true → o.getD j false = true := by
  have hn := joinP_new (f o) o o.length (Nat.le_refl _)
  have h2 : ∀ j, j < o.length → (f o).getD j false = true → o.getD j false = true := fun j hj h1 => by
    cases h3 : o.getD j false with
    | true => rfl
    | false => exact absurd (hn.2 ⟨j, hj, h1, h3⟩) h
  refine ⟨list_getD_ext (joinP_len _ _ _) fun j => ?_, h2⟩
  rw [joinP_get _ _ _ _ (Nat.le_refl _)]
  by_cases hj : j < o.length
  · cases h1 : (f o).getD j false with
    | false => simp
    | true => rw [h2 j hj h1]; rfl
  · rw [decide_eq_false hj, Bool.false_and, Bool.or_false]
theorem many_ge {f : List Bool → List Bool} : ∀ (n : Nat) {o : List Bool} {j : Nat}, o.getD j false = true → (manyL f n o).getD j false = true
  | 0, o, j, h => h
  | n + 1, o, j, h => by
    have h1 : (joinP (f o) o o.length).1.getD j false = true := by rw [joinP_get _ _ _ _ (Nat.le_refl _), h]; rfl
    unfold manyL
    split
    · exact many_ge n h1
    · exact h1
theorem many_closed {f : List Bool → List Bool} {N : Nat} : ∀ (n : Nat) {o : List Bool}, o.length = N → cntF o < n → ∀ {j : Nat}, j < N → (f (manyL f n o)).getD j false = true → (manyL f n o).getD j false = true
  | 0, o, hl, hc, j, hj, h => by omega
  | n + 1, o, hl, hc, j, hj, h => by
    by_cases hf : (joinP (f o) o o.length).2 = true
    · have e : manyL f (n + 1) o = manyL f n (joinP (f o) o o.length).1 := by
        show (if _ then _ else _) = _
        rw [if_pos hf]
      have := (joinP_cnt (f o) o o.length (Nat.le_refl _)).2 hf
      rw [e] at h ⊢
      exact many_closed n (by rw [joinP_len]; exact hl) (by omega) hj h
    · have e : manyL f (n + 1) o = (joinP (f o) o o.length).1 := by
        show (if _ then _ else _) = _
        rw [if_neg hf]
      have hs := many_step (n := n) hf
      rw [e, hs.1] at h ⊢
      exact hs.2 j (by omega) h
theorem many_sub {f : List Bool → List Bool} {N : Nat} {P : Nat → Prop} (hf : ∀ x : List Bool, x.length = N → (∀ j, x.getD j false = true → P j) → ∀ j, j < N → (f x).getD j false = true → P j) : ∀ (n : Nat) {o : List Bool}, o.length = N → (∀ j, o.getD j false = true → P j) → ∀ j, (manyL f n o).getD j false = true → P j
  | 0, o, hl, ho, j, h => ho j h
  | n + 1, o, hl, ho, j, h => by
    have h1 : ∀ j, (joinP (f o) o o.length).1.getD j false = true → P j := fun j h => by
      rw [joinP_get _ _ _ _ (Nat.le_refl _)] at h
      simp only [Bool.or_eq_true, Bool.and_eq_true, decide_eq_true_eq] at h
      rcases h with h | ⟨h2, h⟩
      · exact ho j h
      · exact hf o hl ho j (by omega) h
    unfold manyL at h
    split at h
    · exact many_sub hf n (by rw [joinP_len]; exact hl) h1 j h
    · exact h1 j h
theorem getD_lt {a : List Bool} {j : Nat} (h : a.getD j false = true) : j < a.length := by
  rw [List.getD_eq_getElem?_getD] at h
  by_cases hj : j < a.length
  · exact hj
  · rw [List.getElem?_eq_none (by omega)] at h; simp at h
/-- where a pattern ends -/
theorem ends_lg {s : List Int} : ∀ {t : Rx} {a : List Bool} {j : Nat}, a.length = s.length + 1 → ((endsL s t a).getD j false = true ↔ ∃ i, i ≤ j ∧ j ≤ s.length ∧ a.getD i false = true ∧ Lg t (sub s i j))
  | .nothing, a, j, ha => by
    show a.getD j false = true ↔ _
    constructor
    · intro h
      have := getD_lt h
      exact ⟨j, Nat.le_refl _, by omega, h, by rw [sub_nil]; exact .nothing⟩
    · rintro ⟨i, h1, h2, h3, h4⟩
      have hl := sub_len h1 h2
      cases h4' : sub s i j with
      | nil => rw [h4'] at hl; simp at hl; obtain rfl : i = j := by omega
               exact h3
      | cons x r => rw [h4'] at h4; cases h4
  | .one st, a, j, ha => by
    show (oneL st s a s.length).getD j false = true ↔ _
    unfold oneL
    rw [getD_mapr]
    constructor
    · intro h
      split at h
      · rename_i hj
        rw [if_pos (by omega)] at h
        cases j with
        | zero => simp [oneAt] at h
        | succ k =>
          simp only [oneAt, Bool.and_eq_true] at h
          exact ⟨k, by omega, by omega, h.1, by rw [sub_one (by omega)]; exact .one h.2⟩
      · cases h
    · rintro ⟨i, h1, h2, h3, h4⟩
      have hl := sub_len h1 h2
      generalize hv : sub s i j = v at h4 hl
      cases h4 with
      | one hh =>
        simp at hl
        obtain rfl : j = i + 1 := by omega
        rw [sub_one (by omega)] at hv
        cases hv
        rw [if_pos (by omega), if_pos (by omega)]
        simp only [oneAt, Bool.and_eq_true]
        exact ⟨h3, hh⟩
  | .then_ x y, a, j, ha => by
    show (endsL s y (endsL s x a)).getD j false = true ↔ _
    rw [ends_lg (endsL_len ha)]
    constructor
    · rintro ⟨m, h1, h2, h3, h4⟩
      obtain ⟨i, h5, h6, h7, h8⟩ := (ends_lg ha).1 h3
      exact ⟨i, by omega, h2, h7, by rw [sub_app h5 h1]; exact .then_ h8 h4⟩
    · rintro ⟨i, h1, h2, h3, h4⟩
      generalize hv : sub s i j = v at h4
      cases h4 with
      | then_ hu hw =>
        obtain ⟨h5, h6, h7⟩ := sub_split h1 h2 hv
        exact ⟨_, h5, h2, (ends_lg ha).2 ⟨i, by omega, by omega, h3, h6 ▸ hu⟩, h7 ▸ hw⟩
  | .either x y, a, j, ha => by
    show (orL _ _ _ _).getD j false = true ↔ _
    unfold orL
    rw [getD_mapr]
    have h1 := ends_lg (t := x) (j := j) ha
    have h2 := ends_lg (t := y) (j := j) ha
    constructor
    · intro h
      split at h
      · rename_i hj
        simp only [hj, if_true, Bool.or_eq_true] at h
        rcases h with h | h
        · obtain ⟨i, h3, h4, h5, h6⟩ := h1.1 h
          exact ⟨i, h3, h4, h5, .left h6⟩
        · obtain ⟨i, h3, h4, h5, h6⟩ := h2.1 h
          exact ⟨i, h3, h4, h5, .right h6⟩
      · cases h
    · rintro ⟨i, h3, h4, h5, h6⟩
      rw [if_pos (by omega), if_pos (by omega)]
      simp only [Bool.or_eq_true]
      cases h6 with
      | left h6 => exact .inl (h1.2 ⟨i, h3, h4, h5, h6⟩)
      | right h6 => exact .inr (h2.2 ⟨i, h3, h4, h5, h6⟩)
  | .star x, a, j, ha => by
    show (manyL (endsL s x) (s.length + 2) a).getD j false = true ↔ _
    have hc := cntF_le a
    constructor
    · refine many_sub (N := s.length + 1) (P := fun j => ∃ i, i ≤ j ∧ j ≤ s.length ∧ a.getD i false = true ∧ Lg (.star x) (sub s i j)) ?_ _ ha ?_ j
      · intro o ho hP j hj h
        obtain ⟨m, h1, h2, h3, h4⟩ := (ends_lg ho).1 h
        obtain ⟨i, h5, h6, h7, h8⟩ := hP m h3
        exact ⟨i, by omega, h2, h7, by rw [sub_app h5 h1]; exact h8.starApp rfl h4⟩
      · intro j h
        have := getD_lt h
        exact ⟨j, Nat.le_refl _, by omega, h, by rw [sub_nil]; exact .zero⟩
    · rintro ⟨i, h1, h2, h3, h4⟩
      have hR : ∀ {R : List Bool}, R.length = s.length + 1 → (∀ {j : Nat}, j < s.length + 1 → (endsL s x R).getD j false = true → R.getD j false = true) → ∀ {t : Rx} {v : List Int}, Lg t v → t = .star x → ∀ i, i ≤ j → sub s i j = v → R.getD i false = true → R.getD j false = true := by
        intro R hl hcl t v hv
        induction hv with
        | nothing => intro h; cases h
        | one _ => intro h; cases h
        | then_ _ _ _ _ => intro h; cases h
        | left _ _ => intro h; cases h
        | right _ _ => intro h; cases h
        | zero =>
          intro _ i hi hs hr
          have := sub_len hi h2
          rw [hs] at this
          simp at this
          obtain rfl : i = j := by omega
          exact hr
        | @more a' p q hp hx hq _ ih =>
          intro ht i hi hs hr
          cases ht
          obtain ⟨h5, h6, h7⟩ := sub_split hi h2 hs
          refine ih rfl (i + p.length) h5 h7.symm (hcl (by omega) ?_)
          exact (ends_lg hl).2 ⟨i, by omega, by omega, hr, h6 ▸ hx⟩
      exact hR (by rw [manyL_len]; exact ha) (fun hj h => many_closed (N := s.length + 1) _ ha (by omega) hj h) h4 rfl i h1 rfl (many_ge _ h3)
/-- the first one -/
theorem firstT_iff {l : List Bool} : ∀ {q i k : Nat}, firstT l q i = some k ↔ i ≤ k ∧ k < i + q ∧ l.getD k false = true ∧ ∀ m, i ≤ m → m < k → l.getD m false = false
  | 0, i, k => by simp [firstT]; omega
  | q + 1, i, k => by
    unfold firstT
    by_cases h : l.getD i false = true
    · rw [if_pos h]
      constructor
      · intro e; cases e
        exact ⟨Nat.le_refl _, by omega, h, fun m h1 h2 => by omega⟩
      · rintro ⟨h1, h2, h3, h4⟩
        rcases Nat.lt_or_ge i k with hik | hik
        · rw [h4 i (Nat.le_refl _) hik] at h; cases h
        · rw [show i = k by omega]
    · rw [if_neg h, firstT_iff (q := q)]
      constructor
      · rintro ⟨h1, h2, h3, h4⟩
        refine ⟨by omega, by omega, h3, fun m h5 h6 => ?_⟩
        rcases Nat.lt_or_ge i m with him | him
        · exact h4 m (by omega) h6
        · rw [show m = i by omega]; simpa using h
      · rintro ⟨h1, h2, h3, h4⟩
        have : i ≠ k := fun e => h (e ▸ h3)
        exact ⟨by omega, by omega, h3, fun m h5 h6 => h4 m (by omega) h6⟩
theorem firstT_none {l : List Bool} : ∀ {q i : Nat}, firstT l q i = none ↔ ∀ m, i ≤ m → m < i + q → l.getD m false = false
  | 0, i => by simp [firstT]; omega
  | q + 1, i => by
    unfold firstT
    by_cases h : l.getD i false = true
    · rw [if_pos h]
      constructor
      · intro e; cases e
      · intro e; rw [e i (Nat.le_refl _) (by omega)] at h; cases h
    · rw [if_neg h, firstT_none (q := q)]
      constructor
      · intro e m h1 h2
        rcases Nat.lt_or_ge i m with him | him
        · exact e m (by omega) (by omega)
        · rw [show m = i by omega]; simpa using h
      · intro e m h1 h2
        exact e m (by omega) (by omega)
theorem upto_get {n j : Nat} : (upto n n).getD j false = decide (j < n) := by
  unfold upto
  rw [getD_mapr]
  split
  · rename_i h; rw [decide_eq_true h]
  · rename_i h; rw [decide_eq_false h]
theorem startL_get {f n j : Nat} (h : f < n) : (startL f n).getD j false = decide (j = f) := by
  unfold startL
  rw [List.getD_eq_getElem?_getD, List.getElem?_set]
  by_cases hj : f = j
  · subst hj; simp [h]
  · rw [if_neg hj, decide_eq_false (fun e => hj e.symm), List.getElem?_replicate]
    split <;> rfl
/-- from one place -/
theorem ends_start {s : List Int} {t : Rx} {f j : Nat} (hf : f ≤ s.length) : (endsL s t (startL f (s.length + 1))).getD j false = true ↔ f ≤ j ∧ j ≤ s.length ∧ Lg t (sub s f j) := by
  rw [ends_lg (startL_len _ _)]
  constructor
  · rintro ⟨i, h1, h2, h3, h4⟩
    rw [startL_get (by omega), decide_eq_true_eq] at h3
    subst h3
    exact ⟨h1, h2, h4⟩
  · rintro ⟨h1, h2, h3⟩
    exact ⟨f, h1, h2, by rw [startL_get (by omega)]; simp, h3⟩
/-- from anywhere -/
theorem ends_any {s : List Int} {t : Rx} {j : Nat} : (endsL s t (upto (s.length + 1) (s.length + 1))).getD j false = true ↔ ∃ i, i ≤ j ∧ j ≤ s.length ∧ Lg t (sub s i j) := by
  rw [ends_lg (upto_len _ _)]
  constructor
  · rintro ⟨i, h1, h2, _, h4⟩; exact ⟨i, h1, h2, h4⟩
  · rintro ⟨i, h1, h2, h4⟩; exact ⟨i, h1, h2, by rw [upto_get, decide_eq_true_eq]; omega, h4⟩
theorem idxT_get (l : List Bool) : ∀ (n : Nat), idxT l n = ((List.range n).filter fun k => l.getD k false).map fun k : Nat => (k : Int)
  | 0 => rfl
  | n + 1 => by
    unfold idxT
    rw [List.range_succ, List.filter_append, List.map_append, idxT_get l n]
    split
    · rename_i h
      rw [List.filter_cons_of_pos (by simpa using h)]
      simp
    · rename_i h
      rw [List.filter_cons_of_neg (by simpa using h)]
      simp
end Go.Proofs.YtijpbpnfachlkaaDoor.SL
