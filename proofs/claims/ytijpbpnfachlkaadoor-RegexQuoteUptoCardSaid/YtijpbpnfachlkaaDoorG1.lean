import Derived.Test.YtijpbpnfachlkaaDoorP2
/- The texts of a pattern, and the places of its table: plain Lean. No statement is proved here. -/
set_option linter.unusedVariables false
set_option linter.unusedSimpArgs false
namespace Go.Proofs.YtijpbpnfachlkaaDoor.SL
open Go Go.RowKit
/-- the texts of a pattern -/
inductive Lg : Rx → List Int → Prop
  | nothing : Lg .nothing []
  | one {st : S4} {c : Int} : st.has c.toNat = true → Lg (.one st) [c]
  | then_ {a b : Rx} {s u : List Int} : Lg a s → Lg b u → Lg (.then_ a b) (s ++ u)
  | left {a b : Rx} {s : List Int} : Lg a s → Lg (.either a b) s
  | right {a b : Rx} {s : List Int} : Lg b s → Lg (.either a b) s
  | zero {a : Rx} : Lg (.star a) []
  | more {a : Rx} {s u : List Int} : s ≠ [] → Lg a s → Lg (.star a) u → Lg (.star a) (s ++ u)
/-- how many places a pattern has -/
def pl : Rx → Nat
  | .nothing => 0
  | .one _ => 1
  | .then_ a b => pl a + pl b
  | .either a b => pl a + pl b
  | .star a => pl a
def nul : Rx → Bool
  | .nothing => true
  | .one _ => false
  | .then_ a b => nul a && nul b
  | .either a b => nul a || nul b
  | .star _ => true
def fstP : Rx → Nat → Nat → Bool
  | .nothing, _, _ => false
  | .one _, k, i => decide (i = k)
  | .then_ a b, k, i => fstP a k i || (nul a && fstP b (k + pl a) i)
  | .either a b, k, i => fstP a k i || fstP b (k + pl a) i
  | .star a, k, i => fstP a k i
def lstP : Rx → Nat → Nat → Bool
  | .nothing, _, _ => false
  | .one _, k, i => decide (i = k)
  | .then_ a b, k, i => lstP b (k + pl a) i || (nul b && lstP a k i)
  | .either a b, k, i => lstP a k i || lstP b (k + pl a) i
  | .star a, k, i => lstP a k i
def nxtP : Rx → Nat → Nat → Nat → Bool
  | .nothing, _, _, _ => false
  | .one _, _, _, _ => false
  | .then_ a b, k, i, j => nxtP a k i j || nxtP b (k + pl a) i j || (lstP a k i && fstP b (k + pl a) j)
  | .either a b, k, i, j => nxtP a k i j || nxtP b (k + pl a) i j
  | .star a, k, i, j => nxtP a k i j || (lstP a k i && fstP a k j)
def hasP : Rx → Nat → Nat → Nat → Bool
  | .nothing, _, _, _ => false
  | .one st, k, i, c => decide (i = k) && st.has c
  | .then_ a b, k, i, c => hasP a k i c || hasP b (k + pl a) i c
  | .either a b, k, i, c => hasP a k i c || hasP b (k + pl a) i c
  | .star a, k, i, c => hasP a k i c
theorem fst_rng : ∀ {t : Rx} {k i : Nat}, fstP t k i = true → k ≤ i ∧ i < k + pl t
  | .nothing, k, i, h => by simp [fstP] at h
  | .one _, k, i, h => by simp [fstP] at h; simp [pl]; omega
  | .then_ a b, k, i, h => by
    simp only [fstP, Bool.or_eq_true, Bool.and_eq_true] at h
    simp only [pl]
    rcases h with h | ⟨_, h⟩ <;> (have := fst_rng h; omega)
  | .either a b, k, i, h => by
    simp only [fstP, Bool.or_eq_true] at h
    simp only [pl]
    rcases h with h | h <;> (have := fst_rng h; omega)
  | .star a, k, i, h => fst_rng (t := a) h
theorem lst_rng : ∀ {t : Rx} {k i : Nat}, lstP t k i = true → k ≤ i ∧ i < k + pl t
  | .nothing, k, i, h => by simp [lstP] at h
  | .one _, k, i, h => by simp [lstP] at h; simp [pl]; omega
  | .then_ a b, k, i, h => by
    simp only [lstP, Bool.or_eq_true, Bool.and_eq_true] at h
    simp only [pl]
    rcases h with h | ⟨_, h⟩ <;> (have := lst_rng h; omega)
  | .either a b, k, i, h => by
    simp only [lstP, Bool.or_eq_true] at h
    simp only [pl]
    rcases h with h | h <;> (have := lst_rng h; omega)
  | .star a, k, i, h => lst_rng (t := a) h
theorem nxt_rng : ∀ {t : Rx} {k i j : Nat}, nxtP t k i j = true → (k ≤ i ∧ i < k + pl t) ∧ k ≤ j ∧ j < k + pl t
  | .nothing, k, i, j, h => by simp [nxtP] at h
  | .one _, k, i, j, h => by simp [nxtP] at h
  | .then_ a b, k, i, j, h => by
    simp only [nxtP, Bool.or_eq_true, Bool.and_eq_true] at h
    simp only [pl]
    rcases h with (h | h) | ⟨h1, h2⟩
    · have := nxt_rng h; omega
    · have := nxt_rng h; omega
    · have := lst_rng h1; have := fst_rng h2; omega
  | .either a b, k, i, j, h => by
    simp only [nxtP, Bool.or_eq_true] at h
    simp only [pl]
    rcases h with h | h <;> (have := nxt_rng h; omega)
  | .star a, k, i, j, h => by
    simp only [nxtP, Bool.or_eq_true, Bool.and_eq_true] at h
    simp only [pl]
    rcases h with h | ⟨h1, h2⟩
    · exact nxt_rng h
    · have := lst_rng h1; have := fst_rng h2; omega
theorem has_rng : ∀ {t : Rx} {k i c : Nat}, hasP t k i c = true → k ≤ i ∧ i < k + pl t
  | .nothing, k, i, c, h => by simp [hasP] at h
  | .one _, k, i, c, h => by simp [hasP] at h; simp [pl]; omega
  | .then_ a b, k, i, c, h => by
    simp only [hasP, Bool.or_eq_true] at h
    simp only [pl]
    rcases h with h | h <;> (have := has_rng h; omega)
  | .either a b, k, i, c, h => by
    simp only [hasP, Bool.or_eq_true] at h
    simp only [pl]
    rcases h with h | h <;> (have := has_rng h; omega)
  | .star a, k, i, c, h => has_rng (t := a) h
/-- a place that a text leads to -/
inductive Rch (F : Nat → Bool) (N : Nat → Nat → Bool) (C : Nat → Nat → Bool) : List Int → Nat → Prop
  | one {c : Int} {j : Nat} : F j = true → C j c.toNat = true → Rch F N C [c] j
  | snoc {s : List Int} {i : Nat} {c : Int} {j : Nat} : Rch F N C s i → N i j = true → C j c.toNat = true → Rch F N C (s ++ [c]) j
abbrev RchP (t : Rx) (k : Nat) : List Int → Nat → Prop := Rch (fstP t k) (nxtP t k) (hasP t k)
section
variable {F F' : Nat → Bool} {N N' : Nat → Nat → Bool} {C C' : Nat → Nat → Bool}
theorem Rch.mono (hF : ∀ j, F j = true → F' j = true) (hN : ∀ i j, N i j = true → N' i j = true) (hC : ∀ j c, C j c = true → C' j c = true) {s : List Int} {j : Nat} (h : Rch F N C s j) : Rch F' N' C' s j := by
  induction h with
  | one h1 h2 => exact .one (hF _ h1) (hC _ _ h2)
  | snoc _ h1 h2 ih => exact .snoc ih (hN _ _ h1) (hC _ _ h2)
theorem Rch.ne {s : List Int} {j : Nat} (h : Rch F N C s j) : s ≠ [] := by
  cases h <;> simp
theorem Rch.fit {s : List Int} {j : Nat} (h : Rch F N C s j) : ∃ c, C j c = true := by
  cases h with
  | one _ h2 => exact ⟨_, h2⟩
  | snoc _ _ h2 => exact ⟨_, h2⟩
theorem Rch.app {u : List Int} {i : Nat} (hu : Rch F' N' C' u i) (hF : ∀ j, F j = true → N' i j = true) (hN : ∀ i j, N i j = true → N' i j = true) (hC : ∀ j c, C j c = true → C' j c = true) {v : List Int} {j : Nat} (h : Rch F N C v j) : Rch F' N' C' (u ++ v) j := by
  induction h with
  | one h1 h2 => exact .snoc hu (hF _ h1) (hC _ _ h2)
  | snoc _ h1 h2 ih =>
    rw [← List.append_assoc]
    exact .snoc ih (hN _ _ h1) (hC _ _ h2)
end
theorem RchP.rng {t : Rx} {k : Nat} {s : List Int} {j : Nat} (h : RchP t k s j) : k ≤ j ∧ j < k + pl t := by
  obtain ⟨c, hc⟩ := h.fit
  exact has_rng hc
theorem nul_lg : ∀ {t : Rx}, nul t = true → Lg t []
  | .nothing, _ => .nothing
  | .one _, h => by simp [nul] at h
  | .then_ a b, h => by
    simp only [nul, Bool.and_eq_true] at h
    exact .then_ (nul_lg h.1) (nul_lg h.2)
  | .either a b, h => by
    simp only [nul, Bool.or_eq_true] at h
    rcases h with h | h
    · exact .left (nul_lg h)
    · exact .right (nul_lg h)
  | .star a, _ => .zero
theorem Lg.starApp {a : Rx} {t : Rx} {u v : List Int} (h : Lg t u) (ht : t = .star a) (hv : Lg a v) : Lg (.star a) (u ++ v) := by
  induction h with
  | nothing => cases ht
  | one _ => cases ht
  | then_ _ _ _ _ => cases ht
  | left _ _ => cases ht
  | right _ _ => cases ht
  | zero =>
    cases ht
    by_cases hn : v = []
    · subst hn; exact .zero
    · have := Lg.more hn hv (.zero (a := a))
      simpa using this
  | more h1 h2 h3 _ ih =>
    cases ht
    rw [List.append_assoc]
    exact .more h1 h2 (ih rfl)
/-- what the table takes is of the pattern -/
theorem sound : ∀ {t : Rx} {k : Nat} {s : List Int} {j : Nat}, RchP t k s j → lstP t k j = true → Lg t s
  | .nothing, k, s, j, h, hl => by simp [lstP] at hl
  | .one st, k, s, j, h, hl => by
    cases h with
    | one h1 h2 =>
      simp only [hasP, Bool.and_eq_true] at h2
      exact .one h2.2
    | snoc _ h1 _ => simp [nxtP] at h1
  | .then_ a b, k, s, j, h, hl => by
    have key : ∀ {s : List Int} {j : Nat}, RchP (.then_ a b) k s j → RchP a k s j ∨ ∃ u v, s = u ++ v ∧ Lg a u ∧ RchP b (k + pl a) v j := by
      intro s j h
      induction h with
      | one h1 h2 =>
        simp only [fstP, hasP, Bool.or_eq_true, Bool.and_eq_true] at h1 h2
        rcases h1 with h1 | ⟨hn, h1⟩
        · have := fst_rng h1
          rcases h2 with h2 | h2
          · exact .inl (.one h1 h2)
          · have := has_rng h2; omega
        · have := fst_rng h1
          rcases h2 with h2 | h2
          · have := has_rng h2; omega
          · exact .inr ⟨[], _, rfl, nul_lg hn, .one h1 h2⟩
      | snoc _ h1 h2 ih =>
        simp only [nxtP, hasP, Bool.or_eq_true, Bool.and_eq_true] at h1 h2
        rcases ih with ih | ⟨u, v, rfl, hu, hv⟩
        · have hr := RchP.rng ih
          rcases h1 with (h1 | h1) | ⟨h1, h3⟩
          · have := nxt_rng h1
            rcases h2 with h2 | h2
            · exact .inl (.snoc ih h1 h2)
            · have := has_rng h2; omega
          · have := nxt_rng h1; omega
          · have := fst_rng h3
            rcases h2 with h2 | h2
            · have := has_rng h2; omega
            · exact .inr ⟨_, _, rfl, sound ih h1, .one h3 h2⟩
        · have hr := RchP.rng hv
          rcases h1 with (h1 | h1) | ⟨h1, h3⟩
          · have := nxt_rng h1; omega
          · have := nxt_rng h1
            rcases h2 with h2 | h2
            · have := has_rng h2; omega
            · exact .inr ⟨u, v ++ [_], by rw [List.append_assoc], hu, .snoc hv h1 h2⟩
          · have := lst_rng h1; omega
    simp only [lstP, Bool.or_eq_true, Bool.and_eq_true] at hl
    rcases key h with h | ⟨u, v, rfl, hu, hv⟩
    · have hr := RchP.rng h
      rcases hl with hl | ⟨hn, hl⟩
      · have := lst_rng hl; omega
      · have := Lg.then_ (sound h hl) (nul_lg hn)
        rwa [List.append_nil] at this
    · have hr := RchP.rng hv
      rcases hl with hl | ⟨hn, hl⟩
      · exact .then_ hu (sound hv hl)
      · have := lst_rng hl; omega
  | .either a b, k, s, j, h, hl => by
    have key : ∀ {s : List Int} {j : Nat}, RchP (.either a b) k s j → RchP a k s j ∨ RchP b (k + pl a) s j := by
      intro s j h
      induction h with
      | one h1 h2 =>
        simp only [fstP, hasP, Bool.or_eq_true] at h1 h2
        rcases h1 with h1 | h1 <;> rcases h2 with h2 | h2
        · exact .inl (.one h1 h2)
        · have := fst_rng h1; have := has_rng h2; omega
        · have := fst_rng h1; have := has_rng h2; omega
        · exact .inr (.one h1 h2)
      | snoc _ h1 h2 ih =>
        simp only [nxtP, hasP, Bool.or_eq_true] at h1 h2
        rcases ih with ih | ih
        · have := RchP.rng ih
          rcases h1 with h1 | h1
          · rcases h2 with h2 | h2
            · exact .inl (.snoc ih h1 h2)
            · have := nxt_rng h1; have := has_rng h2; omega
          · have := nxt_rng h1; omega
        · have := RchP.rng ih
          rcases h1 with h1 | h1
          · have := nxt_rng h1; omega
          · rcases h2 with h2 | h2
            · have := nxt_rng h1; have := has_rng h2; omega
            · exact .inr (.snoc ih h1 h2)
    simp only [lstP, Bool.or_eq_true] at hl
    rcases key h with h | h
    · have := RchP.rng h
      rcases hl with hl | hl
      · exact .left (sound h hl)
      · have := lst_rng hl; omega
    · have := RchP.rng h
      rcases hl with hl | hl
      · have := lst_rng hl; omega
      · exact .right (sound h hl)
  | .star a, k, s, j, h, hl => by
    have key : ∀ {s : List Int} {j : Nat}, RchP (.star a) k s j → ∃ u v, s = u ++ v ∧ Lg (.star a) u ∧ RchP a k v j := by
      intro s j h
      induction h with
      | one h1 h2 => exact ⟨[], _, rfl, .zero, .one h1 h2⟩
      | snoc _ h1 h2 ih =>
        obtain ⟨u, v, rfl, hu, hv⟩ := ih
        simp only [nxtP, Bool.or_eq_true, Bool.and_eq_true] at h1
        rcases h1 with h1 | ⟨h1, h3⟩
        · exact ⟨u, v ++ [_], by rw [List.append_assoc], hu, .snoc hv h1 h2⟩
        · exact ⟨u ++ v, [_], rfl, hu.starApp rfl (sound hv h1), .one h3 h2⟩
    obtain ⟨u, v, rfl, hu, hv⟩ := key h
    exact hu.starApp rfl (sound hv hl)
/-- what is of the pattern the table takes -/
theorem complete {t : Rx} {s : List Int} (h : Lg t s) : (s = [] → nul t = true) ∧ ∀ k, s ≠ [] → ∃ j, RchP t k s j ∧ lstP t k j = true := by
  induction h with
  | nothing => exact ⟨fun _ => rfl, fun k h => absurd rfl h⟩
  | one h => exact ⟨fun h => by simp at h, fun k _ => ⟨k, .one (by simp [fstP]) (by simp [hasP, h]), by simp [lstP]⟩⟩
  | @then_ a b s u _ _ ih1 ih2 =>
    refine ⟨fun h => ?_, fun k h => ?_⟩
    · obtain ⟨rfl, rfl⟩ := List.append_eq_nil_iff.1 h
      simp [nul, ih1.1 rfl, ih2.1 rfl]
    · by_cases hs : s = []
      · subst hs
        obtain ⟨j, h1, h2⟩ := ih2.2 (k + pl a) (by simpa using h)
        refine ⟨j, ?_, by simp [lstP, h2]⟩
        exact Rch.mono (fun j h => by simp [fstP, h, ih1.1 rfl]) (fun i j h => by simp [nxtP, h]) (fun j c h => by simp [hasP, h]) h1
      · obtain ⟨i, h1, h2⟩ := ih1.2 k hs
        have h1' : RchP (.then_ a b) k s i := Rch.mono (fun j h => by simp [fstP, h]) (fun i j h => by simp [nxtP, h]) (fun j c h => by simp [hasP, h]) h1
        by_cases hu : u = []
        · subst hu
          rw [List.append_nil]
          exact ⟨i, h1', by simp [lstP, h2, ih2.1 rfl]⟩
        · obtain ⟨j, h3, h4⟩ := ih2.2 (k + pl a) hu
          exact ⟨j, h1'.app (fun j h => by simp [nxtP, h, h2]) (fun i j h => by simp [nxtP, h]) (fun j c h => by simp [hasP, h]) h3, by simp [lstP, h4]⟩
  | @left a b s _ ih =>
    refine ⟨fun h => by simp [nul, ih.1 h], fun k h => ?_⟩
    obtain ⟨j, h1, h2⟩ := ih.2 k h
    exact ⟨j, Rch.mono (fun j h => by simp [fstP, h]) (fun i j h => by simp [nxtP, h]) (fun j c h => by simp [hasP, h]) h1, by simp [lstP, h2]⟩
  | @right a b s _ ih =>
    refine ⟨fun h => by simp [nul, ih.1 h], fun k h => ?_⟩
    obtain ⟨j, h1, h2⟩ := ih.2 (k + pl a) h
    exact ⟨j, Rch.mono (fun j h => by simp [fstP, h]) (fun i j h => by simp [nxtP, h]) (fun j c h => by simp [hasP, h]) h1, by simp [lstP, h2]⟩
  | zero => exact ⟨fun _ => rfl, fun k h => absurd rfl h⟩
  | @more a s u hs _ _ ih1 ih2 =>
    refine ⟨fun h => absurd (List.append_eq_nil_iff.1 h).1 hs, fun k h => ?_⟩
    obtain ⟨i, h1, h2⟩ := ih1.2 k hs
    have h1' : RchP (.star a) k s i := Rch.mono (fun j h => h) (fun i j h => by simp [nxtP, h]) (fun j c h => h) h1
    by_cases hu : u = []
    · subst hu
      rw [List.append_nil]
      exact ⟨i, h1', h2⟩
    · obtain ⟨j, h3, h4⟩ := ih2.2 k hu
      exact ⟨j, h1'.app (fun j h => by simp only [nxtP, Bool.or_eq_true, Bool.and_eq_true]; exact .inr ⟨h2, h⟩) (fun i j h => h) (fun j c h => h) h3, h4⟩
theorem nul_iff {t : Rx} : nul t = true ↔ Lg t [] := ⟨nul_lg, fun h => (complete h).1 rfl⟩
theorem lg_iff {t : Rx} (k : Nat) {s : List Int} (hs : s ≠ []) : Lg t s ↔ ∃ j, RchP t k s j ∧ lstP t k j = true :=
  ⟨fun h => (complete h).2 k hs, fun ⟨j, h1, h2⟩ => sound h1 h2⟩
/-! the table -/
def lvs : Rx → List S4
  | .nothing => []
  | .one s => [s]
  | .then_ a b => lvs a ++ lvs b
  | .either a b => lvs a ++ lvs b
  | .star a => lvs a
theorem lvs_len : ∀ (t : Rx), (lvs t).length = pl t
  | .nothing => rfl
  | .one _ => rfl
  | .then_ a b => by simp [lvs, pl, lvs_len a, lvs_len b]
  | .either a b => by simp [lvs, pl, lvs_len a, lvs_len b]
  | .star a => lvs_len a
theorem has_lvs : ∀ (t : Rx) (k i c : Nat), i < pl t → hasP t k (k + i) c = ((lvs t).getD i S4.zero).has c
  | .nothing, k, i, c, h => by simp [pl] at h
  | .one st, k, i, c, h => by
    obtain rfl : i = 0 := by simp [pl] at h; omega
    simp [hasP, lvs]
  | .then_ a b, k, i, c, h => by
    have hl := lvs_len a
    simp only [pl] at h
    simp only [hasP, lvs]
    by_cases hi : i < pl a
    · rw [has_lvs a k i c hi, List.getD_eq_getElem?_getD, List.getD_eq_getElem?_getD, List.getElem?_append_left (by omega)]
      have : hasP b (k + pl a) (k + i) c = false := by
        cases hb : hasP b (k + pl a) (k + i) c with
        | false => rfl
        | true => have := has_rng hb; omega
      rw [this, Bool.or_false]
    · have : hasP a k (k + i) c = false := by
        cases hb : hasP a k (k + i) c with
        | false => rfl
        | true => have := has_rng hb; omega
      rw [this, Bool.false_or]
      have := has_lvs b (k + pl a) (i - pl a) c (by omega)
      rw [show k + pl a + (i - pl a) = k + i by omega] at this
      rw [this, List.getD_eq_getElem?_getD, List.getD_eq_getElem?_getD, List.getElem?_append_right (by omega), hl]
  | .either a b, k, i, c, h => by
    have hl := lvs_len a
    simp only [pl] at h
    simp only [hasP, lvs]
    by_cases hi : i < pl a
    · rw [has_lvs a k i c hi, List.getD_eq_getElem?_getD, List.getD_eq_getElem?_getD, List.getElem?_append_left (by omega)]
      have : hasP b (k + pl a) (k + i) c = false := by
        cases hb : hasP b (k + pl a) (k + i) c with
        | false => rfl
        | true => have := has_rng hb; omega
      rw [this, Bool.or_false]
    · have : hasP a k (k + i) c = false := by
        cases hb : hasP a k (k + i) c with
        | false => rfl
        | true => have := has_rng hb; omega
      rw [this, Bool.false_or]
      have := has_lvs b (k + pl a) (i - pl a) c (by omega)
      rw [show k + pl a + (i - pl a) = k + i by omega] at this
      rw [this, List.getD_eq_getElem?_getD, List.getD_eq_getElem?_getD, List.getElem?_append_right (by omega), hl]
  | .star a, k, i, c, h => has_lvs a k i c h
/-- is one of the places at which one was a way to place j? the first n of them -/
def anyB (t : Rx) (at_ : List Bool) (j : Nat) : Nat → Bool
  | 0 => false
  | i + 1 => anyB t at_ j i || (decide (i < pl t) && at_.getD i false && nxtP t 0 i j)
theorem anyB_iff {t : Rx} {at_ : List Bool} {j : Nat} : ∀ {n : Nat}, anyB t at_ j n = true ↔ ∃ i, i < n ∧ at_.getD i false = true ∧ nxtP t 0 i j = true
  | 0 => by simp [anyB]
  | n + 1 => by
    simp only [anyB, Bool.or_eq_true, Bool.and_eq_true, decide_eq_true_eq, anyB_iff (n := n)]
    constructor
    · rintro (⟨i, h1, h2, h3⟩ | ⟨⟨h1, h2⟩, h3⟩)
      · exact ⟨i, by omega, h2, h3⟩
      · exact ⟨n, by omega, h2, h3⟩
    · rintro ⟨i, h1, h2, h3⟩
      by_cases hi : i < n
      · exact .inl ⟨i, hi, h2, h3⟩
      · obtain rfl : i = n := by omega
        have := nxt_rng h3
        exact .inr ⟨⟨by omega, h2⟩, h3⟩
def stepAt (t : Rx) (at_ : List Bool) (c : Nat) (begin_ : Bool) (k : Nat) : Bool := hasP t 0 k c && (begin_ && fstP t 0 k || anyB t at_ k at_.length)
def stepL (t : Rx) (at_ : List Bool) (c : Nat) (begin_ : Bool) : List Bool := (List.range (pl t)).map (stepAt t at_ c begin_)
theorem stepL_len (t : Rx) (at_ : List Bool) (c : Nat) (b : Bool) : (stepL t at_ c b).length = pl t := by simp [stepL]
theorem stepL_get {t : Rx} {at_ : List Bool} {c : Nat} {b : Bool} {k : Nat} : (stepL t at_ c b).getD k false = stepAt t at_ c b k := by
  unfold stepL
  rw [List.getD_eq_getElem?_getD, List.getElem?_map]
  by_cases hk : k < pl t
  · rw [List.getElem?_range hk]; rfl
  · rw [List.getElem?_eq_none (by simp; omega)]
    unfold stepAt
    cases h : hasP t 0 k c with
    | false => rfl
    | true => have := has_rng h; omega
def endsB (t : Rx) (at_ : List Bool) : Nat → Bool
  | 0 => false
  | k + 1 => endsB t at_ k || (at_.getD k false && decide (k < pl t) && lstP t 0 k)
theorem endsB_iff {t : Rx} {at_ : List Bool} : ∀ {n : Nat}, endsB t at_ n = true ↔ ∃ i, i < n ∧ at_.getD i false = true ∧ lstP t 0 i = true
  | 0 => by simp [endsB]
  | n + 1 => by
    simp only [endsB, Bool.or_eq_true, Bool.and_eq_true, decide_eq_true_eq, endsB_iff (n := n)]
    constructor
    · rintro (⟨i, h1, h2, h3⟩ | ⟨⟨h1, h2⟩, h3⟩)
      · exact ⟨i, by omega, h2, h3⟩
      · exact ⟨n, by omega, h1, h3⟩
    · rintro ⟨i, h1, h2, h3⟩
      by_cases hi : i < n
      · exact .inl ⟨i, hi, h2, h3⟩
      · obtain rfl : i = n := by omega
        have := lst_rng h3
        exact .inr ⟨⟨h2, by omega⟩, h3⟩
/-- may a pattern end at one of some places? -/
def endsT (t : Rx) (at_ : List Bool) : Bool := endsB t at_ at_.length
theorem endsT_iff {t : Rx} {at_ : List Bool} : endsT t at_ = true ↔ ∃ i, at_.getD i false = true ∧ lstP t 0 i = true := by
  unfold endsT
  rw [endsB_iff]
  constructor
  · rintro ⟨i, _, h⟩; exact ⟨i, h⟩
  · rintro ⟨i, h1, h2⟩
    refine ⟨i, ?_, h1, h2⟩
    rw [List.getD_eq_getElem?_getD] at h1
    by_cases hi : i < at_.length
    · exact hi
    · rw [List.getElem?_eq_none (by omega)] at h1; simp at h1
/-- the places behind the first k bytes of a text -/
def atL (t : Rx) (s : List Int) : Nat → List Bool
  | 0 => []
  | k + 1 => stepL t (atL t s k) (rd s (k : Int)).toNat (decide (k = 0))
def fitsT (t : Rx) (s : List Int) : Bool := if s.length = 0 then nul t else endsT t (atL t s s.length)
theorem rch_snoc {t : Rx} {s : List Int} {c : Int} {j : Nat} (hs : s ≠ []) : RchP t 0 (s ++ [c]) j ↔ ∃ i, RchP t 0 s i ∧ nxtP t 0 i j = true ∧ hasP t 0 j c.toNat = true := by
  constructor
  · intro h
    generalize hv : s ++ [c] = v at h
    cases h with
    | one _ _ =>
      have := congrArg List.length hv
      have : s.length = 0 := by simpa using this
      exact absurd (List.eq_nil_of_length_eq_zero this) hs
    | snoc h1 h2 h3 =>
      obtain ⟨rfl, e⟩ := List.append_inj' hv rfl
      cases e
      exact ⟨_, h1, h2, h3⟩
  · rintro ⟨i, h1, h2, h3⟩
    exact .snoc h1 h2 h3
theorem rch_one {t : Rx} {c : Int} {j : Nat} : RchP t 0 [c] j ↔ fstP t 0 j = true ∧ hasP t 0 j c.toNat = true := by
  constructor
  · intro h
    generalize hv : [c] = v at h
    cases h with
    | one h1 h2 => cases hv; exact ⟨h1, h2⟩
    | snoc h1 h2 h3 =>
      have := h1.ne
      have h4 := congrArg List.length hv
      simp at h4
      exact absurd h4 this
  · rintro ⟨h1, h2⟩
    exact .one h1 h2
theorem atL_get {t : Rx} {s : List Int} : ∀ {k : Nat} {j : Nat}, k < s.length → ((atL t s (k + 1)).getD j false = true ↔ RchP t 0 (s.take (k + 1)) j)
  | 0, j, hk => by
    rw [take_snoc_rd s 0 hk]
    show (stepL t [] (rd s ((0 : Nat) : Int)).toNat true).getD j false = true ↔ RchP t 0 [rd s ((0 : Nat) : Int)] j
    rw [stepL_get, rch_one]
    unfold stepAt
    simp [anyB, and_comm]
  | k + 1, j, hk => by
    have ih := fun i => atL_get (t := t) (s := s) (k := k) (j := i) (by omega)
    rw [take_snoc_rd s (k + 1) hk, rch_snoc (by intro h; have h5 := congrArg List.length h; rw [List.length_take, List.length_nil] at h5; omega)]
    show (stepL t (atL t s (k + 1)) (rd s ((k + 1 : Nat) : Int)).toNat (decide (k + 1 = 0))).getD j false = true ↔ _
    rw [stepL_get]
    unfold stepAt
    simp only [Bool.and_eq_true, Bool.or_eq_true, decide_eq_true_eq, anyB_iff]
    constructor
    · rintro ⟨h1, ⟨h2, _⟩ | ⟨i, h2, h3, h4⟩⟩
      · omega
      · exact ⟨i, (ih i).1 h3, h4, h1⟩
    · rintro ⟨i, h1, h2, h3⟩
      refine ⟨h3, .inr ⟨i, ?_, (ih i).2 h1, h2⟩⟩
      have hl : (atL t s (k + 1)).length = pl t := stepL_len _ _ _ _
      have := RchP.rng h1
      omega
theorem fitsT_iff {t : Rx} {s : List Int} : fitsT t s = true ↔ Lg t s := by
  unfold fitsT
  by_cases hs : s.length = 0
  · rw [if_pos hs]
    obtain rfl := List.eq_nil_of_length_eq_zero hs
    exact nul_iff
  · rw [if_neg hs, lg_iff 0 (by intro h; subst h; simp at hs), endsT_iff]
    obtain ⟨n, hn⟩ : ∃ n, s.length = n + 1 := ⟨s.length - 1, by omega⟩
    rw [hn]
    constructor
    · rintro ⟨i, h1, h2⟩
      have := (atL_get (by omega)).1 h1
      rw [List.take_of_length_le (by omega)] at this
      exact ⟨i, this, h2⟩
    · rintro ⟨i, h1, h2⟩
      refine ⟨i, (atL_get (by omega)).2 ?_, h2⟩
      rw [List.take_of_length_le (by omega)]
      exact h1
/-- the places depend on the bytes ahead alone -/
theorem atL_take {t : Rx} {s : List Int} {n : Nat} : ∀ {k : Nat}, k ≤ n → n ≤ s.length → atL t (s.take n) k = atL t s k
  | 0, _, _ => rfl
  | k + 1, hk, hn => by
    show stepL t (atL t (s.take n) k) (rd (s.take n) (k : Int)).toNat (decide (k = 0)) = stepL t (atL t s k) (rd s (k : Int)).toNat (decide (k = 0))
    rw [atL_take (by omega) hn]
    congr 2
    unfold rd
    simp [List.getD_eq_getElem?_getD, List.getElem?_take, show k < n by omega]
end Go.Proofs.YtijpbpnfachlkaaDoor.SL
