import Derived.Test.YtijpbpnfachlkaaDoorQ4
/- The text that numbers make is read as its tree: plain Lean. No statement is proved here. -/
set_option linter.unusedVariables false
set_option linter.unusedSimpArgs false
set_option maxRecDepth 100000
namespace Go.Proofs.YtijpbpnfachlkaaDoor.SL
open Go Go.RowKit
theorem abc_no {n : Int} (h : 0 ≤ n) : isMeta (97 + n.tmod 3) = false := by
  obtain ⟨k, rfl⟩ := Int.eq_ofNat_of_zero_le h
  have : (k : Int).tmod 3 = ((k % 3 : Nat) : Int) := rfl
  rw [this]
  rcases (by omega : k % 3 = 0 ∨ k % 3 = 1 ∨ k % 3 = 2) with h | h | h <;> rw [h] <;> rfl
def grpL (a : List Int) : List Int := 40 :: (a ++ [41])
theorem grpL_len (a : List Int) : (grpL a).length = a.length + 2 := by simp [grpL]
/-- what mk_then says of one -/
def ReadsT (d : Nat) (a : List Int) (t : Rx) : Prop := ∀ (r : Nat) (s pre post : List Int), 2 * d ≤ r → s = pre ++ a ++ post → Stops post → pThen (pEk s r) (decide (r = 0)) s pre.length = .ok t (pre.length + a.length)
theorem ReadsT.pE {d : Nat} {a : List Int} {t : Rx} (h : ReadsT d a t) {k : Nat} {s pre post : List Int} (hk : 2 * d ≤ k) (hs : s = pre ++ a ++ post) (hp : Ends1 post) : pE s k pre.length = .ok t (pre.length + a.length) :=
  either_one hs (h k s pre post hk hs hp.stops) hp
theorem ReadsT.grp {d : Nat} {a : List Int} {t : Rx} (h : ReadsT d a t) {k : Nat} {s pre post : List Int} (hk : 2 * d ≤ k) (hs : s = pre ++ grpL a ++ post) : pOne (SL.pE s k) false s pre.length = .ok t (pre.length + (grpL a).length) := by
  have e1 : s = pre ++ 40 :: (a ++ 41 :: post) := by rw [hs]; simp [grpL]
  have e2 : s = (pre ++ [40]) ++ a ++ (41 :: post) := by rw [hs]; simp [grpL]
  have h1 := h.pE hk e2 (.inr ⟨post, rfl⟩)
  rw [List.length_append] at h1
  rw [one_grp e1 h1, grpL_len]
  rfl
theorem ReadsT.two {d : Nat} {a b : List Int} {t u : Rx} (ha : ReadsT d a t) (hb : ReadsT d b u) : ReadsT (d + 1) (grpL a ++ grpL b) (.then_ t u) := by
  intro r s pre post hr hs hp
  obtain ⟨k, rfl⟩ : ∃ k, r = k + 1 := ⟨r - 1, by omega⟩
  have hs1 : s = pre ++ grpL a ++ (grpL b ++ post) := by rw [hs]; simp
  have hs2 : s = (pre ++ grpL a) ++ grpL b ++ post := by rw [hs]; simp
  have h1 := ha.grp (k := k) (by omega) hs1
  have h2 := hb.grp (k := k) (by omega) hs2
  rw [List.length_append] at h2
  show pThen (SL.pE s k) (decide (k + 1 = 0)) s pre.length = _
  rw [decide_eq_false (by omega), List.length_append, ← Nat.add_assoc]
  refine then_two (by rw [hs2]) rfl rfl (by decide) (by decide) (by decide) (by decide) ?_ ?_ hp
  · rw [← List.length_append] at h1 ⊢
    exact again_none hs1 h1 (.inr ⟨40, _, rfl, by decide, by decide, by decide⟩)
  · rw [← List.length_append, ← List.length_append] at h2 ⊢
    rw [List.length_append] at h2
    exact again_none hs2 (by rw [List.length_append]; exact h2) (stops_sign hp)
theorem ReadsT.sign {d : Nat} {a : List Int} {t u : Rx} {c : Int} (ha : ReadsT d a t) (hc : (if c = 42 then Res.ok (Rx.star t) 1 else if c = 43 then .ok (.then_ t (.star t)) 1 else if c = 63 then .ok (.either t .nothing) 1 else .ok t 0) = .ok u 1) : ReadsT (d + 1) (grpL a ++ [c]) u := by
  intro r s pre post hr hs hp
  obtain ⟨k, rfl⟩ : ∃ k, r = k + 1 := ⟨r - 1, by omega⟩
  have hs1 : s = pre ++ grpL a ++ (c :: post) := by rw [hs]; simp
  have h1 := ha.grp (k := k) (by omega) hs1
  rw [← List.length_append] at h1
  have h2 := again_sign hs1 h1
  show pThen (SL.pE s k) (decide (k + 1 = 0)) s pre.length = _
  rw [decide_eq_false (by omega)]
  refine then_one (c := 40) hs rfl (by decide) (by decide) ?_ hp
  rw [h2, List.length_append, List.length_append]
  show _ = Res.ok u (pre.length + ((grpL a).length + 1))
  split at hc
  · rename_i h; cases hc; rw [if_pos h]; congr 1
  · rename_i h
    rw [if_neg h]
    split at hc
    · rename_i h; cases hc; rw [if_pos h]; congr 1
    · rename_i h
      rw [if_neg h]
      split at hc
      · rename_i h; cases hc; rw [if_pos h]; congr 1
      · cases hc
theorem ReadsT.alt {d : Nat} {a b : List Int} {t u : Rx} (ha : ReadsT d a t) (hb : ReadsT d b u) : ReadsT (d + 1) (grpL (a ++ 124 :: grpL b)) (.either t u) := by
  intro r s pre post hr hs hp
  obtain ⟨k, rfl⟩ : ∃ k, r = k + 2 := ⟨r - 2, by omega⟩
  have e1 : s = pre ++ 40 :: ((a ++ 124 :: grpL b) ++ 41 :: post) := by rw [hs]; simp [grpL]
  have e2 : s = (pre ++ [40]) ++ a ++ (124 :: (grpL b ++ 41 :: post)) := by rw [e1]; simp
  have e3 : s = (pre ++ [40] ++ a ++ [124]) ++ grpL b ++ (41 :: post) := by rw [e1]; simp
  have e4 : s = (pre ++ [40] ++ a ++ [124] ++ grpL b) ++ (41 :: post) := by rw [e1]; simp
  have h1 := ha (k + 1) s _ _ (by omega) e2 (.inr (.inr ⟨_, rfl⟩))
  have h2 := hb.grp (k := k) (by omega) e3
  have h3 : pThen (pEk s (k + 1)) (decide (k + 1 = 0)) s (pre ++ [40] ++ a ++ [124]).length = .ok u ((pre ++ [40] ++ a ++ [124]).length + (grpL b).length) := by
    rw [decide_eq_false (by omega)]
    exact then_atom e3 rfl (by decide) (by decide) h2 (.inr (.inl ⟨_, rfl⟩))
  have hbar : isB s (pre ++ [40] ++ a).length 124 = true := by
    rw [show s = (pre ++ [40] ++ a) ++ 124 :: (grpL b ++ 41 :: post) by rw [e1]; simp, isB_mid]
    rfl
  have hend : isB s (pre ++ [40] ++ a ++ [124] ++ grpL b).length 124 = false := ends_no e4 (.inr ⟨_, rfl⟩)
  have hplus : (pre ++ [40] ++ a).length + 1 = (pre ++ [40] ++ a ++ [124]).length := by simp only [List.length_append, List.length_cons, List.length_nil]
  have hl : 2 ≤ s.length := by rw [e1]; simp; omega
  obtain ⟨n, hn⟩ : ∃ n, s.length = n + 1 := ⟨s.length - 1, by omega⟩
  have h4 : SL.pE s (k + 1) (pre.length + 1) = .ok (.either t u) (pre.length + 1 + (a ++ 124 :: grpL b).length) := by
    rw [pE_eq]
    unfold pEither
    rw [show pre.length + 1 = (pre ++ [40]).length by simp, h1]
    simp only
    rw [hn]
    unfold pEitherL
    rw [← List.length_append, if_pos hbar, hplus, h3]
    simp only
    unfold pEitherL
    rw [← List.length_append, if_neg (by rw [hend]; decide)]
    congr 1
    simp
    omega
  have h5 := one_grp e1 h4
  show pThen (SL.pE s (k + 1)) (decide (k + 2 = 0)) s pre.length = _
  rw [decide_eq_false (by omega)]
  refine then_atom hs rfl (by decide) (by decide) ?_ hp
  rw [h5, grpL_len]
  rfl
theorem ReadsT.atom {d : Nat} {x x' : List Int} {c : Int} {t : Rx} (hx : x = c :: x') (h1 : c ≠ 124) (h2 : c ≠ 41) (h : ∀ (pE : Nat → Res Rx) (top : Bool) (s pre post : List Int), s = pre ++ x ++ post → pOne pE top s pre.length = .ok t (pre.length + x.length)) : ReadsT d x t :=
  fun r s pre post hr hs hp => then_atom hs hx h1 h2 (h _ _ s pre post hs) hp
theorem mk_rest : ∀ (d : Nat) (l : List Int), U8s l → U8s (mk d l).2.2
  | d, [], h => by rw [mk_nil]; exact fun x hx => by simp at hx
  | 0, n :: l, h => fun x hx => h x (List.mem_cons_of_mem _ hx)
  | d + 1, n :: l, h => by
    have hl : U8s l := fun x hx => h x (List.mem_cons_of_mem _ hx)
    have h1 := mk_rest d l hl
    have h2 := mk_rest d _ h1
    unfold mk
    repeat' split
    all_goals first | exact h2 | exact h1 | exact hl
/-- THE TEXT THAT NUMBERS MAKE IS READ AS ITS TREE -/
theorem mk_reads : ∀ (d : Nat) (l : List Int), U8s l → ReadsT d (mk d l).1 (mk d l).2.1
  | d, [], h => by
    rw [mk_nil]
    exact ReadsT.atom rfl (by decide) (by decide) fun pE top s pre post hs => one_plain hs (by decide)
  | 0, n :: l, h => by
    have hn := (h n (by simp)).1
    have hm := abc_no hn
    exact ReadsT.atom (x := [97 + n.tmod 3]) rfl (meta_no hm).2.2.2.2.2.2.2.2.1 (meta_no hm).2.1 fun pE top s pre post hs => one_plain hs hm
  | d + 1, n :: l, h => by
    have hl : U8s l := fun x hx => h x (List.mem_cons_of_mem _ hx)
    have h1 := mk_reads d l hl
    have h2 := mk_reads d _ (mk_rest d l hl)
    obtain ⟨k, hk⟩ := Int.eq_ofNat_of_zero_le (h n (by simp)).1
    have hk9 : n.tmod 9 = ((k % 9 : Nat) : Int) := by rw [hk]; rfl
    rcases (by omega : k % 9 = 0 ∨ k % 9 = 1 ∨ k % 9 = 2 ∨ k % 9 = 3 ∨ k % 9 = 4 ∨ k % 9 = 5 ∨ k % 9 = 6 ∨ k % 9 = 7 ∨ k % 9 = 8) with e | e | e | e | e | e | e | e | e <;> rw [e] at hk9
    · rw [mk_then (.inl hk9)]; simpa [grpL] using h1.two h2
    · rw [mk_then (.inr hk9)]; simpa [grpL] using h1.two h2
    · rw [mk_either (.inl hk9)]; simpa [grpL] using h1.alt h2
    · rw [mk_either (.inr hk9)]; simpa [grpL] using h1.alt h2
    · rw [mk_star hk9]; simpa [grpL] using h1.sign (c := 42) (u := .star (mk d l).2.1) rfl
    · rw [mk_opt hk9]; simpa [grpL] using h1.sign (c := 63) (u := .either (mk d l).2.1 .nothing) rfl
    · rw [mk_plus hk9]; simpa [grpL] using h1.sign (c := 43) (u := .then_ (mk d l).2.1 (.star (mk d l).2.1)) rfl
    · rw [mk_any hk9]; exact ReadsT.atom (x := [46]) rfl (by decide) (by decide) fun pE top s pre post hs => one_dot hs
    · rw [mk_class hk9]; exact ReadsT.atom (x := [91, 94, 97, 45, 98, 93]) rfl (by decide) (by decide) fun pE top s pre post hs => one_class hs
theorem mk_parse {d : Nat} (hd : d ≤ 3) {l : List Int} (h : U8s l) : pParse (mk d l).1 = .ok (mk d l).2.1 (mk d l).1.length := by
  have := (mk_reads d l h).pE (k := 6) (s := (mk d l).1) (pre := []) (post := []) (by omega) (by simp) (.inl rfl)
  unfold pParse
  rw [show (0 : Nat) = ([] : List Int).length from rfl, this]
  simp
end Go.Proofs.YtijpbpnfachlkaaDoor.SL
