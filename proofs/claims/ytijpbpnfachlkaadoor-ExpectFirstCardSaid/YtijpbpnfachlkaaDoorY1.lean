import Derived.Test.YtijpbpnfachlkaaDoorP13
import Derived.Test.YtijpbpnfachlkaaDoorN11
import Derived.Test.YtijpbpnfachlkaaDoorG3
import Derived.Test.YtijpbpnfachlkaaDoorQ5
import Derived.Test.YtijpbpnfachlkaaDoorE2
/- The first pattern that ends, and where: plain Lean. No statement is proved here. -/
set_option linter.unusedVariables false
set_option linter.unusedSimpArgs false
namespace Go.Proofs.YtijpbpnfachlkaaDoor.SL
open Go Go.RowKit
/-- the rows that are taken -/
def picks (rows : List (List Int)) : Nat → List (List Int)
  | 0 => []
  | i + 1 => if i < 4 ∧ (mk 2 (rows.getD i [])).1.length ≤ 64 then picks rows i ++ [rows.getD i []] else picks rows i
theorem picks_len (rows : List (List Int)) : ∀ i, (picks rows i).length ≤ i ∧ (picks rows i).length ≤ 4
  | 0 => ⟨Nat.le_refl _, Nat.zero_le _⟩
  | i + 1 => by
    have h := picks_len rows i
    unfold picks
    split
    · simp only [List.length_append, List.length_singleton]; omega
    · omega
theorem picks_ok {rows : List (List Int)} (hu : ∀ r ∈ rows, U8s r) : ∀ i, ∀ r ∈ picks rows i, U8s r ∧ (mk 2 r).1.length ≤ 64
  | 0, r, hr => by simp [picks] at hr
  | i + 1, r, hr => by
    unfold picks at hr
    split at hr
    · rename_i h
      rcases List.mem_append.1 hr with hr | hr
      · exact picks_ok hu i r hr
      · obtain rfl := List.mem_singleton.1 hr
        refine ⟨?_, h.2⟩
        rw [List.getD_eq_getElem?_getD]
        cases hg : rows[i]? with
        | none => intro x hx; simp at hx
        | some r => exact hu r (List.mem_of_getElem? hg)
    · exact picks_ok hu i r hr
def txts (rs : List (List Int)) : List (List Int) := rs.map fun r => (mk 2 r).1
def trees (rs : List (List Int)) : List Rx := rs.map fun r => (mk 2 r).2.1
def ndC (vs : List Nv) : List Value := vs.flatMap Nv.cells
theorem ndC_len (vs : List Nv) : (ndC vs).length = vs.length * 6 := by
  induction vs with
  | nil => rfl
  | cons v vs ih => simp only [ndC, List.flatMap_cons, List.length_append, List.length_cons] at *; rw [ih]; simp [Nv.cells]; omega
theorem ndC_snoc (vs : List Nv) (v : Nv) : ndC (vs ++ [v]) = ndC vs ++ v.cells := by simp [ndC]
theorem ndC_at : ∀ {vs : List Nv} {j i : Nat} {u : Value}, j < vs.length → (vs.getD j nv0).cells[i]? = some u → (ndC vs)[j * 6 + i]? = some u
  | v :: vs, 0, i, u, _, h => by
    have h : v.cells[i]? = some u := h
    have hl := (List.getElem?_eq_some_iff.1 h).1
    show (v.cells ++ ndC vs)[0 * 6 + i]? = _
    rw [Nat.zero_mul, Nat.zero_add, List.getElem?_append_left hl]
    exact h
  | v :: vs, j + 1, i, u, hj, h => by
    show (v.cells ++ ndC vs)[(j + 1) * 6 + i]? = _
    rw [List.getElem?_append_right (by simp [Nv.cells]; omega), show (j + 1) * 6 + i - v.cells.length = j * 6 + i by simp [Nv.cells]; omega]
    exact ndC_at (by simpa using hj) h
theorem nd_rds {W : World → Prop} {g o : Nat} {vs : List Nv} (h : ∀ j v, (ndC vs)[j]? = some v → Rd W ⟨g, o + j, none⟩ v) {j : Nat} (hj : j < vs.length) : RdsK W g (o + j * 6) 6 (vs.getD j nv0).cells := ⟨rfl, fun i v hi => by
  rw [add_plain', Nat.add_assoc]
  exact h (j * 6 + i) v (ndC_at hj hi)⟩
/-- where a pattern first ends -/
def fo (t : Rx) (s : List Int) : Option Nat := firstT (endsL s t (upto (s.length + 1) (s.length + 1))) (s.length + 1) 0
def eB (t : Rx) (s : List Int) (p : Nat) : Bool := (endsL s t (upto (s.length + 1) (s.length + 1))).getD p false
/-- the best of the first i, and where -/
def bat (ts : List Rx) (s : List Int) : Nat → Option Nat × Nat
  | 0 => (none, s.length + 1)
  | i + 1 => match fo (ts.getD i .nothing) s with
    | some k => if k < (bat ts s i).2 then (some i, k) else bat ts s i
    | none => bat ts s i
theorem bat_none {ts : List Rx} {s : List Int} {i : Nat} (hf : fo (ts.getD i .nothing) s = none) : bat ts s (i + 1) = bat ts s i := by
  show (match fo (ts.getD i .nothing) s with | some k => if k < (bat ts s i).2 then (some i, k) else bat ts s i | none => bat ts s i) = _
  rw [hf]
theorem bat_lt {ts : List Rx} {s : List Int} {i k : Nat} (hf : fo (ts.getD i .nothing) s = some k) (h : k < (bat ts s i).2) : bat ts s (i + 1) = (some i, k) := by
  show (match fo (ts.getD i .nothing) s with | some k => if k < (bat ts s i).2 then (some i, k) else bat ts s i | none => bat ts s i) = _
  rw [hf]
  exact if_pos h
theorem bat_ge {ts : List Rx} {s : List Int} {i k : Nat} (hf : fo (ts.getD i .nothing) s = some k) (h : ¬ k < (bat ts s i).2) : bat ts s (i + 1) = bat ts s i := by
  show (match fo (ts.getD i .nothing) s with | some k => if k < (bat ts s i).2 then (some i, k) else bat ts s i | none => bat ts s i) = _
  rw [hf]
  exact if_neg h
theorem bat_inv (ts : List Rx) (s : List Int) : ∀ i, (∀ j, j < i → ∀ p, p < (bat ts s i).2 → p ≤ s.length → eB (ts.getD j .nothing) s p = false) ∧ (bat ts s i).2 ≤ s.length + 1 ∧ ((bat ts s i).1 = none → (bat ts s i).2 = s.length + 1) ∧ ∀ b, (bat ts s i).1 = some b → b < i ∧ (bat ts s i).2 ≤ s.length ∧ eB (ts.getD b .nothing) s (bat ts s i).2 = true ∧ ∀ j, j < b → eB (ts.getD j .nothing) s (bat ts s i).2 = false
  | 0 => ⟨fun j hj => absurd hj (Nat.not_lt_zero j), Nat.le_refl _, fun _ => rfl, (fun b h => nomatch h)⟩
  | i + 1 => by
    obtain ⟨h1, h2, h3, h4⟩ := bat_inv ts s i
    have hno : ∀ k, fo (ts.getD i .nothing) s = some k → k ≤ s.length ∧ eB (ts.getD i .nothing) s k = true ∧ ∀ p, p < k → eB (ts.getD i .nothing) s p = false := fun k hk => by
      have := firstT_iff.1 hk
      exact ⟨by omega, this.2.2.1, fun p hp => this.2.2.2 p (Nat.zero_le _) hp⟩
    unfold bat
    cases hf : fo (ts.getD i .nothing) s with
    | none =>
      have hn := firstT_none.1 hf
      refine ⟨fun j hj p hp hpl => ?_, h2, h3, fun b hb => ?_⟩
      · rcases Nat.lt_or_ge j i with h | h
        · exact h1 j h p hp hpl
        · obtain rfl : j = i := by omega
          exact hn p (Nat.zero_le _) (by omega)
      · have := h4 b hb
        exact ⟨by omega, this.2⟩
    | some k =>
      obtain ⟨k1, k2, k3⟩ := hno k hf
      simp only
      split
      · rename_i hlt
        refine ⟨fun j hj p hp hpl => ?_, by show k ≤ _; omega, (fun h => nomatch h), fun b hb => ?_⟩
        · rcases Nat.lt_or_ge j i with h | h
          · exact h1 j h p (Nat.lt_trans hp hlt) hpl
          · obtain rfl : j = i := by omega
            exact k3 p hp
        · obtain rfl : i = b := Option.some.inj hb
          exact ⟨Nat.lt_succ_self _, k1, k2, fun j hj => h1 j hj k hlt k1⟩
      · rename_i hge
        refine ⟨fun j hj p hp hpl => ?_, h2, h3, fun b hb => ?_⟩
        · rcases Nat.lt_or_ge j i with h | h
          · exact h1 j h p hp hpl
          · obtain rfl : j = i := by omega
            exact k3 p (by omega)
        · have := h4 b hb
          exact ⟨by omega, this.2⟩
/-- places behind so many bytes -/
theorem ends_seq {t : Rx} {s : List Int} (hn : nul t = false) {k : Nat} (hk : k < s.length) : endsT t (seqL t s (k + 1)) = eB t s (k + 1) := by
  unfold eB
  rw [Bool.eq_iff_iff, seq_ends hk, any_fits (by omega)]
  constructor
  · rintro ⟨i, h1, h2⟩; exact ⟨i, by omega, fitsT_iff.2 h2⟩
  · rintro ⟨i, h1, h2⟩
    rcases Nat.lt_or_ge i (k + 1) with h | h
    · exact ⟨i, by omega, fitsT_iff.1 h2⟩
    · obtain rfl : i = k + 1 := by omega
      rw [sub_nil, fitsT_iff, ← nul_iff, hn] at h2
      cases h2
theorem ends_0 {t : Rx} {s : List Int} (hn : nul t = false) : eB t s 0 = false := by
  unfold eB
  cases h : (endsL s t (upto (s.length + 1) (s.length + 1))).getD 0 false with
  | false => rfl
  | true =>
    obtain ⟨i, h1, h2⟩ := (any_fits (Nat.zero_le _)).1 h
    obtain rfl : i = 0 := by omega
    rw [sub_nil, fitsT_iff, ← nul_iff, hn] at h2
    cases h2
theorem best_none {ts : List Rx} {ps : List (List Bool)} {c : Nat} : ∀ {k : Nat}, (∀ j, j < k → endsT (ts.getD j .nothing) (stepL (ts.getD j .nothing) (ps.getD j []) c true) = false) → bestT ts ps c k = none
  | 0, _ => rfl
  | k + 1, h => by
    unfold bestT
    rw [best_none fun j hj => h j (by omega), h k (by omega)]
    rfl
theorem best_some {ts : List Rx} {ps : List (List Bool)} {c b : Nat} (hb : endsT (ts.getD b .nothing) (stepL (ts.getD b .nothing) (ps.getD b []) c true) = true) (hl : ∀ j, j < b → endsT (ts.getD j .nothing) (stepL (ts.getD j .nothing) (ps.getD j []) c true) = false) : ∀ {k : Nat}, b < k → bestT ts ps c k = some b
  | k + 1, h => by
    unfold bestT
    rcases Nat.lt_or_ge b k with h' | h'
    · rw [best_some hb hl h']
    · obtain rfl : b = k := by omega
      rw [best_none hl, hb]
      rfl
def seqs (ts : List Rx) (s : List Int) (k : Nat) : List (List Bool) := ts.map fun t => seqL t s k
theorem seqs_get {ts : List Rx} {s : List Int} {k j : Nat} (hj : j < ts.length) : (seqs ts s k).getD j [] = seqL (ts.getD j .nothing) s k := by
  simp [seqs, List.getD_eq_getElem?_getD, List.getElem?_eq_getElem hj]
theorem seqs_put {ts : List Rx} {s : List Int} {k c : Nat} (hc : rd s (k : Int) = (c : Int)) (i : Nat) : (seqs ts s (k + 1)).getD i [] = (putL ts (seqs ts s k) c ts.length).getD i [] := by
  rw [putL_get]
  by_cases hi : i < ts.length
  · rw [if_pos ⟨hi, by simpa [seqs] using hi⟩, seqs_get hi, seqs_get hi]
    show stepL _ _ (rd s (k : Int)).toNat true = _
    rw [hc, Int.toNat_natCast]
  · rw [if_neg (by omega)]
    simp [seqs, List.getD_eq_getElem?_getD, List.getElem?_eq_none (Nat.le_of_not_lt hi)]
theorem seqs_0 (ts : List Rx) (s : List Int) : seqs ts s 0 = List.replicate ts.length [] := by
  unfold seqs
  induction ts with
  | nil => rfl
  | cons t ts ih => rw [List.map_cons, ih]; rfl
end Go.Proofs.YtijpbpnfachlkaaDoor.SL
