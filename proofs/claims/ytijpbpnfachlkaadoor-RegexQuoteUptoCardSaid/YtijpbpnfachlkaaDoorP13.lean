import Derived.Test.YtijpbpnfachlkaaDoorP12
/- More bytes behind a text. No statement is proved here. -/
set_option linter.unusedVariables false
set_option linter.unusedSimpArgs false
set_option maxRecDepth 100000
set_option maxHeartbeats 8000000
namespace Go.Proofs.YtijpbpnfachlkaaDoor.SL
open Go Go.RowKit
theorem joinP_get (r o : List Bool) (j : Nat) : ∀ (i : Nat), i ≤ o.length → (joinP r o i).1.getD j false = (o.getD j false || (decide (j < i) && r.getD j false))
  | 0, _ => by simp [joinP]
  | i + 1, hi => by
    have ih := joinP_get r o j i (by omega)
    have hl := joinP_len r o i
    have ihi := joinP_get r o i i (by omega)
    rw [show decide (i < i) = false from decide_eq_false (Nat.lt_irrefl i)] at ihi
    simp only [Bool.false_and, Bool.or_false] at ihi
    by_cases h : r.getD i false = true ∧ (joinP r o i).1.getD i false = false
    · rw [joinP_y h.1 h.2]
      show ((joinP r o i).1.set i true).getD j false = _
      by_cases hij : i = j
      · subst hij
        have : i < (joinP r o i).1.length := by omega
        rw [List.getD_eq_getElem?_getD, List.getElem?_set_self this, h.1]
        simp
      · rw [List.getD_eq_getElem?_getD, List.getElem?_set_ne hij, ← List.getD_eq_getElem?_getD, ih]
        rw [show decide (j < i + 1) = decide (j < i) from decide_eq_decide.2 (by omega)]
    · rw [joinP_n (fun a b => h ⟨a, b⟩), ih]
      by_cases hij : i = j
      · subst hij
        rw [show decide (i < i) = false from decide_eq_false (Nat.lt_irrefl i), show decide (i < i + 1) = true from decide_eq_true (by omega)]
        cases hr : r.getD i false with
        | false => simp
        | true =>
          cases ho : o.getD i false with
          | true => simp
          | false => exact absurd ⟨hr, by rw [ihi, ho]⟩ h
      · rw [show decide (j < i + 1) = decide (j < i) from decide_eq_decide.2 (by omega)]
theorem joinP_new (r o : List Bool) : ∀ (i : Nat), i ≤ o.length → ((joinP r o i).2 = true ↔ ∃ j, j < i ∧ r.getD j false = true ∧ o.getD j false = false)
  | 0, _ => by simp [joinP]
  | i + 1, hi => by
    have ih := joinP_new r o i (by omega)
    have hg := joinP_get r o i i (by omega)
    rw [show decide (i < i) = false from decide_eq_false (Nat.lt_irrefl i)] at hg
    simp only [Bool.false_and, Bool.or_false] at hg
    by_cases h : r.getD i false = true ∧ (joinP r o i).1.getD i false = false
    · rw [joinP_y h.1 h.2]
      exact ⟨fun _ => ⟨i, by omega, h.1, by rw [← hg]; exact h.2⟩, fun _ => rfl⟩
    · rw [joinP_n (fun a b => h ⟨a, b⟩), ih]
      constructor
      · rintro ⟨j, hj, h1, h2⟩
        exact ⟨j, by omega, h1, h2⟩
      · rintro ⟨j, hj, h1, h2⟩
        rcases Nat.lt_or_ge j i with hlt | hge
        · exact ⟨j, hlt, h1, h2⟩
        · obtain rfl : j = i := by omega
          exact absurd ⟨h1, by rw [hg]; exact h2⟩ h
/-- the same at the places up to n -/
def Agree (n : Nat) (a b : List Bool) : Prop := ∀ j, j ≤ n → a.getD j false = b.getD j false
theorem many_agree2 {n N : Nat} (hN : n + 1 ≤ N) {f1 f2 : List Bool → List Bool} (hf : ∀ a b : List Bool, a.length = n + 1 → b.length = N → Agree n a b → Agree n (f1 a) (f2 b)) : ∀ (k2 k1 : Nat) (a b : List Bool), a.length = n + 1 → b.length = N → Agree n a b → cntF a < k1 → cntF b < k2 → Agree n (manyL f1 k1 a) (manyL f2 k2 b)
  | 0, _, _, _, _, _, _, _, h => absurd h (by omega)
  | k2 + 1, 0, _, _, _, _, _, h, _ => absurd h (by omega)
  | k2 + 1, k1 + 1, a, b, ha, hb, hab, h1, h2 => by
    have hr := hf a b ha hb hab
    have ga := fun j => joinP_get (f1 a) a j a.length (Nat.le_refl _)
    have gb := fun j => joinP_get (f2 b) b j b.length (Nat.le_refl _)
    have na := joinP_new (f1 a) a a.length (Nat.le_refl _)
    have nb := joinP_new (f2 b) b b.length (Nat.le_refl _)
    have ca := joinP_cnt (f1 a) a a.length (Nat.le_refl _)
    have cb := joinP_cnt (f2 b) b b.length (Nat.le_refl _)
    have la := joinP_len (f1 a) a a.length
    have lb := joinP_len (f2 b) b b.length
    have hj : Agree n (joinP (f1 a) a a.length).1 (joinP (f2 b) b b.length).1 := fun j hj => by
      rw [ga, gb, hab j hj, hr j hj, show decide (j < a.length) = true from decide_eq_true (by omega), show decide (j < b.length) = true from decide_eq_true (by omega)]
    show Agree n (if _ then _ else _) (if _ then _ else _)
    by_cases ya : (joinP (f1 a) a a.length).2 = true
    · have yb : (joinP (f2 b) b b.length).2 = true := by
        obtain ⟨j, h3, h4, h5⟩ := na.1 ya
        exact nb.2 ⟨j, by omega, by rw [← hr j (by omega)]; exact h4, by rw [← hab j (by omega)]; exact h5⟩
      rw [if_pos ya, if_pos yb]
      have c1 := ca.2 ya
      have c2 := cb.2 yb
      exact many_agree2 hN hf k2 k1 _ _ (by omega) (by omega) hj (by omega) (by omega)
    · rw [if_neg ya]
      by_cases yb : (joinP (f2 b) b b.length).2 = true
      · rw [if_pos yb]
        have c2 := cb.2 yb
        have ha1 : Agree n (joinP (f1 a) a a.length).1 a := fun j hj => by
          rw [ga, show decide (j < a.length) = true from decide_eq_true (by omega)]
          cases h3 : a.getD j false with
          | true => rfl
          | false =>
            cases h4 : (f1 a).getD j false with
            | false => rfl
            | true => exact absurd (na.2 ⟨j, by omega, h4, h3⟩) ya
        have := many_agree2 hN hf k2 (k1 + 1) a (joinP (f2 b) b b.length).1 ha (by omega) (fun j hj2 => by rw [← ha1 j hj2]; exact hj j hj2) h1 (by omega)
        have e : manyL f1 (k1 + 1) a = (joinP (f1 a) a a.length).1 := by
          show (if _ then _ else _) = _
          rw [if_neg ya]
        rw [e] at this
        exact this
      · rw [if_neg yb]
        exact hj
theorem getD_mapr (f : Nat → Bool) (m j : Nat) : ((List.range m).map f).getD j false = if j < m then f j else false := by
  rw [List.getD_eq_getElem?_getD, List.getElem?_map]
  split
  · rename_i h
    rw [List.getElem?_range h]
    rfl
  · rename_i h
    rw [List.getElem?_eq_none (by simp; omega)]
    rfl
theorem rd_app {s u : List Int} {k : Nat} (h : k < s.length) : rd (s ++ u) (k : Int) = rd s (k : Int) := by
  unfold rd
  simp [List.getD_eq_getElem?_getD, List.getElem?_append_left h]
theorem ends_agree {s u : List Int} : ∀ {t : Rx} {a b : List Bool}, a.length = s.length + 1 → b.length = (s ++ u).length + 1 → Agree s.length a b → Agree s.length (endsL s t a) (endsL (s ++ u) t b)
  | .nothing, a, b, ha, hb, h => h
  | .one st, a, b, ha, hb, h => fun j hj => by
    show (oneL st s a s.length).getD j false = (oneL st (s ++ u) b (s ++ u).length).getD j false
    unfold oneL
    have hl : (s ++ u).length = s.length + u.length := List.length_append
    rw [getD_mapr, getD_mapr, if_pos (by omega), if_pos (by omega), if_pos (by omega), if_pos (by omega)]
    cases j with
    | zero => rfl
    | succ k =>
      show (a.getD k false && st.has (rd s k).toNat) = (b.getD k false && st.has (rd (s ++ u) k).toNat)
      rw [h k (by omega), rd_app (by omega)]
  | .then_ x y, a, b, ha, hb, h => by
    show Agree s.length (endsL s y (endsL s x a)) (endsL (s ++ u) y (endsL (s ++ u) x b))
    exact ends_agree (endsL_len ha) (endsL_len hb) (ends_agree ha hb h)
  | .either x y, a, b, ha, hb, h => fun j hj => by
    have h1 := ends_agree (t := x) ha hb h j hj
    have h2 := ends_agree (t := y) ha hb h j hj
    have hl : (s ++ u).length = s.length + u.length := List.length_append
    show (orL _ _ _ _).getD j false = (orL _ _ _ _).getD j false
    unfold orL
    rw [getD_mapr, getD_mapr, if_pos (by omega), if_pos (by omega), if_pos (by omega), if_pos (by omega), h1, h2]
  | .star x, a, b, ha, hb, h => by
    have hl : (s ++ u).length = s.length + u.length := List.length_append
    show Agree s.length (manyL (endsL s x) (s.length + 2) a) (manyL (endsL (s ++ u) x) ((s ++ u).length + 2) b)
    have ca := cntF_le a
    have cb := cntF_le b
    -- the second list keeps its length: the rounds are over lists of that length alone
    have key : ∀ (k2 k1 : Nat) (a b : List Bool), a.length = s.length + 1 → b.length = (s ++ u).length + 1 → Agree s.length a b → cntF a < k1 → cntF b < k2 → Agree s.length (manyL (endsL s x) k1 a) (manyL (endsL (s ++ u) x) k2 b) := by
      intro k2 k1 a b ha hb hab h1 h2
      exact many_agree2 (N := (s ++ u).length + 1) (by omega) (fun a b ha hb hab => ends_agree ha hb hab) k2 k1 a b ha hb hab h1 h2
    exact key _ _ a b ha hb h (by omega) (by omega)
theorem firstT_add (l : List Bool) : ∀ (p q i : Nat), firstT l (p + q) i = (match firstT l p i with | some k => some k | none => firstT l q (i + p))
  | 0, q, i => by simp [firstT]
  | p + 1, q, i => by
    rw [show p + 1 + q = (p + q) + 1 by omega]
    show (if l.getD i false = true then some i else firstT l (p + q) (i + 1)) = (match (if l.getD i false = true then some i else firstT l p (i + 1)) with | some k => some k | none => firstT l q (i + (p + 1)))
    by_cases h : l.getD i false = true
    · rw [if_pos h, if_pos h]
    · rw [if_neg h, if_neg h, firstT_add l p q (i + 1), show i + 1 + p = i + (p + 1) by omega]
theorem firstT_ge (l : List Bool) : ∀ (q i k : Nat), firstT l q i = some k → i ≤ k ∧ k < i + q
  | 0, i, k, h => by simp [firstT] at h
  | q + 1, i, k, h => by
    unfold firstT at h
    split at h
    · cases h; omega
    · have := firstT_ge l q (i + 1) k h
      omega
theorem firstT_congr {a b : List Bool} : ∀ (p i : Nat), (∀ j, i ≤ j → j < i + p → a.getD j false = b.getD j false) → firstT a p i = firstT b p i
  | 0, i, h => rfl
  | p + 1, i, h => by
    unfold firstT
    rw [h i (by omega) (by omega), firstT_congr p (i + 1) (fun j h1 h2 => h j (by omega) (by omega))]
theorem idxT_congr {a b : List Bool} : ∀ (p : Nat), (∀ j, j < p → a.getD j false = b.getD j false) → idxT a p = idxT b p
  | 0, h => rfl
  | p + 1, h => by
    unfold idxT
    rw [h p (by omega), idxT_congr p (fun j h1 => h j (by omega))]
theorem idxT_add (l : List Bool) (p : Nat) : ∀ (q : Nat), ∃ M, idxT l (p + q) = idxT l p ++ M
  | 0 => ⟨[], by simp⟩
  | q + 1 => by
    obtain ⟨M, hM⟩ := idxT_add l p q
    show ∃ M, (if l.getD (p + q) false = true then idxT l (p + q) ++ [((p + q : Nat) : Int)] else idxT l (p + q)) = idxT l p ++ M
    split
    · exact ⟨M ++ [((p + q : Nat) : Int)], by rw [hM, List.append_assoc]⟩
    · exact ⟨M, hM⟩
theorem start_agree {n N : Nat} (h : n ≤ N) : Agree n (startL 0 (n + 1)) (startL 0 (N + 1)) := fun j hj => by
  cases j with
  | zero => rfl
  | succ j =>
    simp only [startL, List.getD_eq_getElem?_getD, List.getElem?_set, List.getElem?_replicate]
    repeat' split
    all_goals first | rfl | omega
theorem upto_agree {n N : Nat} (h : n ≤ N) : Agree n (upto (n + 1) (n + 1)) (upto (N + 1) (N + 1)) := fun j hj => by
  unfold upto
  rw [getD_mapr, getD_mapr, if_pos (by omega), if_pos (by omega), decide_eq_true (show j < n + 1 by omega), decide_eq_true (show j < N + 1 by omega)]
section
variable {w0 : World} {B : Nat} {H X : List Chunk}
theorem TO_mk {n : Nat} {fr : Fr} {dst : Option Tmp} {ty : TypeId} {pos : String} {aft : Array Edge} {gd : Option (Nat × Bool)} {K : Fr → List Chunk → Prop} {xs : Array Operand} {ats : Array TypeId} {d : Nat} (hd3 : d ≤ 3) {A : Option Addr} {m c : Nat} {l : List Int} (hS : Shows (WH w0 B H) A m 1 (nums .u8 l)) (hlm : l.length = m) (hc : m ≤ c) (hm : m ≤ 4611686018427387904) (hu : U8s l) (hd : dOk n dst = true) (hx : evs fr xs.toList = some [.slice A m c, .int .i64 (d : Int)]) (h : ∀ v N, Tr (WH w0 B N) (mk d l).2.1 v → K (frPut dst (.tuple #[.string (strOfNums (mk d l).1), v.val]) fr) (H ++ N)) : TO Tryd.prog w0 B n ⟨dst, .call { callee := .value (.func 11), args := xs, argTypes := ats }, ty, pos, aft, gd⟩ K fr H := by
  refine TO_call (HR := []) call11 hd hx (by rw [List.append_nil]) (Make_t (H := H) hd3 hS hlm hc hm hu) ?_
  rintro v' H' ⟨v, N, rfl, hv, rfl⟩
  rw [List.append_nil]
  exact h v N hv
theorem First_gen {s : List Int} {t : Rx} {v : Nv} {o : Option Nat} {V : Value} (hv : Tr (WH w0 B H) t v) (hu : U8s s) (hs : s.length ≤ 1000) (hk : firstT (endsL s t (upto (s.length + 1) (s.length + 1))) (s.length + 1) 0 = o) (hV : firstV o = V) : TCall Tryd.prog w0 B 29 [v.val, .string (strOfNums s)].toArray (fun r H' => r = V ∧ H' = H) H := by
  subst hV
  subst hk
  exact First_t (w0 := w0) (B := B) (H := H) hu hs hv
theorem intV_at {L : List Int} {j : Nat} (h : j < L.length) : (intV L)[j * 1]? = some (.int .i64 (L.getD j 0)) := by
  rw [Nat.mul_one]
  simp [intV, List.getD_eq_getElem?_getD, List.getElem?_eq_getElem h]
end
end Go.Proofs.YtijpbpnfachlkaaDoor.SL
