import Derived.Test.YtkgdphbccagjcaaP12
/- More bytes behind a text. No statement is proved here. -/
set_option linter.unusedVariables false
set_option linter.unusedSimpArgs false
set_option maxRecDepth 100000
set_option maxHeartbeats 8000000
namespace Go.Proofs.Ytkgdphbccagjcaa.SL
open Go Go.RowKit
theorem joinP_get (r o : List Bool) (j : Nat) : ∀ (i : Nat), i ≤ o.length → (joinP r o i).1.getD j false = (o.getD j false || (decide (j < i) && r.getD j false))
  | 0, _ => by simp [joinP]
  | i + 1, hi => by
    have ih := joinP_get r o j i (by omega)
    have hl := joinP_len r o i
    have ihi := joinP_get r o i i (by omega)
    rw [show decide (i < i) = false from decide_eq_false (Nat.lt_irrefl i)] at ihi
    simp only [Bool.false_and, Bool.or_false] at ihi
    by_cases h : r.getD i false = true ∧ (joinP r o i).1.getD i false = false
    · rw [joinP_y h.1 h.2]
      show ((joinP r o i).1.set i true).getD j false = _
      by_cases hij : i = j
      · subst hij
        have : i < (joinP r o i).1.length := by omega
        rw [List.getD_eq_getElem?_getD, List.getElem?_set_self this, h.1]
        simp
      · rw [List.getD_eq_getElem?_getD, List.getElem?_set_ne hij, ← List.getD_eq_getElem?_getD, ih]
        rw [show decide (j < i + 1) = decide (j < i) from decide_eq_decide.2 (by omega)]
    · rw [joinP_n (fun a b => h ⟨a, b⟩), ih]
      by_cases hij : i = j
      · subst hij
        rw [show decide (i < i) = false from decide_eq_false (Nat.lt_irrefl i), show decide (i < i + 1) = true from decide_eq_true (by omega)]
        cases hr : r.getD i false with
        | false => simp
        | true =>
          cases ho : o.getD i false with
          | true => simp
          | false => exact absurd ⟨hr, by rw [ihi, ho]⟩ h
      · rw [show decide (j < i + 1) = decide (j < i) from decide_eq_decide.2 (by omega)]
theorem joinP_new (r o : List Bool) : ∀ (i : Nat), i ≤ o.length → ((joinP r o i).2 = true ↔ ∃ j, j < i ∧ r.getD j false = true ∧ o.getD j false = false)
  | 0, _ => by simp [joinP]
  | i + 1, hi => by
    have ih := joinP_new r o i (by omega)
    have hg := joinP_get r o i i (by omega)
    rw [show decide (i < i) = false from decide_eq_false (Nat.lt_irrefl i)] at hg
    simp only [Bool.false_and, Bool.or_false] at hg
    by_cases h : r.getD i false = true ∧ (joinP r o i).1.getD i false = false
    · rw [joinP_y h.1 h.2]
      exact ⟨fun _ => ⟨i, by omega, h.1, by rw [← hg]; exact h.2⟩, fun _ => rfl⟩
    · rw [joinP_n (fun a b => h ⟨a, b⟩), ih]
      constructor
      · rintro ⟨j, hj, h1, h2⟩
        exact ⟨j, by omega, h1, h2⟩
      · rintro ⟨j, hj, h1, h2⟩
        rcases Nat.lt_or_ge j i with hlt | hge
        · exact ⟨j, hlt, h1, h2⟩
        · obtain rfl : j = i := by omega
          exact absurd ⟨h1, by rw [hg]; exact h2⟩ h
/-- the same at the places up to n -/
def Agree (n : Nat) (a b : List Bool) : Prop := ∀ j, j ≤ n → a.getD j false = b.getD j false
theorem many_agree2 {n N : Nat} (hN : n + 1 ≤ N) {f1 f2 : List Bool → List Bool} (hf : ∀ a b : List Bool, a.length = n + 1 → b.length = N → Agree n a b → Agree n (f1 a) (f2 b)) : ∀ (k2 k1 : Nat) (a b : List Bool), a.length = n + 1 → b.length = N → Agree n a b → cntF a < k1 → cntF b < k2 → Agree n (manyL f1 k1 a) (manyL f2 k2 b)
  | 0, _, _, _, _, _, _, _, h => absurd h (by omega)
  | k2 + 1, 0, _, _, _, _, _, h, _ => absurd h (by omega)
  | k2 + 1, k1 + 1, a, b, ha, hb, hab, h1, h2 => by
    have hr := hf a b ha hb hab
    have ga := fun j => joinP_get (f1 a) a j a.length (Nat.le_refl _)
    have gb := fun j => joinP_get (f2 b) b j b.length (Nat.le_refl _)
    have na := joinP_new (f1 a) a a.length (Nat.le_refl _)
    have nb := joinP_new (f2 b) b b.length (Nat.le_refl _)
    have ca := joinP_cnt (f1 a) a a.length (Nat.le_refl _)
    have cb := joinP_cnt (f2 b) b b.length (Nat.le_refl _)
    have la := joinP_len (f1 a) a a.length
    have lb := joinP_len (f2 b) b b.length
    have hj : Agree n (joinP (f1 a) a a.length).1 (joinP (f2 b) b b.length).1 := fun j hj => by
      rw [ga, gb, hab j hj, hr j hj, show decide (j < a.length) = true from decide_eq_true (by omega), show decide (j < b.length) = true from decide_eq_true (by omega)]
    show Agree n (if _ then _ else _) (if _ then _ else _)
    by_cases ya : (joinP (f1 a) a a.length).2 = true
    · have yb : (joinP (f2 b) b b.length).2 = true := by
        obtain ⟨j, h3, h4, h5⟩ := na.1 ya
        exact nb.2 ⟨j, by omega, by rw [← hr j (by omega)]; exact h4, by rw [← hab j (by omega)]; exact h5⟩
      rw [if_pos ya, if_pos yb]
      have c1 := ca.2 ya
      have c2 := cb.2 yb
      exact many_agree2 hN hf k2 k1 _ _ (by omega) (by omega) hj (by omega) (by omega)
    · rw [if_neg ya]
      by_cases yb : (joinP (f2 b) b b.length).2 = true
      · rw [if_pos yb]
        have c2 := cb.2 yb
        have ha1 : Agree n (joinP (f1 a) a a.length).1 a := fun j hj => by
          rw [ga, show decide (j < a.length) = true from decide_eq_true (by omega)]
          cases h3 : a.getD j false with
          | true => rfl
          | false =>
            cases h4 : (f1 a).getD j false with
            | false => rfl
            | true => exact absurd (na.2 ⟨j, by omega, h4, h3⟩) ya
        have := many_agree2 hN hf k2 (k1 + 1) a (joinP (f2 b) b b.length).1 ha (by omega) (fun j hj2 => by rw [← ha1 j hj2]; exact hj j hj2) h1 (by omega)
        have e : manyL f1 (k1 + 1) a = (joinP (f1 a) a a.length).1 := by
          show (if _ then _ else _) = _
          rw [if_neg ya]
        rw [e] at this
        exact this
      · rw [if_neg yb]
        exact hj
theorem getD_mapr (f : Nat → Bool) (m j : Nat) : ((List.range m).map f).getD j false = if j < m then f j else false := by
  rw [List.getD_eq_getElem?_getD, List.getElem?_map]
  split
  · rename_i h
    rw [List.getElem?_range h]
    rfl
  · rename_i h
    rw [List.getElem?_eq_none (by simp; omega)]
    rfl
theorem rd_app {s u : List Int} {k : Nat} (h : k < s.length) : rd (s ++ u) (k : Int) = rd s (k : Int) := by
  unfold rd
  simp [List.getD_eq_getElem?_getD, List.getElem?_append_left h]
theorem ends_agree {s u : List Int} : ∀ {t : Rx} {a b : List Bool}, a.length = s.length + 1 → b.length = (s ++ u).length + 1 → Agree s.length a b → Agree s.length (endsL s t a) (endsL (s ++ u) t b)
  | .nothing, a, b, ha, hb, h => h
  | .one st, a, b, ha, hb, h => fun j hj => by
    show (oneL st s a s.length).getD j false = (oneL st (s ++ u) b (s ++ u).length).getD j false
    unfold oneL
    have hl : (s ++ u).length = s.length + u.length := List.length_append
    rw [getD_mapr, getD_mapr, if_pos (by omega), if_pos (by omega), if_pos (by omega), if_pos (by omega)]
    cases j with
    | zero => rfl
    | succ k =>
      show (a.getD k false && st.has (rd s k).toNat) = (b.getD k false && st.has (rd (s ++ u) k).toNat)
      rw [h k (by omega), rd_app (by omega)]
  | .then_ x y, a, b, ha, hb, h => by
    show Agree s.length (endsL s y (endsL s x a)) (endsL (s ++ u) y (endsL (s ++ u) x b))
    exact ends_agree (endsL_len ha) (endsL_len hb) (ends_agree ha hb h)
  | .either x y, a, b, ha, hb, h => fun j hj => by
    have h1 := ends_agree (t := x) ha hb h j hj
    have h2 := ends_agree (t := y) ha hb h j hj
    have hl : (s ++ u).length = s.length + u.length := List.length_append
    show (orL _ _ _ _).getD j false = (orL _ _ _ _).getD j false
    unfold orL
    rw [getD_mapr, getD_mapr, if_pos (by omega), if_pos (by omega), if_pos (by omega), if_pos (by omega), h1, h2]
  | .star x, a, b, ha, hb, h => by
    have hl : (s ++ u).length = s.length + u.length := List.length_append
    show Agree s.length (manyL (endsL s x) (s.length + 2) a) (manyL (endsL (s ++ u) x) ((s ++ u).length + 2) b)
    have ca := cntF_le a
    have cb := cntF_le b
    -- the second list keeps its length: the rounds are over lists of that length alone
    have key : ∀ (k2 k1 : Nat) (a b : List Bool), a.length = s.length + 1 → b.length = (s ++ u).length + 1 → Agree s.length a b → cntF a < k1 → cntF b < k2 → Agree s.length (manyL (endsL s x) k1 a) (manyL (endsL (s ++ u) x) k2 b) := by
      intro k2 k1 a b ha hb hab h1 h2
      exact many_agree2 (N := (s ++ u).length + 1) (by omega) (fun a b ha hb hab => ends_agree ha hb hab) k2 k1 a b ha hb hab h1 h2
    exact key _ _ a b ha hb h (by omega) (by omega)
theorem firstT_add (l : List Bool) : ∀ (p q i : Nat), firstT l (p + q) i = (match firstT l p i with | some k => some k | none => firstT l q (i + p))
  | 0, q, i => by simp [firstT]
  | p + 1, q, i => by
    rw [show p + 1 + q = (p + q) + 1 by omega]
    show (if l.getD i false = true then some i else firstT l (p + q) (i + 1)) = (match (if l.getD i false = true then some i else firstT l p (i + 1)) with | some k => some k | none => firstT l q (i + (p + 1)))
    by_cases h : l.getD i false = true
    · rw [if_pos h, if_pos h]
    · rw [if_neg h, if_neg h, firstT_add l p q (i + 1), show i + 1 + p = i + (p + 1) by omega]
theorem firstT_ge (l : List Bool) : ∀ (q i k : Nat), firstT l q i = some k → i ≤ k ∧ k < i + q
  | 0, i, k, h => by simp [firstT] at h
  | q + 1, i, k, h => by
    unfold firstT at h
    split at h
    · cases h; omega
    · have := firstT_ge l q (i + 1) k h
      omega
theorem firstT_congr {a b : List Bool} : ∀ (p i : Nat), (∀ j, i ≤ j → j < i + p → a.getD j false = b.getD j false) → firstT a p i = firstT b p i
  | 0, i, h => rfl
  | p + 1, i, h => by
    unfold firstT
    rw [h i (by omega) (by omega), firstT_congr p (i + 1) (fun j h1 h2 => h j (by omega) (by omega))]
theorem idxT_congr {a b : List Bool} : ∀ (p : Nat), (∀ j, j < p → a.getD j false = b.getD j false) → idxT a p = idxT b p
  | 0, h => rfl
  | p + 1, h => by
    unfold idxT
    rw [h p (by omega), idxT_congr p (fun j h1 => h j (by omega))]
theorem idxT_add (l : List Bool) (p : Nat) : ∀ (q : Nat), ∃ M, idxT l (p + q) = idxT l p ++ M
  | 0 => ⟨[], by simp⟩
  | q + 1 => by
    obtain ⟨M, hM⟩ := idxT_add l p q
    show ∃ M, (if l.getD (p + q) false = true then idxT l (p + q) ++ [((p + q : Nat) : Int)] else idxT l (p + q)) = idxT l p ++ M
    split
    · exact ⟨M ++ [((p + q : Nat) : Int)], by rw [hM, List.append_assoc]⟩
    · exact ⟨M, hM⟩
theorem start_agree {n N : Nat} (h : n ≤ N) : Agree n (startL 0 (n + 1)) (startL 0 (N + 1)) := fun j hj => by
  cases j with
  | zero => rfl
  | succ j =>
    simp only [startL, List.getD_eq_getElem?_getD, List.getElem?_set, List.getElem?_replicate]
    repeat' split
    all_goals first | rfl | omega
theorem upto_agree {n N : Nat} (h : n ≤ N) : Agree n (upto (n + 1) (n + 1)) (upto (N + 1) (N + 1)) := fun j hj => by
  unfold upto
  rw [getD_mapr, getD_mapr, if_pos (by omega), if_pos (by omega), decide_eq_true (show j < n + 1 by omega), decide_eq_true (show j < N + 1 by omega)]
section
variable {w0 : World} {B : Nat} {H X : List Chunk}
theorem TO_mk {n : Nat} {fr : Fr} {dst : Option Tmp} {ty : TypeId} {pos : String} {aft : Array Edge} {gd : Option (Nat × Bool)} {K : Fr → List Chunk → Prop} {xs : Array Operand} {ats : Array TypeId} {d : Nat} (hd3 : d ≤ 3) {A : Option Addr} {m c : Nat} {l : List Int} (hS : Shows (WH w0 B H) A m 1 (nums .u8 l)) (hlm : l.length = m) (hc : m ≤ c) (hm : m ≤ 4611686018427387904) (hu : U8s l) (hd : dOk n dst = true) (hx : evs fr xs.toList = some [.slice A m c, .int .i64 (d : Int)]) (h : ∀ v N, Tr (WH w0 B N) (mk d l).2.1 v → K (frPut dst (.tuple #[.string (strOfNums (mk d l).1), v.val]) fr) (H ++ N)) : TO Try.prog w0 B n ⟨dst, .call { callee := .value (.func 19), args := xs, argTypes := ats }, ty, pos, aft, gd⟩ K fr H := by
  refine TO_call (HR := []) call19 hd hx (by rw [List.append_nil]) (Make_t (H := H) hd3 hS hlm hc hm hu) ?_
  rintro v' H' ⟨v, N, rfl, hv, rfl⟩
  rw [List.append_nil]
  exact h v N hv
theorem First_gen {s : List Int} {t : Rx} {v : Nv} {o : Option Nat} {V : Value} (hv : Tr (WH w0 B H) t v) (hu : U8s s) (hs : s.length ≤ 1000) (hk : firstT (endsL s t (upto (s.length + 1) (s.length + 1))) (s.length + 1) 0 = o) (hV : firstV o = V) : TCall Try.prog w0 B 22 [v.val, .string (strOfNums s)].toArray (fun r H' => r = V ∧ H' = H) H := by
  subst hV
  subst hk
  exact First_t (w0 := w0) (B := B) (H := H) hu hs hv
theorem intV_at {L : List Int} {j : Nat} (h : j < L.length) : (intV L)[j * 1]? = some (.int .i64 (L.getD j 0)) := by
  rw [Nat.mul_one]
  simp [intV, List.getD_eq_getElem?_getD, List.getElem?_eq_getElem h]
theorem MatchGrow_t {A0 A1 A2 : Option Addr} {m0 m1 m2 c0 c1 c2 : Nat} {l0 l1 l2 : List Int} (hS0 : Shows (WH w0 B H) A0 m0 1 (nums .u8 l0)) (hm0 : l0.length = m0) (hl0 : m0 ≤ 4611686018427387904) (hc0 : m0 ≤ c0) (hu0 : U8s l0) (hS1 : Shows (WH w0 B H) A1 m1 1 (nums .u8 l1)) (hm1 : l1.length = m1) (hl1 : m1 ≤ 4611686018427387904) (hc1 : m1 ≤ c1) (hu1 : U8s l1) (hS2 : Shows (WH w0 B H) A2 m2 1 (nums .u8 l2)) (hm2 : l2.length = m2) (hl2 : m2 ≤ 4611686018427387904) (hc2 : m2 ≤ c2) (hu2 : U8s l2) :
    TCall Try.prog w0 B 4 #[.slice A0 m0 c0, .slice A1 m1 c1, .slice A2 m2 c2] (fun r H' => r = .bool true ∧ H' = H) H := by
  obtain ⟨t, ht⟩ : ∃ t, (mk 3 l0).2.1 = t := ⟨_, rfl⟩
  obtain ⟨s, hs⟩ : ∃ s, txt l1 m1 = s := ⟨_, rfl⟩
  obtain ⟨u, hu⟩ : ∃ u, txt l2 m2 = u := ⟨_, rfl⟩
  have hms := txt_mem hu1 m1
  have hmu := txt_mem hu2 m2
  have hls := txt_len l1 m1
  have hlu := txt_len l2 m2
  rw [hs] at hms hls
  rw [hu] at hmu hlu
  have hus : U8s s := fun x hx => by have := hms x hx; omega
  have huu : U8s (s ++ u) := fun x hx => by
    rcases List.mem_append.1 hx with h | h
    · have := hms x h; omega
    · have := hmu x h; omega
  have hN : (s ++ u).length = s.length + u.length := List.length_append
  have g1 := ends_agree (t := t) (u := u) (startL_len 0 (s.length + 1)) (startL_len 0 ((s ++ u).length + 1)) (start_agree (by omega))
  have g2 := ends_agree (t := t) (u := u) (upto_len (s.length + 1) (s.length + 1)) (upto_len ((s ++ u).length + 1) ((s ++ u).length + 1)) (upto_agree (by omega))
  obtain ⟨L1, hL1⟩ : ∃ L, idxT (endsL s t (startL 0 (s.length + 1))) (s.length + 1) = L := ⟨_, rfl⟩
  obtain ⟨M, hM⟩ := idxT_add (endsL (s ++ u) t (startL 0 ((s ++ u).length + 1))) (s.length + 1) u.length
  rw [show s.length + 1 + u.length = (s ++ u).length + 1 by omega, ← idxT_congr (s.length + 1) (fun j hj => g1 j (by omega)), hL1] at hM
  obtain ⟨L2, hL2⟩ : ∃ L, L1 ++ M = L := ⟨_, rfl⟩
  rw [hL2] at hM
  have hz1 : (intV L1).length = L1.length := by simp [intV]
  have hz2 : (intV L2).length = L2.length := by simp [intV]
  have hLb : L1.length ≤ s.length + 1 := by rw [← hL1]; exact idxT_le _ _
  have hLle : L1.length ≤ L2.length := by rw [← hL2, List.length_append]; omega
  have hLeq : ∀ j, j < L1.length → L2.getD j 0 = L1.getD j 0 := fun j hj => by
    rw [← hL2, List.getD_eq_getElem?_getD, List.getD_eq_getElem?_getD, List.getElem?_append_left hj]
  have hF := firstT_add (endsL (s ++ u) t (upto ((s ++ u).length + 1) ((s ++ u).length + 1))) (s.length + 1) u.length 0
  rw [show s.length + 1 + u.length = (s ++ u).length + 1 by omega, ← firstT_congr (s.length + 1) 0 (fun j h0 hj => g2 j (by omega))] at hF
  have hT : ∀ {X : List Chunk} {A : Option Addr} {m c : Nat} {l : List Int}, Shows (WH w0 B X) A m 1 (nums .u8 l) → l.length = m → m ≤ 4611686018427387904 → m ≤ c → U8s l → TCall Try.prog w0 B 20 [.slice A m c].toArray (fun r H' => r = .string (strOfNums (txt l m)) ∧ H' = X) X := fun hS h1 h2 h3 h4 => Text_t hS h1 (by omega) h3 h4
  have hHN : ∀ N : List Chunk, H.Sublist (H ++ N) := fun N => List.sublist_append_left H N
  have hNH : ∀ N : List Chunk, N.Sublist (H ++ N) := fun N => List.sublist_append_right H N
  have hT1 : ∀ {X : List Chunk}, Shows (WH w0 B X) A1 m1 1 (nums .u8 l1) → TCall Try.prog w0 B 20 [.slice A1 m1 c1].toArray (fun r H' => r = .string (strOfNums s) ∧ H' = X) X := fun {X} h => by
    have := hT h hm1 hl1 hc1 hu1
    rw [hs] at this
    exact this
  have hT2 : ∀ {X : List Chunk}, Shows (WH w0 B X) A2 m2 1 (nums .u8 l2) → TCall Try.prog w0 B 20 [.slice A2 m2 c2].toArray (fun r H' => r = .string (strOfNums u) ∧ H' = X) X := fun {X} h => by
    have := hT h hm2 hl2 hc2 hu2
    rw [hu] at this
    exact this
  have hvt : ∀ {W : World → Prop} {v : Nv}, Tr W (mk 3 l0).2.1 v → Tr W t v := fun h => ht ▸ h
  have e66 : Value.int .i64 (((strOfNums s).size : Nat) : Int) = .int .i64 ((s.length : Nat) : Int) := by rw [str_len]
  rcases ho : firstT (endsL s t (upto (s.length + 1) (s.length + 1))) (s.length + 1) 0 with _ | k
  · rw [ho] at hF
    rcases ho2 : firstT (endsL (s ++ u) t (upto ((s ++ u).length + 1) ((s ++ u).length + 1))) u.length (0 + (s.length + 1)) with _ | k
    · replace hF := hF.trans ho2
      refine TCall_intro (args := [_, _, _]) Try.func4 rfl Try.ntmps4 (Nat.le_of_ble_eq_true rfl) ?_
      refine T_seq ?_
      refine T_region ?_
      refine TL_pure (d := (some 6)) rfl rfl rfl (PV_assign rfl) ?_
      refine TL_nil ?_
      refine T_seq ?_
      refine T_seq ?_
      refine T_region ?_
      refine TL_cons rfl (TO_call0 call18 rfl rfl (awake08s) ?_)
      rintro v18_1003 H18_1003 ⟨rfl, rfl⟩
      refine TL_pure (d := (some 19)) rfl rfl rfl (PV_not rfl) ?_
      refine TL_nil ?_
      refine T_else rfl (by rfl) ?_
      refine T_skip ?_
      refine T_seq ?_
      refine T_region ?_
      refine TL_pure (d := (some 21)) rfl rfl rfl (PV_move rfl) ?_
      refine TL_cons rfl (TO_mk (d := 3) (by omega) hS0 hm0 hc0 hl0 hu0 rfl rfl fun v22 N22 hv22 => ?_)
      refine TL_pure (d := (some 20)) rfl rfl rfl (PV_move rfl) ?_
      refine TL_pure (d := (some 23)) rfl rfl rfl (PV_extract rfl rfl) ?_
      refine TL_pure (d := (some 24)) rfl rfl rfl (PV_extract rfl rfl) ?_
      refine TL_cons rfl (TO_alloc rfl zr30 fun g1005 => ?_)
      refine TL_pure (d := (some 7)) rfl rfl rfl (PV_assign rfl) ?_
      refine TL_cons rfl (TO_store 0 rfl rfl rfl sz30 rfl rfl rfl (List.forall_mem_cons.2 ⟨by first | rfl, List.forall_mem_cons.2 ⟨by first | rfl, List.forall_mem_cons.2 ⟨by first | rfl, List.forall_mem_cons.2 ⟨by first | rfl, List.forall_mem_cons.2 ⟨by first | rfl, List.forall_mem_cons.2 ⟨by first | rfl, by simp⟩⟩⟩⟩⟩⟩) (by first | exact Nat.le_of_ble_eq_true rfl | (simp; done) | (simp; omega) | omega) ?_)
      refine TL_nil ?_
      refine T_seq ?_
      refine T_region ?_
      refine TL_pure (d := (some 25)) rfl rfl rfl (PV_move rfl) ?_
      refine TL_cons rfl (TO_eqD call20 (hT1 (hS1.mono fun w h => h.sub ((hHN N22).trans (by repeat (first | exact List.Sublist.refl _ | exact List.sublist_append_right _ _ | exact List.sublist_append_left _ _ | apply List.Sublist.cons | refine List.Sublist.trans ?_ (List.sublist_append_left _ _)))))) rfl rfl _ (List.Sublist.refl _) ?_)
      refine TL_pure (d := (some 27)) rfl rfl rfl (PV_move rfl) ?_
      refine TL_cons rfl (TO_eqD call20 (hT2 (hS2.mono fun w h => h.sub ((hHN N22).trans (by repeat (first | exact List.Sublist.refl _ | exact List.sublist_append_right _ _ | exact List.sublist_append_left _ _ | apply List.Sublist.cons | refine List.Sublist.trans ?_ (List.sublist_append_left _ _)))))) rfl rfl _ (List.Sublist.refl _) ?_)
      refine TL_pure (d := (some 9)) rfl rfl rfl (PV_assign rfl) ?_
      refine TL_pure (d := (some 10)) rfl rfl rfl (PV_assign rfl) ?_
      refine TL_nil ?_
      refine T_seq ?_
      refine T_region ?_
      refine TL_pure (d := (some 30)) rfl rfl rfl (PV_loadAt Try.underlying30 rfl sz30 rfl (Rds.take 0 rfl rfl rfl)) ?_
      refine TL_pure (d := (some 31)) rfl rfl rfl (PV_move rfl) ?_
      refine TL_cons rfl (TO_eqD call22 (First_gen (V := .tuple #[.int .i64 0, .bool false]) ((hvt hv22).mono fun w h => h.sub ((hNH N22).trans (by repeat (first | exact List.Sublist.refl _ | exact List.sublist_append_right _ _ | exact List.sublist_append_left _ _ | apply List.Sublist.cons | refine List.Sublist.trans ?_ (List.sublist_append_left _ _))))) hus (by omega) ho rfl) rfl rfl _ (List.Sublist.refl _) ?_)
      refine TL_pure (d := (some 29)) rfl rfl rfl (PV_move rfl) ?_
      refine TL_pure (d := (some 33)) rfl rfl rfl (PV_extract rfl rfl) ?_
      refine TL_pure (d := (some 34)) rfl rfl rfl (PV_extract rfl rfl) ?_
      refine TL_pure (d := (some 11)) rfl rfl rfl (PV_assign rfl) ?_
      refine TL_pure (d := (some 12)) rfl rfl rfl (PV_assign rfl) ?_
      refine TL_nil ?_
      refine T_seq ?_
      refine T_region ?_
      refine TL_pure (d := (some 36)) rfl rfl rfl (PV_loadAt Try.underlying30 rfl sz30 rfl (Rds.take 0 rfl rfl rfl)) ?_
      refine TL_pure (d := (some 37)) rfl rfl rfl (PV_move rfl) ?_
      refine TL_pure (d := (some 38)) rfl rfl rfl (PV_move rfl) ?_
      refine TL_pure (d := (some 39)) rfl rfl rfl (PV_bin rfl rfl (bin_cat rfl rfl (by omega))) ?_
      refine TL_cons rfl (TO_eqD call22 (First_gen (V := .tuple #[.int .i64 0, .bool false]) ((hvt hv22).mono fun w h => h.sub ((hNH N22).trans (by repeat (first | exact List.Sublist.refl _ | exact List.sublist_append_right _ _ | exact List.sublist_append_left _ _ | apply List.Sublist.cons | refine List.Sublist.trans ?_ (List.sublist_append_left _ _))))) huu (by omega) hF rfl) rfl rfl _ (List.Sublist.refl _) ?_)
      refine TL_pure (d := (some 35)) rfl rfl rfl (PV_move rfl) ?_
      refine TL_pure (d := (some 41)) rfl rfl rfl (PV_extract rfl rfl) ?_
      refine TL_pure (d := (some 42)) rfl rfl rfl (PV_extract rfl rfl) ?_
      refine TL_pure (d := (some 13)) rfl rfl rfl (PV_assign rfl) ?_
      refine TL_pure (d := (some 14)) rfl rfl rfl (PV_assign rfl) ?_
      refine TL_nil ?_
      refine T_seq ?_
      refine T_drawn (WH _ _ _) mixed (fun w h => h) ?_
      refine TA_take (dd := (some 43)) 0 rfl (by kernel_rfl) (by kernel_rfl) (by kernel_rfl) rfl rfl rfl (PV_loadAt Try.underlying30 rfl sz30 rfl (Rds.take 0 rfl rfl rfl)) ?_
      refine TA_take (dd := (some 44)) 1 rfl (by kernel_rfl) (by kernel_rfl) (by kernel_rfl) rfl rfl rfl (PV_move rfl) ?_
      refine TA_take (dd := (some 46)) 3 rfl (by kernel_rfl) (by kernel_rfl) (by kernel_rfl) rfl rfl rfl (PV_loadAt Try.underlying30 rfl sz30 rfl (Rds.take 0 rfl rfl rfl)) ?_
      refine TA_take (dd := (some 47)) 4 rfl (by kernel_rfl) (by kernel_rfl) (by kernel_rfl) rfl rfl rfl (PV_move rfl) ?_
      refine TA_take (dd := (some 48)) 5 rfl (by kernel_rfl) (by kernel_rfl) (by kernel_rfl) rfl rfl rfl (PV_move rfl) ?_
      refine TA_take (dd := (some 49)) 6 rfl (by kernel_rfl) (by kernel_rfl) (by kernel_rfl) rfl rfl rfl (PV_bin rfl rfl (bin_cat rfl rfl (by omega))) ?_
      refine TA_one 2 (by kernel_rfl) rfl rfl (TO_Ends (f := 0) ((hvt hv22).mono fun w h => h.sub ((hNH N22).trans (by repeat (first | exact List.Sublist.refl _ | exact List.sublist_append_right _ _ | exact List.sublist_append_left _ _ | apply List.Sublist.cons | refine List.Sublist.trans ?_ (List.sublist_append_left _ _))))) hus (by omega) (by omega) hL1 rfl rfl fun A45 c45 hc45 => ?_)
      refine ⟨by intro w h; first | exact h | exact trivial | (refine WH.sub h ?_; (repeat (first | exact List.Sublist.refl _ | exact List.sublist_append_right _ _ | exact List.sublist_append_left _ _ | apply List.Sublist.cons | refine List.Sublist.trans ?_ (List.sublist_append_left _ _))); done) | (refine WH.sub h ?_; (repeat (first | exact List.Sublist.refl _ | exact List.sublist_append_right _ _ | exact List.sublist_append_left _ _ | apply List.Sublist.cons_cons | apply List.Sublist.cons | refine List.Sublist.trans ?_ (List.sublist_append_left _ _))); done), ?_⟩
      refine TA_one 7 (by kernel_rfl) rfl rfl (TO_Ends (f := 0) ((hvt hv22).mono fun w h => h.sub ((hNH N22).trans (by repeat (first | exact List.Sublist.refl _ | exact List.sublist_append_right _ _ | exact List.sublist_append_left _ _ | apply List.Sublist.cons | refine List.Sublist.trans ?_ (List.sublist_append_left _ _))))) huu (by omega) (by omega) hM rfl rfl fun A50 c50 hc50 => ?_)
      refine ⟨by intro w h; first | exact h | exact trivial | (refine WH.sub h ?_; (repeat (first | exact List.Sublist.refl _ | exact List.sublist_append_right _ _ | exact List.sublist_append_left _ _ | apply List.Sublist.cons | refine List.Sublist.trans ?_ (List.sublist_append_left _ _))); done) | (refine WH.sub h ?_; (repeat (first | exact List.Sublist.refl _ | exact List.sublist_append_right _ _ | exact List.sublist_append_left _ _ | apply List.Sublist.cons_cons | apply List.Sublist.cons | refine List.Sublist.trans ?_ (List.sublist_append_left _ _))); done), ?_⟩
      refine TA_take (dd := (some 15)) 8 rfl (by kernel_rfl) (by kernel_rfl) (by kernel_rfl) rfl rfl rfl (PV_assign rfl) ?_
      refine TA_take (dd := (some 16)) 9 rfl (by kernel_rfl) (by kernel_rfl) (by kernel_rfl) rfl rfl rfl (PV_assign rfl) ?_
      refine TA_done (by kernel_rfl) ?_
      refine T_seq ?_
      refine T_seq ?_
      refine T_region ?_
      refine TL_pure (d := (some 51)) rfl rfl rfl (PV_move rfl) ?_
      refine TL_pure (d := (some 52)) rfl rfl rfl (PV_move rfl) ?_
      refine TL_no (b := false) rfl rfl rfl rfl ?_
      refine TL_no (b := false) rfl rfl rfl rfl ?_
      refine TL_no (b := false) rfl rfl rfl rfl ?_
      refine TL_noU rfl rfl rfl rfl ?_
      refine TL_noU rfl rfl rfl rfl ?_
      refine TL_noU rfl rfl rfl rfl ?_
      refine TL_no (b := false) rfl rfl rfl rfl ?_
      refine TL_pure (d := (some 60)) rfl rfl rfl (PV_pickF rfl (by first | assumption | rfl | (simp; done) | (simp; omega) | (simp [*]; done) | (simp [*]; omega)) rfl rfl) ?_
      refine TL_pure (d := (some 61)) rfl rfl rfl (PV_move rfl) ?_
      refine TL_yes rfl rfl rfl (TO_pure rfl (PV_move rfl) ?_)
      refine TL_yes rfl rfl rfl (TO_pure rfl (PV_move rfl) ?_)
      refine TL_no (b := false) rfl rfl rfl rfl ?_
      refine TL_no (b := false) rfl rfl rfl rfl ?_
      refine TL_no (b := false) rfl rfl rfl rfl ?_
      refine TL_no (b := false) rfl rfl rfl rfl ?_
      refine TL_yes rfl rfl rfl (TO_pure rfl (PV_pickF rfl (by first | assumption | rfl | (simp; done) | (simp; omega) | (simp [*]; done) | (simp [*]; omega)) rfl rfl) ?_)
      refine TL_yes rfl rfl rfl (TO_pure rfl (PV_move rfl) ?_)
      refine TL_no (b := false) rfl rfl rfl rfl ?_
      refine TL_no (b := false) rfl rfl rfl rfl ?_
      refine TL_yes rfl rfl rfl (TO_pure rfl (PV_pickF rfl (by first | assumption | rfl | (simp; done) | (simp; omega) | (simp [*]; done) | (simp [*]; omega)) rfl rfl) ?_)
      refine TL_pure (d := (some 73)) rfl rfl rfl (PV_pickOr rfl rfl rfl) ?_
      refine TL_pure (d := (some 74)) rfl rfl rfl (PV_move rfl) ?_
      refine TL_yes rfl rfl rfl (TO_pure rfl (PV_move rfl) ?_)
      refine TL_yes rfl rfl rfl (TO_pure rfl (PV_len_slice Try.underlying35 rfl) ?_)
      refine TL_yes rfl rfl rfl (TO_pure rfl (PV_move rfl) ?_)
      refine TL_yes rfl rfl rfl (TO_pure rfl (PV_len_slice Try.underlying35 rfl) ?_)
      refine TL_yes rfl rfl rfl (TO_pure rfl (PV_bin rfl rfl bin_gtr) ?_)
      refine TL_pure (d := (some 80)) rfl rfl rfl (PV_pickOr rfl rfl rfl) ?_
      refine TL_nil ?_
      refine T_else rfl (by exact decide_eq_false (by omega)) ?_
      refine T_skip ?_
      refine T_seq ?_
      refine T_seq ?_
      refine T_region ?_
      refine TL_pure (d := (some 81)) rfl rfl rfl (PV_move rfl) ?_
      refine TL_pure (d := (some 82)) rfl rfl rfl (PV_len_slice Try.underlying35 rfl) ?_
      refine TL_pure (d := (some 83)) rfl rfl rfl (PV_move rfl) ?_
      refine TL_nil ?_
      refine T_block ?_
      refine ?L11
      case L11 =>
        refine T_loopP1 (fun (i : Nat) => i ≤ L1.length) (fun i => L1.length - i) (fun i => [(6, .bool false), (15, .slice A45 L1.length c45), (16, .slice A50 L2.length c50), (82, .int .i64 (L1.length : Int)), (83, .int .i64 (i : Int))]) (fun i => .sl (.slice A45 L1.length c45) 1 L1.length (intV L1) :: .sl (.slice A50 L2.length c50) 1 L2.length (intV L2) :: (H ++ N22)) 0 (Nat.zero_le _) (by repeat (first | exact FrSub.nil _ | refine FrSub.cons rfl ?_)) (Has.of_perm ((perm_pick (i := 1) rfl).trans (List.Perm.cons _ ((perm_pick (i := 0) rfl).trans (List.Perm.cons _ (List.Perm.refl _))))) (by repeat (first | exact List.Sublist.refl _ | exact List.sublist_append_right _ _ | exact List.sublist_append_left _ _ | apply List.Sublist.cons_cons | apply List.Sublist.cons | refine List.Sublist.trans ?_ (List.sublist_append_left _ _)))) ?_
        intro i hi
        by_cases hil : i < L1.length
        · have e95 : Value.int .i64 (IntKind.i64.wrap ((i : Int) + 1)) = .int .i64 ((i + 1 : Nat) : Int) := wr64n _ (by push_cast; rfl) (by omega)
          refine T_shows (Shows.at 0 rfl) (by omega) fun g45 o45 hA45 hrd45 => ?_
          subst hA45
          have hr45 : Rd _ ⟨g45, o45 + i * 1, none⟩ (.int .i64 (L1.getD i 0)) := hrd45 (i * 1) _ (intV_at hil)
          refine T_shows (Shows.at 1 rfl) (by omega) fun g50 o50 hA50 hrd50 => ?_
          subst hA50
          have hr50 : Rd _ ⟨g50, o50 + i * 1, none⟩ (.int .i64 (L1.getD i 0)) := hrd50 (i * 1) _ (by rw [← hLeq i hil]; exact intV_at (by omega))
          refine T_seq ?_
          refine T_region ?_
          refine TL_pure (d := (some 84)) rfl rfl rfl (PV_bin rfl rfl bin_lss) ?_
          refine TL_nil ?_
          refine T_seq ?_
          refine T_then rfl (by exact decide_eq_true (by omega)) ?_
          refine T_skip ?_
          refine T_seq ?_
          refine T_block ?_
          refine T_seq ?_
          refine T_region ?_
          refine TL_pure (d := (some 85)) rfl rfl rfl (PV_move rfl) ?_
          refine TL_pure (d := (some 17)) rfl rfl rfl (PV_assign rfl) ?_
          refine TL_nil ?_
          refine T_seq ?_
          refine T_drawn (WH _ _ _) mixed (fun w h => h) ?_
          refine TA_take (dd := (some 86)) 0 rfl (by kernel_rfl) (by kernel_rfl) (by kernel_rfl) rfl rfl rfl (PV_move rfl) ?_
          refine TA_take (dd := (some 87)) 1 rfl (by kernel_rfl) (by kernel_rfl) (by kernel_rfl) rfl rfl rfl (PV_move rfl) ?_
          refine TA_take (dd := (some 88)) 2 rfl (by kernel_rfl) (by kernel_rfl) (by kernel_rfl) rfl rfl rfl (PV_indexAddr Try.underlying35 sz3 rfl rfl rfl (by first | omega | decide | assumption)) ?_
          refine TA_take (dd := (some 89)) 3 rfl (by kernel_rfl) (by kernel_rfl) (by kernel_rfl) rfl rfl rfl (PV_load Try.underlying3 rfl rfl hr45) ?_
          refine TA_take (dd := (some 90)) 4 rfl (by kernel_rfl) (by kernel_rfl) (by kernel_rfl) rfl rfl rfl (PV_move rfl) ?_
          refine TA_take (dd := (some 91)) 5 rfl (by kernel_rfl) (by kernel_rfl) (by kernel_rfl) rfl rfl rfl (PV_move rfl) ?_
          refine TA_take (dd := (some 92)) 6 rfl (by kernel_rfl) (by kernel_rfl) (by kernel_rfl) rfl rfl rfl (PV_indexAddr Try.underlying35 sz3 rfl rfl rfl (by first | omega | decide | assumption)) ?_
          refine TA_take (dd := (some 93)) 7 rfl (by kernel_rfl) (by kernel_rfl) (by kernel_rfl) rfl rfl rfl (PV_load Try.underlying3 rfl rfl hr50) ?_
          refine TA_take (dd := (some 94)) 8 rfl (by kernel_rfl) (by kernel_rfl) (by kernel_rfl) rfl rfl rfl (PV_bin rfl rfl bin_neq) ?_
          refine TA_done (by kernel_rfl) ?_
          refine T_else rfl (by (simp; done)) ?_
          refine T_skip ?_
          refine T_region ?_
          refine TL_pure (d := (some 95)) rfl rfl rfl (PV.cast (PV_bin rfl rfl bin_add) e95) ?_
          refine TL_pure (d := (some 83)) rfl rfl rfl (PV_move rfl) ?_
          refine TL_nil ?_
          refine ?L41
          case L41 =>
            exact ⟨i + 1, by omega, by omega, (by repeat (first | exact FrSub.nil _ | refine FrSub.cons rfl ?_)), Has.of_sub (by repeat (first | exact List.Sublist.refl _ | exact List.sublist_append_right _ _ | exact List.sublist_append_left _ _ | apply List.Sublist.cons_cons | apply List.Sublist.cons | refine List.Sublist.trans ?_ (List.sublist_append_left _ _)))⟩
        · obtain rfl : i = L1.length := by omega
          refine T.drop (H' := H) ((hHN N22).trans (by repeat (first | exact List.Sublist.refl _ | exact List.sublist_append_right _ _ | exact List.sublist_append_left _ _ | apply List.Sublist.cons | refine List.Sublist.trans ?_ (List.sublist_append_left _ _)))) ?_
          refine T_seq ?_
          refine T_region ?_
          refine TL_pure (d := (some 84)) rfl rfl rfl (PV_bin rfl rfl bin_lss) ?_
          refine TL_nil ?_
          refine T_seq ?_
          refine T_else rfl (by (simp; done)) ?_
          refine T_exit ?_
          refine T_seq ?_
          refine T_region ?_
          refine TL_pure (d := (some 6)) rfl rfl rfl (PV_assign rfl) ?_
          refine TL_nil ?_
          refine T_ret ?_
          refine ret_ret (ResV_one rfl rfl) ⟨_, List.Sublist.refl _, ⟨rfl, rfl⟩⟩
    · have hkg := firstT_ge _ _ _ _ ho2
      replace hF := hF.trans ho2
      refine TCall_intro (args := [_, _, _]) Try.func4 rfl Try.ntmps4 (Nat.le_of_ble_eq_true rfl) ?_
      refine T_seq ?_
      refine T_region ?_
      refine TL_pure (d := (some 6)) rfl rfl rfl (PV_assign rfl) ?_
      refine TL_nil ?_
      refine T_seq ?_
      refine T_seq ?_
      refine T_region ?_
      refine TL_cons rfl (TO_call0 call18 rfl rfl (awake08s) ?_)
      rintro v18_2003 H18_2003 ⟨rfl, rfl⟩
      refine TL_pure (d := (some 19)) rfl rfl rfl (PV_not rfl) ?_
      refine TL_nil ?_
      refine T_else rfl (by rfl) ?_
      refine T_skip ?_
      refine T_seq ?_
      refine T_region ?_
      refine TL_pure (d := (some 21)) rfl rfl rfl (PV_move rfl) ?_
      refine TL_cons rfl (TO_mk (d := 3) (by omega) hS0 hm0 hc0 hl0 hu0 rfl rfl fun v22 N22 hv22 => ?_)
      refine TL_pure (d := (some 20)) rfl rfl rfl (PV_move rfl) ?_
      refine TL_pure (d := (some 23)) rfl rfl rfl (PV_extract rfl rfl) ?_
      refine TL_pure (d := (some 24)) rfl rfl rfl (PV_extract rfl rfl) ?_
      refine TL_cons rfl (TO_alloc rfl zr30 fun g2005 => ?_)
      refine TL_pure (d := (some 7)) rfl rfl rfl (PV_assign rfl) ?_
      refine TL_cons rfl (TO_store 0 rfl rfl rfl sz30 rfl rfl rfl (List.forall_mem_cons.2 ⟨by first | rfl, List.forall_mem_cons.2 ⟨by first | rfl, List.forall_mem_cons.2 ⟨by first | rfl, List.forall_mem_cons.2 ⟨by first | rfl, List.forall_mem_cons.2 ⟨by first | rfl, List.forall_mem_cons.2 ⟨by first | rfl, by simp⟩⟩⟩⟩⟩⟩) (by first | exact Nat.le_of_ble_eq_true rfl | (simp; done) | (simp; omega) | omega) ?_)
      refine TL_nil ?_
      refine T_seq ?_
      refine T_region ?_
      refine TL_pure (d := (some 25)) rfl rfl rfl (PV_move rfl) ?_
      refine TL_cons rfl (TO_eqD call20 (hT1 (hS1.mono fun w h => h.sub ((hHN N22).trans (by repeat (first | exact List.Sublist.refl _ | exact List.sublist_append_right _ _ | exact List.sublist_append_left _ _ | apply List.Sublist.cons | refine List.Sublist.trans ?_ (List.sublist_append_left _ _)))))) rfl rfl _ (List.Sublist.refl _) ?_)
      refine TL_pure (d := (some 27)) rfl rfl rfl (PV_move rfl) ?_
      refine TL_cons rfl (TO_eqD call20 (hT2 (hS2.mono fun w h => h.sub ((hHN N22).trans (by repeat (first | exact List.Sublist.refl _ | exact List.sublist_append_right _ _ | exact List.sublist_append_left _ _ | apply List.Sublist.cons | refine List.Sublist.trans ?_ (List.sublist_append_left _ _)))))) rfl rfl _ (List.Sublist.refl _) ?_)
      refine TL_pure (d := (some 9)) rfl rfl rfl (PV_assign rfl) ?_
      refine TL_pure (d := (some 10)) rfl rfl rfl (PV_assign rfl) ?_
      refine TL_nil ?_
      refine T_seq ?_
      refine T_region ?_
      refine TL_pure (d := (some 30)) rfl rfl rfl (PV_loadAt Try.underlying30 rfl sz30 rfl (Rds.take 0 rfl rfl rfl)) ?_
      refine TL_pure (d := (some 31)) rfl rfl rfl (PV_move rfl) ?_
      refine TL_cons rfl (TO_eqD call22 (First_gen (V := .tuple #[.int .i64 0, .bool false]) ((hvt hv22).mono fun w h => h.sub ((hNH N22).trans (by repeat (first | exact List.Sublist.refl _ | exact List.sublist_append_right _ _ | exact List.sublist_append_left _ _ | apply List.Sublist.cons | refine List.Sublist.trans ?_ (List.sublist_append_left _ _))))) hus (by omega) ho rfl) rfl rfl _ (List.Sublist.refl _) ?_)
      refine TL_pure (d := (some 29)) rfl rfl rfl (PV_move rfl) ?_
      refine TL_pure (d := (some 33)) rfl rfl rfl (PV_extract rfl rfl) ?_
      refine TL_pure (d := (some 34)) rfl rfl rfl (PV_extract rfl rfl) ?_
      refine TL_pure (d := (some 11)) rfl rfl rfl (PV_assign rfl) ?_
      refine TL_pure (d := (some 12)) rfl rfl rfl (PV_assign rfl) ?_
      refine TL_nil ?_
      refine T_seq ?_
      refine T_region ?_
      refine TL_pure (d := (some 36)) rfl rfl rfl (PV_loadAt Try.underlying30 rfl sz30 rfl (Rds.take 0 rfl rfl rfl)) ?_
      refine TL_pure (d := (some 37)) rfl rfl rfl (PV_move rfl) ?_
      refine TL_pure (d := (some 38)) rfl rfl rfl (PV_move rfl) ?_
      refine TL_pure (d := (some 39)) rfl rfl rfl (PV_bin rfl rfl (bin_cat rfl rfl (by omega))) ?_
      refine TL_cons rfl (TO_eqD call22 (First_gen (V := .tuple #[.int .i64 (k : Int), .bool true]) ((hvt hv22).mono fun w h => h.sub ((hNH N22).trans (by repeat (first | exact List.Sublist.refl _ | exact List.sublist_append_right _ _ | exact List.sublist_append_left _ _ | apply List.Sublist.cons | refine List.Sublist.trans ?_ (List.sublist_append_left _ _))))) huu (by omega) hF rfl) rfl rfl _ (List.Sublist.refl _) ?_)
      refine TL_pure (d := (some 35)) rfl rfl rfl (PV_move rfl) ?_
      refine TL_pure (d := (some 41)) rfl rfl rfl (PV_extract rfl rfl) ?_
      refine TL_pure (d := (some 42)) rfl rfl rfl (PV_extract rfl rfl) ?_
      refine TL_pure (d := (some 13)) rfl rfl rfl (PV_assign rfl) ?_
      refine TL_pure (d := (some 14)) rfl rfl rfl (PV_assign rfl) ?_
      refine TL_nil ?_
      refine T_seq ?_
      refine T_drawn (WH _ _ _) mixed (fun w h => h) ?_
      refine TA_take (dd := (some 43)) 0 rfl (by kernel_rfl) (by kernel_rfl) (by kernel_rfl) rfl rfl rfl (PV_loadAt Try.underlying30 rfl sz30 rfl (Rds.take 0 rfl rfl rfl)) ?_
      refine TA_take (dd := (some 44)) 1 rfl (by kernel_rfl) (by kernel_rfl) (by kernel_rfl) rfl rfl rfl (PV_move rfl) ?_
      refine TA_take (dd := (some 46)) 3 rfl (by kernel_rfl) (by kernel_rfl) (by kernel_rfl) rfl rfl rfl (PV_loadAt Try.underlying30 rfl sz30 rfl (Rds.take 0 rfl rfl rfl)) ?_
      refine TA_take (dd := (some 47)) 4 rfl (by kernel_rfl) (by kernel_rfl) (by kernel_rfl) rfl rfl rfl (PV_move rfl) ?_
      refine TA_take (dd := (some 48)) 5 rfl (by kernel_rfl) (by kernel_rfl) (by kernel_rfl) rfl rfl rfl (PV_move rfl) ?_
      refine TA_take (dd := (some 49)) 6 rfl (by kernel_rfl) (by kernel_rfl) (by kernel_rfl) rfl rfl rfl (PV_bin rfl rfl (bin_cat rfl rfl (by omega))) ?_
      refine TA_one 2 (by kernel_rfl) rfl rfl (TO_Ends (f := 0) ((hvt hv22).mono fun w h => h.sub ((hNH N22).trans (by repeat (first | exact List.Sublist.refl _ | exact List.sublist_append_right _ _ | exact List.sublist_append_left _ _ | apply List.Sublist.cons | refine List.Sublist.trans ?_ (List.sublist_append_left _ _))))) hus (by omega) (by omega) hL1 rfl rfl fun A45 c45 hc45 => ?_)
      refine ⟨by intro w h; first | exact h | exact trivial | (refine WH.sub h ?_; (repeat (first | exact List.Sublist.refl _ | exact List.sublist_append_right _ _ | exact List.sublist_append_left _ _ | apply List.Sublist.cons | refine List.Sublist.trans ?_ (List.sublist_append_left _ _))); done) | (refine WH.sub h ?_; (repeat (first | exact List.Sublist.refl _ | exact List.sublist_append_right _ _ | exact List.sublist_append_left _ _ | apply List.Sublist.cons_cons | apply List.Sublist.cons | refine List.Sublist.trans ?_ (List.sublist_append_left _ _))); done), ?_⟩
      refine TA_one 7 (by kernel_rfl) rfl rfl (TO_Ends (f := 0) ((hvt hv22).mono fun w h => h.sub ((hNH N22).trans (by repeat (first | exact List.Sublist.refl _ | exact List.sublist_append_right _ _ | exact List.sublist_append_left _ _ | apply List.Sublist.cons | refine List.Sublist.trans ?_ (List.sublist_append_left _ _))))) huu (by omega) (by omega) hM rfl rfl fun A50 c50 hc50 => ?_)
      refine ⟨by intro w h; first | exact h | exact trivial | (refine WH.sub h ?_; (repeat (first | exact List.Sublist.refl _ | exact List.sublist_append_right _ _ | exact List.sublist_append_left _ _ | apply List.Sublist.cons | refine List.Sublist.trans ?_ (List.sublist_append_left _ _))); done) | (refine WH.sub h ?_; (repeat (first | exact List.Sublist.refl _ | exact List.sublist_append_right _ _ | exact List.sublist_append_left _ _ | apply List.Sublist.cons_cons | apply List.Sublist.cons | refine List.Sublist.trans ?_ (List.sublist_append_left _ _))); done), ?_⟩
      refine TA_take (dd := (some 15)) 8 rfl (by kernel_rfl) (by kernel_rfl) (by kernel_rfl) rfl rfl rfl (PV_assign rfl) ?_
      refine TA_take (dd := (some 16)) 9 rfl (by kernel_rfl) (by kernel_rfl) (by kernel_rfl) rfl rfl rfl (PV_assign rfl) ?_
      refine TA_done (by kernel_rfl) ?_
      refine T_seq ?_
      refine T_seq ?_
      refine T_region ?_
      refine TL_pure (d := (some 51)) rfl rfl rfl (PV_move rfl) ?_
      refine TL_pure (d := (some 52)) rfl rfl rfl (PV_move rfl) ?_
      refine TL_no (b := false) rfl rfl rfl rfl ?_
      refine TL_no (b := false) rfl rfl rfl rfl ?_
      refine TL_no (b := false) rfl rfl rfl rfl ?_
      refine TL_noU rfl rfl rfl rfl ?_
      refine TL_noU rfl rfl rfl rfl ?_
      refine TL_noU rfl rfl rfl rfl ?_
      refine TL_no (b := false) rfl rfl rfl rfl ?_
      refine TL_pure (d := (some 60)) rfl rfl rfl (PV_pickF rfl (by first | assumption | rfl | (simp; done) | (simp; omega) | (simp [*]; done) | (simp [*]; omega)) rfl rfl) ?_
      refine TL_pure (d := (some 61)) rfl rfl rfl (PV_move rfl) ?_
      refine TL_yes rfl rfl rfl (TO_pure rfl (PV_move rfl) ?_)
      refine TL_yes rfl rfl rfl (TO_pure rfl (PV_move rfl) ?_)
      refine TL_yes rfl rfl rfl (TO_pure rfl (PV_move rfl) ?_)
      refine TL_yes rfl rfl rfl (TO_pure rfl (PV_move rfl) ?_)
      refine TL_yes rfl rfl rfl (TO_pure rfl (PV.cast (PV_len_string Try.underlying9 rfl) e66) ?_)
      refine TL_yes rfl rfl rfl (TO_pure rfl (PV_bin rfl rfl bin_leq) ?_)
      refine TL_yes rfl rfl rfl (TO_pure rfl (PV_pickAnd rfl rfl rfl) ?_)
      refine TL_yes rfl rfl rfl (TO_pure rfl (PV_move rfl) ?_)
      refine TL_no (b := false) rfl rfl (gfalse (by exact decide_eq_false (by omega))) rfl ?_
      refine TL_no (b := false) rfl rfl (gfalse (by exact decide_eq_false (by omega))) rfl ?_
      refine TL_yes rfl rfl rfl (TO_pure rfl (PV_pickF rfl (by first | assumption | rfl | (simp; done) | (simp; omega) | (simp [*]; done) | (simp [*]; omega)) rfl rfl) ?_)
      refine TL_pure (d := (some 73)) rfl rfl rfl (PV_pickOr rfl rfl rfl) ?_
      refine TL_pure (d := (some 74)) rfl rfl rfl (PV_move rfl) ?_
      refine TL_yes rfl rfl rfl (TO_pure rfl (PV_move rfl) ?_)
      refine TL_yes rfl rfl rfl (TO_pure rfl (PV_len_slice Try.underlying35 rfl) ?_)
      refine TL_yes rfl rfl rfl (TO_pure rfl (PV_move rfl) ?_)
      refine TL_yes rfl rfl rfl (TO_pure rfl (PV_len_slice Try.underlying35 rfl) ?_)
      refine TL_yes rfl rfl rfl (TO_pure rfl (PV_bin rfl rfl bin_gtr) ?_)
      refine TL_pure (d := (some 80)) rfl rfl rfl (PV_pickOr rfl rfl rfl) ?_
      refine TL_nil ?_
      refine T_else rfl (by exact decide_eq_false (by omega)) ?_
      refine T_skip ?_
      refine T_seq ?_
      refine T_seq ?_
      refine T_region ?_
      refine TL_pure (d := (some 81)) rfl rfl rfl (PV_move rfl) ?_
      refine TL_pure (d := (some 82)) rfl rfl rfl (PV_len_slice Try.underlying35 rfl) ?_
      refine TL_pure (d := (some 83)) rfl rfl rfl (PV_move rfl) ?_
      refine TL_nil ?_
      refine T_block ?_
      refine ?L21
      case L21 =>
        refine T_loopP1 (fun (i : Nat) => i ≤ L1.length) (fun i => L1.length - i) (fun i => [(6, .bool false), (15, .slice A45 L1.length c45), (16, .slice A50 L2.length c50), (82, .int .i64 (L1.length : Int)), (83, .int .i64 (i : Int))]) (fun i => .sl (.slice A45 L1.length c45) 1 L1.length (intV L1) :: .sl (.slice A50 L2.length c50) 1 L2.length (intV L2) :: (H ++ N22)) 0 (Nat.zero_le _) (by repeat (first | exact FrSub.nil _ | refine FrSub.cons rfl ?_)) (Has.of_perm ((perm_pick (i := 1) rfl).trans (List.Perm.cons _ ((perm_pick (i := 0) rfl).trans (List.Perm.cons _ (List.Perm.refl _))))) (by repeat (first | exact List.Sublist.refl _ | exact List.sublist_append_right _ _ | exact List.sublist_append_left _ _ | apply List.Sublist.cons_cons | apply List.Sublist.cons | refine List.Sublist.trans ?_ (List.sublist_append_left _ _)))) ?_
        intro i hi
        by_cases hil : i < L1.length
        · have e95 : Value.int .i64 (IntKind.i64.wrap ((i : Int) + 1)) = .int .i64 ((i + 1 : Nat) : Int) := wr64n _ (by push_cast; rfl) (by omega)
          refine T_shows (Shows.at 0 rfl) (by omega) fun g45 o45 hA45 hrd45 => ?_
          subst hA45
          have hr45 : Rd _ ⟨g45, o45 + i * 1, none⟩ (.int .i64 (L1.getD i 0)) := hrd45 (i * 1) _ (intV_at hil)
          refine T_shows (Shows.at 1 rfl) (by omega) fun g50 o50 hA50 hrd50 => ?_
          subst hA50
          have hr50 : Rd _ ⟨g50, o50 + i * 1, none⟩ (.int .i64 (L1.getD i 0)) := hrd50 (i * 1) _ (by rw [← hLeq i hil]; exact intV_at (by omega))
          refine T_seq ?_
          refine T_region ?_
          refine TL_pure (d := (some 84)) rfl rfl rfl (PV_bin rfl rfl bin_lss) ?_
          refine TL_nil ?_
          refine T_seq ?_
          refine T_then rfl (by exact decide_eq_true (by omega)) ?_
          refine T_skip ?_
          refine T_seq ?_
          refine T_block ?_
          refine T_seq ?_
          refine T_region ?_
          refine TL_pure (d := (some 85)) rfl rfl rfl (PV_move rfl) ?_
          refine TL_pure (d := (some 17)) rfl rfl rfl (PV_assign rfl) ?_
          refine TL_nil ?_
          refine T_seq ?_
          refine T_drawn (WH _ _ _) mixed (fun w h => h) ?_
          refine TA_take (dd := (some 86)) 0 rfl (by kernel_rfl) (by kernel_rfl) (by kernel_rfl) rfl rfl rfl (PV_move rfl) ?_
          refine TA_take (dd := (some 87)) 1 rfl (by kernel_rfl) (by kernel_rfl) (by kernel_rfl) rfl rfl rfl (PV_move rfl) ?_
          refine TA_take (dd := (some 88)) 2 rfl (by kernel_rfl) (by kernel_rfl) (by kernel_rfl) rfl rfl rfl (PV_indexAddr Try.underlying35 sz3 rfl rfl rfl (by first | omega | decide | assumption)) ?_
          refine TA_take (dd := (some 89)) 3 rfl (by kernel_rfl) (by kernel_rfl) (by kernel_rfl) rfl rfl rfl (PV_load Try.underlying3 rfl rfl hr45) ?_
          refine TA_take (dd := (some 90)) 4 rfl (by kernel_rfl) (by kernel_rfl) (by kernel_rfl) rfl rfl rfl (PV_move rfl) ?_
          refine TA_take (dd := (some 91)) 5 rfl (by kernel_rfl) (by kernel_rfl) (by kernel_rfl) rfl rfl rfl (PV_move rfl) ?_
          refine TA_take (dd := (some 92)) 6 rfl (by kernel_rfl) (by kernel_rfl) (by kernel_rfl) rfl rfl rfl (PV_indexAddr Try.underlying35 sz3 rfl rfl rfl (by first | omega | decide | assumption)) ?_
          refine TA_take (dd := (some 93)) 7 rfl (by kernel_rfl) (by kernel_rfl) (by kernel_rfl) rfl rfl rfl (PV_load Try.underlying3 rfl rfl hr50) ?_
          refine TA_take (dd := (some 94)) 8 rfl (by kernel_rfl) (by kernel_rfl) (by kernel_rfl) rfl rfl rfl (PV_bin rfl rfl bin_neq) ?_
          refine TA_done (by kernel_rfl) ?_
          refine T_else rfl (by (simp; done)) ?_
          refine T_skip ?_
          refine T_region ?_
          refine TL_pure (d := (some 95)) rfl rfl rfl (PV.cast (PV_bin rfl rfl bin_add) e95) ?_
          refine TL_pure (d := (some 83)) rfl rfl rfl (PV_move rfl) ?_
          refine TL_nil ?_
          refine ?L61
          case L61 =>
            exact ⟨i + 1, by omega, by omega, (by repeat (first | exact FrSub.nil _ | refine FrSub.cons rfl ?_)), Has.of_sub (by repeat (first | exact List.Sublist.refl _ | exact List.sublist_append_right _ _ | exact List.sublist_append_left _ _ | apply List.Sublist.cons_cons | apply List.Sublist.cons | refine List.Sublist.trans ?_ (List.sublist_append_left _ _)))⟩
        · obtain rfl : i = L1.length := by omega
          refine T.drop (H' := H) ((hHN N22).trans (by repeat (first | exact List.Sublist.refl _ | exact List.sublist_append_right _ _ | exact List.sublist_append_left _ _ | apply List.Sublist.cons | refine List.Sublist.trans ?_ (List.sublist_append_left _ _)))) ?_
          refine T_seq ?_
          refine T_region ?_
          refine TL_pure (d := (some 84)) rfl rfl rfl (PV_bin rfl rfl bin_lss) ?_
          refine TL_nil ?_
          refine T_seq ?_
          refine T_else rfl (by (simp; done)) ?_
          refine T_exit ?_
          refine T_seq ?_
          refine T_region ?_
          refine TL_pure (d := (some 6)) rfl rfl rfl (PV_assign rfl) ?_
          refine TL_nil ?_
          refine T_ret ?_
          refine ret_ret (ResV_one rfl rfl) ⟨_, List.Sublist.refl _, ⟨rfl, rfl⟩⟩
  · rw [ho] at hF
    have hkg := firstT_ge _ _ _ _ ho
    refine TCall_intro (args := [_, _, _]) Try.func4 rfl Try.ntmps4 (Nat.le_of_ble_eq_true rfl) ?_
    refine T_seq ?_
    refine T_region ?_
    refine TL_pure (d := (some 6)) rfl rfl rfl (PV_assign rfl) ?_
    refine TL_nil ?_
    refine T_seq ?_
    refine T_seq ?_
    refine T_region ?_
    refine TL_cons rfl (TO_call0 call18 rfl rfl (awake08s) ?_)
    rintro v18_3003 H18_3003 ⟨rfl, rfl⟩
    refine TL_pure (d := (some 19)) rfl rfl rfl (PV_not rfl) ?_
    refine TL_nil ?_
    refine T_else rfl (by rfl) ?_
    refine T_skip ?_
    refine T_seq ?_
    refine T_region ?_
    refine TL_pure (d := (some 21)) rfl rfl rfl (PV_move rfl) ?_
    refine TL_cons rfl (TO_mk (d := 3) (by omega) hS0 hm0 hc0 hl0 hu0 rfl rfl fun v22 N22 hv22 => ?_)
    refine TL_pure (d := (some 20)) rfl rfl rfl (PV_move rfl) ?_
    refine TL_pure (d := (some 23)) rfl rfl rfl (PV_extract rfl rfl) ?_
    refine TL_pure (d := (some 24)) rfl rfl rfl (PV_extract rfl rfl) ?_
    refine TL_cons rfl (TO_alloc rfl zr30 fun g3005 => ?_)
    refine TL_pure (d := (some 7)) rfl rfl rfl (PV_assign rfl) ?_
    refine TL_cons rfl (TO_store 0 rfl rfl rfl sz30 rfl rfl rfl (List.forall_mem_cons.2 ⟨by first | rfl, List.forall_mem_cons.2 ⟨by first | rfl, List.forall_mem_cons.2 ⟨by first | rfl, List.forall_mem_cons.2 ⟨by first | rfl, List.forall_mem_cons.2 ⟨by first | rfl, List.forall_mem_cons.2 ⟨by first | rfl, by simp⟩⟩⟩⟩⟩⟩) (by first | exact Nat.le_of_ble_eq_true rfl | (simp; done) | (simp; omega) | omega) ?_)
    refine TL_nil ?_
    refine T_seq ?_
    refine T_region ?_
    refine TL_pure (d := (some 25)) rfl rfl rfl (PV_move rfl) ?_
    refine TL_cons rfl (TO_eqD call20 (hT1 (hS1.mono fun w h => h.sub ((hHN N22).trans (by repeat (first | exact List.Sublist.refl _ | exact List.sublist_append_right _ _ | exact List.sublist_append_left _ _ | apply List.Sublist.cons | refine List.Sublist.trans ?_ (List.sublist_append_left _ _)))))) rfl rfl _ (List.Sublist.refl _) ?_)
    refine TL_pure (d := (some 27)) rfl rfl rfl (PV_move rfl) ?_
    refine TL_cons rfl (TO_eqD call20 (hT2 (hS2.mono fun w h => h.sub ((hHN N22).trans (by repeat (first | exact List.Sublist.refl _ | exact List.sublist_append_right _ _ | exact List.sublist_append_left _ _ | apply List.Sublist.cons | refine List.Sublist.trans ?_ (List.sublist_append_left _ _)))))) rfl rfl _ (List.Sublist.refl _) ?_)
    refine TL_pure (d := (some 9)) rfl rfl rfl (PV_assign rfl) ?_
    refine TL_pure (d := (some 10)) rfl rfl rfl (PV_assign rfl) ?_
    refine TL_nil ?_
    refine T_seq ?_
    refine T_region ?_
    refine TL_pure (d := (some 30)) rfl rfl rfl (PV_loadAt Try.underlying30 rfl sz30 rfl (Rds.take 0 rfl rfl rfl)) ?_
    refine TL_pure (d := (some 31)) rfl rfl rfl (PV_move rfl) ?_
    refine TL_cons rfl (TO_eqD call22 (First_gen (V := .tuple #[.int .i64 (k : Int), .bool true]) ((hvt hv22).mono fun w h => h.sub ((hNH N22).trans (by repeat (first | exact List.Sublist.refl _ | exact List.sublist_append_right _ _ | exact List.sublist_append_left _ _ | apply List.Sublist.cons | refine List.Sublist.trans ?_ (List.sublist_append_left _ _))))) hus (by omega) ho rfl) rfl rfl _ (List.Sublist.refl _) ?_)
    refine TL_pure (d := (some 29)) rfl rfl rfl (PV_move rfl) ?_
    refine TL_pure (d := (some 33)) rfl rfl rfl (PV_extract rfl rfl) ?_
    refine TL_pure (d := (some 34)) rfl rfl rfl (PV_extract rfl rfl) ?_
    refine TL_pure (d := (some 11)) rfl rfl rfl (PV_assign rfl) ?_
    refine TL_pure (d := (some 12)) rfl rfl rfl (PV_assign rfl) ?_
    refine TL_nil ?_
    refine T_seq ?_
    refine T_region ?_
    refine TL_pure (d := (some 36)) rfl rfl rfl (PV_loadAt Try.underlying30 rfl sz30 rfl (Rds.take 0 rfl rfl rfl)) ?_
    refine TL_pure (d := (some 37)) rfl rfl rfl (PV_move rfl) ?_
    refine TL_pure (d := (some 38)) rfl rfl rfl (PV_move rfl) ?_
    refine TL_pure (d := (some 39)) rfl rfl rfl (PV_bin rfl rfl (bin_cat rfl rfl (by omega))) ?_
    refine TL_cons rfl (TO_eqD call22 (First_gen (V := .tuple #[.int .i64 (k : Int), .bool true]) ((hvt hv22).mono fun w h => h.sub ((hNH N22).trans (by repeat (first | exact List.Sublist.refl _ | exact List.sublist_append_right _ _ | exact List.sublist_append_left _ _ | apply List.Sublist.cons | refine List.Sublist.trans ?_ (List.sublist_append_left _ _))))) huu (by omega) hF rfl) rfl rfl _ (List.Sublist.refl _) ?_)
    refine TL_pure (d := (some 35)) rfl rfl rfl (PV_move rfl) ?_
    refine TL_pure (d := (some 41)) rfl rfl rfl (PV_extract rfl rfl) ?_
    refine TL_pure (d := (some 42)) rfl rfl rfl (PV_extract rfl rfl) ?_
    refine TL_pure (d := (some 13)) rfl rfl rfl (PV_assign rfl) ?_
    refine TL_pure (d := (some 14)) rfl rfl rfl (PV_assign rfl) ?_
    refine TL_nil ?_
    refine T_seq ?_
    refine T_drawn (WH _ _ _) mixed (fun w h => h) ?_
    refine TA_take (dd := (some 43)) 0 rfl (by kernel_rfl) (by kernel_rfl) (by kernel_rfl) rfl rfl rfl (PV_loadAt Try.underlying30 rfl sz30 rfl (Rds.take 0 rfl rfl rfl)) ?_
    refine TA_take (dd := (some 44)) 1 rfl (by kernel_rfl) (by kernel_rfl) (by kernel_rfl) rfl rfl rfl (PV_move rfl) ?_
    refine TA_take (dd := (some 46)) 3 rfl (by kernel_rfl) (by kernel_rfl) (by kernel_rfl) rfl rfl rfl (PV_loadAt Try.underlying30 rfl sz30 rfl (Rds.take 0 rfl rfl rfl)) ?_
    refine TA_take (dd := (some 47)) 4 rfl (by kernel_rfl) (by kernel_rfl) (by kernel_rfl) rfl rfl rfl (PV_move rfl) ?_
    refine TA_take (dd := (some 48)) 5 rfl (by kernel_rfl) (by kernel_rfl) (by kernel_rfl) rfl rfl rfl (PV_move rfl) ?_
    refine TA_take (dd := (some 49)) 6 rfl (by kernel_rfl) (by kernel_rfl) (by kernel_rfl) rfl rfl rfl (PV_bin rfl rfl (bin_cat rfl rfl (by omega))) ?_
    refine TA_one 2 (by kernel_rfl) rfl rfl (TO_Ends (f := 0) ((hvt hv22).mono fun w h => h.sub ((hNH N22).trans (by repeat (first | exact List.Sublist.refl _ | exact List.sublist_append_right _ _ | exact List.sublist_append_left _ _ | apply List.Sublist.cons | refine List.Sublist.trans ?_ (List.sublist_append_left _ _))))) hus (by omega) (by omega) hL1 rfl rfl fun A45 c45 hc45 => ?_)
    refine ⟨by intro w h; first | exact h | exact trivial | (refine WH.sub h ?_; (repeat (first | exact List.Sublist.refl _ | exact List.sublist_append_right _ _ | exact List.sublist_append_left _ _ | apply List.Sublist.cons | refine List.Sublist.trans ?_ (List.sublist_append_left _ _))); done) | (refine WH.sub h ?_; (repeat (first | exact List.Sublist.refl _ | exact List.sublist_append_right _ _ | exact List.sublist_append_left _ _ | apply List.Sublist.cons_cons | apply List.Sublist.cons | refine List.Sublist.trans ?_ (List.sublist_append_left _ _))); done), ?_⟩
    refine TA_one 7 (by kernel_rfl) rfl rfl (TO_Ends (f := 0) ((hvt hv22).mono fun w h => h.sub ((hNH N22).trans (by repeat (first | exact List.Sublist.refl _ | exact List.sublist_append_right _ _ | exact List.sublist_append_left _ _ | apply List.Sublist.cons | refine List.Sublist.trans ?_ (List.sublist_append_left _ _))))) huu (by omega) (by omega) hM rfl rfl fun A50 c50 hc50 => ?_)
    refine ⟨by intro w h; first | exact h | exact trivial | (refine WH.sub h ?_; (repeat (first | exact List.Sublist.refl _ | exact List.sublist_append_right _ _ | exact List.sublist_append_left _ _ | apply List.Sublist.cons | refine List.Sublist.trans ?_ (List.sublist_append_left _ _))); done) | (refine WH.sub h ?_; (repeat (first | exact List.Sublist.refl _ | exact List.sublist_append_right _ _ | exact List.sublist_append_left _ _ | apply List.Sublist.cons_cons | apply List.Sublist.cons | refine List.Sublist.trans ?_ (List.sublist_append_left _ _))); done), ?_⟩
    refine TA_take (dd := (some 15)) 8 rfl (by kernel_rfl) (by kernel_rfl) (by kernel_rfl) rfl rfl rfl (PV_assign rfl) ?_
    refine TA_take (dd := (some 16)) 9 rfl (by kernel_rfl) (by kernel_rfl) (by kernel_rfl) rfl rfl rfl (PV_assign rfl) ?_
    refine TA_done (by kernel_rfl) ?_
    refine T_seq ?_
    refine T_seq ?_
    refine T_region ?_
    refine TL_pure (d := (some 51)) rfl rfl rfl (PV_move rfl) ?_
    refine TL_pure (d := (some 52)) rfl rfl rfl (PV_move rfl) ?_
    refine TL_yes rfl rfl rfl (TO_pure rfl (PV_move rfl) ?_)
    refine TL_yes rfl rfl rfl (TO_pure rfl (PV_not rfl) ?_)
    refine TL_yes rfl rfl rfl (TO_pure rfl (PV_move rfl) ?_)
    refine TL_yes rfl rfl rfl (TO_pure rfl (PV_move rfl) ?_)
    refine TL_yes rfl rfl rfl (TO_pure rfl (PV_move rfl) ?_)
    refine TL_yes rfl rfl rfl (TO_pure rfl (PV_bin rfl rfl bin_neq) ?_)
    refine TL_yes rfl rfl rfl (TO_pure rfl (PV_pickOr rfl rfl rfl) ?_)
    refine TL_pure (d := (some 60)) rfl rfl rfl (PV_pickAnd rfl rfl rfl) ?_
    refine TL_pure (d := (some 61)) rfl rfl rfl (PV_move rfl) ?_
    refine TL_yes rfl rfl (gfalse (by (simp; done))) (TO_pure rfl (PV_move rfl) ?_)
    refine TL_yes rfl rfl (gfalse (by (simp; done))) (TO_pure rfl (PV_move rfl) ?_)
    refine TL_yes rfl rfl rfl (TO_pure rfl (PV_move rfl) ?_)
    refine TL_yes rfl rfl rfl (TO_pure rfl (PV_move rfl) ?_)
    refine TL_yes rfl rfl rfl (TO_pure rfl (PV.cast (PV_len_string Try.underlying9 rfl) e66) ?_)
    refine TL_yes rfl rfl rfl (TO_pure rfl (PV_bin rfl rfl bin_leq) ?_)
    refine TL_yes rfl rfl (gfalse (by (simp; done))) (TO_pure rfl (PV_pickAnd rfl rfl rfl) ?_)
    refine TL_yes rfl rfl (gfalse (by (simp; done))) (TO_pure rfl (PV_move rfl) ?_)
    refine TL_yes rfl rfl (gtrue (by exact decide_eq_true (by omega))) (TO_pure rfl (PV_move rfl) ?_)
    refine TL_yes rfl rfl (gtrue (by exact decide_eq_true (by omega))) (TO_pure rfl (PV_not rfl) ?_)
    refine TL_yes rfl rfl (gfalse (by (simp; done))) (TO_pure rfl (PV_pickAnd rfl rfl rfl) ?_)
    refine TL_pure (d := (some 73)) rfl rfl rfl (PV_pickOr rfl rfl rfl) ?_
    refine TL_pure (d := (some 74)) rfl rfl rfl (PV_move rfl) ?_
    refine TL_yes rfl rfl (gfalse (by (simp; done))) (TO_pure rfl (PV_move rfl) ?_)
    refine TL_yes rfl rfl (gfalse (by (simp; done))) (TO_pure rfl (PV_len_slice Try.underlying35 rfl) ?_)
    refine TL_yes rfl rfl (gfalse (by (simp; done))) (TO_pure rfl (PV_move rfl) ?_)
    refine TL_yes rfl rfl (gfalse (by (simp; done))) (TO_pure rfl (PV_len_slice Try.underlying35 rfl) ?_)
    refine TL_yes rfl rfl (gfalse (by (simp; done))) (TO_pure rfl (PV_bin rfl rfl bin_gtr) ?_)
    refine TL_pure (d := (some 80)) rfl rfl rfl (PV_pickOr rfl rfl rfl) ?_
    refine TL_nil ?_
    refine T_else rfl (by (simp; omega)) ?_
    refine T_skip ?_
    refine T_seq ?_
    refine T_seq ?_
    refine T_region ?_
    refine TL_pure (d := (some 81)) rfl rfl rfl (PV_move rfl) ?_
    refine TL_pure (d := (some 82)) rfl rfl rfl (PV_len_slice Try.underlying35 rfl) ?_
    refine TL_pure (d := (some 83)) rfl rfl rfl (PV_move rfl) ?_
    refine TL_nil ?_
    refine T_block ?_
    refine ?L31
    case L31 =>
      refine T_loopP1 (fun (i : Nat) => i ≤ L1.length) (fun i => L1.length - i) (fun i => [(6, .bool false), (15, .slice A45 L1.length c45), (16, .slice A50 L2.length c50), (82, .int .i64 (L1.length : Int)), (83, .int .i64 (i : Int))]) (fun i => .sl (.slice A45 L1.length c45) 1 L1.length (intV L1) :: .sl (.slice A50 L2.length c50) 1 L2.length (intV L2) :: (H ++ N22)) 0 (Nat.zero_le _) (by repeat (first | exact FrSub.nil _ | refine FrSub.cons rfl ?_)) (Has.of_perm ((perm_pick (i := 1) rfl).trans (List.Perm.cons _ ((perm_pick (i := 0) rfl).trans (List.Perm.cons _ (List.Perm.refl _))))) (by repeat (first | exact List.Sublist.refl _ | exact List.sublist_append_right _ _ | exact List.sublist_append_left _ _ | apply List.Sublist.cons_cons | apply List.Sublist.cons | refine List.Sublist.trans ?_ (List.sublist_append_left _ _)))) ?_
      intro i hi
      by_cases hil : i < L1.length
      · have e95 : Value.int .i64 (IntKind.i64.wrap ((i : Int) + 1)) = .int .i64 ((i + 1 : Nat) : Int) := wr64n _ (by push_cast; rfl) (by omega)
        refine T_shows (Shows.at 0 rfl) (by omega) fun g45 o45 hA45 hrd45 => ?_
        subst hA45
        have hr45 : Rd _ ⟨g45, o45 + i * 1, none⟩ (.int .i64 (L1.getD i 0)) := hrd45 (i * 1) _ (intV_at hil)
        refine T_shows (Shows.at 1 rfl) (by omega) fun g50 o50 hA50 hrd50 => ?_
        subst hA50
        have hr50 : Rd _ ⟨g50, o50 + i * 1, none⟩ (.int .i64 (L1.getD i 0)) := hrd50 (i * 1) _ (by rw [← hLeq i hil]; exact intV_at (by omega))
        refine T_seq ?_
        refine T_region ?_
        refine TL_pure (d := (some 84)) rfl rfl rfl (PV_bin rfl rfl bin_lss) ?_
        refine TL_nil ?_
        refine T_seq ?_
        refine T_then rfl (by exact decide_eq_true (by omega)) ?_
        refine T_skip ?_
        refine T_seq ?_
        refine T_block ?_
        refine T_seq ?_
        refine T_region ?_
        refine TL_pure (d := (some 85)) rfl rfl rfl (PV_move rfl) ?_
        refine TL_pure (d := (some 17)) rfl rfl rfl (PV_assign rfl) ?_
        refine TL_nil ?_
        refine T_seq ?_
        refine T_drawn (WH _ _ _) mixed (fun w h => h) ?_
        refine TA_take (dd := (some 86)) 0 rfl (by kernel_rfl) (by kernel_rfl) (by kernel_rfl) rfl rfl rfl (PV_move rfl) ?_
        refine TA_take (dd := (some 87)) 1 rfl (by kernel_rfl) (by kernel_rfl) (by kernel_rfl) rfl rfl rfl (PV_move rfl) ?_
        refine TA_take (dd := (some 88)) 2 rfl (by kernel_rfl) (by kernel_rfl) (by kernel_rfl) rfl rfl rfl (PV_indexAddr Try.underlying35 sz3 rfl rfl rfl (by first | omega | decide | assumption)) ?_
        refine TA_take (dd := (some 89)) 3 rfl (by kernel_rfl) (by kernel_rfl) (by kernel_rfl) rfl rfl rfl (PV_load Try.underlying3 rfl rfl hr45) ?_
        refine TA_take (dd := (some 90)) 4 rfl (by kernel_rfl) (by kernel_rfl) (by kernel_rfl) rfl rfl rfl (PV_move rfl) ?_
        refine TA_take (dd := (some 91)) 5 rfl (by kernel_rfl) (by kernel_rfl) (by kernel_rfl) rfl rfl rfl (PV_move rfl) ?_
        refine TA_take (dd := (some 92)) 6 rfl (by kernel_rfl) (by kernel_rfl) (by kernel_rfl) rfl rfl rfl (PV_indexAddr Try.underlying35 sz3 rfl rfl rfl (by first | omega | decide | assumption)) ?_
        refine TA_take (dd := (some 93)) 7 rfl (by kernel_rfl) (by kernel_rfl) (by kernel_rfl) rfl rfl rfl (PV_load Try.underlying3 rfl rfl hr50) ?_
        refine TA_take (dd := (some 94)) 8 rfl (by kernel_rfl) (by kernel_rfl) (by kernel_rfl) rfl rfl rfl (PV_bin rfl rfl bin_neq) ?_
        refine TA_done (by kernel_rfl) ?_
        refine T_else rfl (by (simp; done)) ?_
        refine T_skip ?_
        refine T_region ?_
        refine TL_pure (d := (some 95)) rfl rfl rfl (PV.cast (PV_bin rfl rfl bin_add) e95) ?_
        refine TL_pure (d := (some 83)) rfl rfl rfl (PV_move rfl) ?_
        refine TL_nil ?_
        refine ?L81
        case L81 =>
          exact ⟨i + 1, by omega, by omega, (by repeat (first | exact FrSub.nil _ | refine FrSub.cons rfl ?_)), Has.of_sub (by repeat (first | exact List.Sublist.refl _ | exact List.sublist_append_right _ _ | exact List.sublist_append_left _ _ | apply List.Sublist.cons_cons | apply List.Sublist.cons | refine List.Sublist.trans ?_ (List.sublist_append_left _ _)))⟩
      · obtain rfl : i = L1.length := by omega
        refine T.drop (H' := H) ((hHN N22).trans (by repeat (first | exact List.Sublist.refl _ | exact List.sublist_append_right _ _ | exact List.sublist_append_left _ _ | apply List.Sublist.cons | refine List.Sublist.trans ?_ (List.sublist_append_left _ _)))) ?_
        refine T_seq ?_
        refine T_region ?_
        refine TL_pure (d := (some 84)) rfl rfl rfl (PV_bin rfl rfl bin_lss) ?_
        refine TL_nil ?_
        refine T_seq ?_
        refine T_else rfl (by (simp; done)) ?_
        refine T_exit ?_
        refine T_seq ?_
        refine T_region ?_
        refine TL_pure (d := (some 6)) rfl rfl rfl (PV_assign rfl) ?_
        refine TL_nil ?_
        refine T_ret ?_
        refine ret_ret (ResV_one rfl rfl) ⟨_, List.Sublist.refl _, ⟨rfl, rfl⟩⟩
end
end Go.Proofs.Ytkgdphbccagjcaa.SL
