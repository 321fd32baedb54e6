import Derived.Test.YtcbkcggijejooaaL6
/- Blocks of which a byte is turned. No statement is proved here. -/
set_option linter.unusedVariables false
set_option linter.unusedSimpArgs false
set_option maxRecDepth 100000
namespace Go.Proofs.Ytcbkcggijejooaa.SL
open Go Go.RowKit
section
theorem strOf_inj {xs ys : List Int} (hx : U8s xs) (hy : U8s ys) (h : strOfNums xs = strOfNums ys) : xs = ys := by
  unfold strOfNums at h
  have h1 : (xs.map fun n => UInt8.ofNat n.toNat) = ys.map fun n => UInt8.ofNat n.toNat := by
    have := congrArg (fun s : ByteArray => s.data.toList) h
    simpa using this
  apply List.ext_getElem
  · have := congrArg List.length h1; simpa using this
  · intro i h2 h3
    have h4 := congrArg (fun l : List UInt8 => l[i]?) h1
    simp only [List.getElem?_map, List.getElem?_eq_getElem h2, List.getElem?_eq_getElem h3, Option.map_some, Option.some.injEq] at h4
    have h5 := congrArg UInt8.toNat h4
    have hx1 := hx _ (List.getElem_mem h2)
    have hy1 := hy _ (List.getElem_mem h3)
    simp only [UInt8.toNat_ofNat'] at h5
    omega
theorem trailL_u8 (l : List Int) (crc : Bool) : U8s (trailL l crc) := by
  have h1 := crcI_range l
  have h2 := sumI_range l
  intro x hx
  unfold trailL at hx
  split at hx
  · simp at hx; rcases hx with rfl | rfl <;> omega
  · simp at hx; subst hx; exact h2
theorem rd_append_left (xs ys : List Int) (i : Nat) (h : i < xs.length) : rd (xs ++ ys) i = rd xs i := by
  simp [rd, List.getD_eq_getElem?_getD, List.getElem?_append_left h]
theorem scan_form {m : Nat} {a b : Int} {d e : List Int} {crc : Bool} (hm : d.length = m) (hm2 : m = 128 ∨ m = 1024) (he : e.length = (trailL [] crc).length) :
    scanS (leadOf m :: a :: b :: (d ++ e)) crc = (if a ≠ 255 - b then 1 else if strOfNums (trailL d crc) = strOfNums e then 2 else 1) ∧ scanD (leadOf m :: a :: b :: (d ++ e)) crc = d ∧ scanE (leadOf m :: a :: b :: (d ++ e)) crc = e := by
  have ht0 := trailL_len [] crc
  have e0 : rd (leadOf m :: a :: b :: (d ++ e)) 0 = leadOf m := rfl
  have e1 : rd (leadOf m :: a :: b :: (d ++ e)) 1 = a := rfl
  have e2 : rd (leadOf m :: a :: b :: (d ++ e)) 2 = b := rfl
  have hl : (leadOf m :: a :: b :: (d ++ e)).length = 3 + m + (trailL [] crc).length := by simp [hm, he]; omega
  have hs : sizeL (leadOf m) crc = 3 + m + (trailL [] crc).length := by
    rw [ht0]
    rcases hm2 with rfl | rfl <;> cases crc <;> rfl
  have hT : scanT (leadOf m :: a :: b :: (d ++ e)) crc = m + 3 := by
    unfold scanT
    rw [e0, hs]
    omega
  have hD : scanD (leadOf m :: a :: b :: (d ++ e)) crc = d := by
    unfold scanD
    rw [hT]
    simp only [List.take_succ_cons, List.drop_succ_cons, List.drop_zero]
    rw [List.take_append_of_le_length (by omega), List.take_of_length_le (by omega)]
  have hE : scanE (leadOf m :: a :: b :: (d ++ e)) crc = e := by
    unfold scanE
    rw [hT, e0, hs, List.take_of_length_le (by omega)]
    simp only [List.drop_succ_cons]
    rw [← hm, List.drop_left]
  refine ⟨?_, hD, hE⟩
  unfold scanS
  rw [if_neg (by rw [hl]; omega), e0, if_neg (by rw [hs]; omega), e1, e2, hD, hE]
  by_cases hx : a ≠ 255 - b
  · rw [if_pos ⟨by rw [hl]; omega, hx⟩, if_pos hx]
  · rw [if_neg (fun h => hx h.2), if_neg (by rw [hs, hl]; omega), if_neg hx]
theorem blockL_form (lead num : Int) (l : List Int) (crc : Bool) : blockL lead num l crc = lead :: num :: (255 - num) :: (l ++ trailL l crc) := by
  unfold blockL
  rw [List.append_assoc]
  rfl
theorem trailL_set {l : List Int} {crc : Bool} (hu : U8s l) (k : Nat) (hk : k < l.length) (v : Int) (h0 : 0 ≤ v) (h1 : v ≤ 255) (h : trailL (l.set k v) crc = trailL l crc) : v = rd l k := by
  unfold trailL at h
  cases crc with
  | true =>
    simp only [if_true] at h
    have c1 := crcI_range l
    have c2 := crcI_range (l.set k v)
    injection h with h2 h3
    injection h3 with h3 h4
    exact (crcI_set l k hk v hu h0 h1).1 (by omega)
  | false =>
    simp only [Bool.false_eq_true, if_false] at h
    injection h with h2 h3
    exact (sumI_set l k hk v hu h0 h1).1 h2.symm
/-- A block of which one byte is turned is none. -/
theorem scan_turned {m : Nat} {num : Int} {l : List Int} {crc : Bool} (hm : l.length = m) (hm2 : m = 128 ∨ m = 1024) (hn : 0 ≤ num ∧ num ≤ 255) (hu : U8s l) (k : Nat) (hk : 1 ≤ k) (hk2 : k < (blockL (leadOf m) num l crc).length) (v : Int) (h0 : 0 ≤ v) (h1 : v ≤ 255) (hv : v ≠ rd (blockL (leadOf m) num l crc) k) :
    scanS ((blockL (leadOf m) num l crc).set k v) crc = 1 := by
  have hl := blockL_len' (leadOf m) num l crc
  have ht := trailL_len l crc
  have ht0 := trailL_len [] crc
  rw [blockL_form] at hv hk2 ⊢
  obtain ⟨k, rfl⟩ : ∃ j, k = j + 1 := ⟨k - 1, by omega⟩
  simp only [List.set_cons_succ]
  rcases k with _ | _ | k
  · simp only [List.set_cons_zero]
    rw [(scan_form hm hm2 (by rw [ht, ht0])).1, if_pos]
    intro e
    apply hv
    show v = num
    omega
  · simp only [Nat.zero_add, List.set_cons_succ, List.set_cons_zero]
    rw [(scan_form hm hm2 (by rw [ht, ht0])).1, if_pos]
    intro e
    apply hv
    show v = 255 - num
    omega
  · simp only [List.set_cons_succ]
    have hv' : v ≠ rd (l ++ trailL l crc) k := by
      intro e
      apply hv
      rw [e]
      simp [rd, List.getD_eq_getElem?_getD]
      rfl
    by_cases hkm : k < m
    · rw [List.set_append_left _ _ (by omega), (scan_form (by rw [List.length_set]; exact hm) hm2 (by rw [ht, ht0])).1, if_neg (by simp; omega), if_neg]
      intro e
      have hus : U8s (l.set k v) := U8s_set hu k v h0 h1
      have e2 := strOf_inj (trailL_u8 _ _) (trailL_u8 _ _) e
      have := trailL_set hu k (by omega) v h0 h1 e2
      exact hv' (by rw [this, show ((k : Nat) : Int) = (k : Int) from rfl, rd_append_left _ _ _ (by omega)])
    · have hkt : k - l.length < (trailL l crc).length := by
        simp only [List.length_cons, List.length_append] at hk2
        omega
      rw [List.set_append_right _ _ (by omega), (scan_form hm hm2 (by rw [List.length_set, ht, ht0])).1, if_neg (by simp; omega), if_neg]
      intro e
      have e2 := strOf_inj (trailL_u8 _ _) (U8s_set (trailL_u8 _ _) _ _ h0 h1) e
      have e3 := congrArg (fun x : List Int => x[k - l.length]?) e2
      simp only [List.getElem?_set_self hkt] at e3
      apply hv'
      simp [rd, List.getD_eq_getElem?_getD, List.getElem?_append_right (show l.length ≤ k by omega), e3]
theorem set_same (xs : List Int) (i : Nat) (h : i < xs.length) : xs.set i (rd xs i) = xs := by
  have : rd xs i = xs[i] := by simp [rd, List.getD_eq_getElem?_getD, List.getElem?_eq_getElem h]
  rw [this, List.set_getElem_self]
theorem rd_set0 (xs : List Int) (k : Nat) (v : Int) (h : 1 ≤ k) : rd (xs.set k v) 0 = rd xs 0 := by
  obtain ⟨k, rfl⟩ : ∃ j, k = j + 1 := ⟨k - 1, by omega⟩
  cases xs <;> rfl
theorem scan_rest {b rest : List Int} {crc : Bool} (hs : sizeL (rd b 0) crc = b.length) (h3 : 3 ≤ b.length) : scanS (b ++ rest) crc = scanS b crc ∧ rd (b ++ rest) 0 = rd b 0 ∧ rd (b ++ rest) 1 = rd b 1 ∧ scanD (b ++ rest) crc = scanD b crc := by
  have e0 : rd (b ++ rest) 0 = rd b 0 := rd_append_left _ _ 0 (by omega)
  have e1 : rd (b ++ rest) 1 = rd b 1 := rd_append_left _ _ 1 (by omega)
  have e2 : rd (b ++ rest) 2 = rd b 2 := rd_append_left _ _ 2 (by omega)
  have hT : scanT (b ++ rest) crc = scanT b crc := by unfold scanT; rw [e0]
  have hTl : scanT b crc ≤ b.length := by unfold scanT; omega
  have hD : scanD (b ++ rest) crc = scanD b crc := by
    unfold scanD
    rw [hT, List.take_append_of_le_length hTl]
  have hE : scanE (b ++ rest) crc = scanE b crc := by
    unfold scanE
    rw [hT, e0, hs, List.take_append_of_le_length (Nat.le_refl _)]
  refine ⟨?_, e0, e1, hD⟩
  unfold scanS
  rw [e0, e1, e2, hD, hE, hs, List.length_append]
  have n0 : ¬ (b.length + rest.length = 0) := by omega
  have n1 : ¬ (b.length = 0) := by omega
  have n2 : ¬ (b.length + rest.length < b.length) := by omega
  have n3 : ¬ (b.length < b.length) := by omega
  have p1 : 2 < b.length + rest.length := by omega
  have p2 : 2 < b.length := by omega
  simp only [n0, n1, n2, n3, p1, p2, if_false, true_and]
/-- a block, one byte behind the number turned, whatever follows -/
theorem turned_block {q rest : List Int} {num : Int} {crc : Bool} (hq : q.length = 128) (hu : U8s q) (hn : 0 ≤ num ∧ num ≤ 255) {k : Nat} (hk : 3 ≤ k) (hk2 : k < (blockL 1 num q crc).length) (v : Int) (h0 : 0 ≤ v) (h1 : v ≤ 255) :
    rd ((blockL 1 num q crc ++ rest).set k v) 0 = 1 ∧ ((scanS ((blockL 1 num q crc ++ rest).set k v) crc = 2 ∧ rd ((blockL 1 num q crc ++ rest).set k v) 1 = num ∧ scanD ((blockL 1 num q crc ++ rest).set k v) crc = q) ∨ scanS ((blockL 1 num q crc ++ rest).set k v) crc = 1) := by
  have hl := blockL_len' 1 num q crc
  have ht := trailL_len q crc
  have hs : sizeL 1 crc = (blockL 1 num q crc).length := by rw [hl, ht, hq]; cases crc <;> rfl
  rw [List.set_append_left _ _ hk2]
  have hr0 : rd ((blockL 1 num q crc).set k v) 0 = 1 := by
    rw [blockL_form]
    obtain ⟨j, rfl⟩ : ∃ j, k = j + 1 := ⟨k - 1, by omega⟩
    rfl
  have hsr := scan_rest (b := (blockL 1 num q crc).set k v) (rest := rest) (crc := crc) (by rw [hr0, hs, List.length_set]) (by rw [List.length_set]; omega)
  refine ⟨hsr.2.1.trans hr0, ?_⟩
  by_cases hv : v = rd (blockL 1 num q crc) k
  · rw [hv, set_same _ _ hk2]
    have := scan_of_block' (m := 128) (num := num) (l := q) (rest := rest) (crc := crc) hq (.inl rfl) hn
    exact .inl this
  · have h2 := scan_turned (m := 128) (num := num) (l := q) (crc := crc) hq (.inl rfl) hn hu k (by omega) hk2 v h0 h1 hv
    exact .inr (hsr.1.trans h2)
end
end Go.Proofs.Ytcbkcggijejooaa.SL
