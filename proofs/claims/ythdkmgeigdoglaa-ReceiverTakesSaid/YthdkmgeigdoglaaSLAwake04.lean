import Derived.Test.YthdkmgeigdoglaaSLScan
/- Blocks: the document's examples. No statement is proved here. -/
namespace Go.Proofs.Ythdkmgeigdoglaa.SL
open Go Go.RowKit Go.Proofs.YthdkmgeigdoglaaW.PrintWords H Hand
set_option linter.unusedVariables false
section
variable {w0 : World} {B : Nat} {H : List Chunk}
theorem strOf_len (xs : List Int) : (strOfNums xs).size = xs.length := by
  unfold strOfNums
  simp [ByteArray.size]
theorem strOf_inj {xs ys : List Int} (hx : U8s xs) (hy : U8s ys) (h : strOfNums xs = strOfNums ys) : xs = ys := by
  unfold strOfNums at h
  have h1 : (xs.map fun n => UInt8.ofNat n.toNat) = ys.map fun n => UInt8.ofNat n.toNat := by
    have := congrArg (fun s : ByteArray => s.data.toList) h
    simpa using this
  apply List.ext_getElem
  · have := congrArg List.length h1; simpa using this
  · intro i h2 h3
    have h4 := congrArg (fun l : List UInt8 => l[i]?) h1
    simp only [List.getElem?_map, List.getElem?_eq_getElem h2, List.getElem?_eq_getElem h3, Option.map_some, Option.some.injEq] at h4
    have h5 := congrArg UInt8.toNat h4
    have hx1 := hx _ (List.getElem_mem h2)
    have hy1 := hy _ (List.getElem_mem h3)
    simp only [UInt8.toNat_ofNat'] at h5
    omega
theorem leadOf_u8 (m : Nat) : 0 ≤ leadOf m ∧ leadOf m ≤ 255 := by unfold leadOf; split <;> omega
theorem trailL_u8 (l : List Int) (crc : Bool) : U8s (trailL l crc) := by
  have h1 := crcI_range l
  have h2 := sumI_range l
  intro x hx
  unfold trailL at hx
  split at hx
  · simp at hx; rcases hx with rfl | rfl <;> omega
  · simp at hx; subst hx; exact h2
theorem blockL_len (lead num : Int) (l : List Int) (crc : Bool) : (blockL lead num l crc).length = 3 + l.length + (trailL l crc).length := by unfold blockL; simp; omega
theorem blockL_u8 (lead num : Int) (l : List Int) (crc : Bool) (h1 : 0 ≤ lead ∧ lead ≤ 255) (h2 : 0 ≤ num ∧ num ≤ 255) (h3 : U8s l) : U8s (blockL lead num l crc) := by
  unfold blockL
  refine (U8s.append (fun x hx => ?_) h3).append (trailL_u8 l crc)
  simp at hx
  rcases hx with rfl | rfl | rfl <;> omega
/-- A block is read of its bytes, whatever stands behind it. -/
theorem rd_append_left (xs ys : List Int) (i : Nat) (h : i < xs.length) : rd (xs ++ ys) i = rd xs i := by
  simp [rd, List.getD_eq_getElem?_getD, List.getElem?_append_left h]
theorem scan_of_block {m : Nat} {num : Int} {l rest : List Int} {crc : Bool} (hm : l.length = m) (hm2 : m = 128 ∨ m = 1024) (h2 : 0 ≤ num ∧ num ≤ 255) :
    scanS (blockL (leadOf m) num l crc ++ rest) crc = 2 ∧ rd (blockL (leadOf m) num l crc ++ rest) 1 = num ∧ scanD (blockL (leadOf m) num l crc ++ rest) crc = l := by
  have hl := blockL_len (leadOf m) num l crc
  have ht := trailL_len l crc
  have ht0 := trailL_len [] crc
  have e0 : rd (blockL (leadOf m) num l crc ++ rest) 0 = leadOf m := rfl
  have e1 : rd (blockL (leadOf m) num l crc ++ rest) 1 = num := rfl
  have e2 : rd (blockL (leadOf m) num l crc ++ rest) 2 = 255 - num := rfl
  have hs : sizeL (leadOf m) crc = (blockL (leadOf m) num l crc).length := by
    rw [hl, ht, hm]
    rcases hm2 with rfl | rfl <;> cases crc <;> rfl
  have hT : scanT (blockL (leadOf m) num l crc ++ rest) crc = 3 + m := by
    unfold scanT
    rw [e0, hs, hl, ht, ht0, hm]
    split <;> omega
  have hD : scanD (blockL (leadOf m) num l crc ++ rest) crc = l := by
    unfold scanD
    rw [hT, List.take_append_of_le_length (by omega)]
    unfold blockL
    rw [List.append_assoc, List.take_append]
    simp only [List.length_cons, List.length_nil, Nat.zero_add, Nat.reduceAdd]
    rw [List.take_of_length_le (by simp), show 3 + m - 3 = m by omega, List.take_append_of_le_length (by omega), List.take_of_length_le (by omega)]
    rfl
  have hE : scanE (blockL (leadOf m) num l crc ++ rest) crc = trailL l crc := by
    unfold scanE
    rw [hT, e0, hs, List.take_left]
    unfold blockL
    rw [List.drop_append_of_le_length (by simp; omega), List.drop_of_length_le (by simp; omega), List.nil_append]
  refine ⟨?_, e1, hD⟩
  unfold scanS
  rw [if_neg (by rw [List.length_append]; omega), e0, if_neg (by rw [hs]; omega), e1, e2, if_neg (by omega), if_neg (by rw [hs, List.length_append]; omega), hD, hE, if_pos rfl]
set_option maxRecDepth 100000 in
theorem t47 : TCall Try.prog w0 B 47 #[] (fun r H' => r = .bool true ∧ H' = H) H := by
  have hz8 : U8s (List.replicate 128 0) := fun x hx => by simp at hx; omega
  have hbl : (blockL (leadOf 128) 1 (List.replicate 128 0) false).length = 132 := by rw [blockL_len, trailL_len]; simp
  have hbu : U8s (blockL (leadOf 128) 1 (List.replicate 128 0) false) := blockL_u8 _ _ _ _ (leadOf_u8 _) (by omega) hz8
  refine TCall_intro (args := []) Try.func47 rfl Try.ntmps47 (Nat.le_of_ble_eq_true rfl) ?_
  refine T_seq ?_
  refine T_region ?_
  refine TL_pure (d := (some 0)) rfl rfl rfl (PV_assign rfl) ?_
  refine TL_nil ?_
  refine T_seq ?_
  refine T_region ?_
  refine TL_cons rfl (TO_make (m := 128) Try.underlying23 zb5 rfl (by omega) (by omega) rfl ⟨_, rfl⟩ ⟨_, rfl⟩ fun g6 => ?_)
  refine TL_pure (d := (some 7)) rfl rfl rfl (PV_build (ps := _) (cells := #[_, _]) Try.underlying58 pl58 zr58 rfl rfl) ?_
  -- op 8 call F49(t7, cfalse)
  refine TL_cons rfl (TO_call0 call49 rfl rfl (t49 (num := 1) (l := List.replicate 128 0) false (by simpa [nums] using Shows.at (w0 := w0) (B := B) 0 rfl) (.inl rfl) (Nat.le_refl _) hz8 (by omega)) ?_)
  rintro v8 H8 ⟨A8, c8, rfl, hc8, rfl⟩
  refine TL_pure (d := (some 5)) rfl rfl rfl (PV_move rfl) ?_
  refine TL_pure (d := (some 9)) rfl rfl rfl (PV_extract rfl rfl) ?_
  refine TL_pure (d := (some 10)) rfl rfl rfl (PV_extract rfl rfl) ?_
  refine TL_pure (d := (some 1)) rfl rfl rfl (PV_assign rfl) ?_
  refine TL_pure (d := (some 2)) rfl rfl rfl (PV_assign rfl) ?_
  refine TL_nil ?_
  refine T_seq ?_
  refine T_region ?_
  refine TL_pure (d := (some 12)) rfl rfl rfl (PV_move rfl) ?_
  -- op 13 call F52(t12, cfalse)
  refine TL_cons rfl (TO_call0 call52 rfl rfl (t52 false (Shows.at 0 rfl) rfl (by rw [hbl]; omega) hc8 hbu) ?_)
  rintro v13 H13 hr
  have hq := scan_of_block (m := 128) (num := 1) (l := List.replicate 128 0) (rest := []) (crc := false) rfl (.inl rfl) (by omega)
  rw [List.append_nil] at hq
  obtain ⟨hq1, hq2, hq3⟩ := hq
  rw [if_pos hq1, hq2, hq3] at hr
  obtain ⟨A13, c13, rfl, hc13, rfl⟩ := hr
  refine TL_pure (d := (some 11)) rfl rfl rfl (PV_move rfl) ?_
  refine TL_pure (d := (some 14)) rfl rfl rfl (PV_extract rfl rfl) ?_
  refine TL_pure (d := (some 15)) rfl rfl rfl (PV_extract rfl rfl) ?_
  refine TL_cons rfl (TO_alloc rfl zr58 fun g3 => ?_)
  first | (refine TL_cons rfl (TO_store 0 rfl rfl rfl sz58 rfl rfl rfl (by simp [Value.cells, Value.oneCell']) (by first | exact Nat.le_of_ble_eq_true rfl | (simp; done) | (simp; omega) | omega) ?_)) | (refine TL_cons rfl (TO_store 1 rfl rfl rfl sz58 rfl rfl rfl (by simp [Value.cells, Value.oneCell']) (by first | exact Nat.le_of_ble_eq_true rfl | (simp; done) | (simp; omega) | omega) ?_)) | (refine TL_cons rfl (TO_store 2 rfl rfl rfl sz58 rfl rfl rfl (by simp [Value.cells, Value.oneCell']) (by first | exact Nat.le_of_ble_eq_true rfl | (simp; done) | (simp; omega) | omega) ?_)) | (refine TL_cons rfl (TO_store 3 rfl rfl rfl sz58 rfl rfl rfl (by simp [Value.cells, Value.oneCell']) (by first | exact Nat.le_of_ble_eq_true rfl | (simp; done) | (simp; omega) | omega) ?_)) | (refine TL_cons rfl (TO_store 4 rfl rfl rfl sz58 rfl rfl rfl (by simp [Value.cells, Value.oneCell']) (by first | exact Nat.le_of_ble_eq_true rfl | (simp; done) | (simp; omega) | omega) ?_)) | (refine TL_cons rfl (TO_store 5 rfl rfl rfl sz58 rfl rfl rfl (by simp [Value.cells, Value.oneCell']) (by first | exact Nat.le_of_ble_eq_true rfl | (simp; done) | (simp; omega) | omega) ?_)) | (refine TL_cons rfl (TO_store 6 rfl rfl rfl sz58 rfl rfl rfl (by simp [Value.cells, Value.oneCell']) (by first | exact Nat.le_of_ble_eq_true rfl | (simp; done) | (simp; omega) | omega) ?_)) | (refine TL_cons rfl (TO_store 7 rfl rfl rfl sz58 rfl rfl rfl (by simp [Value.cells, Value.oneCell']) (by first | exact Nat.le_of_ble_eq_true rfl | (simp; done) | (simp; omega) | omega) ?_)) | (refine TL_cons rfl (TO_store 8 rfl rfl rfl sz58 rfl rfl rfl (by simp [Value.cells, Value.oneCell']) (by first | exact Nat.le_of_ble_eq_true rfl | (simp; done) | (simp; omega) | omega) ?_))
  refine TL_pure (d := (some 4)) rfl rfl rfl (PV_assign rfl) ?_
  refine TL_nil ?_
  refine T_seq ?_
  refine T_region ?_
  refine TL_pure (d := (some 16)) rfl rfl rfl (PV_move rfl) ?_
  refine TL_pure (d := (some 17)) rfl rfl rfl (PV_move rfl) ?_
  -- guard 18 move t1
  refine TL_slA 2 rfl (by rw [hbl]; omega) fun gb hb => ?_
  subst hb
  refine TL_yes rfl rfl rfl (TO_pure rfl (PV_move rfl) ?_)
  refine TL_yes rfl rfl rfl (TO_pure rfl (PV_len_slice Try.underlying23 rfl) ?_)
  refine TL_yes rfl rfl rfl (TO_pure rfl (PV.cast (PV_bin rfl rfl bin_eql) (congrArg Value.bool (show _ = true by rw [hbl]; rfl))) ?_)
  first | (refine TL_pure (d := (some 21)) rfl rfl rfl (PV_pickAnd rfl rfl rfl) ?_) | (refine TL_pure (d := (some 21)) rfl rfl rfl (PV_pickF rfl (by first | assumption | rfl | (simp; done) | (simp; omega)) rfl rfl) ?_)
  refine TL_pure (d := (some 22)) rfl rfl rfl (PV_move rfl) ?_
  refine TL_yes rfl rfl rfl (TO_pure rfl (PV_move rfl) ?_)
  refine TL_yes rfl rfl rfl (TO_pure rfl (PV_indexAddr (i := 0) Try.underlying23 sz5 rfl rfl rfl (by first | omega | decide | assumption)) ?_)
  refine TL_yes rfl rfl rfl (TO_pure rfl (PV_load Try.underlying5 rfl rfl (by first | exact Rd.at 0 rfl rfl | exact Rd.at 1 rfl rfl | exact Rd.at 2 rfl rfl | exact Rd.at 3 rfl rfl | exact Rd.at 4 rfl rfl | exact Rd.at 5 rfl rfl | exact Rd.at 6 rfl rfl | exact Rd.at 7 rfl rfl | exact Rd.at 8 rfl rfl)) ?_)
  refine TL_yes rfl rfl rfl (TO_pure rfl (PV.cast (PV_bin rfl rfl bin_eql) (congrArg Value.bool (show _ = true by rfl))) ?_)
  first | (refine TL_pure (d := (some 27)) rfl rfl rfl (PV_pickAnd rfl rfl rfl) ?_) | (refine TL_pure (d := (some 27)) rfl rfl rfl (PV_pickF rfl (by first | assumption | rfl | (simp; done) | (simp; omega)) rfl rfl) ?_)
  refine TL_pure (d := (some 28)) rfl rfl rfl (PV_move rfl) ?_
  refine TL_yes rfl rfl rfl (TO_pure rfl (PV_move rfl) ?_)
  refine TL_yes rfl rfl rfl (TO_pure rfl (PV_indexAddr (i := 1) Try.underlying23 sz5 rfl rfl rfl (by first | omega | decide | assumption)) ?_)
  refine TL_yes rfl rfl rfl (TO_pure rfl (PV_load Try.underlying5 rfl rfl (by first | exact Rd.at 0 rfl rfl | exact Rd.at 1 rfl rfl | exact Rd.at 2 rfl rfl | exact Rd.at 3 rfl rfl | exact Rd.at 4 rfl rfl | exact Rd.at 5 rfl rfl | exact Rd.at 6 rfl rfl | exact Rd.at 7 rfl rfl | exact Rd.at 8 rfl rfl)) ?_)
  refine TL_yes rfl rfl rfl (TO_pure rfl (PV.cast (PV_bin rfl rfl bin_eql) (congrArg Value.bool (show _ = true by rfl))) ?_)
  first | (refine TL_pure (d := (some 33)) rfl rfl rfl (PV_pickAnd rfl rfl rfl) ?_) | (refine TL_pure (d := (some 33)) rfl rfl rfl (PV_pickF rfl (by first | assumption | rfl | (simp; done) | (simp; omega)) rfl rfl) ?_)
  refine TL_pure (d := (some 34)) rfl rfl rfl (PV_move rfl) ?_
  refine TL_yes rfl rfl rfl (TO_pure rfl (PV_move rfl) ?_)
  refine TL_yes rfl rfl rfl (TO_pure rfl (PV_indexAddr (i := 2) Try.underlying23 sz5 rfl rfl rfl (by first | omega | decide | assumption)) ?_)
  refine TL_yes rfl rfl rfl (TO_pure rfl (PV_load Try.underlying5 rfl rfl (by first | exact Rd.at 0 rfl rfl | exact Rd.at 1 rfl rfl | exact Rd.at 2 rfl rfl | exact Rd.at 3 rfl rfl | exact Rd.at 4 rfl rfl | exact Rd.at 5 rfl rfl | exact Rd.at 6 rfl rfl | exact Rd.at 7 rfl rfl | exact Rd.at 8 rfl rfl)) ?_)
  refine TL_yes rfl rfl rfl (TO_pure rfl (PV.cast (PV_bin rfl rfl bin_eql) (congrArg Value.bool (show _ = true by rfl))) ?_)
  first | (refine TL_pure (d := (some 39)) rfl rfl rfl (PV_pickAnd rfl rfl rfl) ?_) | (refine TL_pure (d := (some 39)) rfl rfl rfl (PV_pickF rfl (by first | assumption | rfl | (simp; done) | (simp; omega)) rfl rfl) ?_)
  refine TL_pure (d := (some 40)) rfl rfl rfl (PV_move rfl) ?_
  refine TL_yes rfl rfl rfl (TO_pure rfl (PV_move rfl) ?_)
  refine TL_yes rfl rfl rfl (TO_pure rfl (PV.cast (PV_bin rfl rfl bin_eql) (congrArg Value.bool (show _ = true by rfl))) ?_)
  first | (refine TL_pure (d := (some 43)) rfl rfl rfl (PV_pickAnd rfl rfl rfl) ?_) | (refine TL_pure (d := (some 43)) rfl rfl rfl (PV_pickF rfl (by first | assumption | rfl | (simp; done) | (simp; omega)) rfl rfl) ?_)
  refine TL_pure (d := (some 44)) rfl rfl rfl (PV_move rfl) ?_
  refine TL_yes rfl rfl rfl (TO_pure rfl (PV_fieldAddr (D := 0) Try.underlying58 rfl sz5 (by decide) rfl rfl) ?_)
  refine TL_yes rfl rfl rfl (TO_pure rfl (PV_load Try.underlying5 rfl rfl (by first | exact Rd.at 0 rfl rfl | exact Rd.at 1 rfl rfl | exact Rd.at 2 rfl rfl | exact Rd.at 3 rfl rfl | exact Rd.at 4 rfl rfl | exact Rd.at 5 rfl rfl | exact Rd.at 6 rfl rfl | exact Rd.at 7 rfl rfl | exact Rd.at 8 rfl rfl)) ?_)
  refine TL_yes rfl rfl rfl (TO_pure rfl (PV.cast (PV_bin rfl rfl bin_eql) (congrArg Value.bool (show _ = true by rfl))) ?_)
  first | (refine TL_pure (d := (some 48)) rfl rfl rfl (PV_pickAnd rfl rfl rfl) ?_) | (refine TL_pure (d := (some 48)) rfl rfl rfl (PV_pickF rfl (by first | assumption | rfl | (simp; done) | (simp; omega)) rfl rfl) ?_)
  refine TL_pure (d := (some 49)) rfl rfl rfl (PV_move rfl) ?_
  refine TL_yes rfl rfl rfl (TO_pure rfl (PV_fieldAddr (D := 1) Try.underlying58 rfl sz23 (by decide) rfl rfl) ?_)
  refine TL_yes rfl rfl rfl (TO_pure rfl (PV_load Try.underlying23 rfl rfl (by first | exact Rd.at 0 rfl rfl | exact Rd.at 1 rfl rfl | exact Rd.at 2 rfl rfl | exact Rd.at 3 rfl rfl | exact Rd.at 4 rfl rfl | exact Rd.at 5 rfl rfl | exact Rd.at 6 rfl rfl | exact Rd.at 7 rfl rfl | exact Rd.at 8 rfl rfl)) ?_)
  refine TL_yes rfl rfl rfl (TO_pure rfl (PV_len_slice Try.underlying23 rfl) ?_)
  refine TL_yes rfl rfl rfl (TO_pure rfl (PV.cast (PV_bin rfl rfl bin_eql) (congrArg Value.bool (show _ = true by rfl))) ?_)
  first | (refine TL_pure (d := (some 54)) rfl rfl rfl (PV_pickAnd rfl rfl rfl) ?_) | (refine TL_pure (d := (some 54)) rfl rfl rfl (PV_pickF rfl (by first | assumption | rfl | (simp; done) | (simp; omega)) rfl rfl) ?_)
  refine TL_pure (d := (some 0)) rfl rfl rfl (PV_assign rfl) ?_
  refine TL_nil ?_
  refine T_ret ?_
  refine ⟨_, _, ?_, ResV_one rfl rfl, ⟨rfl, rfl⟩⟩
  repeat (first | exact List.Sublist.refl _ | apply List.Sublist.cons_cons | apply List.Sublist.cons)
end
end Go.Proofs.Ythdkmgeigdoglaa.SL
