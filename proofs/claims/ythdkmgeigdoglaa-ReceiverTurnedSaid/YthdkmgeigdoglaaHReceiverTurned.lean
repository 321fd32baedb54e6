import Derived.Test.YthdkmgeigdoglaaSLPut
/- ReceiverTurned, walked. -/
set_option linter.unusedVariables false
namespace Go.Proofs.Ythdkmgeigdoglaa.SL
open Go Go.RowKit Go.Proofs.YthdkmgeigdoglaaW.PrintWords H Hand
theorem strCells_of {xs : List Int} (h : U8s xs) : strCells (strOfNums xs) = nums .u8 xs := by
  unfold strCells strOfNums nums
  simp only [List.map_map]
  apply List.map_congr_left
  intro x hx
  have := h x hx
  simp only [Function.comp, UInt8.toNat_ofNat']
  congr 1
  omega
theorem tmod_nat (a b : Nat) : Int.tmod (a : Int) (b : Int) = ((a % b : Nat) : Int) := rfl
theorem scan_form {m : Nat} {a b : Int} {d e : List Int} {crc : Bool} (hm : d.length = m) (hm2 : m = 128 ∨ m = 1024) (he : e.length = (trailL [] crc).length) :
    scanS (leadOf m :: a :: b :: (d ++ e)) crc = (if a ≠ 255 - b then 1 else if strOfNums (trailL d crc) = strOfNums e then 2 else 1) ∧ scanD (leadOf m :: a :: b :: (d ++ e)) crc = d ∧ scanE (leadOf m :: a :: b :: (d ++ e)) crc = e := by
  have ht0 := trailL_len [] crc
  have e0 : rd (leadOf m :: a :: b :: (d ++ e)) 0 = leadOf m := rfl
  have e1 : rd (leadOf m :: a :: b :: (d ++ e)) 1 = a := rfl
  have e2 : rd (leadOf m :: a :: b :: (d ++ e)) 2 = b := rfl
  have hl : (leadOf m :: a :: b :: (d ++ e)).length = 3 + m + (trailL [] crc).length := by simp [hm, he]; omega
  have hs : sizeL (leadOf m) crc = 3 + m + (trailL [] crc).length := by
    rw [ht0]
    rcases hm2 with rfl | rfl <;> cases crc <;> rfl
  have hT : scanT (leadOf m :: a :: b :: (d ++ e)) crc = m + 3 := by
    unfold scanT
    rw [e0, hs]
    omega
  have hD : scanD (leadOf m :: a :: b :: (d ++ e)) crc = d := by
    unfold scanD
    rw [hT]
    simp only [List.take_succ_cons, List.drop_succ_cons, List.drop_zero]
    rw [List.take_append_of_le_length (by omega), List.take_of_length_le (by omega)]
  have hE : scanE (leadOf m :: a :: b :: (d ++ e)) crc = e := by
    unfold scanE
    rw [hT, e0, hs, List.take_of_length_le (by omega)]
    simp only [List.drop_succ_cons]
    rw [← hm, List.drop_left]
  refine ⟨?_, hD, hE⟩
  unfold scanS
  rw [if_neg (by rw [hl]; omega), e0, if_neg (by rw [hs]; omega), e1, e2, hD, hE]
  by_cases hx : a ≠ 255 - b
  · rw [if_pos ⟨by rw [hl]; omega, hx⟩, if_pos hx]
  · rw [if_neg (fun h => hx h.2), if_neg (by rw [hs, hl]; omega), if_neg hx]
theorem blockL_form (lead num : Int) (l : List Int) (crc : Bool) : blockL lead num l crc = lead :: num :: (255 - num) :: (l ++ trailL l crc) := by
  unfold blockL
  rw [List.append_assoc]
  rfl
theorem trailL_set {l : List Int} {crc : Bool} (hu : U8s l) (k : Nat) (hk : k < l.length) (v : Int) (h0 : 0 ≤ v) (h1 : v ≤ 255) (h : trailL (l.set k v) crc = trailL l crc) : v = rd l k := by
  unfold trailL at h
  cases crc with
  | true =>
    simp only [if_true] at h
    have c1 := crcI_range l
    have c2 := crcI_range (l.set k v)
    injection h with h2 h3
    injection h3 with h3 h4
    exact (crcI_set l k hk v hu h0 h1).1 (by omega)
  | false =>
    simp only [Bool.false_eq_true, if_false] at h
    injection h with h2 h3
    exact (sumI_set l k hk v hu h0 h1).1 h2.symm
/-- A block of which one byte is turned is none. -/
theorem scan_turned {m : Nat} {num : Int} {l : List Int} {crc : Bool} (hm : l.length = m) (hm2 : m = 128 ∨ m = 1024) (hn : 0 ≤ num ∧ num ≤ 255) (hu : U8s l) (k : Nat) (hk : 1 ≤ k) (hk2 : k < (blockL (leadOf m) num l crc).length) (v : Int) (h0 : 0 ≤ v) (h1 : v ≤ 255) (hv : v ≠ rd (blockL (leadOf m) num l crc) k) :
    scanS ((blockL (leadOf m) num l crc).set k v) crc = 1 := by
  have hl := blockL_len (leadOf m) num l crc
  have ht := trailL_len l crc
  have ht0 := trailL_len [] crc
  rw [blockL_form] at hv hk2 ⊢
  obtain ⟨k, rfl⟩ : ∃ j, k = j + 1 := ⟨k - 1, by omega⟩
  simp only [List.set_cons_succ]
  rcases k with _ | _ | k
  · simp only [List.set_cons_zero]
    rw [(scan_form hm hm2 (by rw [ht, ht0])).1, if_pos]
    intro e
    apply hv
    show v = num
    omega
  · simp only [Nat.zero_add, List.set_cons_succ, List.set_cons_zero]
    rw [(scan_form hm hm2 (by rw [ht, ht0])).1, if_pos]
    intro e
    apply hv
    show v = 255 - num
    omega
  · simp only [List.set_cons_succ]
    have hv' : v ≠ rd (l ++ trailL l crc) k := by
      intro e
      apply hv
      rw [e]
      simp [rd, List.getD_eq_getElem?_getD]
      rfl
    by_cases hkm : k < m
    · rw [List.set_append_left _ _ (by omega), (scan_form (by rw [List.length_set]; exact hm) hm2 (by rw [ht, ht0])).1, if_neg (by simp; omega), if_neg]
      intro e
      have hus : U8s (l.set k v) := U8s_set hu k v h0 h1
      have e2 := strOf_inj (trailL_u8 _ _) (trailL_u8 _ _) e
      have := trailL_set hu k (by omega) v h0 h1 e2
      exact hv' (by rw [this, show ((k : Nat) : Int) = (k : Int) from rfl, rd_append_left _ _ _ (by omega)])
    · have hkt : k - l.length < (trailL l crc).length := by
        simp only [List.length_cons, List.length_append] at hk2
        omega
      rw [List.set_append_right _ _ (by omega), (scan_form hm hm2 (by rw [List.length_set, ht, ht0])).1, if_neg (by simp; omega), if_neg]
      intro e
      have e2 := strOf_inj (trailL_u8 _ _) (U8s_set (trailL_u8 _ _) _ _ h0 h1) e
      have e3 := congrArg (fun x : List Int => x[k - l.length]?) e2
      simp only [List.getElem?_set_self hkt] at e3
      apply hv'
      simp [rd, List.getD_eq_getElem?_getD, List.getElem?_append_right (show l.length ≤ k by omega), e3]
theorem TA_hardYes {P : Program} {w0 : World} {B n : Nat} {Q : Exit → Fr → List Chunk → Prop} {fr : Fr} {H : List Chunk} {ops : Array Oper} {S : World → Prop} {k : Nat} {listed : Array Bool} {rs : List Nat} (hr' : Region.ready .any ops listed = rs) (hne : rs ≠ []) (h : ∀ i ∈ rs, ∃ o, ops[i]? = some o ∧ (o.guard = none ∨ ∃ j d b, o.guard = some (j, b) ∧ (ops[j]?).bind (·.dst) = some d ∧ fr.lookup d = some (.bool b)) ∧ TO P w0 B n o (fun f h => (∀ w, WH w0 B h w → S w) ∧ TA P w0 B n ops S k (listed.setIfInBounds i true) Q f h) fr H) : TA P w0 B n ops S (k + 1) listed Q fr H := by
  intro HX a w hf hr hS
  refine wpAnyH_all hr' hne fun i hi => ?_
  obtain ⟨o, ho, hg, ht⟩ := h i hi
  unfold wpOp
  have hw : Region.wanted o (yielded ops a.tmps) = true := by
    rcases hg with hg | ⟨j, d, b, hg, hj, hd⟩
    · simp [Region.wanted, hg]
    · simp [Region.wanted, hg, yielded_of hf hj hd]
  simp only [ho, hw, if_true]
  refine .inl (Oper.wp_mono ?_ (ht HX a w _ hf hr))
  rintro a' w' ⟨f, h', ⟨hS', ht'⟩, hf', hr''⟩
  exact ⟨hS' _ ⟨HX, hr''⟩, ht' HX a' w' hf' hr'' (hS' _ ⟨HX, hr''⟩)⟩
theorem set_same (xs : List Int) (i : Nat) (h : i < xs.length) : xs.set i (rd xs i) = xs := by
  have : rd xs i = xs[i] := by simp [rd, List.getD_eq_getElem?_getD, List.getElem?_eq_getElem h]
  rw [this, List.set_getElem_self]
theorem rd_set0 (xs : List Int) (k : Nat) (v : Int) (h : 1 ≤ k) : rd (xs.set k v) 0 = rd xs 0 := by
  obtain ⟨k, rfl⟩ : ∃ j, k = j + 1 := ⟨k - 1, by omega⟩
  cases xs <;> rfl
set_option maxRecDepth 100000 in
theorem ReceiverTurned_t {w : World} {A : Option Addr} {c : Nat} {l : List Int} {num : Int} {crc : Bool} {at_ : Nat} {b : Int} (hr : ReadsInt w .u8 A l.length l) (hc : l.length ≤ c) (hu : U8s l) (hn : 0 ≤ num ∧ num ≤ 255) (hat : at_ ≤ 65535) (hb : 0 ≤ b ∧ b ≤ 255) :
    TCall Try.prog w w.heap.size 25 #[.int .u8 num, .slice A l.length c, .bool crc, .int .u16 (at_ : Int), .int .u8 b] (fun r _ => r = .bool true) [] := by
  have hS : ∀ H, Shows (WH w w.heap.size H) A l.length 1 (nums .u8 l) := fun H => shows_start hr
  have hl := hr.2.1
  have hdl := dataL_len l false
  have hdl2 : (dataL l false).length = 128 := hdl
  have hdu := dataL_u8 l false
  have hsc := scan_of_block (m := 128) (num := num) (rest := []) (crc := crc) hdl (Or.inl rfl) hn
  rw [List.append_nil] at hsc
  have hL0 : rd (blockL (leadOf 128) num (dataL l false) crc) 0 = 1 := rfl
  have hLu := blockL_u8 (leadOf 128) num (dataL l false) crc (leadOf_u8 _) hn hdu
  have hLl := blockL_len (leadOf 128) num (dataL l false) crc
  have hLt := trailL_le (dataL l false) crc
  have hq2 := scan_turned (m := 128) (num := num) (crc := crc) hdl (Or.inl rfl) hn hdu
  obtain ⟨L, hL⟩ : ∃ L, blockL (leadOf 128) num (dataL l false) crc = L := ⟨_, rfl⟩
  rw [hL] at hsc hL0 hLu hLl hq2
  obtain ⟨hs1, hs2, hs3⟩ := hsc
  obtain ⟨k, hkE⟩ : ∃ k, 1 + at_ % (L.length - 1) = k := ⟨_, rfl⟩
  have hk1 : 1 ≤ k := by omega
  have hk2 : k < L.length := by have := Nat.mod_lt at_ (show L.length - 1 > 0 by omega); omega
  have hbk := hLu.at_ (k : Int)
  have hxr := xor8_range (rd L k) b
  have hxs := xor8_same (rd L k) b hbk.1 hbk.2 hb.1 hb.2
  have hyu := U8s_set hLu k _ hxr.1 hxr.2
  have hy0 := rd_set0 L k (bits .xor .u8 (rd L k) b) hk1
  refine TCall_intro (args := [_, _, _, _, _]) Try.func25 rfl Try.ntmps25 (Nat.le_of_ble_eq_true rfl) ?_
  refine T_seq ?_
  refine T_region ?_
  refine TL_pure (d := (some 10)) rfl rfl rfl (PV_assign rfl) ?_
  refine TL_nil ?_
  refine T_seq ?_
  refine T_seq ?_
  refine T_region ?_
  -- op 18 call F68()
  refine TL_cons rfl (TO_call0 call68 rfl rfl (t68) ?_)
  rintro v18 H18 ⟨rfl, rfl⟩
  refine TL_pure (d := (some 19)) rfl rfl rfl (PV_not rfl) ?_
  refine TL_nil ?_
  refine T_else rfl (by rfl) ?_
  refine T_addNil 1 ?_
  refine T_addNil 1 ?_
  refine T_skip ?_
  refine T_seq ?_
  refine T_region ?_
  refine TL_pure (d := (some 20)) rfl rfl rfl (PV_build (ps := _) (cells := #[_, _]) Try.underlying79 pl79 zr79 rfl rfl) ?_
  refine TL_pure (d := (some 21)) rfl rfl rfl (PV_move rfl) ?_
  refine TL_pure (d := (some 22)) rfl rfl rfl (PV_move rfl) ?_
  -- op 23 call F69(t20, t21, t22, ctrue, ci64:1)
  refine TL_cons rfl (TO_call0 call69 rfl rfl (t69 9 9 num crc true 1) ?_)
  rintro v23 H23 ⟨g, rfl, rfl⟩
  refine TL_pure (d := (some 11)) rfl rfl rfl (PV_assign rfl) ?_
  refine TL_nil ?_
  refine T_seq ?_
  refine T_region ?_
  refine TL_pure (d := (some 25)) rfl rfl rfl (PV_move rfl) ?_
  refine TL_pure (d := (some 26)) rfl rfl rfl (PV_move rfl) ?_
  -- op 27 call F48(t26, cfalse)
  refine TL_cons rfl (TO_call0 call48 rfl rfl (t48 false (hS _) hl hc hu) ?_)
  rintro v27 H27 ⟨A27, c27, rfl, hc27, rfl⟩
  refine TL_pure (d := (some 28)) rfl rfl rfl (PV_build (ps := _) (cells := #[_, _]) Try.underlying58 pl58 zr58 rfl rfl) ?_
  refine TL_pure (d := (some 29)) rfl rfl rfl (PV_move rfl) ?_
  -- op 30 call F49(t28, t29)
  refine TL_cons rfl (TO_call0 call49 rfl rfl (t49 crc (Shows.at 0 rfl) (Or.inl rfl) hc27 hdu hn) ?_)
  rintro v30 H30 ⟨A30, c30, rfl, hc30, rfl⟩
  rw [show blockL (leadOf (dataN false)) num (dataL l false) crc = L from hL] at *
  refine TL_pure (d := (some 24)) rfl rfl rfl (PV_move rfl) ?_
  refine TL_pure (d := (some 31)) rfl rfl rfl (PV_extract rfl rfl) ?_
  refine TL_pure (d := (some 32)) rfl rfl rfl (PV_extract rfl rfl) ?_
  refine TL_pure (d := (some 12)) rfl rfl rfl (PV_assign rfl) ?_
  refine TL_pure (d := (some 13)) rfl rfl rfl (PV_assign rfl) ?_
  refine TL_nil ?_
  refine T_seq ?_
  refine T_seq ?_
  refine T_region ?_
  refine TL_pure (d := (some 33)) rfl rfl rfl (PV_move rfl) ?_
  refine TL_pure (d := (some 34)) rfl rfl rfl (PV_not rfl) ?_
  refine TL_nil ?_
  -- IF t34
  refine T_else rfl (by rfl) ?_
  refine T_skip ?_
  refine T_seq ?_
  refine T_region ?_
  refine TL_pure (d := (some 35)) rfl rfl rfl (PV_move rfl) ?_
  -- op 36 append(cnilslice, t35) [23, 23]
  refine TL_cons rfl (TO_appendNil Try.underlying23 zb5 rfl (by decide) rfl rfl rfl (Shows.at 0 rfl) nums_one (by omega) (by omega) fun A36 c36 hc36 => ?_)
  refine TL_pure (d := (some 14)) rfl rfl rfl (PV_assign rfl) ?_
  refine TL_nil ?_
  refine T_seq ?_
  refine T_region ?_
  -- op 37 move t3
  refine TL_slA 0 rfl (by omega) fun g36 h36 => ?_
  subst h36
  refine TL_cons rfl (TO_pure rfl (PV_move rfl) ?_)
  first | (refine TL_pure (d := (some 38)) rfl rfl rfl (PV.cast (PV_conv (by rw [Try.underlying22]; rfl) Try.underlying3 rfl) (wr64 (by omega))) ?_) | (refine TL_pure (d := (some 38)) rfl rfl rfl (PV_conv (by rw [Try.underlying22]; rfl) Try.underlying3 rfl) ?_)
  refine TL_pure (d := (some 39)) rfl rfl rfl (PV_move rfl) ?_
  refine TL_pure (d := (some 40)) rfl rfl rfl (PV_len_slice Try.underlying23 rfl) ?_
  refine TL_pure (d := (some 41)) rfl rfl rfl (PV.cast (PV_bin rfl rfl bin_sub) (wr64n (L.length - 1) (by omega) (by omega))) ?_
  refine TL_pure (d := (some 42)) rfl rfl rfl (PV.cast (PV_bin rfl rfl (bin_rem (by omega))) (congrArg (Value.int .i64) (tmod_nat' at_ (L.length - 1)))) ?_
  refine TL_pure (d := (some 43)) rfl rfl rfl (PV.cast (PV_bin rfl rfl bin_add) (wr64n k (by omega) (by omega))) ?_
  refine TL_pure (d := (some 15)) rfl rfl rfl (PV_assign rfl) ?_
  refine TL_nil ?_
  refine T_seq ?_
  refine T_region ?_
  refine TL_pure (d := (some 44)) rfl rfl rfl (PV_move rfl) ?_
  refine TL_pure (d := (some 45)) rfl rfl rfl (PV_move rfl) ?_
  refine TL_pure (d := (some 46)) rfl rfl rfl (PV_move rfl) ?_
  refine TL_pure (d := (some 47)) rfl rfl rfl (PV_move rfl) ?_
  refine TL_pure (d := (some 48)) rfl rfl rfl (PV_indexAddr Try.underlying23 sz5 rfl rfl rfl (by first | omega | decide | assumption)) ?_
  refine TL_pure (d := (some 49)) rfl rfl rfl (PV_load Try.underlying5 rfl rfl (Rd.at 0 rfl (nums_at' k (by omega) hk2))) ?_
  refine TL_pure (d := (some 50)) rfl rfl rfl (PV_move rfl) ?_
  refine TL_pure (d := (some 51)) rfl rfl rfl (PV_bin rfl rfl bin_xor) ?_
  refine TL_pure (d := (some 52)) rfl rfl rfl (PV_indexAddr Try.underlying23 sz5 rfl rfl rfl (by first | omega | decide | assumption)) ?_
  first | (refine TL_cons rfl (TO_store1 0 rfl rfl rfl sz5 rfl rfl rfl (by first | exact Nat.le_of_ble_eq_true rfl | (simp; done) | (simp; omega) | omega) ?_)) | (refine TL_cons rfl (TO_store1 1 rfl rfl rfl sz5 rfl rfl rfl (by first | exact Nat.le_of_ble_eq_true rfl | (simp; done) | (simp; omega) | omega) ?_)) | (refine TL_cons rfl (TO_store1 2 rfl rfl rfl sz5 rfl rfl rfl (by first | exact Nat.le_of_ble_eq_true rfl | (simp; done) | (simp; omega) | omega) ?_)) | (refine TL_cons rfl (TO_store1 3 rfl rfl rfl sz5 rfl rfl rfl (by first | exact Nat.le_of_ble_eq_true rfl | (simp; done) | (simp; omega) | omega) ?_)) | (refine TL_cons rfl (TO_store1 4 rfl rfl rfl sz5 rfl rfl rfl (by first | exact Nat.le_of_ble_eq_true rfl | (simp; done) | (simp; omega) | omega) ?_)) | (refine TL_cons rfl (TO_store1 5 rfl rfl rfl sz5 rfl rfl rfl (by first | exact Nat.le_of_ble_eq_true rfl | (simp; done) | (simp; omega) | omega) ?_)) | (refine TL_cons rfl (TO_store1 6 rfl rfl rfl sz5 rfl rfl rfl (by first | exact Nat.le_of_ble_eq_true rfl | (simp; done) | (simp; omega) | omega) ?_)) | (refine TL_cons rfl (TO_store1 7 rfl rfl rfl sz5 rfl rfl rfl (by first | exact Nat.le_of_ble_eq_true rfl | (simp; done) | (simp; omega) | omega) ?_)) | (refine TL_cons rfl (TO_store1 8 rfl rfl rfl sz5 rfl rfl rfl (by first | exact Nat.le_of_ble_eq_true rfl | (simp; done) | (simp; omega) | omega) ?_))
  refine TL_nil ?_
  refine T_seq ?_
  refine T_region ?_
  refine TL_pure (d := (some 53)) rfl rfl rfl (PV_move rfl) ?_
  refine TL_pure (d := (some 54)) rfl rfl rfl (PV_move rfl) ?_
  -- op 55 call F75(t53, t54)
  rw [nums_set' .u8 L (0 + k * 1) k _ (by omega)]
  refine TL_perm (List.perm_append_comm (l₁ := [_, _, _]) (l₂ := [_, _, _])) ?_
  by_cases hb0 : b = 0
  · rw [hxs.2 hb0, set_same _ _ hk2]
    refine TL_cons rfl (TO_call0 call75 rfl rfl (t75good ⟨crc, 9, 9, 1, num, false, true, none, 0, [], none, 0, [], 0, 1, false, .nilIface⟩ (X := [_, _, _]) (bs := L) (Shows.at 0 rfl) rfl (by omega) hLu (by show 0 + L.length ≤ 1000000; omega) rfl (by show rd L 0 ≠ 4; omega) (by show rd L 0 ≠ 24; omega) hs1 hs2 (by show 0 ≤ 1000000; decide) (by show (0 : Int) ≤ 0 ∧ (0 : Int) ≤ 1000000; decide)) ?_)
    rintro v55 H55 ⟨A55, k55, A7, k7, rfl, hk55, hk7, rfl⟩
    rw [show Rcv.fin _ = Rcv.took (Rcv.with (⟨crc, 9, 9, 1, num, false, true, none, 0, [], none, 0, [], 0, 1, false, .nilIface⟩ : Rcv)) A7 k7 (scanD ([] ++ L) crc) from if_neg (fun h => Bool.noConfusion (show true = false from h.1)), show Rcv.took (Rcv.with (⟨crc, 9, 9, 1, num, false, true, none, 0, [], none, 0, [], 0, 1, false, .nilIface⟩ : Rcv)) A7 k7 (scanD ([] ++ L) crc) = (⟨crc, 9, 9, 9, (num + 1) % 256, true, true, none, 0, [], A7, k7, dataL l false, 0 + 1, 1, false, .nilIface⟩ : Rcv) from by simp [Rcv.took, Rcv.with, hs3]]
    refine TL_perm (List.Perm.append_right _ (List.perm_append_comm (l₁ := [_]) (l₂ := [_, _, _]))) ?_
    refine TL_pure (d := (some 16)) rfl rfl rfl (PV_assign rfl) ?_
    refine TL_nil ?_
    refine T_seq ?_
    refine T_seq ?_
    refine T_region ?_
    refine TL_pure (d := (some 56)) rfl rfl rfl (PV_move rfl) ?_
    refine TL_pure (d := (some 57)) rfl rfl rfl (PV_bin rfl rfl bin_eql) ?_
    refine TL_nil ?_
    -- IF t57
    refine T_then rfl (by rw [hb0]; rfl) ?_
    refine T_seq ?_
    refine T_region ?_
    refine TL_pure (d := (some 58)) rfl rfl rfl (PV_move rfl) ?_
    refine TL_pure (d := (some 59)) rfl rfl rfl (PV_b2s Try.underlying23 Try.underlying5 Try.underlying9 rfl (by first | assumption | exact Shows.at 0 rfl | exact Shows.at 1 rfl | exact Shows.at 2 rfl | exact Shows.at 3 rfl | exact Shows.at 4 rfl | exact Shows.at 5 rfl | exact Shows.at 6 rfl | exact Shows.at 7 rfl | exact Shows.at 8 rfl)) ?_
    refine TL_pure (d := (some 60)) rfl rfl rfl (PV.cast (PV_bin rfl rfl bin_str_eql) (congrArg Value.bool (show _ = true by exact decide_eq_true rfl))) ?_
    refine TL_pure (d := (some 61)) rfl rfl rfl (PV_move rfl) ?_
    -- guard 62 move t11
    refine TL_yes rfl rfl rfl (TO_pure rfl (PV_move rfl) ?_)
    refine TL_yes rfl rfl rfl (TO_call0 call77 rfl rfl (t77 ⟨crc, 9, 9, 9, (num + 1) % 256, true, true, none, 0, [], A7, k7, dataL l false, 0 + 1, 1, false, .nilIface⟩ (by show (dataL l false).length ≤ 140737488355328; omega)) ?_)
    rintro v63 H63 ⟨A63, k63, rfl, hk63, rfl⟩
    refine TL_yes rfl rfl rfl (TO_pure rfl (PV_len_slice Try.underlying23 rfl) ?_)
    refine TL_yes rfl rfl rfl (TO_pure rfl (PV.cast (PV_bin rfl rfl bin_eql) (congrArg Value.bool (show _ = true by rw [hdl2]; rfl))) ?_)
    first | (refine TL_pure (d := (some 66)) rfl rfl rfl (PV_pickAnd rfl rfl rfl) ?_) | (refine TL_pure (d := (some 66)) rfl rfl rfl (PV_pickF rfl (by first | assumption | rfl | (simp; done) | (simp; omega)) rfl rfl) ?_)
    refine TL_pure (d := (some 10)) rfl rfl rfl (PV_assign rfl) ?_
    refine TL_nil ?_
    refine T_ret ?_
    -- ('ret',)
    refine ⟨_, ?hh1, ?sb1, ResV_one rfl rfl, rfl⟩
    case sb1 => repeat (first | exact List.Sublist.refl _ | apply List.Sublist.cons_cons | apply List.Sublist.cons)
  · have hs0 := hq2 k hk1 hk2 _ hxr.1 hxr.2 (fun e => hb0 (hxs.1 e))
    refine TL_cons rfl (TO_call0 call75 rfl rfl (t75bad ⟨crc, 9, 9, 1, num, false, true, none, 0, [], none, 0, [], 0, 1, false, .nilIface⟩ (X := [_, _, _]) (bs := L.set k (bits .xor .u8 (rd L k) b)) (Shows.at 0 rfl) (by simp) (by omega) hyu (by show 0 + L.length ≤ 1000000; omega) rfl (by show rd (L.set k _) 0 ≠ 4; omega) (by show rd (L.set k _) 0 ≠ 24; omega) hs0) ?_)
    rintro v55 H55 ⟨A55, k55, rfl, hk55, rfl⟩
    refine TL_pure (d := (some 16)) rfl rfl rfl (PV_assign rfl) ?_
    refine TL_nil ?_
    refine T_seq ?_
    refine T_seq ?_
    refine T_region ?_
    refine TL_pure (d := (some 56)) rfl rfl rfl (PV_move rfl) ?_
    refine TL_pure (d := (some 57)) rfl rfl rfl (PV_bin rfl rfl bin_eql) ?_
    refine TL_nil ?_
    -- IF t57
    refine T_else rfl (by simpa using hb0) ?_
    refine T_skip ?_
    refine T_seq ?_
    refine T_region ?_
    refine TL_pure (d := (some 67)) rfl rfl rfl (PV_move rfl) ?_
    refine TL_pure (d := (some 68)) rfl rfl rfl (PV_move rfl) ?_
    -- op 69 call F75(t67, t68)
    refine TL_perm (List.Perm.append_right _ (List.perm_append_comm (l₁ := [_]) (l₂ := [_, _, _]))) ?_
    refine TL_cons rfl (TO_call0 call75 rfl rfl (t75good ⟨crc, 9, 9, 9, num, false, true, none, 0, [], none, 0, [], 0, 1, false, .nilIface⟩ (X := [_, _, _, _]) (bs := L) (Shows.at 2 rfl) rfl (by omega) hLu (by show 0 + L.length ≤ 1000000; omega) rfl (by show rd L 0 ≠ 4; omega) (by show rd L 0 ≠ 24; omega) hs1 hs2 (by show 0 ≤ 1000000; decide) (by show (0 : Int) ≤ 0 ∧ (0 : Int) ≤ 1000000; decide)) ?_)
    rintro v69 H69 ⟨A69, k69, A7, k7, rfl, hk69, hk7, rfl⟩
    rw [show Rcv.fin _ = Rcv.took (Rcv.with (⟨crc, 9, 9, 9, num, false, true, none, 0, [], none, 0, [], 0, 1, false, .nilIface⟩ : Rcv)) A7 k7 (scanD ([] ++ L) crc) from if_neg (fun h => Bool.noConfusion (show true = false from h.1)), show Rcv.took (Rcv.with (⟨crc, 9, 9, 9, num, false, true, none, 0, [], none, 0, [], 0, 1, false, .nilIface⟩ : Rcv)) A7 k7 (scanD ([] ++ L) crc) = (⟨crc, 9, 9, 9, (num + 1) % 256, true, true, none, 0, [], A7, k7, dataL l false, 0 + 1, 1, false, .nilIface⟩ : Rcv) from by simp [Rcv.took, Rcv.with, hs3]]
    refine TL_perm (List.Perm.append_right _ (List.perm_append_comm (l₁ := [_]) (l₂ := [_, _, _]))) ?_
    refine TL_pure (d := (some 17)) rfl rfl rfl (PV_assign rfl) ?_
    refine TL_nil ?_
    refine T_seq ?_
    refine T_drawn (WH _ _ _) mixed (by intro w h; exact h) ?_
    refine TA_take (dd := (some 70)) 0 rfl (by kernel_rfl) (by kernel_rfl) (by kernel_rfl) rfl rfl rfl (PV_move rfl) ?_
    first | (refine TA_take (dd := (some 71)) 1 rfl (by kernel_rfl) (by kernel_rfl) (by kernel_rfl) rfl rfl rfl (PV_b2s Try.underlying23 Try.underlying5 Try.underlying9 rfl (by first | assumption | exact Shows.at 0 rfl | exact Shows.at 1 rfl | exact Shows.at 2 rfl | exact Shows.at 3 rfl | exact Shows.at 4 rfl | exact Shows.at 5 rfl | exact Shows.at 6 rfl | exact Shows.at 7 rfl | exact Shows.at 8 rfl)) ?_) | (refine TA_pure1 (dd := (some 71)) 1 (by kernel_rfl) rfl rfl rfl rfl (PV_b2s Try.underlying23 Try.underlying5 Try.underlying9 rfl (by first | assumption | exact Shows.at 0 rfl | exact Shows.at 1 rfl | exact Shows.at 2 rfl | exact Shows.at 3 rfl | exact Shows.at 4 rfl | exact Shows.at 5 rfl | exact Shows.at 6 rfl | exact Shows.at 7 rfl | exact Shows.at 8 rfl)) ?_)
    refine TA_take (dd := (some 72)) 2 rfl (by kernel_rfl) (by kernel_rfl) (by kernel_rfl) rfl rfl rfl (PV.cast (PV_bin rfl rfl bin_str_eql) (congrArg Value.bool (show _ = true by exact decide_eq_true rfl))) ?_
    refine TA_take (dd := (some 73)) 3 rfl (by kernel_rfl) (by kernel_rfl) (by kernel_rfl) rfl rfl rfl (PV_move rfl) ?_
    -- dguard 4 74 move t17
    refine TA_yes (dd := (some 74)) 4 rfl (by kernel_rfl) (by kernel_rfl) (by kernel_rfl) rfl rfl rfl rfl rfl (PV_move rfl) ?_
    refine TA_yes (dd := (some 75)) 5 rfl (by kernel_rfl) (by kernel_rfl) (by kernel_rfl) rfl rfl rfl rfl rfl (PV_b2s Try.underlying23 Try.underlying5 Try.underlying9 rfl (by first | assumption | exact Shows.at 0 rfl | exact Shows.at 1 rfl | exact Shows.at 2 rfl | exact Shows.at 3 rfl | exact Shows.at 4 rfl | exact Shows.at 5 rfl | exact Shows.at 6 rfl | exact Shows.at 7 rfl | exact Shows.at 8 rfl)) ?_
    refine TA_yes (dd := (some 76)) 6 rfl (by kernel_rfl) (by kernel_rfl) (by kernel_rfl) rfl rfl rfl rfl rfl (PV.cast (PV_bin rfl rfl bin_str_eql) (congrArg Value.bool (show _ = true by exact decide_eq_true rfl))) ?_
    first | (refine TA_take (dd := (some 77)) 7 rfl (by kernel_rfl) (by kernel_rfl) (by kernel_rfl) rfl rfl rfl (PV_pickAnd rfl rfl rfl) ?_) | (refine TA_take (dd := (some 77)) 7 rfl (by kernel_rfl) (by kernel_rfl) (by kernel_rfl) rfl rfl rfl (PV_pickF rfl (by first | assumption | rfl | (simp; done) | (simp; omega)) rfl rfl) ?_)
    refine TA_take (dd := (some 78)) 8 rfl (by kernel_rfl) (by kernel_rfl) (by kernel_rfl) rfl rfl rfl (PV_move rfl) ?_
    refine TA_yes (dd := (some 79)) 9 rfl (by kernel_rfl) (by kernel_rfl) (by kernel_rfl) rfl rfl rfl rfl rfl (PV_move rfl) ?_
    refine TA_yes (dd := (some 82)) 12 rfl (by kernel_rfl) (by kernel_rfl) (by kernel_rfl) rfl rfl rfl rfl rfl (PV_move rfl) ?_
    -- dop 10 80 call F77(t79)
    -- dop 10 80 call F77(t79)
    refine TA_oneYes 10 (by kernel_rfl) rfl rfl rfl rfl (TO_call0 call77 rfl rfl (t77 ⟨crc, 9, 9, 9, (num + 1) % 256, true, true, none, 0, [], A7, k7, dataL l false, 0 + 1, 1, false, .nilIface⟩ (by show (dataL l false).length ≤ 140737488355328; omega)) ?_)
    rintro v80 H80 ⟨A80, k80, rfl, hk80, rfl⟩
    refine ⟨by intro w h; first | exact h | exact h.tl | exact h.tl.tl, ?_⟩
    -- ('many', [11, 13])
    refine TA_hardYes (rs := [11, 13]) (by kernel_rfl) (by decide) ?_
    refine List.forall_mem_cons.2 ⟨?_, List.forall_mem_cons.2 ⟨?_, by simp⟩⟩
    · skip
      refine ⟨_, rfl, Or.inr ⟨_, _, _, rfl, rfl, rfl⟩, (TO_pure rfl (PV_b2s Try.underlying23 Try.underlying5 Try.underlying9 rfl (by first | assumption | exact Shows.at 0 rfl | exact Shows.at 1 rfl | exact Shows.at 2 rfl | exact Shows.at 3 rfl | exact Shows.at 4 rfl | exact Shows.at 5 rfl | exact Shows.at 6 rfl | exact Shows.at 7 rfl | exact Shows.at 8 rfl)) ?_)⟩
      refine ⟨by intro w h; first | exact h | exact h.tl | exact h.tl.tl, ?_⟩
      refine TA_oneYes 13 (by kernel_rfl) rfl rfl rfl rfl (TO_call0 call48 rfl rfl (t48 false (hS _) hl hc hu) ?_)
      rintro v83 H83 ⟨A83, c83, rfl, hc83, rfl⟩
      refine ⟨by intro w h; first | exact h | exact h.tl | exact h.tl.tl, ?_⟩
      refine TA_oneYes 14 (by kernel_rfl) rfl rfl rfl rfl (TO_pure rfl (PV_b2s Try.underlying23 Try.underlying5 Try.underlying9 rfl (by first | assumption | exact Shows.at 0 rfl | exact Shows.at 1 rfl | exact Shows.at 2 rfl | exact Shows.at 3 rfl | exact Shows.at 4 rfl | exact Shows.at 5 rfl | exact Shows.at 6 rfl | exact Shows.at 7 rfl | exact Shows.at 8 rfl)) ?_)
      refine ⟨by intro w h; first | exact h | exact h.tl | exact h.tl.tl, ?_⟩
      -- dguard 15 85 binOp eql 9 t81 t84 9
      refine TA_yes (dd := (some 85)) 15 rfl (by kernel_rfl) (by kernel_rfl) (by kernel_rfl) rfl rfl rfl rfl rfl (PV.cast (PV_bin rfl rfl bin_str_eql) (congrArg Value.bool (show _ = true by exact decide_eq_true rfl))) ?_
      first | (refine TA_take (dd := (some 86)) 16 rfl (by kernel_rfl) (by kernel_rfl) (by kernel_rfl) rfl rfl rfl (PV_pickAnd rfl rfl rfl) ?_) | (refine TA_take (dd := (some 86)) 16 rfl (by kernel_rfl) (by kernel_rfl) (by kernel_rfl) rfl rfl rfl (PV_pickF rfl (by first | assumption | rfl | (simp; done) | (simp; omega)) rfl rfl) ?_)
      refine TA_take (dd := (some 10)) 17 rfl (by kernel_rfl) (by kernel_rfl) (by kernel_rfl) rfl rfl rfl (PV_assign rfl) ?_
      refine TA_done (by kernel_rfl) ?_
      refine T_ret ?_
      -- ('ret',)
      refine ⟨_, ?hh2, ?sb2, ResV_one rfl rfl, rfl⟩
      case sb2 => repeat (first | exact List.Sublist.refl _ | apply List.Sublist.cons_cons | apply List.Sublist.cons)
    · skip
      refine ⟨_, rfl, Or.inr ⟨_, _, _, rfl, rfl, rfl⟩, (TO_call0 call48 rfl rfl (t48 false (hS _) hl hc hu) ?_)⟩
      rintro v83 H83 ⟨A83, c83, rfl, hc83, rfl⟩
      refine ⟨by intro w h; first | exact h | exact h.tl | exact h.tl.tl, ?_⟩
      -- ('many', [11, 14])
      refine TA_hardYes (rs := [11, 14]) (by kernel_rfl) (by decide) ?_
      refine List.forall_mem_cons.2 ⟨?_, List.forall_mem_cons.2 ⟨?_, by simp⟩⟩
      · skip
        refine ⟨_, rfl, Or.inr ⟨_, _, _, rfl, rfl, rfl⟩, (TO_pure rfl (PV_b2s Try.underlying23 Try.underlying5 Try.underlying9 rfl (by first | assumption | exact Shows.at 0 rfl | exact Shows.at 1 rfl | exact Shows.at 2 rfl | exact Shows.at 3 rfl | exact Shows.at 4 rfl | exact Shows.at 5 rfl | exact Shows.at 6 rfl | exact Shows.at 7 rfl | exact Shows.at 8 rfl)) ?_)⟩
        refine ⟨by intro w h; first | exact h | exact h.tl | exact h.tl.tl, ?_⟩
        refine TA_oneYes 14 (by kernel_rfl) rfl rfl rfl rfl (TO_pure rfl (PV_b2s Try.underlying23 Try.underlying5 Try.underlying9 rfl (by first | assumption | exact Shows.at 0 rfl | exact Shows.at 1 rfl | exact Shows.at 2 rfl | exact Shows.at 3 rfl | exact Shows.at 4 rfl | exact Shows.at 5 rfl | exact Shows.at 6 rfl | exact Shows.at 7 rfl | exact Shows.at 8 rfl)) ?_)
        refine ⟨by intro w h; first | exact h | exact h.tl | exact h.tl.tl, ?_⟩
        -- dguard 15 85 binOp eql 9 t81 t84 9
        refine TA_yes (dd := (some 85)) 15 rfl (by kernel_rfl) (by kernel_rfl) (by kernel_rfl) rfl rfl rfl rfl rfl (PV.cast (PV_bin rfl rfl bin_str_eql) (congrArg Value.bool (show _ = true by exact decide_eq_true rfl))) ?_
        first | (refine TA_take (dd := (some 86)) 16 rfl (by kernel_rfl) (by kernel_rfl) (by kernel_rfl) rfl rfl rfl (PV_pickAnd rfl rfl rfl) ?_) | (refine TA_take (dd := (some 86)) 16 rfl (by kernel_rfl) (by kernel_rfl) (by kernel_rfl) rfl rfl rfl (PV_pickF rfl (by first | assumption | rfl | (simp; done) | (simp; omega)) rfl rfl) ?_)
        refine TA_take (dd := (some 10)) 17 rfl (by kernel_rfl) (by kernel_rfl) (by kernel_rfl) rfl rfl rfl (PV_assign rfl) ?_
        refine TA_done (by kernel_rfl) ?_
        refine T_ret ?_
        -- ('ret',)
        refine ⟨_, ?hh3, ?sb3, ResV_one rfl rfl, rfl⟩
        case sb3 => repeat (first | exact List.Sublist.refl _ | apply List.Sublist.cons_cons | apply List.Sublist.cons)
      · skip
        refine ⟨_, rfl, Or.inr ⟨_, _, _, rfl, rfl, rfl⟩, (TO_pure rfl (PV_b2s Try.underlying23 Try.underlying5 Try.underlying9 rfl (by first | assumption | exact Shows.at 0 rfl | exact Shows.at 1 rfl | exact Shows.at 2 rfl | exact Shows.at 3 rfl | exact Shows.at 4 rfl | exact Shows.at 5 rfl | exact Shows.at 6 rfl | exact Shows.at 7 rfl | exact Shows.at 8 rfl)) ?_)⟩
        refine ⟨by intro w h; first | exact h | exact h.tl | exact h.tl.tl, ?_⟩
        refine TA_oneYes 11 (by kernel_rfl) rfl rfl rfl rfl (TO_pure rfl (PV_b2s Try.underlying23 Try.underlying5 Try.underlying9 rfl (by first | assumption | exact Shows.at 0 rfl | exact Shows.at 1 rfl | exact Shows.at 2 rfl | exact Shows.at 3 rfl | exact Shows.at 4 rfl | exact Shows.at 5 rfl | exact Shows.at 6 rfl | exact Shows.at 7 rfl | exact Shows.at 8 rfl)) ?_)
        refine ⟨by intro w h; first | exact h | exact h.tl | exact h.tl.tl, ?_⟩
        -- dguard 15 85 binOp eql 9 t81 t84 9
        refine TA_yes (dd := (some 85)) 15 rfl (by kernel_rfl) (by kernel_rfl) (by kernel_rfl) rfl rfl rfl rfl rfl (PV.cast (PV_bin rfl rfl bin_str_eql) (congrArg Value.bool (show _ = true by exact decide_eq_true rfl))) ?_
        first | (refine TA_take (dd := (some 86)) 16 rfl (by kernel_rfl) (by kernel_rfl) (by kernel_rfl) rfl rfl rfl (PV_pickAnd rfl rfl rfl) ?_) | (refine TA_take (dd := (some 86)) 16 rfl (by kernel_rfl) (by kernel_rfl) (by kernel_rfl) rfl rfl rfl (PV_pickF rfl (by first | assumption | rfl | (simp; done) | (simp; omega)) rfl rfl) ?_)
        refine TA_take (dd := (some 10)) 17 rfl (by kernel_rfl) (by kernel_rfl) (by kernel_rfl) rfl rfl rfl (PV_assign rfl) ?_
        refine TA_done (by kernel_rfl) ?_
        refine T_ret ?_
        -- ('ret',)
        refine ⟨_, ?hh4, ?sb4, ResV_one rfl rfl, rfl⟩
        case sb4 => repeat (first | exact List.Sublist.refl _ | apply List.Sublist.cons_cons | apply List.Sublist.cons)
end Go.Proofs.Ythdkmgeigdoglaa.SL
namespace Go.Proofs.Ythdkmgeigdoglaa.Hand
open Go Go.RowKit Go.Proofs.YthdkmgeigdoglaaW.PrintWords H
theorem u8_of_wf {n : Int} (h : (Lit.int .u8 n).wf = true) : 0 ≤ n ∧ n ≤ 255 := U8s.of_wf (l := [n]) (by simpa using h) n (by simp)
theorem u16_of_wf {n : Int} (h : (Lit.int .u16 n).wf = true) : 0 ≤ n ∧ n ≤ 65535 := by
  simp [Lit.wf, IntKind.min, IntKind.max, IntKind.signed, IntKind.bits] at h
  omega
theorem ReceiverTurned_walk (a0 : Int) (a1 : Option Addr) (c1 : Nat) (l1 : List Int) (a2 : Bool) (a3 a4 : Int) (w : World)
    (w0 : (Lit.int .u8 a0).wf = true) (hr1 : ReadsInt w .u8 a1 l1.length l1) (hc1 : l1.length ≤ c1) (y1 : l1.length * 1 ≤ 140737488351232) (hw1 : ∀ x ∈ l1, (Lit.int .u8 x).wf = true) (w3 : (Lit.int .u16 a3).wf = true) (w4 : (Lit.int .u8 a4).wf = true) :
    Calls Try.prog 25 #[.int .u8 a0, .slice a1 l1.length c1, .bool a2, .int .u16 a3, .int .u8 a4] w fun e w' => e = .returned (.bool true) ∧ Below w.heap.size w w' := by
  have h3 := u16_of_wf w3
  obtain ⟨k, rfl⟩ := Int.eq_ofNat_of_zero_le h3.1
  exact SL.law_of (SL.ReceiverTurned_t hr1 hc1 (U8s.of_wf hw1) (u8_of_wf w0) (by omega) (u8_of_wf w4))
end Go.Proofs.Ythdkmgeigdoglaa.Hand
