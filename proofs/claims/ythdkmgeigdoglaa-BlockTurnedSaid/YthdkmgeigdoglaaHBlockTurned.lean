import Derived.Test.YthdkmgeigdoglaaSLAwake04
/- BlockTurned, walked. -/
set_option linter.unusedVariables false
namespace Go.Proofs.Ythdkmgeigdoglaa.SL
open Go Go.RowKit Go.Proofs.YthdkmgeigdoglaaW.PrintWords H Hand
theorem strCells_of {xs : List Int} (h : U8s xs) : strCells (strOfNums xs) = nums .u8 xs := by
  unfold strCells strOfNums nums
  simp only [List.map_map]
  apply List.map_congr_left
  intro x hx
  have := h x hx
  simp only [Function.comp, UInt8.toNat_ofNat']
  congr 1
  omega
theorem tmod_nat (a b : Nat) : Int.tmod (a : Int) (b : Int) = ((a % b : Nat) : Int) := rfl
theorem scan_form {m : Nat} {a b : Int} {d e : List Int} {crc : Bool} (hm : d.length = m) (hm2 : m = 128 ∨ m = 1024) (he : e.length = (trailL [] crc).length) :
    scanS (leadOf m :: a :: b :: (d ++ e)) crc = (if a ≠ 255 - b then 1 else if strOfNums (trailL d crc) = strOfNums e then 2 else 1) ∧ scanD (leadOf m :: a :: b :: (d ++ e)) crc = d ∧ scanE (leadOf m :: a :: b :: (d ++ e)) crc = e := by
  have ht0 := trailL_len [] crc
  have e0 : rd (leadOf m :: a :: b :: (d ++ e)) 0 = leadOf m := rfl
  have e1 : rd (leadOf m :: a :: b :: (d ++ e)) 1 = a := rfl
  have e2 : rd (leadOf m :: a :: b :: (d ++ e)) 2 = b := rfl
  have hl : (leadOf m :: a :: b :: (d ++ e)).length = 3 + m + (trailL [] crc).length := by simp [hm, he]; omega
  have hs : sizeL (leadOf m) crc = 3 + m + (trailL [] crc).length := by
    rw [ht0]
    rcases hm2 with rfl | rfl <;> cases crc <;> rfl
  have hT : scanT (leadOf m :: a :: b :: (d ++ e)) crc = m + 3 := by
    unfold scanT
    rw [e0, hs]
    omega
  have hD : scanD (leadOf m :: a :: b :: (d ++ e)) crc = d := by
    unfold scanD
    rw [hT]
    simp only [List.take_succ_cons, List.drop_succ_cons, List.drop_zero]
    rw [List.take_append_of_le_length (by omega), List.take_of_length_le (by omega)]
  have hE : scanE (leadOf m :: a :: b :: (d ++ e)) crc = e := by
    unfold scanE
    rw [hT, e0, hs, List.take_of_length_le (by omega)]
    simp only [List.drop_succ_cons]
    rw [← hm, List.drop_left]
  refine ⟨?_, hD, hE⟩
  unfold scanS
  rw [if_neg (by rw [hl]; omega), e0, if_neg (by rw [hs]; omega), e1, e2, hD, hE]
  by_cases hx : a ≠ 255 - b
  · rw [if_pos ⟨by rw [hl]; omega, hx⟩, if_pos hx]
  · rw [if_neg (fun h => hx h.2), if_neg (by rw [hs, hl]; omega), if_neg hx]
theorem blockL_form (lead num : Int) (l : List Int) (crc : Bool) : blockL lead num l crc = lead :: num :: (255 - num) :: (l ++ trailL l crc) := by
  unfold blockL
  rw [List.append_assoc]
  rfl
theorem trailL_set {l : List Int} {crc : Bool} (hu : U8s l) (k : Nat) (hk : k < l.length) (v : Int) (h0 : 0 ≤ v) (h1 : v ≤ 255) (h : trailL (l.set k v) crc = trailL l crc) : v = rd l k := by
  unfold trailL at h
  cases crc with
  | true =>
    simp only [if_true] at h
    have c1 := crcI_range l
    have c2 := crcI_range (l.set k v)
    injection h with h2 h3
    injection h3 with h3 h4
    exact (crcI_set l k hk v hu h0 h1).1 (by omega)
  | false =>
    simp only [Bool.false_eq_true, if_false] at h
    injection h with h2 h3
    exact (sumI_set l k hk v hu h0 h1).1 h2.symm
/-- A block of which one byte is turned is none. -/
theorem scan_turned {m : Nat} {num : Int} {l : List Int} {crc : Bool} (hm : l.length = m) (hm2 : m = 128 ∨ m = 1024) (hn : 0 ≤ num ∧ num ≤ 255) (hu : U8s l) (k : Nat) (hk : 1 ≤ k) (hk2 : k < (blockL (leadOf m) num l crc).length) (v : Int) (h0 : 0 ≤ v) (h1 : v ≤ 255) (hv : v ≠ rd (blockL (leadOf m) num l crc) k) :
    scanS ((blockL (leadOf m) num l crc).set k v) crc = 1 := by
  have hl := blockL_len (leadOf m) num l crc
  have ht := trailL_len l crc
  have ht0 := trailL_len [] crc
  rw [blockL_form] at hv hk2 ⊢
  obtain ⟨k, rfl⟩ : ∃ j, k = j + 1 := ⟨k - 1, by omega⟩
  simp only [List.set_cons_succ]
  rcases k with _ | _ | k
  · simp only [List.set_cons_zero]
    rw [(scan_form hm hm2 (by rw [ht, ht0])).1, if_pos]
    intro e
    apply hv
    show v = num
    omega
  · simp only [Nat.zero_add, List.set_cons_succ, List.set_cons_zero]
    rw [(scan_form hm hm2 (by rw [ht, ht0])).1, if_pos]
    intro e
    apply hv
    show v = 255 - num
    omega
  · simp only [List.set_cons_succ]
    have hv' : v ≠ rd (l ++ trailL l crc) k := by
      intro e
      apply hv
      rw [e]
      simp [rd, List.getD_eq_getElem?_getD]
      rfl
    by_cases hkm : k < m
    · rw [List.set_append_left _ _ (by omega), (scan_form (by rw [List.length_set]; exact hm) hm2 (by rw [ht, ht0])).1, if_neg (by simp; omega), if_neg]
      intro e
      have hus : U8s (l.set k v) := U8s_set hu k v h0 h1
      have e2 := strOf_inj (trailL_u8 _ _) (trailL_u8 _ _) e
      have := trailL_set hu k (by omega) v h0 h1 e2
      exact hv' (by rw [this, show ((k : Nat) : Int) = (k : Int) from rfl, rd_append_left _ _ _ (by omega)])
    · have hkt : k - l.length < (trailL l crc).length := by
        simp only [List.length_cons, List.length_append] at hk2
        omega
      rw [List.set_append_right _ _ (by omega), (scan_form hm hm2 (by rw [List.length_set, ht, ht0])).1, if_neg (by simp; omega), if_neg]
      intro e
      have e2 := strOf_inj (trailL_u8 _ _) (U8s_set (trailL_u8 _ _) _ _ h0 h1) e
      have e3 := congrArg (fun x : List Int => x[k - l.length]?) e2
      simp only [List.getElem?_set_self hkt] at e3
      apply hv'
      simp [rd, List.getD_eq_getElem?_getD, List.getElem?_append_right (show l.length ≤ k by omega), e3]
theorem nums_at' {k : IntKind} {xs : List Int} {off : Nat} (i : Nat) (h : off = i) (hi : i < xs.length) : (nums k xs)[off]? = some (.int k (rd xs i)) := by
  subst h; exact nums_at off hi
theorem nums_set (k : IntKind) (xs : List Int) (off i : Nat) (v : Int) (h : off = i) : (nums k xs).set off (.int k v) = nums k (xs.set i v) := by
  subst h; simp [nums, List.map_set]
theorem set_same (xs : List Int) (i : Nat) (h : i < xs.length) : xs.set i (rd xs i) = xs := by
  have : rd xs i = xs[i] := by simp [rd, List.getD_eq_getElem?_getD, List.getElem?_eq_getElem h]
  rw [this, List.set_getElem_self]
set_option maxRecDepth 100000 in
theorem BlockTurned_t {w : World} {A : Option Addr} {c : Nat} {l : List Int} {long : Bool} {num : Int} {crc : Bool} {cut : Nat} {b : Int} (hr : ReadsInt w .u8 A l.length l) (hc : l.length ≤ c) (hu : U8s l) (hn : 0 ≤ num ∧ num ≤ 255) (hcut : cut ≤ 65535) (hb : 0 ≤ b ∧ b ≤ 255) :
    TCall Try.prog w w.heap.size 15 #[.slice A l.length c, .bool long, .int .u8 num, .bool crc, .int .u16 (cut : Int), .int .u8 b] (fun r _ => r = .bool true) [] := by
  have hS : ∀ H, Shows (WH w w.heap.size H) A l.length 1 (nums .u8 l) := fun H => shows_start hr
  have hl := hr.2.1
  have hdl := dataL_len l long
  have hdn : dataN long = 128 ∨ dataN long = 1024 := by cases long <;> simp [dataN]
  have hdu := dataL_u8 l long
  obtain ⟨bl, hblE⟩ : ∃ bl, blockL (leadOf (dataN long)) num (dataL l long) crc = bl := ⟨_, rfl⟩
  have hblE2 : blockL (if dataN long = 1024 then 2 else 1) num (dataL l long) crc = bl := hblE
  have hbl := blockL_len (leadOf (dataN long)) num (dataL l long) crc
  have htl := trailL_le (dataL l long) crc
  have hbu := blockL_u8 (leadOf (dataN long)) num (dataL l long) crc (leadOf_u8 _) hn hdu
  have hq1 := (scan_of_block (rest := []) (crc := crc) hdl hdn hn).1
  have hq2 := scan_turned (num := num) (crc := crc) hdl hdn hn hdu
  rw [hblE] at hbl hbu hq1
  rw [hblE] at hq2
  rw [List.append_nil] at hq1
  obtain ⟨k, hkE⟩ : ∃ k, 1 + cut % (bl.length - 1) = k := ⟨_, rfl⟩
  have hk1 : 1 ≤ k := by omega
  have hk2 : k < bl.length := by have := Nat.mod_lt cut (show bl.length - 1 > 0 by omega); omega
  have hbk := hbu.at_ (k : Int)
  have hxr := xor8_range (rd bl k) b
  have hxs := xor8_same (rd bl k) b hbk.1 hbk.2 hb.1 hb.2
  refine TCall_intro (args := [_, _, _, _, _, _]) Try.func15 rfl Try.ntmps15 (Nat.le_of_ble_eq_true rfl) ?_
  refine T_seq ?_
  refine T_region ?_
  refine TL_pure (d := (some 12)) rfl rfl rfl (PV_assign rfl) ?_
  refine TL_nil ?_
  refine T_seq ?_
  refine T_seq ?_
  refine T_region ?_
  -- op 17 call F47()
  refine TL_cons rfl (TO_call0 call47 rfl rfl (t47) ?_)
  rintro v17 H17 ⟨rfl, rfl⟩
  refine TL_pure (d := (some 18)) rfl rfl rfl (PV_not rfl) ?_
  refine TL_nil ?_
  refine T_else rfl (by rfl) ?_
  refine T_skip ?_
  refine T_seq ?_
  refine T_region ?_
  refine TL_pure (d := (some 19)) rfl rfl rfl (PV_move rfl) ?_
  refine TL_pure (d := (some 20)) rfl rfl rfl (PV_move rfl) ?_
  refine TL_pure (d := (some 21)) rfl rfl rfl (PV_move rfl) ?_
  -- op 22 call F48(t20, t21)
  refine TL_cons rfl (TO_call0 call48 rfl rfl (t48 long (hS _) hl hc hu) ?_)
  rintro v22 H22 ⟨A22, c22, rfl, hc22, rfl⟩
  refine TL_pure (d := (some 23)) rfl rfl rfl (PV_move rfl) ?_
  -- op 24 call F50(t19, t22, t23)
  refine TL_cons rfl (TO_call0 call50 rfl rfl (t50 crc (Shows.at 0 rfl) (by omega) hc22 hdu hn) ?_)
  rintro v24 H24 ⟨rfl, rfl⟩
  rw [hblE2]
  -- op 25 convert 9 23 t24
  refine TL_cons rfl (TO_s2b Try.underlying9 Try.underlying23 Try.underlying5 rfl rfl fun g25 c25 hc25 => ?_)
  rw [strCells_of hbu, strOf_len] at *
  refine TL_pure (d := (some 13)) rfl rfl rfl (PV_assign rfl) ?_
  refine TL_nil ?_
  refine T_seq ?_
  refine T_region ?_
  refine TL_pure (d := (some 26)) rfl rfl rfl (PV_move rfl) ?_
  first | (refine TL_pure (d := (some 27)) rfl rfl rfl (PV.cast (PV_conv (by rw [Try.underlying22]; rfl) Try.underlying3 rfl) (wr64 (by omega))) ?_) | (refine TL_pure (d := (some 27)) rfl rfl rfl (PV_conv (by rw [Try.underlying22]; rfl) Try.underlying3 rfl) ?_)
  refine TL_pure (d := (some 28)) rfl rfl rfl (PV_move rfl) ?_
  refine TL_pure (d := (some 29)) rfl rfl rfl (PV_len_slice Try.underlying23 rfl) ?_
  refine TL_pure (d := (some 30)) rfl rfl rfl (PV.cast (PV_bin rfl rfl bin_sub) (wr64n (bl.length - 1) (by omega) (by omega))) ?_
  refine TL_pure (d := (some 31)) rfl rfl rfl (PV.cast (PV_bin rfl rfl (bin_rem (by omega))) (congrArg (Value.int .i64) (tmod_nat cut (bl.length - 1)))) ?_
  refine TL_pure (d := (some 32)) rfl rfl rfl (PV.cast (PV_bin rfl rfl bin_add) (wr64n k (by omega) (by omega))) ?_
  refine TL_pure (d := (some 14)) rfl rfl rfl (PV_assign rfl) ?_
  refine TL_nil ?_
  refine T_seq ?_
  refine T_region ?_
  refine TL_pure (d := (some 33)) rfl rfl rfl (PV_move rfl) ?_
  refine TL_pure (d := (some 34)) rfl rfl rfl (PV_move rfl) ?_
  refine TL_pure (d := (some 35)) rfl rfl rfl (PV_move rfl) ?_
  refine TL_pure (d := (some 36)) rfl rfl rfl (PV_move rfl) ?_
  refine TL_pure (d := (some 37)) rfl rfl rfl (PV_indexAddr Try.underlying23 sz5 rfl rfl rfl (by first | omega | decide | assumption)) ?_
  refine TL_pure (d := (some 38)) rfl rfl rfl (PV_load Try.underlying5 rfl rfl (Rd.at 0 rfl (nums_at' k (by omega) hk2))) ?_
  refine TL_pure (d := (some 39)) rfl rfl rfl (PV_move rfl) ?_
  refine TL_pure (d := (some 40)) rfl rfl rfl (PV_bin rfl rfl bin_xor) ?_
  refine TL_pure (d := (some 41)) rfl rfl rfl (PV_indexAddr Try.underlying23 sz5 rfl rfl rfl (by first | omega | decide | assumption)) ?_
  first | (refine TL_cons rfl (TO_store1 0 rfl rfl rfl sz5 rfl rfl rfl (by first | exact Nat.le_of_ble_eq_true rfl | (simp; done) | (simp; omega) | omega) ?_)) | (refine TL_cons rfl (TO_store1 1 rfl rfl rfl sz5 rfl rfl rfl (by first | exact Nat.le_of_ble_eq_true rfl | (simp; done) | (simp; omega) | omega) ?_)) | (refine TL_cons rfl (TO_store1 2 rfl rfl rfl sz5 rfl rfl rfl (by first | exact Nat.le_of_ble_eq_true rfl | (simp; done) | (simp; omega) | omega) ?_)) | (refine TL_cons rfl (TO_store1 3 rfl rfl rfl sz5 rfl rfl rfl (by first | exact Nat.le_of_ble_eq_true rfl | (simp; done) | (simp; omega) | omega) ?_)) | (refine TL_cons rfl (TO_store1 4 rfl rfl rfl sz5 rfl rfl rfl (by first | exact Nat.le_of_ble_eq_true rfl | (simp; done) | (simp; omega) | omega) ?_)) | (refine TL_cons rfl (TO_store1 5 rfl rfl rfl sz5 rfl rfl rfl (by first | exact Nat.le_of_ble_eq_true rfl | (simp; done) | (simp; omega) | omega) ?_)) | (refine TL_cons rfl (TO_store1 6 rfl rfl rfl sz5 rfl rfl rfl (by first | exact Nat.le_of_ble_eq_true rfl | (simp; done) | (simp; omega) | omega) ?_)) | (refine TL_cons rfl (TO_store1 7 rfl rfl rfl sz5 rfl rfl rfl (by first | exact Nat.le_of_ble_eq_true rfl | (simp; done) | (simp; omega) | omega) ?_)) | (refine TL_cons rfl (TO_store1 8 rfl rfl rfl sz5 rfl rfl rfl (by first | exact Nat.le_of_ble_eq_true rfl | (simp; done) | (simp; omega) | omega) ?_))
  refine TL_nil ?_
  refine T_seq ?_
  refine T_region ?_
  refine TL_pure (d := (some 43)) rfl rfl rfl (PV_move rfl) ?_
  refine TL_pure (d := (some 44)) rfl rfl rfl (PV_move rfl) ?_
  -- op 45 call F52(t43, t44)
  rw [nums_set .u8 bl (0 + k * 1) k _ (by omega)]
  refine TL_cons rfl (TO_call0 call52 rfl rfl (t52 (l := bl.set k (bits .xor .u8 (rd bl k) b)) crc (Shows.at 0 rfl) (by simp) (by omega) hc25 (U8s_set hbu _ _ hxr.1 hxr.2)) ?_)
  rintro v45 H45 hr45
  by_cases hb0 : b = 0
  · rw [hxs.2 hb0, set_same _ _ hk2, if_pos hq1] at hr45
    obtain ⟨A45, c45, rfl, hc45, rfl⟩ := hr45
    refine TL_pure (d := (some 42)) rfl rfl rfl (PV_move rfl) ?_
    refine TL_pure (d := (some 46)) rfl rfl rfl (PV_extract rfl rfl) ?_
    refine TL_pure (d := (some 47)) rfl rfl rfl (PV_extract rfl rfl) ?_
    refine TL_cons rfl (TO_alloc rfl zr58 fun g15 => ?_)
    first | (refine TL_cons rfl (TO_store 0 rfl rfl rfl sz58 rfl rfl rfl (by simp [Value.cells, Value.oneCell']) (by first | exact Nat.le_of_ble_eq_true rfl | (simp; done) | (simp; omega) | omega) ?_)) | (refine TL_cons rfl (TO_store 1 rfl rfl rfl sz58 rfl rfl rfl (by simp [Value.cells, Value.oneCell']) (by first | exact Nat.le_of_ble_eq_true rfl | (simp; done) | (simp; omega) | omega) ?_)) | (refine TL_cons rfl (TO_store 2 rfl rfl rfl sz58 rfl rfl rfl (by simp [Value.cells, Value.oneCell']) (by first | exact Nat.le_of_ble_eq_true rfl | (simp; done) | (simp; omega) | omega) ?_)) | (refine TL_cons rfl (TO_store 3 rfl rfl rfl sz58 rfl rfl rfl (by simp [Value.cells, Value.oneCell']) (by first | exact Nat.le_of_ble_eq_true rfl | (simp; done) | (simp; omega) | omega) ?_)) | (refine TL_cons rfl (TO_store 4 rfl rfl rfl sz58 rfl rfl rfl (by simp [Value.cells, Value.oneCell']) (by first | exact Nat.le_of_ble_eq_true rfl | (simp; done) | (simp; omega) | omega) ?_)) | (refine TL_cons rfl (TO_store 5 rfl rfl rfl sz58 rfl rfl rfl (by simp [Value.cells, Value.oneCell']) (by first | exact Nat.le_of_ble_eq_true rfl | (simp; done) | (simp; omega) | omega) ?_)) | (refine TL_cons rfl (TO_store 6 rfl rfl rfl sz58 rfl rfl rfl (by simp [Value.cells, Value.oneCell']) (by first | exact Nat.le_of_ble_eq_true rfl | (simp; done) | (simp; omega) | omega) ?_)) | (refine TL_cons rfl (TO_store 7 rfl rfl rfl sz58 rfl rfl rfl (by simp [Value.cells, Value.oneCell']) (by first | exact Nat.le_of_ble_eq_true rfl | (simp; done) | (simp; omega) | omega) ?_)) | (refine TL_cons rfl (TO_store 8 rfl rfl rfl sz58 rfl rfl rfl (by simp [Value.cells, Value.oneCell']) (by first | exact Nat.le_of_ble_eq_true rfl | (simp; done) | (simp; omega) | omega) ?_))
    refine TL_pure (d := (some 16)) rfl rfl rfl (PV_assign rfl) ?_
    refine TL_nil ?_
    refine T_seq ?_
    refine T_seq ?_
    refine T_region ?_
    refine TL_pure (d := (some 48)) rfl rfl rfl (PV_move rfl) ?_
    refine TL_pure (d := (some 49)) rfl rfl rfl (PV_bin rfl rfl bin_eql) ?_
    refine TL_nil ?_
    -- IF t49
    refine T_then rfl (by rw [hb0]; rfl) ?_
    refine T_seq ?_
    refine T_region ?_
    refine TL_pure (d := (some 50)) rfl rfl rfl (PV_move rfl) ?_
    refine TL_pure (d := (some 51)) rfl rfl rfl (PV_bin rfl rfl bin_eql) ?_
    refine TL_pure (d := (some 12)) rfl rfl rfl (PV_assign rfl) ?_
    refine TL_nil ?_
    refine T_ret ?_
    -- ('ret',)
    refine ⟨_, ?hh1, ?sb1, ResV_one rfl rfl, rfl⟩
    case sb1 => repeat (first | exact List.Sublist.refl _ | apply List.Sublist.cons_cons | apply List.Sublist.cons)
  · rw [hq2 k hk1 hk2 _ hxr.1 hxr.2 (fun e => hb0 (hxs.1 e)), if_neg (by decide)] at hr45
    obtain ⟨rfl, rfl⟩ := hr45
    refine TL_pure (d := (some 42)) rfl rfl rfl (PV_move rfl) ?_
    refine TL_pure (d := (some 46)) rfl rfl rfl (PV_extract rfl rfl) ?_
    refine TL_pure (d := (some 47)) rfl rfl rfl (PV_extract rfl rfl) ?_
    refine TL_cons rfl (TO_alloc rfl zr58 fun g15 => ?_)
    first | (refine TL_cons rfl (TO_store 0 rfl rfl rfl sz58 rfl rfl rfl (by simp [Value.cells, Value.oneCell']) (by first | exact Nat.le_of_ble_eq_true rfl | (simp; done) | (simp; omega) | omega) ?_)) | (refine TL_cons rfl (TO_store 1 rfl rfl rfl sz58 rfl rfl rfl (by simp [Value.cells, Value.oneCell']) (by first | exact Nat.le_of_ble_eq_true rfl | (simp; done) | (simp; omega) | omega) ?_)) | (refine TL_cons rfl (TO_store 2 rfl rfl rfl sz58 rfl rfl rfl (by simp [Value.cells, Value.oneCell']) (by first | exact Nat.le_of_ble_eq_true rfl | (simp; done) | (simp; omega) | omega) ?_)) | (refine TL_cons rfl (TO_store 3 rfl rfl rfl sz58 rfl rfl rfl (by simp [Value.cells, Value.oneCell']) (by first | exact Nat.le_of_ble_eq_true rfl | (simp; done) | (simp; omega) | omega) ?_)) | (refine TL_cons rfl (TO_store 4 rfl rfl rfl sz58 rfl rfl rfl (by simp [Value.cells, Value.oneCell']) (by first | exact Nat.le_of_ble_eq_true rfl | (simp; done) | (simp; omega) | omega) ?_)) | (refine TL_cons rfl (TO_store 5 rfl rfl rfl sz58 rfl rfl rfl (by simp [Value.cells, Value.oneCell']) (by first | exact Nat.le_of_ble_eq_true rfl | (simp; done) | (simp; omega) | omega) ?_)) | (refine TL_cons rfl (TO_store 6 rfl rfl rfl sz58 rfl rfl rfl (by simp [Value.cells, Value.oneCell']) (by first | exact Nat.le_of_ble_eq_true rfl | (simp; done) | (simp; omega) | omega) ?_)) | (refine TL_cons rfl (TO_store 7 rfl rfl rfl sz58 rfl rfl rfl (by simp [Value.cells, Value.oneCell']) (by first | exact Nat.le_of_ble_eq_true rfl | (simp; done) | (simp; omega) | omega) ?_)) | (refine TL_cons rfl (TO_store 8 rfl rfl rfl sz58 rfl rfl rfl (by simp [Value.cells, Value.oneCell']) (by first | exact Nat.le_of_ble_eq_true rfl | (simp; done) | (simp; omega) | omega) ?_))
    refine TL_pure (d := (some 16)) rfl rfl rfl (PV_assign rfl) ?_
    refine TL_nil ?_
    refine T_seq ?_
    refine T_seq ?_
    refine T_region ?_
    refine TL_pure (d := (some 48)) rfl rfl rfl (PV_move rfl) ?_
    refine TL_pure (d := (some 49)) rfl rfl rfl (PV_bin rfl rfl bin_eql) ?_
    refine TL_nil ?_
    -- IF t49
    refine T_else rfl (by simpa using hb0) ?_
    refine T_skip ?_
    refine T_seq ?_
    refine T_region ?_
    refine TL_pure (d := (some 52)) rfl rfl rfl (PV_move rfl) ?_
    refine TL_pure (d := (some 53)) rfl rfl rfl (PV_bin rfl rfl bin_eql) ?_
    refine TL_pure (d := (some 54)) rfl rfl rfl (PV_move rfl) ?_
    -- guard 55 fieldAddr 58 t15 0
    refine TL_yes rfl rfl rfl (TO_pure rfl (PV_fieldAddr (D := 0) Try.underlying58 rfl sz5 (by decide) rfl rfl) ?_)
    refine TL_yes rfl rfl rfl (TO_pure rfl (PV_load Try.underlying5 rfl rfl (by first | exact Rd.at 0 rfl rfl | exact Rd.at 1 rfl rfl | exact Rd.at 2 rfl rfl | exact Rd.at 3 rfl rfl | exact Rd.at 4 rfl rfl | exact Rd.at 5 rfl rfl | exact Rd.at 6 rfl rfl | exact Rd.at 7 rfl rfl | exact Rd.at 8 rfl rfl)) ?_)
    refine TL_yes rfl rfl rfl (TO_pure rfl (PV_bin rfl rfl bin_eql) ?_)
    first | (refine TL_pure (d := (some 58)) rfl rfl rfl (PV_pickAnd rfl rfl rfl) ?_) | (refine TL_pure (d := (some 58)) rfl rfl rfl (PV_pickF rfl (by first | assumption | rfl | (simp; done) | (simp; omega)) rfl rfl) ?_)
    refine TL_pure (d := (some 59)) rfl rfl rfl (PV_move rfl) ?_
    refine TL_yes rfl rfl rfl (TO_pure rfl (PV_fieldAddr (D := 1) Try.underlying58 rfl sz23 (by decide) rfl rfl) ?_)
    refine TL_yes rfl rfl rfl (TO_pure rfl (PV_load Try.underlying23 rfl rfl (by first | exact Rd.at 0 rfl rfl | exact Rd.at 1 rfl rfl | exact Rd.at 2 rfl rfl | exact Rd.at 3 rfl rfl | exact Rd.at 4 rfl rfl | exact Rd.at 5 rfl rfl | exact Rd.at 6 rfl rfl | exact Rd.at 7 rfl rfl | exact Rd.at 8 rfl rfl)) ?_)
    refine TL_yes rfl rfl rfl (TO_pure rfl (PV_len_slice Try.underlying23 rfl) ?_)
    refine TL_yes rfl rfl rfl (TO_pure rfl (PV_bin rfl rfl bin_eql) ?_)
    first | (refine TL_pure (d := (some 64)) rfl rfl rfl (PV_pickAnd rfl rfl rfl) ?_) | (refine TL_pure (d := (some 64)) rfl rfl rfl (PV_pickF rfl (by first | assumption | rfl | (simp; done) | (simp; omega)) rfl rfl) ?_)
    refine TL_pure (d := (some 12)) rfl rfl rfl (PV_assign rfl) ?_
    refine TL_nil ?_
    refine T_ret ?_
    refine ⟨_, ?hh2, ?sb2, ResV_one rfl rfl, rfl⟩
    case sb2 => repeat (first | exact List.Sublist.refl _ | apply List.Sublist.cons_cons | apply List.Sublist.cons)
end Go.Proofs.Ythdkmgeigdoglaa.SL
namespace Go.Proofs.Ythdkmgeigdoglaa.Hand
open Go Go.RowKit Go.Proofs.YthdkmgeigdoglaaW.PrintWords H
theorem u8_of_wf {n : Int} (h : (Lit.int .u8 n).wf = true) : 0 ≤ n ∧ n ≤ 255 := U8s.of_wf (l := [n]) (by simpa using h) n (by simp)
theorem u16_of_wf {n : Int} (h : (Lit.int .u16 n).wf = true) : 0 ≤ n ∧ n ≤ 65535 := by
  simp [Lit.wf, IntKind.min, IntKind.max, IntKind.signed, IntKind.bits] at h
  omega
theorem BlockTurned_walk (a0 : Option Addr) (c0 : Nat) (l0 : List Int) (a1 : Bool) (a2 : Int) (a3 : Bool) (a4 : Int) (a5 : Int) (w : World)
    (hr0 : ReadsInt w .u8 a0 l0.length l0) (hc0 : l0.length ≤ c0) (y0 : l0.length * 1 ≤ 140737488351232) (hw0 : ∀ x ∈ l0, (Lit.int .u8 x).wf = true) (w2 : (Lit.int .u8 a2).wf = true) (w4 : (Lit.int .u16 a4).wf = true) (w5 : (Lit.int .u8 a5).wf = true) :
    Calls Try.prog 15 #[.slice a0 l0.length c0, .bool a1, .int .u8 a2, .bool a3, .int .u16 a4, .int .u8 a5] w fun e w' => e = .returned (.bool true) ∧ Below w.heap.size w w' := by
  have h4 := u16_of_wf w4
  obtain ⟨k, rfl⟩ := Int.eq_ofNat_of_zero_le h4.1
  exact SL.law_of (SL.BlockTurned_t hr0 hc0 (U8s.of_wf hw0) (u8_of_wf w2) (by omega) (u8_of_wf w5))
end Go.Proofs.Ythdkmgeigdoglaa.Hand
