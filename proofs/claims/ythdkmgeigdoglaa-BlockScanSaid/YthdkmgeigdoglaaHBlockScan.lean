import Derived.Test.YthdkmgeigdoglaaSLAwake04
/- BlockScan, walked. -/
set_option linter.unusedVariables false
namespace Go.Proofs.Ythdkmgeigdoglaa.SL
open Go Go.RowKit Go.Proofs.YthdkmgeigdoglaaW.PrintWords H Hand
theorem strCells_of {xs : List Int} (h : U8s xs) : strCells (strOfNums xs) = nums .u8 xs := by
  unfold strCells strOfNums nums
  simp only [List.map_map]
  apply List.map_congr_left
  intro x hx
  have := h x hx
  simp only [Function.comp, UInt8.toNat_ofNat']
  congr 1
  omega
theorem nums_app (k : IntKind) (xs ys : List Int) : nums k xs ++ nums k ys = nums k (xs ++ ys) := by simp [nums]
theorem tmod_nat (a b : Nat) : Int.tmod (a : Int) (b : Int) = ((a % b : Nat) : Int) := rfl
theorem rd_take (xs : List Int) (k i : Nat) (h : i < k) : rd (xs.take k) i = rd xs i := by
  simp [rd, List.getD_eq_getElem?_getD, List.getElem?_take_of_lt h]
theorem Shows.takeN {W : World → Prop} {A : Option Addr} {m : Nat} {k : IntKind} {xs : List Int} (h : Shows W A m 1 (nums k xs)) (j : Nat) (hj : j ≤ m) : Shows W A j 1 (nums k (xs.take j)) := by
  have := h.upto j hj
  rw [Nat.mul_one] at this
  unfold nums at *
  rw [List.map_take]
  exact this
/-- Of fewer bytes one can't know. -/
theorem scan_prefix {m : Nat} {num : Int} {l : List Int} {crc : Bool} (hm : l.length = m) (hm2 : m = 128 ∨ m = 1024) (k : Nat) (hk : k < (blockL (leadOf m) num l crc).length) :
    scanS ((blockL (leadOf m) num l crc).take k) crc = 0 := by
  have hl := blockL_len (leadOf m) num l crc
  have ht := trailL_len l crc
  have hs : sizeL (leadOf m) crc = (blockL (leadOf m) num l crc).length := by
    rw [hl, ht, hm]
    rcases hm2 with rfl | rfl <;> cases crc <;> rfl
  have hlen : ((blockL (leadOf m) num l crc).take k).length = k := by rw [List.length_take]; omega
  unfold scanS
  by_cases h0 : k = 0
  · rw [if_pos (by rw [hlen]; exact h0)]
  · have e0 : rd ((blockL (leadOf m) num l crc).take k) 0 = leadOf m := by rw [show (0 : Int) = ((0 : Nat) : Int) from rfl, rd_take _ _ _ (by omega)]; rfl
    rw [if_neg (by rw [hlen]; exact h0), e0, if_neg (by rw [hs]; omega), hlen]
    rw [if_neg, if_pos (by rw [hs]; omega)]
    rintro ⟨h2, h1⟩
    apply h1
    rw [show (1 : Int) = ((1 : Nat) : Int) from rfl, show (2 : Int) = ((2 : Nat) : Int) from rfl, rd_take _ _ _ (by omega), rd_take _ _ _ (by omega)]
    show num = 255 - (255 - num)
    omega
set_option maxRecDepth 100000 in
theorem BlockScan_t {w : World} {A : Option Addr} {c : Nat} {l : List Int} {long : Bool} {num : Int} {crc : Bool} {cut : Nat} {A5 : Option Addr} {c5 : Nat} {rest : List Int} (hr : ReadsInt w .u8 A l.length l) (hc : l.length ≤ c) (hu : U8s l) (hn : 0 ≤ num ∧ num ≤ 255) (hcut : cut ≤ 65535)
    (hr5 : ReadsInt w .u8 A5 rest.length rest) (hc5 : rest.length ≤ c5) (hu5 : U8s rest) (y5 : rest.length ≤ 140737488351232) :
    TCall Try.prog w w.heap.size 14 #[.slice A l.length c, .bool long, .int .u8 num, .bool crc, .int .u16 (cut : Int), .slice A5 rest.length c5] (fun r _ => r = .bool true) [] := by
  have hS : ∀ H, Shows (WH w w.heap.size H) A l.length 1 (nums .u8 l) := fun H => shows_start hr
  have hS5 : ∀ H, Shows (WH w w.heap.size H) A5 rest.length 1 (nums .u8 rest) := fun H => shows_start hr5
  have hl := hr.2.1
  have hdl := dataL_len l long
  have hdn : dataN long = 128 ∨ dataN long = 1024 := by cases long <;> simp [dataN]
  have hdu := dataL_u8 l long
  obtain ⟨bl, hblE⟩ : ∃ bl, blockL (leadOf (dataN long)) num (dataL l long) crc = bl := ⟨_, rfl⟩
  have hblE2 : blockL (if dataN long = 1024 then 2 else 1) num (dataL l long) crc = bl := hblE
  have hbl := blockL_len (leadOf (dataN long)) num (dataL l long) crc
  have htl := trailL_le (dataL l long) crc
  have hbu := blockL_u8 (leadOf (dataN long)) num (dataL l long) crc (leadOf_u8 _) hn hdu
  have hq1 := scan_of_block (rest := rest) (crc := crc) hdl hdn hn
  have hq2 := fun k hk => scan_prefix (num := num) (crc := crc) hdl hdn k hk
  rw [hblE] at hbl hbu hq1
  rw [hblE] at hq2
  obtain ⟨hq11, hq12, hq13⟩ := hq1
  refine TCall_intro (args := [_, _, _, _, _, _]) Try.func14 rfl Try.ntmps14 (Nat.le_of_ble_eq_true rfl) ?_
  refine T_seq ?_
  refine T_region ?_
  refine TL_pure (d := (some 12)) rfl rfl rfl (PV_assign rfl) ?_
  refine TL_nil ?_
  refine T_seq ?_
  refine T_seq ?_
  refine T_region ?_
  -- op 19 call F47()
  refine TL_cons rfl (TO_call0 call47 rfl rfl (t47) ?_)
  rintro v19 H19 ⟨rfl, rfl⟩
  refine TL_pure (d := (some 20)) rfl rfl rfl (PV_not rfl) ?_
  refine TL_nil ?_
  refine T_else rfl (by rfl) ?_
  refine T_skip ?_
  refine T_seq ?_
  refine T_region ?_
  refine TL_pure (d := (some 21)) rfl rfl rfl (PV_move rfl) ?_
  refine TL_pure (d := (some 22)) rfl rfl rfl (PV_move rfl) ?_
  -- op 23 call F48(t21, t22)
  refine TL_cons rfl (TO_call0 call48 rfl rfl (t48 long (hS _) hl hc hu) ?_)
  rintro v23 H23 ⟨A23, c23, rfl, hc23, rfl⟩
  refine TL_pure (d := (some 13)) rfl rfl rfl (PV_assign rfl) ?_
  refine TL_nil ?_
  refine T_seq ?_
  refine T_region ?_
  refine TL_pure (d := (some 24)) rfl rfl rfl (PV_move rfl) ?_
  refine TL_pure (d := (some 25)) rfl rfl rfl (PV_move rfl) ?_
  refine TL_pure (d := (some 26)) rfl rfl rfl (PV_move rfl) ?_
  -- op 27 call F50(t24, t25, t26)
  refine TL_cons rfl (TO_call0 call50 rfl rfl (t50 crc (Shows.at 0 rfl) (by omega) hc23 hdu hn) ?_)
  rintro v27 H27 ⟨rfl, rfl⟩
  rw [hblE2]
  refine TL_cons rfl (TO_s2b Try.underlying9 Try.underlying23 Try.underlying5 rfl rfl fun g28 c28 hc28 => ?_)
  refine TL_pure (d := (some 14)) rfl rfl rfl (PV_assign rfl) ?_
  refine TL_nil ?_
  refine T_seq ?_
  refine T_region ?_
  refine TL_pure (d := (some 30)) rfl rfl rfl (PV_move rfl) ?_
  -- op 31 append(cnilslice, t30) [23, 23]
  rw [strCells_of hbu, strOf_len] at *
  refine TL_cons rfl (TO_appendNil Try.underlying23 zb5 rfl (by decide) rfl rfl rfl (Shows.at 0 rfl) nums_one (by omega) (by omega) fun A31 c31 hc31 => ?_)
  refine TL_pure (d := (some 32)) rfl rfl rfl (PV_move rfl) ?_
  -- op 33 append(t31, t32) [23, 23]
  refine TL_cons rfl (TO_append 0 rfl Try.underlying23 zb5 rfl (by decide) rfl rfl rfl (hS5 _) nums_one (by omega) (by omega) fun A33 c33 hc33 => ?_)
  rw [nums_app]
  refine TL_pure (d := (some 34)) rfl rfl rfl (PV_move rfl) ?_
  -- op 35 call F52(t33, t34)
  refine TL_cons rfl (TO_call0 call52 rfl rfl (t52 crc (Shows.at 0 rfl) (by simp) (by omega) hc33 (hbu.append hu5)) ?_)
  rintro v35 H35 hr52
  rw [if_pos hq11, hq12, hq13] at hr52
  obtain ⟨A35, c35, rfl, hc35, rfl⟩ := hr52
  refine TL_pure (d := (some 29)) rfl rfl rfl (PV_move rfl) ?_
  refine TL_pure (d := (some 36)) rfl rfl rfl (PV_extract rfl rfl) ?_
  refine TL_pure (d := (some 37)) rfl rfl rfl (PV_extract rfl rfl) ?_
  refine TL_cons rfl (TO_alloc rfl zr58 fun g15 => ?_)
  first | (refine TL_cons rfl (TO_store 0 rfl rfl rfl sz58 rfl rfl rfl (by simp [Value.cells, Value.oneCell']) (by first | exact Nat.le_of_ble_eq_true rfl | (simp; done) | (simp; omega) | omega) ?_)) | (refine TL_cons rfl (TO_store 1 rfl rfl rfl sz58 rfl rfl rfl (by simp [Value.cells, Value.oneCell']) (by first | exact Nat.le_of_ble_eq_true rfl | (simp; done) | (simp; omega) | omega) ?_)) | (refine TL_cons rfl (TO_store 2 rfl rfl rfl sz58 rfl rfl rfl (by simp [Value.cells, Value.oneCell']) (by first | exact Nat.le_of_ble_eq_true rfl | (simp; done) | (simp; omega) | omega) ?_)) | (refine TL_cons rfl (TO_store 3 rfl rfl rfl sz58 rfl rfl rfl (by simp [Value.cells, Value.oneCell']) (by first | exact Nat.le_of_ble_eq_true rfl | (simp; done) | (simp; omega) | omega) ?_)) | (refine TL_cons rfl (TO_store 4 rfl rfl rfl sz58 rfl rfl rfl (by simp [Value.cells, Value.oneCell']) (by first | exact Nat.le_of_ble_eq_true rfl | (simp; done) | (simp; omega) | omega) ?_)) | (refine TL_cons rfl (TO_store 5 rfl rfl rfl sz58 rfl rfl rfl (by simp [Value.cells, Value.oneCell']) (by first | exact Nat.le_of_ble_eq_true rfl | (simp; done) | (simp; omega) | omega) ?_)) | (refine TL_cons rfl (TO_store 6 rfl rfl rfl sz58 rfl rfl rfl (by simp [Value.cells, Value.oneCell']) (by first | exact Nat.le_of_ble_eq_true rfl | (simp; done) | (simp; omega) | omega) ?_)) | (refine TL_cons rfl (TO_store 7 rfl rfl rfl sz58 rfl rfl rfl (by simp [Value.cells, Value.oneCell']) (by first | exact Nat.le_of_ble_eq_true rfl | (simp; done) | (simp; omega) | omega) ?_)) | (refine TL_cons rfl (TO_store 8 rfl rfl rfl sz58 rfl rfl rfl (by simp [Value.cells, Value.oneCell']) (by first | exact Nat.le_of_ble_eq_true rfl | (simp; done) | (simp; omega) | omega) ?_))
  refine TL_pure (d := (some 16)) rfl rfl rfl (PV_assign rfl) ?_
  refine TL_nil ?_
  refine T_seq ?_
  refine T_region ?_
  refine TL_pure (d := (some 39)) rfl rfl rfl (PV_move rfl) ?_
  refine TL_pure (d := (some 40)) rfl rfl rfl (PV_move rfl) ?_
  first | (refine TL_pure (d := (some 41)) rfl rfl rfl (PV.cast (PV_conv (by rw [Try.underlying22]; rfl) Try.underlying3 rfl) (wr64 (by omega))) ?_) | (refine TL_pure (d := (some 41)) rfl rfl rfl (PV_conv (by rw [Try.underlying22]; rfl) Try.underlying3 rfl) ?_)
  refine TL_pure (d := (some 42)) rfl rfl rfl (PV_move rfl) ?_
  refine TL_pure (d := (some 43)) rfl rfl rfl (PV_len_slice Try.underlying23 rfl) ?_
  refine TL_pure (d := (some 44)) rfl rfl rfl (PV.cast (PV_bin rfl rfl (bin_rem (by omega))) (congrArg (Value.int .i64) (tmod_nat cut bl.length))) ?_
  -- op 45 slice 23 t39 none t44 none
  have hk : cut % bl.length < bl.length := Nat.mod_lt _ (by omega)
  refine TL_pure (d := (some 45)) rfl rfl rfl (PV_sliceTo (h := cut % bl.length) Try.underlying23 sz5 rfl hc28 ⟨_, rfl⟩ (Nat.le_of_lt hk)) ?_
  refine TL_pure (d := (some 46)) rfl rfl rfl (PV_move rfl) ?_
  -- op 47 call F52(t45, t46)
  refine TL_cons rfl (TO_call0 call52 rfl rfl (t52 (l := bl.take (cut % bl.length)) crc ((Shows.at 3 rfl).takeN _ (Nat.le_of_lt hk)) (by rw [List.length_take]; omega) (by omega) (by omega) (hbu.take _)) ?_)
  rintro v47 H47 hr47
  rw [hq2 _ hk, if_neg (by decide)] at hr47
  obtain ⟨rfl, rfl⟩ := hr47
  refine TL_pure (d := (some 38)) rfl rfl rfl (PV_move rfl) ?_
  refine TL_pure (d := (some 48)) rfl rfl rfl (PV_extract rfl rfl) ?_
  refine TL_pure (d := (some 49)) rfl rfl rfl (PV_extract rfl rfl) ?_
  refine TL_cons rfl (TO_alloc rfl zr58 fun g17 => ?_)
  first | (refine TL_cons rfl (TO_store 0 rfl rfl rfl sz58 rfl rfl rfl (by simp [Value.cells, Value.oneCell']) (by first | exact Nat.le_of_ble_eq_true rfl | (simp; done) | (simp; omega) | omega) ?_)) | (refine TL_cons rfl (TO_store 1 rfl rfl rfl sz58 rfl rfl rfl (by simp [Value.cells, Value.oneCell']) (by first | exact Nat.le_of_ble_eq_true rfl | (simp; done) | (simp; omega) | omega) ?_)) | (refine TL_cons rfl (TO_store 2 rfl rfl rfl sz58 rfl rfl rfl (by simp [Value.cells, Value.oneCell']) (by first | exact Nat.le_of_ble_eq_true rfl | (simp; done) | (simp; omega) | omega) ?_)) | (refine TL_cons rfl (TO_store 3 rfl rfl rfl sz58 rfl rfl rfl (by simp [Value.cells, Value.oneCell']) (by first | exact Nat.le_of_ble_eq_true rfl | (simp; done) | (simp; omega) | omega) ?_)) | (refine TL_cons rfl (TO_store 4 rfl rfl rfl sz58 rfl rfl rfl (by simp [Value.cells, Value.oneCell']) (by first | exact Nat.le_of_ble_eq_true rfl | (simp; done) | (simp; omega) | omega) ?_)) | (refine TL_cons rfl (TO_store 5 rfl rfl rfl sz58 rfl rfl rfl (by simp [Value.cells, Value.oneCell']) (by first | exact Nat.le_of_ble_eq_true rfl | (simp; done) | (simp; omega) | omega) ?_)) | (refine TL_cons rfl (TO_store 6 rfl rfl rfl sz58 rfl rfl rfl (by simp [Value.cells, Value.oneCell']) (by first | exact Nat.le_of_ble_eq_true rfl | (simp; done) | (simp; omega) | omega) ?_)) | (refine TL_cons rfl (TO_store 7 rfl rfl rfl sz58 rfl rfl rfl (by simp [Value.cells, Value.oneCell']) (by first | exact Nat.le_of_ble_eq_true rfl | (simp; done) | (simp; omega) | omega) ?_)) | (refine TL_cons rfl (TO_store 8 rfl rfl rfl sz58 rfl rfl rfl (by simp [Value.cells, Value.oneCell']) (by first | exact Nat.le_of_ble_eq_true rfl | (simp; done) | (simp; omega) | omega) ?_))
  refine TL_pure (d := (some 18)) rfl rfl rfl (PV_assign rfl) ?_
  refine TL_nil ?_
  refine T_seq ?_
  refine T_region ?_
  refine TL_pure (d := (some 50)) rfl rfl rfl (PV_move rfl) ?_
  refine TL_pure (d := (some 51)) rfl rfl rfl (PV.cast (PV_bin rfl rfl bin_eql) (congrArg Value.bool (show _ = true by rfl))) ?_
  refine TL_pure (d := (some 52)) rfl rfl rfl (PV_move rfl) ?_
  -- guard 53 fieldAddr 58 t15 0
  refine TL_yes rfl rfl rfl (TO_pure rfl (PV_fieldAddr (D := 0) Try.underlying58 rfl sz5 (by decide) rfl rfl) ?_)
  refine TL_yes rfl rfl rfl (TO_pure rfl (PV_load Try.underlying5 rfl rfl (by first | exact Rd.at 0 rfl rfl | exact Rd.at 1 rfl rfl | exact Rd.at 2 rfl rfl | exact Rd.at 3 rfl rfl | exact Rd.at 4 rfl rfl | exact Rd.at 5 rfl rfl | exact Rd.at 6 rfl rfl | exact Rd.at 7 rfl rfl | exact Rd.at 8 rfl rfl)) ?_)
  refine TL_yes rfl rfl rfl (TO_pure rfl (PV_move rfl) ?_)
  refine TL_yes rfl rfl rfl (TO_pure rfl (PV.cast (PV_bin rfl rfl bin_eql) (congrArg Value.bool (show _ = true by exact beq_self_eq_true _))) ?_)
  first | (refine TL_pure (d := (some 57)) rfl rfl rfl (PV_pickAnd rfl rfl rfl) ?_) | (refine TL_pure (d := (some 57)) rfl rfl rfl (PV_pickF rfl (by first | assumption | rfl | (simp; done) | (simp; omega)) rfl rfl) ?_)
  refine TL_pure (d := (some 58)) rfl rfl rfl (PV_move rfl) ?_
  refine TL_yes rfl rfl rfl (TO_pure rfl (PV_fieldAddr (D := 1) Try.underlying58 rfl sz23 (by decide) rfl rfl) ?_)
  refine TL_yes rfl rfl rfl (TO_pure rfl (PV_load Try.underlying23 rfl rfl (by first | exact Rd.at 0 rfl rfl | exact Rd.at 1 rfl rfl | exact Rd.at 2 rfl rfl | exact Rd.at 3 rfl rfl | exact Rd.at 4 rfl rfl | exact Rd.at 5 rfl rfl | exact Rd.at 6 rfl rfl | exact Rd.at 7 rfl rfl | exact Rd.at 8 rfl rfl)) ?_)
  refine TL_yes rfl rfl rfl (TO_pure rfl (PV_b2s Try.underlying23 Try.underlying5 Try.underlying9 rfl (by first | assumption | exact Shows.at 0 rfl | exact Shows.at 1 rfl | exact Shows.at 2 rfl | exact Shows.at 3 rfl | exact Shows.at 4 rfl | exact Shows.at 5 rfl | exact Shows.at 6 rfl | exact Shows.at 7 rfl | exact Shows.at 8 rfl)) ?_)
  refine TL_yes rfl rfl rfl (TO_pure rfl (PV_move rfl) ?_)
  refine TL_yes rfl rfl rfl (TO_pure rfl (PV_b2s Try.underlying23 Try.underlying5 Try.underlying9 rfl (by first | assumption | exact Shows.at 0 rfl | exact Shows.at 1 rfl | exact Shows.at 2 rfl | exact Shows.at 3 rfl | exact Shows.at 4 rfl | exact Shows.at 5 rfl | exact Shows.at 6 rfl | exact Shows.at 7 rfl | exact Shows.at 8 rfl)) ?_)
  refine TL_yes rfl rfl rfl (TO_pure rfl (PV.cast (PV_bin rfl rfl bin_str_eql) (congrArg Value.bool (show _ = true by exact decide_eq_true rfl))) ?_)
  first | (refine TL_pure (d := (some 65)) rfl rfl rfl (PV_pickAnd rfl rfl rfl) ?_) | (refine TL_pure (d := (some 65)) rfl rfl rfl (PV_pickF rfl (by first | assumption | rfl | (simp; done) | (simp; omega)) rfl rfl) ?_)
  refine TL_pure (d := (some 66)) rfl rfl rfl (PV_move rfl) ?_
  refine TL_yes rfl rfl rfl (TO_pure rfl (PV_move rfl) ?_)
  refine TL_yes rfl rfl rfl (TO_pure rfl (PV.cast (PV_bin rfl rfl bin_eql) (congrArg Value.bool (show _ = true by rfl))) ?_)
  first | (refine TL_pure (d := (some 69)) rfl rfl rfl (PV_pickAnd rfl rfl rfl) ?_) | (refine TL_pure (d := (some 69)) rfl rfl rfl (PV_pickF rfl (by first | assumption | rfl | (simp; done) | (simp; omega)) rfl rfl) ?_)
  refine TL_pure (d := (some 12)) rfl rfl rfl (PV_assign rfl) ?_
  refine TL_nil ?_
  refine T_ret ?_
  refine ⟨_, ?hh, ?sb, ResV_one rfl rfl, rfl⟩
  case sb => repeat (first | exact List.Sublist.refl _ | apply List.Sublist.cons_cons | apply List.Sublist.cons)
end Go.Proofs.Ythdkmgeigdoglaa.SL
namespace Go.Proofs.Ythdkmgeigdoglaa.Hand
open Go Go.RowKit Go.Proofs.YthdkmgeigdoglaaW.PrintWords H
theorem u8_of_wf {n : Int} (h : (Lit.int .u8 n).wf = true) : 0 ≤ n ∧ n ≤ 255 := U8s.of_wf (l := [n]) (by simpa using h) n (by simp)
theorem u16_of_wf {n : Int} (h : (Lit.int .u16 n).wf = true) : 0 ≤ n ∧ n ≤ 65535 := by
  simp [Lit.wf, IntKind.min, IntKind.max, IntKind.signed, IntKind.bits] at h
  omega
theorem BlockScan_walk (a0 : Option Addr) (c0 : Nat) (l0 : List Int) (a1 : Bool) (a2 : Int) (a3 : Bool) (a4 : Int) (a5 : Option Addr) (c5 : Nat) (l5 : List Int) (w : World)
    (hr0 : ReadsInt w .u8 a0 l0.length l0) (hc0 : l0.length ≤ c0) (y0 : l0.length * 1 ≤ 140737488351232) (hw0 : ∀ x ∈ l0, (Lit.int .u8 x).wf = true) (w2 : (Lit.int .u8 a2).wf = true) (w4 : (Lit.int .u16 a4).wf = true)
    (hr5 : ReadsInt w .u8 a5 l5.length l5) (hc5 : l5.length ≤ c5) (y5 : l5.length * 1 ≤ 140737488351232) (hw5 : ∀ x ∈ l5, (Lit.int .u8 x).wf = true) :
    Calls Try.prog 14 #[.slice a0 l0.length c0, .bool a1, .int .u8 a2, .bool a3, .int .u16 a4, .slice a5 l5.length c5] w fun e w' => e = .returned (.bool true) ∧ Below w.heap.size w w' := by
  have h4 := u16_of_wf w4
  obtain ⟨k, rfl⟩ := Int.eq_ofNat_of_zero_le h4.1
  exact SL.law_of (SL.BlockScan_t hr0 hc0 (U8s.of_wf hw0) (u8_of_wf w2) (by omega) hr5 hc5 (U8s.of_wf hw5) (by omega))
end Go.Proofs.Ythdkmgeigdoglaa.Hand
