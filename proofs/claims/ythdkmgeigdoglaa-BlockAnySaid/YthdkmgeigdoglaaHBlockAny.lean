import Derived.Test.YthdkmgeigdoglaaSLAwake04
/- BlockAny, walked. -/
set_option linter.unusedVariables false
namespace Go.Proofs.Ythdkmgeigdoglaa.SL
open Go Go.RowKit Go.Proofs.YthdkmgeigdoglaaW.PrintWords H Hand
theorem nums_at' {k : IntKind} {xs : List Int} {off : Nat} (i : Nat) (h : off = i) (hi : i < xs.length) : (nums k xs)[off]? = some (.int k (rd xs i)) := by
  subst h; exact nums_at off hi
theorem Shows.takeN {W : World → Prop} {A : Option Addr} {m : Nat} {k : IntKind} {xs : List Int} (h : Shows W A m 1 (nums k xs)) (j : Nat) (hj : j ≤ m) : Shows W A j 1 (nums k (xs.take j)) := by
  have := h.upto j hj
  rw [Nat.mul_one] at this
  unfold nums at *
  rw [List.map_take]
  exact this
theorem xor_255 (x y : Int) (hx : 0 ≤ x ∧ x ≤ 255) (hy : 0 ≤ y ∧ y ≤ 255) : Go.bits .xor .u8 x y = 255 ↔ x = 255 - y := by
  rw [xor8]
  have e1 : ((BitVec.ofInt 8 x ^^^ BitVec.ofInt 8 y).toNat : Int) = 255 ↔ BitVec.ofInt 8 x ^^^ BitVec.ofInt 8 y = BitVec.allOnes 8 := by
    constructor
    · intro h
      apply BitVec.eq_of_toNat_eq
      simp only [BitVec.toNat_allOnes]
      omega
    · intro h
      rw [h]
      rfl
  rw [e1]
  have e2 : BitVec.ofInt 8 x ^^^ BitVec.ofInt 8 y = BitVec.allOnes 8 ↔ BitVec.ofInt 8 x = ~~~ BitVec.ofInt 8 y := by
    constructor
    · intro h
      have := congrArg (· ^^^ BitVec.ofInt 8 y) h
      simp only [BitVec.xor_assoc, BitVec.xor_self, BitVec.xor_zero] at this
      rw [this, BitVec.allOnes_xor]
    · intro h
      rw [h, ← BitVec.allOnes_xor, BitVec.xor_assoc, BitVec.xor_self, BitVec.xor_zero]
  rw [e2]
  have tx : (BitVec.ofInt 8 x).toNat = x.toNat := by simp [BitVec.toNat_ofInt]; omega
  have ty : (BitVec.ofInt 8 y).toNat = y.toNat := by simp [BitVec.toNat_ofInt]; omega
  constructor
  · intro h
    have := congrArg BitVec.toNat h
    rw [BitVec.toNat_not, tx, ty] at this
    omega
  · intro h
    apply BitVec.eq_of_toNat_eq
    rw [BitVec.toNat_not, tx, ty]
    omega
/-- What is read of bytes are their own. -/
theorem scan_own {l : List Int} {crc : Bool} (hu : U8s l) (h2 : scanS l crc = 2) : (scanD l crc).length ≤ 2000 ∧ sizeL (rd l 0) crc ≤ l.length ∧ blockL (if (scanD l crc).length = 1024 then 2 else 1) (rd l 1) (scanD l crc) crc = l.take (sizeL (rd l 0) crc) := by
  unfold scanS at h2
  split at h2
  · cases h2
  rename_i h0
  split at h2
  · cases h2
  rename_i hz
  split at h2
  · cases h2
  rename_i hx
  split at h2
  · cases h2
  rename_i hl
  split at h2
  rotate_left
  · cases h2
  rename_i ht
  have h3 : trailL (scanD l crc) crc = scanE l crc := strOf_inj (trailL_u8 _ _) ((hu.take _).drop _) ht
  have ht0 := trailL_len [] crc
  have ht1 := trailL_len (scanD l crc) crc
  have hs : (rd l 0 = 1 ∧ sizeL (rd l 0) crc = 131 + (trailL [] crc).length) ∨ (rd l 0 = 2 ∧ sizeL (rd l 0) crc = 1027 + (trailL [] crc).length) := by
    rw [ht0]
    unfold sizeL at hz ⊢
    by_cases e1 : rd l 0 = 1
    · left; rw [if_pos e1] at hz ⊢; exact ⟨e1, by split <;> rfl⟩
    · by_cases e2 : rd l 0 = 2
      · right; rw [if_neg e1, if_pos e2] at hz ⊢; exact ⟨e2, by split <;> rfl⟩
      · rw [if_neg e1, if_neg e2] at hz; exact absurd rfl hz
  have hT : scanT l crc = sizeL (rd l 0) crc - (trailL [] crc).length := rfl
  have hDl : (scanD l crc).length = scanT l crc - 3 := by
    unfold scanD
    rw [List.length_drop, List.length_take]
    omega
  have h12 : rd l 1 = 255 - rd l 2 := by
    by_cases e : rd l 1 = 255 - rd l 2
    · exact e
    · exact absurd ⟨by omega, e⟩ hx
  refine ⟨by omega, by omega, ?_⟩
  have e3 : l.take (sizeL (rd l 0) crc) = l.take (scanT l crc) ++ scanE l crc := by
    unfold scanE
    have := List.take_append_drop (scanT l crc) (l.take (sizeL (rd l 0) crc))
    rw [List.take_take, Nat.min_eq_left (by omega)] at this
    exact this.symm
  have e4 : l.take (scanT l crc) = [rd l 0, rd l 1, rd l 2] ++ scanD l crc := by
    unfold scanD
    have := List.take_append_drop 3 (l.take (scanT l crc))
    rw [List.take_take, Nat.min_eq_left (by omega)] at this
    refine this.symm.trans ?_
    congr 1
    match l, (show 3 ≤ l.length by omega) with
    | a :: b :: c :: r, _ => rfl
  rw [e3, e4, ← h3]
  unfold blockL
  congr 1
  congr 1
  have : (if (scanD l crc).length = 1024 then (2 : Int) else 1) = rd l 0 := by
    rcases hs with ⟨h, h'⟩ | ⟨h, h'⟩
    · rw [if_neg (by omega), h]
    · rw [if_pos (by omega), h]
  rw [this]
  congr 2
  rw [h12]; congr 1; omega
set_option maxRecDepth 100000 in
theorem BlockAny_t {w : World} {A : Option Addr} {c : Nat} {l : List Int} {crc : Bool} (hr : ReadsInt w .u8 A l.length l) (hc : l.length ≤ c) (hu : U8s l) :
    TCall Try.prog w w.heap.size 16 #[.slice A l.length c, .bool crc] (fun r _ => r = .bool true) [] := by
  have hS : ∀ H, Shows (WH w w.heap.size H) A l.length 1 (nums .u8 l) := fun H => shows_start hr
  have hl := hr.2.1
  have u0 := hu.at_ 0
  have u1 := hu.at_ 1
  have u2 := hu.at_ 2
  have hx2 := xor_255 (rd l 1) (rd l 2) u1 u2
  refine TCall_intro (args := [_, _]) Try.func16 rfl Try.ntmps16 (Nat.le_of_ble_eq_true rfl) ?_
  refine T_seq ?_
  refine T_region ?_
  refine TL_pure (d := (some 4)) rfl rfl rfl (PV_assign rfl) ?_
  refine TL_nil ?_
  refine T_seq ?_
  refine T_seq ?_
  refine T_region ?_
  -- op 7 call F47()
  refine TL_cons rfl (TO_call0 call47 rfl rfl (t47) ?_)
  rintro v7 H7 ⟨rfl, rfl⟩
  refine TL_pure (d := (some 8)) rfl rfl rfl (PV_not rfl) ?_
  refine TL_nil ?_
  refine T_else rfl (by rfl) ?_
  refine T_skip ?_
  refine T_seq ?_
  refine T_region ?_
  refine TL_pure (d := (some 10)) rfl rfl rfl (PV_move rfl) ?_
  refine TL_pure (d := (some 11)) rfl rfl rfl (PV_move rfl) ?_
  -- op 12 call F52(t10, t11)
  refine TL_cons rfl (TO_call0 call52 rfl rfl (t52 crc (hS _) rfl hl hc hu) ?_)
  rintro v12 H12 hr12
  by_cases h0 : l.length = 0
  · have e : scanS l crc = 0 := by unfold scanS; rw [if_pos h0]
    rw [e, if_neg (by decide)] at hr12
    obtain ⟨rfl, rfl⟩ := hr12
    refine TL_pure (d := (some 9)) rfl rfl rfl (PV_move rfl) ?_
    refine TL_pure (d := (some 13)) rfl rfl rfl (PV_extract rfl rfl) ?_
    refine TL_pure (d := (some 14)) rfl rfl rfl (PV_extract rfl rfl) ?_
    refine TL_cons rfl (TO_alloc rfl zr58 fun g5 => ?_)
    first | (refine TL_cons rfl (TO_store 0 rfl rfl rfl sz58 rfl rfl rfl (by simp [Value.cells, Value.oneCell']) (by first | exact Nat.le_of_ble_eq_true rfl | (simp; done) | (simp; omega) | omega) ?_)) | (refine TL_cons rfl (TO_store 1 rfl rfl rfl sz58 rfl rfl rfl (by simp [Value.cells, Value.oneCell']) (by first | exact Nat.le_of_ble_eq_true rfl | (simp; done) | (simp; omega) | omega) ?_)) | (refine TL_cons rfl (TO_store 2 rfl rfl rfl sz58 rfl rfl rfl (by simp [Value.cells, Value.oneCell']) (by first | exact Nat.le_of_ble_eq_true rfl | (simp; done) | (simp; omega) | omega) ?_)) | (refine TL_cons rfl (TO_store 3 rfl rfl rfl sz58 rfl rfl rfl (by simp [Value.cells, Value.oneCell']) (by first | exact Nat.le_of_ble_eq_true rfl | (simp; done) | (simp; omega) | omega) ?_)) | (refine TL_cons rfl (TO_store 4 rfl rfl rfl sz58 rfl rfl rfl (by simp [Value.cells, Value.oneCell']) (by first | exact Nat.le_of_ble_eq_true rfl | (simp; done) | (simp; omega) | omega) ?_)) | (refine TL_cons rfl (TO_store 5 rfl rfl rfl sz58 rfl rfl rfl (by simp [Value.cells, Value.oneCell']) (by first | exact Nat.le_of_ble_eq_true rfl | (simp; done) | (simp; omega) | omega) ?_)) | (refine TL_cons rfl (TO_store 6 rfl rfl rfl sz58 rfl rfl rfl (by simp [Value.cells, Value.oneCell']) (by first | exact Nat.le_of_ble_eq_true rfl | (simp; done) | (simp; omega) | omega) ?_)) | (refine TL_cons rfl (TO_store 7 rfl rfl rfl sz58 rfl rfl rfl (by simp [Value.cells, Value.oneCell']) (by first | exact Nat.le_of_ble_eq_true rfl | (simp; done) | (simp; omega) | omega) ?_)) | (refine TL_cons rfl (TO_store 8 rfl rfl rfl sz58 rfl rfl rfl (by simp [Value.cells, Value.oneCell']) (by first | exact Nat.le_of_ble_eq_true rfl | (simp; done) | (simp; omega) | omega) ?_))
    refine TL_pure (d := (some 6)) rfl rfl rfl (PV_assign rfl) ?_
    refine TL_nil ?_
    refine T_seq ?_
    refine T_block ?_
    refine T_seq ?_
    refine T_region ?_
    refine TL_pure (d := (some 16)) rfl rfl rfl (PV_move rfl) ?_
    refine TL_pure (d := (some 17)) rfl rfl rfl (PV_len_slice Try.underlying23 rfl) ?_
    refine TL_pure (d := (some 18)) rfl rfl rfl (PV_bin rfl rfl bin_eql) ?_
    refine TL_pure (d := (some 15)) rfl rfl rfl (PV_assign rfl) ?_
    refine TL_nil ?_
    -- IF t15
    refine T_then rfl (by simp [h0]) ?_
    refine T_seq ?_
    refine T_region ?_
    refine TL_pure (d := (some 19)) rfl rfl rfl (PV_move rfl) ?_
    refine TL_pure (d := (some 20)) rfl rfl rfl (PV_bin rfl rfl bin_eql) ?_
    refine TL_pure (d := (some 4)) rfl rfl rfl (PV_assign rfl) ?_
    refine TL_nil ?_
    refine T_ret ?_
    -- ('ret',)
    refine ⟨_, ?hh1, ?sb1, ResV_one rfl rfl, rfl⟩
    case sb1 => repeat (first | exact List.Sublist.refl _ | apply List.Sublist.cons_cons | apply List.Sublist.cons)
  have hsz : sizeL (rd l 0) crc ≠ 0 → rd l 0 = 1 ∨ rd l 0 = 2 := by
    intro h
    unfold sizeL at h
    by_cases e1 : rd l 0 = 1
    · exact Or.inl e1
    · by_cases e2 : rd l 0 = 2
      · exact Or.inr e2
      · rw [if_neg e1, if_neg e2] at h; exact absurd rfl h
  have hsn : sizeL (rd l 0) crc ≠ 0 → 131 ≤ sizeL (rd l 0) crc := by
    intro h
    rcases hsz h with e | e <;> unfold sizeL <;> rw [e] <;> cases crc <;> decide
  have hsm : sizeL (rd l 0) crc ≤ 1029 := by
    unfold sizeL
    repeat (first | split | omega)
  by_cases h2 : scanS l crc = 2
  · rw [if_pos h2] at hr12
    obtain ⟨A12, c12, rfl, hc12, rfl⟩ := hr12
    obtain ⟨hD, hN, hso⟩ := scan_own hu h2
    have hz : sizeL (rd l 0) crc ≠ 0 := by
      intro hz
      unfold scanS at h2
      rw [if_neg h0, if_pos hz] at h2
      cases h2
    have h12 : rd l 1 = 255 - rd l 2 := by
      by_cases e : rd l 1 = 255 - rd l 2
      · exact e
      · unfold scanS at h2
        rw [if_neg h0, if_neg hz, if_pos ⟨by have := hsn hz; omega, e⟩] at h2
        cases h2
    have hdu : U8s (scanD l crc) := (hu.take _).drop _
    have hT := (hS []).takeN (sizeL (rd l 0) crc) hN
    have hs131 := hsn hz
    rcases hsz hz with e0 | e0
    · skip
      refine TL_pure (d := (some 9)) rfl rfl rfl (PV_move rfl) ?_
      refine TL_pure (d := (some 13)) rfl rfl rfl (PV_extract rfl rfl) ?_
      refine TL_pure (d := (some 14)) rfl rfl rfl (PV_extract rfl rfl) ?_
      refine TL_cons rfl (TO_alloc rfl zr58 fun g5 => ?_)
      first | (refine TL_cons rfl (TO_store 0 rfl rfl rfl sz58 rfl rfl rfl (by simp [Value.cells, Value.oneCell']) (by first | exact Nat.le_of_ble_eq_true rfl | (simp; done) | (simp; omega) | omega) ?_)) | (refine TL_cons rfl (TO_store 1 rfl rfl rfl sz58 rfl rfl rfl (by simp [Value.cells, Value.oneCell']) (by first | exact Nat.le_of_ble_eq_true rfl | (simp; done) | (simp; omega) | omega) ?_)) | (refine TL_cons rfl (TO_store 2 rfl rfl rfl sz58 rfl rfl rfl (by simp [Value.cells, Value.oneCell']) (by first | exact Nat.le_of_ble_eq_true rfl | (simp; done) | (simp; omega) | omega) ?_)) | (refine TL_cons rfl (TO_store 3 rfl rfl rfl sz58 rfl rfl rfl (by simp [Value.cells, Value.oneCell']) (by first | exact Nat.le_of_ble_eq_true rfl | (simp; done) | (simp; omega) | omega) ?_)) | (refine TL_cons rfl (TO_store 4 rfl rfl rfl sz58 rfl rfl rfl (by simp [Value.cells, Value.oneCell']) (by first | exact Nat.le_of_ble_eq_true rfl | (simp; done) | (simp; omega) | omega) ?_)) | (refine TL_cons rfl (TO_store 5 rfl rfl rfl sz58 rfl rfl rfl (by simp [Value.cells, Value.oneCell']) (by first | exact Nat.le_of_ble_eq_true rfl | (simp; done) | (simp; omega) | omega) ?_)) | (refine TL_cons rfl (TO_store 6 rfl rfl rfl sz58 rfl rfl rfl (by simp [Value.cells, Value.oneCell']) (by first | exact Nat.le_of_ble_eq_true rfl | (simp; done) | (simp; omega) | omega) ?_)) | (refine TL_cons rfl (TO_store 7 rfl rfl rfl sz58 rfl rfl rfl (by simp [Value.cells, Value.oneCell']) (by first | exact Nat.le_of_ble_eq_true rfl | (simp; done) | (simp; omega) | omega) ?_)) | (refine TL_cons rfl (TO_store 8 rfl rfl rfl sz58 rfl rfl rfl (by simp [Value.cells, Value.oneCell']) (by first | exact Nat.le_of_ble_eq_true rfl | (simp; done) | (simp; omega) | omega) ?_))
      refine TL_pure (d := (some 6)) rfl rfl rfl (PV_assign rfl) ?_
      refine TL_nil ?_
      refine T_seq ?_
      refine T_block ?_
      refine T_seq ?_
      refine T_region ?_
      refine TL_pure (d := (some 16)) rfl rfl rfl (PV_move rfl) ?_
      refine TL_pure (d := (some 17)) rfl rfl rfl (PV_len_slice Try.underlying23 rfl) ?_
      refine TL_pure (d := (some 18)) rfl rfl rfl (PV_bin rfl rfl bin_eql) ?_
      refine TL_pure (d := (some 15)) rfl rfl rfl (PV_assign rfl) ?_
      refine TL_nil ?_
      -- IF t15
      refine T_else rfl (by simpa using h0) ?_
      refine T_shows (hS _) (by simp [nums]; omega) fun ga oa hA hrd => ?_
      subst hA
      have rd0 := hrd 0 (.int .u8 (rd l 0)) (nums_at _ (by omega))
      have rd1 := hrd 1 (.int .u8 (rd l 1)) (nums_at _ (by omega))
      have rd2 := hrd 2 (.int .u8 (rd l 2)) (nums_at _ (by omega))
      refine T_seq ?_
      refine T_region ?_
      refine TL_pure (d := (some 22)) rfl rfl rfl (PV_move rfl) ?_
      refine TL_pure (d := (some 23)) rfl rfl rfl (PV_indexAddr (i := 0) Try.underlying23 sz5 rfl rfl rfl (by first | omega | decide | assumption)) ?_
      refine TL_pure (d := (some 24)) rfl rfl rfl (PV_load Try.underlying5 rfl rfl (by first | exact Rd.at 0 rfl rfl | exact Rd.at 1 rfl rfl | exact Rd.at 2 rfl rfl | exact Rd.at 3 rfl rfl | exact Rd.at 4 rfl rfl | exact Rd.at 5 rfl rfl | exact Rd.at 6 rfl rfl | exact Rd.at 7 rfl rfl | exact Rd.at 8 rfl rfl | exact Rd.mono rd0 (by intro w h; first | exact h | exact h.tl | exact h.tl.tl | exact h.tl.tl.tl | exact h.tl.tl.tl.tl | exact h.tl.tl.tl.tl.tl | exact h.tl.tl.tl.tl.tl.tl | exact h.tl.tl.tl.tl.tl.tl.tl | exact h.tl.tl.tl.tl.tl.tl.tl.tl) | exact Rd.mono rd1 (by intro w h; first | exact h | exact h.tl | exact h.tl.tl | exact h.tl.tl.tl | exact h.tl.tl.tl.tl | exact h.tl.tl.tl.tl.tl | exact h.tl.tl.tl.tl.tl.tl | exact h.tl.tl.tl.tl.tl.tl.tl | exact h.tl.tl.tl.tl.tl.tl.tl.tl) | exact Rd.mono rd2 (by intro w h; first | exact h | exact h.tl | exact h.tl.tl | exact h.tl.tl.tl | exact h.tl.tl.tl.tl | exact h.tl.tl.tl.tl.tl | exact h.tl.tl.tl.tl.tl.tl | exact h.tl.tl.tl.tl.tl.tl.tl | exact h.tl.tl.tl.tl.tl.tl.tl.tl))) ?_
      refine TL_pure (d := (some 25)) rfl rfl rfl (PV.cast (PV_bin rfl rfl bin_neq) (congrArg Value.bool (show _ = false by rw [e0]; rfl))) ?_
      refine TL_pure (d := (some 26)) rfl rfl rfl (PV_move rfl) ?_
      -- guard 27 move t0
      refine TL_no (b := false) rfl rfl rfl rfl ?_
      refine TL_no (b := false) rfl rfl rfl rfl ?_
      refine TL_no (b := false) rfl rfl rfl rfl ?_
      refine TL_no (b := false) rfl rfl rfl rfl ?_
      first | (refine TL_pure (d := (some 31)) rfl rfl rfl (PV_pickAnd rfl rfl rfl) ?_) | (refine TL_pure (d := (some 31)) rfl rfl rfl (PV_pickF rfl (by first | assumption | rfl | (simp; done) | (simp; omega)) rfl rfl) ?_)
      refine TL_pure (d := (some 21)) rfl rfl rfl (PV_assign rfl) ?_
      refine TL_nil ?_
      -- IF t21
      refine T_else rfl (by rfl) ?_
      refine T_seq ?_
      refine T_drawn (WH _ _ _) mixed (by intro w h; exact h) ?_
      refine TA_take (dd := (some 43)) 0 rfl (by kernel_rfl) (by kernel_rfl) (by kernel_rfl) rfl rfl rfl (PV_move rfl) ?_
      refine TA_take (dd := (some 44)) 1 rfl (by kernel_rfl) (by kernel_rfl) (by kernel_rfl) rfl rfl rfl (PV_len_slice Try.underlying23 rfl) ?_
      refine TA_take (dd := (some 45)) 2 rfl (by kernel_rfl) (by kernel_rfl) (by kernel_rfl) rfl rfl rfl (PV.cast (PV_bin rfl rfl bin_gtr) (congrArg Value.bool (show _ = true by exact decide_eq_true (by omega)))) ?_
      refine TA_take (dd := (some 46)) 3 rfl (by kernel_rfl) (by kernel_rfl) (by kernel_rfl) rfl rfl rfl (PV_move rfl) ?_
      -- dguard 4 47 move t0
      refine TA_yes (dd := (some 47)) 4 rfl (by kernel_rfl) (by kernel_rfl) (by kernel_rfl) rfl rfl rfl rfl rfl (PV_move rfl) ?_
      refine TA_yes (dd := (some 48)) 5 rfl (by kernel_rfl) (by kernel_rfl) (by kernel_rfl) rfl rfl rfl rfl rfl (PV_indexAddr (i := 1) Try.underlying23 sz5 rfl rfl rfl (by first | omega | decide | assumption)) ?_
      refine TA_yes (dd := (some 49)) 6 rfl (by kernel_rfl) (by kernel_rfl) (by kernel_rfl) rfl rfl rfl rfl rfl (PV_load Try.underlying5 rfl rfl (by first | exact Rd.at 0 rfl rfl | exact Rd.at 1 rfl rfl | exact Rd.at 2 rfl rfl | exact Rd.at 3 rfl rfl | exact Rd.at 4 rfl rfl | exact Rd.at 5 rfl rfl | exact Rd.at 6 rfl rfl | exact Rd.at 7 rfl rfl | exact Rd.at 8 rfl rfl | exact Rd.mono rd0 (by intro w h; first | exact h | exact h.tl | exact h.tl.tl | exact h.tl.tl.tl | exact h.tl.tl.tl.tl | exact h.tl.tl.tl.tl.tl | exact h.tl.tl.tl.tl.tl.tl | exact h.tl.tl.tl.tl.tl.tl.tl | exact h.tl.tl.tl.tl.tl.tl.tl.tl) | exact Rd.mono rd1 (by intro w h; first | exact h | exact h.tl | exact h.tl.tl | exact h.tl.tl.tl | exact h.tl.tl.tl.tl | exact h.tl.tl.tl.tl.tl | exact h.tl.tl.tl.tl.tl.tl | exact h.tl.tl.tl.tl.tl.tl.tl | exact h.tl.tl.tl.tl.tl.tl.tl.tl) | exact Rd.mono rd2 (by intro w h; first | exact h | exact h.tl | exact h.tl.tl | exact h.tl.tl.tl | exact h.tl.tl.tl.tl | exact h.tl.tl.tl.tl.tl | exact h.tl.tl.tl.tl.tl.tl | exact h.tl.tl.tl.tl.tl.tl.tl | exact h.tl.tl.tl.tl.tl.tl.tl.tl))) ?_
      refine TA_yes (dd := (some 50)) 7 rfl (by kernel_rfl) (by kernel_rfl) (by kernel_rfl) rfl rfl rfl rfl rfl (PV_move rfl) ?_
      refine TA_yes (dd := (some 51)) 8 rfl (by kernel_rfl) (by kernel_rfl) (by kernel_rfl) rfl rfl rfl rfl rfl (PV_indexAddr (i := 2) Try.underlying23 sz5 rfl rfl rfl (by first | omega | decide | assumption)) ?_
      refine TA_yes (dd := (some 52)) 9 rfl (by kernel_rfl) (by kernel_rfl) (by kernel_rfl) rfl rfl rfl rfl rfl (PV_load Try.underlying5 rfl rfl (by first | exact Rd.at 0 rfl rfl | exact Rd.at 1 rfl rfl | exact Rd.at 2 rfl rfl | exact Rd.at 3 rfl rfl | exact Rd.at 4 rfl rfl | exact Rd.at 5 rfl rfl | exact Rd.at 6 rfl rfl | exact Rd.at 7 rfl rfl | exact Rd.at 8 rfl rfl | exact Rd.mono rd0 (by intro w h; first | exact h | exact h.tl | exact h.tl.tl | exact h.tl.tl.tl | exact h.tl.tl.tl.tl | exact h.tl.tl.tl.tl.tl | exact h.tl.tl.tl.tl.tl.tl | exact h.tl.tl.tl.tl.tl.tl.tl | exact h.tl.tl.tl.tl.tl.tl.tl.tl) | exact Rd.mono rd1 (by intro w h; first | exact h | exact h.tl | exact h.tl.tl | exact h.tl.tl.tl | exact h.tl.tl.tl.tl | exact h.tl.tl.tl.tl.tl | exact h.tl.tl.tl.tl.tl.tl | exact h.tl.tl.tl.tl.tl.tl.tl | exact h.tl.tl.tl.tl.tl.tl.tl.tl) | exact Rd.mono rd2 (by intro w h; first | exact h | exact h.tl | exact h.tl.tl | exact h.tl.tl.tl | exact h.tl.tl.tl.tl | exact h.tl.tl.tl.tl.tl | exact h.tl.tl.tl.tl.tl.tl | exact h.tl.tl.tl.tl.tl.tl.tl | exact h.tl.tl.tl.tl.tl.tl.tl.tl))) ?_
      refine TA_yes (dd := (some 53)) 10 rfl (by kernel_rfl) (by kernel_rfl) (by kernel_rfl) rfl rfl rfl rfl rfl (PV_bin rfl rfl bin_xor) ?_
      refine TA_yes (dd := (some 54)) 11 rfl (by kernel_rfl) (by kernel_rfl) (by kernel_rfl) rfl rfl rfl rfl rfl (PV.cast (PV_bin rfl rfl bin_neq) (congrArg Value.bool (show _ = false by rw [hx2.2 h12]; rfl))) ?_
      first | (refine TA_take (dd := (some 55)) 12 rfl (by kernel_rfl) (by kernel_rfl) (by kernel_rfl) rfl rfl rfl (PV_pickAnd rfl rfl rfl) ?_) | (refine TA_take (dd := (some 55)) 12 rfl (by kernel_rfl) (by kernel_rfl) (by kernel_rfl) rfl rfl rfl (PV_pickF rfl (by first | assumption | rfl | (simp; done) | (simp; omega)) rfl rfl) ?_)
      refine TA_take (dd := (some 42)) 13 rfl (by kernel_rfl) (by kernel_rfl) (by kernel_rfl) rfl rfl rfl (PV_assign rfl) ?_
      refine TA_done (by kernel_rfl) ?_
      -- IF t42
      refine T_else rfl (by rfl) ?_
      refine T_seq ?_
      refine T_region ?_
      refine TL_pure (d := (some 59)) rfl rfl rfl (PV_move rfl) ?_
      refine TL_pure (d := (some 60)) rfl rfl rfl (PV_len_slice Try.underlying23 rfl) ?_
      refine TL_pure (d := (some 61)) rfl rfl rfl (PV_move rfl) ?_
      refine TL_pure (d := (some 62)) rfl rfl rfl (PV_indexAddr (i := 0) Try.underlying23 sz5 rfl rfl rfl (by first | omega | decide | assumption)) ?_
      refine TL_pure (d := (some 63)) rfl rfl rfl (PV_load Try.underlying5 rfl rfl (by first | exact Rd.at 0 rfl rfl | exact Rd.at 1 rfl rfl | exact Rd.at 2 rfl rfl | exact Rd.at 3 rfl rfl | exact Rd.at 4 rfl rfl | exact Rd.at 5 rfl rfl | exact Rd.at 6 rfl rfl | exact Rd.at 7 rfl rfl | exact Rd.at 8 rfl rfl | exact Rd.mono rd0 (by intro w h; first | exact h | exact h.tl | exact h.tl.tl | exact h.tl.tl.tl | exact h.tl.tl.tl.tl | exact h.tl.tl.tl.tl.tl | exact h.tl.tl.tl.tl.tl.tl | exact h.tl.tl.tl.tl.tl.tl.tl | exact h.tl.tl.tl.tl.tl.tl.tl.tl) | exact Rd.mono rd1 (by intro w h; first | exact h | exact h.tl | exact h.tl.tl | exact h.tl.tl.tl | exact h.tl.tl.tl.tl | exact h.tl.tl.tl.tl.tl | exact h.tl.tl.tl.tl.tl.tl | exact h.tl.tl.tl.tl.tl.tl.tl | exact h.tl.tl.tl.tl.tl.tl.tl.tl) | exact Rd.mono rd2 (by intro w h; first | exact h | exact h.tl | exact h.tl.tl | exact h.tl.tl.tl | exact h.tl.tl.tl.tl | exact h.tl.tl.tl.tl.tl | exact h.tl.tl.tl.tl.tl.tl | exact h.tl.tl.tl.tl.tl.tl.tl | exact h.tl.tl.tl.tl.tl.tl.tl.tl))) ?_
      refine TL_pure (d := (some 64)) rfl rfl rfl (PV_move rfl) ?_
      -- op 65 call F51(t63, t64)
      refine TL_cons rfl (TO_call0 call51 rfl rfl (t51 (rd l 0) crc) ?_)
      rintro v65 H65 ⟨rfl, rfl⟩
      refine TL_pure (d := (some 66)) rfl rfl rfl (PV_bin rfl rfl bin_lss) ?_
      refine TL_pure (d := (some 58)) rfl rfl rfl (PV_assign rfl) ?_
      refine TL_nil ?_
      -- IF t58
      refine T_else rfl (by exact decide_eq_false (by omega)) ?_
      refine T_skip ?_
      refine T_seq ?_
      refine T_seq ?_
      refine T_region ?_
      refine TL_pure (d := (some 69)) rfl rfl rfl (PV_move rfl) ?_
      refine TL_pure (d := (some 70)) rfl rfl rfl (PV.cast (PV_bin rfl rfl bin_eql) (congrArg Value.bool (show _ = true by rfl))) ?_
      refine TL_nil ?_
      -- IF t70
      refine T_then rfl (by rfl) ?_
      refine T_seq ?_
      refine T_drawn (WH _ _ _) mixed (by intro w h; exact h) ?_
      refine TA_take (dd := (some 71)) 0 rfl (by kernel_rfl) (by kernel_rfl) (by kernel_rfl) rfl rfl rfl (PV_fieldAddr (D := 0) Try.underlying58 rfl sz5 (by decide) rfl rfl) ?_
      first | (refine TA_take (dd := (some 72)) 1 rfl (by kernel_rfl) (by kernel_rfl) (by kernel_rfl) rfl rfl rfl (PV_load Try.underlying5 rfl rfl (by first | exact Rd.at 0 rfl rfl | exact Rd.at 1 rfl rfl | exact Rd.at 2 rfl rfl | exact Rd.at 3 rfl rfl | exact Rd.at 4 rfl rfl | exact Rd.at 5 rfl rfl | exact Rd.at 6 rfl rfl | exact Rd.at 7 rfl rfl | exact Rd.at 8 rfl rfl | exact Rd.mono rd0 (by intro w h; first | exact h | exact h.tl | exact h.tl.tl | exact h.tl.tl.tl | exact h.tl.tl.tl.tl | exact h.tl.tl.tl.tl.tl | exact h.tl.tl.tl.tl.tl.tl | exact h.tl.tl.tl.tl.tl.tl.tl | exact h.tl.tl.tl.tl.tl.tl.tl.tl) | exact Rd.mono rd1 (by intro w h; first | exact h | exact h.tl | exact h.tl.tl | exact h.tl.tl.tl | exact h.tl.tl.tl.tl | exact h.tl.tl.tl.tl.tl | exact h.tl.tl.tl.tl.tl.tl | exact h.tl.tl.tl.tl.tl.tl.tl | exact h.tl.tl.tl.tl.tl.tl.tl.tl) | exact Rd.mono rd2 (by intro w h; first | exact h | exact h.tl | exact h.tl.tl | exact h.tl.tl.tl | exact h.tl.tl.tl.tl | exact h.tl.tl.tl.tl.tl | exact h.tl.tl.tl.tl.tl.tl | exact h.tl.tl.tl.tl.tl.tl.tl | exact h.tl.tl.tl.tl.tl.tl.tl.tl))) ?_) | (refine TA_pure1 (dd := (some 72)) 1 (by kernel_rfl) rfl rfl rfl rfl (PV_load Try.underlying5 rfl rfl (by first | exact Rd.at 0 rfl rfl | exact Rd.at 1 rfl rfl | exact Rd.at 2 rfl rfl | exact Rd.at 3 rfl rfl | exact Rd.at 4 rfl rfl | exact Rd.at 5 rfl rfl | exact Rd.at 6 rfl rfl | exact Rd.at 7 rfl rfl | exact Rd.at 8 rfl rfl | exact Rd.mono rd0 (by intro w h; first | exact h | exact h.tl | exact h.tl.tl | exact h.tl.tl.tl | exact h.tl.tl.tl.tl | exact h.tl.tl.tl.tl.tl | exact h.tl.tl.tl.tl.tl.tl | exact h.tl.tl.tl.tl.tl.tl.tl | exact h.tl.tl.tl.tl.tl.tl.tl.tl) | exact Rd.mono rd1 (by intro w h; first | exact h | exact h.tl | exact h.tl.tl | exact h.tl.tl.tl | exact h.tl.tl.tl.tl | exact h.tl.tl.tl.tl.tl | exact h.tl.tl.tl.tl.tl.tl | exact h.tl.tl.tl.tl.tl.tl.tl | exact h.tl.tl.tl.tl.tl.tl.tl.tl) | exact Rd.mono rd2 (by intro w h; first | exact h | exact h.tl | exact h.tl.tl | exact h.tl.tl.tl | exact h.tl.tl.tl.tl | exact h.tl.tl.tl.tl.tl | exact h.tl.tl.tl.tl.tl.tl | exact h.tl.tl.tl.tl.tl.tl.tl | exact h.tl.tl.tl.tl.tl.tl.tl.tl))) ?_)
      refine TA_take (dd := (some 73)) 2 rfl (by kernel_rfl) (by kernel_rfl) (by kernel_rfl) rfl rfl rfl (PV_fieldAddr (D := 1) Try.underlying58 rfl sz23 (by decide) rfl rfl) ?_
      first | (refine TA_take (dd := (some 74)) 3 rfl (by kernel_rfl) (by kernel_rfl) (by kernel_rfl) rfl rfl rfl (PV_load Try.underlying23 rfl rfl (by first | exact Rd.at 0 rfl rfl | exact Rd.at 1 rfl rfl | exact Rd.at 2 rfl rfl | exact Rd.at 3 rfl rfl | exact Rd.at 4 rfl rfl | exact Rd.at 5 rfl rfl | exact Rd.at 6 rfl rfl | exact Rd.at 7 rfl rfl | exact Rd.at 8 rfl rfl | exact Rd.mono rd0 (by intro w h; first | exact h | exact h.tl | exact h.tl.tl | exact h.tl.tl.tl | exact h.tl.tl.tl.tl | exact h.tl.tl.tl.tl.tl | exact h.tl.tl.tl.tl.tl.tl | exact h.tl.tl.tl.tl.tl.tl.tl | exact h.tl.tl.tl.tl.tl.tl.tl.tl) | exact Rd.mono rd1 (by intro w h; first | exact h | exact h.tl | exact h.tl.tl | exact h.tl.tl.tl | exact h.tl.tl.tl.tl | exact h.tl.tl.tl.tl.tl | exact h.tl.tl.tl.tl.tl.tl | exact h.tl.tl.tl.tl.tl.tl.tl | exact h.tl.tl.tl.tl.tl.tl.tl.tl) | exact Rd.mono rd2 (by intro w h; first | exact h | exact h.tl | exact h.tl.tl | exact h.tl.tl.tl | exact h.tl.tl.tl.tl | exact h.tl.tl.tl.tl.tl | exact h.tl.tl.tl.tl.tl.tl | exact h.tl.tl.tl.tl.tl.tl.tl | exact h.tl.tl.tl.tl.tl.tl.tl.tl))) ?_) | (refine TA_pure1 (dd := (some 74)) 3 (by kernel_rfl) rfl rfl rfl rfl (PV_load Try.underlying23 rfl rfl (by first | exact Rd.at 0 rfl rfl | exact Rd.at 1 rfl rfl | exact Rd.at 2 rfl rfl | exact Rd.at 3 rfl rfl | exact Rd.at 4 rfl rfl | exact Rd.at 5 rfl rfl | exact Rd.at 6 rfl rfl | exact Rd.at 7 rfl rfl | exact Rd.at 8 rfl rfl | exact Rd.mono rd0 (by intro w h; first | exact h | exact h.tl | exact h.tl.tl | exact h.tl.tl.tl | exact h.tl.tl.tl.tl | exact h.tl.tl.tl.tl.tl | exact h.tl.tl.tl.tl.tl.tl | exact h.tl.tl.tl.tl.tl.tl.tl | exact h.tl.tl.tl.tl.tl.tl.tl.tl) | exact Rd.mono rd1 (by intro w h; first | exact h | exact h.tl | exact h.tl.tl | exact h.tl.tl.tl | exact h.tl.tl.tl.tl | exact h.tl.tl.tl.tl.tl | exact h.tl.tl.tl.tl.tl.tl | exact h.tl.tl.tl.tl.tl.tl.tl | exact h.tl.tl.tl.tl.tl.tl.tl.tl) | exact Rd.mono rd2 (by intro w h; first | exact h | exact h.tl | exact h.tl.tl | exact h.tl.tl.tl | exact h.tl.tl.tl.tl | exact h.tl.tl.tl.tl.tl | exact h.tl.tl.tl.tl.tl.tl | exact h.tl.tl.tl.tl.tl.tl.tl | exact h.tl.tl.tl.tl.tl.tl.tl.tl))) ?_)
      refine TA_take (dd := (some 75)) 4 rfl (by kernel_rfl) (by kernel_rfl) (by kernel_rfl) rfl rfl rfl (PV_move rfl) ?_
      refine TA_take (dd := (some 77)) 6 rfl (by kernel_rfl) (by kernel_rfl) (by kernel_rfl) rfl rfl rfl (PV_move rfl) ?_
      refine TA_take (dd := (some 78)) 7 rfl (by kernel_rfl) (by kernel_rfl) (by kernel_rfl) rfl rfl rfl (PV_move rfl) ?_
      refine TA_take (dd := (some 79)) 8 rfl (by kernel_rfl) (by kernel_rfl) (by kernel_rfl) rfl rfl rfl (PV_indexAddr (i := 0) Try.underlying23 sz5 rfl rfl rfl (by first | omega | decide | assumption)) ?_
      first | (refine TA_take (dd := (some 80)) 9 rfl (by kernel_rfl) (by kernel_rfl) (by kernel_rfl) rfl rfl rfl (PV_load Try.underlying5 rfl rfl (by first | exact Rd.at 0 rfl rfl | exact Rd.at 1 rfl rfl | exact Rd.at 2 rfl rfl | exact Rd.at 3 rfl rfl | exact Rd.at 4 rfl rfl | exact Rd.at 5 rfl rfl | exact Rd.at 6 rfl rfl | exact Rd.at 7 rfl rfl | exact Rd.at 8 rfl rfl | exact Rd.mono rd0 (by intro w h; first | exact h | exact h.tl | exact h.tl.tl | exact h.tl.tl.tl | exact h.tl.tl.tl.tl | exact h.tl.tl.tl.tl.tl | exact h.tl.tl.tl.tl.tl.tl | exact h.tl.tl.tl.tl.tl.tl.tl | exact h.tl.tl.tl.tl.tl.tl.tl.tl) | exact Rd.mono rd1 (by intro w h; first | exact h | exact h.tl | exact h.tl.tl | exact h.tl.tl.tl | exact h.tl.tl.tl.tl | exact h.tl.tl.tl.tl.tl | exact h.tl.tl.tl.tl.tl.tl | exact h.tl.tl.tl.tl.tl.tl.tl | exact h.tl.tl.tl.tl.tl.tl.tl.tl) | exact Rd.mono rd2 (by intro w h; first | exact h | exact h.tl | exact h.tl.tl | exact h.tl.tl.tl | exact h.tl.tl.tl.tl | exact h.tl.tl.tl.tl.tl | exact h.tl.tl.tl.tl.tl.tl | exact h.tl.tl.tl.tl.tl.tl.tl | exact h.tl.tl.tl.tl.tl.tl.tl.tl))) ?_) | (refine TA_pure1 (dd := (some 80)) 9 (by kernel_rfl) rfl rfl rfl rfl (PV_load Try.underlying5 rfl rfl (by first | exact Rd.at 0 rfl rfl | exact Rd.at 1 rfl rfl | exact Rd.at 2 rfl rfl | exact Rd.at 3 rfl rfl | exact Rd.at 4 rfl rfl | exact Rd.at 5 rfl rfl | exact Rd.at 6 rfl rfl | exact Rd.at 7 rfl rfl | exact Rd.at 8 rfl rfl | exact Rd.mono rd0 (by intro w h; first | exact h | exact h.tl | exact h.tl.tl | exact h.tl.tl.tl | exact h.tl.tl.tl.tl | exact h.tl.tl.tl.tl.tl | exact h.tl.tl.tl.tl.tl.tl | exact h.tl.tl.tl.tl.tl.tl.tl | exact h.tl.tl.tl.tl.tl.tl.tl.tl) | exact Rd.mono rd1 (by intro w h; first | exact h | exact h.tl | exact h.tl.tl | exact h.tl.tl.tl | exact h.tl.tl.tl.tl | exact h.tl.tl.tl.tl.tl | exact h.tl.tl.tl.tl.tl.tl | exact h.tl.tl.tl.tl.tl.tl.tl | exact h.tl.tl.tl.tl.tl.tl.tl.tl) | exact Rd.mono rd2 (by intro w h; first | exact h | exact h.tl | exact h.tl.tl | exact h.tl.tl.tl | exact h.tl.tl.tl.tl | exact h.tl.tl.tl.tl.tl | exact h.tl.tl.tl.tl.tl.tl | exact h.tl.tl.tl.tl.tl.tl.tl | exact h.tl.tl.tl.tl.tl.tl.tl.tl))) ?_)
      refine TA_take (dd := (some 81)) 10 rfl (by kernel_rfl) (by kernel_rfl) (by kernel_rfl) rfl rfl rfl (PV_move rfl) ?_
      -- dop 5 76 call F50(t72, t74, t75)
      refine TA_one 5 (by kernel_rfl) rfl rfl (TO_call0 call50 rfl rfl (t50 crc (Shows.at 1 rfl) (by omega) hc12 hdu u1) ?_)
      rintro v76 H76 ⟨rfl, rfl⟩
      refine ⟨by intro w h; first | exact h | exact h.tl | exact h.tl.tl, ?_⟩
      -- dop 11 82 call F51(t80, t81)
      refine TA_one 11 (by kernel_rfl) rfl rfl (TO_call0 call51 rfl rfl (t51 (rd l 0) crc) ?_)
      rintro v82 H82 ⟨rfl, rfl⟩
      refine ⟨by intro w h; first | exact h | exact h.tl | exact h.tl.tl, ?_⟩
      -- dop 12 83 slice 23 t77 none t82 none
      refine TA_take (dd := (some 83)) 12 rfl (by kernel_rfl) (by kernel_rfl) (by kernel_rfl) rfl rfl rfl (PV_sliceTo (h := sizeL (rd l 0) crc) Try.underlying23 sz5 rfl hc ⟨_, rfl⟩ hN) ?_
      first | (refine TA_take (dd := (some 84)) 13 rfl (by kernel_rfl) (by kernel_rfl) (by kernel_rfl) rfl rfl rfl (PV_b2s Try.underlying23 Try.underlying5 Try.underlying9 rfl (by first | assumption | exact Shows.at 0 rfl | exact Shows.at 1 rfl | exact Shows.at 2 rfl | exact Shows.at 3 rfl | exact Shows.at 4 rfl | exact Shows.at 5 rfl | exact Shows.at 6 rfl | exact Shows.at 7 rfl | exact Shows.at 8 rfl | exact Shows.mono hT (by intro w h; first | exact h | exact h.tl | exact h.tl.tl | exact h.tl.tl.tl | exact h.tl.tl.tl.tl | exact h.tl.tl.tl.tl.tl | exact h.tl.tl.tl.tl.tl.tl | exact h.tl.tl.tl.tl.tl.tl.tl | exact h.tl.tl.tl.tl.tl.tl.tl.tl))) ?_) | (refine TA_pure1 (dd := (some 84)) 13 (by kernel_rfl) rfl rfl rfl rfl (PV_b2s Try.underlying23 Try.underlying5 Try.underlying9 rfl (by first | assumption | exact Shows.at 0 rfl | exact Shows.at 1 rfl | exact Shows.at 2 rfl | exact Shows.at 3 rfl | exact Shows.at 4 rfl | exact Shows.at 5 rfl | exact Shows.at 6 rfl | exact Shows.at 7 rfl | exact Shows.at 8 rfl | exact Shows.mono hT (by intro w h; first | exact h | exact h.tl | exact h.tl.tl | exact h.tl.tl.tl | exact h.tl.tl.tl.tl | exact h.tl.tl.tl.tl.tl | exact h.tl.tl.tl.tl.tl.tl | exact h.tl.tl.tl.tl.tl.tl.tl | exact h.tl.tl.tl.tl.tl.tl.tl.tl))) ?_)
      refine TA_take (dd := (some 85)) 14 rfl (by kernel_rfl) (by kernel_rfl) (by kernel_rfl) rfl rfl rfl (PV.cast (PV_bin rfl rfl bin_str_eql) (congrArg Value.bool (show _ = true by exact decide_eq_true (congrArg strOfNums hso)))) ?_
      refine TA_take (dd := (some 4)) 15 rfl (by kernel_rfl) (by kernel_rfl) (by kernel_rfl) rfl rfl rfl (PV_assign rfl) ?_
      refine TA_done (by kernel_rfl) ?_
      refine T_ret ?_
      -- ('ret',)
      refine ⟨_, ?hh2, ?sb2, ResV_one rfl rfl, rfl⟩
      case sb2 => repeat (first | exact List.Sublist.refl _ | apply List.Sublist.cons_cons | apply List.Sublist.cons)
    · skip
      refine TL_pure (d := (some 9)) rfl rfl rfl (PV_move rfl) ?_
      refine TL_pure (d := (some 13)) rfl rfl rfl (PV_extract rfl rfl) ?_
      refine TL_pure (d := (some 14)) rfl rfl rfl (PV_extract rfl rfl) ?_
      refine TL_cons rfl (TO_alloc rfl zr58 fun g5 => ?_)
      first | (refine TL_cons rfl (TO_store 0 rfl rfl rfl sz58 rfl rfl rfl (by simp [Value.cells, Value.oneCell']) (by first | exact Nat.le_of_ble_eq_true rfl | (simp; done) | (simp; omega) | omega) ?_)) | (refine TL_cons rfl (TO_store 1 rfl rfl rfl sz58 rfl rfl rfl (by simp [Value.cells, Value.oneCell']) (by first | exact Nat.le_of_ble_eq_true rfl | (simp; done) | (simp; omega) | omega) ?_)) | (refine TL_cons rfl (TO_store 2 rfl rfl rfl sz58 rfl rfl rfl (by simp [Value.cells, Value.oneCell']) (by first | exact Nat.le_of_ble_eq_true rfl | (simp; done) | (simp; omega) | omega) ?_)) | (refine TL_cons rfl (TO_store 3 rfl rfl rfl sz58 rfl rfl rfl (by simp [Value.cells, Value.oneCell']) (by first | exact Nat.le_of_ble_eq_true rfl | (simp; done) | (simp; omega) | omega) ?_)) | (refine TL_cons rfl (TO_store 4 rfl rfl rfl sz58 rfl rfl rfl (by simp [Value.cells, Value.oneCell']) (by first | exact Nat.le_of_ble_eq_true rfl | (simp; done) | (simp; omega) | omega) ?_)) | (refine TL_cons rfl (TO_store 5 rfl rfl rfl sz58 rfl rfl rfl (by simp [Value.cells, Value.oneCell']) (by first | exact Nat.le_of_ble_eq_true rfl | (simp; done) | (simp; omega) | omega) ?_)) | (refine TL_cons rfl (TO_store 6 rfl rfl rfl sz58 rfl rfl rfl (by simp [Value.cells, Value.oneCell']) (by first | exact Nat.le_of_ble_eq_true rfl | (simp; done) | (simp; omega) | omega) ?_)) | (refine TL_cons rfl (TO_store 7 rfl rfl rfl sz58 rfl rfl rfl (by simp [Value.cells, Value.oneCell']) (by first | exact Nat.le_of_ble_eq_true rfl | (simp; done) | (simp; omega) | omega) ?_)) | (refine TL_cons rfl (TO_store 8 rfl rfl rfl sz58 rfl rfl rfl (by simp [Value.cells, Value.oneCell']) (by first | exact Nat.le_of_ble_eq_true rfl | (simp; done) | (simp; omega) | omega) ?_))
      refine TL_pure (d := (some 6)) rfl rfl rfl (PV_assign rfl) ?_
      refine TL_nil ?_
      refine T_seq ?_
      refine T_block ?_
      refine T_seq ?_
      refine T_region ?_
      refine TL_pure (d := (some 16)) rfl rfl rfl (PV_move rfl) ?_
      refine TL_pure (d := (some 17)) rfl rfl rfl (PV_len_slice Try.underlying23 rfl) ?_
      refine TL_pure (d := (some 18)) rfl rfl rfl (PV_bin rfl rfl bin_eql) ?_
      refine TL_pure (d := (some 15)) rfl rfl rfl (PV_assign rfl) ?_
      refine TL_nil ?_
      -- IF t15
      refine T_else rfl (by simpa using h0) ?_
      refine T_shows (hS _) (by simp [nums]; omega) fun ga oa hA hrd => ?_
      subst hA
      have rd0 := hrd 0 (.int .u8 (rd l 0)) (nums_at _ (by omega))
      have rd1 := hrd 1 (.int .u8 (rd l 1)) (nums_at _ (by omega))
      have rd2 := hrd 2 (.int .u8 (rd l 2)) (nums_at _ (by omega))
      refine T_seq ?_
      refine T_region ?_
      refine TL_pure (d := (some 22)) rfl rfl rfl (PV_move rfl) ?_
      refine TL_pure (d := (some 23)) rfl rfl rfl (PV_indexAddr (i := 0) Try.underlying23 sz5 rfl rfl rfl (by first | omega | decide | assumption)) ?_
      refine TL_pure (d := (some 24)) rfl rfl rfl (PV_load Try.underlying5 rfl rfl (by first | exact Rd.at 0 rfl rfl | exact Rd.at 1 rfl rfl | exact Rd.at 2 rfl rfl | exact Rd.at 3 rfl rfl | exact Rd.at 4 rfl rfl | exact Rd.at 5 rfl rfl | exact Rd.at 6 rfl rfl | exact Rd.at 7 rfl rfl | exact Rd.at 8 rfl rfl | exact Rd.mono rd0 (by intro w h; first | exact h | exact h.tl | exact h.tl.tl | exact h.tl.tl.tl | exact h.tl.tl.tl.tl | exact h.tl.tl.tl.tl.tl | exact h.tl.tl.tl.tl.tl.tl | exact h.tl.tl.tl.tl.tl.tl.tl | exact h.tl.tl.tl.tl.tl.tl.tl.tl) | exact Rd.mono rd1 (by intro w h; first | exact h | exact h.tl | exact h.tl.tl | exact h.tl.tl.tl | exact h.tl.tl.tl.tl | exact h.tl.tl.tl.tl.tl | exact h.tl.tl.tl.tl.tl.tl | exact h.tl.tl.tl.tl.tl.tl.tl | exact h.tl.tl.tl.tl.tl.tl.tl.tl) | exact Rd.mono rd2 (by intro w h; first | exact h | exact h.tl | exact h.tl.tl | exact h.tl.tl.tl | exact h.tl.tl.tl.tl | exact h.tl.tl.tl.tl.tl | exact h.tl.tl.tl.tl.tl.tl | exact h.tl.tl.tl.tl.tl.tl.tl | exact h.tl.tl.tl.tl.tl.tl.tl.tl))) ?_
      refine TL_pure (d := (some 25)) rfl rfl rfl (PV.cast (PV_bin rfl rfl bin_neq) (congrArg Value.bool (show _ = true by rw [e0]; rfl))) ?_
      refine TL_pure (d := (some 26)) rfl rfl rfl (PV_move rfl) ?_
      -- guard 27 move t0
      refine TL_yes rfl rfl rfl (TO_pure rfl (PV_move rfl) ?_)
      refine TL_yes rfl rfl rfl (TO_pure rfl (PV_indexAddr (i := 0) Try.underlying23 sz5 rfl rfl rfl (by first | omega | decide | assumption)) ?_)
      refine TL_yes rfl rfl rfl (TO_pure rfl (PV_load Try.underlying5 rfl rfl (by first | exact Rd.at 0 rfl rfl | exact Rd.at 1 rfl rfl | exact Rd.at 2 rfl rfl | exact Rd.at 3 rfl rfl | exact Rd.at 4 rfl rfl | exact Rd.at 5 rfl rfl | exact Rd.at 6 rfl rfl | exact Rd.at 7 rfl rfl | exact Rd.at 8 rfl rfl | exact Rd.mono rd0 (by intro w h; first | exact h | exact h.tl | exact h.tl.tl | exact h.tl.tl.tl | exact h.tl.tl.tl.tl | exact h.tl.tl.tl.tl.tl | exact h.tl.tl.tl.tl.tl.tl | exact h.tl.tl.tl.tl.tl.tl.tl | exact h.tl.tl.tl.tl.tl.tl.tl.tl) | exact Rd.mono rd1 (by intro w h; first | exact h | exact h.tl | exact h.tl.tl | exact h.tl.tl.tl | exact h.tl.tl.tl.tl | exact h.tl.tl.tl.tl.tl | exact h.tl.tl.tl.tl.tl.tl | exact h.tl.tl.tl.tl.tl.tl.tl | exact h.tl.tl.tl.tl.tl.tl.tl.tl) | exact Rd.mono rd2 (by intro w h; first | exact h | exact h.tl | exact h.tl.tl | exact h.tl.tl.tl | exact h.tl.tl.tl.tl | exact h.tl.tl.tl.tl.tl | exact h.tl.tl.tl.tl.tl.tl | exact h.tl.tl.tl.tl.tl.tl.tl | exact h.tl.tl.tl.tl.tl.tl.tl.tl))) ?_)
      refine TL_yes rfl rfl rfl (TO_pure rfl (PV.cast (PV_bin rfl rfl bin_neq) (congrArg Value.bool (show _ = false by rw [e0]; rfl))) ?_)
      first | (refine TL_pure (d := (some 31)) rfl rfl rfl (PV_pickAnd rfl rfl rfl) ?_) | (refine TL_pure (d := (some 31)) rfl rfl rfl (PV_pickF rfl (by first | assumption | rfl | (simp; done) | (simp; omega)) rfl rfl) ?_)
      refine TL_pure (d := (some 21)) rfl rfl rfl (PV_assign rfl) ?_
      refine TL_nil ?_
      -- IF t21
      refine T_else rfl (by rfl) ?_
      refine T_seq ?_
      refine T_drawn (WH _ _ _) mixed (by intro w h; exact h) ?_
      refine TA_take (dd := (some 43)) 0 rfl (by kernel_rfl) (by kernel_rfl) (by kernel_rfl) rfl rfl rfl (PV_move rfl) ?_
      refine TA_take (dd := (some 44)) 1 rfl (by kernel_rfl) (by kernel_rfl) (by kernel_rfl) rfl rfl rfl (PV_len_slice Try.underlying23 rfl) ?_
      refine TA_take (dd := (some 45)) 2 rfl (by kernel_rfl) (by kernel_rfl) (by kernel_rfl) rfl rfl rfl (PV.cast (PV_bin rfl rfl bin_gtr) (congrArg Value.bool (show _ = true by exact decide_eq_true (by omega)))) ?_
      refine TA_take (dd := (some 46)) 3 rfl (by kernel_rfl) (by kernel_rfl) (by kernel_rfl) rfl rfl rfl (PV_move rfl) ?_
      -- dguard 4 47 move t0
      refine TA_yes (dd := (some 47)) 4 rfl (by kernel_rfl) (by kernel_rfl) (by kernel_rfl) rfl rfl rfl rfl rfl (PV_move rfl) ?_
      refine TA_yes (dd := (some 48)) 5 rfl (by kernel_rfl) (by kernel_rfl) (by kernel_rfl) rfl rfl rfl rfl rfl (PV_indexAddr (i := 1) Try.underlying23 sz5 rfl rfl rfl (by first | omega | decide | assumption)) ?_
      refine TA_yes (dd := (some 49)) 6 rfl (by kernel_rfl) (by kernel_rfl) (by kernel_rfl) rfl rfl rfl rfl rfl (PV_load Try.underlying5 rfl rfl (by first | exact Rd.at 0 rfl rfl | exact Rd.at 1 rfl rfl | exact Rd.at 2 rfl rfl | exact Rd.at 3 rfl rfl | exact Rd.at 4 rfl rfl | exact Rd.at 5 rfl rfl | exact Rd.at 6 rfl rfl | exact Rd.at 7 rfl rfl | exact Rd.at 8 rfl rfl | exact Rd.mono rd0 (by intro w h; first | exact h | exact h.tl | exact h.tl.tl | exact h.tl.tl.tl | exact h.tl.tl.tl.tl | exact h.tl.tl.tl.tl.tl | exact h.tl.tl.tl.tl.tl.tl | exact h.tl.tl.tl.tl.tl.tl.tl | exact h.tl.tl.tl.tl.tl.tl.tl.tl) | exact Rd.mono rd1 (by intro w h; first | exact h | exact h.tl | exact h.tl.tl | exact h.tl.tl.tl | exact h.tl.tl.tl.tl | exact h.tl.tl.tl.tl.tl | exact h.tl.tl.tl.tl.tl.tl | exact h.tl.tl.tl.tl.tl.tl.tl | exact h.tl.tl.tl.tl.tl.tl.tl.tl) | exact Rd.mono rd2 (by intro w h; first | exact h | exact h.tl | exact h.tl.tl | exact h.tl.tl.tl | exact h.tl.tl.tl.tl | exact h.tl.tl.tl.tl.tl | exact h.tl.tl.tl.tl.tl.tl | exact h.tl.tl.tl.tl.tl.tl.tl | exact h.tl.tl.tl.tl.tl.tl.tl.tl))) ?_
      refine TA_yes (dd := (some 50)) 7 rfl (by kernel_rfl) (by kernel_rfl) (by kernel_rfl) rfl rfl rfl rfl rfl (PV_move rfl) ?_
      refine TA_yes (dd := (some 51)) 8 rfl (by kernel_rfl) (by kernel_rfl) (by kernel_rfl) rfl rfl rfl rfl rfl (PV_indexAddr (i := 2) Try.underlying23 sz5 rfl rfl rfl (by first | omega | decide | assumption)) ?_
      refine TA_yes (dd := (some 52)) 9 rfl (by kernel_rfl) (by kernel_rfl) (by kernel_rfl) rfl rfl rfl rfl rfl (PV_load Try.underlying5 rfl rfl (by first | exact Rd.at 0 rfl rfl | exact Rd.at 1 rfl rfl | exact Rd.at 2 rfl rfl | exact Rd.at 3 rfl rfl | exact Rd.at 4 rfl rfl | exact Rd.at 5 rfl rfl | exact Rd.at 6 rfl rfl | exact Rd.at 7 rfl rfl | exact Rd.at 8 rfl rfl | exact Rd.mono rd0 (by intro w h; first | exact h | exact h.tl | exact h.tl.tl | exact h.tl.tl.tl | exact h.tl.tl.tl.tl | exact h.tl.tl.tl.tl.tl | exact h.tl.tl.tl.tl.tl.tl | exact h.tl.tl.tl.tl.tl.tl.tl | exact h.tl.tl.tl.tl.tl.tl.tl.tl) | exact Rd.mono rd1 (by intro w h; first | exact h | exact h.tl | exact h.tl.tl | exact h.tl.tl.tl | exact h.tl.tl.tl.tl | exact h.tl.tl.tl.tl.tl | exact h.tl.tl.tl.tl.tl.tl | exact h.tl.tl.tl.tl.tl.tl.tl | exact h.tl.tl.tl.tl.tl.tl.tl.tl) | exact Rd.mono rd2 (by intro w h; first | exact h | exact h.tl | exact h.tl.tl | exact h.tl.tl.tl | exact h.tl.tl.tl.tl | exact h.tl.tl.tl.tl.tl | exact h.tl.tl.tl.tl.tl.tl | exact h.tl.tl.tl.tl.tl.tl.tl | exact h.tl.tl.tl.tl.tl.tl.tl.tl))) ?_
      refine TA_yes (dd := (some 53)) 10 rfl (by kernel_rfl) (by kernel_rfl) (by kernel_rfl) rfl rfl rfl rfl rfl (PV_bin rfl rfl bin_xor) ?_
      refine TA_yes (dd := (some 54)) 11 rfl (by kernel_rfl) (by kernel_rfl) (by kernel_rfl) rfl rfl rfl rfl rfl (PV.cast (PV_bin rfl rfl bin_neq) (congrArg Value.bool (show _ = false by rw [hx2.2 h12]; rfl))) ?_
      first | (refine TA_take (dd := (some 55)) 12 rfl (by kernel_rfl) (by kernel_rfl) (by kernel_rfl) rfl rfl rfl (PV_pickAnd rfl rfl rfl) ?_) | (refine TA_take (dd := (some 55)) 12 rfl (by kernel_rfl) (by kernel_rfl) (by kernel_rfl) rfl rfl rfl (PV_pickF rfl (by first | assumption | rfl | (simp; done) | (simp; omega)) rfl rfl) ?_)
      refine TA_take (dd := (some 42)) 13 rfl (by kernel_rfl) (by kernel_rfl) (by kernel_rfl) rfl rfl rfl (PV_assign rfl) ?_
      refine TA_done (by kernel_rfl) ?_
      -- IF t42
      refine T_else rfl (by rfl) ?_
      refine T_seq ?_
      refine T_region ?_
      refine TL_pure (d := (some 59)) rfl rfl rfl (PV_move rfl) ?_
      refine TL_pure (d := (some 60)) rfl rfl rfl (PV_len_slice Try.underlying23 rfl) ?_
      refine TL_pure (d := (some 61)) rfl rfl rfl (PV_move rfl) ?_
      refine TL_pure (d := (some 62)) rfl rfl rfl (PV_indexAddr (i := 0) Try.underlying23 sz5 rfl rfl rfl (by first | omega | decide | assumption)) ?_
      refine TL_pure (d := (some 63)) rfl rfl rfl (PV_load Try.underlying5 rfl rfl (by first | exact Rd.at 0 rfl rfl | exact Rd.at 1 rfl rfl | exact Rd.at 2 rfl rfl | exact Rd.at 3 rfl rfl | exact Rd.at 4 rfl rfl | exact Rd.at 5 rfl rfl | exact Rd.at 6 rfl rfl | exact Rd.at 7 rfl rfl | exact Rd.at 8 rfl rfl | exact Rd.mono rd0 (by intro w h; first | exact h | exact h.tl | exact h.tl.tl | exact h.tl.tl.tl | exact h.tl.tl.tl.tl | exact h.tl.tl.tl.tl.tl | exact h.tl.tl.tl.tl.tl.tl | exact h.tl.tl.tl.tl.tl.tl.tl | exact h.tl.tl.tl.tl.tl.tl.tl.tl) | exact Rd.mono rd1 (by intro w h; first | exact h | exact h.tl | exact h.tl.tl | exact h.tl.tl.tl | exact h.tl.tl.tl.tl | exact h.tl.tl.tl.tl.tl | exact h.tl.tl.tl.tl.tl.tl | exact h.tl.tl.tl.tl.tl.tl.tl | exact h.tl.tl.tl.tl.tl.tl.tl.tl) | exact Rd.mono rd2 (by intro w h; first | exact h | exact h.tl | exact h.tl.tl | exact h.tl.tl.tl | exact h.tl.tl.tl.tl | exact h.tl.tl.tl.tl.tl | exact h.tl.tl.tl.tl.tl.tl | exact h.tl.tl.tl.tl.tl.tl.tl | exact h.tl.tl.tl.tl.tl.tl.tl.tl))) ?_
      refine TL_pure (d := (some 64)) rfl rfl rfl (PV_move rfl) ?_
      -- op 65 call F51(t63, t64)
      refine TL_cons rfl (TO_call0 call51 rfl rfl (t51 (rd l 0) crc) ?_)
      rintro v65 H65 ⟨rfl, rfl⟩
      refine TL_pure (d := (some 66)) rfl rfl rfl (PV_bin rfl rfl bin_lss) ?_
      refine TL_pure (d := (some 58)) rfl rfl rfl (PV_assign rfl) ?_
      refine TL_nil ?_
      -- IF t58
      refine T_else rfl (by exact decide_eq_false (by omega)) ?_
      refine T_skip ?_
      refine T_seq ?_
      refine T_seq ?_
      refine T_region ?_
      refine TL_pure (d := (some 69)) rfl rfl rfl (PV_move rfl) ?_
      refine TL_pure (d := (some 70)) rfl rfl rfl (PV.cast (PV_bin rfl rfl bin_eql) (congrArg Value.bool (show _ = true by rfl))) ?_
      refine TL_nil ?_
      -- IF t70
      refine T_then rfl (by rfl) ?_
      refine T_seq ?_
      refine T_drawn (WH _ _ _) mixed (by intro w h; exact h) ?_
      refine TA_take (dd := (some 71)) 0 rfl (by kernel_rfl) (by kernel_rfl) (by kernel_rfl) rfl rfl rfl (PV_fieldAddr (D := 0) Try.underlying58 rfl sz5 (by decide) rfl rfl) ?_
      first | (refine TA_take (dd := (some 72)) 1 rfl (by kernel_rfl) (by kernel_rfl) (by kernel_rfl) rfl rfl rfl (PV_load Try.underlying5 rfl rfl (by first | exact Rd.at 0 rfl rfl | exact Rd.at 1 rfl rfl | exact Rd.at 2 rfl rfl | exact Rd.at 3 rfl rfl | exact Rd.at 4 rfl rfl | exact Rd.at 5 rfl rfl | exact Rd.at 6 rfl rfl | exact Rd.at 7 rfl rfl | exact Rd.at 8 rfl rfl | exact Rd.mono rd0 (by intro w h; first | exact h | exact h.tl | exact h.tl.tl | exact h.tl.tl.tl | exact h.tl.tl.tl.tl | exact h.tl.tl.tl.tl.tl | exact h.tl.tl.tl.tl.tl.tl | exact h.tl.tl.tl.tl.tl.tl.tl | exact h.tl.tl.tl.tl.tl.tl.tl.tl) | exact Rd.mono rd1 (by intro w h; first | exact h | exact h.tl | exact h.tl.tl | exact h.tl.tl.tl | exact h.tl.tl.tl.tl | exact h.tl.tl.tl.tl.tl | exact h.tl.tl.tl.tl.tl.tl | exact h.tl.tl.tl.tl.tl.tl.tl | exact h.tl.tl.tl.tl.tl.tl.tl.tl) | exact Rd.mono rd2 (by intro w h; first | exact h | exact h.tl | exact h.tl.tl | exact h.tl.tl.tl | exact h.tl.tl.tl.tl | exact h.tl.tl.tl.tl.tl | exact h.tl.tl.tl.tl.tl.tl | exact h.tl.tl.tl.tl.tl.tl.tl | exact h.tl.tl.tl.tl.tl.tl.tl.tl))) ?_) | (refine TA_pure1 (dd := (some 72)) 1 (by kernel_rfl) rfl rfl rfl rfl (PV_load Try.underlying5 rfl rfl (by first | exact Rd.at 0 rfl rfl | exact Rd.at 1 rfl rfl | exact Rd.at 2 rfl rfl | exact Rd.at 3 rfl rfl | exact Rd.at 4 rfl rfl | exact Rd.at 5 rfl rfl | exact Rd.at 6 rfl rfl | exact Rd.at 7 rfl rfl | exact Rd.at 8 rfl rfl | exact Rd.mono rd0 (by intro w h; first | exact h | exact h.tl | exact h.tl.tl | exact h.tl.tl.tl | exact h.tl.tl.tl.tl | exact h.tl.tl.tl.tl.tl | exact h.tl.tl.tl.tl.tl.tl | exact h.tl.tl.tl.tl.tl.tl.tl | exact h.tl.tl.tl.tl.tl.tl.tl.tl) | exact Rd.mono rd1 (by intro w h; first | exact h | exact h.tl | exact h.tl.tl | exact h.tl.tl.tl | exact h.tl.tl.tl.tl | exact h.tl.tl.tl.tl.tl | exact h.tl.tl.tl.tl.tl.tl | exact h.tl.tl.tl.tl.tl.tl.tl | exact h.tl.tl.tl.tl.tl.tl.tl.tl) | exact Rd.mono rd2 (by intro w h; first | exact h | exact h.tl | exact h.tl.tl | exact h.tl.tl.tl | exact h.tl.tl.tl.tl | exact h.tl.tl.tl.tl.tl | exact h.tl.tl.tl.tl.tl.tl | exact h.tl.tl.tl.tl.tl.tl.tl | exact h.tl.tl.tl.tl.tl.tl.tl.tl))) ?_)
      refine TA_take (dd := (some 73)) 2 rfl (by kernel_rfl) (by kernel_rfl) (by kernel_rfl) rfl rfl rfl (PV_fieldAddr (D := 1) Try.underlying58 rfl sz23 (by decide) rfl rfl) ?_
      first | (refine TA_take (dd := (some 74)) 3 rfl (by kernel_rfl) (by kernel_rfl) (by kernel_rfl) rfl rfl rfl (PV_load Try.underlying23 rfl rfl (by first | exact Rd.at 0 rfl rfl | exact Rd.at 1 rfl rfl | exact Rd.at 2 rfl rfl | exact Rd.at 3 rfl rfl | exact Rd.at 4 rfl rfl | exact Rd.at 5 rfl rfl | exact Rd.at 6 rfl rfl | exact Rd.at 7 rfl rfl | exact Rd.at 8 rfl rfl | exact Rd.mono rd0 (by intro w h; first | exact h | exact h.tl | exact h.tl.tl | exact h.tl.tl.tl | exact h.tl.tl.tl.tl | exact h.tl.tl.tl.tl.tl | exact h.tl.tl.tl.tl.tl.tl | exact h.tl.tl.tl.tl.tl.tl.tl | exact h.tl.tl.tl.tl.tl.tl.tl.tl) | exact Rd.mono rd1 (by intro w h; first | exact h | exact h.tl | exact h.tl.tl | exact h.tl.tl.tl | exact h.tl.tl.tl.tl | exact h.tl.tl.tl.tl.tl | exact h.tl.tl.tl.tl.tl.tl | exact h.tl.tl.tl.tl.tl.tl.tl | exact h.tl.tl.tl.tl.tl.tl.tl.tl) | exact Rd.mono rd2 (by intro w h; first | exact h | exact h.tl | exact h.tl.tl | exact h.tl.tl.tl | exact h.tl.tl.tl.tl | exact h.tl.tl.tl.tl.tl | exact h.tl.tl.tl.tl.tl.tl | exact h.tl.tl.tl.tl.tl.tl.tl | exact h.tl.tl.tl.tl.tl.tl.tl.tl))) ?_) | (refine TA_pure1 (dd := (some 74)) 3 (by kernel_rfl) rfl rfl rfl rfl (PV_load Try.underlying23 rfl rfl (by first | exact Rd.at 0 rfl rfl | exact Rd.at 1 rfl rfl | exact Rd.at 2 rfl rfl | exact Rd.at 3 rfl rfl | exact Rd.at 4 rfl rfl | exact Rd.at 5 rfl rfl | exact Rd.at 6 rfl rfl | exact Rd.at 7 rfl rfl | exact Rd.at 8 rfl rfl | exact Rd.mono rd0 (by intro w h; first | exact h | exact h.tl | exact h.tl.tl | exact h.tl.tl.tl | exact h.tl.tl.tl.tl | exact h.tl.tl.tl.tl.tl | exact h.tl.tl.tl.tl.tl.tl | exact h.tl.tl.tl.tl.tl.tl.tl | exact h.tl.tl.tl.tl.tl.tl.tl.tl) | exact Rd.mono rd1 (by intro w h; first | exact h | exact h.tl | exact h.tl.tl | exact h.tl.tl.tl | exact h.tl.tl.tl.tl | exact h.tl.tl.tl.tl.tl | exact h.tl.tl.tl.tl.tl.tl | exact h.tl.tl.tl.tl.tl.tl.tl | exact h.tl.tl.tl.tl.tl.tl.tl.tl) | exact Rd.mono rd2 (by intro w h; first | exact h | exact h.tl | exact h.tl.tl | exact h.tl.tl.tl | exact h.tl.tl.tl.tl | exact h.tl.tl.tl.tl.tl | exact h.tl.tl.tl.tl.tl.tl | exact h.tl.tl.tl.tl.tl.tl.tl | exact h.tl.tl.tl.tl.tl.tl.tl.tl))) ?_)
      refine TA_take (dd := (some 75)) 4 rfl (by kernel_rfl) (by kernel_rfl) (by kernel_rfl) rfl rfl rfl (PV_move rfl) ?_
      refine TA_take (dd := (some 77)) 6 rfl (by kernel_rfl) (by kernel_rfl) (by kernel_rfl) rfl rfl rfl (PV_move rfl) ?_
      refine TA_take (dd := (some 78)) 7 rfl (by kernel_rfl) (by kernel_rfl) (by kernel_rfl) rfl rfl rfl (PV_move rfl) ?_
      refine TA_take (dd := (some 79)) 8 rfl (by kernel_rfl) (by kernel_rfl) (by kernel_rfl) rfl rfl rfl (PV_indexAddr (i := 0) Try.underlying23 sz5 rfl rfl rfl (by first | omega | decide | assumption)) ?_
      first | (refine TA_take (dd := (some 80)) 9 rfl (by kernel_rfl) (by kernel_rfl) (by kernel_rfl) rfl rfl rfl (PV_load Try.underlying5 rfl rfl (by first | exact Rd.at 0 rfl rfl | exact Rd.at 1 rfl rfl | exact Rd.at 2 rfl rfl | exact Rd.at 3 rfl rfl | exact Rd.at 4 rfl rfl | exact Rd.at 5 rfl rfl | exact Rd.at 6 rfl rfl | exact Rd.at 7 rfl rfl | exact Rd.at 8 rfl rfl | exact Rd.mono rd0 (by intro w h; first | exact h | exact h.tl | exact h.tl.tl | exact h.tl.tl.tl | exact h.tl.tl.tl.tl | exact h.tl.tl.tl.tl.tl | exact h.tl.tl.tl.tl.tl.tl | exact h.tl.tl.tl.tl.tl.tl.tl | exact h.tl.tl.tl.tl.tl.tl.tl.tl) | exact Rd.mono rd1 (by intro w h; first | exact h | exact h.tl | exact h.tl.tl | exact h.tl.tl.tl | exact h.tl.tl.tl.tl | exact h.tl.tl.tl.tl.tl | exact h.tl.tl.tl.tl.tl.tl | exact h.tl.tl.tl.tl.tl.tl.tl | exact h.tl.tl.tl.tl.tl.tl.tl.tl) | exact Rd.mono rd2 (by intro w h; first | exact h | exact h.tl | exact h.tl.tl | exact h.tl.tl.tl | exact h.tl.tl.tl.tl | exact h.tl.tl.tl.tl.tl | exact h.tl.tl.tl.tl.tl.tl | exact h.tl.tl.tl.tl.tl.tl.tl | exact h.tl.tl.tl.tl.tl.tl.tl.tl))) ?_) | (refine TA_pure1 (dd := (some 80)) 9 (by kernel_rfl) rfl rfl rfl rfl (PV_load Try.underlying5 rfl rfl (by first | exact Rd.at 0 rfl rfl | exact Rd.at 1 rfl rfl | exact Rd.at 2 rfl rfl | exact Rd.at 3 rfl rfl | exact Rd.at 4 rfl rfl | exact Rd.at 5 rfl rfl | exact Rd.at 6 rfl rfl | exact Rd.at 7 rfl rfl | exact Rd.at 8 rfl rfl | exact Rd.mono rd0 (by intro w h; first | exact h | exact h.tl | exact h.tl.tl | exact h.tl.tl.tl | exact h.tl.tl.tl.tl | exact h.tl.tl.tl.tl.tl | exact h.tl.tl.tl.tl.tl.tl | exact h.tl.tl.tl.tl.tl.tl.tl | exact h.tl.tl.tl.tl.tl.tl.tl.tl) | exact Rd.mono rd1 (by intro w h; first | exact h | exact h.tl | exact h.tl.tl | exact h.tl.tl.tl | exact h.tl.tl.tl.tl | exact h.tl.tl.tl.tl.tl | exact h.tl.tl.tl.tl.tl.tl | exact h.tl.tl.tl.tl.tl.tl.tl | exact h.tl.tl.tl.tl.tl.tl.tl.tl) | exact Rd.mono rd2 (by intro w h; first | exact h | exact h.tl | exact h.tl.tl | exact h.tl.tl.tl | exact h.tl.tl.tl.tl | exact h.tl.tl.tl.tl.tl | exact h.tl.tl.tl.tl.tl.tl | exact h.tl.tl.tl.tl.tl.tl.tl | exact h.tl.tl.tl.tl.tl.tl.tl.tl))) ?_)
      refine TA_take (dd := (some 81)) 10 rfl (by kernel_rfl) (by kernel_rfl) (by kernel_rfl) rfl rfl rfl (PV_move rfl) ?_
      -- dop 5 76 call F50(t72, t74, t75)
      refine TA_one 5 (by kernel_rfl) rfl rfl (TO_call0 call50 rfl rfl (t50 crc (Shows.at 1 rfl) (by omega) hc12 hdu u1) ?_)
      rintro v76 H76 ⟨rfl, rfl⟩
      refine ⟨by intro w h; first | exact h | exact h.tl | exact h.tl.tl, ?_⟩
      -- dop 11 82 call F51(t80, t81)
      refine TA_one 11 (by kernel_rfl) rfl rfl (TO_call0 call51 rfl rfl (t51 (rd l 0) crc) ?_)
      rintro v82 H82 ⟨rfl, rfl⟩
      refine ⟨by intro w h; first | exact h | exact h.tl | exact h.tl.tl, ?_⟩
      -- dop 12 83 slice 23 t77 none t82 none
      refine TA_take (dd := (some 83)) 12 rfl (by kernel_rfl) (by kernel_rfl) (by kernel_rfl) rfl rfl rfl (PV_sliceTo (h := sizeL (rd l 0) crc) Try.underlying23 sz5 rfl hc ⟨_, rfl⟩ hN) ?_
      first | (refine TA_take (dd := (some 84)) 13 rfl (by kernel_rfl) (by kernel_rfl) (by kernel_rfl) rfl rfl rfl (PV_b2s Try.underlying23 Try.underlying5 Try.underlying9 rfl (by first | assumption | exact Shows.at 0 rfl | exact Shows.at 1 rfl | exact Shows.at 2 rfl | exact Shows.at 3 rfl | exact Shows.at 4 rfl | exact Shows.at 5 rfl | exact Shows.at 6 rfl | exact Shows.at 7 rfl | exact Shows.at 8 rfl | exact Shows.mono hT (by intro w h; first | exact h | exact h.tl | exact h.tl.tl | exact h.tl.tl.tl | exact h.tl.tl.tl.tl | exact h.tl.tl.tl.tl.tl | exact h.tl.tl.tl.tl.tl.tl | exact h.tl.tl.tl.tl.tl.tl.tl | exact h.tl.tl.tl.tl.tl.tl.tl.tl))) ?_) | (refine TA_pure1 (dd := (some 84)) 13 (by kernel_rfl) rfl rfl rfl rfl (PV_b2s Try.underlying23 Try.underlying5 Try.underlying9 rfl (by first | assumption | exact Shows.at 0 rfl | exact Shows.at 1 rfl | exact Shows.at 2 rfl | exact Shows.at 3 rfl | exact Shows.at 4 rfl | exact Shows.at 5 rfl | exact Shows.at 6 rfl | exact Shows.at 7 rfl | exact Shows.at 8 rfl | exact Shows.mono hT (by intro w h; first | exact h | exact h.tl | exact h.tl.tl | exact h.tl.tl.tl | exact h.tl.tl.tl.tl | exact h.tl.tl.tl.tl.tl | exact h.tl.tl.tl.tl.tl.tl | exact h.tl.tl.tl.tl.tl.tl.tl | exact h.tl.tl.tl.tl.tl.tl.tl.tl))) ?_)
      refine TA_take (dd := (some 85)) 14 rfl (by kernel_rfl) (by kernel_rfl) (by kernel_rfl) rfl rfl rfl (PV.cast (PV_bin rfl rfl bin_str_eql) (congrArg Value.bool (show _ = true by exact decide_eq_true (congrArg strOfNums hso)))) ?_
      refine TA_take (dd := (some 4)) 15 rfl (by kernel_rfl) (by kernel_rfl) (by kernel_rfl) rfl rfl rfl (PV_assign rfl) ?_
      refine TA_done (by kernel_rfl) ?_
      refine T_ret ?_
      -- ('ret',)
      refine ⟨_, ?hh3, ?sb3, ResV_one rfl rfl, rfl⟩
      case sb3 => repeat (first | exact List.Sublist.refl _ | apply List.Sublist.cons_cons | apply List.Sublist.cons)
  rw [if_neg h2] at hr12
  obtain ⟨rfl, rfl⟩ := hr12
  by_cases hz : sizeL (rd l 0) crc = 0
  · have e : scanS l crc = 1 := by unfold scanS; rw [if_neg h0, if_pos hz]
    have n1 : rd l 0 ≠ 1 := by intro h; unfold sizeL at hz; rw [if_pos h] at hz; split at hz <;> cases hz
    have n2 : rd l 0 ≠ 2 := by intro h; unfold sizeL at hz; rw [if_neg (by omega), if_pos h] at hz; split at hz <;> cases hz
    rw [e]
    refine TL_pure (d := (some 9)) rfl rfl rfl (PV_move rfl) ?_
    refine TL_pure (d := (some 13)) rfl rfl rfl (PV_extract rfl rfl) ?_
    refine TL_pure (d := (some 14)) rfl rfl rfl (PV_extract rfl rfl) ?_
    refine TL_cons rfl (TO_alloc rfl zr58 fun g5 => ?_)
    first | (refine TL_cons rfl (TO_store 0 rfl rfl rfl sz58 rfl rfl rfl (by simp [Value.cells, Value.oneCell']) (by first | exact Nat.le_of_ble_eq_true rfl | (simp; done) | (simp; omega) | omega) ?_)) | (refine TL_cons rfl (TO_store 1 rfl rfl rfl sz58 rfl rfl rfl (by simp [Value.cells, Value.oneCell']) (by first | exact Nat.le_of_ble_eq_true rfl | (simp; done) | (simp; omega) | omega) ?_)) | (refine TL_cons rfl (TO_store 2 rfl rfl rfl sz58 rfl rfl rfl (by simp [Value.cells, Value.oneCell']) (by first | exact Nat.le_of_ble_eq_true rfl | (simp; done) | (simp; omega) | omega) ?_)) | (refine TL_cons rfl (TO_store 3 rfl rfl rfl sz58 rfl rfl rfl (by simp [Value.cells, Value.oneCell']) (by first | exact Nat.le_of_ble_eq_true rfl | (simp; done) | (simp; omega) | omega) ?_)) | (refine TL_cons rfl (TO_store 4 rfl rfl rfl sz58 rfl rfl rfl (by simp [Value.cells, Value.oneCell']) (by first | exact Nat.le_of_ble_eq_true rfl | (simp; done) | (simp; omega) | omega) ?_)) | (refine TL_cons rfl (TO_store 5 rfl rfl rfl sz58 rfl rfl rfl (by simp [Value.cells, Value.oneCell']) (by first | exact Nat.le_of_ble_eq_true rfl | (simp; done) | (simp; omega) | omega) ?_)) | (refine TL_cons rfl (TO_store 6 rfl rfl rfl sz58 rfl rfl rfl (by simp [Value.cells, Value.oneCell']) (by first | exact Nat.le_of_ble_eq_true rfl | (simp; done) | (simp; omega) | omega) ?_)) | (refine TL_cons rfl (TO_store 7 rfl rfl rfl sz58 rfl rfl rfl (by simp [Value.cells, Value.oneCell']) (by first | exact Nat.le_of_ble_eq_true rfl | (simp; done) | (simp; omega) | omega) ?_)) | (refine TL_cons rfl (TO_store 8 rfl rfl rfl sz58 rfl rfl rfl (by simp [Value.cells, Value.oneCell']) (by first | exact Nat.le_of_ble_eq_true rfl | (simp; done) | (simp; omega) | omega) ?_))
    refine TL_pure (d := (some 6)) rfl rfl rfl (PV_assign rfl) ?_
    refine TL_nil ?_
    refine T_seq ?_
    refine T_block ?_
    refine T_seq ?_
    refine T_region ?_
    refine TL_pure (d := (some 16)) rfl rfl rfl (PV_move rfl) ?_
    refine TL_pure (d := (some 17)) rfl rfl rfl (PV_len_slice Try.underlying23 rfl) ?_
    refine TL_pure (d := (some 18)) rfl rfl rfl (PV_bin rfl rfl bin_eql) ?_
    refine TL_pure (d := (some 15)) rfl rfl rfl (PV_assign rfl) ?_
    refine TL_nil ?_
    -- IF t15
    refine T_else rfl (by simpa using h0) ?_
    refine T_shows (hS _) (by simp [nums]; omega) fun ga oa hA hrd => ?_
    subst hA
    have rd0 := hrd 0 (.int .u8 (rd l 0)) (nums_at _ (by omega))
    refine T_seq ?_
    refine T_region ?_
    refine TL_pure (d := (some 22)) rfl rfl rfl (PV_move rfl) ?_
    refine TL_pure (d := (some 23)) rfl rfl rfl (PV_indexAddr (i := 0) Try.underlying23 sz5 rfl rfl rfl (by first | omega | decide | assumption)) ?_
    refine TL_pure (d := (some 24)) rfl rfl rfl (PV_load Try.underlying5 rfl rfl (by first | exact Rd.at 0 rfl rfl | exact Rd.at 1 rfl rfl | exact Rd.at 2 rfl rfl | exact Rd.at 3 rfl rfl | exact Rd.at 4 rfl rfl | exact Rd.at 5 rfl rfl | exact Rd.at 6 rfl rfl | exact Rd.at 7 rfl rfl | exact Rd.at 8 rfl rfl | exact Rd.mono rd0 (by intro w h; first | exact h | exact h.tl | exact h.tl.tl | exact h.tl.tl.tl | exact h.tl.tl.tl.tl | exact h.tl.tl.tl.tl.tl | exact h.tl.tl.tl.tl.tl.tl | exact h.tl.tl.tl.tl.tl.tl.tl | exact h.tl.tl.tl.tl.tl.tl.tl.tl))) ?_
    refine TL_pure (d := (some 25)) rfl rfl rfl (PV.cast (PV_bin rfl rfl bin_neq) (congrArg Value.bool (show _ = true by exact bne_iff_ne.2 n1))) ?_
    refine TL_pure (d := (some 26)) rfl rfl rfl (PV_move rfl) ?_
    -- guard 27 move t0
    refine TL_yes rfl rfl rfl (TO_pure rfl (PV_move rfl) ?_)
    refine TL_yes rfl rfl rfl (TO_pure rfl (PV_indexAddr (i := 0) Try.underlying23 sz5 rfl rfl rfl (by first | omega | decide | assumption)) ?_)
    refine TL_yes rfl rfl rfl (TO_pure rfl (PV_load Try.underlying5 rfl rfl (by first | exact Rd.at 0 rfl rfl | exact Rd.at 1 rfl rfl | exact Rd.at 2 rfl rfl | exact Rd.at 3 rfl rfl | exact Rd.at 4 rfl rfl | exact Rd.at 5 rfl rfl | exact Rd.at 6 rfl rfl | exact Rd.at 7 rfl rfl | exact Rd.at 8 rfl rfl | exact Rd.mono rd0 (by intro w h; first | exact h | exact h.tl | exact h.tl.tl | exact h.tl.tl.tl | exact h.tl.tl.tl.tl | exact h.tl.tl.tl.tl.tl | exact h.tl.tl.tl.tl.tl.tl | exact h.tl.tl.tl.tl.tl.tl.tl | exact h.tl.tl.tl.tl.tl.tl.tl.tl))) ?_)
    refine TL_yes rfl rfl rfl (TO_pure rfl (PV.cast (PV_bin rfl rfl bin_neq) (congrArg Value.bool (show _ = true by exact bne_iff_ne.2 n2))) ?_)
    first | (refine TL_pure (d := (some 31)) rfl rfl rfl (PV_pickAnd rfl rfl rfl) ?_) | (refine TL_pure (d := (some 31)) rfl rfl rfl (PV_pickF rfl (by first | assumption | rfl | (simp; done) | (simp; omega)) rfl rfl) ?_)
    refine TL_pure (d := (some 21)) rfl rfl rfl (PV_assign rfl) ?_
    refine TL_nil ?_
    -- IF t21
    refine T_then rfl (by rfl) ?_
    refine T_seq ?_
    refine T_region ?_
    refine TL_pure (d := (some 32)) rfl rfl rfl (PV_move rfl) ?_
    refine TL_pure (d := (some 33)) rfl rfl rfl (PV.cast (PV_bin rfl rfl bin_eql) (congrArg Value.bool (show _ = true by rfl))) ?_
    refine TL_pure (d := (some 34)) rfl rfl rfl (PV_move rfl) ?_
    -- guard 35 move t0
    refine TL_yes rfl rfl rfl (TO_pure rfl (PV_move rfl) ?_)
    refine TL_yes rfl rfl rfl (TO_pure rfl (PV_indexAddr (i := 0) Try.underlying23 sz5 rfl rfl rfl (by first | omega | decide | assumption)) ?_)
    refine TL_yes rfl rfl rfl (TO_pure rfl (PV_load Try.underlying5 rfl rfl (by first | exact Rd.at 0 rfl rfl | exact Rd.at 1 rfl rfl | exact Rd.at 2 rfl rfl | exact Rd.at 3 rfl rfl | exact Rd.at 4 rfl rfl | exact Rd.at 5 rfl rfl | exact Rd.at 6 rfl rfl | exact Rd.at 7 rfl rfl | exact Rd.at 8 rfl rfl | exact Rd.mono rd0 (by intro w h; first | exact h | exact h.tl | exact h.tl.tl | exact h.tl.tl.tl | exact h.tl.tl.tl.tl | exact h.tl.tl.tl.tl.tl | exact h.tl.tl.tl.tl.tl.tl | exact h.tl.tl.tl.tl.tl.tl.tl | exact h.tl.tl.tl.tl.tl.tl.tl.tl))) ?_)
    refine TL_yes rfl rfl rfl (TO_pure rfl (PV_move rfl) ?_)
    refine TL_yes rfl rfl rfl (TO_call0 call51 rfl rfl (t51 (rd l 0) crc) ?_)
    rintro v39 H39 ⟨rfl, rfl⟩
    refine TL_yes rfl rfl rfl (TO_pure rfl (PV.cast (PV_bin rfl rfl bin_eql) (congrArg Value.bool (show _ = true by rw [hz]; rfl))) ?_)
    first | (refine TL_pure (d := (some 41)) rfl rfl rfl (PV_pickAnd rfl rfl rfl) ?_) | (refine TL_pure (d := (some 41)) rfl rfl rfl (PV_pickF rfl (by first | assumption | rfl | (simp; done) | (simp; omega)) rfl rfl) ?_)
    refine TL_pure (d := (some 4)) rfl rfl rfl (PV_assign rfl) ?_
    refine TL_nil ?_
    refine T_ret ?_
    -- ('ret',)
    refine ⟨_, ?hh4, ?sb4, ResV_one rfl rfl, rfl⟩
    case sb4 => repeat (first | exact List.Sublist.refl _ | apply List.Sublist.cons_cons | apply List.Sublist.cons)
  have hs131 := hsn hz
  rcases hsz hz with e0 | e0
  · by_cases hx : 2 < l.length ∧ rd l 1 ≠ 255 - rd l 2
    · have e : scanS l crc = 1 := by unfold scanS; rw [if_neg h0, if_neg hz, if_pos hx]
      rw [e]
      have := hx.1
      refine TL_pure (d := (some 9)) rfl rfl rfl (PV_move rfl) ?_
      refine TL_pure (d := (some 13)) rfl rfl rfl (PV_extract rfl rfl) ?_
      refine TL_pure (d := (some 14)) rfl rfl rfl (PV_extract rfl rfl) ?_
      refine TL_cons rfl (TO_alloc rfl zr58 fun g5 => ?_)
      first | (refine TL_cons rfl (TO_store 0 rfl rfl rfl sz58 rfl rfl rfl (by simp [Value.cells, Value.oneCell']) (by first | exact Nat.le_of_ble_eq_true rfl | (simp; done) | (simp; omega) | omega) ?_)) | (refine TL_cons rfl (TO_store 1 rfl rfl rfl sz58 rfl rfl rfl (by simp [Value.cells, Value.oneCell']) (by first | exact Nat.le_of_ble_eq_true rfl | (simp; done) | (simp; omega) | omega) ?_)) | (refine TL_cons rfl (TO_store 2 rfl rfl rfl sz58 rfl rfl rfl (by simp [Value.cells, Value.oneCell']) (by first | exact Nat.le_of_ble_eq_true rfl | (simp; done) | (simp; omega) | omega) ?_)) | (refine TL_cons rfl (TO_store 3 rfl rfl rfl sz58 rfl rfl rfl (by simp [Value.cells, Value.oneCell']) (by first | exact Nat.le_of_ble_eq_true rfl | (simp; done) | (simp; omega) | omega) ?_)) | (refine TL_cons rfl (TO_store 4 rfl rfl rfl sz58 rfl rfl rfl (by simp [Value.cells, Value.oneCell']) (by first | exact Nat.le_of_ble_eq_true rfl | (simp; done) | (simp; omega) | omega) ?_)) | (refine TL_cons rfl (TO_store 5 rfl rfl rfl sz58 rfl rfl rfl (by simp [Value.cells, Value.oneCell']) (by first | exact Nat.le_of_ble_eq_true rfl | (simp; done) | (simp; omega) | omega) ?_)) | (refine TL_cons rfl (TO_store 6 rfl rfl rfl sz58 rfl rfl rfl (by simp [Value.cells, Value.oneCell']) (by first | exact Nat.le_of_ble_eq_true rfl | (simp; done) | (simp; omega) | omega) ?_)) | (refine TL_cons rfl (TO_store 7 rfl rfl rfl sz58 rfl rfl rfl (by simp [Value.cells, Value.oneCell']) (by first | exact Nat.le_of_ble_eq_true rfl | (simp; done) | (simp; omega) | omega) ?_)) | (refine TL_cons rfl (TO_store 8 rfl rfl rfl sz58 rfl rfl rfl (by simp [Value.cells, Value.oneCell']) (by first | exact Nat.le_of_ble_eq_true rfl | (simp; done) | (simp; omega) | omega) ?_))
      refine TL_pure (d := (some 6)) rfl rfl rfl (PV_assign rfl) ?_
      refine TL_nil ?_
      refine T_seq ?_
      refine T_block ?_
      refine T_seq ?_
      refine T_region ?_
      refine TL_pure (d := (some 16)) rfl rfl rfl (PV_move rfl) ?_
      refine TL_pure (d := (some 17)) rfl rfl rfl (PV_len_slice Try.underlying23 rfl) ?_
      refine TL_pure (d := (some 18)) rfl rfl rfl (PV_bin rfl rfl bin_eql) ?_
      refine TL_pure (d := (some 15)) rfl rfl rfl (PV_assign rfl) ?_
      refine TL_nil ?_
      -- IF t15
      refine T_else rfl (by simpa using h0) ?_
      refine T_shows (hS _) (by simp [nums]; omega) fun ga oa hA hrd => ?_
      subst hA
      have rd0 := hrd 0 (.int .u8 (rd l 0)) (nums_at _ (by omega))
      have rd1 := hrd 1 (.int .u8 (rd l 1)) (nums_at _ (by omega))
      have rd2 := hrd 2 (.int .u8 (rd l 2)) (nums_at _ (by omega))
      refine T_seq ?_
      refine T_region ?_
      refine TL_pure (d := (some 22)) rfl rfl rfl (PV_move rfl) ?_
      refine TL_pure (d := (some 23)) rfl rfl rfl (PV_indexAddr (i := 0) Try.underlying23 sz5 rfl rfl rfl (by first | omega | decide | assumption)) ?_
      refine TL_pure (d := (some 24)) rfl rfl rfl (PV_load Try.underlying5 rfl rfl (by first | exact Rd.at 0 rfl rfl | exact Rd.at 1 rfl rfl | exact Rd.at 2 rfl rfl | exact Rd.at 3 rfl rfl | exact Rd.at 4 rfl rfl | exact Rd.at 5 rfl rfl | exact Rd.at 6 rfl rfl | exact Rd.at 7 rfl rfl | exact Rd.at 8 rfl rfl | exact Rd.mono rd0 (by intro w h; first | exact h | exact h.tl | exact h.tl.tl | exact h.tl.tl.tl | exact h.tl.tl.tl.tl | exact h.tl.tl.tl.tl.tl | exact h.tl.tl.tl.tl.tl.tl | exact h.tl.tl.tl.tl.tl.tl.tl | exact h.tl.tl.tl.tl.tl.tl.tl.tl) | exact Rd.mono rd1 (by intro w h; first | exact h | exact h.tl | exact h.tl.tl | exact h.tl.tl.tl | exact h.tl.tl.tl.tl | exact h.tl.tl.tl.tl.tl | exact h.tl.tl.tl.tl.tl.tl | exact h.tl.tl.tl.tl.tl.tl.tl | exact h.tl.tl.tl.tl.tl.tl.tl.tl) | exact Rd.mono rd2 (by intro w h; first | exact h | exact h.tl | exact h.tl.tl | exact h.tl.tl.tl | exact h.tl.tl.tl.tl | exact h.tl.tl.tl.tl.tl | exact h.tl.tl.tl.tl.tl.tl | exact h.tl.tl.tl.tl.tl.tl.tl | exact h.tl.tl.tl.tl.tl.tl.tl.tl))) ?_
      refine TL_pure (d := (some 25)) rfl rfl rfl (PV.cast (PV_bin rfl rfl bin_neq) (congrArg Value.bool (show _ = false by rw [e0]; rfl))) ?_
      refine TL_pure (d := (some 26)) rfl rfl rfl (PV_move rfl) ?_
      -- guard 27 move t0
      refine TL_no (b := false) rfl rfl rfl rfl ?_
      refine TL_no (b := false) rfl rfl rfl rfl ?_
      refine TL_no (b := false) rfl rfl rfl rfl ?_
      refine TL_no (b := false) rfl rfl rfl rfl ?_
      first | (refine TL_pure (d := (some 31)) rfl rfl rfl (PV_pickAnd rfl rfl rfl) ?_) | (refine TL_pure (d := (some 31)) rfl rfl rfl (PV_pickF rfl (by first | assumption | rfl | (simp; done) | (simp; omega)) rfl rfl) ?_)
      refine TL_pure (d := (some 21)) rfl rfl rfl (PV_assign rfl) ?_
      refine TL_nil ?_
      -- IF t21
      refine T_else rfl (by rfl) ?_
      refine T_seq ?_
      refine T_drawn (WH _ _ _) mixed (by intro w h; exact h) ?_
      refine TA_take (dd := (some 43)) 0 rfl (by kernel_rfl) (by kernel_rfl) (by kernel_rfl) rfl rfl rfl (PV_move rfl) ?_
      refine TA_take (dd := (some 44)) 1 rfl (by kernel_rfl) (by kernel_rfl) (by kernel_rfl) rfl rfl rfl (PV_len_slice Try.underlying23 rfl) ?_
      refine TA_take (dd := (some 45)) 2 rfl (by kernel_rfl) (by kernel_rfl) (by kernel_rfl) rfl rfl rfl (PV.cast (PV_bin rfl rfl bin_gtr) (congrArg Value.bool (show _ = true by exact decide_eq_true (by omega)))) ?_
      refine TA_take (dd := (some 46)) 3 rfl (by kernel_rfl) (by kernel_rfl) (by kernel_rfl) rfl rfl rfl (PV_move rfl) ?_
      -- dguard 4 47 move t0
      refine TA_yes (dd := (some 47)) 4 rfl (by kernel_rfl) (by kernel_rfl) (by kernel_rfl) rfl rfl rfl rfl rfl (PV_move rfl) ?_
      refine TA_yes (dd := (some 48)) 5 rfl (by kernel_rfl) (by kernel_rfl) (by kernel_rfl) rfl rfl rfl rfl rfl (PV_indexAddr (i := 1) Try.underlying23 sz5 rfl rfl rfl (by first | omega | decide | assumption)) ?_
      refine TA_yes (dd := (some 49)) 6 rfl (by kernel_rfl) (by kernel_rfl) (by kernel_rfl) rfl rfl rfl rfl rfl (PV_load Try.underlying5 rfl rfl (by first | exact Rd.at 0 rfl rfl | exact Rd.at 1 rfl rfl | exact Rd.at 2 rfl rfl | exact Rd.at 3 rfl rfl | exact Rd.at 4 rfl rfl | exact Rd.at 5 rfl rfl | exact Rd.at 6 rfl rfl | exact Rd.at 7 rfl rfl | exact Rd.at 8 rfl rfl | exact Rd.mono rd0 (by intro w h; first | exact h | exact h.tl | exact h.tl.tl | exact h.tl.tl.tl | exact h.tl.tl.tl.tl | exact h.tl.tl.tl.tl.tl | exact h.tl.tl.tl.tl.tl.tl | exact h.tl.tl.tl.tl.tl.tl.tl | exact h.tl.tl.tl.tl.tl.tl.tl.tl) | exact Rd.mono rd1 (by intro w h; first | exact h | exact h.tl | exact h.tl.tl | exact h.tl.tl.tl | exact h.tl.tl.tl.tl | exact h.tl.tl.tl.tl.tl | exact h.tl.tl.tl.tl.tl.tl | exact h.tl.tl.tl.tl.tl.tl.tl | exact h.tl.tl.tl.tl.tl.tl.tl.tl) | exact Rd.mono rd2 (by intro w h; first | exact h | exact h.tl | exact h.tl.tl | exact h.tl.tl.tl | exact h.tl.tl.tl.tl | exact h.tl.tl.tl.tl.tl | exact h.tl.tl.tl.tl.tl.tl | exact h.tl.tl.tl.tl.tl.tl.tl | exact h.tl.tl.tl.tl.tl.tl.tl.tl))) ?_
      refine TA_yes (dd := (some 50)) 7 rfl (by kernel_rfl) (by kernel_rfl) (by kernel_rfl) rfl rfl rfl rfl rfl (PV_move rfl) ?_
      refine TA_yes (dd := (some 51)) 8 rfl (by kernel_rfl) (by kernel_rfl) (by kernel_rfl) rfl rfl rfl rfl rfl (PV_indexAddr (i := 2) Try.underlying23 sz5 rfl rfl rfl (by first | omega | decide | assumption)) ?_
      refine TA_yes (dd := (some 52)) 9 rfl (by kernel_rfl) (by kernel_rfl) (by kernel_rfl) rfl rfl rfl rfl rfl (PV_load Try.underlying5 rfl rfl (by first | exact Rd.at 0 rfl rfl | exact Rd.at 1 rfl rfl | exact Rd.at 2 rfl rfl | exact Rd.at 3 rfl rfl | exact Rd.at 4 rfl rfl | exact Rd.at 5 rfl rfl | exact Rd.at 6 rfl rfl | exact Rd.at 7 rfl rfl | exact Rd.at 8 rfl rfl | exact Rd.mono rd0 (by intro w h; first | exact h | exact h.tl | exact h.tl.tl | exact h.tl.tl.tl | exact h.tl.tl.tl.tl | exact h.tl.tl.tl.tl.tl | exact h.tl.tl.tl.tl.tl.tl | exact h.tl.tl.tl.tl.tl.tl.tl | exact h.tl.tl.tl.tl.tl.tl.tl.tl) | exact Rd.mono rd1 (by intro w h; first | exact h | exact h.tl | exact h.tl.tl | exact h.tl.tl.tl | exact h.tl.tl.tl.tl | exact h.tl.tl.tl.tl.tl | exact h.tl.tl.tl.tl.tl.tl | exact h.tl.tl.tl.tl.tl.tl.tl | exact h.tl.tl.tl.tl.tl.tl.tl.tl) | exact Rd.mono rd2 (by intro w h; first | exact h | exact h.tl | exact h.tl.tl | exact h.tl.tl.tl | exact h.tl.tl.tl.tl | exact h.tl.tl.tl.tl.tl | exact h.tl.tl.tl.tl.tl.tl | exact h.tl.tl.tl.tl.tl.tl.tl | exact h.tl.tl.tl.tl.tl.tl.tl.tl))) ?_
      refine TA_yes (dd := (some 53)) 10 rfl (by kernel_rfl) (by kernel_rfl) (by kernel_rfl) rfl rfl rfl rfl rfl (PV_bin rfl rfl bin_xor) ?_
      refine TA_yes (dd := (some 54)) 11 rfl (by kernel_rfl) (by kernel_rfl) (by kernel_rfl) rfl rfl rfl rfl rfl (PV.cast (PV_bin rfl rfl bin_neq) (congrArg Value.bool (show _ = true by exact bne_iff_ne.2 fun e => hx.2 (hx2.1 e)))) ?_
      first | (refine TA_take (dd := (some 55)) 12 rfl (by kernel_rfl) (by kernel_rfl) (by kernel_rfl) rfl rfl rfl (PV_pickAnd rfl rfl rfl) ?_) | (refine TA_take (dd := (some 55)) 12 rfl (by kernel_rfl) (by kernel_rfl) (by kernel_rfl) rfl rfl rfl (PV_pickF rfl (by first | assumption | rfl | (simp; done) | (simp; omega)) rfl rfl) ?_)
      refine TA_take (dd := (some 42)) 13 rfl (by kernel_rfl) (by kernel_rfl) (by kernel_rfl) rfl rfl rfl (PV_assign rfl) ?_
      refine TA_done (by kernel_rfl) ?_
      -- IF t42
      refine T_then rfl (by rfl) ?_
      refine T_seq ?_
      refine T_region ?_
      refine TL_pure (d := (some 56)) rfl rfl rfl (PV_move rfl) ?_
      refine TL_pure (d := (some 57)) rfl rfl rfl (PV.cast (PV_bin rfl rfl bin_eql) (congrArg Value.bool (show _ = true by rfl))) ?_
      refine TL_pure (d := (some 4)) rfl rfl rfl (PV_assign rfl) ?_
      refine TL_nil ?_
      refine T_ret ?_
      -- ('ret',)
      refine ⟨_, ?hh5, ?sb5, ResV_one rfl rfl, rfl⟩
      case sb5 => repeat (first | exact List.Sublist.refl _ | apply List.Sublist.cons_cons | apply List.Sublist.cons)
    by_cases hl2 : l.length < sizeL (rd l 0) crc
    · have e : scanS l crc = 0 := by unfold scanS; rw [if_neg h0, if_neg hz, if_neg hx, if_pos hl2]
      rw [e]
      by_cases h3 : 2 < l.length
      · have h12 : rd l 1 = 255 - rd l 2 := by
          by_cases e : rd l 1 = 255 - rd l 2
          · exact e
          · exact absurd ⟨h3, e⟩ hx
        refine TL_pure (d := (some 9)) rfl rfl rfl (PV_move rfl) ?_
        refine TL_pure (d := (some 13)) rfl rfl rfl (PV_extract rfl rfl) ?_
        refine TL_pure (d := (some 14)) rfl rfl rfl (PV_extract rfl rfl) ?_
        refine TL_cons rfl (TO_alloc rfl zr58 fun g5 => ?_)
        first | (refine TL_cons rfl (TO_store 0 rfl rfl rfl sz58 rfl rfl rfl (by simp [Value.cells, Value.oneCell']) (by first | exact Nat.le_of_ble_eq_true rfl | (simp; done) | (simp; omega) | omega) ?_)) | (refine TL_cons rfl (TO_store 1 rfl rfl rfl sz58 rfl rfl rfl (by simp [Value.cells, Value.oneCell']) (by first | exact Nat.le_of_ble_eq_true rfl | (simp; done) | (simp; omega) | omega) ?_)) | (refine TL_cons rfl (TO_store 2 rfl rfl rfl sz58 rfl rfl rfl (by simp [Value.cells, Value.oneCell']) (by first | exact Nat.le_of_ble_eq_true rfl | (simp; done) | (simp; omega) | omega) ?_)) | (refine TL_cons rfl (TO_store 3 rfl rfl rfl sz58 rfl rfl rfl (by simp [Value.cells, Value.oneCell']) (by first | exact Nat.le_of_ble_eq_true rfl | (simp; done) | (simp; omega) | omega) ?_)) | (refine TL_cons rfl (TO_store 4 rfl rfl rfl sz58 rfl rfl rfl (by simp [Value.cells, Value.oneCell']) (by first | exact Nat.le_of_ble_eq_true rfl | (simp; done) | (simp; omega) | omega) ?_)) | (refine TL_cons rfl (TO_store 5 rfl rfl rfl sz58 rfl rfl rfl (by simp [Value.cells, Value.oneCell']) (by first | exact Nat.le_of_ble_eq_true rfl | (simp; done) | (simp; omega) | omega) ?_)) | (refine TL_cons rfl (TO_store 6 rfl rfl rfl sz58 rfl rfl rfl (by simp [Value.cells, Value.oneCell']) (by first | exact Nat.le_of_ble_eq_true rfl | (simp; done) | (simp; omega) | omega) ?_)) | (refine TL_cons rfl (TO_store 7 rfl rfl rfl sz58 rfl rfl rfl (by simp [Value.cells, Value.oneCell']) (by first | exact Nat.le_of_ble_eq_true rfl | (simp; done) | (simp; omega) | omega) ?_)) | (refine TL_cons rfl (TO_store 8 rfl rfl rfl sz58 rfl rfl rfl (by simp [Value.cells, Value.oneCell']) (by first | exact Nat.le_of_ble_eq_true rfl | (simp; done) | (simp; omega) | omega) ?_))
        refine TL_pure (d := (some 6)) rfl rfl rfl (PV_assign rfl) ?_
        refine TL_nil ?_
        refine T_seq ?_
        refine T_block ?_
        refine T_seq ?_
        refine T_region ?_
        refine TL_pure (d := (some 16)) rfl rfl rfl (PV_move rfl) ?_
        refine TL_pure (d := (some 17)) rfl rfl rfl (PV_len_slice Try.underlying23 rfl) ?_
        refine TL_pure (d := (some 18)) rfl rfl rfl (PV_bin rfl rfl bin_eql) ?_
        refine TL_pure (d := (some 15)) rfl rfl rfl (PV_assign rfl) ?_
        refine TL_nil ?_
        -- IF t15
        refine T_else rfl (by simpa using h0) ?_
        refine T_shows (hS _) (by simp [nums]; omega) fun ga oa hA hrd => ?_
        subst hA
        have rd0 := hrd 0 (.int .u8 (rd l 0)) (nums_at _ (by omega))
        have rd1 := hrd 1 (.int .u8 (rd l 1)) (nums_at _ (by omega))
        have rd2 := hrd 2 (.int .u8 (rd l 2)) (nums_at _ (by omega))
        refine T_seq ?_
        refine T_region ?_
        refine TL_pure (d := (some 22)) rfl rfl rfl (PV_move rfl) ?_
        refine TL_pure (d := (some 23)) rfl rfl rfl (PV_indexAddr (i := 0) Try.underlying23 sz5 rfl rfl rfl (by first | omega | decide | assumption)) ?_
        refine TL_pure (d := (some 24)) rfl rfl rfl (PV_load Try.underlying5 rfl rfl (by first | exact Rd.at 0 rfl rfl | exact Rd.at 1 rfl rfl | exact Rd.at 2 rfl rfl | exact Rd.at 3 rfl rfl | exact Rd.at 4 rfl rfl | exact Rd.at 5 rfl rfl | exact Rd.at 6 rfl rfl | exact Rd.at 7 rfl rfl | exact Rd.at 8 rfl rfl | exact Rd.mono rd0 (by intro w h; first | exact h | exact h.tl | exact h.tl.tl | exact h.tl.tl.tl | exact h.tl.tl.tl.tl | exact h.tl.tl.tl.tl.tl | exact h.tl.tl.tl.tl.tl.tl | exact h.tl.tl.tl.tl.tl.tl.tl | exact h.tl.tl.tl.tl.tl.tl.tl.tl) | exact Rd.mono rd1 (by intro w h; first | exact h | exact h.tl | exact h.tl.tl | exact h.tl.tl.tl | exact h.tl.tl.tl.tl | exact h.tl.tl.tl.tl.tl | exact h.tl.tl.tl.tl.tl.tl | exact h.tl.tl.tl.tl.tl.tl.tl | exact h.tl.tl.tl.tl.tl.tl.tl.tl) | exact Rd.mono rd2 (by intro w h; first | exact h | exact h.tl | exact h.tl.tl | exact h.tl.tl.tl | exact h.tl.tl.tl.tl | exact h.tl.tl.tl.tl.tl | exact h.tl.tl.tl.tl.tl.tl | exact h.tl.tl.tl.tl.tl.tl.tl | exact h.tl.tl.tl.tl.tl.tl.tl.tl))) ?_
        refine TL_pure (d := (some 25)) rfl rfl rfl (PV.cast (PV_bin rfl rfl bin_neq) (congrArg Value.bool (show _ = false by rw [e0]; rfl))) ?_
        refine TL_pure (d := (some 26)) rfl rfl rfl (PV_move rfl) ?_
        -- guard 27 move t0
        refine TL_no (b := false) rfl rfl rfl rfl ?_
        refine TL_no (b := false) rfl rfl rfl rfl ?_
        refine TL_no (b := false) rfl rfl rfl rfl ?_
        refine TL_no (b := false) rfl rfl rfl rfl ?_
        first | (refine TL_pure (d := (some 31)) rfl rfl rfl (PV_pickAnd rfl rfl rfl) ?_) | (refine TL_pure (d := (some 31)) rfl rfl rfl (PV_pickF rfl (by first | assumption | rfl | (simp; done) | (simp; omega)) rfl rfl) ?_)
        refine TL_pure (d := (some 21)) rfl rfl rfl (PV_assign rfl) ?_
        refine TL_nil ?_
        -- IF t21
        refine T_else rfl (by rfl) ?_
        refine T_seq ?_
        refine T_drawn (WH _ _ _) mixed (by intro w h; exact h) ?_
        refine TA_take (dd := (some 43)) 0 rfl (by kernel_rfl) (by kernel_rfl) (by kernel_rfl) rfl rfl rfl (PV_move rfl) ?_
        refine TA_take (dd := (some 44)) 1 rfl (by kernel_rfl) (by kernel_rfl) (by kernel_rfl) rfl rfl rfl (PV_len_slice Try.underlying23 rfl) ?_
        refine TA_take (dd := (some 45)) 2 rfl (by kernel_rfl) (by kernel_rfl) (by kernel_rfl) rfl rfl rfl (PV.cast (PV_bin rfl rfl bin_gtr) (congrArg Value.bool (show _ = true by exact decide_eq_true (by omega)))) ?_
        refine TA_take (dd := (some 46)) 3 rfl (by kernel_rfl) (by kernel_rfl) (by kernel_rfl) rfl rfl rfl (PV_move rfl) ?_
        -- dguard 4 47 move t0
        refine TA_yes (dd := (some 47)) 4 rfl (by kernel_rfl) (by kernel_rfl) (by kernel_rfl) rfl rfl rfl rfl rfl (PV_move rfl) ?_
        refine TA_yes (dd := (some 48)) 5 rfl (by kernel_rfl) (by kernel_rfl) (by kernel_rfl) rfl rfl rfl rfl rfl (PV_indexAddr (i := 1) Try.underlying23 sz5 rfl rfl rfl (by first | omega | decide | assumption)) ?_
        refine TA_yes (dd := (some 49)) 6 rfl (by kernel_rfl) (by kernel_rfl) (by kernel_rfl) rfl rfl rfl rfl rfl (PV_load Try.underlying5 rfl rfl (by first | exact Rd.at 0 rfl rfl | exact Rd.at 1 rfl rfl | exact Rd.at 2 rfl rfl | exact Rd.at 3 rfl rfl | exact Rd.at 4 rfl rfl | exact Rd.at 5 rfl rfl | exact Rd.at 6 rfl rfl | exact Rd.at 7 rfl rfl | exact Rd.at 8 rfl rfl | exact Rd.mono rd0 (by intro w h; first | exact h | exact h.tl | exact h.tl.tl | exact h.tl.tl.tl | exact h.tl.tl.tl.tl | exact h.tl.tl.tl.tl.tl | exact h.tl.tl.tl.tl.tl.tl | exact h.tl.tl.tl.tl.tl.tl.tl | exact h.tl.tl.tl.tl.tl.tl.tl.tl) | exact Rd.mono rd1 (by intro w h; first | exact h | exact h.tl | exact h.tl.tl | exact h.tl.tl.tl | exact h.tl.tl.tl.tl | exact h.tl.tl.tl.tl.tl | exact h.tl.tl.tl.tl.tl.tl | exact h.tl.tl.tl.tl.tl.tl.tl | exact h.tl.tl.tl.tl.tl.tl.tl.tl) | exact Rd.mono rd2 (by intro w h; first | exact h | exact h.tl | exact h.tl.tl | exact h.tl.tl.tl | exact h.tl.tl.tl.tl | exact h.tl.tl.tl.tl.tl | exact h.tl.tl.tl.tl.tl.tl | exact h.tl.tl.tl.tl.tl.tl.tl | exact h.tl.tl.tl.tl.tl.tl.tl.tl))) ?_
        refine TA_yes (dd := (some 50)) 7 rfl (by kernel_rfl) (by kernel_rfl) (by kernel_rfl) rfl rfl rfl rfl rfl (PV_move rfl) ?_
        refine TA_yes (dd := (some 51)) 8 rfl (by kernel_rfl) (by kernel_rfl) (by kernel_rfl) rfl rfl rfl rfl rfl (PV_indexAddr (i := 2) Try.underlying23 sz5 rfl rfl rfl (by first | omega | decide | assumption)) ?_
        refine TA_yes (dd := (some 52)) 9 rfl (by kernel_rfl) (by kernel_rfl) (by kernel_rfl) rfl rfl rfl rfl rfl (PV_load Try.underlying5 rfl rfl (by first | exact Rd.at 0 rfl rfl | exact Rd.at 1 rfl rfl | exact Rd.at 2 rfl rfl | exact Rd.at 3 rfl rfl | exact Rd.at 4 rfl rfl | exact Rd.at 5 rfl rfl | exact Rd.at 6 rfl rfl | exact Rd.at 7 rfl rfl | exact Rd.at 8 rfl rfl | exact Rd.mono rd0 (by intro w h; first | exact h | exact h.tl | exact h.tl.tl | exact h.tl.tl.tl | exact h.tl.tl.tl.tl | exact h.tl.tl.tl.tl.tl | exact h.tl.tl.tl.tl.tl.tl | exact h.tl.tl.tl.tl.tl.tl.tl | exact h.tl.tl.tl.tl.tl.tl.tl.tl) | exact Rd.mono rd1 (by intro w h; first | exact h | exact h.tl | exact h.tl.tl | exact h.tl.tl.tl | exact h.tl.tl.tl.tl | exact h.tl.tl.tl.tl.tl | exact h.tl.tl.tl.tl.tl.tl | exact h.tl.tl.tl.tl.tl.tl.tl | exact h.tl.tl.tl.tl.tl.tl.tl.tl) | exact Rd.mono rd2 (by intro w h; first | exact h | exact h.tl | exact h.tl.tl | exact h.tl.tl.tl | exact h.tl.tl.tl.tl | exact h.tl.tl.tl.tl.tl | exact h.tl.tl.tl.tl.tl.tl | exact h.tl.tl.tl.tl.tl.tl.tl | exact h.tl.tl.tl.tl.tl.tl.tl.tl))) ?_
        refine TA_yes (dd := (some 53)) 10 rfl (by kernel_rfl) (by kernel_rfl) (by kernel_rfl) rfl rfl rfl rfl rfl (PV_bin rfl rfl bin_xor) ?_
        refine TA_yes (dd := (some 54)) 11 rfl (by kernel_rfl) (by kernel_rfl) (by kernel_rfl) rfl rfl rfl rfl rfl (PV.cast (PV_bin rfl rfl bin_neq) (congrArg Value.bool (show _ = false by rw [hx2.2 h12]; rfl))) ?_
        first | (refine TA_take (dd := (some 55)) 12 rfl (by kernel_rfl) (by kernel_rfl) (by kernel_rfl) rfl rfl rfl (PV_pickAnd rfl rfl rfl) ?_) | (refine TA_take (dd := (some 55)) 12 rfl (by kernel_rfl) (by kernel_rfl) (by kernel_rfl) rfl rfl rfl (PV_pickF rfl (by first | assumption | rfl | (simp; done) | (simp; omega)) rfl rfl) ?_)
        refine TA_take (dd := (some 42)) 13 rfl (by kernel_rfl) (by kernel_rfl) (by kernel_rfl) rfl rfl rfl (PV_assign rfl) ?_
        refine TA_done (by kernel_rfl) ?_
        -- IF t42
        refine T_else rfl (by rfl) ?_
        refine T_seq ?_
        refine T_region ?_
        refine TL_pure (d := (some 59)) rfl rfl rfl (PV_move rfl) ?_
        refine TL_pure (d := (some 60)) rfl rfl rfl (PV_len_slice Try.underlying23 rfl) ?_
        refine TL_pure (d := (some 61)) rfl rfl rfl (PV_move rfl) ?_
        refine TL_pure (d := (some 62)) rfl rfl rfl (PV_indexAddr (i := 0) Try.underlying23 sz5 rfl rfl rfl (by first | omega | decide | assumption)) ?_
        refine TL_pure (d := (some 63)) rfl rfl rfl (PV_load Try.underlying5 rfl rfl (by first | exact Rd.at 0 rfl rfl | exact Rd.at 1 rfl rfl | exact Rd.at 2 rfl rfl | exact Rd.at 3 rfl rfl | exact Rd.at 4 rfl rfl | exact Rd.at 5 rfl rfl | exact Rd.at 6 rfl rfl | exact Rd.at 7 rfl rfl | exact Rd.at 8 rfl rfl | exact Rd.mono rd0 (by intro w h; first | exact h | exact h.tl | exact h.tl.tl | exact h.tl.tl.tl | exact h.tl.tl.tl.tl | exact h.tl.tl.tl.tl.tl | exact h.tl.tl.tl.tl.tl.tl | exact h.tl.tl.tl.tl.tl.tl.tl | exact h.tl.tl.tl.tl.tl.tl.tl.tl) | exact Rd.mono rd1 (by intro w h; first | exact h | exact h.tl | exact h.tl.tl | exact h.tl.tl.tl | exact h.tl.tl.tl.tl | exact h.tl.tl.tl.tl.tl | exact h.tl.tl.tl.tl.tl.tl | exact h.tl.tl.tl.tl.tl.tl.tl | exact h.tl.tl.tl.tl.tl.tl.tl.tl) | exact Rd.mono rd2 (by intro w h; first | exact h | exact h.tl | exact h.tl.tl | exact h.tl.tl.tl | exact h.tl.tl.tl.tl | exact h.tl.tl.tl.tl.tl | exact h.tl.tl.tl.tl.tl.tl | exact h.tl.tl.tl.tl.tl.tl.tl | exact h.tl.tl.tl.tl.tl.tl.tl.tl))) ?_
        refine TL_pure (d := (some 64)) rfl rfl rfl (PV_move rfl) ?_
        -- op 65 call F51(t63, t64)
        refine TL_cons rfl (TO_call0 call51 rfl rfl (t51 (rd l 0) crc) ?_)
        rintro v65 H65 ⟨rfl, rfl⟩
        refine TL_pure (d := (some 66)) rfl rfl rfl (PV_bin rfl rfl bin_lss) ?_
        refine TL_pure (d := (some 58)) rfl rfl rfl (PV_assign rfl) ?_
        refine TL_nil ?_
        -- IF t58
        refine T_then rfl (by exact decide_eq_true (by omega)) ?_
        refine T_seq ?_
        refine T_region ?_
        refine TL_pure (d := (some 67)) rfl rfl rfl (PV_move rfl) ?_
        refine TL_pure (d := (some 68)) rfl rfl rfl (PV.cast (PV_bin rfl rfl bin_eql) (congrArg Value.bool (show _ = true by rfl))) ?_
        refine TL_pure (d := (some 4)) rfl rfl rfl (PV_assign rfl) ?_
        refine TL_nil ?_
        refine T_ret ?_
        -- ('ret',)
        refine ⟨_, ?hh6, ?sb6, ResV_one rfl rfl, rfl⟩
        case sb6 => repeat (first | exact List.Sublist.refl _ | apply List.Sublist.cons_cons | apply List.Sublist.cons)
      · skip
        refine TL_pure (d := (some 9)) rfl rfl rfl (PV_move rfl) ?_
        refine TL_pure (d := (some 13)) rfl rfl rfl (PV_extract rfl rfl) ?_
        refine TL_pure (d := (some 14)) rfl rfl rfl (PV_extract rfl rfl) ?_
        refine TL_cons rfl (TO_alloc rfl zr58 fun g5 => ?_)
        first | (refine TL_cons rfl (TO_store 0 rfl rfl rfl sz58 rfl rfl rfl (by simp [Value.cells, Value.oneCell']) (by first | exact Nat.le_of_ble_eq_true rfl | (simp; done) | (simp; omega) | omega) ?_)) | (refine TL_cons rfl (TO_store 1 rfl rfl rfl sz58 rfl rfl rfl (by simp [Value.cells, Value.oneCell']) (by first | exact Nat.le_of_ble_eq_true rfl | (simp; done) | (simp; omega) | omega) ?_)) | (refine TL_cons rfl (TO_store 2 rfl rfl rfl sz58 rfl rfl rfl (by simp [Value.cells, Value.oneCell']) (by first | exact Nat.le_of_ble_eq_true rfl | (simp; done) | (simp; omega) | omega) ?_)) | (refine TL_cons rfl (TO_store 3 rfl rfl rfl sz58 rfl rfl rfl (by simp [Value.cells, Value.oneCell']) (by first | exact Nat.le_of_ble_eq_true rfl | (simp; done) | (simp; omega) | omega) ?_)) | (refine TL_cons rfl (TO_store 4 rfl rfl rfl sz58 rfl rfl rfl (by simp [Value.cells, Value.oneCell']) (by first | exact Nat.le_of_ble_eq_true rfl | (simp; done) | (simp; omega) | omega) ?_)) | (refine TL_cons rfl (TO_store 5 rfl rfl rfl sz58 rfl rfl rfl (by simp [Value.cells, Value.oneCell']) (by first | exact Nat.le_of_ble_eq_true rfl | (simp; done) | (simp; omega) | omega) ?_)) | (refine TL_cons rfl (TO_store 6 rfl rfl rfl sz58 rfl rfl rfl (by simp [Value.cells, Value.oneCell']) (by first | exact Nat.le_of_ble_eq_true rfl | (simp; done) | (simp; omega) | omega) ?_)) | (refine TL_cons rfl (TO_store 7 rfl rfl rfl sz58 rfl rfl rfl (by simp [Value.cells, Value.oneCell']) (by first | exact Nat.le_of_ble_eq_true rfl | (simp; done) | (simp; omega) | omega) ?_)) | (refine TL_cons rfl (TO_store 8 rfl rfl rfl sz58 rfl rfl rfl (by simp [Value.cells, Value.oneCell']) (by first | exact Nat.le_of_ble_eq_true rfl | (simp; done) | (simp; omega) | omega) ?_))
        refine TL_pure (d := (some 6)) rfl rfl rfl (PV_assign rfl) ?_
        refine TL_nil ?_
        refine T_seq ?_
        refine T_block ?_
        refine T_seq ?_
        refine T_region ?_
        refine TL_pure (d := (some 16)) rfl rfl rfl (PV_move rfl) ?_
        refine TL_pure (d := (some 17)) rfl rfl rfl (PV_len_slice Try.underlying23 rfl) ?_
        refine TL_pure (d := (some 18)) rfl rfl rfl (PV_bin rfl rfl bin_eql) ?_
        refine TL_pure (d := (some 15)) rfl rfl rfl (PV_assign rfl) ?_
        refine TL_nil ?_
        -- IF t15
        refine T_else rfl (by simpa using h0) ?_
        refine T_shows (hS _) (by simp [nums]; omega) fun ga oa hA hrd => ?_
        subst hA
        have rd0 := hrd 0 (.int .u8 (rd l 0)) (nums_at _ (by omega))
        refine T_seq ?_
        refine T_region ?_
        refine TL_pure (d := (some 22)) rfl rfl rfl (PV_move rfl) ?_
        refine TL_pure (d := (some 23)) rfl rfl rfl (PV_indexAddr (i := 0) Try.underlying23 sz5 rfl rfl rfl (by first | omega | decide | assumption)) ?_
        refine TL_pure (d := (some 24)) rfl rfl rfl (PV_load Try.underlying5 rfl rfl (by first | exact Rd.at 0 rfl rfl | exact Rd.at 1 rfl rfl | exact Rd.at 2 rfl rfl | exact Rd.at 3 rfl rfl | exact Rd.at 4 rfl rfl | exact Rd.at 5 rfl rfl | exact Rd.at 6 rfl rfl | exact Rd.at 7 rfl rfl | exact Rd.at 8 rfl rfl | exact Rd.mono rd0 (by intro w h; first | exact h | exact h.tl | exact h.tl.tl | exact h.tl.tl.tl | exact h.tl.tl.tl.tl | exact h.tl.tl.tl.tl.tl | exact h.tl.tl.tl.tl.tl.tl | exact h.tl.tl.tl.tl.tl.tl.tl | exact h.tl.tl.tl.tl.tl.tl.tl.tl))) ?_
        refine TL_pure (d := (some 25)) rfl rfl rfl (PV.cast (PV_bin rfl rfl bin_neq) (congrArg Value.bool (show _ = false by rw [e0]; rfl))) ?_
        refine TL_pure (d := (some 26)) rfl rfl rfl (PV_move rfl) ?_
        -- guard 27 move t0
        refine TL_no (b := false) rfl rfl rfl rfl ?_
        refine TL_no (b := false) rfl rfl rfl rfl ?_
        refine TL_no (b := false) rfl rfl rfl rfl ?_
        refine TL_no (b := false) rfl rfl rfl rfl ?_
        first | (refine TL_pure (d := (some 31)) rfl rfl rfl (PV_pickAnd rfl rfl rfl) ?_) | (refine TL_pure (d := (some 31)) rfl rfl rfl (PV_pickF rfl (by first | assumption | rfl | (simp; done) | (simp; omega)) rfl rfl) ?_)
        refine TL_pure (d := (some 21)) rfl rfl rfl (PV_assign rfl) ?_
        refine TL_nil ?_
        -- IF t21
        refine T_else rfl (by rfl) ?_
        refine T_seq ?_
        refine T_drawn (WH _ _ _) mixed (by intro w h; exact h) ?_
        refine TA_take (dd := (some 43)) 0 rfl (by kernel_rfl) (by kernel_rfl) (by kernel_rfl) rfl rfl rfl (PV_move rfl) ?_
        refine TA_take (dd := (some 44)) 1 rfl (by kernel_rfl) (by kernel_rfl) (by kernel_rfl) rfl rfl rfl (PV_len_slice Try.underlying23 rfl) ?_
        refine TA_take (dd := (some 45)) 2 rfl (by kernel_rfl) (by kernel_rfl) (by kernel_rfl) rfl rfl rfl (PV.cast (PV_bin rfl rfl bin_gtr) (congrArg Value.bool (show _ = false by exact decide_eq_false (by omega)))) ?_
        refine TA_take (dd := (some 46)) 3 rfl (by kernel_rfl) (by kernel_rfl) (by kernel_rfl) rfl rfl rfl (PV_move rfl) ?_
        -- dguard 4 47 move t0
        refine TA_no (dd := (some 47)) (b := false) 4 rfl (by kernel_rfl) (by kernel_rfl) (by kernel_rfl) rfl rfl rfl rfl rfl ?_
        refine TA_no (dd := (some 48)) (b := false) 5 rfl (by kernel_rfl) (by kernel_rfl) (by kernel_rfl) rfl rfl rfl rfl rfl ?_
        refine TA_no (dd := (some 49)) (b := false) 6 rfl (by kernel_rfl) (by kernel_rfl) (by kernel_rfl) rfl rfl rfl rfl rfl ?_
        refine TA_no (dd := (some 50)) (b := false) 7 rfl (by kernel_rfl) (by kernel_rfl) (by kernel_rfl) rfl rfl rfl rfl rfl ?_
        refine TA_no (dd := (some 51)) (b := false) 8 rfl (by kernel_rfl) (by kernel_rfl) (by kernel_rfl) rfl rfl rfl rfl rfl ?_
        refine TA_no (dd := (some 52)) (b := false) 9 rfl (by kernel_rfl) (by kernel_rfl) (by kernel_rfl) rfl rfl rfl rfl rfl ?_
        refine TA_no (dd := (some 53)) (b := false) 10 rfl (by kernel_rfl) (by kernel_rfl) (by kernel_rfl) rfl rfl rfl rfl rfl ?_
        refine TA_no (dd := (some 54)) (b := false) 11 rfl (by kernel_rfl) (by kernel_rfl) (by kernel_rfl) rfl rfl rfl rfl rfl ?_
        first | (refine TA_take (dd := (some 55)) 12 rfl (by kernel_rfl) (by kernel_rfl) (by kernel_rfl) rfl rfl rfl (PV_pickAnd rfl rfl rfl) ?_) | (refine TA_take (dd := (some 55)) 12 rfl (by kernel_rfl) (by kernel_rfl) (by kernel_rfl) rfl rfl rfl (PV_pickF rfl (by first | assumption | rfl | (simp; done) | (simp; omega)) rfl rfl) ?_)
        refine TA_take (dd := (some 42)) 13 rfl (by kernel_rfl) (by kernel_rfl) (by kernel_rfl) rfl rfl rfl (PV_assign rfl) ?_
        refine TA_done (by kernel_rfl) ?_
        -- IF t42
        refine T_else rfl (by rfl) ?_
        refine T_seq ?_
        refine T_region ?_
        refine TL_pure (d := (some 59)) rfl rfl rfl (PV_move rfl) ?_
        refine TL_pure (d := (some 60)) rfl rfl rfl (PV_len_slice Try.underlying23 rfl) ?_
        refine TL_pure (d := (some 61)) rfl rfl rfl (PV_move rfl) ?_
        refine TL_pure (d := (some 62)) rfl rfl rfl (PV_indexAddr (i := 0) Try.underlying23 sz5 rfl rfl rfl (by first | omega | decide | assumption)) ?_
        refine TL_pure (d := (some 63)) rfl rfl rfl (PV_load Try.underlying5 rfl rfl (by first | exact Rd.at 0 rfl rfl | exact Rd.at 1 rfl rfl | exact Rd.at 2 rfl rfl | exact Rd.at 3 rfl rfl | exact Rd.at 4 rfl rfl | exact Rd.at 5 rfl rfl | exact Rd.at 6 rfl rfl | exact Rd.at 7 rfl rfl | exact Rd.at 8 rfl rfl | exact Rd.mono rd0 (by intro w h; first | exact h | exact h.tl | exact h.tl.tl | exact h.tl.tl.tl | exact h.tl.tl.tl.tl | exact h.tl.tl.tl.tl.tl | exact h.tl.tl.tl.tl.tl.tl | exact h.tl.tl.tl.tl.tl.tl.tl | exact h.tl.tl.tl.tl.tl.tl.tl.tl))) ?_
        refine TL_pure (d := (some 64)) rfl rfl rfl (PV_move rfl) ?_
        -- op 65 call F51(t63, t64)
        refine TL_cons rfl (TO_call0 call51 rfl rfl (t51 (rd l 0) crc) ?_)
        rintro v65 H65 ⟨rfl, rfl⟩
        refine TL_pure (d := (some 66)) rfl rfl rfl (PV_bin rfl rfl bin_lss) ?_
        refine TL_pure (d := (some 58)) rfl rfl rfl (PV_assign rfl) ?_
        refine TL_nil ?_
        -- IF t58
        refine T_then rfl (by exact decide_eq_true (by omega)) ?_
        refine T_seq ?_
        refine T_region ?_
        refine TL_pure (d := (some 67)) rfl rfl rfl (PV_move rfl) ?_
        refine TL_pure (d := (some 68)) rfl rfl rfl (PV.cast (PV_bin rfl rfl bin_eql) (congrArg Value.bool (show _ = true by rfl))) ?_
        refine TL_pure (d := (some 4)) rfl rfl rfl (PV_assign rfl) ?_
        refine TL_nil ?_
        refine T_ret ?_
        -- ('ret',)
        refine ⟨_, ?hh7, ?sb7, ResV_one rfl rfl, rfl⟩
        case sb7 => repeat (first | exact List.Sublist.refl _ | apply List.Sublist.cons_cons | apply List.Sublist.cons)
    have h12 : rd l 1 = 255 - rd l 2 := by
      by_cases e : rd l 1 = 255 - rd l 2
      · exact e
      · exact absurd ⟨by omega, e⟩ hx
    have e : scanS l crc = 1 := by
      unfold scanS at h2 ⊢
      rw [if_neg h0, if_neg hz, if_neg hx, if_neg hl2] at h2 ⊢
      split at h2
      · exact absurd rfl h2
      · rename_i hq; rw [if_neg hq]
    rw [e]
    refine TL_pure (d := (some 9)) rfl rfl rfl (PV_move rfl) ?_
    refine TL_pure (d := (some 13)) rfl rfl rfl (PV_extract rfl rfl) ?_
    refine TL_pure (d := (some 14)) rfl rfl rfl (PV_extract rfl rfl) ?_
    refine TL_cons rfl (TO_alloc rfl zr58 fun g5 => ?_)
    first | (refine TL_cons rfl (TO_store 0 rfl rfl rfl sz58 rfl rfl rfl (by simp [Value.cells, Value.oneCell']) (by first | exact Nat.le_of_ble_eq_true rfl | (simp; done) | (simp; omega) | omega) ?_)) | (refine TL_cons rfl (TO_store 1 rfl rfl rfl sz58 rfl rfl rfl (by simp [Value.cells, Value.oneCell']) (by first | exact Nat.le_of_ble_eq_true rfl | (simp; done) | (simp; omega) | omega) ?_)) | (refine TL_cons rfl (TO_store 2 rfl rfl rfl sz58 rfl rfl rfl (by simp [Value.cells, Value.oneCell']) (by first | exact Nat.le_of_ble_eq_true rfl | (simp; done) | (simp; omega) | omega) ?_)) | (refine TL_cons rfl (TO_store 3 rfl rfl rfl sz58 rfl rfl rfl (by simp [Value.cells, Value.oneCell']) (by first | exact Nat.le_of_ble_eq_true rfl | (simp; done) | (simp; omega) | omega) ?_)) | (refine TL_cons rfl (TO_store 4 rfl rfl rfl sz58 rfl rfl rfl (by simp [Value.cells, Value.oneCell']) (by first | exact Nat.le_of_ble_eq_true rfl | (simp; done) | (simp; omega) | omega) ?_)) | (refine TL_cons rfl (TO_store 5 rfl rfl rfl sz58 rfl rfl rfl (by simp [Value.cells, Value.oneCell']) (by first | exact Nat.le_of_ble_eq_true rfl | (simp; done) | (simp; omega) | omega) ?_)) | (refine TL_cons rfl (TO_store 6 rfl rfl rfl sz58 rfl rfl rfl (by simp [Value.cells, Value.oneCell']) (by first | exact Nat.le_of_ble_eq_true rfl | (simp; done) | (simp; omega) | omega) ?_)) | (refine TL_cons rfl (TO_store 7 rfl rfl rfl sz58 rfl rfl rfl (by simp [Value.cells, Value.oneCell']) (by first | exact Nat.le_of_ble_eq_true rfl | (simp; done) | (simp; omega) | omega) ?_)) | (refine TL_cons rfl (TO_store 8 rfl rfl rfl sz58 rfl rfl rfl (by simp [Value.cells, Value.oneCell']) (by first | exact Nat.le_of_ble_eq_true rfl | (simp; done) | (simp; omega) | omega) ?_))
    refine TL_pure (d := (some 6)) rfl rfl rfl (PV_assign rfl) ?_
    refine TL_nil ?_
    refine T_seq ?_
    refine T_block ?_
    refine T_seq ?_
    refine T_region ?_
    refine TL_pure (d := (some 16)) rfl rfl rfl (PV_move rfl) ?_
    refine TL_pure (d := (some 17)) rfl rfl rfl (PV_len_slice Try.underlying23 rfl) ?_
    refine TL_pure (d := (some 18)) rfl rfl rfl (PV_bin rfl rfl bin_eql) ?_
    refine TL_pure (d := (some 15)) rfl rfl rfl (PV_assign rfl) ?_
    refine TL_nil ?_
    -- IF t15
    refine T_else rfl (by simpa using h0) ?_
    refine T_shows (hS _) (by simp [nums]; omega) fun ga oa hA hrd => ?_
    subst hA
    have rd0 := hrd 0 (.int .u8 (rd l 0)) (nums_at _ (by omega))
    have rd1 := hrd 1 (.int .u8 (rd l 1)) (nums_at _ (by omega))
    have rd2 := hrd 2 (.int .u8 (rd l 2)) (nums_at _ (by omega))
    refine T_seq ?_
    refine T_region ?_
    refine TL_pure (d := (some 22)) rfl rfl rfl (PV_move rfl) ?_
    refine TL_pure (d := (some 23)) rfl rfl rfl (PV_indexAddr (i := 0) Try.underlying23 sz5 rfl rfl rfl (by first | omega | decide | assumption)) ?_
    refine TL_pure (d := (some 24)) rfl rfl rfl (PV_load Try.underlying5 rfl rfl (by first | exact Rd.at 0 rfl rfl | exact Rd.at 1 rfl rfl | exact Rd.at 2 rfl rfl | exact Rd.at 3 rfl rfl | exact Rd.at 4 rfl rfl | exact Rd.at 5 rfl rfl | exact Rd.at 6 rfl rfl | exact Rd.at 7 rfl rfl | exact Rd.at 8 rfl rfl | exact Rd.mono rd0 (by intro w h; first | exact h | exact h.tl | exact h.tl.tl | exact h.tl.tl.tl | exact h.tl.tl.tl.tl | exact h.tl.tl.tl.tl.tl | exact h.tl.tl.tl.tl.tl.tl | exact h.tl.tl.tl.tl.tl.tl.tl | exact h.tl.tl.tl.tl.tl.tl.tl.tl) | exact Rd.mono rd1 (by intro w h; first | exact h | exact h.tl | exact h.tl.tl | exact h.tl.tl.tl | exact h.tl.tl.tl.tl | exact h.tl.tl.tl.tl.tl | exact h.tl.tl.tl.tl.tl.tl | exact h.tl.tl.tl.tl.tl.tl.tl | exact h.tl.tl.tl.tl.tl.tl.tl.tl) | exact Rd.mono rd2 (by intro w h; first | exact h | exact h.tl | exact h.tl.tl | exact h.tl.tl.tl | exact h.tl.tl.tl.tl | exact h.tl.tl.tl.tl.tl | exact h.tl.tl.tl.tl.tl.tl | exact h.tl.tl.tl.tl.tl.tl.tl | exact h.tl.tl.tl.tl.tl.tl.tl.tl))) ?_
    refine TL_pure (d := (some 25)) rfl rfl rfl (PV.cast (PV_bin rfl rfl bin_neq) (congrArg Value.bool (show _ = false by rw [e0]; rfl))) ?_
    refine TL_pure (d := (some 26)) rfl rfl rfl (PV_move rfl) ?_
    -- guard 27 move t0
    refine TL_no (b := false) rfl rfl rfl rfl ?_
    refine TL_no (b := false) rfl rfl rfl rfl ?_
    refine TL_no (b := false) rfl rfl rfl rfl ?_
    refine TL_no (b := false) rfl rfl rfl rfl ?_
    first | (refine TL_pure (d := (some 31)) rfl rfl rfl (PV_pickAnd rfl rfl rfl) ?_) | (refine TL_pure (d := (some 31)) rfl rfl rfl (PV_pickF rfl (by first | assumption | rfl | (simp; done) | (simp; omega)) rfl rfl) ?_)
    refine TL_pure (d := (some 21)) rfl rfl rfl (PV_assign rfl) ?_
    refine TL_nil ?_
    -- IF t21
    refine T_else rfl (by rfl) ?_
    refine T_seq ?_
    refine T_drawn (WH _ _ _) mixed (by intro w h; exact h) ?_
    refine TA_take (dd := (some 43)) 0 rfl (by kernel_rfl) (by kernel_rfl) (by kernel_rfl) rfl rfl rfl (PV_move rfl) ?_
    refine TA_take (dd := (some 44)) 1 rfl (by kernel_rfl) (by kernel_rfl) (by kernel_rfl) rfl rfl rfl (PV_len_slice Try.underlying23 rfl) ?_
    refine TA_take (dd := (some 45)) 2 rfl (by kernel_rfl) (by kernel_rfl) (by kernel_rfl) rfl rfl rfl (PV.cast (PV_bin rfl rfl bin_gtr) (congrArg Value.bool (show _ = true by exact decide_eq_true (by omega)))) ?_
    refine TA_take (dd := (some 46)) 3 rfl (by kernel_rfl) (by kernel_rfl) (by kernel_rfl) rfl rfl rfl (PV_move rfl) ?_
    -- dguard 4 47 move t0
    refine TA_yes (dd := (some 47)) 4 rfl (by kernel_rfl) (by kernel_rfl) (by kernel_rfl) rfl rfl rfl rfl rfl (PV_move rfl) ?_
    refine TA_yes (dd := (some 48)) 5 rfl (by kernel_rfl) (by kernel_rfl) (by kernel_rfl) rfl rfl rfl rfl rfl (PV_indexAddr (i := 1) Try.underlying23 sz5 rfl rfl rfl (by first | omega | decide | assumption)) ?_
    refine TA_yes (dd := (some 49)) 6 rfl (by kernel_rfl) (by kernel_rfl) (by kernel_rfl) rfl rfl rfl rfl rfl (PV_load Try.underlying5 rfl rfl (by first | exact Rd.at 0 rfl rfl | exact Rd.at 1 rfl rfl | exact Rd.at 2 rfl rfl | exact Rd.at 3 rfl rfl | exact Rd.at 4 rfl rfl | exact Rd.at 5 rfl rfl | exact Rd.at 6 rfl rfl | exact Rd.at 7 rfl rfl | exact Rd.at 8 rfl rfl | exact Rd.mono rd0 (by intro w h; first | exact h | exact h.tl | exact h.tl.tl | exact h.tl.tl.tl | exact h.tl.tl.tl.tl | exact h.tl.tl.tl.tl.tl | exact h.tl.tl.tl.tl.tl.tl | exact h.tl.tl.tl.tl.tl.tl.tl | exact h.tl.tl.tl.tl.tl.tl.tl.tl) | exact Rd.mono rd1 (by intro w h; first | exact h | exact h.tl | exact h.tl.tl | exact h.tl.tl.tl | exact h.tl.tl.tl.tl | exact h.tl.tl.tl.tl.tl | exact h.tl.tl.tl.tl.tl.tl | exact h.tl.tl.tl.tl.tl.tl.tl | exact h.tl.tl.tl.tl.tl.tl.tl.tl) | exact Rd.mono rd2 (by intro w h; first | exact h | exact h.tl | exact h.tl.tl | exact h.tl.tl.tl | exact h.tl.tl.tl.tl | exact h.tl.tl.tl.tl.tl | exact h.tl.tl.tl.tl.tl.tl | exact h.tl.tl.tl.tl.tl.tl.tl | exact h.tl.tl.tl.tl.tl.tl.tl.tl))) ?_
    refine TA_yes (dd := (some 50)) 7 rfl (by kernel_rfl) (by kernel_rfl) (by kernel_rfl) rfl rfl rfl rfl rfl (PV_move rfl) ?_
    refine TA_yes (dd := (some 51)) 8 rfl (by kernel_rfl) (by kernel_rfl) (by kernel_rfl) rfl rfl rfl rfl rfl (PV_indexAddr (i := 2) Try.underlying23 sz5 rfl rfl rfl (by first | omega | decide | assumption)) ?_
    refine TA_yes (dd := (some 52)) 9 rfl (by kernel_rfl) (by kernel_rfl) (by kernel_rfl) rfl rfl rfl rfl rfl (PV_load Try.underlying5 rfl rfl (by first | exact Rd.at 0 rfl rfl | exact Rd.at 1 rfl rfl | exact Rd.at 2 rfl rfl | exact Rd.at 3 rfl rfl | exact Rd.at 4 rfl rfl | exact Rd.at 5 rfl rfl | exact Rd.at 6 rfl rfl | exact Rd.at 7 rfl rfl | exact Rd.at 8 rfl rfl | exact Rd.mono rd0 (by intro w h; first | exact h | exact h.tl | exact h.tl.tl | exact h.tl.tl.tl | exact h.tl.tl.tl.tl | exact h.tl.tl.tl.tl.tl | exact h.tl.tl.tl.tl.tl.tl | exact h.tl.tl.tl.tl.tl.tl.tl | exact h.tl.tl.tl.tl.tl.tl.tl.tl) | exact Rd.mono rd1 (by intro w h; first | exact h | exact h.tl | exact h.tl.tl | exact h.tl.tl.tl | exact h.tl.tl.tl.tl | exact h.tl.tl.tl.tl.tl | exact h.tl.tl.tl.tl.tl.tl | exact h.tl.tl.tl.tl.tl.tl.tl | exact h.tl.tl.tl.tl.tl.tl.tl.tl) | exact Rd.mono rd2 (by intro w h; first | exact h | exact h.tl | exact h.tl.tl | exact h.tl.tl.tl | exact h.tl.tl.tl.tl | exact h.tl.tl.tl.tl.tl | exact h.tl.tl.tl.tl.tl.tl | exact h.tl.tl.tl.tl.tl.tl.tl | exact h.tl.tl.tl.tl.tl.tl.tl.tl))) ?_
    refine TA_yes (dd := (some 53)) 10 rfl (by kernel_rfl) (by kernel_rfl) (by kernel_rfl) rfl rfl rfl rfl rfl (PV_bin rfl rfl bin_xor) ?_
    refine TA_yes (dd := (some 54)) 11 rfl (by kernel_rfl) (by kernel_rfl) (by kernel_rfl) rfl rfl rfl rfl rfl (PV.cast (PV_bin rfl rfl bin_neq) (congrArg Value.bool (show _ = false by rw [hx2.2 h12]; rfl))) ?_
    first | (refine TA_take (dd := (some 55)) 12 rfl (by kernel_rfl) (by kernel_rfl) (by kernel_rfl) rfl rfl rfl (PV_pickAnd rfl rfl rfl) ?_) | (refine TA_take (dd := (some 55)) 12 rfl (by kernel_rfl) (by kernel_rfl) (by kernel_rfl) rfl rfl rfl (PV_pickF rfl (by first | assumption | rfl | (simp; done) | (simp; omega)) rfl rfl) ?_)
    refine TA_take (dd := (some 42)) 13 rfl (by kernel_rfl) (by kernel_rfl) (by kernel_rfl) rfl rfl rfl (PV_assign rfl) ?_
    refine TA_done (by kernel_rfl) ?_
    -- IF t42
    refine T_else rfl (by rfl) ?_
    refine T_seq ?_
    refine T_region ?_
    refine TL_pure (d := (some 59)) rfl rfl rfl (PV_move rfl) ?_
    refine TL_pure (d := (some 60)) rfl rfl rfl (PV_len_slice Try.underlying23 rfl) ?_
    refine TL_pure (d := (some 61)) rfl rfl rfl (PV_move rfl) ?_
    refine TL_pure (d := (some 62)) rfl rfl rfl (PV_indexAddr (i := 0) Try.underlying23 sz5 rfl rfl rfl (by first | omega | decide | assumption)) ?_
    refine TL_pure (d := (some 63)) rfl rfl rfl (PV_load Try.underlying5 rfl rfl (by first | exact Rd.at 0 rfl rfl | exact Rd.at 1 rfl rfl | exact Rd.at 2 rfl rfl | exact Rd.at 3 rfl rfl | exact Rd.at 4 rfl rfl | exact Rd.at 5 rfl rfl | exact Rd.at 6 rfl rfl | exact Rd.at 7 rfl rfl | exact Rd.at 8 rfl rfl | exact Rd.mono rd0 (by intro w h; first | exact h | exact h.tl | exact h.tl.tl | exact h.tl.tl.tl | exact h.tl.tl.tl.tl | exact h.tl.tl.tl.tl.tl | exact h.tl.tl.tl.tl.tl.tl | exact h.tl.tl.tl.tl.tl.tl.tl | exact h.tl.tl.tl.tl.tl.tl.tl.tl) | exact Rd.mono rd1 (by intro w h; first | exact h | exact h.tl | exact h.tl.tl | exact h.tl.tl.tl | exact h.tl.tl.tl.tl | exact h.tl.tl.tl.tl.tl | exact h.tl.tl.tl.tl.tl.tl | exact h.tl.tl.tl.tl.tl.tl.tl | exact h.tl.tl.tl.tl.tl.tl.tl.tl) | exact Rd.mono rd2 (by intro w h; first | exact h | exact h.tl | exact h.tl.tl | exact h.tl.tl.tl | exact h.tl.tl.tl.tl | exact h.tl.tl.tl.tl.tl | exact h.tl.tl.tl.tl.tl.tl | exact h.tl.tl.tl.tl.tl.tl.tl | exact h.tl.tl.tl.tl.tl.tl.tl.tl))) ?_
    refine TL_pure (d := (some 64)) rfl rfl rfl (PV_move rfl) ?_
    -- op 65 call F51(t63, t64)
    refine TL_cons rfl (TO_call0 call51 rfl rfl (t51 (rd l 0) crc) ?_)
    rintro v65 H65 ⟨rfl, rfl⟩
    refine TL_pure (d := (some 66)) rfl rfl rfl (PV_bin rfl rfl bin_lss) ?_
    refine TL_pure (d := (some 58)) rfl rfl rfl (PV_assign rfl) ?_
    refine TL_nil ?_
    -- IF t58
    refine T_else rfl (by exact decide_eq_false (by omega)) ?_
    refine T_skip ?_
    refine T_seq ?_
    refine T_seq ?_
    refine T_region ?_
    refine TL_pure (d := (some 69)) rfl rfl rfl (PV_move rfl) ?_
    refine TL_pure (d := (some 70)) rfl rfl rfl (PV.cast (PV_bin rfl rfl bin_eql) (congrArg Value.bool (show _ = false by rfl))) ?_
    refine TL_nil ?_
    -- IF t70
    refine T_else rfl (by rfl) ?_
    refine T_skip ?_
    refine T_seq ?_
    refine T_region ?_
    refine TL_pure (d := (some 86)) rfl rfl rfl (PV_move rfl) ?_
    refine TL_pure (d := (some 87)) rfl rfl rfl (PV.cast (PV_bin rfl rfl bin_eql) (congrArg Value.bool (show _ = true by rfl))) ?_
    refine TL_pure (d := (some 88)) rfl rfl rfl (PV_move rfl) ?_
    -- guard 89 fieldAddr 58 t5 1
    refine TL_yes rfl rfl rfl (TO_pure rfl (PV_fieldAddr (D := 1) Try.underlying58 rfl sz23 (by decide) rfl rfl) ?_)
    refine TL_yes rfl rfl rfl (TO_pure rfl (PV_load Try.underlying23 rfl rfl (by first | exact Rd.at 0 rfl rfl | exact Rd.at 1 rfl rfl | exact Rd.at 2 rfl rfl | exact Rd.at 3 rfl rfl | exact Rd.at 4 rfl rfl | exact Rd.at 5 rfl rfl | exact Rd.at 6 rfl rfl | exact Rd.at 7 rfl rfl | exact Rd.at 8 rfl rfl | exact Rd.mono rd0 (by intro w h; first | exact h | exact h.tl | exact h.tl.tl | exact h.tl.tl.tl | exact h.tl.tl.tl.tl | exact h.tl.tl.tl.tl.tl | exact h.tl.tl.tl.tl.tl.tl | exact h.tl.tl.tl.tl.tl.tl.tl | exact h.tl.tl.tl.tl.tl.tl.tl.tl) | exact Rd.mono rd1 (by intro w h; first | exact h | exact h.tl | exact h.tl.tl | exact h.tl.tl.tl | exact h.tl.tl.tl.tl | exact h.tl.tl.tl.tl.tl | exact h.tl.tl.tl.tl.tl.tl | exact h.tl.tl.tl.tl.tl.tl.tl | exact h.tl.tl.tl.tl.tl.tl.tl.tl) | exact Rd.mono rd2 (by intro w h; first | exact h | exact h.tl | exact h.tl.tl | exact h.tl.tl.tl | exact h.tl.tl.tl.tl | exact h.tl.tl.tl.tl.tl | exact h.tl.tl.tl.tl.tl.tl | exact h.tl.tl.tl.tl.tl.tl.tl | exact h.tl.tl.tl.tl.tl.tl.tl.tl))) ?_)
    refine TL_yes rfl rfl rfl (TO_pure rfl (PV_len_slice Try.underlying23 rfl) ?_)
    refine TL_yes rfl rfl rfl (TO_pure rfl (PV.cast (PV_bin rfl rfl bin_eql) (congrArg Value.bool (show _ = true by rfl))) ?_)
    first | (refine TL_pure (d := (some 93)) rfl rfl rfl (PV_pickAnd rfl rfl rfl) ?_) | (refine TL_pure (d := (some 93)) rfl rfl rfl (PV_pickF rfl (by first | assumption | rfl | (simp; done) | (simp; omega)) rfl rfl) ?_)
    refine TL_pure (d := (some 4)) rfl rfl rfl (PV_assign rfl) ?_
    refine TL_nil ?_
    refine T_ret ?_
    -- ('ret',)
    refine ⟨_, ?hh8, ?sb8, ResV_one rfl rfl, rfl⟩
    case sb8 => repeat (first | exact List.Sublist.refl _ | apply List.Sublist.cons_cons | apply List.Sublist.cons)
  · by_cases hx : 2 < l.length ∧ rd l 1 ≠ 255 - rd l 2
    · have e : scanS l crc = 1 := by unfold scanS; rw [if_neg h0, if_neg hz, if_pos hx]
      rw [e]
      have := hx.1
      refine TL_pure (d := (some 9)) rfl rfl rfl (PV_move rfl) ?_
      refine TL_pure (d := (some 13)) rfl rfl rfl (PV_extract rfl rfl) ?_
      refine TL_pure (d := (some 14)) rfl rfl rfl (PV_extract rfl rfl) ?_
      refine TL_cons rfl (TO_alloc rfl zr58 fun g5 => ?_)
      first | (refine TL_cons rfl (TO_store 0 rfl rfl rfl sz58 rfl rfl rfl (by simp [Value.cells, Value.oneCell']) (by first | exact Nat.le_of_ble_eq_true rfl | (simp; done) | (simp; omega) | omega) ?_)) | (refine TL_cons rfl (TO_store 1 rfl rfl rfl sz58 rfl rfl rfl (by simp [Value.cells, Value.oneCell']) (by first | exact Nat.le_of_ble_eq_true rfl | (simp; done) | (simp; omega) | omega) ?_)) | (refine TL_cons rfl (TO_store 2 rfl rfl rfl sz58 rfl rfl rfl (by simp [Value.cells, Value.oneCell']) (by first | exact Nat.le_of_ble_eq_true rfl | (simp; done) | (simp; omega) | omega) ?_)) | (refine TL_cons rfl (TO_store 3 rfl rfl rfl sz58 rfl rfl rfl (by simp [Value.cells, Value.oneCell']) (by first | exact Nat.le_of_ble_eq_true rfl | (simp; done) | (simp; omega) | omega) ?_)) | (refine TL_cons rfl (TO_store 4 rfl rfl rfl sz58 rfl rfl rfl (by simp [Value.cells, Value.oneCell']) (by first | exact Nat.le_of_ble_eq_true rfl | (simp; done) | (simp; omega) | omega) ?_)) | (refine TL_cons rfl (TO_store 5 rfl rfl rfl sz58 rfl rfl rfl (by simp [Value.cells, Value.oneCell']) (by first | exact Nat.le_of_ble_eq_true rfl | (simp; done) | (simp; omega) | omega) ?_)) | (refine TL_cons rfl (TO_store 6 rfl rfl rfl sz58 rfl rfl rfl (by simp [Value.cells, Value.oneCell']) (by first | exact Nat.le_of_ble_eq_true rfl | (simp; done) | (simp; omega) | omega) ?_)) | (refine TL_cons rfl (TO_store 7 rfl rfl rfl sz58 rfl rfl rfl (by simp [Value.cells, Value.oneCell']) (by first | exact Nat.le_of_ble_eq_true rfl | (simp; done) | (simp; omega) | omega) ?_)) | (refine TL_cons rfl (TO_store 8 rfl rfl rfl sz58 rfl rfl rfl (by simp [Value.cells, Value.oneCell']) (by first | exact Nat.le_of_ble_eq_true rfl | (simp; done) | (simp; omega) | omega) ?_))
      refine TL_pure (d := (some 6)) rfl rfl rfl (PV_assign rfl) ?_
      refine TL_nil ?_
      refine T_seq ?_
      refine T_block ?_
      refine T_seq ?_
      refine T_region ?_
      refine TL_pure (d := (some 16)) rfl rfl rfl (PV_move rfl) ?_
      refine TL_pure (d := (some 17)) rfl rfl rfl (PV_len_slice Try.underlying23 rfl) ?_
      refine TL_pure (d := (some 18)) rfl rfl rfl (PV_bin rfl rfl bin_eql) ?_
      refine TL_pure (d := (some 15)) rfl rfl rfl (PV_assign rfl) ?_
      refine TL_nil ?_
      -- IF t15
      refine T_else rfl (by simpa using h0) ?_
      refine T_shows (hS _) (by simp [nums]; omega) fun ga oa hA hrd => ?_
      subst hA
      have rd0 := hrd 0 (.int .u8 (rd l 0)) (nums_at _ (by omega))
      have rd1 := hrd 1 (.int .u8 (rd l 1)) (nums_at _ (by omega))
      have rd2 := hrd 2 (.int .u8 (rd l 2)) (nums_at _ (by omega))
      refine T_seq ?_
      refine T_region ?_
      refine TL_pure (d := (some 22)) rfl rfl rfl (PV_move rfl) ?_
      refine TL_pure (d := (some 23)) rfl rfl rfl (PV_indexAddr (i := 0) Try.underlying23 sz5 rfl rfl rfl (by first | omega | decide | assumption)) ?_
      refine TL_pure (d := (some 24)) rfl rfl rfl (PV_load Try.underlying5 rfl rfl (by first | exact Rd.at 0 rfl rfl | exact Rd.at 1 rfl rfl | exact Rd.at 2 rfl rfl | exact Rd.at 3 rfl rfl | exact Rd.at 4 rfl rfl | exact Rd.at 5 rfl rfl | exact Rd.at 6 rfl rfl | exact Rd.at 7 rfl rfl | exact Rd.at 8 rfl rfl | exact Rd.mono rd0 (by intro w h; first | exact h | exact h.tl | exact h.tl.tl | exact h.tl.tl.tl | exact h.tl.tl.tl.tl | exact h.tl.tl.tl.tl.tl | exact h.tl.tl.tl.tl.tl.tl | exact h.tl.tl.tl.tl.tl.tl.tl | exact h.tl.tl.tl.tl.tl.tl.tl.tl) | exact Rd.mono rd1 (by intro w h; first | exact h | exact h.tl | exact h.tl.tl | exact h.tl.tl.tl | exact h.tl.tl.tl.tl | exact h.tl.tl.tl.tl.tl | exact h.tl.tl.tl.tl.tl.tl | exact h.tl.tl.tl.tl.tl.tl.tl | exact h.tl.tl.tl.tl.tl.tl.tl.tl) | exact Rd.mono rd2 (by intro w h; first | exact h | exact h.tl | exact h.tl.tl | exact h.tl.tl.tl | exact h.tl.tl.tl.tl | exact h.tl.tl.tl.tl.tl | exact h.tl.tl.tl.tl.tl.tl | exact h.tl.tl.tl.tl.tl.tl.tl | exact h.tl.tl.tl.tl.tl.tl.tl.tl))) ?_
      refine TL_pure (d := (some 25)) rfl rfl rfl (PV.cast (PV_bin rfl rfl bin_neq) (congrArg Value.bool (show _ = true by rw [e0]; rfl))) ?_
      refine TL_pure (d := (some 26)) rfl rfl rfl (PV_move rfl) ?_
      -- guard 27 move t0
      refine TL_yes rfl rfl rfl (TO_pure rfl (PV_move rfl) ?_)
      refine TL_yes rfl rfl rfl (TO_pure rfl (PV_indexAddr (i := 0) Try.underlying23 sz5 rfl rfl rfl (by first | omega | decide | assumption)) ?_)
      refine TL_yes rfl rfl rfl (TO_pure rfl (PV_load Try.underlying5 rfl rfl (by first | exact Rd.at 0 rfl rfl | exact Rd.at 1 rfl rfl | exact Rd.at 2 rfl rfl | exact Rd.at 3 rfl rfl | exact Rd.at 4 rfl rfl | exact Rd.at 5 rfl rfl | exact Rd.at 6 rfl rfl | exact Rd.at 7 rfl rfl | exact Rd.at 8 rfl rfl | exact Rd.mono rd0 (by intro w h; first | exact h | exact h.tl | exact h.tl.tl | exact h.tl.tl.tl | exact h.tl.tl.tl.tl | exact h.tl.tl.tl.tl.tl | exact h.tl.tl.tl.tl.tl.tl | exact h.tl.tl.tl.tl.tl.tl.tl | exact h.tl.tl.tl.tl.tl.tl.tl.tl) | exact Rd.mono rd1 (by intro w h; first | exact h | exact h.tl | exact h.tl.tl | exact h.tl.tl.tl | exact h.tl.tl.tl.tl | exact h.tl.tl.tl.tl.tl | exact h.tl.tl.tl.tl.tl.tl | exact h.tl.tl.tl.tl.tl.tl.tl | exact h.tl.tl.tl.tl.tl.tl.tl.tl) | exact Rd.mono rd2 (by intro w h; first | exact h | exact h.tl | exact h.tl.tl | exact h.tl.tl.tl | exact h.tl.tl.tl.tl | exact h.tl.tl.tl.tl.tl | exact h.tl.tl.tl.tl.tl.tl | exact h.tl.tl.tl.tl.tl.tl.tl | exact h.tl.tl.tl.tl.tl.tl.tl.tl))) ?_)
      refine TL_yes rfl rfl rfl (TO_pure rfl (PV.cast (PV_bin rfl rfl bin_neq) (congrArg Value.bool (show _ = false by rw [e0]; rfl))) ?_)
      first | (refine TL_pure (d := (some 31)) rfl rfl rfl (PV_pickAnd rfl rfl rfl) ?_) | (refine TL_pure (d := (some 31)) rfl rfl rfl (PV_pickF rfl (by first | assumption | rfl | (simp; done) | (simp; omega)) rfl rfl) ?_)
      refine TL_pure (d := (some 21)) rfl rfl rfl (PV_assign rfl) ?_
      refine TL_nil ?_
      -- IF t21
      refine T_else rfl (by rfl) ?_
      refine T_seq ?_
      refine T_drawn (WH _ _ _) mixed (by intro w h; exact h) ?_
      refine TA_take (dd := (some 43)) 0 rfl (by kernel_rfl) (by kernel_rfl) (by kernel_rfl) rfl rfl rfl (PV_move rfl) ?_
      refine TA_take (dd := (some 44)) 1 rfl (by kernel_rfl) (by kernel_rfl) (by kernel_rfl) rfl rfl rfl (PV_len_slice Try.underlying23 rfl) ?_
      refine TA_take (dd := (some 45)) 2 rfl (by kernel_rfl) (by kernel_rfl) (by kernel_rfl) rfl rfl rfl (PV.cast (PV_bin rfl rfl bin_gtr) (congrArg Value.bool (show _ = true by exact decide_eq_true (by omega)))) ?_
      refine TA_take (dd := (some 46)) 3 rfl (by kernel_rfl) (by kernel_rfl) (by kernel_rfl) rfl rfl rfl (PV_move rfl) ?_
      -- dguard 4 47 move t0
      refine TA_yes (dd := (some 47)) 4 rfl (by kernel_rfl) (by kernel_rfl) (by kernel_rfl) rfl rfl rfl rfl rfl (PV_move rfl) ?_
      refine TA_yes (dd := (some 48)) 5 rfl (by kernel_rfl) (by kernel_rfl) (by kernel_rfl) rfl rfl rfl rfl rfl (PV_indexAddr (i := 1) Try.underlying23 sz5 rfl rfl rfl (by first | omega | decide | assumption)) ?_
      refine TA_yes (dd := (some 49)) 6 rfl (by kernel_rfl) (by kernel_rfl) (by kernel_rfl) rfl rfl rfl rfl rfl (PV_load Try.underlying5 rfl rfl (by first | exact Rd.at 0 rfl rfl | exact Rd.at 1 rfl rfl | exact Rd.at 2 rfl rfl | exact Rd.at 3 rfl rfl | exact Rd.at 4 rfl rfl | exact Rd.at 5 rfl rfl | exact Rd.at 6 rfl rfl | exact Rd.at 7 rfl rfl | exact Rd.at 8 rfl rfl | exact Rd.mono rd0 (by intro w h; first | exact h | exact h.tl | exact h.tl.tl | exact h.tl.tl.tl | exact h.tl.tl.tl.tl | exact h.tl.tl.tl.tl.tl | exact h.tl.tl.tl.tl.tl.tl | exact h.tl.tl.tl.tl.tl.tl.tl | exact h.tl.tl.tl.tl.tl.tl.tl.tl) | exact Rd.mono rd1 (by intro w h; first | exact h | exact h.tl | exact h.tl.tl | exact h.tl.tl.tl | exact h.tl.tl.tl.tl | exact h.tl.tl.tl.tl.tl | exact h.tl.tl.tl.tl.tl.tl | exact h.tl.tl.tl.tl.tl.tl.tl | exact h.tl.tl.tl.tl.tl.tl.tl.tl) | exact Rd.mono rd2 (by intro w h; first | exact h | exact h.tl | exact h.tl.tl | exact h.tl.tl.tl | exact h.tl.tl.tl.tl | exact h.tl.tl.tl.tl.tl | exact h.tl.tl.tl.tl.tl.tl | exact h.tl.tl.tl.tl.tl.tl.tl | exact h.tl.tl.tl.tl.tl.tl.tl.tl))) ?_
      refine TA_yes (dd := (some 50)) 7 rfl (by kernel_rfl) (by kernel_rfl) (by kernel_rfl) rfl rfl rfl rfl rfl (PV_move rfl) ?_
      refine TA_yes (dd := (some 51)) 8 rfl (by kernel_rfl) (by kernel_rfl) (by kernel_rfl) rfl rfl rfl rfl rfl (PV_indexAddr (i := 2) Try.underlying23 sz5 rfl rfl rfl (by first | omega | decide | assumption)) ?_
      refine TA_yes (dd := (some 52)) 9 rfl (by kernel_rfl) (by kernel_rfl) (by kernel_rfl) rfl rfl rfl rfl rfl (PV_load Try.underlying5 rfl rfl (by first | exact Rd.at 0 rfl rfl | exact Rd.at 1 rfl rfl | exact Rd.at 2 rfl rfl | exact Rd.at 3 rfl rfl | exact Rd.at 4 rfl rfl | exact Rd.at 5 rfl rfl | exact Rd.at 6 rfl rfl | exact Rd.at 7 rfl rfl | exact Rd.at 8 rfl rfl | exact Rd.mono rd0 (by intro w h; first | exact h | exact h.tl | exact h.tl.tl | exact h.tl.tl.tl | exact h.tl.tl.tl.tl | exact h.tl.tl.tl.tl.tl | exact h.tl.tl.tl.tl.tl.tl | exact h.tl.tl.tl.tl.tl.tl.tl | exact h.tl.tl.tl.tl.tl.tl.tl.tl) | exact Rd.mono rd1 (by intro w h; first | exact h | exact h.tl | exact h.tl.tl | exact h.tl.tl.tl | exact h.tl.tl.tl.tl | exact h.tl.tl.tl.tl.tl | exact h.tl.tl.tl.tl.tl.tl | exact h.tl.tl.tl.tl.tl.tl.tl | exact h.tl.tl.tl.tl.tl.tl.tl.tl) | exact Rd.mono rd2 (by intro w h; first | exact h | exact h.tl | exact h.tl.tl | exact h.tl.tl.tl | exact h.tl.tl.tl.tl | exact h.tl.tl.tl.tl.tl | exact h.tl.tl.tl.tl.tl.tl | exact h.tl.tl.tl.tl.tl.tl.tl | exact h.tl.tl.tl.tl.tl.tl.tl.tl))) ?_
      refine TA_yes (dd := (some 53)) 10 rfl (by kernel_rfl) (by kernel_rfl) (by kernel_rfl) rfl rfl rfl rfl rfl (PV_bin rfl rfl bin_xor) ?_
      refine TA_yes (dd := (some 54)) 11 rfl (by kernel_rfl) (by kernel_rfl) (by kernel_rfl) rfl rfl rfl rfl rfl (PV.cast (PV_bin rfl rfl bin_neq) (congrArg Value.bool (show _ = true by exact bne_iff_ne.2 fun e => hx.2 (hx2.1 e)))) ?_
      first | (refine TA_take (dd := (some 55)) 12 rfl (by kernel_rfl) (by kernel_rfl) (by kernel_rfl) rfl rfl rfl (PV_pickAnd rfl rfl rfl) ?_) | (refine TA_take (dd := (some 55)) 12 rfl (by kernel_rfl) (by kernel_rfl) (by kernel_rfl) rfl rfl rfl (PV_pickF rfl (by first | assumption | rfl | (simp; done) | (simp; omega)) rfl rfl) ?_)
      refine TA_take (dd := (some 42)) 13 rfl (by kernel_rfl) (by kernel_rfl) (by kernel_rfl) rfl rfl rfl (PV_assign rfl) ?_
      refine TA_done (by kernel_rfl) ?_
      -- IF t42
      refine T_then rfl (by rfl) ?_
      refine T_seq ?_
      refine T_region ?_
      refine TL_pure (d := (some 56)) rfl rfl rfl (PV_move rfl) ?_
      refine TL_pure (d := (some 57)) rfl rfl rfl (PV.cast (PV_bin rfl rfl bin_eql) (congrArg Value.bool (show _ = true by rfl))) ?_
      refine TL_pure (d := (some 4)) rfl rfl rfl (PV_assign rfl) ?_
      refine TL_nil ?_
      refine T_ret ?_
      -- ('ret',)
      refine ⟨_, ?hh9, ?sb9, ResV_one rfl rfl, rfl⟩
      case sb9 => repeat (first | exact List.Sublist.refl _ | apply List.Sublist.cons_cons | apply List.Sublist.cons)
    by_cases hl2 : l.length < sizeL (rd l 0) crc
    · have e : scanS l crc = 0 := by unfold scanS; rw [if_neg h0, if_neg hz, if_neg hx, if_pos hl2]
      rw [e]
      by_cases h3 : 2 < l.length
      · have h12 : rd l 1 = 255 - rd l 2 := by
          by_cases e : rd l 1 = 255 - rd l 2
          · exact e
          · exact absurd ⟨h3, e⟩ hx
        refine TL_pure (d := (some 9)) rfl rfl rfl (PV_move rfl) ?_
        refine TL_pure (d := (some 13)) rfl rfl rfl (PV_extract rfl rfl) ?_
        refine TL_pure (d := (some 14)) rfl rfl rfl (PV_extract rfl rfl) ?_
        refine TL_cons rfl (TO_alloc rfl zr58 fun g5 => ?_)
        first | (refine TL_cons rfl (TO_store 0 rfl rfl rfl sz58 rfl rfl rfl (by simp [Value.cells, Value.oneCell']) (by first | exact Nat.le_of_ble_eq_true rfl | (simp; done) | (simp; omega) | omega) ?_)) | (refine TL_cons rfl (TO_store 1 rfl rfl rfl sz58 rfl rfl rfl (by simp [Value.cells, Value.oneCell']) (by first | exact Nat.le_of_ble_eq_true rfl | (simp; done) | (simp; omega) | omega) ?_)) | (refine TL_cons rfl (TO_store 2 rfl rfl rfl sz58 rfl rfl rfl (by simp [Value.cells, Value.oneCell']) (by first | exact Nat.le_of_ble_eq_true rfl | (simp; done) | (simp; omega) | omega) ?_)) | (refine TL_cons rfl (TO_store 3 rfl rfl rfl sz58 rfl rfl rfl (by simp [Value.cells, Value.oneCell']) (by first | exact Nat.le_of_ble_eq_true rfl | (simp; done) | (simp; omega) | omega) ?_)) | (refine TL_cons rfl (TO_store 4 rfl rfl rfl sz58 rfl rfl rfl (by simp [Value.cells, Value.oneCell']) (by first | exact Nat.le_of_ble_eq_true rfl | (simp; done) | (simp; omega) | omega) ?_)) | (refine TL_cons rfl (TO_store 5 rfl rfl rfl sz58 rfl rfl rfl (by simp [Value.cells, Value.oneCell']) (by first | exact Nat.le_of_ble_eq_true rfl | (simp; done) | (simp; omega) | omega) ?_)) | (refine TL_cons rfl (TO_store 6 rfl rfl rfl sz58 rfl rfl rfl (by simp [Value.cells, Value.oneCell']) (by first | exact Nat.le_of_ble_eq_true rfl | (simp; done) | (simp; omega) | omega) ?_)) | (refine TL_cons rfl (TO_store 7 rfl rfl rfl sz58 rfl rfl rfl (by simp [Value.cells, Value.oneCell']) (by first | exact Nat.le_of_ble_eq_true rfl | (simp; done) | (simp; omega) | omega) ?_)) | (refine TL_cons rfl (TO_store 8 rfl rfl rfl sz58 rfl rfl rfl (by simp [Value.cells, Value.oneCell']) (by first | exact Nat.le_of_ble_eq_true rfl | (simp; done) | (simp; omega) | omega) ?_))
        refine TL_pure (d := (some 6)) rfl rfl rfl (PV_assign rfl) ?_
        refine TL_nil ?_
        refine T_seq ?_
        refine T_block ?_
        refine T_seq ?_
        refine T_region ?_
        refine TL_pure (d := (some 16)) rfl rfl rfl (PV_move rfl) ?_
        refine TL_pure (d := (some 17)) rfl rfl rfl (PV_len_slice Try.underlying23 rfl) ?_
        refine TL_pure (d := (some 18)) rfl rfl rfl (PV_bin rfl rfl bin_eql) ?_
        refine TL_pure (d := (some 15)) rfl rfl rfl (PV_assign rfl) ?_
        refine TL_nil ?_
        -- IF t15
        refine T_else rfl (by simpa using h0) ?_
        refine T_shows (hS _) (by simp [nums]; omega) fun ga oa hA hrd => ?_
        subst hA
        have rd0 := hrd 0 (.int .u8 (rd l 0)) (nums_at _ (by omega))
        have rd1 := hrd 1 (.int .u8 (rd l 1)) (nums_at _ (by omega))
        have rd2 := hrd 2 (.int .u8 (rd l 2)) (nums_at _ (by omega))
        refine T_seq ?_
        refine T_region ?_
        refine TL_pure (d := (some 22)) rfl rfl rfl (PV_move rfl) ?_
        refine TL_pure (d := (some 23)) rfl rfl rfl (PV_indexAddr (i := 0) Try.underlying23 sz5 rfl rfl rfl (by first | omega | decide | assumption)) ?_
        refine TL_pure (d := (some 24)) rfl rfl rfl (PV_load Try.underlying5 rfl rfl (by first | exact Rd.at 0 rfl rfl | exact Rd.at 1 rfl rfl | exact Rd.at 2 rfl rfl | exact Rd.at 3 rfl rfl | exact Rd.at 4 rfl rfl | exact Rd.at 5 rfl rfl | exact Rd.at 6 rfl rfl | exact Rd.at 7 rfl rfl | exact Rd.at 8 rfl rfl | exact Rd.mono rd0 (by intro w h; first | exact h | exact h.tl | exact h.tl.tl | exact h.tl.tl.tl | exact h.tl.tl.tl.tl | exact h.tl.tl.tl.tl.tl | exact h.tl.tl.tl.tl.tl.tl | exact h.tl.tl.tl.tl.tl.tl.tl | exact h.tl.tl.tl.tl.tl.tl.tl.tl) | exact Rd.mono rd1 (by intro w h; first | exact h | exact h.tl | exact h.tl.tl | exact h.tl.tl.tl | exact h.tl.tl.tl.tl | exact h.tl.tl.tl.tl.tl | exact h.tl.tl.tl.tl.tl.tl | exact h.tl.tl.tl.tl.tl.tl.tl | exact h.tl.tl.tl.tl.tl.tl.tl.tl) | exact Rd.mono rd2 (by intro w h; first | exact h | exact h.tl | exact h.tl.tl | exact h.tl.tl.tl | exact h.tl.tl.tl.tl | exact h.tl.tl.tl.tl.tl | exact h.tl.tl.tl.tl.tl.tl | exact h.tl.tl.tl.tl.tl.tl.tl | exact h.tl.tl.tl.tl.tl.tl.tl.tl))) ?_
        refine TL_pure (d := (some 25)) rfl rfl rfl (PV.cast (PV_bin rfl rfl bin_neq) (congrArg Value.bool (show _ = true by rw [e0]; rfl))) ?_
        refine TL_pure (d := (some 26)) rfl rfl rfl (PV_move rfl) ?_
        -- guard 27 move t0
        refine TL_yes rfl rfl rfl (TO_pure rfl (PV_move rfl) ?_)
        refine TL_yes rfl rfl rfl (TO_pure rfl (PV_indexAddr (i := 0) Try.underlying23 sz5 rfl rfl rfl (by first | omega | decide | assumption)) ?_)
        refine TL_yes rfl rfl rfl (TO_pure rfl (PV_load Try.underlying5 rfl rfl (by first | exact Rd.at 0 rfl rfl | exact Rd.at 1 rfl rfl | exact Rd.at 2 rfl rfl | exact Rd.at 3 rfl rfl | exact Rd.at 4 rfl rfl | exact Rd.at 5 rfl rfl | exact Rd.at 6 rfl rfl | exact Rd.at 7 rfl rfl | exact Rd.at 8 rfl rfl | exact Rd.mono rd0 (by intro w h; first | exact h | exact h.tl | exact h.tl.tl | exact h.tl.tl.tl | exact h.tl.tl.tl.tl | exact h.tl.tl.tl.tl.tl | exact h.tl.tl.tl.tl.tl.tl | exact h.tl.tl.tl.tl.tl.tl.tl | exact h.tl.tl.tl.tl.tl.tl.tl.tl) | exact Rd.mono rd1 (by intro w h; first | exact h | exact h.tl | exact h.tl.tl | exact h.tl.tl.tl | exact h.tl.tl.tl.tl | exact h.tl.tl.tl.tl.tl | exact h.tl.tl.tl.tl.tl.tl | exact h.tl.tl.tl.tl.tl.tl.tl | exact h.tl.tl.tl.tl.tl.tl.tl.tl) | exact Rd.mono rd2 (by intro w h; first | exact h | exact h.tl | exact h.tl.tl | exact h.tl.tl.tl | exact h.tl.tl.tl.tl | exact h.tl.tl.tl.tl.tl | exact h.tl.tl.tl.tl.tl.tl | exact h.tl.tl.tl.tl.tl.tl.tl | exact h.tl.tl.tl.tl.tl.tl.tl.tl))) ?_)
        refine TL_yes rfl rfl rfl (TO_pure rfl (PV.cast (PV_bin rfl rfl bin_neq) (congrArg Value.bool (show _ = false by rw [e0]; rfl))) ?_)
        first | (refine TL_pure (d := (some 31)) rfl rfl rfl (PV_pickAnd rfl rfl rfl) ?_) | (refine TL_pure (d := (some 31)) rfl rfl rfl (PV_pickF rfl (by first | assumption | rfl | (simp; done) | (simp; omega)) rfl rfl) ?_)
        refine TL_pure (d := (some 21)) rfl rfl rfl (PV_assign rfl) ?_
        refine TL_nil ?_
        -- IF t21
        refine T_else rfl (by rfl) ?_
        refine T_seq ?_
        refine T_drawn (WH _ _ _) mixed (by intro w h; exact h) ?_
        refine TA_take (dd := (some 43)) 0 rfl (by kernel_rfl) (by kernel_rfl) (by kernel_rfl) rfl rfl rfl (PV_move rfl) ?_
        refine TA_take (dd := (some 44)) 1 rfl (by kernel_rfl) (by kernel_rfl) (by kernel_rfl) rfl rfl rfl (PV_len_slice Try.underlying23 rfl) ?_
        refine TA_take (dd := (some 45)) 2 rfl (by kernel_rfl) (by kernel_rfl) (by kernel_rfl) rfl rfl rfl (PV.cast (PV_bin rfl rfl bin_gtr) (congrArg Value.bool (show _ = true by exact decide_eq_true (by omega)))) ?_
        refine TA_take (dd := (some 46)) 3 rfl (by kernel_rfl) (by kernel_rfl) (by kernel_rfl) rfl rfl rfl (PV_move rfl) ?_
        -- dguard 4 47 move t0
        refine TA_yes (dd := (some 47)) 4 rfl (by kernel_rfl) (by kernel_rfl) (by kernel_rfl) rfl rfl rfl rfl rfl (PV_move rfl) ?_
        refine TA_yes (dd := (some 48)) 5 rfl (by kernel_rfl) (by kernel_rfl) (by kernel_rfl) rfl rfl rfl rfl rfl (PV_indexAddr (i := 1) Try.underlying23 sz5 rfl rfl rfl (by first | omega | decide | assumption)) ?_
        refine TA_yes (dd := (some 49)) 6 rfl (by kernel_rfl) (by kernel_rfl) (by kernel_rfl) rfl rfl rfl rfl rfl (PV_load Try.underlying5 rfl rfl (by first | exact Rd.at 0 rfl rfl | exact Rd.at 1 rfl rfl | exact Rd.at 2 rfl rfl | exact Rd.at 3 rfl rfl | exact Rd.at 4 rfl rfl | exact Rd.at 5 rfl rfl | exact Rd.at 6 rfl rfl | exact Rd.at 7 rfl rfl | exact Rd.at 8 rfl rfl | exact Rd.mono rd0 (by intro w h; first | exact h | exact h.tl | exact h.tl.tl | exact h.tl.tl.tl | exact h.tl.tl.tl.tl | exact h.tl.tl.tl.tl.tl | exact h.tl.tl.tl.tl.tl.tl | exact h.tl.tl.tl.tl.tl.tl.tl | exact h.tl.tl.tl.tl.tl.tl.tl.tl) | exact Rd.mono rd1 (by intro w h; first | exact h | exact h.tl | exact h.tl.tl | exact h.tl.tl.tl | exact h.tl.tl.tl.tl | exact h.tl.tl.tl.tl.tl | exact h.tl.tl.tl.tl.tl.tl | exact h.tl.tl.tl.tl.tl.tl.tl | exact h.tl.tl.tl.tl.tl.tl.tl.tl) | exact Rd.mono rd2 (by intro w h; first | exact h | exact h.tl | exact h.tl.tl | exact h.tl.tl.tl | exact h.tl.tl.tl.tl | exact h.tl.tl.tl.tl.tl | exact h.tl.tl.tl.tl.tl.tl | exact h.tl.tl.tl.tl.tl.tl.tl | exact h.tl.tl.tl.tl.tl.tl.tl.tl))) ?_
        refine TA_yes (dd := (some 50)) 7 rfl (by kernel_rfl) (by kernel_rfl) (by kernel_rfl) rfl rfl rfl rfl rfl (PV_move rfl) ?_
        refine TA_yes (dd := (some 51)) 8 rfl (by kernel_rfl) (by kernel_rfl) (by kernel_rfl) rfl rfl rfl rfl rfl (PV_indexAddr (i := 2) Try.underlying23 sz5 rfl rfl rfl (by first | omega | decide | assumption)) ?_
        refine TA_yes (dd := (some 52)) 9 rfl (by kernel_rfl) (by kernel_rfl) (by kernel_rfl) rfl rfl rfl rfl rfl (PV_load Try.underlying5 rfl rfl (by first | exact Rd.at 0 rfl rfl | exact Rd.at 1 rfl rfl | exact Rd.at 2 rfl rfl | exact Rd.at 3 rfl rfl | exact Rd.at 4 rfl rfl | exact Rd.at 5 rfl rfl | exact Rd.at 6 rfl rfl | exact Rd.at 7 rfl rfl | exact Rd.at 8 rfl rfl | exact Rd.mono rd0 (by intro w h; first | exact h | exact h.tl | exact h.tl.tl | exact h.tl.tl.tl | exact h.tl.tl.tl.tl | exact h.tl.tl.tl.tl.tl | exact h.tl.tl.tl.tl.tl.tl | exact h.tl.tl.tl.tl.tl.tl.tl | exact h.tl.tl.tl.tl.tl.tl.tl.tl) | exact Rd.mono rd1 (by intro w h; first | exact h | exact h.tl | exact h.tl.tl | exact h.tl.tl.tl | exact h.tl.tl.tl.tl | exact h.tl.tl.tl.tl.tl | exact h.tl.tl.tl.tl.tl.tl | exact h.tl.tl.tl.tl.tl.tl.tl | exact h.tl.tl.tl.tl.tl.tl.tl.tl) | exact Rd.mono rd2 (by intro w h; first | exact h | exact h.tl | exact h.tl.tl | exact h.tl.tl.tl | exact h.tl.tl.tl.tl | exact h.tl.tl.tl.tl.tl | exact h.tl.tl.tl.tl.tl.tl | exact h.tl.tl.tl.tl.tl.tl.tl | exact h.tl.tl.tl.tl.tl.tl.tl.tl))) ?_
        refine TA_yes (dd := (some 53)) 10 rfl (by kernel_rfl) (by kernel_rfl) (by kernel_rfl) rfl rfl rfl rfl rfl (PV_bin rfl rfl bin_xor) ?_
        refine TA_yes (dd := (some 54)) 11 rfl (by kernel_rfl) (by kernel_rfl) (by kernel_rfl) rfl rfl rfl rfl rfl (PV.cast (PV_bin rfl rfl bin_neq) (congrArg Value.bool (show _ = false by rw [hx2.2 h12]; rfl))) ?_
        first | (refine TA_take (dd := (some 55)) 12 rfl (by kernel_rfl) (by kernel_rfl) (by kernel_rfl) rfl rfl rfl (PV_pickAnd rfl rfl rfl) ?_) | (refine TA_take (dd := (some 55)) 12 rfl (by kernel_rfl) (by kernel_rfl) (by kernel_rfl) rfl rfl rfl (PV_pickF rfl (by first | assumption | rfl | (simp; done) | (simp; omega)) rfl rfl) ?_)
        refine TA_take (dd := (some 42)) 13 rfl (by kernel_rfl) (by kernel_rfl) (by kernel_rfl) rfl rfl rfl (PV_assign rfl) ?_
        refine TA_done (by kernel_rfl) ?_
        -- IF t42
        refine T_else rfl (by rfl) ?_
        refine T_seq ?_
        refine T_region ?_
        refine TL_pure (d := (some 59)) rfl rfl rfl (PV_move rfl) ?_
        refine TL_pure (d := (some 60)) rfl rfl rfl (PV_len_slice Try.underlying23 rfl) ?_
        refine TL_pure (d := (some 61)) rfl rfl rfl (PV_move rfl) ?_
        refine TL_pure (d := (some 62)) rfl rfl rfl (PV_indexAddr (i := 0) Try.underlying23 sz5 rfl rfl rfl (by first | omega | decide | assumption)) ?_
        refine TL_pure (d := (some 63)) rfl rfl rfl (PV_load Try.underlying5 rfl rfl (by first | exact Rd.at 0 rfl rfl | exact Rd.at 1 rfl rfl | exact Rd.at 2 rfl rfl | exact Rd.at 3 rfl rfl | exact Rd.at 4 rfl rfl | exact Rd.at 5 rfl rfl | exact Rd.at 6 rfl rfl | exact Rd.at 7 rfl rfl | exact Rd.at 8 rfl rfl | exact Rd.mono rd0 (by intro w h; first | exact h | exact h.tl | exact h.tl.tl | exact h.tl.tl.tl | exact h.tl.tl.tl.tl | exact h.tl.tl.tl.tl.tl | exact h.tl.tl.tl.tl.tl.tl | exact h.tl.tl.tl.tl.tl.tl.tl | exact h.tl.tl.tl.tl.tl.tl.tl.tl) | exact Rd.mono rd1 (by intro w h; first | exact h | exact h.tl | exact h.tl.tl | exact h.tl.tl.tl | exact h.tl.tl.tl.tl | exact h.tl.tl.tl.tl.tl | exact h.tl.tl.tl.tl.tl.tl | exact h.tl.tl.tl.tl.tl.tl.tl | exact h.tl.tl.tl.tl.tl.tl.tl.tl) | exact Rd.mono rd2 (by intro w h; first | exact h | exact h.tl | exact h.tl.tl | exact h.tl.tl.tl | exact h.tl.tl.tl.tl | exact h.tl.tl.tl.tl.tl | exact h.tl.tl.tl.tl.tl.tl | exact h.tl.tl.tl.tl.tl.tl.tl | exact h.tl.tl.tl.tl.tl.tl.tl.tl))) ?_
        refine TL_pure (d := (some 64)) rfl rfl rfl (PV_move rfl) ?_
        -- op 65 call F51(t63, t64)
        refine TL_cons rfl (TO_call0 call51 rfl rfl (t51 (rd l 0) crc) ?_)
        rintro v65 H65 ⟨rfl, rfl⟩
        refine TL_pure (d := (some 66)) rfl rfl rfl (PV_bin rfl rfl bin_lss) ?_
        refine TL_pure (d := (some 58)) rfl rfl rfl (PV_assign rfl) ?_
        refine TL_nil ?_
        -- IF t58
        refine T_then rfl (by exact decide_eq_true (by omega)) ?_
        refine T_seq ?_
        refine T_region ?_
        refine TL_pure (d := (some 67)) rfl rfl rfl (PV_move rfl) ?_
        refine TL_pure (d := (some 68)) rfl rfl rfl (PV.cast (PV_bin rfl rfl bin_eql) (congrArg Value.bool (show _ = true by rfl))) ?_
        refine TL_pure (d := (some 4)) rfl rfl rfl (PV_assign rfl) ?_
        refine TL_nil ?_
        refine T_ret ?_
        -- ('ret',)
        refine ⟨_, ?hh10, ?sb10, ResV_one rfl rfl, rfl⟩
        case sb10 => repeat (first | exact List.Sublist.refl _ | apply List.Sublist.cons_cons | apply List.Sublist.cons)
      · skip
        refine TL_pure (d := (some 9)) rfl rfl rfl (PV_move rfl) ?_
        refine TL_pure (d := (some 13)) rfl rfl rfl (PV_extract rfl rfl) ?_
        refine TL_pure (d := (some 14)) rfl rfl rfl (PV_extract rfl rfl) ?_
        refine TL_cons rfl (TO_alloc rfl zr58 fun g5 => ?_)
        first | (refine TL_cons rfl (TO_store 0 rfl rfl rfl sz58 rfl rfl rfl (by simp [Value.cells, Value.oneCell']) (by first | exact Nat.le_of_ble_eq_true rfl | (simp; done) | (simp; omega) | omega) ?_)) | (refine TL_cons rfl (TO_store 1 rfl rfl rfl sz58 rfl rfl rfl (by simp [Value.cells, Value.oneCell']) (by first | exact Nat.le_of_ble_eq_true rfl | (simp; done) | (simp; omega) | omega) ?_)) | (refine TL_cons rfl (TO_store 2 rfl rfl rfl sz58 rfl rfl rfl (by simp [Value.cells, Value.oneCell']) (by first | exact Nat.le_of_ble_eq_true rfl | (simp; done) | (simp; omega) | omega) ?_)) | (refine TL_cons rfl (TO_store 3 rfl rfl rfl sz58 rfl rfl rfl (by simp [Value.cells, Value.oneCell']) (by first | exact Nat.le_of_ble_eq_true rfl | (simp; done) | (simp; omega) | omega) ?_)) | (refine TL_cons rfl (TO_store 4 rfl rfl rfl sz58 rfl rfl rfl (by simp [Value.cells, Value.oneCell']) (by first | exact Nat.le_of_ble_eq_true rfl | (simp; done) | (simp; omega) | omega) ?_)) | (refine TL_cons rfl (TO_store 5 rfl rfl rfl sz58 rfl rfl rfl (by simp [Value.cells, Value.oneCell']) (by first | exact Nat.le_of_ble_eq_true rfl | (simp; done) | (simp; omega) | omega) ?_)) | (refine TL_cons rfl (TO_store 6 rfl rfl rfl sz58 rfl rfl rfl (by simp [Value.cells, Value.oneCell']) (by first | exact Nat.le_of_ble_eq_true rfl | (simp; done) | (simp; omega) | omega) ?_)) | (refine TL_cons rfl (TO_store 7 rfl rfl rfl sz58 rfl rfl rfl (by simp [Value.cells, Value.oneCell']) (by first | exact Nat.le_of_ble_eq_true rfl | (simp; done) | (simp; omega) | omega) ?_)) | (refine TL_cons rfl (TO_store 8 rfl rfl rfl sz58 rfl rfl rfl (by simp [Value.cells, Value.oneCell']) (by first | exact Nat.le_of_ble_eq_true rfl | (simp; done) | (simp; omega) | omega) ?_))
        refine TL_pure (d := (some 6)) rfl rfl rfl (PV_assign rfl) ?_
        refine TL_nil ?_
        refine T_seq ?_
        refine T_block ?_
        refine T_seq ?_
        refine T_region ?_
        refine TL_pure (d := (some 16)) rfl rfl rfl (PV_move rfl) ?_
        refine TL_pure (d := (some 17)) rfl rfl rfl (PV_len_slice Try.underlying23 rfl) ?_
        refine TL_pure (d := (some 18)) rfl rfl rfl (PV_bin rfl rfl bin_eql) ?_
        refine TL_pure (d := (some 15)) rfl rfl rfl (PV_assign rfl) ?_
        refine TL_nil ?_
        -- IF t15
        refine T_else rfl (by simpa using h0) ?_
        refine T_shows (hS _) (by simp [nums]; omega) fun ga oa hA hrd => ?_
        subst hA
        have rd0 := hrd 0 (.int .u8 (rd l 0)) (nums_at _ (by omega))
        refine T_seq ?_
        refine T_region ?_
        refine TL_pure (d := (some 22)) rfl rfl rfl (PV_move rfl) ?_
        refine TL_pure (d := (some 23)) rfl rfl rfl (PV_indexAddr (i := 0) Try.underlying23 sz5 rfl rfl rfl (by first | omega | decide | assumption)) ?_
        refine TL_pure (d := (some 24)) rfl rfl rfl (PV_load Try.underlying5 rfl rfl (by first | exact Rd.at 0 rfl rfl | exact Rd.at 1 rfl rfl | exact Rd.at 2 rfl rfl | exact Rd.at 3 rfl rfl | exact Rd.at 4 rfl rfl | exact Rd.at 5 rfl rfl | exact Rd.at 6 rfl rfl | exact Rd.at 7 rfl rfl | exact Rd.at 8 rfl rfl | exact Rd.mono rd0 (by intro w h; first | exact h | exact h.tl | exact h.tl.tl | exact h.tl.tl.tl | exact h.tl.tl.tl.tl | exact h.tl.tl.tl.tl.tl | exact h.tl.tl.tl.tl.tl.tl | exact h.tl.tl.tl.tl.tl.tl.tl | exact h.tl.tl.tl.tl.tl.tl.tl.tl))) ?_
        refine TL_pure (d := (some 25)) rfl rfl rfl (PV.cast (PV_bin rfl rfl bin_neq) (congrArg Value.bool (show _ = true by rw [e0]; rfl))) ?_
        refine TL_pure (d := (some 26)) rfl rfl rfl (PV_move rfl) ?_
        -- guard 27 move t0
        refine TL_yes rfl rfl rfl (TO_pure rfl (PV_move rfl) ?_)
        refine TL_yes rfl rfl rfl (TO_pure rfl (PV_indexAddr (i := 0) Try.underlying23 sz5 rfl rfl rfl (by first | omega | decide | assumption)) ?_)
        refine TL_yes rfl rfl rfl (TO_pure rfl (PV_load Try.underlying5 rfl rfl (by first | exact Rd.at 0 rfl rfl | exact Rd.at 1 rfl rfl | exact Rd.at 2 rfl rfl | exact Rd.at 3 rfl rfl | exact Rd.at 4 rfl rfl | exact Rd.at 5 rfl rfl | exact Rd.at 6 rfl rfl | exact Rd.at 7 rfl rfl | exact Rd.at 8 rfl rfl | exact Rd.mono rd0 (by intro w h; first | exact h | exact h.tl | exact h.tl.tl | exact h.tl.tl.tl | exact h.tl.tl.tl.tl | exact h.tl.tl.tl.tl.tl | exact h.tl.tl.tl.tl.tl.tl | exact h.tl.tl.tl.tl.tl.tl.tl | exact h.tl.tl.tl.tl.tl.tl.tl.tl))) ?_)
        refine TL_yes rfl rfl rfl (TO_pure rfl (PV.cast (PV_bin rfl rfl bin_neq) (congrArg Value.bool (show _ = false by rw [e0]; rfl))) ?_)
        first | (refine TL_pure (d := (some 31)) rfl rfl rfl (PV_pickAnd rfl rfl rfl) ?_) | (refine TL_pure (d := (some 31)) rfl rfl rfl (PV_pickF rfl (by first | assumption | rfl | (simp; done) | (simp; omega)) rfl rfl) ?_)
        refine TL_pure (d := (some 21)) rfl rfl rfl (PV_assign rfl) ?_
        refine TL_nil ?_
        -- IF t21
        refine T_else rfl (by rfl) ?_
        refine T_seq ?_
        refine T_drawn (WH _ _ _) mixed (by intro w h; exact h) ?_
        refine TA_take (dd := (some 43)) 0 rfl (by kernel_rfl) (by kernel_rfl) (by kernel_rfl) rfl rfl rfl (PV_move rfl) ?_
        refine TA_take (dd := (some 44)) 1 rfl (by kernel_rfl) (by kernel_rfl) (by kernel_rfl) rfl rfl rfl (PV_len_slice Try.underlying23 rfl) ?_
        refine TA_take (dd := (some 45)) 2 rfl (by kernel_rfl) (by kernel_rfl) (by kernel_rfl) rfl rfl rfl (PV.cast (PV_bin rfl rfl bin_gtr) (congrArg Value.bool (show _ = false by exact decide_eq_false (by omega)))) ?_
        refine TA_take (dd := (some 46)) 3 rfl (by kernel_rfl) (by kernel_rfl) (by kernel_rfl) rfl rfl rfl (PV_move rfl) ?_
        -- dguard 4 47 move t0
        refine TA_no (dd := (some 47)) (b := false) 4 rfl (by kernel_rfl) (by kernel_rfl) (by kernel_rfl) rfl rfl rfl rfl rfl ?_
        refine TA_no (dd := (some 48)) (b := false) 5 rfl (by kernel_rfl) (by kernel_rfl) (by kernel_rfl) rfl rfl rfl rfl rfl ?_
        refine TA_no (dd := (some 49)) (b := false) 6 rfl (by kernel_rfl) (by kernel_rfl) (by kernel_rfl) rfl rfl rfl rfl rfl ?_
        refine TA_no (dd := (some 50)) (b := false) 7 rfl (by kernel_rfl) (by kernel_rfl) (by kernel_rfl) rfl rfl rfl rfl rfl ?_
        refine TA_no (dd := (some 51)) (b := false) 8 rfl (by kernel_rfl) (by kernel_rfl) (by kernel_rfl) rfl rfl rfl rfl rfl ?_
        refine TA_no (dd := (some 52)) (b := false) 9 rfl (by kernel_rfl) (by kernel_rfl) (by kernel_rfl) rfl rfl rfl rfl rfl ?_
        refine TA_no (dd := (some 53)) (b := false) 10 rfl (by kernel_rfl) (by kernel_rfl) (by kernel_rfl) rfl rfl rfl rfl rfl ?_
        refine TA_no (dd := (some 54)) (b := false) 11 rfl (by kernel_rfl) (by kernel_rfl) (by kernel_rfl) rfl rfl rfl rfl rfl ?_
        first | (refine TA_take (dd := (some 55)) 12 rfl (by kernel_rfl) (by kernel_rfl) (by kernel_rfl) rfl rfl rfl (PV_pickAnd rfl rfl rfl) ?_) | (refine TA_take (dd := (some 55)) 12 rfl (by kernel_rfl) (by kernel_rfl) (by kernel_rfl) rfl rfl rfl (PV_pickF rfl (by first | assumption | rfl | (simp; done) | (simp; omega)) rfl rfl) ?_)
        refine TA_take (dd := (some 42)) 13 rfl (by kernel_rfl) (by kernel_rfl) (by kernel_rfl) rfl rfl rfl (PV_assign rfl) ?_
        refine TA_done (by kernel_rfl) ?_
        -- IF t42
        refine T_else rfl (by rfl) ?_
        refine T_seq ?_
        refine T_region ?_
        refine TL_pure (d := (some 59)) rfl rfl rfl (PV_move rfl) ?_
        refine TL_pure (d := (some 60)) rfl rfl rfl (PV_len_slice Try.underlying23 rfl) ?_
        refine TL_pure (d := (some 61)) rfl rfl rfl (PV_move rfl) ?_
        refine TL_pure (d := (some 62)) rfl rfl rfl (PV_indexAddr (i := 0) Try.underlying23 sz5 rfl rfl rfl (by first | omega | decide | assumption)) ?_
        refine TL_pure (d := (some 63)) rfl rfl rfl (PV_load Try.underlying5 rfl rfl (by first | exact Rd.at 0 rfl rfl | exact Rd.at 1 rfl rfl | exact Rd.at 2 rfl rfl | exact Rd.at 3 rfl rfl | exact Rd.at 4 rfl rfl | exact Rd.at 5 rfl rfl | exact Rd.at 6 rfl rfl | exact Rd.at 7 rfl rfl | exact Rd.at 8 rfl rfl | exact Rd.mono rd0 (by intro w h; first | exact h | exact h.tl | exact h.tl.tl | exact h.tl.tl.tl | exact h.tl.tl.tl.tl | exact h.tl.tl.tl.tl.tl | exact h.tl.tl.tl.tl.tl.tl | exact h.tl.tl.tl.tl.tl.tl.tl | exact h.tl.tl.tl.tl.tl.tl.tl.tl))) ?_
        refine TL_pure (d := (some 64)) rfl rfl rfl (PV_move rfl) ?_
        -- op 65 call F51(t63, t64)
        refine TL_cons rfl (TO_call0 call51 rfl rfl (t51 (rd l 0) crc) ?_)
        rintro v65 H65 ⟨rfl, rfl⟩
        refine TL_pure (d := (some 66)) rfl rfl rfl (PV_bin rfl rfl bin_lss) ?_
        refine TL_pure (d := (some 58)) rfl rfl rfl (PV_assign rfl) ?_
        refine TL_nil ?_
        -- IF t58
        refine T_then rfl (by exact decide_eq_true (by omega)) ?_
        refine T_seq ?_
        refine T_region ?_
        refine TL_pure (d := (some 67)) rfl rfl rfl (PV_move rfl) ?_
        refine TL_pure (d := (some 68)) rfl rfl rfl (PV.cast (PV_bin rfl rfl bin_eql) (congrArg Value.bool (show _ = true by rfl))) ?_
        refine TL_pure (d := (some 4)) rfl rfl rfl (PV_assign rfl) ?_
        refine TL_nil ?_
        refine T_ret ?_
        -- ('ret',)
        refine ⟨_, ?hh11, ?sb11, ResV_one rfl rfl, rfl⟩
        case sb11 => repeat (first | exact List.Sublist.refl _ | apply List.Sublist.cons_cons | apply List.Sublist.cons)
    have h12 : rd l 1 = 255 - rd l 2 := by
      by_cases e : rd l 1 = 255 - rd l 2
      · exact e
      · exact absurd ⟨by omega, e⟩ hx
    have e : scanS l crc = 1 := by
      unfold scanS at h2 ⊢
      rw [if_neg h0, if_neg hz, if_neg hx, if_neg hl2] at h2 ⊢
      split at h2
      · exact absurd rfl h2
      · rename_i hq; rw [if_neg hq]
    rw [e]
    refine TL_pure (d := (some 9)) rfl rfl rfl (PV_move rfl) ?_
    refine TL_pure (d := (some 13)) rfl rfl rfl (PV_extract rfl rfl) ?_
    refine TL_pure (d := (some 14)) rfl rfl rfl (PV_extract rfl rfl) ?_
    refine TL_cons rfl (TO_alloc rfl zr58 fun g5 => ?_)
    first | (refine TL_cons rfl (TO_store 0 rfl rfl rfl sz58 rfl rfl rfl (by simp [Value.cells, Value.oneCell']) (by first | exact Nat.le_of_ble_eq_true rfl | (simp; done) | (simp; omega) | omega) ?_)) | (refine TL_cons rfl (TO_store 1 rfl rfl rfl sz58 rfl rfl rfl (by simp [Value.cells, Value.oneCell']) (by first | exact Nat.le_of_ble_eq_true rfl | (simp; done) | (simp; omega) | omega) ?_)) | (refine TL_cons rfl (TO_store 2 rfl rfl rfl sz58 rfl rfl rfl (by simp [Value.cells, Value.oneCell']) (by first | exact Nat.le_of_ble_eq_true rfl | (simp; done) | (simp; omega) | omega) ?_)) | (refine TL_cons rfl (TO_store 3 rfl rfl rfl sz58 rfl rfl rfl (by simp [Value.cells, Value.oneCell']) (by first | exact Nat.le_of_ble_eq_true rfl | (simp; done) | (simp; omega) | omega) ?_)) | (refine TL_cons rfl (TO_store 4 rfl rfl rfl sz58 rfl rfl rfl (by simp [Value.cells, Value.oneCell']) (by first | exact Nat.le_of_ble_eq_true rfl | (simp; done) | (simp; omega) | omega) ?_)) | (refine TL_cons rfl (TO_store 5 rfl rfl rfl sz58 rfl rfl rfl (by simp [Value.cells, Value.oneCell']) (by first | exact Nat.le_of_ble_eq_true rfl | (simp; done) | (simp; omega) | omega) ?_)) | (refine TL_cons rfl (TO_store 6 rfl rfl rfl sz58 rfl rfl rfl (by simp [Value.cells, Value.oneCell']) (by first | exact Nat.le_of_ble_eq_true rfl | (simp; done) | (simp; omega) | omega) ?_)) | (refine TL_cons rfl (TO_store 7 rfl rfl rfl sz58 rfl rfl rfl (by simp [Value.cells, Value.oneCell']) (by first | exact Nat.le_of_ble_eq_true rfl | (simp; done) | (simp; omega) | omega) ?_)) | (refine TL_cons rfl (TO_store 8 rfl rfl rfl sz58 rfl rfl rfl (by simp [Value.cells, Value.oneCell']) (by first | exact Nat.le_of_ble_eq_true rfl | (simp; done) | (simp; omega) | omega) ?_))
    refine TL_pure (d := (some 6)) rfl rfl rfl (PV_assign rfl) ?_
    refine TL_nil ?_
    refine T_seq ?_
    refine T_block ?_
    refine T_seq ?_
    refine T_region ?_
    refine TL_pure (d := (some 16)) rfl rfl rfl (PV_move rfl) ?_
    refine TL_pure (d := (some 17)) rfl rfl rfl (PV_len_slice Try.underlying23 rfl) ?_
    refine TL_pure (d := (some 18)) rfl rfl rfl (PV_bin rfl rfl bin_eql) ?_
    refine TL_pure (d := (some 15)) rfl rfl rfl (PV_assign rfl) ?_
    refine TL_nil ?_
    -- IF t15
    refine T_else rfl (by simpa using h0) ?_
    refine T_shows (hS _) (by simp [nums]; omega) fun ga oa hA hrd => ?_
    subst hA
    have rd0 := hrd 0 (.int .u8 (rd l 0)) (nums_at _ (by omega))
    have rd1 := hrd 1 (.int .u8 (rd l 1)) (nums_at _ (by omega))
    have rd2 := hrd 2 (.int .u8 (rd l 2)) (nums_at _ (by omega))
    refine T_seq ?_
    refine T_region ?_
    refine TL_pure (d := (some 22)) rfl rfl rfl (PV_move rfl) ?_
    refine TL_pure (d := (some 23)) rfl rfl rfl (PV_indexAddr (i := 0) Try.underlying23 sz5 rfl rfl rfl (by first | omega | decide | assumption)) ?_
    refine TL_pure (d := (some 24)) rfl rfl rfl (PV_load Try.underlying5 rfl rfl (by first | exact Rd.at 0 rfl rfl | exact Rd.at 1 rfl rfl | exact Rd.at 2 rfl rfl | exact Rd.at 3 rfl rfl | exact Rd.at 4 rfl rfl | exact Rd.at 5 rfl rfl | exact Rd.at 6 rfl rfl | exact Rd.at 7 rfl rfl | exact Rd.at 8 rfl rfl | exact Rd.mono rd0 (by intro w h; first | exact h | exact h.tl | exact h.tl.tl | exact h.tl.tl.tl | exact h.tl.tl.tl.tl | exact h.tl.tl.tl.tl.tl | exact h.tl.tl.tl.tl.tl.tl | exact h.tl.tl.tl.tl.tl.tl.tl | exact h.tl.tl.tl.tl.tl.tl.tl.tl) | exact Rd.mono rd1 (by intro w h; first | exact h | exact h.tl | exact h.tl.tl | exact h.tl.tl.tl | exact h.tl.tl.tl.tl | exact h.tl.tl.tl.tl.tl | exact h.tl.tl.tl.tl.tl.tl | exact h.tl.tl.tl.tl.tl.tl.tl | exact h.tl.tl.tl.tl.tl.tl.tl.tl) | exact Rd.mono rd2 (by intro w h; first | exact h | exact h.tl | exact h.tl.tl | exact h.tl.tl.tl | exact h.tl.tl.tl.tl | exact h.tl.tl.tl.tl.tl | exact h.tl.tl.tl.tl.tl.tl | exact h.tl.tl.tl.tl.tl.tl.tl | exact h.tl.tl.tl.tl.tl.tl.tl.tl))) ?_
    refine TL_pure (d := (some 25)) rfl rfl rfl (PV.cast (PV_bin rfl rfl bin_neq) (congrArg Value.bool (show _ = true by rw [e0]; rfl))) ?_
    refine TL_pure (d := (some 26)) rfl rfl rfl (PV_move rfl) ?_
    -- guard 27 move t0
    refine TL_yes rfl rfl rfl (TO_pure rfl (PV_move rfl) ?_)
    refine TL_yes rfl rfl rfl (TO_pure rfl (PV_indexAddr (i := 0) Try.underlying23 sz5 rfl rfl rfl (by first | omega | decide | assumption)) ?_)
    refine TL_yes rfl rfl rfl (TO_pure rfl (PV_load Try.underlying5 rfl rfl (by first | exact Rd.at 0 rfl rfl | exact Rd.at 1 rfl rfl | exact Rd.at 2 rfl rfl | exact Rd.at 3 rfl rfl | exact Rd.at 4 rfl rfl | exact Rd.at 5 rfl rfl | exact Rd.at 6 rfl rfl | exact Rd.at 7 rfl rfl | exact Rd.at 8 rfl rfl | exact Rd.mono rd0 (by intro w h; first | exact h | exact h.tl | exact h.tl.tl | exact h.tl.tl.tl | exact h.tl.tl.tl.tl | exact h.tl.tl.tl.tl.tl | exact h.tl.tl.tl.tl.tl.tl | exact h.tl.tl.tl.tl.tl.tl.tl | exact h.tl.tl.tl.tl.tl.tl.tl.tl) | exact Rd.mono rd1 (by intro w h; first | exact h | exact h.tl | exact h.tl.tl | exact h.tl.tl.tl | exact h.tl.tl.tl.tl | exact h.tl.tl.tl.tl.tl | exact h.tl.tl.tl.tl.tl.tl | exact h.tl.tl.tl.tl.tl.tl.tl | exact h.tl.tl.tl.tl.tl.tl.tl.tl) | exact Rd.mono rd2 (by intro w h; first | exact h | exact h.tl | exact h.tl.tl | exact h.tl.tl.tl | exact h.tl.tl.tl.tl | exact h.tl.tl.tl.tl.tl | exact h.tl.tl.tl.tl.tl.tl | exact h.tl.tl.tl.tl.tl.tl.tl | exact h.tl.tl.tl.tl.tl.tl.tl.tl))) ?_)
    refine TL_yes rfl rfl rfl (TO_pure rfl (PV.cast (PV_bin rfl rfl bin_neq) (congrArg Value.bool (show _ = false by rw [e0]; rfl))) ?_)
    first | (refine TL_pure (d := (some 31)) rfl rfl rfl (PV_pickAnd rfl rfl rfl) ?_) | (refine TL_pure (d := (some 31)) rfl rfl rfl (PV_pickF rfl (by first | assumption | rfl | (simp; done) | (simp; omega)) rfl rfl) ?_)
    refine TL_pure (d := (some 21)) rfl rfl rfl (PV_assign rfl) ?_
    refine TL_nil ?_
    -- IF t21
    refine T_else rfl (by rfl) ?_
    refine T_seq ?_
    refine T_drawn (WH _ _ _) mixed (by intro w h; exact h) ?_
    refine TA_take (dd := (some 43)) 0 rfl (by kernel_rfl) (by kernel_rfl) (by kernel_rfl) rfl rfl rfl (PV_move rfl) ?_
    refine TA_take (dd := (some 44)) 1 rfl (by kernel_rfl) (by kernel_rfl) (by kernel_rfl) rfl rfl rfl (PV_len_slice Try.underlying23 rfl) ?_
    refine TA_take (dd := (some 45)) 2 rfl (by kernel_rfl) (by kernel_rfl) (by kernel_rfl) rfl rfl rfl (PV.cast (PV_bin rfl rfl bin_gtr) (congrArg Value.bool (show _ = true by exact decide_eq_true (by omega)))) ?_
    refine TA_take (dd := (some 46)) 3 rfl (by kernel_rfl) (by kernel_rfl) (by kernel_rfl) rfl rfl rfl (PV_move rfl) ?_
    -- dguard 4 47 move t0
    refine TA_yes (dd := (some 47)) 4 rfl (by kernel_rfl) (by kernel_rfl) (by kernel_rfl) rfl rfl rfl rfl rfl (PV_move rfl) ?_
    refine TA_yes (dd := (some 48)) 5 rfl (by kernel_rfl) (by kernel_rfl) (by kernel_rfl) rfl rfl rfl rfl rfl (PV_indexAddr (i := 1) Try.underlying23 sz5 rfl rfl rfl (by first | omega | decide | assumption)) ?_
    refine TA_yes (dd := (some 49)) 6 rfl (by kernel_rfl) (by kernel_rfl) (by kernel_rfl) rfl rfl rfl rfl rfl (PV_load Try.underlying5 rfl rfl (by first | exact Rd.at 0 rfl rfl | exact Rd.at 1 rfl rfl | exact Rd.at 2 rfl rfl | exact Rd.at 3 rfl rfl | exact Rd.at 4 rfl rfl | exact Rd.at 5 rfl rfl | exact Rd.at 6 rfl rfl | exact Rd.at 7 rfl rfl | exact Rd.at 8 rfl rfl | exact Rd.mono rd0 (by intro w h; first | exact h | exact h.tl | exact h.tl.tl | exact h.tl.tl.tl | exact h.tl.tl.tl.tl | exact h.tl.tl.tl.tl.tl | exact h.tl.tl.tl.tl.tl.tl | exact h.tl.tl.tl.tl.tl.tl.tl | exact h.tl.tl.tl.tl.tl.tl.tl.tl) | exact Rd.mono rd1 (by intro w h; first | exact h | exact h.tl | exact h.tl.tl | exact h.tl.tl.tl | exact h.tl.tl.tl.tl | exact h.tl.tl.tl.tl.tl | exact h.tl.tl.tl.tl.tl.tl | exact h.tl.tl.tl.tl.tl.tl.tl | exact h.tl.tl.tl.tl.tl.tl.tl.tl) | exact Rd.mono rd2 (by intro w h; first | exact h | exact h.tl | exact h.tl.tl | exact h.tl.tl.tl | exact h.tl.tl.tl.tl | exact h.tl.tl.tl.tl.tl | exact h.tl.tl.tl.tl.tl.tl | exact h.tl.tl.tl.tl.tl.tl.tl | exact h.tl.tl.tl.tl.tl.tl.tl.tl))) ?_
    refine TA_yes (dd := (some 50)) 7 rfl (by kernel_rfl) (by kernel_rfl) (by kernel_rfl) rfl rfl rfl rfl rfl (PV_move rfl) ?_
    refine TA_yes (dd := (some 51)) 8 rfl (by kernel_rfl) (by kernel_rfl) (by kernel_rfl) rfl rfl rfl rfl rfl (PV_indexAddr (i := 2) Try.underlying23 sz5 rfl rfl rfl (by first | omega | decide | assumption)) ?_
    refine TA_yes (dd := (some 52)) 9 rfl (by kernel_rfl) (by kernel_rfl) (by kernel_rfl) rfl rfl rfl rfl rfl (PV_load Try.underlying5 rfl rfl (by first | exact Rd.at 0 rfl rfl | exact Rd.at 1 rfl rfl | exact Rd.at 2 rfl rfl | exact Rd.at 3 rfl rfl | exact Rd.at 4 rfl rfl | exact Rd.at 5 rfl rfl | exact Rd.at 6 rfl rfl | exact Rd.at 7 rfl rfl | exact Rd.at 8 rfl rfl | exact Rd.mono rd0 (by intro w h; first | exact h | exact h.tl | exact h.tl.tl | exact h.tl.tl.tl | exact h.tl.tl.tl.tl | exact h.tl.tl.tl.tl.tl | exact h.tl.tl.tl.tl.tl.tl | exact h.tl.tl.tl.tl.tl.tl.tl | exact h.tl.tl.tl.tl.tl.tl.tl.tl) | exact Rd.mono rd1 (by intro w h; first | exact h | exact h.tl | exact h.tl.tl | exact h.tl.tl.tl | exact h.tl.tl.tl.tl | exact h.tl.tl.tl.tl.tl | exact h.tl.tl.tl.tl.tl.tl | exact h.tl.tl.tl.tl.tl.tl.tl | exact h.tl.tl.tl.tl.tl.tl.tl.tl) | exact Rd.mono rd2 (by intro w h; first | exact h | exact h.tl | exact h.tl.tl | exact h.tl.tl.tl | exact h.tl.tl.tl.tl | exact h.tl.tl.tl.tl.tl | exact h.tl.tl.tl.tl.tl.tl | exact h.tl.tl.tl.tl.tl.tl.tl | exact h.tl.tl.tl.tl.tl.tl.tl.tl))) ?_
    refine TA_yes (dd := (some 53)) 10 rfl (by kernel_rfl) (by kernel_rfl) (by kernel_rfl) rfl rfl rfl rfl rfl (PV_bin rfl rfl bin_xor) ?_
    refine TA_yes (dd := (some 54)) 11 rfl (by kernel_rfl) (by kernel_rfl) (by kernel_rfl) rfl rfl rfl rfl rfl (PV.cast (PV_bin rfl rfl bin_neq) (congrArg Value.bool (show _ = false by rw [hx2.2 h12]; rfl))) ?_
    first | (refine TA_take (dd := (some 55)) 12 rfl (by kernel_rfl) (by kernel_rfl) (by kernel_rfl) rfl rfl rfl (PV_pickAnd rfl rfl rfl) ?_) | (refine TA_take (dd := (some 55)) 12 rfl (by kernel_rfl) (by kernel_rfl) (by kernel_rfl) rfl rfl rfl (PV_pickF rfl (by first | assumption | rfl | (simp; done) | (simp; omega)) rfl rfl) ?_)
    refine TA_take (dd := (some 42)) 13 rfl (by kernel_rfl) (by kernel_rfl) (by kernel_rfl) rfl rfl rfl (PV_assign rfl) ?_
    refine TA_done (by kernel_rfl) ?_
    -- IF t42
    refine T_else rfl (by rfl) ?_
    refine T_seq ?_
    refine T_region ?_
    refine TL_pure (d := (some 59)) rfl rfl rfl (PV_move rfl) ?_
    refine TL_pure (d := (some 60)) rfl rfl rfl (PV_len_slice Try.underlying23 rfl) ?_
    refine TL_pure (d := (some 61)) rfl rfl rfl (PV_move rfl) ?_
    refine TL_pure (d := (some 62)) rfl rfl rfl (PV_indexAddr (i := 0) Try.underlying23 sz5 rfl rfl rfl (by first | omega | decide | assumption)) ?_
    refine TL_pure (d := (some 63)) rfl rfl rfl (PV_load Try.underlying5 rfl rfl (by first | exact Rd.at 0 rfl rfl | exact Rd.at 1 rfl rfl | exact Rd.at 2 rfl rfl | exact Rd.at 3 rfl rfl | exact Rd.at 4 rfl rfl | exact Rd.at 5 rfl rfl | exact Rd.at 6 rfl rfl | exact Rd.at 7 rfl rfl | exact Rd.at 8 rfl rfl | exact Rd.mono rd0 (by intro w h; first | exact h | exact h.tl | exact h.tl.tl | exact h.tl.tl.tl | exact h.tl.tl.tl.tl | exact h.tl.tl.tl.tl.tl | exact h.tl.tl.tl.tl.tl.tl | exact h.tl.tl.tl.tl.tl.tl.tl | exact h.tl.tl.tl.tl.tl.tl.tl.tl) | exact Rd.mono rd1 (by intro w h; first | exact h | exact h.tl | exact h.tl.tl | exact h.tl.tl.tl | exact h.tl.tl.tl.tl | exact h.tl.tl.tl.tl.tl | exact h.tl.tl.tl.tl.tl.tl | exact h.tl.tl.tl.tl.tl.tl.tl | exact h.tl.tl.tl.tl.tl.tl.tl.tl) | exact Rd.mono rd2 (by intro w h; first | exact h | exact h.tl | exact h.tl.tl | exact h.tl.tl.tl | exact h.tl.tl.tl.tl | exact h.tl.tl.tl.tl.tl | exact h.tl.tl.tl.tl.tl.tl | exact h.tl.tl.tl.tl.tl.tl.tl | exact h.tl.tl.tl.tl.tl.tl.tl.tl))) ?_
    refine TL_pure (d := (some 64)) rfl rfl rfl (PV_move rfl) ?_
    -- op 65 call F51(t63, t64)
    refine TL_cons rfl (TO_call0 call51 rfl rfl (t51 (rd l 0) crc) ?_)
    rintro v65 H65 ⟨rfl, rfl⟩
    refine TL_pure (d := (some 66)) rfl rfl rfl (PV_bin rfl rfl bin_lss) ?_
    refine TL_pure (d := (some 58)) rfl rfl rfl (PV_assign rfl) ?_
    refine TL_nil ?_
    -- IF t58
    refine T_else rfl (by exact decide_eq_false (by omega)) ?_
    refine T_skip ?_
    refine T_seq ?_
    refine T_seq ?_
    refine T_region ?_
    refine TL_pure (d := (some 69)) rfl rfl rfl (PV_move rfl) ?_
    refine TL_pure (d := (some 70)) rfl rfl rfl (PV.cast (PV_bin rfl rfl bin_eql) (congrArg Value.bool (show _ = false by rfl))) ?_
    refine TL_nil ?_
    -- IF t70
    refine T_else rfl (by rfl) ?_
    refine T_skip ?_
    refine T_seq ?_
    refine T_region ?_
    refine TL_pure (d := (some 86)) rfl rfl rfl (PV_move rfl) ?_
    refine TL_pure (d := (some 87)) rfl rfl rfl (PV.cast (PV_bin rfl rfl bin_eql) (congrArg Value.bool (show _ = true by rfl))) ?_
    refine TL_pure (d := (some 88)) rfl rfl rfl (PV_move rfl) ?_
    -- guard 89 fieldAddr 58 t5 1
    refine TL_yes rfl rfl rfl (TO_pure rfl (PV_fieldAddr (D := 1) Try.underlying58 rfl sz23 (by decide) rfl rfl) ?_)
    refine TL_yes rfl rfl rfl (TO_pure rfl (PV_load Try.underlying23 rfl rfl (by first | exact Rd.at 0 rfl rfl | exact Rd.at 1 rfl rfl | exact Rd.at 2 rfl rfl | exact Rd.at 3 rfl rfl | exact Rd.at 4 rfl rfl | exact Rd.at 5 rfl rfl | exact Rd.at 6 rfl rfl | exact Rd.at 7 rfl rfl | exact Rd.at 8 rfl rfl | exact Rd.mono rd0 (by intro w h; first | exact h | exact h.tl | exact h.tl.tl | exact h.tl.tl.tl | exact h.tl.tl.tl.tl | exact h.tl.tl.tl.tl.tl | exact h.tl.tl.tl.tl.tl.tl | exact h.tl.tl.tl.tl.tl.tl.tl | exact h.tl.tl.tl.tl.tl.tl.tl.tl) | exact Rd.mono rd1 (by intro w h; first | exact h | exact h.tl | exact h.tl.tl | exact h.tl.tl.tl | exact h.tl.tl.tl.tl | exact h.tl.tl.tl.tl.tl | exact h.tl.tl.tl.tl.tl.tl | exact h.tl.tl.tl.tl.tl.tl.tl | exact h.tl.tl.tl.tl.tl.tl.tl.tl) | exact Rd.mono rd2 (by intro w h; first | exact h | exact h.tl | exact h.tl.tl | exact h.tl.tl.tl | exact h.tl.tl.tl.tl | exact h.tl.tl.tl.tl.tl | exact h.tl.tl.tl.tl.tl.tl | exact h.tl.tl.tl.tl.tl.tl.tl | exact h.tl.tl.tl.tl.tl.tl.tl.tl))) ?_)
    refine TL_yes rfl rfl rfl (TO_pure rfl (PV_len_slice Try.underlying23 rfl) ?_)
    refine TL_yes rfl rfl rfl (TO_pure rfl (PV.cast (PV_bin rfl rfl bin_eql) (congrArg Value.bool (show _ = true by rfl))) ?_)
    first | (refine TL_pure (d := (some 93)) rfl rfl rfl (PV_pickAnd rfl rfl rfl) ?_) | (refine TL_pure (d := (some 93)) rfl rfl rfl (PV_pickF rfl (by first | assumption | rfl | (simp; done) | (simp; omega)) rfl rfl) ?_)
    refine TL_pure (d := (some 4)) rfl rfl rfl (PV_assign rfl) ?_
    refine TL_nil ?_
    refine T_ret ?_
    -- ('ret',)
    refine ⟨_, ?hh12, ?sb12, ResV_one rfl rfl, rfl⟩
    case sb12 => repeat (first | exact List.Sublist.refl _ | apply List.Sublist.cons_cons | apply List.Sublist.cons)
end Go.Proofs.Ythdkmgeigdoglaa.SL
namespace Go.Proofs.Ythdkmgeigdoglaa.Hand
open Go Go.RowKit Go.Proofs.YthdkmgeigdoglaaW.PrintWords H
theorem BlockAny_walk (a0 : Option Addr) (c0 : Nat) (l0 : List Int) (a1 : Bool) (w : World)
    (hr0 : ReadsInt w .u8 a0 l0.length l0) (hc0 : l0.length ≤ c0) (y0 : l0.length * 1 ≤ 140737488351232) (hw0 : ∀ x ∈ l0, (Lit.int .u8 x).wf = true) :
    Calls Try.prog 16 #[.slice a0 l0.length c0, .bool a1] w fun e w' => e = .returned (.bool true) ∧ Below w.heap.size w w' :=
  SL.law_of (SL.BlockAny_t hr0 hc0 (U8s.of_wf hw0))
end Go.Proofs.Ythdkmgeigdoglaa.Hand
