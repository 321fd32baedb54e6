import Derived.Test.YthdkmgeigdoglaaSLPut
/- The receiver takes bytes that are too few. No statement is proved here. -/
set_option linter.unusedVariables false
namespace Go.Proofs.Ythdkmgeigdoglaa.SL
open Go Go.RowKit Go.Proofs.YthdkmgeigdoglaaW.PrintWords H Hand
section
variable {w0 : World} {B : Nat} {X : List Chunk}
set_option maxRecDepth 100000 in
theorem t75need {g : Nat} (r : Rcv) {Ab : Option Addr} {m cb : Nat} {bs : List Int} (hx : Shows (WH w0 B X) Ab m 1 (nums .u8 bs)) (hm : bs.length = m) (hm0 : 0 < m) (hu : U8s (r.buf ++ bs)) (hlb : r.buf.length + m ≤ 1000000) (ho : r.over = false) (h4 : rd (r.buf ++ bs) 0 ≠ 4) (h24 : rd (r.buf ++ bs) 0 ≠ 24) (hs : scanS (r.buf ++ bs) r.crc = 0) :
    TCall Try.prog w0 B 75 #[.pointer (some ⟨g, 0, none⟩), .slice Ab m cb] (fun v H' => ∃ (A : Option Addr) (k : Nat), v = .slice none 0 0 ∧ (r.buf ++ bs).length ≤ k ∧ H' = rcvC g { r with left := r.wait, bA := A, bc := k, buf := r.buf ++ bs } :: bufC { r with left := r.wait, bA := A, bc := k, buf := r.buf ++ bs } :: datC { r with left := r.wait, bA := A, bc := k, buf := r.buf ++ bs } :: X) (rcvC g r :: bufC r :: datC r :: X) := by
  subst hm
  obtain ⟨crc, wait, tries, left, number, begun, close, bA, bc, buf, dA, dc, dat, blocks, want, over, err⟩ := r
  dsimp only at hu hlb ho h4 h24 hs
  subst ho
  refine TCall_intro (args := [_, _]) Try.func75 rfl Try.ntmps75 (Nat.le_of_ble_eq_true rfl) ?_
  refine T_addNil 1 ?_
  refine T_seq ?_
  refine T_region ?_
  refine TL_pure (d := (some 4)) rfl rfl rfl (PV_assign rfl) ?_
  refine TL_nil ?_
  refine T_seq ?_
  refine T_seq ?_
  refine T_region ?_
  refine TL_pure (d := (some 8)) rfl rfl rfl (PV_move rfl) ?_
  refine TL_pure (d := (some 9)) rfl rfl rfl (PV_nilCheck rfl) ?_
  refine TL_pure (d := (some 10)) rfl rfl rfl (PV_fieldAddr (D := 11) Try.underlying140 rfl sz4 (by decide) rfl rfl) ?_
  refine TL_pure (d := (some 11)) rfl rfl rfl (PV_load Try.underlying4 rfl rfl (by first | exact Rd.at 0 rfl rfl | exact Rd.at 1 rfl rfl | exact Rd.at 2 rfl rfl | exact Rd.at 3 rfl rfl | exact Rd.at 4 rfl rfl | exact Rd.at 5 rfl rfl | exact Rd.at 6 rfl rfl | exact Rd.at 7 rfl rfl | exact Rd.at 8 rfl rfl)) ?_
  refine TL_pure (d := (some 12)) rfl rfl rfl (PV_move rfl) ?_
  -- guard 13 move t1
  refine TL_yes rfl rfl rfl (TO_pure rfl (PV_move rfl) ?_)
  refine TL_yes rfl rfl rfl (TO_pure rfl (PV_len_slice Try.underlying23 rfl) ?_)
  refine TL_yes rfl rfl rfl (TO_pure rfl (PV_bin rfl rfl bin_eql) ?_)
  first | (refine TL_pure (d := (some 16)) rfl rfl rfl (PV_pickOr rfl rfl rfl) ?_) | (refine TL_pure (d := (some 16)) rfl rfl rfl (PV_pickT rfl (by first | assumption | rfl | (simp; done) | (simp; omega)) rfl rfl) ?_)
  refine TL_nil ?_
  -- IF t16
  refine T_else rfl (by exact beq_false_of_ne (by omega)) ?_
  refine T_skip ?_
  refine T_seq ?_
  refine T_region ?_
  refine TL_pure (d := (some 17)) rfl rfl rfl (PV_move rfl) ?_
  refine TL_pure (d := (some 18)) rfl rfl rfl (PV_move rfl) ?_
  refine TL_pure (d := (some 19)) rfl rfl rfl (PV_nilCheck rfl) ?_
  refine TL_pure (d := (some 20)) rfl rfl rfl (PV_fieldAddr (D := 1) Try.underlying140 rfl sz3 (by decide) rfl rfl) ?_
  refine TL_pure (d := (some 21)) rfl rfl rfl (PV_load Try.underlying3 rfl rfl (by first | exact Rd.at 0 rfl rfl | exact Rd.at 1 rfl rfl | exact Rd.at 2 rfl rfl | exact Rd.at 3 rfl rfl | exact Rd.at 4 rfl rfl | exact Rd.at 5 rfl rfl | exact Rd.at 6 rfl rfl | exact Rd.at 7 rfl rfl | exact Rd.at 8 rfl rfl)) ?_
  refine TL_pure (d := (some 22)) rfl rfl rfl (PV_nilCheck rfl) ?_
  refine TL_pure (d := (some 23)) rfl rfl rfl (PV_fieldAddr (D := 3) Try.underlying140 rfl sz3 (by decide) rfl rfl) ?_
  first | (refine TL_cons rfl (TO_store1 0 rfl rfl rfl sz3 rfl rfl rfl (by first | exact Nat.le_of_ble_eq_true rfl | (simp; done) | (simp; omega) | omega) ?_)) | (refine TL_cons rfl (TO_store1 1 rfl rfl rfl sz3 rfl rfl rfl (by first | exact Nat.le_of_ble_eq_true rfl | (simp; done) | (simp; omega) | omega) ?_)) | (refine TL_cons rfl (TO_store1 2 rfl rfl rfl sz3 rfl rfl rfl (by first | exact Nat.le_of_ble_eq_true rfl | (simp; done) | (simp; omega) | omega) ?_)) | (refine TL_cons rfl (TO_store1 3 rfl rfl rfl sz3 rfl rfl rfl (by first | exact Nat.le_of_ble_eq_true rfl | (simp; done) | (simp; omega) | omega) ?_)) | (refine TL_cons rfl (TO_store1 4 rfl rfl rfl sz3 rfl rfl rfl (by first | exact Nat.le_of_ble_eq_true rfl | (simp; done) | (simp; omega) | omega) ?_)) | (refine TL_cons rfl (TO_store1 5 rfl rfl rfl sz3 rfl rfl rfl (by first | exact Nat.le_of_ble_eq_true rfl | (simp; done) | (simp; omega) | omega) ?_)) | (refine TL_cons rfl (TO_store1 6 rfl rfl rfl sz3 rfl rfl rfl (by first | exact Nat.le_of_ble_eq_true rfl | (simp; done) | (simp; omega) | omega) ?_)) | (refine TL_cons rfl (TO_store1 7 rfl rfl rfl sz3 rfl rfl rfl (by first | exact Nat.le_of_ble_eq_true rfl | (simp; done) | (simp; omega) | omega) ?_)) | (refine TL_cons rfl (TO_store1 8 rfl rfl rfl sz3 rfl rfl rfl (by first | exact Nat.le_of_ble_eq_true rfl | (simp; done) | (simp; omega) | omega) ?_))
  refine TL_nil ?_
  refine T_seq ?_
  refine T_region ?_
  refine TL_pure (d := (some 24)) rfl rfl rfl (PV_move rfl) ?_
  refine TL_pure (d := (some 25)) rfl rfl rfl (PV_move rfl) ?_
  refine TL_pure (d := (some 26)) rfl rfl rfl (PV_nilCheck rfl) ?_
  refine TL_pure (d := (some 27)) rfl rfl rfl (PV_fieldAddr (D := 7) Try.underlying140 rfl sz23 (by decide) rfl rfl) ?_
  refine TL_pure (d := (some 28)) rfl rfl rfl (PV_load Try.underlying23 rfl rfl (by first | exact Rd.at 0 rfl rfl | exact Rd.at 1 rfl rfl | exact Rd.at 2 rfl rfl | exact Rd.at 3 rfl rfl | exact Rd.at 4 rfl rfl | exact Rd.at 5 rfl rfl | exact Rd.at 6 rfl rfl | exact Rd.at 7 rfl rfl | exact Rd.at 8 rfl rfl)) ?_
  refine TL_pure (d := (some 29)) rfl rfl rfl (PV_move rfl) ?_
  -- op 30 append(t28, t29) [23, 23]
  refine TL_cons rfl (TO_append 2 rfl Try.underlying23 zb5 rfl (by decide) rfl rfl rfl (hx.mono fun w h => h.tl.tl.tl.tl) nums_one (by show (buf.length + bs.length) * 1 ≤ 140737488355328; omega) (by show buf.length + bs.length ≤ 9223372036854775807; omega) fun A30 c30 hc30 => ?_)
  rw [show nums .u8 buf ++ nums .u8 bs = nums .u8 (buf ++ bs) from List.map_append.symm, show buf.length + bs.length = (buf ++ bs).length from List.length_append.symm]
  replace hc30 : (buf ++ bs).length ≤ c30 := by rw [List.length_append]; exact hc30
  have hL0 : 0 < (buf ++ bs).length := by rw [List.length_append]; omega
  have hLm : (buf ++ bs).length ≤ 1000000 := by rw [List.length_append]; omega
  obtain ⟨L, hL⟩ : ∃ L, buf ++ bs = L := ⟨_, rfl⟩
  rw [hL] at hu h4 h24 hs hc30 hL0 hLm ⊢
  refine TL_pure (d := (some 31)) rfl rfl rfl (PV_nilCheck rfl) ?_
  refine TL_pure (d := (some 32)) rfl rfl rfl (PV_fieldAddr (D := 7) Try.underlying140 rfl sz23 (by decide) rfl rfl) ?_
  first | (refine TL_cons rfl (TO_store1 0 rfl rfl rfl sz23 rfl rfl rfl (by first | exact Nat.le_of_ble_eq_true rfl | (simp; done) | (simp; omega) | omega) ?_)) | (refine TL_cons rfl (TO_store1 1 rfl rfl rfl sz23 rfl rfl rfl (by first | exact Nat.le_of_ble_eq_true rfl | (simp; done) | (simp; omega) | omega) ?_)) | (refine TL_cons rfl (TO_store1 2 rfl rfl rfl sz23 rfl rfl rfl (by first | exact Nat.le_of_ble_eq_true rfl | (simp; done) | (simp; omega) | omega) ?_)) | (refine TL_cons rfl (TO_store1 3 rfl rfl rfl sz23 rfl rfl rfl (by first | exact Nat.le_of_ble_eq_true rfl | (simp; done) | (simp; omega) | omega) ?_)) | (refine TL_cons rfl (TO_store1 4 rfl rfl rfl sz23 rfl rfl rfl (by first | exact Nat.le_of_ble_eq_true rfl | (simp; done) | (simp; omega) | omega) ?_)) | (refine TL_cons rfl (TO_store1 5 rfl rfl rfl sz23 rfl rfl rfl (by first | exact Nat.le_of_ble_eq_true rfl | (simp; done) | (simp; omega) | omega) ?_)) | (refine TL_cons rfl (TO_store1 6 rfl rfl rfl sz23 rfl rfl rfl (by first | exact Nat.le_of_ble_eq_true rfl | (simp; done) | (simp; omega) | omega) ?_)) | (refine TL_cons rfl (TO_store1 7 rfl rfl rfl sz23 rfl rfl rfl (by first | exact Nat.le_of_ble_eq_true rfl | (simp; done) | (simp; omega) | omega) ?_)) | (refine TL_cons rfl (TO_store1 8 rfl rfl rfl sz23 rfl rfl rfl (by first | exact Nat.le_of_ble_eq_true rfl | (simp; done) | (simp; omega) | omega) ?_))
  refine TL_nil ?_
  refine T_seq ?_
  refine T_seq ?_
  refine T_region ?_
  -- op 33 move t0
  refine TL_slA 2 rfl hL0 fun gb hgb => ?_
  subst hgb
  refine TL_cons rfl (TO_pure rfl (PV_move rfl) ?_)
  refine TL_pure (d := (some 34)) rfl rfl rfl (PV_nilCheck rfl) ?_
  refine TL_pure (d := (some 35)) rfl rfl rfl (PV_fieldAddr (D := 7) Try.underlying140 rfl sz23 (by decide) rfl rfl) ?_
  refine TL_pure (d := (some 36)) rfl rfl rfl (PV_load Try.underlying23 rfl rfl (by first | exact Rd.at 0 rfl rfl | exact Rd.at 1 rfl rfl | exact Rd.at 2 rfl rfl | exact Rd.at 3 rfl rfl | exact Rd.at 4 rfl rfl | exact Rd.at 5 rfl rfl | exact Rd.at 6 rfl rfl | exact Rd.at 7 rfl rfl | exact Rd.at 8 rfl rfl)) ?_
  refine TL_pure (d := (some 37)) rfl rfl rfl (PV_indexAddr (i := 0) Try.underlying23 sz5 rfl rfl rfl (by first | omega | decide | assumption)) ?_
  refine TL_pure (d := (some 38)) rfl rfl rfl (PV_load Try.underlying5 rfl rfl (Rd.at 2 rfl (nums_at' 0 rfl hL0))) ?_
  refine TL_pure (d := (some 5)) rfl rfl rfl (PV_assign rfl) ?_
  refine TL_nil ?_
  refine T_block ?_
  refine T_seq ?_
  refine T_region ?_
  refine TL_pure (d := (some 40)) rfl rfl rfl (PV_move rfl) ?_
  refine TL_pure (d := (some 41)) rfl rfl rfl (PV.cast (PV_bin rfl rfl bin_eql) (congrArg Value.bool (show _ = false by exact beq_false_of_ne h4))) ?_
  refine TL_pure (d := (some 42)) rfl rfl rfl (PV_move rfl) ?_
  -- guard 43 move t0
  refine TL_no (b := false) rfl rfl rfl rfl ?_
  refine TL_no (b := false) rfl rfl rfl rfl ?_
  refine TL_no (b := false) rfl rfl rfl rfl ?_
  refine TL_no (b := false) rfl rfl rfl rfl ?_
  first | (refine TL_pure (d := (some 47)) rfl rfl rfl (PV_pickAnd rfl rfl rfl) ?_) | (refine TL_pure (d := (some 47)) rfl rfl rfl (PV_pickF rfl (by first | assumption | rfl | (simp; done) | (simp; omega)) rfl rfl) ?_)
  refine TL_pure (d := (some 39)) rfl rfl rfl (PV_assign rfl) ?_
  refine TL_nil ?_
  -- IF t39
  refine T_else rfl (by rfl) ?_
  refine T_seq ?_
  refine T_region ?_
  refine TL_pure (d := (some 52)) rfl rfl rfl (PV_move rfl) ?_
  refine TL_pure (d := (some 53)) rfl rfl rfl (PV.cast (PV_bin rfl rfl bin_eql) (congrArg Value.bool (show _ = false by exact beq_false_of_ne h24))) ?_
  refine TL_pure (d := (some 54)) rfl rfl rfl (PV_move rfl) ?_
  -- guard 55 move t0
  refine TL_no (b := false) rfl rfl rfl rfl ?_
  refine TL_no (b := false) rfl rfl rfl rfl ?_
  refine TL_no (b := false) rfl rfl rfl rfl ?_
  refine TL_no (b := false) rfl rfl rfl rfl ?_
  refine TL_no (b := false) rfl rfl rfl rfl ?_
  refine TL_no (b := false) rfl rfl rfl rfl ?_
  first | (refine TL_pure (d := (some 61)) rfl rfl rfl (PV_pickAnd rfl rfl rfl) ?_) | (refine TL_pure (d := (some 61)) rfl rfl rfl (PV_pickF rfl (by first | assumption | rfl | (simp; done) | (simp; omega)) rfl rfl) ?_)
  refine TL_pure (d := (some 62)) rfl rfl rfl (PV_move rfl) ?_
  -- guard 63 move t0
  refine TL_no (b := false) rfl rfl rfl rfl ?_
  refine TL_no (b := false) rfl rfl rfl rfl ?_
  refine TL_no (b := false) rfl rfl rfl rfl ?_
  refine TL_no (b := false) rfl rfl rfl rfl ?_
  refine TL_no (b := false) rfl rfl rfl rfl ?_
  refine TL_no (b := false) rfl rfl rfl rfl ?_
  refine TL_no (b := false) rfl rfl rfl rfl ?_
  first | (refine TL_pure (d := (some 70)) rfl rfl rfl (PV_pickAnd rfl rfl rfl) ?_) | (refine TL_pure (d := (some 70)) rfl rfl rfl (PV_pickF rfl (by first | assumption | rfl | (simp; done) | (simp; omega)) rfl rfl) ?_)
  refine TL_pure (d := (some 51)) rfl rfl rfl (PV_assign rfl) ?_
  refine TL_nil ?_
  -- IF t51
  refine T_else rfl (by rfl) ?_
  refine T_seq ?_
  refine T_region ?_
  refine TL_pure (d := (some 75)) rfl rfl rfl (PV_move rfl) ?_
  refine TL_pure (d := (some 76)) rfl rfl rfl (PV.cast (PV_bin rfl rfl bin_eql) (congrArg Value.bool (show _ = false by exact beq_false_of_ne h24))) ?_
  refine TL_pure (d := (some 77)) rfl rfl rfl (PV_move rfl) ?_
  -- guard 78 move t0
  refine TL_no (b := false) rfl rfl rfl rfl ?_
  refine TL_no (b := false) rfl rfl rfl rfl ?_
  refine TL_no (b := false) rfl rfl rfl rfl ?_
  refine TL_no (b := false) rfl rfl rfl rfl ?_
  refine TL_no (b := false) rfl rfl rfl rfl ?_
  refine TL_no (b := false) rfl rfl rfl rfl ?_
  first | (refine TL_pure (d := (some 84)) rfl rfl rfl (PV_pickAnd rfl rfl rfl) ?_) | (refine TL_pure (d := (some 84)) rfl rfl rfl (PV_pickF rfl (by first | assumption | rfl | (simp; done) | (simp; omega)) rfl rfl) ?_)
  refine TL_pure (d := (some 74)) rfl rfl rfl (PV_assign rfl) ?_
  refine TL_nil ?_
  -- IF t74
  refine T_else rfl (by rfl) ?_
  refine T_skip ?_
  refine T_seq ?_
  refine T_drawn (WH _ _ _) mixed (by intro w h; exact h) ?_
  refine TA_take (dd := (some 86)) 0 rfl (by kernel_rfl) (by kernel_rfl) (by kernel_rfl) rfl rfl rfl (PV_move rfl) ?_
  refine TA_take (dd := (some 87)) 1 rfl (by kernel_rfl) (by kernel_rfl) (by kernel_rfl) rfl rfl rfl (PV_nilCheck rfl) ?_
  refine TA_take (dd := (some 88)) 2 rfl (by kernel_rfl) (by kernel_rfl) (by kernel_rfl) rfl rfl rfl (PV_fieldAddr (D := 7) Try.underlying140 rfl sz23 (by decide) rfl rfl) ?_
  first | (refine TA_take (dd := (some 89)) 3 rfl (by kernel_rfl) (by kernel_rfl) (by kernel_rfl) rfl rfl rfl (PV_load Try.underlying23 rfl rfl (by first | exact Rd.at 0 rfl rfl | exact Rd.at 1 rfl rfl | exact Rd.at 2 rfl rfl | exact Rd.at 3 rfl rfl | exact Rd.at 4 rfl rfl | exact Rd.at 5 rfl rfl | exact Rd.at 6 rfl rfl | exact Rd.at 7 rfl rfl | exact Rd.at 8 rfl rfl)) ?_) | (refine TA_pure1 (dd := (some 89)) 3 (by kernel_rfl) rfl rfl rfl rfl (PV_load Try.underlying23 rfl rfl (by first | exact Rd.at 0 rfl rfl | exact Rd.at 1 rfl rfl | exact Rd.at 2 rfl rfl | exact Rd.at 3 rfl rfl | exact Rd.at 4 rfl rfl | exact Rd.at 5 rfl rfl | exact Rd.at 6 rfl rfl | exact Rd.at 7 rfl rfl | exact Rd.at 8 rfl rfl)) ?_)
  refine TA_take (dd := (some 90)) 4 rfl (by kernel_rfl) (by kernel_rfl) (by kernel_rfl) rfl rfl rfl (PV_move rfl) ?_
  refine TA_take (dd := (some 91)) 5 rfl (by kernel_rfl) (by kernel_rfl) (by kernel_rfl) rfl rfl rfl (PV_nilCheck rfl) ?_
  refine TA_take (dd := (some 92)) 6 rfl (by kernel_rfl) (by kernel_rfl) (by kernel_rfl) rfl rfl rfl (PV_fieldAddr (D := 0) Try.underlying140 rfl sz4 (by decide) rfl rfl) ?_
  first | (refine TA_take (dd := (some 93)) 7 rfl (by kernel_rfl) (by kernel_rfl) (by kernel_rfl) rfl rfl rfl (PV_load Try.underlying4 rfl rfl (by first | exact Rd.at 0 rfl rfl | exact Rd.at 1 rfl rfl | exact Rd.at 2 rfl rfl | exact Rd.at 3 rfl rfl | exact Rd.at 4 rfl rfl | exact Rd.at 5 rfl rfl | exact Rd.at 6 rfl rfl | exact Rd.at 7 rfl rfl | exact Rd.at 8 rfl rfl)) ?_) | (refine TA_pure1 (dd := (some 93)) 7 (by kernel_rfl) rfl rfl rfl rfl (PV_load Try.underlying4 rfl rfl (by first | exact Rd.at 0 rfl rfl | exact Rd.at 1 rfl rfl | exact Rd.at 2 rfl rfl | exact Rd.at 3 rfl rfl | exact Rd.at 4 rfl rfl | exact Rd.at 5 rfl rfl | exact Rd.at 6 rfl rfl | exact Rd.at 7 rfl rfl | exact Rd.at 8 rfl rfl)) ?_)
  -- ('many', [8, 12])
  refine TA_hard (rs := [8, 12]) (by kernel_rfl) (by decide) ?_
  refine List.forall_mem_cons.2 ⟨?_, List.forall_mem_cons.2 ⟨?_, by simp⟩⟩
  · skip
    refine ⟨_, rfl, rfl, (TO_call0 call52 rfl rfl (t52no crc hs (by decide) (Shows.at 2 rfl) rfl (by omega) hc30 hu) ?_)⟩
    rintro v94 H94 ⟨rfl, rfl⟩
    refine ⟨by intro w h; first | exact h | exact h.tl | exact h.tl.tl, ?_⟩
    refine TA_take (dd := (some 85)) 9 rfl (by kernel_rfl) (by kernel_rfl) (by kernel_rfl) rfl rfl rfl (PV_move rfl) ?_
    refine TA_take (dd := (some 95)) 10 rfl (by kernel_rfl) (by kernel_rfl) (by kernel_rfl) rfl rfl rfl (PV_extract rfl rfl) ?_
    refine TA_take (dd := (some 96)) 11 rfl (by kernel_rfl) (by kernel_rfl) (by kernel_rfl) rfl rfl rfl (PV_extract rfl rfl) ?_
    refine TA_one 12 (by kernel_rfl) rfl rfl (TO_alloc rfl zr58 fun g6 => ?_)
    refine ⟨by intro w h; first | exact h | exact h.tl | exact h.tl.tl, ?_⟩
    first | (refine TA_one 13 (by kernel_rfl) rfl rfl (TO_store 0 rfl rfl rfl sz58 rfl rfl rfl (by simp [Value.cells, Value.oneCell']) (by first | exact Nat.le_of_ble_eq_true rfl | (simp; done) | (simp; omega) | omega) ?_)) | (refine TA_one 13 (by kernel_rfl) rfl rfl (TO_store 1 rfl rfl rfl sz58 rfl rfl rfl (by simp [Value.cells, Value.oneCell']) (by first | exact Nat.le_of_ble_eq_true rfl | (simp; done) | (simp; omega) | omega) ?_)) | (refine TA_one 13 (by kernel_rfl) rfl rfl (TO_store 2 rfl rfl rfl sz58 rfl rfl rfl (by simp [Value.cells, Value.oneCell']) (by first | exact Nat.le_of_ble_eq_true rfl | (simp; done) | (simp; omega) | omega) ?_)) | (refine TA_one 13 (by kernel_rfl) rfl rfl (TO_store 3 rfl rfl rfl sz58 rfl rfl rfl (by simp [Value.cells, Value.oneCell']) (by first | exact Nat.le_of_ble_eq_true rfl | (simp; done) | (simp; omega) | omega) ?_)) | (refine TA_one 13 (by kernel_rfl) rfl rfl (TO_store 4 rfl rfl rfl sz58 rfl rfl rfl (by simp [Value.cells, Value.oneCell']) (by first | exact Nat.le_of_ble_eq_true rfl | (simp; done) | (simp; omega) | omega) ?_)) | (refine TA_one 13 (by kernel_rfl) rfl rfl (TO_store 5 rfl rfl rfl sz58 rfl rfl rfl (by simp [Value.cells, Value.oneCell']) (by first | exact Nat.le_of_ble_eq_true rfl | (simp; done) | (simp; omega) | omega) ?_)) | (refine TA_one 13 (by kernel_rfl) rfl rfl (TO_store 6 rfl rfl rfl sz58 rfl rfl rfl (by simp [Value.cells, Value.oneCell']) (by first | exact Nat.le_of_ble_eq_true rfl | (simp; done) | (simp; omega) | omega) ?_)) | (refine TA_one 13 (by kernel_rfl) rfl rfl (TO_store 7 rfl rfl rfl sz58 rfl rfl rfl (by simp [Value.cells, Value.oneCell']) (by first | exact Nat.le_of_ble_eq_true rfl | (simp; done) | (simp; omega) | omega) ?_)) | (refine TA_one 13 (by kernel_rfl) rfl rfl (TO_store 8 rfl rfl rfl sz58 rfl rfl rfl (by simp [Value.cells, Value.oneCell']) (by first | exact Nat.le_of_ble_eq_true rfl | (simp; done) | (simp; omega) | omega) ?_))
    refine ⟨by intro w h; first | exact h | exact h.tl | exact h.tl.tl, ?_⟩
    refine TA_take (dd := (some 7)) 14 rfl (by kernel_rfl) (by kernel_rfl) (by kernel_rfl) rfl rfl rfl (PV_assign rfl) ?_
    refine TA_done (by kernel_rfl) ?_
    refine T_seq ?_
    refine T_seq ?_
    refine T_region ?_
    refine TL_pure (d := (some 97)) rfl rfl rfl (PV_move rfl) ?_
    refine TL_nil ?_
    refine T_block ?_
    refine T_seq ?_
    refine T_region ?_
    refine TL_pure (d := (some 99)) rfl rfl rfl (PV_bin rfl rfl bin_eql) ?_
    refine TL_pure (d := (some 98)) rfl rfl rfl (PV_assign rfl) ?_
    refine TL_nil ?_
    -- IF t98
    refine T_then rfl (by rfl) ?_
    refine T_seq ?_
    refine T_region ?_
    refine TL_pure (d := (some 4)) rfl rfl rfl (PV_assign rfl) ?_
    refine TL_nil ?_
    refine T_ret ?_
    -- ('ret',)
    refine ⟨_, _, ?_, ResV_one rfl rfl, ⟨some ⟨gb, 0, none⟩, c30, rfl, hc30, rfl⟩⟩
    repeat (first | exact List.Sublist.refl _ | apply List.Sublist.cons_cons | apply List.Sublist.cons)
  · skip
    refine ⟨_, rfl, rfl, (TO_alloc rfl zr58 fun g6 => ?_)⟩
    refine ⟨by intro w h; first | exact h | exact h.tl | exact h.tl.tl, ?_⟩
    -- dop 8 94 call F52(t89, t93)
    refine TA_one 8 (by kernel_rfl) rfl rfl (TO_call0 call52 rfl rfl (t52no crc hs (by decide) (Shows.at 3 rfl) rfl (by omega) hc30 hu) ?_)
    rintro v94 H94 ⟨rfl, rfl⟩
    refine ⟨by intro w h; first | exact h | exact h.tl | exact h.tl.tl, ?_⟩
    refine TA_take (dd := (some 85)) 9 rfl (by kernel_rfl) (by kernel_rfl) (by kernel_rfl) rfl rfl rfl (PV_move rfl) ?_
    refine TA_take (dd := (some 95)) 10 rfl (by kernel_rfl) (by kernel_rfl) (by kernel_rfl) rfl rfl rfl (PV_extract rfl rfl) ?_
    refine TA_take (dd := (some 96)) 11 rfl (by kernel_rfl) (by kernel_rfl) (by kernel_rfl) rfl rfl rfl (PV_extract rfl rfl) ?_
    first | (refine TA_one 13 (by kernel_rfl) rfl rfl (TO_store 0 rfl rfl rfl sz58 rfl rfl rfl (by simp [Value.cells, Value.oneCell']) (by first | exact Nat.le_of_ble_eq_true rfl | (simp; done) | (simp; omega) | omega) ?_)) | (refine TA_one 13 (by kernel_rfl) rfl rfl (TO_store 1 rfl rfl rfl sz58 rfl rfl rfl (by simp [Value.cells, Value.oneCell']) (by first | exact Nat.le_of_ble_eq_true rfl | (simp; done) | (simp; omega) | omega) ?_)) | (refine TA_one 13 (by kernel_rfl) rfl rfl (TO_store 2 rfl rfl rfl sz58 rfl rfl rfl (by simp [Value.cells, Value.oneCell']) (by first | exact Nat.le_of_ble_eq_true rfl | (simp; done) | (simp; omega) | omega) ?_)) | (refine TA_one 13 (by kernel_rfl) rfl rfl (TO_store 3 rfl rfl rfl sz58 rfl rfl rfl (by simp [Value.cells, Value.oneCell']) (by first | exact Nat.le_of_ble_eq_true rfl | (simp; done) | (simp; omega) | omega) ?_)) | (refine TA_one 13 (by kernel_rfl) rfl rfl (TO_store 4 rfl rfl rfl sz58 rfl rfl rfl (by simp [Value.cells, Value.oneCell']) (by first | exact Nat.le_of_ble_eq_true rfl | (simp; done) | (simp; omega) | omega) ?_)) | (refine TA_one 13 (by kernel_rfl) rfl rfl (TO_store 5 rfl rfl rfl sz58 rfl rfl rfl (by simp [Value.cells, Value.oneCell']) (by first | exact Nat.le_of_ble_eq_true rfl | (simp; done) | (simp; omega) | omega) ?_)) | (refine TA_one 13 (by kernel_rfl) rfl rfl (TO_store 6 rfl rfl rfl sz58 rfl rfl rfl (by simp [Value.cells, Value.oneCell']) (by first | exact Nat.le_of_ble_eq_true rfl | (simp; done) | (simp; omega) | omega) ?_)) | (refine TA_one 13 (by kernel_rfl) rfl rfl (TO_store 7 rfl rfl rfl sz58 rfl rfl rfl (by simp [Value.cells, Value.oneCell']) (by first | exact Nat.le_of_ble_eq_true rfl | (simp; done) | (simp; omega) | omega) ?_)) | (refine TA_one 13 (by kernel_rfl) rfl rfl (TO_store 8 rfl rfl rfl sz58 rfl rfl rfl (by simp [Value.cells, Value.oneCell']) (by first | exact Nat.le_of_ble_eq_true rfl | (simp; done) | (simp; omega) | omega) ?_))
    refine ⟨by intro w h; first | exact h | exact h.tl | exact h.tl.tl, ?_⟩
    refine TA_take (dd := (some 7)) 14 rfl (by kernel_rfl) (by kernel_rfl) (by kernel_rfl) rfl rfl rfl (PV_assign rfl) ?_
    refine TA_done (by kernel_rfl) ?_
    refine T_seq ?_
    refine T_seq ?_
    refine T_region ?_
    refine TL_pure (d := (some 97)) rfl rfl rfl (PV_move rfl) ?_
    refine TL_nil ?_
    refine T_block ?_
    refine T_seq ?_
    refine T_region ?_
    refine TL_pure (d := (some 99)) rfl rfl rfl (PV_bin rfl rfl bin_eql) ?_
    refine TL_pure (d := (some 98)) rfl rfl rfl (PV_assign rfl) ?_
    refine TL_nil ?_
    -- IF t98
    refine T_then rfl (by rfl) ?_
    refine T_seq ?_
    refine T_region ?_
    refine TL_pure (d := (some 4)) rfl rfl rfl (PV_assign rfl) ?_
    refine TL_nil ?_
    refine T_ret ?_
    -- ('ret',)
    refine ⟨_, _, ?_, ResV_one rfl rfl, ⟨some ⟨gb, 0, none⟩, c30, rfl, hc30, rfl⟩⟩
    repeat (first | exact List.Sublist.refl _ | apply List.Sublist.cons_cons | apply List.Sublist.cons)
set_option maxRecDepth 100000 in
theorem t99again {g : Nat} (r : Rcv) {Y : List Chunk} {Ax : Option Addr} {m cx : Nat} {num : Int} (hn : 0 ≤ r.number ∧ r.number ≤ 255) (hnum : num = (r.number - 1) % 256) (hbeg : r.begun = true) (hcl : r.close = true) :
    TCall Try.prog w0 B 99 #[.pointer (some ⟨g, 0, none⟩), .agg #[.int .u8 num, .slice Ax m cx]] (fun v H' => ∃ (A6 : Option Addr) (k6 : Nat), v = .slice A6 1 k6 ∧ 1 ≤ k6 ∧ H' = .sl (.slice A6 1 k6) 1 1 (nums .u8 [6]) :: rcvC g r :: Y) (rcvC g r :: Y) := by
  subst hnum
  obtain ⟨crc, wait, tries, left, number, begun, close, bA, bc, buf, dA, dc, dat, blocks, want, over, err⟩ := r
  dsimp only at hn hbeg hcl
  subst hbeg
  subst hcl
  refine TCall_intro (args := [_, _]) Try.func99 rfl Try.ntmps99 (Nat.le_of_ble_eq_true rfl) ?_
  refine T_seq ?_
  refine T_region ?_
  refine TL_cons rfl (TO_box rfl rfl fun g3 => ?_)
  refine TL_pure (d := (some 4)) rfl rfl rfl (PV_assign rfl) ?_
  refine TL_nil ?_
  refine T_seq ?_
  refine T_block ?_
  refine T_seq ?_
  refine T_drawn (WH _ _ _) mixed (by intro w h; exact h) ?_
  refine TA_take (dd := (some 6)) 0 rfl (by kernel_rfl) (by kernel_rfl) (by kernel_rfl) rfl rfl rfl (PV_fieldAddr (D := 0) Try.underlying58 rfl sz5 (by decide) rfl rfl) ?_
  first | (refine TA_take (dd := (some 7)) 1 rfl (by kernel_rfl) (by kernel_rfl) (by kernel_rfl) rfl rfl rfl (PV_load Try.underlying5 rfl rfl (by first | exact Rd.at 0 rfl rfl | exact Rd.at 1 rfl rfl | exact Rd.at 2 rfl rfl | exact Rd.at 3 rfl rfl | exact Rd.at 4 rfl rfl | exact Rd.at 5 rfl rfl | exact Rd.at 6 rfl rfl | exact Rd.at 7 rfl rfl | exact Rd.at 8 rfl rfl)) ?_) | (refine TA_pure1 (dd := (some 7)) 1 (by kernel_rfl) rfl rfl rfl rfl (PV_load Try.underlying5 rfl rfl (by first | exact Rd.at 0 rfl rfl | exact Rd.at 1 rfl rfl | exact Rd.at 2 rfl rfl | exact Rd.at 3 rfl rfl | exact Rd.at 4 rfl rfl | exact Rd.at 5 rfl rfl | exact Rd.at 6 rfl rfl | exact Rd.at 7 rfl rfl | exact Rd.at 8 rfl rfl)) ?_)
  refine TA_take (dd := (some 8)) 2 rfl (by kernel_rfl) (by kernel_rfl) (by kernel_rfl) rfl rfl rfl (PV_move rfl) ?_
  refine TA_take (dd := (some 9)) 3 rfl (by kernel_rfl) (by kernel_rfl) (by kernel_rfl) rfl rfl rfl (PV_nilCheck rfl) ?_
  refine TA_take (dd := (some 10)) 4 rfl (by kernel_rfl) (by kernel_rfl) (by kernel_rfl) rfl rfl rfl (PV_fieldAddr (D := 4) Try.underlying140 rfl sz5 (by decide) rfl rfl) ?_
  first | (refine TA_take (dd := (some 11)) 5 rfl (by kernel_rfl) (by kernel_rfl) (by kernel_rfl) rfl rfl rfl (PV_load Try.underlying5 rfl rfl (by first | exact Rd.at 0 rfl rfl | exact Rd.at 1 rfl rfl | exact Rd.at 2 rfl rfl | exact Rd.at 3 rfl rfl | exact Rd.at 4 rfl rfl | exact Rd.at 5 rfl rfl | exact Rd.at 6 rfl rfl | exact Rd.at 7 rfl rfl | exact Rd.at 8 rfl rfl)) ?_) | (refine TA_pure1 (dd := (some 11)) 5 (by kernel_rfl) rfl rfl rfl rfl (PV_load Try.underlying5 rfl rfl (by first | exact Rd.at 0 rfl rfl | exact Rd.at 1 rfl rfl | exact Rd.at 2 rfl rfl | exact Rd.at 3 rfl rfl | exact Rd.at 4 rfl rfl | exact Rd.at 5 rfl rfl | exact Rd.at 6 rfl rfl | exact Rd.at 7 rfl rfl | exact Rd.at 8 rfl rfl)) ?_)
  refine TA_take (dd := (some 12)) 6 rfl (by kernel_rfl) (by kernel_rfl) (by kernel_rfl) rfl rfl rfl (PV_bin rfl rfl bin_eql) ?_
  refine TA_take (dd := (some 5)) 7 rfl (by kernel_rfl) (by kernel_rfl) (by kernel_rfl) rfl rfl rfl (PV_assign rfl) ?_
  refine TA_done (by kernel_rfl) ?_
  -- IF t5
  refine T_else rfl (by exact beq_false_of_ne (by show (number - 1) % 256 ≠ number; omega)) ?_
  refine T_seq ?_
  refine T_drawn (WH _ _ _) mixed (by intro w h; exact h) ?_
  refine TA_take (dd := (some 41)) 0 rfl (by kernel_rfl) (by kernel_rfl) (by kernel_rfl) rfl rfl rfl (PV_move rfl) ?_
  refine TA_take (dd := (some 42)) 1 rfl (by kernel_rfl) (by kernel_rfl) (by kernel_rfl) rfl rfl rfl (PV_nilCheck rfl) ?_
  refine TA_take (dd := (some 43)) 2 rfl (by kernel_rfl) (by kernel_rfl) (by kernel_rfl) rfl rfl rfl (PV_fieldAddr (D := 5) Try.underlying140 rfl sz4 (by decide) rfl rfl) ?_
  first | (refine TA_take (dd := (some 44)) 3 rfl (by kernel_rfl) (by kernel_rfl) (by kernel_rfl) rfl rfl rfl (PV_load Try.underlying4 rfl rfl (by first | exact Rd.at 0 rfl rfl | exact Rd.at 1 rfl rfl | exact Rd.at 2 rfl rfl | exact Rd.at 3 rfl rfl | exact Rd.at 4 rfl rfl | exact Rd.at 5 rfl rfl | exact Rd.at 6 rfl rfl | exact Rd.at 7 rfl rfl | exact Rd.at 8 rfl rfl)) ?_) | (refine TA_pure1 (dd := (some 44)) 3 (by kernel_rfl) rfl rfl rfl rfl (PV_load Try.underlying4 rfl rfl (by first | exact Rd.at 0 rfl rfl | exact Rd.at 1 rfl rfl | exact Rd.at 2 rfl rfl | exact Rd.at 3 rfl rfl | exact Rd.at 4 rfl rfl | exact Rd.at 5 rfl rfl | exact Rd.at 6 rfl rfl | exact Rd.at 7 rfl rfl | exact Rd.at 8 rfl rfl)) ?_)
  refine TA_take (dd := (some 45)) 4 rfl (by kernel_rfl) (by kernel_rfl) (by kernel_rfl) rfl rfl rfl (PV_not rfl) ?_
  refine TA_take (dd := (some 46)) 5 rfl (by kernel_rfl) (by kernel_rfl) (by kernel_rfl) rfl rfl rfl (PV_move rfl) ?_
  -- dguard 6 47 fieldAddr 58 t3 0
  refine TA_yes (dd := (some 47)) 6 rfl (by kernel_rfl) (by kernel_rfl) (by kernel_rfl) rfl rfl rfl rfl rfl (PV_fieldAddr (D := 0) Try.underlying58 rfl sz5 (by decide) rfl rfl) ?_
  refine TA_yes (dd := (some 48)) 7 rfl (by kernel_rfl) (by kernel_rfl) (by kernel_rfl) rfl rfl rfl rfl rfl (PV_load Try.underlying5 rfl rfl (by first | exact Rd.at 0 rfl rfl | exact Rd.at 1 rfl rfl | exact Rd.at 2 rfl rfl | exact Rd.at 3 rfl rfl | exact Rd.at 4 rfl rfl | exact Rd.at 5 rfl rfl | exact Rd.at 6 rfl rfl | exact Rd.at 7 rfl rfl | exact Rd.at 8 rfl rfl)) ?_
  refine TA_yes (dd := (some 49)) 8 rfl (by kernel_rfl) (by kernel_rfl) (by kernel_rfl) rfl rfl rfl rfl rfl (PV_move rfl) ?_
  refine TA_yes (dd := (some 50)) 9 rfl (by kernel_rfl) (by kernel_rfl) (by kernel_rfl) rfl rfl rfl rfl rfl (PV_nilCheck rfl) ?_
  refine TA_yes (dd := (some 51)) 10 rfl (by kernel_rfl) (by kernel_rfl) (by kernel_rfl) rfl rfl rfl rfl rfl (PV_fieldAddr (D := 4) Try.underlying140 rfl sz5 (by decide) rfl rfl) ?_
  refine TA_yes (dd := (some 52)) 11 rfl (by kernel_rfl) (by kernel_rfl) (by kernel_rfl) rfl rfl rfl rfl rfl (PV_load Try.underlying5 rfl rfl (by first | exact Rd.at 0 rfl rfl | exact Rd.at 1 rfl rfl | exact Rd.at 2 rfl rfl | exact Rd.at 3 rfl rfl | exact Rd.at 4 rfl rfl | exact Rd.at 5 rfl rfl | exact Rd.at 6 rfl rfl | exact Rd.at 7 rfl rfl | exact Rd.at 8 rfl rfl)) ?_
  refine TA_yes (dd := (some 53)) 12 rfl (by kernel_rfl) (by kernel_rfl) (by kernel_rfl) rfl rfl rfl rfl rfl (PV.cast (PV_bin rfl rfl bin_sub) (congrArg (Value.int .u8) (IntKind.wrap_u8 _))) ?_
  refine TA_yes (dd := (some 54)) 13 rfl (by kernel_rfl) (by kernel_rfl) (by kernel_rfl) rfl rfl rfl rfl rfl (PV.cast (PV_bin rfl rfl bin_neq) (congrArg Value.bool (show _ = false by exact congrArg Bool.not (beq_self_eq_true _)))) ?_
  first | (refine TA_take (dd := (some 55)) 14 rfl (by kernel_rfl) (by kernel_rfl) (by kernel_rfl) rfl rfl rfl (PV_pickOr rfl rfl rfl) ?_) | (refine TA_take (dd := (some 55)) 14 rfl (by kernel_rfl) (by kernel_rfl) (by kernel_rfl) rfl rfl rfl (PV_pickT rfl (by first | assumption | rfl | (simp; done) | (simp; omega)) rfl rfl) ?_)
  refine TA_take (dd := (some 40)) 15 rfl (by kernel_rfl) (by kernel_rfl) (by kernel_rfl) rfl rfl rfl (PV_assign rfl) ?_
  refine TA_done (by kernel_rfl) ?_
  -- IF t40
  refine T_else rfl (by rfl) ?_
  refine T_skip ?_
  refine T_seq ?_
  refine T_seq ?_
  refine T_drawn (WH _ _ _) mixed (by intro w h; exact h) ?_
  refine TA_take (dd := (some 60)) 0 rfl (by kernel_rfl) (by kernel_rfl) (by kernel_rfl) rfl rfl rfl (PV_move rfl) ?_
  refine TA_take (dd := (some 61)) 1 rfl (by kernel_rfl) (by kernel_rfl) (by kernel_rfl) rfl rfl rfl (PV_nilCheck rfl) ?_
  refine TA_take (dd := (some 62)) 2 rfl (by kernel_rfl) (by kernel_rfl) (by kernel_rfl) rfl rfl rfl (PV_fieldAddr (D := 6) Try.underlying140 rfl sz4 (by decide) rfl rfl) ?_
  first | (refine TA_take (dd := (some 63)) 3 rfl (by kernel_rfl) (by kernel_rfl) (by kernel_rfl) rfl rfl rfl (PV_load Try.underlying4 rfl rfl (by first | exact Rd.at 0 rfl rfl | exact Rd.at 1 rfl rfl | exact Rd.at 2 rfl rfl | exact Rd.at 3 rfl rfl | exact Rd.at 4 rfl rfl | exact Rd.at 5 rfl rfl | exact Rd.at 6 rfl rfl | exact Rd.at 7 rfl rfl | exact Rd.at 8 rfl rfl)) ?_) | (refine TA_pure1 (dd := (some 63)) 3 (by kernel_rfl) rfl rfl rfl rfl (PV_load Try.underlying4 rfl rfl (by first | exact Rd.at 0 rfl rfl | exact Rd.at 1 rfl rfl | exact Rd.at 2 rfl rfl | exact Rd.at 3 rfl rfl | exact Rd.at 4 rfl rfl | exact Rd.at 5 rfl rfl | exact Rd.at 6 rfl rfl | exact Rd.at 7 rfl rfl | exact Rd.at 8 rfl rfl)) ?_)
  refine TA_take (dd := (some 64)) 4 rfl (by kernel_rfl) (by kernel_rfl) (by kernel_rfl) rfl rfl rfl (PV_not rfl) ?_
  refine TA_take (dd := (some 65)) 5 rfl (by kernel_rfl) (by kernel_rfl) (by kernel_rfl) rfl rfl rfl (PV_move rfl) ?_
  -- dguard 6 66 move t0
  refine TA_no (dd := (some 66)) (b := false) 6 rfl (by kernel_rfl) (by kernel_rfl) (by kernel_rfl) rfl rfl rfl rfl rfl ?_
  refine TA_no (dd := (some 67)) (b := false) 7 rfl (by kernel_rfl) (by kernel_rfl) (by kernel_rfl) rfl rfl rfl rfl rfl ?_
  refine TA_no (dd := (some 68)) (b := false) 8 rfl (by kernel_rfl) (by kernel_rfl) (by kernel_rfl) rfl rfl rfl rfl rfl ?_
  refine TA_no (dd := (some 69)) (b := false) 9 rfl (by kernel_rfl) (by kernel_rfl) (by kernel_rfl) rfl rfl rfl rfl rfl ?_
  refine TA_no (dd := (some 70)) (b := false) 10 rfl (by kernel_rfl) (by kernel_rfl) (by kernel_rfl) rfl rfl rfl rfl rfl ?_
  refine TA_no (dd := (some 71)) (b := false) 11 rfl (by kernel_rfl) (by kernel_rfl) (by kernel_rfl) rfl rfl rfl rfl rfl ?_
  refine TA_no (dd := (some 72)) (b := false) 12 rfl (by kernel_rfl) (by kernel_rfl) (by kernel_rfl) rfl rfl rfl rfl rfl ?_
  refine TA_no (dd := (some 73)) (b := false) 13 rfl (by kernel_rfl) (by kernel_rfl) (by kernel_rfl) rfl rfl rfl rfl rfl ?_
  refine TA_no (dd := (some 74)) (b := false) 14 rfl (by kernel_rfl) (by kernel_rfl) (by kernel_rfl) rfl rfl rfl rfl rfl ?_
  first | (refine TA_take (dd := (some 75)) 15 rfl (by kernel_rfl) (by kernel_rfl) (by kernel_rfl) rfl rfl rfl (PV_pickAnd rfl rfl rfl) ?_) | (refine TA_take (dd := (some 75)) 15 rfl (by kernel_rfl) (by kernel_rfl) (by kernel_rfl) rfl rfl rfl (PV_pickF rfl (by first | assumption | rfl | (simp; done) | (simp; omega)) rfl rfl) ?_)
  refine TA_done (by kernel_rfl) ?_
  -- IF t75
  refine T_else rfl (by rfl) ?_
  refine T_skip ?_
  refine T_seq ?_
  refine T_region ?_
  -- op 79 buildSlice 23 1 [(0 cu8:6)]
  refine TL_cons rfl (TO_buildSlice (cells := #[.int .u8 6]) Try.underlying23 zs5 (by decide) rfl rfl rfl (by kernel_rfl) rfl fun g79 => ?_)
  refine TL_pure (d := (some 4)) rfl rfl rfl (PV_assign rfl) ?_
  refine TL_nil ?_
  refine T_ret ?_
  -- ('ret',)
  refine ⟨_, _, ?_, ResV_one rfl rfl, ⟨_, 1, rfl, Nat.le_refl _, rfl⟩⟩
  repeat (first | exact List.Sublist.refl _ | apply List.Sublist.cons_cons | apply List.Sublist.cons)
set_option maxRecDepth 100000 in
theorem t75again {g : Nat} (r : Rcv) {Ab : Option Addr} {m cb : Nat} {bs : List Int} (hx : Shows (WH w0 B X) Ab m 1 (nums .u8 bs)) (hm : bs.length = m) (hm0 : 0 < m) (hu : U8s (r.buf ++ bs)) (hlb : r.buf.length + m ≤ 1000000) (ho : r.over = false) (h4 : rd (r.buf ++ bs) 0 ≠ 4) (h24 : rd (r.buf ++ bs) 0 ≠ 24) (hs : scanS (r.buf ++ bs) r.crc = 2) (hn : 0 ≤ r.number ∧ r.number ≤ 255) (hnum : rd (r.buf ++ bs) 1 = (r.number - 1) % 256) (hbeg : r.begun = true) (hcl : r.close = true) :
    TCall Try.prog w0 B 75 #[.pointer (some ⟨g, 0, none⟩), .slice Ab m cb] (fun v H' => ∃ (A6 : Option Addr) (k6 : Nat), v = .slice A6 1 k6 ∧ 1 ≤ k6 ∧ H' = .sl (.slice A6 1 k6) 1 1 (nums .u8 [6]) :: rcvC g r.with :: bufC r.with :: datC r.with :: X) (rcvC g r :: bufC r :: datC r :: X) := by
  subst hm
  obtain ⟨crc, wait, tries, left, number, begun, close, bA, bc, buf, dA, dc, dat, blocks, want, over, err⟩ := r
  dsimp only at hu hlb ho h4 h24 hs hn hnum hbeg hcl
  subst ho
  refine TCall_intro (args := [_, _]) Try.func75 rfl Try.ntmps75 (Nat.le_of_ble_eq_true rfl) ?_
  refine T_addNil 1 ?_
  refine T_seq ?_
  refine T_region ?_
  refine TL_pure (d := (some 4)) rfl rfl rfl (PV_assign rfl) ?_
  refine TL_nil ?_
  refine T_seq ?_
  refine T_seq ?_
  refine T_region ?_
  refine TL_pure (d := (some 8)) rfl rfl rfl (PV_move rfl) ?_
  refine TL_pure (d := (some 9)) rfl rfl rfl (PV_nilCheck rfl) ?_
  refine TL_pure (d := (some 10)) rfl rfl rfl (PV_fieldAddr (D := 11) Try.underlying140 rfl sz4 (by decide) rfl rfl) ?_
  refine TL_pure (d := (some 11)) rfl rfl rfl (PV_load Try.underlying4 rfl rfl (by first | exact Rd.at 0 rfl rfl | exact Rd.at 1 rfl rfl | exact Rd.at 2 rfl rfl | exact Rd.at 3 rfl rfl | exact Rd.at 4 rfl rfl | exact Rd.at 5 rfl rfl | exact Rd.at 6 rfl rfl | exact Rd.at 7 rfl rfl | exact Rd.at 8 rfl rfl)) ?_
  refine TL_pure (d := (some 12)) rfl rfl rfl (PV_move rfl) ?_
  -- guard 13 move t1
  refine TL_yes rfl rfl rfl (TO_pure rfl (PV_move rfl) ?_)
  refine TL_yes rfl rfl rfl (TO_pure rfl (PV_len_slice Try.underlying23 rfl) ?_)
  refine TL_yes rfl rfl rfl (TO_pure rfl (PV_bin rfl rfl bin_eql) ?_)
  first | (refine TL_pure (d := (some 16)) rfl rfl rfl (PV_pickOr rfl rfl rfl) ?_) | (refine TL_pure (d := (some 16)) rfl rfl rfl (PV_pickT rfl (by first | assumption | rfl | (simp; done) | (simp; omega)) rfl rfl) ?_)
  refine TL_nil ?_
  -- IF t16
  refine T_else rfl (by exact beq_false_of_ne (by omega)) ?_
  refine T_skip ?_
  refine T_seq ?_
  refine T_region ?_
  refine TL_pure (d := (some 17)) rfl rfl rfl (PV_move rfl) ?_
  refine TL_pure (d := (some 18)) rfl rfl rfl (PV_move rfl) ?_
  refine TL_pure (d := (some 19)) rfl rfl rfl (PV_nilCheck rfl) ?_
  refine TL_pure (d := (some 20)) rfl rfl rfl (PV_fieldAddr (D := 1) Try.underlying140 rfl sz3 (by decide) rfl rfl) ?_
  refine TL_pure (d := (some 21)) rfl rfl rfl (PV_load Try.underlying3 rfl rfl (by first | exact Rd.at 0 rfl rfl | exact Rd.at 1 rfl rfl | exact Rd.at 2 rfl rfl | exact Rd.at 3 rfl rfl | exact Rd.at 4 rfl rfl | exact Rd.at 5 rfl rfl | exact Rd.at 6 rfl rfl | exact Rd.at 7 rfl rfl | exact Rd.at 8 rfl rfl)) ?_
  refine TL_pure (d := (some 22)) rfl rfl rfl (PV_nilCheck rfl) ?_
  refine TL_pure (d := (some 23)) rfl rfl rfl (PV_fieldAddr (D := 3) Try.underlying140 rfl sz3 (by decide) rfl rfl) ?_
  first | (refine TL_cons rfl (TO_store1 0 rfl rfl rfl sz3 rfl rfl rfl (by first | exact Nat.le_of_ble_eq_true rfl | (simp; done) | (simp; omega) | omega) ?_)) | (refine TL_cons rfl (TO_store1 1 rfl rfl rfl sz3 rfl rfl rfl (by first | exact Nat.le_of_ble_eq_true rfl | (simp; done) | (simp; omega) | omega) ?_)) | (refine TL_cons rfl (TO_store1 2 rfl rfl rfl sz3 rfl rfl rfl (by first | exact Nat.le_of_ble_eq_true rfl | (simp; done) | (simp; omega) | omega) ?_)) | (refine TL_cons rfl (TO_store1 3 rfl rfl rfl sz3 rfl rfl rfl (by first | exact Nat.le_of_ble_eq_true rfl | (simp; done) | (simp; omega) | omega) ?_)) | (refine TL_cons rfl (TO_store1 4 rfl rfl rfl sz3 rfl rfl rfl (by first | exact Nat.le_of_ble_eq_true rfl | (simp; done) | (simp; omega) | omega) ?_)) | (refine TL_cons rfl (TO_store1 5 rfl rfl rfl sz3 rfl rfl rfl (by first | exact Nat.le_of_ble_eq_true rfl | (simp; done) | (simp; omega) | omega) ?_)) | (refine TL_cons rfl (TO_store1 6 rfl rfl rfl sz3 rfl rfl rfl (by first | exact Nat.le_of_ble_eq_true rfl | (simp; done) | (simp; omega) | omega) ?_)) | (refine TL_cons rfl (TO_store1 7 rfl rfl rfl sz3 rfl rfl rfl (by first | exact Nat.le_of_ble_eq_true rfl | (simp; done) | (simp; omega) | omega) ?_)) | (refine TL_cons rfl (TO_store1 8 rfl rfl rfl sz3 rfl rfl rfl (by first | exact Nat.le_of_ble_eq_true rfl | (simp; done) | (simp; omega) | omega) ?_))
  refine TL_nil ?_
  refine T_seq ?_
  refine T_region ?_
  refine TL_pure (d := (some 24)) rfl rfl rfl (PV_move rfl) ?_
  refine TL_pure (d := (some 25)) rfl rfl rfl (PV_move rfl) ?_
  refine TL_pure (d := (some 26)) rfl rfl rfl (PV_nilCheck rfl) ?_
  refine TL_pure (d := (some 27)) rfl rfl rfl (PV_fieldAddr (D := 7) Try.underlying140 rfl sz23 (by decide) rfl rfl) ?_
  refine TL_pure (d := (some 28)) rfl rfl rfl (PV_load Try.underlying23 rfl rfl (by first | exact Rd.at 0 rfl rfl | exact Rd.at 1 rfl rfl | exact Rd.at 2 rfl rfl | exact Rd.at 3 rfl rfl | exact Rd.at 4 rfl rfl | exact Rd.at 5 rfl rfl | exact Rd.at 6 rfl rfl | exact Rd.at 7 rfl rfl | exact Rd.at 8 rfl rfl)) ?_
  refine TL_pure (d := (some 29)) rfl rfl rfl (PV_move rfl) ?_
  -- op 30 append(t28, t29) [23, 23]
  refine TL_cons rfl (TO_append 2 rfl Try.underlying23 zb5 rfl (by decide) rfl rfl rfl (hx.mono fun w h => h.tl.tl.tl.tl) nums_one (by show (buf.length + bs.length) * 1 ≤ 140737488355328; omega) (by show buf.length + bs.length ≤ 9223372036854775807; omega) fun A30 c30 hc30 => ?_)
  rw [show nums .u8 buf ++ nums .u8 bs = nums .u8 (buf ++ bs) from List.map_append.symm, show buf.length + bs.length = (buf ++ bs).length from List.length_append.symm]
  replace hc30 : (buf ++ bs).length ≤ c30 := by rw [List.length_append]; exact hc30
  have hL0 : 0 < (buf ++ bs).length := by rw [List.length_append]; omega
  have hLm : (buf ++ bs).length ≤ 1000000 := by rw [List.length_append]; omega
  obtain ⟨L, hL⟩ : ∃ L, buf ++ bs = L := ⟨_, rfl⟩
  rw [hL] at hu h4 h24 hs hnum hc30 hL0 hLm ⊢
  refine TL_pure (d := (some 31)) rfl rfl rfl (PV_nilCheck rfl) ?_
  refine TL_pure (d := (some 32)) rfl rfl rfl (PV_fieldAddr (D := 7) Try.underlying140 rfl sz23 (by decide) rfl rfl) ?_
  first | (refine TL_cons rfl (TO_store1 0 rfl rfl rfl sz23 rfl rfl rfl (by first | exact Nat.le_of_ble_eq_true rfl | (simp; done) | (simp; omega) | omega) ?_)) | (refine TL_cons rfl (TO_store1 1 rfl rfl rfl sz23 rfl rfl rfl (by first | exact Nat.le_of_ble_eq_true rfl | (simp; done) | (simp; omega) | omega) ?_)) | (refine TL_cons rfl (TO_store1 2 rfl rfl rfl sz23 rfl rfl rfl (by first | exact Nat.le_of_ble_eq_true rfl | (simp; done) | (simp; omega) | omega) ?_)) | (refine TL_cons rfl (TO_store1 3 rfl rfl rfl sz23 rfl rfl rfl (by first | exact Nat.le_of_ble_eq_true rfl | (simp; done) | (simp; omega) | omega) ?_)) | (refine TL_cons rfl (TO_store1 4 rfl rfl rfl sz23 rfl rfl rfl (by first | exact Nat.le_of_ble_eq_true rfl | (simp; done) | (simp; omega) | omega) ?_)) | (refine TL_cons rfl (TO_store1 5 rfl rfl rfl sz23 rfl rfl rfl (by first | exact Nat.le_of_ble_eq_true rfl | (simp; done) | (simp; omega) | omega) ?_)) | (refine TL_cons rfl (TO_store1 6 rfl rfl rfl sz23 rfl rfl rfl (by first | exact Nat.le_of_ble_eq_true rfl | (simp; done) | (simp; omega) | omega) ?_)) | (refine TL_cons rfl (TO_store1 7 rfl rfl rfl sz23 rfl rfl rfl (by first | exact Nat.le_of_ble_eq_true rfl | (simp; done) | (simp; omega) | omega) ?_)) | (refine TL_cons rfl (TO_store1 8 rfl rfl rfl sz23 rfl rfl rfl (by first | exact Nat.le_of_ble_eq_true rfl | (simp; done) | (simp; omega) | omega) ?_))
  refine TL_nil ?_
  refine T_seq ?_
  refine T_seq ?_
  refine T_region ?_
  -- op 33 move t0
  refine TL_slA 2 rfl hL0 fun gb hgb => ?_
  subst hgb
  refine TL_cons rfl (TO_pure rfl (PV_move rfl) ?_)
  refine TL_pure (d := (some 34)) rfl rfl rfl (PV_nilCheck rfl) ?_
  refine TL_pure (d := (some 35)) rfl rfl rfl (PV_fieldAddr (D := 7) Try.underlying140 rfl sz23 (by decide) rfl rfl) ?_
  refine TL_pure (d := (some 36)) rfl rfl rfl (PV_load Try.underlying23 rfl rfl (by first | exact Rd.at 0 rfl rfl | exact Rd.at 1 rfl rfl | exact Rd.at 2 rfl rfl | exact Rd.at 3 rfl rfl | exact Rd.at 4 rfl rfl | exact Rd.at 5 rfl rfl | exact Rd.at 6 rfl rfl | exact Rd.at 7 rfl rfl | exact Rd.at 8 rfl rfl)) ?_
  refine TL_pure (d := (some 37)) rfl rfl rfl (PV_indexAddr (i := 0) Try.underlying23 sz5 rfl rfl rfl (by first | omega | decide | assumption)) ?_
  refine TL_pure (d := (some 38)) rfl rfl rfl (PV_load Try.underlying5 rfl rfl (Rd.at 2 rfl (nums_at' 0 rfl hL0))) ?_
  refine TL_pure (d := (some 5)) rfl rfl rfl (PV_assign rfl) ?_
  refine TL_nil ?_
  refine T_block ?_
  refine T_seq ?_
  refine T_region ?_
  refine TL_pure (d := (some 40)) rfl rfl rfl (PV_move rfl) ?_
  refine TL_pure (d := (some 41)) rfl rfl rfl (PV.cast (PV_bin rfl rfl bin_eql) (congrArg Value.bool (show _ = false by exact beq_false_of_ne h4))) ?_
  refine TL_pure (d := (some 42)) rfl rfl rfl (PV_move rfl) ?_
  -- guard 43 move t0
  refine TL_no (b := false) rfl rfl rfl rfl ?_
  refine TL_no (b := false) rfl rfl rfl rfl ?_
  refine TL_no (b := false) rfl rfl rfl rfl ?_
  refine TL_no (b := false) rfl rfl rfl rfl ?_
  first | (refine TL_pure (d := (some 47)) rfl rfl rfl (PV_pickAnd rfl rfl rfl) ?_) | (refine TL_pure (d := (some 47)) rfl rfl rfl (PV_pickF rfl (by first | assumption | rfl | (simp; done) | (simp; omega)) rfl rfl) ?_)
  refine TL_pure (d := (some 39)) rfl rfl rfl (PV_assign rfl) ?_
  refine TL_nil ?_
  -- IF t39
  refine T_else rfl (by rfl) ?_
  refine T_seq ?_
  refine T_region ?_
  refine TL_pure (d := (some 52)) rfl rfl rfl (PV_move rfl) ?_
  refine TL_pure (d := (some 53)) rfl rfl rfl (PV.cast (PV_bin rfl rfl bin_eql) (congrArg Value.bool (show _ = false by exact beq_false_of_ne h24))) ?_
  refine TL_pure (d := (some 54)) rfl rfl rfl (PV_move rfl) ?_
  -- guard 55 move t0
  refine TL_no (b := false) rfl rfl rfl rfl ?_
  refine TL_no (b := false) rfl rfl rfl rfl ?_
  refine TL_no (b := false) rfl rfl rfl rfl ?_
  refine TL_no (b := false) rfl rfl rfl rfl ?_
  refine TL_no (b := false) rfl rfl rfl rfl ?_
  refine TL_no (b := false) rfl rfl rfl rfl ?_
  first | (refine TL_pure (d := (some 61)) rfl rfl rfl (PV_pickAnd rfl rfl rfl) ?_) | (refine TL_pure (d := (some 61)) rfl rfl rfl (PV_pickF rfl (by first | assumption | rfl | (simp; done) | (simp; omega)) rfl rfl) ?_)
  refine TL_pure (d := (some 62)) rfl rfl rfl (PV_move rfl) ?_
  -- guard 63 move t0
  refine TL_no (b := false) rfl rfl rfl rfl ?_
  refine TL_no (b := false) rfl rfl rfl rfl ?_
  refine TL_no (b := false) rfl rfl rfl rfl ?_
  refine TL_no (b := false) rfl rfl rfl rfl ?_
  refine TL_no (b := false) rfl rfl rfl rfl ?_
  refine TL_no (b := false) rfl rfl rfl rfl ?_
  refine TL_no (b := false) rfl rfl rfl rfl ?_
  first | (refine TL_pure (d := (some 70)) rfl rfl rfl (PV_pickAnd rfl rfl rfl) ?_) | (refine TL_pure (d := (some 70)) rfl rfl rfl (PV_pickF rfl (by first | assumption | rfl | (simp; done) | (simp; omega)) rfl rfl) ?_)
  refine TL_pure (d := (some 51)) rfl rfl rfl (PV_assign rfl) ?_
  refine TL_nil ?_
  -- IF t51
  refine T_else rfl (by rfl) ?_
  refine T_seq ?_
  refine T_region ?_
  refine TL_pure (d := (some 75)) rfl rfl rfl (PV_move rfl) ?_
  refine TL_pure (d := (some 76)) rfl rfl rfl (PV.cast (PV_bin rfl rfl bin_eql) (congrArg Value.bool (show _ = false by exact beq_false_of_ne h24))) ?_
  refine TL_pure (d := (some 77)) rfl rfl rfl (PV_move rfl) ?_
  -- guard 78 move t0
  refine TL_no (b := false) rfl rfl rfl rfl ?_
  refine TL_no (b := false) rfl rfl rfl rfl ?_
  refine TL_no (b := false) rfl rfl rfl rfl ?_
  refine TL_no (b := false) rfl rfl rfl rfl ?_
  refine TL_no (b := false) rfl rfl rfl rfl ?_
  refine TL_no (b := false) rfl rfl rfl rfl ?_
  first | (refine TL_pure (d := (some 84)) rfl rfl rfl (PV_pickAnd rfl rfl rfl) ?_) | (refine TL_pure (d := (some 84)) rfl rfl rfl (PV_pickF rfl (by first | assumption | rfl | (simp; done) | (simp; omega)) rfl rfl) ?_)
  refine TL_pure (d := (some 74)) rfl rfl rfl (PV_assign rfl) ?_
  refine TL_nil ?_
  -- IF t74
  refine T_else rfl (by rfl) ?_
  refine T_skip ?_
  refine T_seq ?_
  refine T_drawn (WH _ _ _) mixed (by intro w h; exact h) ?_
  refine TA_take (dd := (some 86)) 0 rfl (by kernel_rfl) (by kernel_rfl) (by kernel_rfl) rfl rfl rfl (PV_move rfl) ?_
  refine TA_take (dd := (some 87)) 1 rfl (by kernel_rfl) (by kernel_rfl) (by kernel_rfl) rfl rfl rfl (PV_nilCheck rfl) ?_
  refine TA_take (dd := (some 88)) 2 rfl (by kernel_rfl) (by kernel_rfl) (by kernel_rfl) rfl rfl rfl (PV_fieldAddr (D := 7) Try.underlying140 rfl sz23 (by decide) rfl rfl) ?_
  first | (refine TA_take (dd := (some 89)) 3 rfl (by kernel_rfl) (by kernel_rfl) (by kernel_rfl) rfl rfl rfl (PV_load Try.underlying23 rfl rfl (by first | exact Rd.at 0 rfl rfl | exact Rd.at 1 rfl rfl | exact Rd.at 2 rfl rfl | exact Rd.at 3 rfl rfl | exact Rd.at 4 rfl rfl | exact Rd.at 5 rfl rfl | exact Rd.at 6 rfl rfl | exact Rd.at 7 rfl rfl | exact Rd.at 8 rfl rfl)) ?_) | (refine TA_pure1 (dd := (some 89)) 3 (by kernel_rfl) rfl rfl rfl rfl (PV_load Try.underlying23 rfl rfl (by first | exact Rd.at 0 rfl rfl | exact Rd.at 1 rfl rfl | exact Rd.at 2 rfl rfl | exact Rd.at 3 rfl rfl | exact Rd.at 4 rfl rfl | exact Rd.at 5 rfl rfl | exact Rd.at 6 rfl rfl | exact Rd.at 7 rfl rfl | exact Rd.at 8 rfl rfl)) ?_)
  refine TA_take (dd := (some 90)) 4 rfl (by kernel_rfl) (by kernel_rfl) (by kernel_rfl) rfl rfl rfl (PV_move rfl) ?_
  refine TA_take (dd := (some 91)) 5 rfl (by kernel_rfl) (by kernel_rfl) (by kernel_rfl) rfl rfl rfl (PV_nilCheck rfl) ?_
  refine TA_take (dd := (some 92)) 6 rfl (by kernel_rfl) (by kernel_rfl) (by kernel_rfl) rfl rfl rfl (PV_fieldAddr (D := 0) Try.underlying140 rfl sz4 (by decide) rfl rfl) ?_
  first | (refine TA_take (dd := (some 93)) 7 rfl (by kernel_rfl) (by kernel_rfl) (by kernel_rfl) rfl rfl rfl (PV_load Try.underlying4 rfl rfl (by first | exact Rd.at 0 rfl rfl | exact Rd.at 1 rfl rfl | exact Rd.at 2 rfl rfl | exact Rd.at 3 rfl rfl | exact Rd.at 4 rfl rfl | exact Rd.at 5 rfl rfl | exact Rd.at 6 rfl rfl | exact Rd.at 7 rfl rfl | exact Rd.at 8 rfl rfl)) ?_) | (refine TA_pure1 (dd := (some 93)) 7 (by kernel_rfl) rfl rfl rfl rfl (PV_load Try.underlying4 rfl rfl (by first | exact Rd.at 0 rfl rfl | exact Rd.at 1 rfl rfl | exact Rd.at 2 rfl rfl | exact Rd.at 3 rfl rfl | exact Rd.at 4 rfl rfl | exact Rd.at 5 rfl rfl | exact Rd.at 6 rfl rfl | exact Rd.at 7 rfl rfl | exact Rd.at 8 rfl rfl)) ?_)
  -- ('many', [8, 12])
  refine TA_hard (rs := [8, 12]) (by kernel_rfl) (by decide) ?_
  refine List.forall_mem_cons.2 ⟨?_, List.forall_mem_cons.2 ⟨?_, by simp⟩⟩
  · skip
    refine ⟨_, rfl, rfl, (TO_call0 call52 rfl rfl (t52yes crc hs (Shows.at 2 rfl) rfl (by omega) hc30 hu) ?_)⟩
    rintro v94 H94 ⟨A94, k94, rfl, hk94, rfl⟩
    refine ⟨by intro w h; first | exact h | exact h.tl | exact h.tl.tl, ?_⟩
    refine TA_take (dd := (some 85)) 9 rfl (by kernel_rfl) (by kernel_rfl) (by kernel_rfl) rfl rfl rfl (PV_move rfl) ?_
    refine TA_take (dd := (some 95)) 10 rfl (by kernel_rfl) (by kernel_rfl) (by kernel_rfl) rfl rfl rfl (PV_extract rfl rfl) ?_
    refine TA_take (dd := (some 96)) 11 rfl (by kernel_rfl) (by kernel_rfl) (by kernel_rfl) rfl rfl rfl (PV_extract rfl rfl) ?_
    refine TA_one 12 (by kernel_rfl) rfl rfl (TO_alloc rfl zr58 fun g6 => ?_)
    refine ⟨by intro w h; first | exact h | exact h.tl | exact h.tl.tl, ?_⟩
    first | (refine TA_one 13 (by kernel_rfl) rfl rfl (TO_store 0 rfl rfl rfl sz58 rfl rfl rfl (by simp [Value.cells, Value.oneCell']) (by first | exact Nat.le_of_ble_eq_true rfl | (simp; done) | (simp; omega) | omega) ?_)) | (refine TA_one 13 (by kernel_rfl) rfl rfl (TO_store 1 rfl rfl rfl sz58 rfl rfl rfl (by simp [Value.cells, Value.oneCell']) (by first | exact Nat.le_of_ble_eq_true rfl | (simp; done) | (simp; omega) | omega) ?_)) | (refine TA_one 13 (by kernel_rfl) rfl rfl (TO_store 2 rfl rfl rfl sz58 rfl rfl rfl (by simp [Value.cells, Value.oneCell']) (by first | exact Nat.le_of_ble_eq_true rfl | (simp; done) | (simp; omega) | omega) ?_)) | (refine TA_one 13 (by kernel_rfl) rfl rfl (TO_store 3 rfl rfl rfl sz58 rfl rfl rfl (by simp [Value.cells, Value.oneCell']) (by first | exact Nat.le_of_ble_eq_true rfl | (simp; done) | (simp; omega) | omega) ?_)) | (refine TA_one 13 (by kernel_rfl) rfl rfl (TO_store 4 rfl rfl rfl sz58 rfl rfl rfl (by simp [Value.cells, Value.oneCell']) (by first | exact Nat.le_of_ble_eq_true rfl | (simp; done) | (simp; omega) | omega) ?_)) | (refine TA_one 13 (by kernel_rfl) rfl rfl (TO_store 5 rfl rfl rfl sz58 rfl rfl rfl (by simp [Value.cells, Value.oneCell']) (by first | exact Nat.le_of_ble_eq_true rfl | (simp; done) | (simp; omega) | omega) ?_)) | (refine TA_one 13 (by kernel_rfl) rfl rfl (TO_store 6 rfl rfl rfl sz58 rfl rfl rfl (by simp [Value.cells, Value.oneCell']) (by first | exact Nat.le_of_ble_eq_true rfl | (simp; done) | (simp; omega) | omega) ?_)) | (refine TA_one 13 (by kernel_rfl) rfl rfl (TO_store 7 rfl rfl rfl sz58 rfl rfl rfl (by simp [Value.cells, Value.oneCell']) (by first | exact Nat.le_of_ble_eq_true rfl | (simp; done) | (simp; omega) | omega) ?_)) | (refine TA_one 13 (by kernel_rfl) rfl rfl (TO_store 8 rfl rfl rfl sz58 rfl rfl rfl (by simp [Value.cells, Value.oneCell']) (by first | exact Nat.le_of_ble_eq_true rfl | (simp; done) | (simp; omega) | omega) ?_))
    refine ⟨by intro w h; first | exact h | exact h.tl | exact h.tl.tl, ?_⟩
    refine TA_take (dd := (some 7)) 14 rfl (by kernel_rfl) (by kernel_rfl) (by kernel_rfl) rfl rfl rfl (PV_assign rfl) ?_
    refine TA_done (by kernel_rfl) ?_
    refine T_seq ?_
    refine T_seq ?_
    refine T_region ?_
    refine TL_pure (d := (some 97)) rfl rfl rfl (PV_move rfl) ?_
    refine TL_nil ?_
    refine T_block ?_
    refine T_seq ?_
    refine T_region ?_
    refine TL_pure (d := (some 99)) rfl rfl rfl (PV_bin rfl rfl bin_eql) ?_
    refine TL_pure (d := (some 98)) rfl rfl rfl (PV_assign rfl) ?_
    refine TL_nil ?_
    -- IF t98
    refine T_else rfl (by rfl) ?_
    refine T_seq ?_
    refine T_region ?_
    refine TL_pure (d := (some 101)) rfl rfl rfl (PV_bin rfl rfl bin_eql) ?_
    refine TL_pure (d := (some 100)) rfl rfl rfl (PV_assign rfl) ?_
    refine TL_nil ?_
    -- IF t100
    refine T_else rfl (by rfl) ?_
    refine T_skip ?_
    refine T_seq ?_
    refine T_region ?_
    refine TL_pure (d := (some 106)) rfl rfl rfl (PV_move rfl) ?_
    refine TL_pure (d := (some 107)) rfl rfl rfl (PV_nilCheck rfl) ?_
    refine TL_pure (d := (some 108)) rfl rfl rfl (PV_fieldAddr (D := 7) Try.underlying140 rfl sz23 (by decide) rfl rfl) ?_
    first | (refine TL_cons rfl (TO_store1 0 rfl rfl rfl sz23 rfl rfl rfl (by first | exact Nat.le_of_ble_eq_true rfl | (simp; done) | (simp; omega) | omega) ?_)) | (refine TL_cons rfl (TO_store1 1 rfl rfl rfl sz23 rfl rfl rfl (by first | exact Nat.le_of_ble_eq_true rfl | (simp; done) | (simp; omega) | omega) ?_)) | (refine TL_cons rfl (TO_store1 2 rfl rfl rfl sz23 rfl rfl rfl (by first | exact Nat.le_of_ble_eq_true rfl | (simp; done) | (simp; omega) | omega) ?_)) | (refine TL_cons rfl (TO_store1 3 rfl rfl rfl sz23 rfl rfl rfl (by first | exact Nat.le_of_ble_eq_true rfl | (simp; done) | (simp; omega) | omega) ?_)) | (refine TL_cons rfl (TO_store1 4 rfl rfl rfl sz23 rfl rfl rfl (by first | exact Nat.le_of_ble_eq_true rfl | (simp; done) | (simp; omega) | omega) ?_)) | (refine TL_cons rfl (TO_store1 5 rfl rfl rfl sz23 rfl rfl rfl (by first | exact Nat.le_of_ble_eq_true rfl | (simp; done) | (simp; omega) | omega) ?_)) | (refine TL_cons rfl (TO_store1 6 rfl rfl rfl sz23 rfl rfl rfl (by first | exact Nat.le_of_ble_eq_true rfl | (simp; done) | (simp; omega) | omega) ?_)) | (refine TL_cons rfl (TO_store1 7 rfl rfl rfl sz23 rfl rfl rfl (by first | exact Nat.le_of_ble_eq_true rfl | (simp; done) | (simp; omega) | omega) ?_)) | (refine TL_cons rfl (TO_store1 8 rfl rfl rfl sz23 rfl rfl rfl (by first | exact Nat.le_of_ble_eq_true rfl | (simp; done) | (simp; omega) | omega) ?_))
    refine TL_nil ?_
    refine T_seq ?_
    refine T_region ?_
    -- op 109 move t0
    refine TL_cons rfl (TO_pure rfl (PV_move rfl) ?_)
    refine TL_pure (d := (some 110)) rfl rfl rfl (PV_loadAt Try.underlying58 rfl sz58 rfl (by first | exact Rds.take 0 rfl rfl rfl | exact Rds.take 1 rfl rfl rfl | exact Rds.take 2 rfl rfl rfl | exact Rds.take 3 rfl rfl rfl | exact Rds.take 4 rfl rfl rfl | exact Rds.take 5 rfl rfl rfl | exact Rds.take 6 rfl rfl rfl | exact Rds.take 7 rfl rfl rfl | exact Rds.take 8 rfl rfl rfl)) ?_
    -- op 111 call F99(t109, t110)
    refine TL_drop (H' := [_, _, _] ++ X) (List.Sublist.cons _ (List.Sublist.cons _ (List.Sublist.cons_cons _ (List.Sublist.cons_cons _ (List.Sublist.cons _ (List.Sublist.cons_cons _ (List.Sublist.refl _))))))) ?_
    refine TL_perm (List.Perm.swap _ _ _) ?_
    refine TL_cons rfl (TO_call0 call99 rfl rfl (t99again (Rcv.with ⟨crc, wait, tries, left, number, begun, close, bA, bc, buf, dA, dc, dat, blocks, want, false, err⟩) hn hnum hbeg hcl) ?_)
    rintro v111 H111 ⟨A6, k6, rfl, hk6, rfl⟩
    refine TL_pure (d := (some 4)) rfl rfl rfl (PV_assign rfl) ?_
    refine TL_nil ?_
    refine T_ret ?_
    -- ('ret',)
    refine ⟨_, _, ?_, ResV_one rfl rfl, ⟨A6, k6, rfl, hk6, rfl⟩⟩
    repeat (first | exact List.Sublist.refl _ | apply List.Sublist.cons_cons | apply List.Sublist.cons)
  · skip
    refine ⟨_, rfl, rfl, (TO_alloc rfl zr58 fun g6 => ?_)⟩
    refine ⟨by intro w h; first | exact h | exact h.tl | exact h.tl.tl, ?_⟩
    -- dop 8 94 call F52(t89, t93)
    refine TA_one 8 (by kernel_rfl) rfl rfl (TO_call0 call52 rfl rfl (t52yes crc hs (Shows.at 3 rfl) rfl (by omega) hc30 hu) ?_)
    rintro v94 H94 ⟨A94, k94, rfl, hk94, rfl⟩
    refine ⟨by intro w h; first | exact h | exact h.tl | exact h.tl.tl, ?_⟩
    refine TA_take (dd := (some 85)) 9 rfl (by kernel_rfl) (by kernel_rfl) (by kernel_rfl) rfl rfl rfl (PV_move rfl) ?_
    refine TA_take (dd := (some 95)) 10 rfl (by kernel_rfl) (by kernel_rfl) (by kernel_rfl) rfl rfl rfl (PV_extract rfl rfl) ?_
    refine TA_take (dd := (some 96)) 11 rfl (by kernel_rfl) (by kernel_rfl) (by kernel_rfl) rfl rfl rfl (PV_extract rfl rfl) ?_
    first | (refine TA_one 13 (by kernel_rfl) rfl rfl (TO_store 0 rfl rfl rfl sz58 rfl rfl rfl (by simp [Value.cells, Value.oneCell']) (by first | exact Nat.le_of_ble_eq_true rfl | (simp; done) | (simp; omega) | omega) ?_)) | (refine TA_one 13 (by kernel_rfl) rfl rfl (TO_store 1 rfl rfl rfl sz58 rfl rfl rfl (by simp [Value.cells, Value.oneCell']) (by first | exact Nat.le_of_ble_eq_true rfl | (simp; done) | (simp; omega) | omega) ?_)) | (refine TA_one 13 (by kernel_rfl) rfl rfl (TO_store 2 rfl rfl rfl sz58 rfl rfl rfl (by simp [Value.cells, Value.oneCell']) (by first | exact Nat.le_of_ble_eq_true rfl | (simp; done) | (simp; omega) | omega) ?_)) | (refine TA_one 13 (by kernel_rfl) rfl rfl (TO_store 3 rfl rfl rfl sz58 rfl rfl rfl (by simp [Value.cells, Value.oneCell']) (by first | exact Nat.le_of_ble_eq_true rfl | (simp; done) | (simp; omega) | omega) ?_)) | (refine TA_one 13 (by kernel_rfl) rfl rfl (TO_store 4 rfl rfl rfl sz58 rfl rfl rfl (by simp [Value.cells, Value.oneCell']) (by first | exact Nat.le_of_ble_eq_true rfl | (simp; done) | (simp; omega) | omega) ?_)) | (refine TA_one 13 (by kernel_rfl) rfl rfl (TO_store 5 rfl rfl rfl sz58 rfl rfl rfl (by simp [Value.cells, Value.oneCell']) (by first | exact Nat.le_of_ble_eq_true rfl | (simp; done) | (simp; omega) | omega) ?_)) | (refine TA_one 13 (by kernel_rfl) rfl rfl (TO_store 6 rfl rfl rfl sz58 rfl rfl rfl (by simp [Value.cells, Value.oneCell']) (by first | exact Nat.le_of_ble_eq_true rfl | (simp; done) | (simp; omega) | omega) ?_)) | (refine TA_one 13 (by kernel_rfl) rfl rfl (TO_store 7 rfl rfl rfl sz58 rfl rfl rfl (by simp [Value.cells, Value.oneCell']) (by first | exact Nat.le_of_ble_eq_true rfl | (simp; done) | (simp; omega) | omega) ?_)) | (refine TA_one 13 (by kernel_rfl) rfl rfl (TO_store 8 rfl rfl rfl sz58 rfl rfl rfl (by simp [Value.cells, Value.oneCell']) (by first | exact Nat.le_of_ble_eq_true rfl | (simp; done) | (simp; omega) | omega) ?_))
    refine ⟨by intro w h; first | exact h | exact h.tl | exact h.tl.tl, ?_⟩
    refine TA_take (dd := (some 7)) 14 rfl (by kernel_rfl) (by kernel_rfl) (by kernel_rfl) rfl rfl rfl (PV_assign rfl) ?_
    refine TA_done (by kernel_rfl) ?_
    refine T_seq ?_
    refine T_seq ?_
    refine T_region ?_
    refine TL_pure (d := (some 97)) rfl rfl rfl (PV_move rfl) ?_
    refine TL_nil ?_
    refine T_block ?_
    refine T_seq ?_
    refine T_region ?_
    refine TL_pure (d := (some 99)) rfl rfl rfl (PV_bin rfl rfl bin_eql) ?_
    refine TL_pure (d := (some 98)) rfl rfl rfl (PV_assign rfl) ?_
    refine TL_nil ?_
    -- IF t98
    refine T_else rfl (by rfl) ?_
    refine T_seq ?_
    refine T_region ?_
    refine TL_pure (d := (some 101)) rfl rfl rfl (PV_bin rfl rfl bin_eql) ?_
    refine TL_pure (d := (some 100)) rfl rfl rfl (PV_assign rfl) ?_
    refine TL_nil ?_
    -- IF t100
    refine T_else rfl (by rfl) ?_
    refine T_skip ?_
    refine T_seq ?_
    refine T_region ?_
    refine TL_pure (d := (some 106)) rfl rfl rfl (PV_move rfl) ?_
    refine TL_pure (d := (some 107)) rfl rfl rfl (PV_nilCheck rfl) ?_
    refine TL_pure (d := (some 108)) rfl rfl rfl (PV_fieldAddr (D := 7) Try.underlying140 rfl sz23 (by decide) rfl rfl) ?_
    first | (refine TL_cons rfl (TO_store1 0 rfl rfl rfl sz23 rfl rfl rfl (by first | exact Nat.le_of_ble_eq_true rfl | (simp; done) | (simp; omega) | omega) ?_)) | (refine TL_cons rfl (TO_store1 1 rfl rfl rfl sz23 rfl rfl rfl (by first | exact Nat.le_of_ble_eq_true rfl | (simp; done) | (simp; omega) | omega) ?_)) | (refine TL_cons rfl (TO_store1 2 rfl rfl rfl sz23 rfl rfl rfl (by first | exact Nat.le_of_ble_eq_true rfl | (simp; done) | (simp; omega) | omega) ?_)) | (refine TL_cons rfl (TO_store1 3 rfl rfl rfl sz23 rfl rfl rfl (by first | exact Nat.le_of_ble_eq_true rfl | (simp; done) | (simp; omega) | omega) ?_)) | (refine TL_cons rfl (TO_store1 4 rfl rfl rfl sz23 rfl rfl rfl (by first | exact Nat.le_of_ble_eq_true rfl | (simp; done) | (simp; omega) | omega) ?_)) | (refine TL_cons rfl (TO_store1 5 rfl rfl rfl sz23 rfl rfl rfl (by first | exact Nat.le_of_ble_eq_true rfl | (simp; done) | (simp; omega) | omega) ?_)) | (refine TL_cons rfl (TO_store1 6 rfl rfl rfl sz23 rfl rfl rfl (by first | exact Nat.le_of_ble_eq_true rfl | (simp; done) | (simp; omega) | omega) ?_)) | (refine TL_cons rfl (TO_store1 7 rfl rfl rfl sz23 rfl rfl rfl (by first | exact Nat.le_of_ble_eq_true rfl | (simp; done) | (simp; omega) | omega) ?_)) | (refine TL_cons rfl (TO_store1 8 rfl rfl rfl sz23 rfl rfl rfl (by first | exact Nat.le_of_ble_eq_true rfl | (simp; done) | (simp; omega) | omega) ?_))
    refine TL_nil ?_
    refine T_seq ?_
    refine T_region ?_
    -- op 109 move t0
    refine TL_cons rfl (TO_pure rfl (PV_move rfl) ?_)
    refine TL_pure (d := (some 110)) rfl rfl rfl (PV_loadAt Try.underlying58 rfl sz58 rfl (by first | exact Rds.take 0 rfl rfl rfl | exact Rds.take 1 rfl rfl rfl | exact Rds.take 2 rfl rfl rfl | exact Rds.take 3 rfl rfl rfl | exact Rds.take 4 rfl rfl rfl | exact Rds.take 5 rfl rfl rfl | exact Rds.take 6 rfl rfl rfl | exact Rds.take 7 rfl rfl rfl | exact Rds.take 8 rfl rfl rfl)) ?_
    -- op 111 call F99(t109, t110)
    refine TL_drop (H' := [_, _, _] ++ X) (List.Sublist.cons _ (List.Sublist.cons _ (List.Sublist.cons_cons _ (List.Sublist.cons_cons _ (List.Sublist.cons _ (List.Sublist.cons_cons _ (List.Sublist.refl _))))))) ?_
    refine TL_perm (List.Perm.swap _ _ _) ?_
    refine TL_cons rfl (TO_call0 call99 rfl rfl (t99again (Rcv.with ⟨crc, wait, tries, left, number, begun, close, bA, bc, buf, dA, dc, dat, blocks, want, false, err⟩) hn hnum hbeg hcl) ?_)
    rintro v111 H111 ⟨A6, k6, rfl, hk6, rfl⟩
    refine TL_pure (d := (some 4)) rfl rfl rfl (PV_assign rfl) ?_
    refine TL_nil ?_
    refine T_ret ?_
    -- ('ret',)
    refine ⟨_, _, ?_, ResV_one rfl rfl, ⟨A6, k6, rfl, hk6, rfl⟩⟩
    repeat (first | exact List.Sublist.refl _ | apply List.Sublist.cons_cons | apply List.Sublist.cons)
end
end Go.Proofs.Ythdkmgeigdoglaa.SL
