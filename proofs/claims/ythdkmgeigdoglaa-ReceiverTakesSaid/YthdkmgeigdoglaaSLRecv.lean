import Derived.Test.YthdkmgeigdoglaaSLNum
/- The receiver: what it does, function by function. No statement is proved here. -/
set_option linter.unusedVariables false
namespace Go.Proofs.Ythdkmgeigdoglaa.SL
open Go Go.RowKit Go.Proofs.YthdkmgeigdoglaaW.PrintWords H Hand
/-- a receiver, as its cells are -/
structure Rcv where
  crc : Bool
  wait : Int
  tries : Int
  left : Int
  number : Int
  begun : Bool
  close : Bool
  bA : Option Addr
  bc : Nat
  buf : List Int
  dA : Option Addr
  dc : Nat
  dat : List Int
  blocks : Int
  want : Int
  over : Bool
  err : Value
def rcvC (g : Nat) (r : Rcv) : Chunk := .own g 13 [.bool r.crc, .int .i64 r.wait, .int .i64 r.tries, .int .i64 r.left, .int .u8 r.number, .bool r.begun, .bool r.close, .slice r.bA r.buf.length r.bc, .slice r.dA r.dat.length r.dc, .int .i64 r.blocks, .int .i64 r.want, .bool r.over, r.err]
def bufC (r : Rcv) : Chunk := .sl (.slice r.bA r.buf.length r.bc) 1 r.buf.length (nums .u8 r.buf)
def datC (r : Rcv) : Chunk := .sl (.slice r.dA r.dat.length r.dc) 1 r.dat.length (nums .u8 r.dat)
section
variable {w0 : World} {B : Nat} {X : List Chunk}
set_option maxRecDepth 100000 in
theorem t78 {g : Nat} (r : Rcv) : TCall Try.prog w0 B 78 #[.pointer (some ⟨g, 0, none⟩)] (fun v H' => v = .tuple #[.bool r.over, r.err] ∧ H' = rcvC g r :: X) (rcvC g r :: X) := by
  obtain ⟨crc, wait, tries, left, number, begun, close, bA, bc, buf, dA, dc, dat, blocks, want, over, err⟩ := r
  refine TCall_intro (args := [_]) Try.func78 rfl Try.ntmps78 (Nat.le_of_ble_eq_true rfl) ?_
  refine T_seq ?_
  refine T_region ?_
  refine TL_pure (d := (some 2)) rfl rfl rfl (PV_assign rfl) ?_
  refine TL_pure (d := (some 3)) rfl rfl rfl (PV_assign rfl) ?_
  refine TL_nil ?_
  refine T_seq ?_
  refine T_drawn (WH _ _ _) mixed (by intro w h; exact h) ?_
  refine TA_take (dd := (some 4)) 0 rfl (by kernel_rfl) (by kernel_rfl) (by kernel_rfl) rfl rfl rfl (PV_move rfl) ?_
  refine TA_take (dd := (some 5)) 1 rfl (by kernel_rfl) (by kernel_rfl) (by kernel_rfl) rfl rfl rfl (PV_nilCheck rfl) ?_
  refine TA_take (dd := (some 6)) 2 rfl (by kernel_rfl) (by kernel_rfl) (by kernel_rfl) rfl rfl rfl (PV_fieldAddr (D := 11) Try.underlying140 rfl sz4 (by decide) rfl rfl) ?_
  first | (refine TA_take (dd := (some 7)) 3 rfl (by kernel_rfl) (by kernel_rfl) (by kernel_rfl) rfl rfl rfl (PV_load Try.underlying4 rfl rfl (by first | exact Rd.at 0 rfl rfl | exact Rd.at 1 rfl rfl | exact Rd.at 2 rfl rfl | exact Rd.at 3 rfl rfl | exact Rd.at 4 rfl rfl | exact Rd.at 5 rfl rfl | exact Rd.at 6 rfl rfl | exact Rd.at 7 rfl rfl | exact Rd.at 8 rfl rfl)) ?_) | (refine TA_pure1 (dd := (some 7)) 3 (by kernel_rfl) rfl rfl rfl rfl (PV_load Try.underlying4 rfl rfl (by first | exact Rd.at 0 rfl rfl | exact Rd.at 1 rfl rfl | exact Rd.at 2 rfl rfl | exact Rd.at 3 rfl rfl | exact Rd.at 4 rfl rfl | exact Rd.at 5 rfl rfl | exact Rd.at 6 rfl rfl | exact Rd.at 7 rfl rfl | exact Rd.at 8 rfl rfl)) ?_)
  refine TA_take (dd := (some 8)) 4 rfl (by kernel_rfl) (by kernel_rfl) (by kernel_rfl) rfl rfl rfl (PV_move rfl) ?_
  refine TA_take (dd := (some 9)) 5 rfl (by kernel_rfl) (by kernel_rfl) (by kernel_rfl) rfl rfl rfl (PV_nilCheck rfl) ?_
  refine TA_take (dd := (some 10)) 6 rfl (by kernel_rfl) (by kernel_rfl) (by kernel_rfl) rfl rfl rfl (PV_fieldAddr (D := 12) Try.underlying140 rfl sz83 (by decide) rfl rfl) ?_
  first | (refine TA_take (dd := (some 11)) 7 rfl (by kernel_rfl) (by kernel_rfl) (by kernel_rfl) rfl rfl rfl (PV_load Try.underlying83 rfl rfl (by first | exact Rd.at 0 rfl rfl | exact Rd.at 1 rfl rfl | exact Rd.at 2 rfl rfl | exact Rd.at 3 rfl rfl | exact Rd.at 4 rfl rfl | exact Rd.at 5 rfl rfl | exact Rd.at 6 rfl rfl | exact Rd.at 7 rfl rfl | exact Rd.at 8 rfl rfl)) ?_) | (refine TA_pure1 (dd := (some 11)) 7 (by kernel_rfl) rfl rfl rfl rfl (PV_load Try.underlying83 rfl rfl (by first | exact Rd.at 0 rfl rfl | exact Rd.at 1 rfl rfl | exact Rd.at 2 rfl rfl | exact Rd.at 3 rfl rfl | exact Rd.at 4 rfl rfl | exact Rd.at 5 rfl rfl | exact Rd.at 6 rfl rfl | exact Rd.at 7 rfl rfl | exact Rd.at 8 rfl rfl)) ?_)
  refine TA_take (dd := (some 2)) 8 rfl (by kernel_rfl) (by kernel_rfl) (by kernel_rfl) rfl rfl rfl (PV_assign rfl) ?_
  refine TA_take (dd := (some 3)) 9 rfl (by kernel_rfl) (by kernel_rfl) (by kernel_rfl) rfl rfl rfl (PV_assign rfl) ?_
  refine TA_done (by kernel_rfl) ?_
  refine T_ret ?_
  -- ('ret',)
  refine ⟨_, _, ?_, ResV_two rfl rfl rfl, ⟨rfl, rfl⟩⟩
  repeat (first | exact List.Sublist.refl _ | apply List.Sublist.cons_cons | apply List.Sublist.cons)
set_option maxRecDepth 100000 in
theorem t97 {g : Nat} (r : Rcv) : TCall Try.prog w0 B 97 #[.pointer (some ⟨g, 0, none⟩)] (fun v H' => v = .int .u8 (if r.crc = true ∧ r.begun = false then 67 else 21) ∧ H' = rcvC g r :: X) (rcvC g r :: X) := by
  obtain ⟨crc, wait, tries, left, number, begun, close, bA, bc, buf, dA, dc, dat, blocks, want, over, err⟩ := r
  cases crc with
  | false =>
    refine TCall_intro (args := [_]) Try.func97 rfl Try.ntmps97 (Nat.le_of_ble_eq_true rfl) ?_
    refine T_seq ?_
    refine T_region ?_
    refine TL_pure (d := (some 2)) rfl rfl rfl (PV_assign rfl) ?_
    refine TL_nil ?_
    refine T_seq ?_
    refine T_seq ?_
    refine T_region ?_
    refine TL_pure (d := (some 3)) rfl rfl rfl (PV_move rfl) ?_
    refine TL_pure (d := (some 4)) rfl rfl rfl (PV_nilCheck rfl) ?_
    refine TL_pure (d := (some 5)) rfl rfl rfl (PV_fieldAddr (D := 0) Try.underlying140 rfl sz4 (by decide) rfl rfl) ?_
    refine TL_pure (d := (some 6)) rfl rfl rfl (PV_load Try.underlying4 rfl rfl (by first | exact Rd.at 0 rfl rfl | exact Rd.at 1 rfl rfl | exact Rd.at 2 rfl rfl | exact Rd.at 3 rfl rfl | exact Rd.at 4 rfl rfl | exact Rd.at 5 rfl rfl | exact Rd.at 6 rfl rfl | exact Rd.at 7 rfl rfl | exact Rd.at 8 rfl rfl)) ?_
    refine TL_pure (d := (some 7)) rfl rfl rfl (PV_move rfl) ?_
    -- guard 8 move t0
    refine TL_no (b := false) rfl rfl rfl rfl ?_
    refine TL_no (b := false) rfl rfl rfl rfl ?_
    refine TL_no (b := false) rfl rfl rfl rfl ?_
    refine TL_no (b := false) rfl rfl rfl rfl ?_
    refine TL_no (b := false) rfl rfl rfl rfl ?_
    first | (refine TL_pure (d := (some 13)) rfl rfl rfl (PV_pickAnd rfl rfl rfl) ?_) | (refine TL_pure (d := (some 13)) rfl rfl rfl (PV_pickF rfl (by first | assumption | rfl | (simp; done) | (simp; omega)) rfl rfl) ?_)
    refine TL_nil ?_
    -- IF t13
    refine T_else rfl (by rfl) ?_
    refine T_skip ?_
    refine T_seq ?_
    refine T_region ?_
    refine TL_pure (d := (some 2)) rfl rfl rfl (PV_assign rfl) ?_
    refine TL_nil ?_
    refine T_ret ?_
    -- ('ret',)
    refine ⟨_, _, ?_, ResV_one rfl rfl, ⟨rfl, rfl⟩⟩
    repeat (first | exact List.Sublist.refl _ | apply List.Sublist.cons_cons | apply List.Sublist.cons)
  | true =>
    cases begun with
    | true =>
      refine TCall_intro (args := [_]) Try.func97 rfl Try.ntmps97 (Nat.le_of_ble_eq_true rfl) ?_
      refine T_seq ?_
      refine T_region ?_
      refine TL_pure (d := (some 2)) rfl rfl rfl (PV_assign rfl) ?_
      refine TL_nil ?_
      refine T_seq ?_
      refine T_seq ?_
      refine T_region ?_
      refine TL_pure (d := (some 3)) rfl rfl rfl (PV_move rfl) ?_
      refine TL_pure (d := (some 4)) rfl rfl rfl (PV_nilCheck rfl) ?_
      refine TL_pure (d := (some 5)) rfl rfl rfl (PV_fieldAddr (D := 0) Try.underlying140 rfl sz4 (by decide) rfl rfl) ?_
      refine TL_pure (d := (some 6)) rfl rfl rfl (PV_load Try.underlying4 rfl rfl (by first | exact Rd.at 0 rfl rfl | exact Rd.at 1 rfl rfl | exact Rd.at 2 rfl rfl | exact Rd.at 3 rfl rfl | exact Rd.at 4 rfl rfl | exact Rd.at 5 rfl rfl | exact Rd.at 6 rfl rfl | exact Rd.at 7 rfl rfl | exact Rd.at 8 rfl rfl)) ?_
      refine TL_pure (d := (some 7)) rfl rfl rfl (PV_move rfl) ?_
      -- guard 8 move t0
      refine TL_yes rfl rfl rfl (TO_pure rfl (PV_move rfl) ?_)
      refine TL_yes rfl rfl rfl (TO_pure rfl (PV_nilCheck rfl) ?_)
      refine TL_yes rfl rfl rfl (TO_pure rfl (PV_fieldAddr (D := 5) Try.underlying140 rfl sz4 (by decide) rfl rfl) ?_)
      refine TL_yes rfl rfl rfl (TO_pure rfl (PV_load Try.underlying4 rfl rfl (by first | exact Rd.at 0 rfl rfl | exact Rd.at 1 rfl rfl | exact Rd.at 2 rfl rfl | exact Rd.at 3 rfl rfl | exact Rd.at 4 rfl rfl | exact Rd.at 5 rfl rfl | exact Rd.at 6 rfl rfl | exact Rd.at 7 rfl rfl | exact Rd.at 8 rfl rfl)) ?_)
      refine TL_yes rfl rfl rfl (TO_pure rfl (PV_not rfl) ?_)
      first | (refine TL_pure (d := (some 13)) rfl rfl rfl (PV_pickAnd rfl rfl rfl) ?_) | (refine TL_pure (d := (some 13)) rfl rfl rfl (PV_pickF rfl (by first | assumption | rfl | (simp; done) | (simp; omega)) rfl rfl) ?_)
      refine TL_nil ?_
      -- IF t13
      refine T_else rfl (by rfl) ?_
      refine T_skip ?_
      refine T_seq ?_
      refine T_region ?_
      refine TL_pure (d := (some 2)) rfl rfl rfl (PV_assign rfl) ?_
      refine TL_nil ?_
      refine T_ret ?_
      -- ('ret',)
      refine ⟨_, _, ?_, ResV_one rfl rfl, ⟨rfl, rfl⟩⟩
      repeat (first | exact List.Sublist.refl _ | apply List.Sublist.cons_cons | apply List.Sublist.cons)
    | false =>
      refine TCall_intro (args := [_]) Try.func97 rfl Try.ntmps97 (Nat.le_of_ble_eq_true rfl) ?_
      refine T_seq ?_
      refine T_region ?_
      refine TL_pure (d := (some 2)) rfl rfl rfl (PV_assign rfl) ?_
      refine TL_nil ?_
      refine T_seq ?_
      refine T_seq ?_
      refine T_region ?_
      refine TL_pure (d := (some 3)) rfl rfl rfl (PV_move rfl) ?_
      refine TL_pure (d := (some 4)) rfl rfl rfl (PV_nilCheck rfl) ?_
      refine TL_pure (d := (some 5)) rfl rfl rfl (PV_fieldAddr (D := 0) Try.underlying140 rfl sz4 (by decide) rfl rfl) ?_
      refine TL_pure (d := (some 6)) rfl rfl rfl (PV_load Try.underlying4 rfl rfl (by first | exact Rd.at 0 rfl rfl | exact Rd.at 1 rfl rfl | exact Rd.at 2 rfl rfl | exact Rd.at 3 rfl rfl | exact Rd.at 4 rfl rfl | exact Rd.at 5 rfl rfl | exact Rd.at 6 rfl rfl | exact Rd.at 7 rfl rfl | exact Rd.at 8 rfl rfl)) ?_
      refine TL_pure (d := (some 7)) rfl rfl rfl (PV_move rfl) ?_
      -- guard 8 move t0
      refine TL_yes rfl rfl rfl (TO_pure rfl (PV_move rfl) ?_)
      refine TL_yes rfl rfl rfl (TO_pure rfl (PV_nilCheck rfl) ?_)
      refine TL_yes rfl rfl rfl (TO_pure rfl (PV_fieldAddr (D := 5) Try.underlying140 rfl sz4 (by decide) rfl rfl) ?_)
      refine TL_yes rfl rfl rfl (TO_pure rfl (PV_load Try.underlying4 rfl rfl (by first | exact Rd.at 0 rfl rfl | exact Rd.at 1 rfl rfl | exact Rd.at 2 rfl rfl | exact Rd.at 3 rfl rfl | exact Rd.at 4 rfl rfl | exact Rd.at 5 rfl rfl | exact Rd.at 6 rfl rfl | exact Rd.at 7 rfl rfl | exact Rd.at 8 rfl rfl)) ?_)
      refine TL_yes rfl rfl rfl (TO_pure rfl (PV_not rfl) ?_)
      first | (refine TL_pure (d := (some 13)) rfl rfl rfl (PV_pickAnd rfl rfl rfl) ?_) | (refine TL_pure (d := (some 13)) rfl rfl rfl (PV_pickF rfl (by first | assumption | rfl | (simp; done) | (simp; omega)) rfl rfl) ?_)
      refine TL_nil ?_
      -- IF t13
      refine T_then rfl (by rfl) ?_
      refine T_seq ?_
      refine T_region ?_
      refine TL_pure (d := (some 2)) rfl rfl rfl (PV_assign rfl) ?_
      refine TL_nil ?_
      refine T_ret ?_
      -- ('ret',)
      refine ⟨_, _, ?_, ResV_one rfl rfl, ⟨rfl, rfl⟩⟩
      repeat (first | exact List.Sublist.refl _ | apply List.Sublist.cons_cons | apply List.Sublist.cons)
set_option maxRecDepth 100000 in
theorem t96nil {g : Nat} (r : Rcv) (A : Option Addr) (m k : Nat) : TCall Try.prog w0 B 96 #[.pointer (some ⟨g, 0, none⟩), .nilIface, .slice A m k] (fun v H' => v = .slice A m k ∧ H' = rcvC g { r with over := true, err := .nilIface } :: X) (rcvC g r :: X) := by
  obtain ⟨crc, wait, tries, left, number, begun, close, bA, bc, buf, dA, dc, dat, blocks, want, over, err⟩ := r
  refine TCall_intro (args := [_, _, _]) Try.func96 rfl Try.ntmps96 (Nat.le_of_ble_eq_true rfl) ?_
  refine T_seq ?_
  refine T_region ?_
  refine TL_pure (d := (some 6)) rfl rfl rfl (PV_assign rfl) ?_
  refine TL_nil ?_
  refine T_seq ?_
  refine T_region ?_
  refine TL_pure (d := (some 7)) rfl rfl rfl (PV_move rfl) ?_
  refine TL_pure (d := (some 8)) rfl rfl rfl (PV_move rfl) ?_
  refine TL_pure (d := (some 9)) rfl rfl rfl (PV_move rfl) ?_
  refine TL_pure (d := (some 10)) rfl rfl rfl (PV_nilCheck rfl) ?_
  refine TL_pure (d := (some 11)) rfl rfl rfl (PV_fieldAddr (D := 11) Try.underlying140 rfl sz4 (by decide) rfl rfl) ?_
  first | (refine TL_cons rfl (TO_store1 0 rfl rfl rfl sz4 rfl rfl rfl (by first | exact Nat.le_of_ble_eq_true rfl | (simp; done) | (simp; omega) | omega) ?_)) | (refine TL_cons rfl (TO_store1 1 rfl rfl rfl sz4 rfl rfl rfl (by first | exact Nat.le_of_ble_eq_true rfl | (simp; done) | (simp; omega) | omega) ?_)) | (refine TL_cons rfl (TO_store1 2 rfl rfl rfl sz4 rfl rfl rfl (by first | exact Nat.le_of_ble_eq_true rfl | (simp; done) | (simp; omega) | omega) ?_)) | (refine TL_cons rfl (TO_store1 3 rfl rfl rfl sz4 rfl rfl rfl (by first | exact Nat.le_of_ble_eq_true rfl | (simp; done) | (simp; omega) | omega) ?_)) | (refine TL_cons rfl (TO_store1 4 rfl rfl rfl sz4 rfl rfl rfl (by first | exact Nat.le_of_ble_eq_true rfl | (simp; done) | (simp; omega) | omega) ?_)) | (refine TL_cons rfl (TO_store1 5 rfl rfl rfl sz4 rfl rfl rfl (by first | exact Nat.le_of_ble_eq_true rfl | (simp; done) | (simp; omega) | omega) ?_)) | (refine TL_cons rfl (TO_store1 6 rfl rfl rfl sz4 rfl rfl rfl (by first | exact Nat.le_of_ble_eq_true rfl | (simp; done) | (simp; omega) | omega) ?_)) | (refine TL_cons rfl (TO_store1 7 rfl rfl rfl sz4 rfl rfl rfl (by first | exact Nat.le_of_ble_eq_true rfl | (simp; done) | (simp; omega) | omega) ?_)) | (refine TL_cons rfl (TO_store1 8 rfl rfl rfl sz4 rfl rfl rfl (by first | exact Nat.le_of_ble_eq_true rfl | (simp; done) | (simp; omega) | omega) ?_))
  refine TL_pure (d := (some 12)) rfl rfl rfl (PV_nilCheck rfl) ?_
  refine TL_pure (d := (some 13)) rfl rfl rfl (PV_fieldAddr (D := 12) Try.underlying140 rfl sz83 (by decide) rfl rfl) ?_
  first | (refine TL_cons rfl (TO_store1 0 rfl rfl rfl sz83 rfl rfl rfl (by first | exact Nat.le_of_ble_eq_true rfl | (simp; done) | (simp; omega) | omega) ?_)) | (refine TL_cons rfl (TO_store1 1 rfl rfl rfl sz83 rfl rfl rfl (by first | exact Nat.le_of_ble_eq_true rfl | (simp; done) | (simp; omega) | omega) ?_)) | (refine TL_cons rfl (TO_store1 2 rfl rfl rfl sz83 rfl rfl rfl (by first | exact Nat.le_of_ble_eq_true rfl | (simp; done) | (simp; omega) | omega) ?_)) | (refine TL_cons rfl (TO_store1 3 rfl rfl rfl sz83 rfl rfl rfl (by first | exact Nat.le_of_ble_eq_true rfl | (simp; done) | (simp; omega) | omega) ?_)) | (refine TL_cons rfl (TO_store1 4 rfl rfl rfl sz83 rfl rfl rfl (by first | exact Nat.le_of_ble_eq_true rfl | (simp; done) | (simp; omega) | omega) ?_)) | (refine TL_cons rfl (TO_store1 5 rfl rfl rfl sz83 rfl rfl rfl (by first | exact Nat.le_of_ble_eq_true rfl | (simp; done) | (simp; omega) | omega) ?_)) | (refine TL_cons rfl (TO_store1 6 rfl rfl rfl sz83 rfl rfl rfl (by first | exact Nat.le_of_ble_eq_true rfl | (simp; done) | (simp; omega) | omega) ?_)) | (refine TL_cons rfl (TO_store1 7 rfl rfl rfl sz83 rfl rfl rfl (by first | exact Nat.le_of_ble_eq_true rfl | (simp; done) | (simp; omega) | omega) ?_)) | (refine TL_cons rfl (TO_store1 8 rfl rfl rfl sz83 rfl rfl rfl (by first | exact Nat.le_of_ble_eq_true rfl | (simp; done) | (simp; omega) | omega) ?_))
  refine TL_nil ?_
  refine T_seq ?_
  refine T_region ?_
  refine TL_pure (d := (some 14)) rfl rfl rfl (PV_move rfl) ?_
  refine TL_pure (d := (some 6)) rfl rfl rfl (PV_assign rfl) ?_
  refine TL_nil ?_
  refine T_ret ?_
  -- ('ret',)
  refine ⟨_, _, ?_, ResV_one rfl rfl, ⟨rfl, rfl⟩⟩
  repeat (first | exact List.Sublist.refl _ | apply List.Sublist.cons_cons | apply List.Sublist.cons)
set_option maxRecDepth 100000 in
theorem t96if {g : Nat} (r : Rcv) (e : Int) (A : Option Addr) (m k : Nat) : TCall Try.prog w0 B 96 #[.pointer (some ⟨g, 0, none⟩), .iface 135 (.int .i64 e), .slice A m k] (fun v H' => v = .slice A m k ∧ H' = rcvC g { r with over := true, err := .iface 135 (.int .i64 e) } :: X) (rcvC g r :: X) := by
  obtain ⟨crc, wait, tries, left, number, begun, close, bA, bc, buf, dA, dc, dat, blocks, want, over, err⟩ := r
  refine TCall_intro (args := [_, _, _]) Try.func96 rfl Try.ntmps96 (Nat.le_of_ble_eq_true rfl) ?_
  refine T_seq ?_
  refine T_region ?_
  refine TL_pure (d := (some 6)) rfl rfl rfl (PV_assign rfl) ?_
  refine TL_nil ?_
  refine T_seq ?_
  refine T_region ?_
  refine TL_pure (d := (some 7)) rfl rfl rfl (PV_move rfl) ?_
  refine TL_pure (d := (some 8)) rfl rfl rfl (PV_move rfl) ?_
  refine TL_pure (d := (some 9)) rfl rfl rfl (PV_move rfl) ?_
  refine TL_pure (d := (some 10)) rfl rfl rfl (PV_nilCheck rfl) ?_
  refine TL_pure (d := (some 11)) rfl rfl rfl (PV_fieldAddr (D := 11) Try.underlying140 rfl sz4 (by decide) rfl rfl) ?_
  first | (refine TL_cons rfl (TO_store1 0 rfl rfl rfl sz4 rfl rfl rfl (by first | exact Nat.le_of_ble_eq_true rfl | (simp; done) | (simp; omega) | omega) ?_)) | (refine TL_cons rfl (TO_store1 1 rfl rfl rfl sz4 rfl rfl rfl (by first | exact Nat.le_of_ble_eq_true rfl | (simp; done) | (simp; omega) | omega) ?_)) | (refine TL_cons rfl (TO_store1 2 rfl rfl rfl sz4 rfl rfl rfl (by first | exact Nat.le_of_ble_eq_true rfl | (simp; done) | (simp; omega) | omega) ?_)) | (refine TL_cons rfl (TO_store1 3 rfl rfl rfl sz4 rfl rfl rfl (by first | exact Nat.le_of_ble_eq_true rfl | (simp; done) | (simp; omega) | omega) ?_)) | (refine TL_cons rfl (TO_store1 4 rfl rfl rfl sz4 rfl rfl rfl (by first | exact Nat.le_of_ble_eq_true rfl | (simp; done) | (simp; omega) | omega) ?_)) | (refine TL_cons rfl (TO_store1 5 rfl rfl rfl sz4 rfl rfl rfl (by first | exact Nat.le_of_ble_eq_true rfl | (simp; done) | (simp; omega) | omega) ?_)) | (refine TL_cons rfl (TO_store1 6 rfl rfl rfl sz4 rfl rfl rfl (by first | exact Nat.le_of_ble_eq_true rfl | (simp; done) | (simp; omega) | omega) ?_)) | (refine TL_cons rfl (TO_store1 7 rfl rfl rfl sz4 rfl rfl rfl (by first | exact Nat.le_of_ble_eq_true rfl | (simp; done) | (simp; omega) | omega) ?_)) | (refine TL_cons rfl (TO_store1 8 rfl rfl rfl sz4 rfl rfl rfl (by first | exact Nat.le_of_ble_eq_true rfl | (simp; done) | (simp; omega) | omega) ?_))
  refine TL_pure (d := (some 12)) rfl rfl rfl (PV_nilCheck rfl) ?_
  refine TL_pure (d := (some 13)) rfl rfl rfl (PV_fieldAddr (D := 12) Try.underlying140 rfl sz83 (by decide) rfl rfl) ?_
  first | (refine TL_cons rfl (TO_store1 0 rfl rfl rfl sz83 rfl rfl rfl (by first | exact Nat.le_of_ble_eq_true rfl | (simp; done) | (simp; omega) | omega) ?_)) | (refine TL_cons rfl (TO_store1 1 rfl rfl rfl sz83 rfl rfl rfl (by first | exact Nat.le_of_ble_eq_true rfl | (simp; done) | (simp; omega) | omega) ?_)) | (refine TL_cons rfl (TO_store1 2 rfl rfl rfl sz83 rfl rfl rfl (by first | exact Nat.le_of_ble_eq_true rfl | (simp; done) | (simp; omega) | omega) ?_)) | (refine TL_cons rfl (TO_store1 3 rfl rfl rfl sz83 rfl rfl rfl (by first | exact Nat.le_of_ble_eq_true rfl | (simp; done) | (simp; omega) | omega) ?_)) | (refine TL_cons rfl (TO_store1 4 rfl rfl rfl sz83 rfl rfl rfl (by first | exact Nat.le_of_ble_eq_true rfl | (simp; done) | (simp; omega) | omega) ?_)) | (refine TL_cons rfl (TO_store1 5 rfl rfl rfl sz83 rfl rfl rfl (by first | exact Nat.le_of_ble_eq_true rfl | (simp; done) | (simp; omega) | omega) ?_)) | (refine TL_cons rfl (TO_store1 6 rfl rfl rfl sz83 rfl rfl rfl (by first | exact Nat.le_of_ble_eq_true rfl | (simp; done) | (simp; omega) | omega) ?_)) | (refine TL_cons rfl (TO_store1 7 rfl rfl rfl sz83 rfl rfl rfl (by first | exact Nat.le_of_ble_eq_true rfl | (simp; done) | (simp; omega) | omega) ?_)) | (refine TL_cons rfl (TO_store1 8 rfl rfl rfl sz83 rfl rfl rfl (by first | exact Nat.le_of_ble_eq_true rfl | (simp; done) | (simp; omega) | omega) ?_))
  refine TL_nil ?_
  refine T_seq ?_
  refine T_region ?_
  refine TL_pure (d := (some 14)) rfl rfl rfl (PV_move rfl) ?_
  refine TL_pure (d := (some 6)) rfl rfl rfl (PV_assign rfl) ?_
  refine TL_nil ?_
  refine T_ret ?_
  -- ('ret',)
  refine ⟨_, _, ?_, ResV_one rfl rfl, ⟨rfl, rfl⟩⟩
  repeat (first | exact List.Sublist.refl _ | apply List.Sublist.cons_cons | apply List.Sublist.cons)
set_option maxRecDepth 100000 in
theorem t77 {g : Nat} (r : Rcv) (hd : r.dat.length ≤ 140737488355328) : TCall Try.prog w0 B 77 #[.pointer (some ⟨g, 0, none⟩)] (fun v H' => ∃ (A : Option Addr) (k : Nat), v = .slice A r.dat.length k ∧ r.dat.length ≤ k ∧ H' = .sl (.slice A r.dat.length k) 1 r.dat.length (nums .u8 r.dat) :: rcvC g r :: bufC r :: datC r :: X) (rcvC g r :: bufC r :: datC r :: X) := by
  obtain ⟨crc, wait, tries, left, number, begun, close, bA, bc, buf, dA, dc, dat, blocks, want, over, err⟩ := r
  dsimp only at hd
  refine TCall_intro (args := [_]) Try.func77 rfl Try.ntmps77 (Nat.le_of_ble_eq_true rfl) ?_
  refine T_seq ?_
  refine T_region ?_
  refine TL_pure (d := (some 2)) rfl rfl rfl (PV_assign rfl) ?_
  refine TL_nil ?_
  refine T_seq ?_
  refine T_region ?_
  refine TL_pure (d := (some 3)) rfl rfl rfl (PV_move rfl) ?_
  refine TL_pure (d := (some 4)) rfl rfl rfl (PV_nilCheck rfl) ?_
  refine TL_pure (d := (some 5)) rfl rfl rfl (PV_fieldAddr (D := 8) Try.underlying140 rfl sz23 (by decide) rfl rfl) ?_
  refine TL_pure (d := (some 6)) rfl rfl rfl (PV_load Try.underlying23 rfl rfl (by first | exact Rd.at 0 rfl rfl | exact Rd.at 1 rfl rfl | exact Rd.at 2 rfl rfl | exact Rd.at 3 rfl rfl | exact Rd.at 4 rfl rfl | exact Rd.at 5 rfl rfl | exact Rd.at 6 rfl rfl | exact Rd.at 7 rfl rfl | exact Rd.at 8 rfl rfl)) ?_
  -- op 7 append(cnilslice, t6) [23, 23]
  refine TL_cons rfl (TO_appendNil Try.underlying23 zb5 rfl (by decide) rfl rfl rfl (Shows.at 2 rfl) nums_one (by show dat.length * 1 ≤ 140737488355328; omega) (by show dat.length ≤ 9223372036854775807; omega) fun A7 c7 hc7 => ?_)
  refine TL_pure (d := (some 2)) rfl rfl rfl (PV_assign rfl) ?_
  refine TL_nil ?_
  refine T_ret ?_
  -- ('ret',)
  refine ⟨_, _, ?_, ResV_one rfl rfl, ⟨A7, c7, rfl, hc7, rfl⟩⟩
  repeat (first | exact List.Sublist.refl _ | apply List.Sublist.cons_cons | apply List.Sublist.cons)
set_option maxRecDepth 100000 in
theorem t69 (a b : Int) (number : Int) (crc close : Bool) (many : Int) : TCall Try.prog w0 B 69 #[.agg #[.int .i64 a, .int .i64 b], .int .u8 number, .bool crc, .bool close, .int .i64 many] (fun v H' => ∃ g : Nat, v = .pointer (some ⟨g, 0, none⟩) ∧ H' = rcvC g ⟨crc, max 1 (min b 99), max 1 (min a 9), 1, number, false, close, none, 0, [], none, 0, [], 0, max 1 many, false, .nilIface⟩ :: X) X := by
  refine TCall_intro (args := [_, _, _, _, _]) Try.func69 rfl Try.ntmps69 (Nat.le_of_ble_eq_true rfl) ?_
  refine T_seq ?_
  refine T_region ?_
  refine TL_cons rfl (TO_box rfl rfl fun g5 => ?_)
  refine TL_pure (d := (some 10)) rfl rfl rfl (PV_assign rfl) ?_
  refine TL_nil ?_
  refine T_seq ?_
  refine T_drawn (WH _ _ _) mixed (by intro w h; exact h) ?_
  refine TA_take (dd := (some 13)) 0 rfl (by kernel_rfl) (by kernel_rfl) (by kernel_rfl) rfl rfl rfl (PV_fieldAddr (D := 1) Try.underlying79 rfl sz3 (by decide) rfl rfl) ?_
  first | (refine TA_take (dd := (some 14)) 1 rfl (by kernel_rfl) (by kernel_rfl) (by kernel_rfl) rfl rfl rfl (PV_load Try.underlying3 rfl rfl (by first | exact Rd.at 0 rfl rfl | exact Rd.at 1 rfl rfl | exact Rd.at 2 rfl rfl | exact Rd.at 3 rfl rfl | exact Rd.at 4 rfl rfl | exact Rd.at 5 rfl rfl | exact Rd.at 6 rfl rfl | exact Rd.at 7 rfl rfl | exact Rd.at 8 rfl rfl)) ?_) | (refine TA_pure1 (dd := (some 14)) 1 (by kernel_rfl) rfl rfl rfl rfl (PV_load Try.underlying3 rfl rfl (by first | exact Rd.at 0 rfl rfl | exact Rd.at 1 rfl rfl | exact Rd.at 2 rfl rfl | exact Rd.at 3 rfl rfl | exact Rd.at 4 rfl rfl | exact Rd.at 5 rfl rfl | exact Rd.at 6 rfl rfl | exact Rd.at 7 rfl rfl | exact Rd.at 8 rfl rfl)) ?_)
  refine TA_take (dd := (some 15)) 2 rfl (by kernel_rfl) (by kernel_rfl) (by kernel_rfl) rfl rfl rfl (PV_min rfl rfl) ?_
  refine TA_take (dd := (some 16)) 3 rfl (by kernel_rfl) (by kernel_rfl) (by kernel_rfl) rfl rfl rfl (PV_max rfl rfl) ?_
  refine TA_take (dd := (some 17)) 4 rfl (by kernel_rfl) (by kernel_rfl) (by kernel_rfl) rfl rfl rfl (PV_fieldAddr (D := 0) Try.underlying79 rfl sz3 (by decide) rfl rfl) ?_
  first | (refine TA_take (dd := (some 18)) 5 rfl (by kernel_rfl) (by kernel_rfl) (by kernel_rfl) rfl rfl rfl (PV_load Try.underlying3 rfl rfl (by first | exact Rd.at 0 rfl rfl | exact Rd.at 1 rfl rfl | exact Rd.at 2 rfl rfl | exact Rd.at 3 rfl rfl | exact Rd.at 4 rfl rfl | exact Rd.at 5 rfl rfl | exact Rd.at 6 rfl rfl | exact Rd.at 7 rfl rfl | exact Rd.at 8 rfl rfl)) ?_) | (refine TA_pure1 (dd := (some 18)) 5 (by kernel_rfl) rfl rfl rfl rfl (PV_load Try.underlying3 rfl rfl (by first | exact Rd.at 0 rfl rfl | exact Rd.at 1 rfl rfl | exact Rd.at 2 rfl rfl | exact Rd.at 3 rfl rfl | exact Rd.at 4 rfl rfl | exact Rd.at 5 rfl rfl | exact Rd.at 6 rfl rfl | exact Rd.at 7 rfl rfl | exact Rd.at 8 rfl rfl)) ?_)
  refine TA_take (dd := (some 19)) 6 rfl (by kernel_rfl) (by kernel_rfl) (by kernel_rfl) rfl rfl rfl (PV_min rfl rfl) ?_
  refine TA_take (dd := (some 20)) 7 rfl (by kernel_rfl) (by kernel_rfl) (by kernel_rfl) rfl rfl rfl (PV_max rfl rfl) ?_
  refine TA_take (dd := (some 11)) 8 rfl (by kernel_rfl) (by kernel_rfl) (by kernel_rfl) rfl rfl rfl (PV_assign rfl) ?_
  refine TA_take (dd := (some 12)) 9 rfl (by kernel_rfl) (by kernel_rfl) (by kernel_rfl) rfl rfl rfl (PV_assign rfl) ?_
  refine TA_done (by kernel_rfl) ?_
  refine T_seq ?_
  refine T_region ?_
  refine TL_pure (d := (some 21)) rfl rfl rfl (PV_move rfl) ?_
  refine TL_pure (d := (some 22)) rfl rfl rfl (PV_move rfl) ?_
  refine TL_pure (d := (some 23)) rfl rfl rfl (PV_move rfl) ?_
  refine TL_pure (d := (some 24)) rfl rfl rfl (PV_move rfl) ?_
  refine TL_pure (d := (some 25)) rfl rfl rfl (PV_move rfl) ?_
  refine TL_pure (d := (some 26)) rfl rfl rfl (PV_move rfl) ?_
  refine TL_pure (d := (some 27)) rfl rfl rfl (PV_max rfl rfl) ?_
  refine TL_pure (d := (some 28)) rfl rfl rfl (PV_build (ps := _) (cells := #[.bool crc, .int .i64 (max 1 (min b 99)), .int .i64 (max 1 (min a 9)), .int .i64 1, .int .u8 number, .bool false, .bool close, .slice none 0 0, .slice none 0 0, .int .i64 0, .int .i64 (max 1 many), .bool false, .nilIface]) Try.underlying140 pl140 zr140 rfl (by kernel_rfl)) ?_
  refine TL_cons rfl (TO_box rfl rfl fun g29 => ?_)
  refine TL_pure (d := (some 10)) rfl rfl rfl (PV_assign rfl) ?_
  refine TL_nil ?_
  refine T_ret ?_
  -- ('ret',)
  refine ⟨_, _, ?_, ResV_one rfl rfl, ⟨g29, rfl, rfl⟩⟩
  repeat (first | exact List.Sublist.refl _ | apply List.Sublist.cons_cons | apply List.Sublist.cons)
-- MORE
def Rcv.took (r : Rcv) (A : Option Addr) (k : Nat) (ds : List Int) : Rcv := { r with dA := A, dc := k, dat := r.dat ++ ds, number := (r.number + 1) % 256, blocks := r.blocks + 1, begun := true }
def Rcv.fin (r : Rcv) : Rcv := if r.close = false ∧ r.blocks = r.want then { r with over := true, err := .nilIface } else r
set_option maxRecDepth 100000 in
theorem t99next {g : Nat} {num : Int} (r : Rcv) {Ax : Option Addr} {m cx : Nat} {xs : List Int} (hx : Shows (WH w0 B X) Ax m 1 (nums .u8 xs)) (hm : xs.length = m) (hb : r.dat.length + m ≤ 140737488355328) (hk : 0 ≤ r.blocks ∧ r.blocks ≤ 1000000) (hnum : num = r.number) :
    TCall Try.prog w0 B 99 #[.pointer (some ⟨g, 0, none⟩), .agg #[.int .u8 num, .slice Ax m cx]] (fun v H' => ∃ (A6 : Option Addr) (k6 : Nat) (A : Option Addr) (k : Nat), v = .slice A6 1 k6 ∧ 1 ≤ k6 ∧ (r.took A k xs).dat.length ≤ k ∧ H' = .sl (.slice A6 1 k6) 1 1 (nums .u8 [6]) :: rcvC g (r.took A k xs).fin :: bufC (r.took A k xs).fin :: datC (r.took A k xs).fin :: X) (rcvC g r :: bufC r :: datC r :: X) := by
  subst hnum
  subst hm
  obtain ⟨crc, wait, tries, left, number, begun, close, bA, bc, buf, dA, dc, dat, blocks, want, over, err⟩ := r
  dsimp only at hb hk
  refine TCall_intro (args := [_, _]) Try.func99 rfl Try.ntmps99 (Nat.le_of_ble_eq_true rfl) ?_
  refine T_seq ?_
  refine T_region ?_
  refine TL_cons rfl (TO_box rfl rfl fun g3 => ?_)
  refine TL_pure (d := (some 4)) rfl rfl rfl (PV_assign rfl) ?_
  refine TL_nil ?_
  refine T_seq ?_
  refine T_block ?_
  refine T_seq ?_
  refine T_drawn (WH _ _ _) mixed (by intro w h; exact h) ?_
  refine TA_take (dd := (some 6)) 0 rfl (by kernel_rfl) (by kernel_rfl) (by kernel_rfl) rfl rfl rfl (PV_fieldAddr (D := 0) Try.underlying58 rfl sz5 (by decide) rfl rfl) ?_
  first | (refine TA_take (dd := (some 7)) 1 rfl (by kernel_rfl) (by kernel_rfl) (by kernel_rfl) rfl rfl rfl (PV_load Try.underlying5 rfl rfl (by first | exact Rd.at 0 rfl rfl | exact Rd.at 1 rfl rfl | exact Rd.at 2 rfl rfl | exact Rd.at 3 rfl rfl | exact Rd.at 4 rfl rfl | exact Rd.at 5 rfl rfl | exact Rd.at 6 rfl rfl | exact Rd.at 7 rfl rfl | exact Rd.at 8 rfl rfl)) ?_) | (refine TA_pure1 (dd := (some 7)) 1 (by kernel_rfl) rfl rfl rfl rfl (PV_load Try.underlying5 rfl rfl (by first | exact Rd.at 0 rfl rfl | exact Rd.at 1 rfl rfl | exact Rd.at 2 rfl rfl | exact Rd.at 3 rfl rfl | exact Rd.at 4 rfl rfl | exact Rd.at 5 rfl rfl | exact Rd.at 6 rfl rfl | exact Rd.at 7 rfl rfl | exact Rd.at 8 rfl rfl)) ?_)
  refine TA_take (dd := (some 8)) 2 rfl (by kernel_rfl) (by kernel_rfl) (by kernel_rfl) rfl rfl rfl (PV_move rfl) ?_
  refine TA_take (dd := (some 9)) 3 rfl (by kernel_rfl) (by kernel_rfl) (by kernel_rfl) rfl rfl rfl (PV_nilCheck rfl) ?_
  refine TA_take (dd := (some 10)) 4 rfl (by kernel_rfl) (by kernel_rfl) (by kernel_rfl) rfl rfl rfl (PV_fieldAddr (D := 4) Try.underlying140 rfl sz5 (by decide) rfl rfl) ?_
  first | (refine TA_take (dd := (some 11)) 5 rfl (by kernel_rfl) (by kernel_rfl) (by kernel_rfl) rfl rfl rfl (PV_load Try.underlying5 rfl rfl (by first | exact Rd.at 0 rfl rfl | exact Rd.at 1 rfl rfl | exact Rd.at 2 rfl rfl | exact Rd.at 3 rfl rfl | exact Rd.at 4 rfl rfl | exact Rd.at 5 rfl rfl | exact Rd.at 6 rfl rfl | exact Rd.at 7 rfl rfl | exact Rd.at 8 rfl rfl)) ?_) | (refine TA_pure1 (dd := (some 11)) 5 (by kernel_rfl) rfl rfl rfl rfl (PV_load Try.underlying5 rfl rfl (by first | exact Rd.at 0 rfl rfl | exact Rd.at 1 rfl rfl | exact Rd.at 2 rfl rfl | exact Rd.at 3 rfl rfl | exact Rd.at 4 rfl rfl | exact Rd.at 5 rfl rfl | exact Rd.at 6 rfl rfl | exact Rd.at 7 rfl rfl | exact Rd.at 8 rfl rfl)) ?_)
  refine TA_take (dd := (some 12)) 6 rfl (by kernel_rfl) (by kernel_rfl) (by kernel_rfl) rfl rfl rfl (PV_bin rfl rfl bin_eql) ?_
  refine TA_take (dd := (some 5)) 7 rfl (by kernel_rfl) (by kernel_rfl) (by kernel_rfl) rfl rfl rfl (PV_assign rfl) ?_
  refine TA_done (by kernel_rfl) ?_
  -- IF t5
  refine T_then rfl (by exact beq_self_eq_true _) ?_
  refine T_seq ?_
  refine T_drawn (WH w0 B [Chunk.own g3 2 [.int .u8 number, .slice Ax xs.length cx]]) mixed (by intro w h; exact h.sub (List.Sublist.cons_cons _ (List.nil_sublist _))) ?_
  refine TA_take (dd := (some 13)) 0 rfl (by kernel_rfl) (by kernel_rfl) (by kernel_rfl) rfl rfl rfl (PV_move rfl) ?_
  refine TA_take (dd := (some 14)) 1 rfl (by kernel_rfl) (by kernel_rfl) (by kernel_rfl) rfl rfl rfl (PV_move rfl) ?_
  refine TA_take (dd := (some 15)) 2 rfl (by kernel_rfl) (by kernel_rfl) (by kernel_rfl) rfl rfl rfl (PV_nilCheck rfl) ?_
  refine TA_take (dd := (some 16)) 3 rfl (by kernel_rfl) (by kernel_rfl) (by kernel_rfl) rfl rfl rfl (PV_fieldAddr (D := 8) Try.underlying140 rfl sz23 (by decide) rfl rfl) ?_
  refine TA_take (dd := (some 18)) 5 rfl (by kernel_rfl) (by kernel_rfl) (by kernel_rfl) rfl rfl rfl (PV_fieldAddr (D := 1) Try.underlying58 rfl sz23 (by decide) rfl rfl) ?_
  first | (refine TA_take (dd := (some 19)) 6 rfl (by kernel_rfl) (by kernel_rfl) (by kernel_rfl) rfl rfl rfl (PV_load Try.underlying23 rfl rfl (by first | exact Rd.at 0 rfl rfl | exact Rd.at 1 rfl rfl | exact Rd.at 2 rfl rfl | exact Rd.at 3 rfl rfl | exact Rd.at 4 rfl rfl | exact Rd.at 5 rfl rfl | exact Rd.at 6 rfl rfl | exact Rd.at 7 rfl rfl | exact Rd.at 8 rfl rfl)) ?_) | (refine TA_pure1 (dd := (some 19)) 6 (by kernel_rfl) rfl rfl rfl rfl (PV_load Try.underlying23 rfl rfl (by first | exact Rd.at 0 rfl rfl | exact Rd.at 1 rfl rfl | exact Rd.at 2 rfl rfl | exact Rd.at 3 rfl rfl | exact Rd.at 4 rfl rfl | exact Rd.at 5 rfl rfl | exact Rd.at 6 rfl rfl | exact Rd.at 7 rfl rfl | exact Rd.at 8 rfl rfl)) ?_)
  refine TA_pure1 (dd := (some 17)) 4 (by kernel_rfl) rfl rfl rfl rfl (PV_load Try.underlying23 rfl rfl (by first | exact Rd.at 0 rfl rfl | exact Rd.at 1 rfl rfl | exact Rd.at 2 rfl rfl | exact Rd.at 3 rfl rfl | exact Rd.at 4 rfl rfl | exact Rd.at 5 rfl rfl | exact Rd.at 6 rfl rfl | exact Rd.at 7 rfl rfl | exact Rd.at 8 rfl rfl)) ?_
  -- dop 7 20 append(t17, t19) [23, 23]
  refine TA_one 7 (by kernel_rfl) rfl rfl (TO_append 3 rfl Try.underlying23 zb5 rfl (by decide) rfl rfl rfl (hx.mono fun w h => h.tl.tl.tl.tl) nums_one (by show (dat.length + xs.length) * 1 ≤ 140737488355328; omega) (by show dat.length + xs.length ≤ 9223372036854775807; omega) fun A20 c20 hc20 => ?_)
  refine ⟨by intro w h; exact h.sub (List.Sublist.cons_cons _ (List.nil_sublist _)), ?_⟩
  rw [show nums .u8 dat ++ nums .u8 xs = nums .u8 (dat ++ xs) from List.map_append.symm, show dat.length + xs.length = (dat ++ xs).length from List.length_append.symm]
  replace hc20 : (dat ++ xs).length ≤ c20 := by rw [List.length_append]; exact hc20
  cases close with
  | true =>
    have hfin : (Rcv.took ⟨crc, wait, tries, left, number, begun, true, bA, bc, buf, dA, dc, dat, blocks, want, over, err⟩ A20 c20 xs).fin = Rcv.took ⟨crc, wait, tries, left, number, begun, true, bA, bc, buf, dA, dc, dat, blocks, want, over, err⟩ A20 c20 xs := if_neg (fun h => by cases h.1)
    refine TA_take (dd := (some 21)) 8 rfl (by kernel_rfl) (by kernel_rfl) (by kernel_rfl) rfl rfl rfl (PV_nilCheck rfl) ?_
    refine TA_take (dd := (some 22)) 9 rfl (by kernel_rfl) (by kernel_rfl) (by kernel_rfl) rfl rfl rfl (PV_fieldAddr (D := 8) Try.underlying140 rfl sz23 (by decide) rfl rfl) ?_
    first | (refine TA_one 10 (by kernel_rfl) rfl rfl (TO_store1 0 rfl rfl rfl sz23 rfl rfl rfl (by first | exact Nat.le_of_ble_eq_true rfl | (simp; done) | (simp; omega) | omega) ?_)) | (refine TA_one 10 (by kernel_rfl) rfl rfl (TO_store1 1 rfl rfl rfl sz23 rfl rfl rfl (by first | exact Nat.le_of_ble_eq_true rfl | (simp; done) | (simp; omega) | omega) ?_)) | (refine TA_one 10 (by kernel_rfl) rfl rfl (TO_store1 2 rfl rfl rfl sz23 rfl rfl rfl (by first | exact Nat.le_of_ble_eq_true rfl | (simp; done) | (simp; omega) | omega) ?_)) | (refine TA_one 10 (by kernel_rfl) rfl rfl (TO_store1 3 rfl rfl rfl sz23 rfl rfl rfl (by first | exact Nat.le_of_ble_eq_true rfl | (simp; done) | (simp; omega) | omega) ?_)) | (refine TA_one 10 (by kernel_rfl) rfl rfl (TO_store1 4 rfl rfl rfl sz23 rfl rfl rfl (by first | exact Nat.le_of_ble_eq_true rfl | (simp; done) | (simp; omega) | omega) ?_)) | (refine TA_one 10 (by kernel_rfl) rfl rfl (TO_store1 5 rfl rfl rfl sz23 rfl rfl rfl (by first | exact Nat.le_of_ble_eq_true rfl | (simp; done) | (simp; omega) | omega) ?_)) | (refine TA_one 10 (by kernel_rfl) rfl rfl (TO_store1 6 rfl rfl rfl sz23 rfl rfl rfl (by first | exact Nat.le_of_ble_eq_true rfl | (simp; done) | (simp; omega) | omega) ?_)) | (refine TA_one 10 (by kernel_rfl) rfl rfl (TO_store1 7 rfl rfl rfl sz23 rfl rfl rfl (by first | exact Nat.le_of_ble_eq_true rfl | (simp; done) | (simp; omega) | omega) ?_)) | (refine TA_one 10 (by kernel_rfl) rfl rfl (TO_store1 8 rfl rfl rfl sz23 rfl rfl rfl (by first | exact Nat.le_of_ble_eq_true rfl | (simp; done) | (simp; omega) | omega) ?_))
    refine ⟨by intro w h; exact h.sub (List.Sublist.cons_cons _ (List.nil_sublist _)), ?_⟩
    refine TA_done (by kernel_rfl) ?_
    refine T_seq ?_
    refine T_region ?_
    refine TL_pure (d := (some 23)) rfl rfl rfl (PV_move rfl) ?_
    refine TL_pure (d := (some 24)) rfl rfl rfl (PV_nilCheck rfl) ?_
    refine TL_pure (d := (some 25)) rfl rfl rfl (PV_fieldAddr (D := 4) Try.underlying140 rfl sz5 (by decide) rfl rfl) ?_
    refine TL_pure (d := (some 26)) rfl rfl rfl (PV_load Try.underlying5 rfl rfl (by first | exact Rd.at 0 rfl rfl | exact Rd.at 1 rfl rfl | exact Rd.at 2 rfl rfl | exact Rd.at 3 rfl rfl | exact Rd.at 4 rfl rfl | exact Rd.at 5 rfl rfl | exact Rd.at 6 rfl rfl | exact Rd.at 7 rfl rfl | exact Rd.at 8 rfl rfl)) ?_
    refine TL_pure (d := (some 27)) rfl rfl rfl (PV.cast (PV_bin rfl rfl bin_add) (congrArg (Value.int .u8) (IntKind.wrap_u8 _))) ?_
    refine TL_pure (d := (some 28)) rfl rfl rfl (PV_nilCheck rfl) ?_
    refine TL_pure (d := (some 29)) rfl rfl rfl (PV_fieldAddr (D := 4) Try.underlying140 rfl sz5 (by decide) rfl rfl) ?_
    first | (refine TL_cons rfl (TO_store1 0 rfl rfl rfl sz5 rfl rfl rfl (by first | exact Nat.le_of_ble_eq_true rfl | (simp; done) | (simp; omega) | omega) ?_)) | (refine TL_cons rfl (TO_store1 1 rfl rfl rfl sz5 rfl rfl rfl (by first | exact Nat.le_of_ble_eq_true rfl | (simp; done) | (simp; omega) | omega) ?_)) | (refine TL_cons rfl (TO_store1 2 rfl rfl rfl sz5 rfl rfl rfl (by first | exact Nat.le_of_ble_eq_true rfl | (simp; done) | (simp; omega) | omega) ?_)) | (refine TL_cons rfl (TO_store1 3 rfl rfl rfl sz5 rfl rfl rfl (by first | exact Nat.le_of_ble_eq_true rfl | (simp; done) | (simp; omega) | omega) ?_)) | (refine TL_cons rfl (TO_store1 4 rfl rfl rfl sz5 rfl rfl rfl (by first | exact Nat.le_of_ble_eq_true rfl | (simp; done) | (simp; omega) | omega) ?_)) | (refine TL_cons rfl (TO_store1 5 rfl rfl rfl sz5 rfl rfl rfl (by first | exact Nat.le_of_ble_eq_true rfl | (simp; done) | (simp; omega) | omega) ?_)) | (refine TL_cons rfl (TO_store1 6 rfl rfl rfl sz5 rfl rfl rfl (by first | exact Nat.le_of_ble_eq_true rfl | (simp; done) | (simp; omega) | omega) ?_)) | (refine TL_cons rfl (TO_store1 7 rfl rfl rfl sz5 rfl rfl rfl (by first | exact Nat.le_of_ble_eq_true rfl | (simp; done) | (simp; omega) | omega) ?_)) | (refine TL_cons rfl (TO_store1 8 rfl rfl rfl sz5 rfl rfl rfl (by first | exact Nat.le_of_ble_eq_true rfl | (simp; done) | (simp; omega) | omega) ?_))
    refine TL_nil ?_
    refine T_seq ?_
    refine T_region ?_
    refine TL_pure (d := (some 30)) rfl rfl rfl (PV_move rfl) ?_
    refine TL_pure (d := (some 31)) rfl rfl rfl (PV_nilCheck rfl) ?_
    refine TL_pure (d := (some 32)) rfl rfl rfl (PV_fieldAddr (D := 9) Try.underlying140 rfl sz3 (by decide) rfl rfl) ?_
    refine TL_pure (d := (some 33)) rfl rfl rfl (PV_load Try.underlying3 rfl rfl (by first | exact Rd.at 0 rfl rfl | exact Rd.at 1 rfl rfl | exact Rd.at 2 rfl rfl | exact Rd.at 3 rfl rfl | exact Rd.at 4 rfl rfl | exact Rd.at 5 rfl rfl | exact Rd.at 6 rfl rfl | exact Rd.at 7 rfl rfl | exact Rd.at 8 rfl rfl)) ?_
    refine TL_pure (d := (some 34)) rfl rfl rfl (PV.cast (PV_bin rfl rfl bin_add) (wr64 (show -9223372036854775808 ≤ blocks + 1 ∧ blocks + 1 ≤ 9223372036854775807 by omega))) ?_
    refine TL_pure (d := (some 35)) rfl rfl rfl (PV_nilCheck rfl) ?_
    refine TL_pure (d := (some 36)) rfl rfl rfl (PV_fieldAddr (D := 9) Try.underlying140 rfl sz3 (by decide) rfl rfl) ?_
    first | (refine TL_cons rfl (TO_store1 0 rfl rfl rfl sz3 rfl rfl rfl (by first | exact Nat.le_of_ble_eq_true rfl | (simp; done) | (simp; omega) | omega) ?_)) | (refine TL_cons rfl (TO_store1 1 rfl rfl rfl sz3 rfl rfl rfl (by first | exact Nat.le_of_ble_eq_true rfl | (simp; done) | (simp; omega) | omega) ?_)) | (refine TL_cons rfl (TO_store1 2 rfl rfl rfl sz3 rfl rfl rfl (by first | exact Nat.le_of_ble_eq_true rfl | (simp; done) | (simp; omega) | omega) ?_)) | (refine TL_cons rfl (TO_store1 3 rfl rfl rfl sz3 rfl rfl rfl (by first | exact Nat.le_of_ble_eq_true rfl | (simp; done) | (simp; omega) | omega) ?_)) | (refine TL_cons rfl (TO_store1 4 rfl rfl rfl sz3 rfl rfl rfl (by first | exact Nat.le_of_ble_eq_true rfl | (simp; done) | (simp; omega) | omega) ?_)) | (refine TL_cons rfl (TO_store1 5 rfl rfl rfl sz3 rfl rfl rfl (by first | exact Nat.le_of_ble_eq_true rfl | (simp; done) | (simp; omega) | omega) ?_)) | (refine TL_cons rfl (TO_store1 6 rfl rfl rfl sz3 rfl rfl rfl (by first | exact Nat.le_of_ble_eq_true rfl | (simp; done) | (simp; omega) | omega) ?_)) | (refine TL_cons rfl (TO_store1 7 rfl rfl rfl sz3 rfl rfl rfl (by first | exact Nat.le_of_ble_eq_true rfl | (simp; done) | (simp; omega) | omega) ?_)) | (refine TL_cons rfl (TO_store1 8 rfl rfl rfl sz3 rfl rfl rfl (by first | exact Nat.le_of_ble_eq_true rfl | (simp; done) | (simp; omega) | omega) ?_))
    refine TL_nil ?_
    refine T_region ?_
    refine TL_pure (d := (some 37)) rfl rfl rfl (PV_move rfl) ?_
    refine TL_pure (d := (some 38)) rfl rfl rfl (PV_nilCheck rfl) ?_
    refine TL_pure (d := (some 39)) rfl rfl rfl (PV_fieldAddr (D := 5) Try.underlying140 rfl sz4 (by decide) rfl rfl) ?_
    first | (refine TL_cons rfl (TO_store1 0 rfl rfl rfl sz4 rfl rfl rfl (by first | exact Nat.le_of_ble_eq_true rfl | (simp; done) | (simp; omega) | omega) ?_)) | (refine TL_cons rfl (TO_store1 1 rfl rfl rfl sz4 rfl rfl rfl (by first | exact Nat.le_of_ble_eq_true rfl | (simp; done) | (simp; omega) | omega) ?_)) | (refine TL_cons rfl (TO_store1 2 rfl rfl rfl sz4 rfl rfl rfl (by first | exact Nat.le_of_ble_eq_true rfl | (simp; done) | (simp; omega) | omega) ?_)) | (refine TL_cons rfl (TO_store1 3 rfl rfl rfl sz4 rfl rfl rfl (by first | exact Nat.le_of_ble_eq_true rfl | (simp; done) | (simp; omega) | omega) ?_)) | (refine TL_cons rfl (TO_store1 4 rfl rfl rfl sz4 rfl rfl rfl (by first | exact Nat.le_of_ble_eq_true rfl | (simp; done) | (simp; omega) | omega) ?_)) | (refine TL_cons rfl (TO_store1 5 rfl rfl rfl sz4 rfl rfl rfl (by first | exact Nat.le_of_ble_eq_true rfl | (simp; done) | (simp; omega) | omega) ?_)) | (refine TL_cons rfl (TO_store1 6 rfl rfl rfl sz4 rfl rfl rfl (by first | exact Nat.le_of_ble_eq_true rfl | (simp; done) | (simp; omega) | omega) ?_)) | (refine TL_cons rfl (TO_store1 7 rfl rfl rfl sz4 rfl rfl rfl (by first | exact Nat.le_of_ble_eq_true rfl | (simp; done) | (simp; omega) | omega) ?_)) | (refine TL_cons rfl (TO_store1 8 rfl rfl rfl sz4 rfl rfl rfl (by first | exact Nat.le_of_ble_eq_true rfl | (simp; done) | (simp; omega) | omega) ?_))
    refine TL_nil ?_
    refine T_seq ?_
    refine T_seq ?_
    refine T_drawn (WH _ _ _) mixed (by intro w h; exact h) ?_
    refine TA_take (dd := (some 60)) 0 rfl (by kernel_rfl) (by kernel_rfl) (by kernel_rfl) rfl rfl rfl (PV_move rfl) ?_
    refine TA_take (dd := (some 61)) 1 rfl (by kernel_rfl) (by kernel_rfl) (by kernel_rfl) rfl rfl rfl (PV_nilCheck rfl) ?_
    refine TA_take (dd := (some 62)) 2 rfl (by kernel_rfl) (by kernel_rfl) (by kernel_rfl) rfl rfl rfl (PV_fieldAddr (D := 6) Try.underlying140 rfl sz4 (by decide) rfl rfl) ?_
    first | (refine TA_take (dd := (some 63)) 3 rfl (by kernel_rfl) (by kernel_rfl) (by kernel_rfl) rfl rfl rfl (PV_load Try.underlying4 rfl rfl (by first | exact Rd.at 0 rfl rfl | exact Rd.at 1 rfl rfl | exact Rd.at 2 rfl rfl | exact Rd.at 3 rfl rfl | exact Rd.at 4 rfl rfl | exact Rd.at 5 rfl rfl | exact Rd.at 6 rfl rfl | exact Rd.at 7 rfl rfl | exact Rd.at 8 rfl rfl)) ?_) | (refine TA_pure1 (dd := (some 63)) 3 (by kernel_rfl) rfl rfl rfl rfl (PV_load Try.underlying4 rfl rfl (by first | exact Rd.at 0 rfl rfl | exact Rd.at 1 rfl rfl | exact Rd.at 2 rfl rfl | exact Rd.at 3 rfl rfl | exact Rd.at 4 rfl rfl | exact Rd.at 5 rfl rfl | exact Rd.at 6 rfl rfl | exact Rd.at 7 rfl rfl | exact Rd.at 8 rfl rfl)) ?_)
    refine TA_pure1 (dd := (some 64)) 4 (by kernel_rfl) rfl rfl rfl rfl (PV_not rfl) ?_
    refine TA_take (dd := (some 65)) 5 rfl (by kernel_rfl) (by kernel_rfl) (by kernel_rfl) rfl rfl rfl (PV_move rfl) ?_
    -- dguard 6 66 move t0
    refine TA_no (dd := (some 66)) (b := false) 6 rfl (by kernel_rfl) (by kernel_rfl) (by kernel_rfl) rfl rfl rfl rfl rfl ?_
    refine TA_no (dd := (some 67)) (b := false) 7 rfl (by kernel_rfl) (by kernel_rfl) (by kernel_rfl) rfl rfl rfl rfl rfl ?_
    refine TA_no (dd := (some 68)) (b := false) 8 rfl (by kernel_rfl) (by kernel_rfl) (by kernel_rfl) rfl rfl rfl rfl rfl ?_
    refine TA_no (dd := (some 69)) (b := false) 9 rfl (by kernel_rfl) (by kernel_rfl) (by kernel_rfl) rfl rfl rfl rfl rfl ?_
    refine TA_no (dd := (some 70)) (b := false) 10 rfl (by kernel_rfl) (by kernel_rfl) (by kernel_rfl) rfl rfl rfl rfl rfl ?_
    refine TA_no (dd := (some 71)) (b := false) 11 rfl (by kernel_rfl) (by kernel_rfl) (by kernel_rfl) rfl rfl rfl rfl rfl ?_
    refine TA_no (dd := (some 72)) (b := false) 12 rfl (by kernel_rfl) (by kernel_rfl) (by kernel_rfl) rfl rfl rfl rfl rfl ?_
    refine TA_no (dd := (some 73)) (b := false) 13 rfl (by kernel_rfl) (by kernel_rfl) (by kernel_rfl) rfl rfl rfl rfl rfl ?_
    refine TA_no (dd := (some 74)) (b := false) 14 rfl (by kernel_rfl) (by kernel_rfl) (by kernel_rfl) rfl rfl rfl rfl rfl ?_
    first | (refine TA_take (dd := (some 75)) 15 rfl (by kernel_rfl) (by kernel_rfl) (by kernel_rfl) rfl rfl rfl (PV_pickAnd rfl rfl rfl) ?_) | (refine TA_take (dd := (some 75)) 15 rfl (by kernel_rfl) (by kernel_rfl) (by kernel_rfl) rfl rfl rfl (PV_pickF rfl (by first | assumption | rfl | (simp; done) | (simp; omega)) rfl rfl) ?_)
    refine TA_done (by kernel_rfl) ?_
    -- IF t75
    refine T_else rfl (by rfl) ?_
    refine T_skip ?_
    refine T_seq ?_
    refine T_region ?_
    -- op 79 buildSlice 23 1 [(0 cu8:6)]
    refine TL_cons rfl (TO_buildSlice (cells := #[.int .u8 6]) Try.underlying23 zs5 (by decide) rfl rfl rfl (by kernel_rfl) rfl fun g79 => ?_)
    refine TL_pure (d := (some 4)) rfl rfl rfl (PV_assign rfl) ?_
    refine TL_nil ?_
    refine T_ret ?_
    -- ('ret',)
    refine ⟨_, _, ?_, ResV_one rfl rfl, ⟨_, 1, A20, c20, rfl, Nat.le_refl _, hc20, by rw [hfin]⟩⟩
    repeat (first | exact List.Sublist.refl _ | apply List.Sublist.cons_cons | apply List.Sublist.cons)
  | false =>
    by_cases hw : blocks + 1 = want
    · have hfin : (Rcv.took ⟨crc, wait, tries, left, number, begun, false, bA, bc, buf, dA, dc, dat, blocks, want, over, err⟩ A20 c20 xs).fin = { Rcv.took ⟨crc, wait, tries, left, number, begun, false, bA, bc, buf, dA, dc, dat, blocks, want, over, err⟩ A20 c20 xs with over := true, err := .nilIface } := if_pos ⟨rfl, hw⟩
      refine TA_take (dd := (some 21)) 8 rfl (by kernel_rfl) (by kernel_rfl) (by kernel_rfl) rfl rfl rfl (PV_nilCheck rfl) ?_
      refine TA_take (dd := (some 22)) 9 rfl (by kernel_rfl) (by kernel_rfl) (by kernel_rfl) rfl rfl rfl (PV_fieldAddr (D := 8) Try.underlying140 rfl sz23 (by decide) rfl rfl) ?_
      first | (refine TA_one 10 (by kernel_rfl) rfl rfl (TO_store1 0 rfl rfl rfl sz23 rfl rfl rfl (by first | exact Nat.le_of_ble_eq_true rfl | (simp; done) | (simp; omega) | omega) ?_)) | (refine TA_one 10 (by kernel_rfl) rfl rfl (TO_store1 1 rfl rfl rfl sz23 rfl rfl rfl (by first | exact Nat.le_of_ble_eq_true rfl | (simp; done) | (simp; omega) | omega) ?_)) | (refine TA_one 10 (by kernel_rfl) rfl rfl (TO_store1 2 rfl rfl rfl sz23 rfl rfl rfl (by first | exact Nat.le_of_ble_eq_true rfl | (simp; done) | (simp; omega) | omega) ?_)) | (refine TA_one 10 (by kernel_rfl) rfl rfl (TO_store1 3 rfl rfl rfl sz23 rfl rfl rfl (by first | exact Nat.le_of_ble_eq_true rfl | (simp; done) | (simp; omega) | omega) ?_)) | (refine TA_one 10 (by kernel_rfl) rfl rfl (TO_store1 4 rfl rfl rfl sz23 rfl rfl rfl (by first | exact Nat.le_of_ble_eq_true rfl | (simp; done) | (simp; omega) | omega) ?_)) | (refine TA_one 10 (by kernel_rfl) rfl rfl (TO_store1 5 rfl rfl rfl sz23 rfl rfl rfl (by first | exact Nat.le_of_ble_eq_true rfl | (simp; done) | (simp; omega) | omega) ?_)) | (refine TA_one 10 (by kernel_rfl) rfl rfl (TO_store1 6 rfl rfl rfl sz23 rfl rfl rfl (by first | exact Nat.le_of_ble_eq_true rfl | (simp; done) | (simp; omega) | omega) ?_)) | (refine TA_one 10 (by kernel_rfl) rfl rfl (TO_store1 7 rfl rfl rfl sz23 rfl rfl rfl (by first | exact Nat.le_of_ble_eq_true rfl | (simp; done) | (simp; omega) | omega) ?_)) | (refine TA_one 10 (by kernel_rfl) rfl rfl (TO_store1 8 rfl rfl rfl sz23 rfl rfl rfl (by first | exact Nat.le_of_ble_eq_true rfl | (simp; done) | (simp; omega) | omega) ?_))
      refine ⟨by intro w h; exact h.sub (List.Sublist.cons_cons _ (List.nil_sublist _)), ?_⟩
      refine TA_done (by kernel_rfl) ?_
      refine T_seq ?_
      refine T_region ?_
      refine TL_pure (d := (some 23)) rfl rfl rfl (PV_move rfl) ?_
      refine TL_pure (d := (some 24)) rfl rfl rfl (PV_nilCheck rfl) ?_
      refine TL_pure (d := (some 25)) rfl rfl rfl (PV_fieldAddr (D := 4) Try.underlying140 rfl sz5 (by decide) rfl rfl) ?_
      refine TL_pure (d := (some 26)) rfl rfl rfl (PV_load Try.underlying5 rfl rfl (by first | exact Rd.at 0 rfl rfl | exact Rd.at 1 rfl rfl | exact Rd.at 2 rfl rfl | exact Rd.at 3 rfl rfl | exact Rd.at 4 rfl rfl | exact Rd.at 5 rfl rfl | exact Rd.at 6 rfl rfl | exact Rd.at 7 rfl rfl | exact Rd.at 8 rfl rfl)) ?_
      refine TL_pure (d := (some 27)) rfl rfl rfl (PV.cast (PV_bin rfl rfl bin_add) (congrArg (Value.int .u8) (IntKind.wrap_u8 _))) ?_
      refine TL_pure (d := (some 28)) rfl rfl rfl (PV_nilCheck rfl) ?_
      refine TL_pure (d := (some 29)) rfl rfl rfl (PV_fieldAddr (D := 4) Try.underlying140 rfl sz5 (by decide) rfl rfl) ?_
      first | (refine TL_cons rfl (TO_store1 0 rfl rfl rfl sz5 rfl rfl rfl (by first | exact Nat.le_of_ble_eq_true rfl | (simp; done) | (simp; omega) | omega) ?_)) | (refine TL_cons rfl (TO_store1 1 rfl rfl rfl sz5 rfl rfl rfl (by first | exact Nat.le_of_ble_eq_true rfl | (simp; done) | (simp; omega) | omega) ?_)) | (refine TL_cons rfl (TO_store1 2 rfl rfl rfl sz5 rfl rfl rfl (by first | exact Nat.le_of_ble_eq_true rfl | (simp; done) | (simp; omega) | omega) ?_)) | (refine TL_cons rfl (TO_store1 3 rfl rfl rfl sz5 rfl rfl rfl (by first | exact Nat.le_of_ble_eq_true rfl | (simp; done) | (simp; omega) | omega) ?_)) | (refine TL_cons rfl (TO_store1 4 rfl rfl rfl sz5 rfl rfl rfl (by first | exact Nat.le_of_ble_eq_true rfl | (simp; done) | (simp; omega) | omega) ?_)) | (refine TL_cons rfl (TO_store1 5 rfl rfl rfl sz5 rfl rfl rfl (by first | exact Nat.le_of_ble_eq_true rfl | (simp; done) | (simp; omega) | omega) ?_)) | (refine TL_cons rfl (TO_store1 6 rfl rfl rfl sz5 rfl rfl rfl (by first | exact Nat.le_of_ble_eq_true rfl | (simp; done) | (simp; omega) | omega) ?_)) | (refine TL_cons rfl (TO_store1 7 rfl rfl rfl sz5 rfl rfl rfl (by first | exact Nat.le_of_ble_eq_true rfl | (simp; done) | (simp; omega) | omega) ?_)) | (refine TL_cons rfl (TO_store1 8 rfl rfl rfl sz5 rfl rfl rfl (by first | exact Nat.le_of_ble_eq_true rfl | (simp; done) | (simp; omega) | omega) ?_))
      refine TL_nil ?_
      refine T_seq ?_
      refine T_region ?_
      refine TL_pure (d := (some 30)) rfl rfl rfl (PV_move rfl) ?_
      refine TL_pure (d := (some 31)) rfl rfl rfl (PV_nilCheck rfl) ?_
      refine TL_pure (d := (some 32)) rfl rfl rfl (PV_fieldAddr (D := 9) Try.underlying140 rfl sz3 (by decide) rfl rfl) ?_
      refine TL_pure (d := (some 33)) rfl rfl rfl (PV_load Try.underlying3 rfl rfl (by first | exact Rd.at 0 rfl rfl | exact Rd.at 1 rfl rfl | exact Rd.at 2 rfl rfl | exact Rd.at 3 rfl rfl | exact Rd.at 4 rfl rfl | exact Rd.at 5 rfl rfl | exact Rd.at 6 rfl rfl | exact Rd.at 7 rfl rfl | exact Rd.at 8 rfl rfl)) ?_
      refine TL_pure (d := (some 34)) rfl rfl rfl (PV.cast (PV_bin rfl rfl bin_add) (wr64 (show -9223372036854775808 ≤ blocks + 1 ∧ blocks + 1 ≤ 9223372036854775807 by omega))) ?_
      refine TL_pure (d := (some 35)) rfl rfl rfl (PV_nilCheck rfl) ?_
      refine TL_pure (d := (some 36)) rfl rfl rfl (PV_fieldAddr (D := 9) Try.underlying140 rfl sz3 (by decide) rfl rfl) ?_
      first | (refine TL_cons rfl (TO_store1 0 rfl rfl rfl sz3 rfl rfl rfl (by first | exact Nat.le_of_ble_eq_true rfl | (simp; done) | (simp; omega) | omega) ?_)) | (refine TL_cons rfl (TO_store1 1 rfl rfl rfl sz3 rfl rfl rfl (by first | exact Nat.le_of_ble_eq_true rfl | (simp; done) | (simp; omega) | omega) ?_)) | (refine TL_cons rfl (TO_store1 2 rfl rfl rfl sz3 rfl rfl rfl (by first | exact Nat.le_of_ble_eq_true rfl | (simp; done) | (simp; omega) | omega) ?_)) | (refine TL_cons rfl (TO_store1 3 rfl rfl rfl sz3 rfl rfl rfl (by first | exact Nat.le_of_ble_eq_true rfl | (simp; done) | (simp; omega) | omega) ?_)) | (refine TL_cons rfl (TO_store1 4 rfl rfl rfl sz3 rfl rfl rfl (by first | exact Nat.le_of_ble_eq_true rfl | (simp; done) | (simp; omega) | omega) ?_)) | (refine TL_cons rfl (TO_store1 5 rfl rfl rfl sz3 rfl rfl rfl (by first | exact Nat.le_of_ble_eq_true rfl | (simp; done) | (simp; omega) | omega) ?_)) | (refine TL_cons rfl (TO_store1 6 rfl rfl rfl sz3 rfl rfl rfl (by first | exact Nat.le_of_ble_eq_true rfl | (simp; done) | (simp; omega) | omega) ?_)) | (refine TL_cons rfl (TO_store1 7 rfl rfl rfl sz3 rfl rfl rfl (by first | exact Nat.le_of_ble_eq_true rfl | (simp; done) | (simp; omega) | omega) ?_)) | (refine TL_cons rfl (TO_store1 8 rfl rfl rfl sz3 rfl rfl rfl (by first | exact Nat.le_of_ble_eq_true rfl | (simp; done) | (simp; omega) | omega) ?_))
      refine TL_nil ?_
      refine T_region ?_
      refine TL_pure (d := (some 37)) rfl rfl rfl (PV_move rfl) ?_
      refine TL_pure (d := (some 38)) rfl rfl rfl (PV_nilCheck rfl) ?_
      refine TL_pure (d := (some 39)) rfl rfl rfl (PV_fieldAddr (D := 5) Try.underlying140 rfl sz4 (by decide) rfl rfl) ?_
      first | (refine TL_cons rfl (TO_store1 0 rfl rfl rfl sz4 rfl rfl rfl (by first | exact Nat.le_of_ble_eq_true rfl | (simp; done) | (simp; omega) | omega) ?_)) | (refine TL_cons rfl (TO_store1 1 rfl rfl rfl sz4 rfl rfl rfl (by first | exact Nat.le_of_ble_eq_true rfl | (simp; done) | (simp; omega) | omega) ?_)) | (refine TL_cons rfl (TO_store1 2 rfl rfl rfl sz4 rfl rfl rfl (by first | exact Nat.le_of_ble_eq_true rfl | (simp; done) | (simp; omega) | omega) ?_)) | (refine TL_cons rfl (TO_store1 3 rfl rfl rfl sz4 rfl rfl rfl (by first | exact Nat.le_of_ble_eq_true rfl | (simp; done) | (simp; omega) | omega) ?_)) | (refine TL_cons rfl (TO_store1 4 rfl rfl rfl sz4 rfl rfl rfl (by first | exact Nat.le_of_ble_eq_true rfl | (simp; done) | (simp; omega) | omega) ?_)) | (refine TL_cons rfl (TO_store1 5 rfl rfl rfl sz4 rfl rfl rfl (by first | exact Nat.le_of_ble_eq_true rfl | (simp; done) | (simp; omega) | omega) ?_)) | (refine TL_cons rfl (TO_store1 6 rfl rfl rfl sz4 rfl rfl rfl (by first | exact Nat.le_of_ble_eq_true rfl | (simp; done) | (simp; omega) | omega) ?_)) | (refine TL_cons rfl (TO_store1 7 rfl rfl rfl sz4 rfl rfl rfl (by first | exact Nat.le_of_ble_eq_true rfl | (simp; done) | (simp; omega) | omega) ?_)) | (refine TL_cons rfl (TO_store1 8 rfl rfl rfl sz4 rfl rfl rfl (by first | exact Nat.le_of_ble_eq_true rfl | (simp; done) | (simp; omega) | omega) ?_))
      refine TL_nil ?_
      refine T_seq ?_
      refine T_seq ?_
      refine T_drawn (WH _ _ _) mixed (by intro w h; exact h) ?_
      refine TA_take (dd := (some 60)) 0 rfl (by kernel_rfl) (by kernel_rfl) (by kernel_rfl) rfl rfl rfl (PV_move rfl) ?_
      refine TA_take (dd := (some 61)) 1 rfl (by kernel_rfl) (by kernel_rfl) (by kernel_rfl) rfl rfl rfl (PV_nilCheck rfl) ?_
      refine TA_take (dd := (some 62)) 2 rfl (by kernel_rfl) (by kernel_rfl) (by kernel_rfl) rfl rfl rfl (PV_fieldAddr (D := 6) Try.underlying140 rfl sz4 (by decide) rfl rfl) ?_
      first | (refine TA_take (dd := (some 63)) 3 rfl (by kernel_rfl) (by kernel_rfl) (by kernel_rfl) rfl rfl rfl (PV_load Try.underlying4 rfl rfl (by first | exact Rd.at 0 rfl rfl | exact Rd.at 1 rfl rfl | exact Rd.at 2 rfl rfl | exact Rd.at 3 rfl rfl | exact Rd.at 4 rfl rfl | exact Rd.at 5 rfl rfl | exact Rd.at 6 rfl rfl | exact Rd.at 7 rfl rfl | exact Rd.at 8 rfl rfl)) ?_) | (refine TA_pure1 (dd := (some 63)) 3 (by kernel_rfl) rfl rfl rfl rfl (PV_load Try.underlying4 rfl rfl (by first | exact Rd.at 0 rfl rfl | exact Rd.at 1 rfl rfl | exact Rd.at 2 rfl rfl | exact Rd.at 3 rfl rfl | exact Rd.at 4 rfl rfl | exact Rd.at 5 rfl rfl | exact Rd.at 6 rfl rfl | exact Rd.at 7 rfl rfl | exact Rd.at 8 rfl rfl)) ?_)
      refine TA_pure1 (dd := (some 64)) 4 (by kernel_rfl) rfl rfl rfl rfl (PV_not rfl) ?_
      refine TA_take (dd := (some 65)) 5 rfl (by kernel_rfl) (by kernel_rfl) (by kernel_rfl) rfl rfl rfl (PV_move rfl) ?_
      -- dguard 6 66 move t0
      refine TA_yes (dd := (some 66)) 6 rfl (by kernel_rfl) (by kernel_rfl) (by kernel_rfl) rfl rfl rfl rfl rfl (PV_move rfl) ?_
      refine TA_yes (dd := (some 67)) 7 rfl (by kernel_rfl) (by kernel_rfl) (by kernel_rfl) rfl rfl rfl rfl rfl (PV_nilCheck rfl) ?_
      refine TA_yes (dd := (some 68)) 8 rfl (by kernel_rfl) (by kernel_rfl) (by kernel_rfl) rfl rfl rfl rfl rfl (PV_fieldAddr (D := 9) Try.underlying140 rfl sz3 (by decide) rfl rfl) ?_
      refine TA_yes (dd := (some 69)) 9 rfl (by kernel_rfl) (by kernel_rfl) (by kernel_rfl) rfl rfl rfl rfl rfl (PV_load Try.underlying3 rfl rfl (by first | exact Rd.at 0 rfl rfl | exact Rd.at 1 rfl rfl | exact Rd.at 2 rfl rfl | exact Rd.at 3 rfl rfl | exact Rd.at 4 rfl rfl | exact Rd.at 5 rfl rfl | exact Rd.at 6 rfl rfl | exact Rd.at 7 rfl rfl | exact Rd.at 8 rfl rfl)) ?_
      refine TA_yes (dd := (some 70)) 10 rfl (by kernel_rfl) (by kernel_rfl) (by kernel_rfl) rfl rfl rfl rfl rfl (PV_move rfl) ?_
      refine TA_yes (dd := (some 71)) 11 rfl (by kernel_rfl) (by kernel_rfl) (by kernel_rfl) rfl rfl rfl rfl rfl (PV_nilCheck rfl) ?_
      refine TA_yes (dd := (some 72)) 12 rfl (by kernel_rfl) (by kernel_rfl) (by kernel_rfl) rfl rfl rfl rfl rfl (PV_fieldAddr (D := 10) Try.underlying140 rfl sz3 (by decide) rfl rfl) ?_
      refine TA_yes (dd := (some 73)) 13 rfl (by kernel_rfl) (by kernel_rfl) (by kernel_rfl) rfl rfl rfl rfl rfl (PV_load Try.underlying3 rfl rfl (by first | exact Rd.at 0 rfl rfl | exact Rd.at 1 rfl rfl | exact Rd.at 2 rfl rfl | exact Rd.at 3 rfl rfl | exact Rd.at 4 rfl rfl | exact Rd.at 5 rfl rfl | exact Rd.at 6 rfl rfl | exact Rd.at 7 rfl rfl | exact Rd.at 8 rfl rfl)) ?_
      refine TA_yes (dd := (some 74)) 14 rfl (by kernel_rfl) (by kernel_rfl) (by kernel_rfl) rfl rfl rfl rfl rfl (PV.cast (PV_bin rfl rfl bin_eql) (congrArg Value.bool (show _ = true by rw [← hw]; exact beq_self_eq_true _))) ?_
      first | (refine TA_take (dd := (some 75)) 15 rfl (by kernel_rfl) (by kernel_rfl) (by kernel_rfl) rfl rfl rfl (PV_pickAnd rfl rfl rfl) ?_) | (refine TA_take (dd := (some 75)) 15 rfl (by kernel_rfl) (by kernel_rfl) (by kernel_rfl) rfl rfl rfl (PV_pickF rfl (by first | assumption | rfl | (simp; done) | (simp; omega)) rfl rfl) ?_)
      refine TA_done (by kernel_rfl) ?_
      -- IF t75
      refine T_then rfl (by rfl) ?_
      refine T_seq ?_
      refine T_region ?_
      refine TL_pure (d := (some 76)) rfl rfl rfl (PV_move rfl) ?_
      -- op 77 buildSlice 23 1 [(0 cu8:6)]
      refine TL_cons rfl (TO_buildSlice (cells := #[.int .u8 6]) Try.underlying23 zs5 (by decide) rfl rfl rfl (by kernel_rfl) rfl fun g77 => ?_)
      refine TL_perm (perm_pick (i := 2) rfl) ?_
      refine TL_cons rfl (TO_call0 call96 rfl rfl (t96nil (Rcv.took ⟨crc, wait, tries, left, number, begun, false, bA, bc, buf, dA, dc, dat, blocks, want, over, err⟩ A20 c20 xs) (some ⟨g77, 0, none⟩) 1 1) ?_)
      rintro v78 H78 ⟨rfl, rfl⟩
      refine TL_perm (List.Perm.swap _ _ _) ?_
      refine TL_pure (d := (some 4)) rfl rfl rfl (PV_assign rfl) ?_
      refine TL_nil ?_
      refine T_ret ?_
      -- ('ret',)
      refine ⟨_, _, ?_, ResV_one rfl rfl, ⟨_, 1, A20, c20, rfl, Nat.le_refl _, hc20, by rw [hfin]⟩⟩
      repeat (first | exact List.Sublist.refl _ | apply List.Sublist.cons_cons | apply List.Sublist.cons)
    · have hfin : (Rcv.took ⟨crc, wait, tries, left, number, begun, false, bA, bc, buf, dA, dc, dat, blocks, want, over, err⟩ A20 c20 xs).fin = Rcv.took ⟨crc, wait, tries, left, number, begun, false, bA, bc, buf, dA, dc, dat, blocks, want, over, err⟩ A20 c20 xs := if_neg (fun h => hw h.2)
      refine TA_take (dd := (some 21)) 8 rfl (by kernel_rfl) (by kernel_rfl) (by kernel_rfl) rfl rfl rfl (PV_nilCheck rfl) ?_
      refine TA_take (dd := (some 22)) 9 rfl (by kernel_rfl) (by kernel_rfl) (by kernel_rfl) rfl rfl rfl (PV_fieldAddr (D := 8) Try.underlying140 rfl sz23 (by decide) rfl rfl) ?_
      first | (refine TA_one 10 (by kernel_rfl) rfl rfl (TO_store1 0 rfl rfl rfl sz23 rfl rfl rfl (by first | exact Nat.le_of_ble_eq_true rfl | (simp; done) | (simp; omega) | omega) ?_)) | (refine TA_one 10 (by kernel_rfl) rfl rfl (TO_store1 1 rfl rfl rfl sz23 rfl rfl rfl (by first | exact Nat.le_of_ble_eq_true rfl | (simp; done) | (simp; omega) | omega) ?_)) | (refine TA_one 10 (by kernel_rfl) rfl rfl (TO_store1 2 rfl rfl rfl sz23 rfl rfl rfl (by first | exact Nat.le_of_ble_eq_true rfl | (simp; done) | (simp; omega) | omega) ?_)) | (refine TA_one 10 (by kernel_rfl) rfl rfl (TO_store1 3 rfl rfl rfl sz23 rfl rfl rfl (by first | exact Nat.le_of_ble_eq_true rfl | (simp; done) | (simp; omega) | omega) ?_)) | (refine TA_one 10 (by kernel_rfl) rfl rfl (TO_store1 4 rfl rfl rfl sz23 rfl rfl rfl (by first | exact Nat.le_of_ble_eq_true rfl | (simp; done) | (simp; omega) | omega) ?_)) | (refine TA_one 10 (by kernel_rfl) rfl rfl (TO_store1 5 rfl rfl rfl sz23 rfl rfl rfl (by first | exact Nat.le_of_ble_eq_true rfl | (simp; done) | (simp; omega) | omega) ?_)) | (refine TA_one 10 (by kernel_rfl) rfl rfl (TO_store1 6 rfl rfl rfl sz23 rfl rfl rfl (by first | exact Nat.le_of_ble_eq_true rfl | (simp; done) | (simp; omega) | omega) ?_)) | (refine TA_one 10 (by kernel_rfl) rfl rfl (TO_store1 7 rfl rfl rfl sz23 rfl rfl rfl (by first | exact Nat.le_of_ble_eq_true rfl | (simp; done) | (simp; omega) | omega) ?_)) | (refine TA_one 10 (by kernel_rfl) rfl rfl (TO_store1 8 rfl rfl rfl sz23 rfl rfl rfl (by first | exact Nat.le_of_ble_eq_true rfl | (simp; done) | (simp; omega) | omega) ?_))
      refine ⟨by intro w h; exact h.sub (List.Sublist.cons_cons _ (List.nil_sublist _)), ?_⟩
      refine TA_done (by kernel_rfl) ?_
      refine T_seq ?_
      refine T_region ?_
      refine TL_pure (d := (some 23)) rfl rfl rfl (PV_move rfl) ?_
      refine TL_pure (d := (some 24)) rfl rfl rfl (PV_nilCheck rfl) ?_
      refine TL_pure (d := (some 25)) rfl rfl rfl (PV_fieldAddr (D := 4) Try.underlying140 rfl sz5 (by decide) rfl rfl) ?_
      refine TL_pure (d := (some 26)) rfl rfl rfl (PV_load Try.underlying5 rfl rfl (by first | exact Rd.at 0 rfl rfl | exact Rd.at 1 rfl rfl | exact Rd.at 2 rfl rfl | exact Rd.at 3 rfl rfl | exact Rd.at 4 rfl rfl | exact Rd.at 5 rfl rfl | exact Rd.at 6 rfl rfl | exact Rd.at 7 rfl rfl | exact Rd.at 8 rfl rfl)) ?_
      refine TL_pure (d := (some 27)) rfl rfl rfl (PV.cast (PV_bin rfl rfl bin_add) (congrArg (Value.int .u8) (IntKind.wrap_u8 _))) ?_
      refine TL_pure (d := (some 28)) rfl rfl rfl (PV_nilCheck rfl) ?_
      refine TL_pure (d := (some 29)) rfl rfl rfl (PV_fieldAddr (D := 4) Try.underlying140 rfl sz5 (by decide) rfl rfl) ?_
      first | (refine TL_cons rfl (TO_store1 0 rfl rfl rfl sz5 rfl rfl rfl (by first | exact Nat.le_of_ble_eq_true rfl | (simp; done) | (simp; omega) | omega) ?_)) | (refine TL_cons rfl (TO_store1 1 rfl rfl rfl sz5 rfl rfl rfl (by first | exact Nat.le_of_ble_eq_true rfl | (simp; done) | (simp; omega) | omega) ?_)) | (refine TL_cons rfl (TO_store1 2 rfl rfl rfl sz5 rfl rfl rfl (by first | exact Nat.le_of_ble_eq_true rfl | (simp; done) | (simp; omega) | omega) ?_)) | (refine TL_cons rfl (TO_store1 3 rfl rfl rfl sz5 rfl rfl rfl (by first | exact Nat.le_of_ble_eq_true rfl | (simp; done) | (simp; omega) | omega) ?_)) | (refine TL_cons rfl (TO_store1 4 rfl rfl rfl sz5 rfl rfl rfl (by first | exact Nat.le_of_ble_eq_true rfl | (simp; done) | (simp; omega) | omega) ?_)) | (refine TL_cons rfl (TO_store1 5 rfl rfl rfl sz5 rfl rfl rfl (by first | exact Nat.le_of_ble_eq_true rfl | (simp; done) | (simp; omega) | omega) ?_)) | (refine TL_cons rfl (TO_store1 6 rfl rfl rfl sz5 rfl rfl rfl (by first | exact Nat.le_of_ble_eq_true rfl | (simp; done) | (simp; omega) | omega) ?_)) | (refine TL_cons rfl (TO_store1 7 rfl rfl rfl sz5 rfl rfl rfl (by first | exact Nat.le_of_ble_eq_true rfl | (simp; done) | (simp; omega) | omega) ?_)) | (refine TL_cons rfl (TO_store1 8 rfl rfl rfl sz5 rfl rfl rfl (by first | exact Nat.le_of_ble_eq_true rfl | (simp; done) | (simp; omega) | omega) ?_))
      refine TL_nil ?_
      refine T_seq ?_
      refine T_region ?_
      refine TL_pure (d := (some 30)) rfl rfl rfl (PV_move rfl) ?_
      refine TL_pure (d := (some 31)) rfl rfl rfl (PV_nilCheck rfl) ?_
      refine TL_pure (d := (some 32)) rfl rfl rfl (PV_fieldAddr (D := 9) Try.underlying140 rfl sz3 (by decide) rfl rfl) ?_
      refine TL_pure (d := (some 33)) rfl rfl rfl (PV_load Try.underlying3 rfl rfl (by first | exact Rd.at 0 rfl rfl | exact Rd.at 1 rfl rfl | exact Rd.at 2 rfl rfl | exact Rd.at 3 rfl rfl | exact Rd.at 4 rfl rfl | exact Rd.at 5 rfl rfl | exact Rd.at 6 rfl rfl | exact Rd.at 7 rfl rfl | exact Rd.at 8 rfl rfl)) ?_
      refine TL_pure (d := (some 34)) rfl rfl rfl (PV.cast (PV_bin rfl rfl bin_add) (wr64 (show -9223372036854775808 ≤ blocks + 1 ∧ blocks + 1 ≤ 9223372036854775807 by omega))) ?_
      refine TL_pure (d := (some 35)) rfl rfl rfl (PV_nilCheck rfl) ?_
      refine TL_pure (d := (some 36)) rfl rfl rfl (PV_fieldAddr (D := 9) Try.underlying140 rfl sz3 (by decide) rfl rfl) ?_
      first | (refine TL_cons rfl (TO_store1 0 rfl rfl rfl sz3 rfl rfl rfl (by first | exact Nat.le_of_ble_eq_true rfl | (simp; done) | (simp; omega) | omega) ?_)) | (refine TL_cons rfl (TO_store1 1 rfl rfl rfl sz3 rfl rfl rfl (by first | exact Nat.le_of_ble_eq_true rfl | (simp; done) | (simp; omega) | omega) ?_)) | (refine TL_cons rfl (TO_store1 2 rfl rfl rfl sz3 rfl rfl rfl (by first | exact Nat.le_of_ble_eq_true rfl | (simp; done) | (simp; omega) | omega) ?_)) | (refine TL_cons rfl (TO_store1 3 rfl rfl rfl sz3 rfl rfl rfl (by first | exact Nat.le_of_ble_eq_true rfl | (simp; done) | (simp; omega) | omega) ?_)) | (refine TL_cons rfl (TO_store1 4 rfl rfl rfl sz3 rfl rfl rfl (by first | exact Nat.le_of_ble_eq_true rfl | (simp; done) | (simp; omega) | omega) ?_)) | (refine TL_cons rfl (TO_store1 5 rfl rfl rfl sz3 rfl rfl rfl (by first | exact Nat.le_of_ble_eq_true rfl | (simp; done) | (simp; omega) | omega) ?_)) | (refine TL_cons rfl (TO_store1 6 rfl rfl rfl sz3 rfl rfl rfl (by first | exact Nat.le_of_ble_eq_true rfl | (simp; done) | (simp; omega) | omega) ?_)) | (refine TL_cons rfl (TO_store1 7 rfl rfl rfl sz3 rfl rfl rfl (by first | exact Nat.le_of_ble_eq_true rfl | (simp; done) | (simp; omega) | omega) ?_)) | (refine TL_cons rfl (TO_store1 8 rfl rfl rfl sz3 rfl rfl rfl (by first | exact Nat.le_of_ble_eq_true rfl | (simp; done) | (simp; omega) | omega) ?_))
      refine TL_nil ?_
      refine T_region ?_
      refine TL_pure (d := (some 37)) rfl rfl rfl (PV_move rfl) ?_
      refine TL_pure (d := (some 38)) rfl rfl rfl (PV_nilCheck rfl) ?_
      refine TL_pure (d := (some 39)) rfl rfl rfl (PV_fieldAddr (D := 5) Try.underlying140 rfl sz4 (by decide) rfl rfl) ?_
      first | (refine TL_cons rfl (TO_store1 0 rfl rfl rfl sz4 rfl rfl rfl (by first | exact Nat.le_of_ble_eq_true rfl | (simp; done) | (simp; omega) | omega) ?_)) | (refine TL_cons rfl (TO_store1 1 rfl rfl rfl sz4 rfl rfl rfl (by first | exact Nat.le_of_ble_eq_true rfl | (simp; done) | (simp; omega) | omega) ?_)) | (refine TL_cons rfl (TO_store1 2 rfl rfl rfl sz4 rfl rfl rfl (by first | exact Nat.le_of_ble_eq_true rfl | (simp; done) | (simp; omega) | omega) ?_)) | (refine TL_cons rfl (TO_store1 3 rfl rfl rfl sz4 rfl rfl rfl (by first | exact Nat.le_of_ble_eq_true rfl | (simp; done) | (simp; omega) | omega) ?_)) | (refine TL_cons rfl (TO_store1 4 rfl rfl rfl sz4 rfl rfl rfl (by first | exact Nat.le_of_ble_eq_true rfl | (simp; done) | (simp; omega) | omega) ?_)) | (refine TL_cons rfl (TO_store1 5 rfl rfl rfl sz4 rfl rfl rfl (by first | exact Nat.le_of_ble_eq_true rfl | (simp; done) | (simp; omega) | omega) ?_)) | (refine TL_cons rfl (TO_store1 6 rfl rfl rfl sz4 rfl rfl rfl (by first | exact Nat.le_of_ble_eq_true rfl | (simp; done) | (simp; omega) | omega) ?_)) | (refine TL_cons rfl (TO_store1 7 rfl rfl rfl sz4 rfl rfl rfl (by first | exact Nat.le_of_ble_eq_true rfl | (simp; done) | (simp; omega) | omega) ?_)) | (refine TL_cons rfl (TO_store1 8 rfl rfl rfl sz4 rfl rfl rfl (by first | exact Nat.le_of_ble_eq_true rfl | (simp; done) | (simp; omega) | omega) ?_))
      refine TL_nil ?_
      refine T_seq ?_
      refine T_seq ?_
      refine T_drawn (WH _ _ _) mixed (by intro w h; exact h) ?_
      refine TA_take (dd := (some 60)) 0 rfl (by kernel_rfl) (by kernel_rfl) (by kernel_rfl) rfl rfl rfl (PV_move rfl) ?_
      refine TA_take (dd := (some 61)) 1 rfl (by kernel_rfl) (by kernel_rfl) (by kernel_rfl) rfl rfl rfl (PV_nilCheck rfl) ?_
      refine TA_take (dd := (some 62)) 2 rfl (by kernel_rfl) (by kernel_rfl) (by kernel_rfl) rfl rfl rfl (PV_fieldAddr (D := 6) Try.underlying140 rfl sz4 (by decide) rfl rfl) ?_
      first | (refine TA_take (dd := (some 63)) 3 rfl (by kernel_rfl) (by kernel_rfl) (by kernel_rfl) rfl rfl rfl (PV_load Try.underlying4 rfl rfl (by first | exact Rd.at 0 rfl rfl | exact Rd.at 1 rfl rfl | exact Rd.at 2 rfl rfl | exact Rd.at 3 rfl rfl | exact Rd.at 4 rfl rfl | exact Rd.at 5 rfl rfl | exact Rd.at 6 rfl rfl | exact Rd.at 7 rfl rfl | exact Rd.at 8 rfl rfl)) ?_) | (refine TA_pure1 (dd := (some 63)) 3 (by kernel_rfl) rfl rfl rfl rfl (PV_load Try.underlying4 rfl rfl (by first | exact Rd.at 0 rfl rfl | exact Rd.at 1 rfl rfl | exact Rd.at 2 rfl rfl | exact Rd.at 3 rfl rfl | exact Rd.at 4 rfl rfl | exact Rd.at 5 rfl rfl | exact Rd.at 6 rfl rfl | exact Rd.at 7 rfl rfl | exact Rd.at 8 rfl rfl)) ?_)
      refine TA_pure1 (dd := (some 64)) 4 (by kernel_rfl) rfl rfl rfl rfl (PV_not rfl) ?_
      refine TA_take (dd := (some 65)) 5 rfl (by kernel_rfl) (by kernel_rfl) (by kernel_rfl) rfl rfl rfl (PV_move rfl) ?_
      -- dguard 6 66 move t0
      refine TA_yes (dd := (some 66)) 6 rfl (by kernel_rfl) (by kernel_rfl) (by kernel_rfl) rfl rfl rfl rfl rfl (PV_move rfl) ?_
      refine TA_yes (dd := (some 67)) 7 rfl (by kernel_rfl) (by kernel_rfl) (by kernel_rfl) rfl rfl rfl rfl rfl (PV_nilCheck rfl) ?_
      refine TA_yes (dd := (some 68)) 8 rfl (by kernel_rfl) (by kernel_rfl) (by kernel_rfl) rfl rfl rfl rfl rfl (PV_fieldAddr (D := 9) Try.underlying140 rfl sz3 (by decide) rfl rfl) ?_
      refine TA_yes (dd := (some 69)) 9 rfl (by kernel_rfl) (by kernel_rfl) (by kernel_rfl) rfl rfl rfl rfl rfl (PV_load Try.underlying3 rfl rfl (by first | exact Rd.at 0 rfl rfl | exact Rd.at 1 rfl rfl | exact Rd.at 2 rfl rfl | exact Rd.at 3 rfl rfl | exact Rd.at 4 rfl rfl | exact Rd.at 5 rfl rfl | exact Rd.at 6 rfl rfl | exact Rd.at 7 rfl rfl | exact Rd.at 8 rfl rfl)) ?_
      refine TA_yes (dd := (some 70)) 10 rfl (by kernel_rfl) (by kernel_rfl) (by kernel_rfl) rfl rfl rfl rfl rfl (PV_move rfl) ?_
      refine TA_yes (dd := (some 71)) 11 rfl (by kernel_rfl) (by kernel_rfl) (by kernel_rfl) rfl rfl rfl rfl rfl (PV_nilCheck rfl) ?_
      refine TA_yes (dd := (some 72)) 12 rfl (by kernel_rfl) (by kernel_rfl) (by kernel_rfl) rfl rfl rfl rfl rfl (PV_fieldAddr (D := 10) Try.underlying140 rfl sz3 (by decide) rfl rfl) ?_
      refine TA_yes (dd := (some 73)) 13 rfl (by kernel_rfl) (by kernel_rfl) (by kernel_rfl) rfl rfl rfl rfl rfl (PV_load Try.underlying3 rfl rfl (by first | exact Rd.at 0 rfl rfl | exact Rd.at 1 rfl rfl | exact Rd.at 2 rfl rfl | exact Rd.at 3 rfl rfl | exact Rd.at 4 rfl rfl | exact Rd.at 5 rfl rfl | exact Rd.at 6 rfl rfl | exact Rd.at 7 rfl rfl | exact Rd.at 8 rfl rfl)) ?_
      refine TA_yes (dd := (some 74)) 14 rfl (by kernel_rfl) (by kernel_rfl) (by kernel_rfl) rfl rfl rfl rfl rfl (PV.cast (PV_bin rfl rfl bin_eql) (congrArg Value.bool (show _ = false by exact beq_false_of_ne hw))) ?_
      first | (refine TA_take (dd := (some 75)) 15 rfl (by kernel_rfl) (by kernel_rfl) (by kernel_rfl) rfl rfl rfl (PV_pickAnd rfl rfl rfl) ?_) | (refine TA_take (dd := (some 75)) 15 rfl (by kernel_rfl) (by kernel_rfl) (by kernel_rfl) rfl rfl rfl (PV_pickF rfl (by first | assumption | rfl | (simp; done) | (simp; omega)) rfl rfl) ?_)
      refine TA_done (by kernel_rfl) ?_
      -- IF t75
      refine T_else rfl (by rfl) ?_
      refine T_skip ?_
      refine T_seq ?_
      refine T_region ?_
      -- op 79 buildSlice 23 1 [(0 cu8:6)]
      refine TL_cons rfl (TO_buildSlice (cells := #[.int .u8 6]) Try.underlying23 zs5 (by decide) rfl rfl rfl (by kernel_rfl) rfl fun g79 => ?_)
      refine TL_pure (d := (some 4)) rfl rfl rfl (PV_assign rfl) ?_
      refine TL_nil ?_
      refine T_ret ?_
      -- ('ret',)
      refine ⟨_, _, ?_, ResV_one rfl rfl, ⟨_, 1, A20, c20, rfl, Nat.le_refl _, hc20, by rw [hfin]⟩⟩
      repeat (first | exact List.Sublist.refl _ | apply List.Sublist.cons_cons | apply List.Sublist.cons)

end
end Go.Proofs.Ythdkmgeigdoglaa.SL
