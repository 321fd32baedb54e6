import Derived.Test.YtcbkcggijejooaaB3
/- The receiver: what it does, function by function. No statement is proved here. -/
set_option linter.unusedVariables false
set_option linter.unusedSimpArgs false
set_option maxRecDepth 100000
namespace Go.Proofs.Ytcbkcggijejooaa.SL
open Go Go.RowKit
section
variable {w0 : World} {B : Nat} {H X : List Chunk}
/-- an error by its number -/
def errR (e : Int) : Value := if e = 0 then .nilIface else .iface 65 (.int .i64 e)
structure Rc where
  crc : Bool
  wait : Int
  tries : Int
  left : Int
  number : Int
  begun : Bool
  close : Bool
  buf : List Int
  dat : List Int
  blocks : Int
  want : Int
  over : Bool
  err : Int
def rcC (g : Nat) (bA : Option Addr) (bc : Nat) (dA : Option Addr) (dc : Nat) (r : Rc) : Chunk := .own g 13 [.bool r.crc, .int .i64 r.wait, .int .i64 r.tries, .int .i64 r.left, .int .u8 r.number, .bool r.begun, .bool r.close, .slice bA r.buf.length bc, .slice dA r.dat.length dc, .int .i64 r.blocks, .int .i64 r.want, .bool r.over, errR r.err]
def Rc.fin (r : Rc) (e : Int) : Rc := { r with over := true, err := e }
theorem t78 {g bc dc : Nat} {bA dA : Option Addr} (r : Rc) : TCall Try.prog w0 B 30 #[.pointer (some ⟨g, 0, none⟩)] (fun v H' => v = .tuple #[.bool r.over, errR r.err] ∧ H' = rcC g bA bc dA dc r :: X) (rcC g bA bc dA dc r :: X) := by
  refine TCall_intro (args := [_]) Try.func30 rfl Try.ntmps30 (Nat.le_of_ble_eq_true rfl) ?_
  refine T_seq ?_
  refine T_region ?_
  refine TL_pure (d := (some 2)) rfl rfl rfl (PV_assign rfl) ?_
  refine TL_pure (d := (some 3)) rfl rfl rfl (PV_assign rfl) ?_
  refine TL_nil ?_
  refine T_seq ?_
  refine T_drawn (WH _ _ _) mixed (fun w h => h) ?_
  refine TA_take (dd := (some 4)) 0 rfl (by kernel_rfl) (by kernel_rfl) (by kernel_rfl) rfl rfl rfl (PV_move rfl) ?_
  refine TA_take (dd := (some 5)) 1 rfl (by kernel_rfl) (by kernel_rfl) (by kernel_rfl) rfl rfl rfl (PV_nilCheck rfl) ?_
  refine TA_take (dd := (some 6)) 2 rfl (by kernel_rfl) (by kernel_rfl) (by kernel_rfl) rfl rfl rfl (PV_fieldAddr (D := 11) Try.underlying72 rfl sz4 (by decide) rfl rfl) ?_
  refine TA_take (dd := (some 7)) 3 rfl (by kernel_rfl) (by kernel_rfl) (by kernel_rfl) rfl rfl rfl (PV_load Try.underlying4 rfl rfl (Rd.at 0 rfl rfl)) ?_
  refine TA_take (dd := (some 8)) 4 rfl (by kernel_rfl) (by kernel_rfl) (by kernel_rfl) rfl rfl rfl (PV_move rfl) ?_
  refine TA_take (dd := (some 9)) 5 rfl (by kernel_rfl) (by kernel_rfl) (by kernel_rfl) rfl rfl rfl (PV_nilCheck rfl) ?_
  refine TA_take (dd := (some 10)) 6 rfl (by kernel_rfl) (by kernel_rfl) (by kernel_rfl) rfl rfl rfl (PV_fieldAddr (D := 12) Try.underlying72 rfl sz46 (by decide) rfl rfl) ?_
  refine TA_take (dd := (some 11)) 7 rfl (by kernel_rfl) (by kernel_rfl) (by kernel_rfl) rfl rfl rfl (PV_load Try.underlying46 rfl rfl (Rd.at 0 rfl rfl)) ?_
  refine TA_take (dd := (some 2)) 8 rfl (by kernel_rfl) (by kernel_rfl) (by kernel_rfl) rfl rfl rfl (PV_assign rfl) ?_
  refine TA_take (dd := (some 3)) 9 rfl (by kernel_rfl) (by kernel_rfl) (by kernel_rfl) rfl rfl rfl (PV_assign rfl) ?_
  refine TA_done (by kernel_rfl) ?_
  refine T_ret ?_
  refine ret_ret (ResV_two rfl rfl rfl) ⟨_, List.Sublist.refl _, ⟨rfl, rfl⟩⟩
theorem t97 {g bc dc : Nat} {bA dA : Option Addr} (r : Rc) : TCall Try.prog w0 B 39 #[.pointer (some ⟨g, 0, none⟩)] (fun v H' => v = .int .u8 (if r.crc = true ∧ r.begun = false then 67 else 21) ∧ H' = rcC g bA bc dA dc r :: X) (rcC g bA bc dA dc r :: X) := by
  refine TCall_intro (args := [_]) Try.func39 rfl Try.ntmps39 (Nat.le_of_ble_eq_true rfl) ?_
  refine T_seq ?_
  refine T_region ?_
  refine TL_pure (d := (some 2)) rfl rfl rfl (PV_assign rfl) ?_
  refine TL_nil ?_
  refine T_seq ?_
  refine T_seq ?_
  refine T_region ?_
  refine TL_pure (d := (some 3)) rfl rfl rfl (PV_move rfl) ?_
  refine TL_pure (d := (some 4)) rfl rfl rfl (PV_nilCheck rfl) ?_
  refine TL_pure (d := (some 5)) rfl rfl rfl (PV_fieldAddr (D := 0) Try.underlying72 rfl sz4 (by decide) rfl rfl) ?_
  refine TL_pure (d := (some 6)) rfl rfl rfl (PV_load Try.underlying4 rfl rfl (Rd.at 0 rfl rfl)) ?_
  refine TL_pure (d := (some 7)) rfl rfl rfl (PV_move rfl) ?_
  refine TL_split (d := 7) rfl (fun c1 => ?w1q32y) (fun c1 => ?w1q32n)
  try simp only [decide_eq_true_eq, decide_eq_false_iff_not, beq_iff_eq, beq_eq_false_iff_ne, bne_iff_ne, bne_eq_false_iff_eq, ne_eq, Bool.not_eq_true', Bool.not_eq_false', Bool.not_not, Bool.not_true, Bool.not_false, Bool.and_eq_true, Bool.or_eq_true, Bool.and_eq_false_iff, Bool.or_eq_false_iff, Int.not_lt, Int.not_le, gt_iff_lt, ge_iff_le] at c1
  refine TL_yes rfl rfl (gtrue (by with_reducible assumption)) (TO_pure rfl (PV_move rfl) ?_)
  refine TL_yes rfl rfl (gtrue (by with_reducible assumption)) (TO_pure rfl (PV_nilCheck rfl) ?_)
  refine TL_yes rfl rfl (gtrue (by with_reducible assumption)) (TO_pure rfl (PV_fieldAddr (D := 5) Try.underlying72 rfl sz4 (by decide) rfl rfl) ?_)
  refine TL_yes rfl rfl (gtrue (by with_reducible assumption)) (TO_pure rfl (PV_load Try.underlying4 rfl rfl (Rd.at 0 rfl rfl)) ?_)
  refine TL_yes rfl rfl (gtrue (by with_reducible assumption)) (TO_pure rfl (PV_not rfl) ?_)
  refine TL_pure (d := (some 13)) rfl rfl rfl (PV_pickAnd rfl rfl rfl) ?_
  refine TL_nil ?_
  refine T_cond rfl (fun c2 => ?w2q32y) (fun c2 => ?w2q32n)
  try simp only [decide_eq_true_eq, decide_eq_false_iff_not, beq_iff_eq, beq_eq_false_iff_ne, bne_iff_ne, bne_eq_false_iff_eq, ne_eq, Bool.not_eq_true', Bool.not_eq_false', Bool.not_not, Bool.not_true, Bool.not_false, Bool.and_eq_true, Bool.or_eq_true, Bool.and_eq_false_iff, Bool.or_eq_false_iff, Int.not_lt, Int.not_le, gt_iff_lt, ge_iff_le] at c2
  refine T_seq ?_
  refine T_region ?_
  refine TL_pure (d := (some 2)) rfl rfl rfl (PV_assign rfl) ?_
  refine TL_nil ?_
  refine T_ret ?_
  refine ret_ret (ResV_one rfl rfl) ⟨_, List.Sublist.refl _, ⟨?L1, rfl⟩⟩
  rotate_left 1
  try simp only [decide_eq_true_eq, decide_eq_false_iff_not, beq_iff_eq, beq_eq_false_iff_ne, bne_iff_ne, bne_eq_false_iff_eq, ne_eq, Bool.not_eq_true', Bool.not_eq_false', Bool.not_not, Bool.not_true, Bool.not_false, Bool.and_eq_true, Bool.or_eq_true, Bool.and_eq_false_iff, Bool.or_eq_false_iff, Int.not_lt, Int.not_le, gt_iff_lt, ge_iff_le] at c2
  refine T_skip ?_
  refine T_seq ?_
  refine T_region ?_
  refine TL_pure (d := (some 2)) rfl rfl rfl (PV_assign rfl) ?_
  refine TL_nil ?_
  refine T_ret ?_
  refine ret_ret (ResV_one rfl rfl) ⟨_, List.Sublist.refl _, ⟨?L2, rfl⟩⟩
  rotate_left 1
  try simp only [decide_eq_true_eq, decide_eq_false_iff_not, beq_iff_eq, beq_eq_false_iff_ne, bne_iff_ne, bne_eq_false_iff_eq, ne_eq, Bool.not_eq_true', Bool.not_eq_false', Bool.not_not, Bool.not_true, Bool.not_false, Bool.and_eq_true, Bool.or_eq_true, Bool.and_eq_false_iff, Bool.or_eq_false_iff, Int.not_lt, Int.not_le, gt_iff_lt, ge_iff_le] at c1
  refine TL_no (b := false) rfl rfl (gfalse (by with_reducible assumption)) rfl ?_
  refine TL_no (b := false) rfl rfl (gfalse (by with_reducible assumption)) rfl ?_
  refine TL_no (b := false) rfl rfl (gfalse (by with_reducible assumption)) rfl ?_
  refine TL_no (b := false) rfl rfl (gfalse (by with_reducible assumption)) rfl ?_
  refine TL_no (b := false) rfl rfl (gfalse (by with_reducible assumption)) rfl ?_
  refine TL_pure (d := (some 13)) rfl rfl rfl (PV_pickF rfl (by first | assumption | rfl | (simp; done) | (simp; omega) | (simp [*]; done) | (simp [*]; omega)) rfl rfl) ?_
  refine TL_nil ?_
  refine T_else rfl (by rfl) ?_
  refine T_skip ?_
  refine T_seq ?_
  refine T_region ?_
  refine TL_pure (d := (some 2)) rfl rfl rfl (PV_assign rfl) ?_
  refine TL_nil ?_
  refine T_ret ?_
  refine ret_ret (ResV_one rfl rfl) ⟨_, List.Sublist.refl _, ⟨?L3, rfl⟩⟩
  all_goals simp_all
theorem t96nil {g bc dc : Nat} {bA dA : Option Addr} (r : Rc) (A : Option Addr) (m k : Nat) : TCall Try.prog w0 B 38 #[.pointer (some ⟨g, 0, none⟩), .nilIface, .slice A m k] (fun v H' => v = .slice A m k ∧ H' = rcC g bA bc dA dc (r.fin 0) :: X) (rcC g bA bc dA dc r :: X) := by
  refine TCall_intro (args := [_, _, _]) Try.func38 rfl Try.ntmps38 (Nat.le_of_ble_eq_true rfl) ?_
  refine T_seq ?_
  refine T_region ?_
  refine TL_pure (d := (some 6)) rfl rfl rfl (PV_assign rfl) ?_
  refine TL_nil ?_
  refine T_seq ?_
  refine T_region ?_
  refine TL_pure (d := (some 7)) rfl rfl rfl (PV_move rfl) ?_
  refine TL_pure (d := (some 8)) rfl rfl rfl (PV_move rfl) ?_
  refine TL_pure (d := (some 9)) rfl rfl rfl (PV_move rfl) ?_
  refine TL_pure (d := (some 10)) rfl rfl rfl (PV_nilCheck rfl) ?_
  refine TL_pure (d := (some 11)) rfl rfl rfl (PV_fieldAddr (D := 11) Try.underlying72 rfl sz4 (by decide) rfl rfl) ?_
  refine TL_cons rfl (TO_store1 0 rfl rfl rfl sz4 rfl rfl rfl (by first | exact Nat.le_of_ble_eq_true rfl | (simp; done) | (simp; omega) | omega) ?_)
  refine TL_pure (d := (some 12)) rfl rfl rfl (PV_nilCheck rfl) ?_
  refine TL_pure (d := (some 13)) rfl rfl rfl (PV_fieldAddr (D := 12) Try.underlying72 rfl sz46 (by decide) rfl rfl) ?_
  refine TL_cons rfl (TO_store1 0 rfl rfl rfl sz46 rfl rfl rfl (by first | exact Nat.le_of_ble_eq_true rfl | (simp; done) | (simp; omega) | omega) ?_)
  refine TL_nil ?_
  refine T_seq ?_
  refine T_region ?_
  refine TL_pure (d := (some 14)) rfl rfl rfl (PV_move rfl) ?_
  refine TL_pure (d := (some 6)) rfl rfl rfl (PV_assign rfl) ?_
  refine TL_nil ?_
  refine T_ret ?_
  refine ret_ret (ResV_one rfl rfl) ⟨_, List.Sublist.refl _, ⟨rfl, rfl⟩⟩
theorem t96can {g bc dc : Nat} {bA dA : Option Addr} (r : Rc) (A : Option Addr) (m k : Nat) : TCall Try.prog w0 B 38 #[.pointer (some ⟨g, 0, none⟩), .iface 65 (.int .i64 9), .slice A m k] (fun v H' => v = .slice A m k ∧ H' = rcC g bA bc dA dc (r.fin 9) :: X) (rcC g bA bc dA dc r :: X) := by
  refine TCall_intro (args := [_, _, _]) Try.func38 rfl Try.ntmps38 (Nat.le_of_ble_eq_true rfl) ?_
  refine T_seq ?_
  refine T_region ?_
  refine TL_pure (d := (some 6)) rfl rfl rfl (PV_assign rfl) ?_
  refine TL_nil ?_
  refine T_seq ?_
  refine T_region ?_
  refine TL_pure (d := (some 7)) rfl rfl rfl (PV_move rfl) ?_
  refine TL_pure (d := (some 8)) rfl rfl rfl (PV_move rfl) ?_
  refine TL_pure (d := (some 9)) rfl rfl rfl (PV_move rfl) ?_
  refine TL_pure (d := (some 10)) rfl rfl rfl (PV_nilCheck rfl) ?_
  refine TL_pure (d := (some 11)) rfl rfl rfl (PV_fieldAddr (D := 11) Try.underlying72 rfl sz4 (by decide) rfl rfl) ?_
  refine TL_cons rfl (TO_store1 0 rfl rfl rfl sz4 rfl rfl rfl (by first | exact Nat.le_of_ble_eq_true rfl | (simp; done) | (simp; omega) | omega) ?_)
  refine TL_pure (d := (some 12)) rfl rfl rfl (PV_nilCheck rfl) ?_
  refine TL_pure (d := (some 13)) rfl rfl rfl (PV_fieldAddr (D := 12) Try.underlying72 rfl sz46 (by decide) rfl rfl) ?_
  refine TL_cons rfl (TO_store1 0 rfl rfl rfl sz46 rfl rfl rfl (by first | exact Nat.le_of_ble_eq_true rfl | (simp; done) | (simp; omega) | omega) ?_)
  refine TL_nil ?_
  refine T_seq ?_
  refine T_region ?_
  refine TL_pure (d := (some 14)) rfl rfl rfl (PV_move rfl) ?_
  refine TL_pure (d := (some 6)) rfl rfl rfl (PV_assign rfl) ?_
  refine TL_nil ?_
  refine T_ret ?_
  refine ret_ret (ResV_one rfl rfl) ⟨_, List.Sublist.refl _, ⟨rfl, rfl⟩⟩
theorem t96arg {g bc dc : Nat} {bA dA : Option Addr} (r : Rc) (A : Option Addr) (m k : Nat) : TCall Try.prog w0 B 38 #[.pointer (some ⟨g, 0, none⟩), .iface 65 (.int .i64 14), .slice A m k] (fun v H' => v = .slice A m k ∧ H' = rcC g bA bc dA dc (r.fin 14) :: X) (rcC g bA bc dA dc r :: X) := by
  refine TCall_intro (args := [_, _, _]) Try.func38 rfl Try.ntmps38 (Nat.le_of_ble_eq_true rfl) ?_
  refine T_seq ?_
  refine T_region ?_
  refine TL_pure (d := (some 6)) rfl rfl rfl (PV_assign rfl) ?_
  refine TL_nil ?_
  refine T_seq ?_
  refine T_region ?_
  refine TL_pure (d := (some 7)) rfl rfl rfl (PV_move rfl) ?_
  refine TL_pure (d := (some 8)) rfl rfl rfl (PV_move rfl) ?_
  refine TL_pure (d := (some 9)) rfl rfl rfl (PV_move rfl) ?_
  refine TL_pure (d := (some 10)) rfl rfl rfl (PV_nilCheck rfl) ?_
  refine TL_pure (d := (some 11)) rfl rfl rfl (PV_fieldAddr (D := 11) Try.underlying72 rfl sz4 (by decide) rfl rfl) ?_
  refine TL_cons rfl (TO_store1 0 rfl rfl rfl sz4 rfl rfl rfl (by first | exact Nat.le_of_ble_eq_true rfl | (simp; done) | (simp; omega) | omega) ?_)
  refine TL_pure (d := (some 12)) rfl rfl rfl (PV_nilCheck rfl) ?_
  refine TL_pure (d := (some 13)) rfl rfl rfl (PV_fieldAddr (D := 12) Try.underlying72 rfl sz46 (by decide) rfl rfl) ?_
  refine TL_cons rfl (TO_store1 0 rfl rfl rfl sz46 rfl rfl rfl (by first | exact Nat.le_of_ble_eq_true rfl | (simp; done) | (simp; omega) | omega) ?_)
  refine TL_nil ?_
  refine T_seq ?_
  refine T_region ?_
  refine TL_pure (d := (some 14)) rfl rfl rfl (PV_move rfl) ?_
  refine TL_pure (d := (some 6)) rfl rfl rfl (PV_assign rfl) ?_
  refine TL_nil ?_
  refine T_ret ?_
  refine ret_ret (ResV_one rfl rfl) ⟨_, List.Sublist.refl _, ⟨rfl, rfl⟩⟩
theorem t96tries {g bc dc : Nat} {bA dA : Option Addr} (r : Rc) (A : Option Addr) (m k : Nat) : TCall Try.prog w0 B 38 #[.pointer (some ⟨g, 0, none⟩), .iface 65 (.int .i64 10), .slice A m k] (fun v H' => v = .slice A m k ∧ H' = rcC g bA bc dA dc (r.fin 10) :: X) (rcC g bA bc dA dc r :: X) := by
  refine TCall_intro (args := [_, _, _]) Try.func38 rfl Try.ntmps38 (Nat.le_of_ble_eq_true rfl) ?_
  refine T_seq ?_
  refine T_region ?_
  refine TL_pure (d := (some 6)) rfl rfl rfl (PV_assign rfl) ?_
  refine TL_nil ?_
  refine T_seq ?_
  refine T_region ?_
  refine TL_pure (d := (some 7)) rfl rfl rfl (PV_move rfl) ?_
  refine TL_pure (d := (some 8)) rfl rfl rfl (PV_move rfl) ?_
  refine TL_pure (d := (some 9)) rfl rfl rfl (PV_move rfl) ?_
  refine TL_pure (d := (some 10)) rfl rfl rfl (PV_nilCheck rfl) ?_
  refine TL_pure (d := (some 11)) rfl rfl rfl (PV_fieldAddr (D := 11) Try.underlying72 rfl sz4 (by decide) rfl rfl) ?_
  refine TL_cons rfl (TO_store1 0 rfl rfl rfl sz4 rfl rfl rfl (by first | exact Nat.le_of_ble_eq_true rfl | (simp; done) | (simp; omega) | omega) ?_)
  refine TL_pure (d := (some 12)) rfl rfl rfl (PV_nilCheck rfl) ?_
  refine TL_pure (d := (some 13)) rfl rfl rfl (PV_fieldAddr (D := 12) Try.underlying72 rfl sz46 (by decide) rfl rfl) ?_
  refine TL_cons rfl (TO_store1 0 rfl rfl rfl sz46 rfl rfl rfl (by first | exact Nat.le_of_ble_eq_true rfl | (simp; done) | (simp; omega) | omega) ?_)
  refine TL_nil ?_
  refine T_seq ?_
  refine T_region ?_
  refine TL_pure (d := (some 14)) rfl rfl rfl (PV_move rfl) ?_
  refine TL_pure (d := (some 6)) rfl rfl rfl (PV_assign rfl) ?_
  refine TL_nil ?_
  refine T_ret ?_
  refine ret_ret (ResV_one rfl rfl) ⟨_, List.Sublist.refl _, ⟨rfl, rfl⟩⟩
theorem t77 {g bc dc : Nat} {bA dA : Option Addr} (r : Rc) (hd : r.dat.length ≤ 140737488355328) : TCall Try.prog w0 B 34 #[.pointer (some ⟨g, 0, none⟩)] (fun v H' => ∃ (A : Option Addr) (k : Nat), v = .slice A r.dat.length k ∧ r.dat.length ≤ k ∧ H' = byC A k r.dat :: rcC g bA bc dA dc r :: byC dA dc r.dat :: X) (rcC g bA bc dA dc r :: byC dA dc r.dat :: X) := by
  refine TCall_intro (args := [_]) Try.func34 rfl Try.ntmps34 (Nat.le_of_ble_eq_true rfl) ?_
  refine T_seq ?_
  refine T_region ?_
  refine TL_pure (d := (some 2)) rfl rfl rfl (PV_assign rfl) ?_
  refine TL_nil ?_
  refine T_seq ?_
  refine T_region ?_
  refine TL_pure (d := (some 3)) rfl rfl rfl (PV_move rfl) ?_
  refine TL_pure (d := (some 4)) rfl rfl rfl (PV_nilCheck rfl) ?_
  refine TL_pure (d := (some 5)) rfl rfl rfl (PV_fieldAddr (D := 8) Try.underlying72 rfl sz26 (by decide) rfl rfl) ?_
  refine TL_pure (d := (some 6)) rfl rfl rfl (PV_load Try.underlying26 rfl rfl (Rd.at 0 rfl rfl)) ?_
  refine TL_cons rfl (TO_appendNil Try.underlying26 zb5 rfl (by decide) rfl rfl rfl (Shows.at 1 rfl) ?oc1q43 ?bb1q43 ?bc1q43 fun A1 c1 hc1 => ?_)
  case oc1q43 => exact nums_one
  case bb1q43 => omega
  case bc1q43 => omega
  refine TL_pure (d := (some 2)) rfl rfl rfl (PV_assign rfl) ?_
  refine TL_nil ?_
  refine T_ret ?_
  refine ret_ret (ResV_one rfl rfl) ⟨_, List.Sublist.refl _, ⟨_, _, rfl, ?sd2q43_0, rfl⟩⟩
  case sd2q43_0 => exact hc1
def Rc.of (a b number : Int) (crc close : Bool) (many : Int) : Rc := ⟨crc, max 1 (min b 99), max 1 (min a 9), 1, number, false, close, [], [], 0, max 1 many, false, 0⟩
theorem t69 (a b number : Int) (crc close : Bool) (many : Int) : TCall Try.prog w0 B 18 #[.agg #[.int .i64 a, .int .i64 b], .int .u8 number, .bool crc, .bool close, .int .i64 many] (fun v H' => ∃ g : Nat, v = .pointer (some ⟨g, 0, none⟩) ∧ H' = rcC g none 0 none 0 (Rc.of a b number crc close many) :: byC none 0 [] :: byC none 0 [] :: X) X := by
  refine TCall_intro (args := [_, _, _, _, _]) Try.func18 rfl Try.ntmps18 (Nat.le_of_ble_eq_true rfl) ?_
  refine T_addNil 1 (T_addNil 1 ?_)
  refine T_seq ?_
  refine T_region ?_
  refine TL_cons rfl (TO_box rfl rfl fun g1 => ?_)
  refine TL_pure (d := (some 10)) rfl rfl rfl (PV_assign rfl) ?_
  refine TL_nil ?_
  refine T_seq ?_
  refine T_drawn (WH _ _ _) mixed (fun w h => h) ?_
  refine TA_take (dd := (some 13)) 0 rfl (by kernel_rfl) (by kernel_rfl) (by kernel_rfl) rfl rfl rfl (PV_fieldAddr (D := 1) Try.underlying31 rfl sz3 (by decide) rfl rfl) ?_
  refine TA_take (dd := (some 14)) 1 rfl (by kernel_rfl) (by kernel_rfl) (by kernel_rfl) rfl rfl rfl (PV_load Try.underlying3 rfl rfl (Rd.at 0 rfl rfl)) ?_
  refine TA_take (dd := (some 15)) 2 rfl (by kernel_rfl) (by kernel_rfl) (by kernel_rfl) rfl rfl rfl (PV_min rfl rfl) ?_
  refine TA_take (dd := (some 16)) 3 rfl (by kernel_rfl) (by kernel_rfl) (by kernel_rfl) rfl rfl rfl (PV_max rfl rfl) ?_
  refine TA_take (dd := (some 17)) 4 rfl (by kernel_rfl) (by kernel_rfl) (by kernel_rfl) rfl rfl rfl (PV_fieldAddr (D := 0) Try.underlying31 rfl sz3 (by decide) rfl rfl) ?_
  refine TA_take (dd := (some 18)) 5 rfl (by kernel_rfl) (by kernel_rfl) (by kernel_rfl) rfl rfl rfl (PV_load Try.underlying3 rfl rfl (Rd.at 0 rfl rfl)) ?_
  refine TA_take (dd := (some 19)) 6 rfl (by kernel_rfl) (by kernel_rfl) (by kernel_rfl) rfl rfl rfl (PV_min rfl rfl) ?_
  refine TA_take (dd := (some 20)) 7 rfl (by kernel_rfl) (by kernel_rfl) (by kernel_rfl) rfl rfl rfl (PV_max rfl rfl) ?_
  refine TA_take (dd := (some 11)) 8 rfl (by kernel_rfl) (by kernel_rfl) (by kernel_rfl) rfl rfl rfl (PV_assign rfl) ?_
  refine TA_take (dd := (some 12)) 9 rfl (by kernel_rfl) (by kernel_rfl) (by kernel_rfl) rfl rfl rfl (PV_assign rfl) ?_
  refine TA_done (by kernel_rfl) ?_
  refine T_seq ?_
  refine T_region ?_
  refine TL_pure (d := (some 21)) rfl rfl rfl (PV_move rfl) ?_
  refine TL_pure (d := (some 22)) rfl rfl rfl (PV_move rfl) ?_
  refine TL_pure (d := (some 23)) rfl rfl rfl (PV_move rfl) ?_
  refine TL_pure (d := (some 24)) rfl rfl rfl (PV_move rfl) ?_
  refine TL_pure (d := (some 25)) rfl rfl rfl (PV_move rfl) ?_
  refine TL_pure (d := (some 26)) rfl rfl rfl (PV_move rfl) ?_
  refine TL_pure (d := (some 27)) rfl rfl rfl (PV_max rfl rfl) ?_
  refine TL_pure (d := (some 28)) rfl rfl rfl (PV_bld (cs := [_, _, _, _, _, _, _, _, _, _, _, _, _]) Try.underlying72 pl72 zr72 rfl rfl) ?_
  refine TL_cons rfl (TO_box rfl rfl fun g2 => ?_)
  refine TL_pure (d := (some 10)) rfl rfl rfl (PV_assign rfl) ?_
  refine TL_nil ?_
  refine T_ret ?_
  refine ret_ret (ResV_one rfl rfl) ⟨_, ?zb3q48, ⟨_, rfl, rfl⟩⟩
  case zb3q48 => exact (by (repeat (first | exact List.Sublist.refl _ | exact List.sublist_append_right _ _ | exact List.sublist_append_left _ _ | apply List.Sublist.cons_cons | apply List.Sublist.cons | refine List.Sublist.trans ?_ (List.sublist_append_left _ _))); done)
end
end Go.Proofs.Ytcbkcggijejooaa.SL
