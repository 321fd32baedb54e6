import Derived.Test.YthdkmgeigdoglaaSLRecv
/- The receiver takes bytes. No statement is proved here. -/
set_option linter.unusedVariables false
namespace Go.Proofs.Ythdkmgeigdoglaa.SL
open Go Go.RowKit Go.Proofs.YthdkmgeigdoglaaW.PrintWords H Hand
section
variable {w0 : World} {B : Nat} {X : List Chunk}
theorem t52no {H : List Chunk} {A : Option Addr} {m c : Nat} {l : List Int} (crc : Bool) {k : Nat} (hs : scanS l crc = k) (hk : k ≠ 2) (h : Shows (WH w0 B H) A m 1 (nums .u8 l)) (hlm : l.length = m) (hm : m ≤ 9223372036854775807) (hc : m ≤ c) (hu : U8s l) :
    TCall Try.prog w0 B 52 #[.slice A m c, .bool crc] (fun r H' => r = .tuple #[.agg #[.int .u8 0, .slice none 0 0], .int .i64 ((k : Nat) : Int)] ∧ H' = H) H :=
  (t52 crc h hlm hm hc hu).mono fun v h' hr => by
    rw [if_neg (by rw [hs]; exact hk), hs] at hr
    exact hr
theorem t52yes {H : List Chunk} {A : Option Addr} {m c : Nat} {l : List Int} (crc : Bool) (hs : scanS l crc = 2) (h : Shows (WH w0 B H) A m 1 (nums .u8 l)) (hlm : l.length = m) (hm : m ≤ 9223372036854775807) (hc : m ≤ c) (hu : U8s l) :
    TCall Try.prog w0 B 52 #[.slice A m c, .bool crc] (fun r H' => ∃ A' c', r = .tuple #[.agg #[.int .u8 (rd l 1), .slice A' (scanD l crc).length c'], .int .i64 2] ∧ (scanD l crc).length ≤ c' ∧ H' = .sl (.slice A' (scanD l crc).length c') 1 (scanD l crc).length (nums .u8 (scanD l crc)) :: H) H :=
  (t52 crc h hlm hm hc hu).mono fun v h' hr => by
    rw [if_pos hs] at hr
    exact hr
def Rcv.with (r : Rcv) : Rcv := { r with left := r.wait, bA := none, bc := 0, buf := [] }
set_option maxRecDepth 100000 in
theorem t75bad {g : Nat} (r : Rcv) {Ab : Option Addr} {m cb : Nat} {bs : List Int} (hx : Shows (WH w0 B X) Ab m 1 (nums .u8 bs)) (hm : bs.length = m) (hm0 : 0 < m) (hu : U8s (r.buf ++ bs)) (hlb : r.buf.length + m ≤ 1000000) (ho : r.over = false) (h4 : rd (r.buf ++ bs) 0 ≠ 4) (h24 : rd (r.buf ++ bs) 0 ≠ 24) (hs : scanS (r.buf ++ bs) r.crc = 1) :
    TCall Try.prog w0 B 75 #[.pointer (some ⟨g, 0, none⟩), .slice Ab m cb] (fun v H' => ∃ (A6 : Option Addr) (k6 : Nat), v = .slice A6 1 k6 ∧ 1 ≤ k6 ∧ H' = .sl (.slice A6 1 k6) 1 1 (nums .u8 [21]) :: rcvC g r.with :: bufC r.with :: datC r.with :: X) (rcvC g r :: bufC r :: datC r :: X) := by
  subst hm
  obtain ⟨crc, wait, tries, left, number, begun, close, bA, bc, buf, dA, dc, dat, blocks, want, over, err⟩ := r
  dsimp only at hu hlb ho h4 h24 hs
  subst ho
  refine TCall_intro (args := [_, _]) Try.func75 rfl Try.ntmps75 (Nat.le_of_ble_eq_true rfl) ?_
  refine T_addNil 1 ?_
  refine T_seq ?_
  refine T_region ?_
  refine TL_pure (d := (some 4)) rfl rfl rfl (PV_assign rfl) ?_
  refine TL_nil ?_
  refine T_seq ?_
  refine T_seq ?_
  refine T_region ?_
  refine TL_pure (d := (some 8)) rfl rfl rfl (PV_move rfl) ?_
  refine TL_pure (d := (some 9)) rfl rfl rfl (PV_nilCheck rfl) ?_
  refine TL_pure (d := (some 10)) rfl rfl rfl (PV_fieldAddr (D := 11) Try.underlying140 rfl sz4 (by decide) rfl rfl) ?_
  refine TL_pure (d := (some 11)) rfl rfl rfl (PV_load Try.underlying4 rfl rfl (by first | exact Rd.at 0 rfl rfl | exact Rd.at 1 rfl rfl | exact Rd.at 2 rfl rfl | exact Rd.at 3 rfl rfl | exact Rd.at 4 rfl rfl | exact Rd.at 5 rfl rfl | exact Rd.at 6 rfl rfl | exact Rd.at 7 rfl rfl | exact Rd.at 8 rfl rfl)) ?_
  refine TL_pure (d := (some 12)) rfl rfl rfl (PV_move rfl) ?_
  -- guard 13 move t1
  refine TL_yes rfl rfl rfl (TO_pure rfl (PV_move rfl) ?_)
  refine TL_yes rfl rfl rfl (TO_pure rfl (PV_len_slice Try.underlying23 rfl) ?_)
  refine TL_yes rfl rfl rfl (TO_pure rfl (PV_bin rfl rfl bin_eql) ?_)
  first | (refine TL_pure (d := (some 16)) rfl rfl rfl (PV_pickOr rfl rfl rfl) ?_) | (refine TL_pure (d := (some 16)) rfl rfl rfl (PV_pickT rfl (by first | assumption | rfl | (simp; done) | (simp; omega)) rfl rfl) ?_)
  refine TL_nil ?_
  -- IF t16
  refine T_else rfl (by exact beq_false_of_ne (by omega)) ?_
  refine T_skip ?_
  refine T_seq ?_
  refine T_region ?_
  refine TL_pure (d := (some 17)) rfl rfl rfl (PV_move rfl) ?_
  refine TL_pure (d := (some 18)) rfl rfl rfl (PV_move rfl) ?_
  refine TL_pure (d := (some 19)) rfl rfl rfl (PV_nilCheck rfl) ?_
  refine TL_pure (d := (some 20)) rfl rfl rfl (PV_fieldAddr (D := 1) Try.underlying140 rfl sz3 (by decide) rfl rfl) ?_
  refine TL_pure (d := (some 21)) rfl rfl rfl (PV_load Try.underlying3 rfl rfl (by first | exact Rd.at 0 rfl rfl | exact Rd.at 1 rfl rfl | exact Rd.at 2 rfl rfl | exact Rd.at 3 rfl rfl | exact Rd.at 4 rfl rfl | exact Rd.at 5 rfl rfl | exact Rd.at 6 rfl rfl | exact Rd.at 7 rfl rfl | exact Rd.at 8 rfl rfl)) ?_
  refine TL_pure (d := (some 22)) rfl rfl rfl (PV_nilCheck rfl) ?_
  refine TL_pure (d := (some 23)) rfl rfl rfl (PV_fieldAddr (D := 3) Try.underlying140 rfl sz3 (by decide) rfl rfl) ?_
  first | (refine TL_cons rfl (TO_store1 0 rfl rfl rfl sz3 rfl rfl rfl (by first | exact Nat.le_of_ble_eq_true rfl | (simp; done) | (simp; omega) | omega) ?_)) | (refine TL_cons rfl (TO_store1 1 rfl rfl rfl sz3 rfl rfl rfl (by first | exact Nat.le_of_ble_eq_true rfl | (simp; done) | (simp; omega) | omega) ?_)) | (refine TL_cons rfl (TO_store1 2 rfl rfl rfl sz3 rfl rfl rfl (by first | exact Nat.le_of_ble_eq_true rfl | (simp; done) | (simp; omega) | omega) ?_)) | (refine TL_cons rfl (TO_store1 3 rfl rfl rfl sz3 rfl rfl rfl (by first | exact Nat.le_of_ble_eq_true rfl | (simp; done) | (simp; omega) | omega) ?_)) | (refine TL_cons rfl (TO_store1 4 rfl rfl rfl sz3 rfl rfl rfl (by first | exact Nat.le_of_ble_eq_true rfl | (simp; done) | (simp; omega) | omega) ?_)) | (refine TL_cons rfl (TO_store1 5 rfl rfl rfl sz3 rfl rfl rfl (by first | exact Nat.le_of_ble_eq_true rfl | (simp; done) | (simp; omega) | omega) ?_)) | (refine TL_cons rfl (TO_store1 6 rfl rfl rfl sz3 rfl rfl rfl (by first | exact Nat.le_of_ble_eq_true rfl | (simp; done) | (simp; omega) | omega) ?_)) | (refine TL_cons rfl (TO_store1 7 rfl rfl rfl sz3 rfl rfl rfl (by first | exact Nat.le_of_ble_eq_true rfl | (simp; done) | (simp; omega) | omega) ?_)) | (refine TL_cons rfl (TO_store1 8 rfl rfl rfl sz3 rfl rfl rfl (by first | exact Nat.le_of_ble_eq_true rfl | (simp; done) | (simp; omega) | omega) ?_))
  refine TL_nil ?_
  refine T_seq ?_
  refine T_region ?_
  refine TL_pure (d := (some 24)) rfl rfl rfl (PV_move rfl) ?_
  refine TL_pure (d := (some 25)) rfl rfl rfl (PV_move rfl) ?_
  refine TL_pure (d := (some 26)) rfl rfl rfl (PV_nilCheck rfl) ?_
  refine TL_pure (d := (some 27)) rfl rfl rfl (PV_fieldAddr (D := 7) Try.underlying140 rfl sz23 (by decide) rfl rfl) ?_
  refine TL_pure (d := (some 28)) rfl rfl rfl (PV_load Try.underlying23 rfl rfl (by first | exact Rd.at 0 rfl rfl | exact Rd.at 1 rfl rfl | exact Rd.at 2 rfl rfl | exact Rd.at 3 rfl rfl | exact Rd.at 4 rfl rfl | exact Rd.at 5 rfl rfl | exact Rd.at 6 rfl rfl | exact Rd.at 7 rfl rfl | exact Rd.at 8 rfl rfl)) ?_
  refine TL_pure (d := (some 29)) rfl rfl rfl (PV_move rfl) ?_
  -- op 30 append(t28, t29) [23, 23]
  refine TL_cons rfl (TO_append 2 rfl Try.underlying23 zb5 rfl (by decide) rfl rfl rfl (hx.mono fun w h => h.tl.tl.tl.tl) nums_one (by show (buf.length + bs.length) * 1 ≤ 140737488355328; omega) (by show buf.length + bs.length ≤ 9223372036854775807; omega) fun A30 c30 hc30 => ?_)
  rw [show nums .u8 buf ++ nums .u8 bs = nums .u8 (buf ++ bs) from List.map_append.symm, show buf.length + bs.length = (buf ++ bs).length from List.length_append.symm]
  replace hc30 : (buf ++ bs).length ≤ c30 := by rw [List.length_append]; exact hc30
  have hL0 : 0 < (buf ++ bs).length := by rw [List.length_append]; omega
  have hLm : (buf ++ bs).length ≤ 1000000 := by rw [List.length_append]; omega
  obtain ⟨L, hL⟩ : ∃ L, buf ++ bs = L := ⟨_, rfl⟩
  rw [hL] at hu h4 h24 hs hc30 hL0 hLm ⊢
  refine TL_pure (d := (some 31)) rfl rfl rfl (PV_nilCheck rfl) ?_
  refine TL_pure (d := (some 32)) rfl rfl rfl (PV_fieldAddr (D := 7) Try.underlying140 rfl sz23 (by decide) rfl rfl) ?_
  first | (refine TL_cons rfl (TO_store1 0 rfl rfl rfl sz23 rfl rfl rfl (by first | exact Nat.le_of_ble_eq_true rfl | (simp; done) | (simp; omega) | omega) ?_)) | (refine TL_cons rfl (TO_store1 1 rfl rfl rfl sz23 rfl rfl rfl (by first | exact Nat.le_of_ble_eq_true rfl | (simp; done) | (simp; omega) | omega) ?_)) | (refine TL_cons rfl (TO_store1 2 rfl rfl rfl sz23 rfl rfl rfl (by first | exact Nat.le_of_ble_eq_true rfl | (simp; done) | (simp; omega) | omega) ?_)) | (refine TL_cons rfl (TO_store1 3 rfl rfl rfl sz23 rfl rfl rfl (by first | exact Nat.le_of_ble_eq_true rfl | (simp; done) | (simp; omega) | omega) ?_)) | (refine TL_cons rfl (TO_store1 4 rfl rfl rfl sz23 rfl rfl rfl (by first | exact Nat.le_of_ble_eq_true rfl | (simp; done) | (simp; omega) | omega) ?_)) | (refine TL_cons rfl (TO_store1 5 rfl rfl rfl sz23 rfl rfl rfl (by first | exact Nat.le_of_ble_eq_true rfl | (simp; done) | (simp; omega) | omega) ?_)) | (refine TL_cons rfl (TO_store1 6 rfl rfl rfl sz23 rfl rfl rfl (by first | exact Nat.le_of_ble_eq_true rfl | (simp; done) | (simp; omega) | omega) ?_)) | (refine TL_cons rfl (TO_store1 7 rfl rfl rfl sz23 rfl rfl rfl (by first | exact Nat.le_of_ble_eq_true rfl | (simp; done) | (simp; omega) | omega) ?_)) | (refine TL_cons rfl (TO_store1 8 rfl rfl rfl sz23 rfl rfl rfl (by first | exact Nat.le_of_ble_eq_true rfl | (simp; done) | (simp; omega) | omega) ?_))
  refine TL_nil ?_
  refine T_seq ?_
  refine T_seq ?_
  refine T_region ?_
  -- op 33 move t0
  refine TL_slA 2 rfl hL0 fun gb hgb => ?_
  subst hgb
  refine TL_cons rfl (TO_pure rfl (PV_move rfl) ?_)
  refine TL_pure (d := (some 34)) rfl rfl rfl (PV_nilCheck rfl) ?_
  refine TL_pure (d := (some 35)) rfl rfl rfl (PV_fieldAddr (D := 7) Try.underlying140 rfl sz23 (by decide) rfl rfl) ?_
  refine TL_pure (d := (some 36)) rfl rfl rfl (PV_load Try.underlying23 rfl rfl (by first | exact Rd.at 0 rfl rfl | exact Rd.at 1 rfl rfl | exact Rd.at 2 rfl rfl | exact Rd.at 3 rfl rfl | exact Rd.at 4 rfl rfl | exact Rd.at 5 rfl rfl | exact Rd.at 6 rfl rfl | exact Rd.at 7 rfl rfl | exact Rd.at 8 rfl rfl)) ?_
  refine TL_pure (d := (some 37)) rfl rfl rfl (PV_indexAddr (i := 0) Try.underlying23 sz5 rfl rfl rfl (by first | omega | decide | assumption)) ?_
  refine TL_pure (d := (some 38)) rfl rfl rfl (PV_load Try.underlying5 rfl rfl (Rd.at 2 rfl (nums_at' 0 rfl hL0))) ?_
  refine TL_pure (d := (some 5)) rfl rfl rfl (PV_assign rfl) ?_
  refine TL_nil ?_
  refine T_block ?_
  refine T_seq ?_
  refine T_region ?_
  refine TL_pure (d := (some 40)) rfl rfl rfl (PV_move rfl) ?_
  refine TL_pure (d := (some 41)) rfl rfl rfl (PV.cast (PV_bin rfl rfl bin_eql) (congrArg Value.bool (show _ = false by exact beq_false_of_ne h4))) ?_
  refine TL_pure (d := (some 42)) rfl rfl rfl (PV_move rfl) ?_
  -- guard 43 move t0
  refine TL_no (b := false) rfl rfl rfl rfl ?_
  refine TL_no (b := false) rfl rfl rfl rfl ?_
  refine TL_no (b := false) rfl rfl rfl rfl ?_
  refine TL_no (b := false) rfl rfl rfl rfl ?_
  first | (refine TL_pure (d := (some 47)) rfl rfl rfl (PV_pickAnd rfl rfl rfl) ?_) | (refine TL_pure (d := (some 47)) rfl rfl rfl (PV_pickF rfl (by first | assumption | rfl | (simp; done) | (simp; omega)) rfl rfl) ?_)
  refine TL_pure (d := (some 39)) rfl rfl rfl (PV_assign rfl) ?_
  refine TL_nil ?_
  -- IF t39
  refine T_else rfl (by rfl) ?_
  refine T_seq ?_
  refine T_region ?_
  refine TL_pure (d := (some 52)) rfl rfl rfl (PV_move rfl) ?_
  refine TL_pure (d := (some 53)) rfl rfl rfl (PV.cast (PV_bin rfl rfl bin_eql) (congrArg Value.bool (show _ = false by exact beq_false_of_ne h24))) ?_
  refine TL_pure (d := (some 54)) rfl rfl rfl (PV_move rfl) ?_
  -- guard 55 move t0
  refine TL_no (b := false) rfl rfl rfl rfl ?_
  refine TL_no (b := false) rfl rfl rfl rfl ?_
  refine TL_no (b := false) rfl rfl rfl rfl ?_
  refine TL_no (b := false) rfl rfl rfl rfl ?_
  refine TL_no (b := false) rfl rfl rfl rfl ?_
  refine TL_no (b := false) rfl rfl rfl rfl ?_
  first | (refine TL_pure (d := (some 61)) rfl rfl rfl (PV_pickAnd rfl rfl rfl) ?_) | (refine TL_pure (d := (some 61)) rfl rfl rfl (PV_pickF rfl (by first | assumption | rfl | (simp; done) | (simp; omega)) rfl rfl) ?_)
  refine TL_pure (d := (some 62)) rfl rfl rfl (PV_move rfl) ?_
  -- guard 63 move t0
  refine TL_no (b := false) rfl rfl rfl rfl ?_
  refine TL_no (b := false) rfl rfl rfl rfl ?_
  refine TL_no (b := false) rfl rfl rfl rfl ?_
  refine TL_no (b := false) rfl rfl rfl rfl ?_
  refine TL_no (b := false) rfl rfl rfl rfl ?_
  refine TL_no (b := false) rfl rfl rfl rfl ?_
  refine TL_no (b := false) rfl rfl rfl rfl ?_
  first | (refine TL_pure (d := (some 70)) rfl rfl rfl (PV_pickAnd rfl rfl rfl) ?_) | (refine TL_pure (d := (some 70)) rfl rfl rfl (PV_pickF rfl (by first | assumption | rfl | (simp; done) | (simp; omega)) rfl rfl) ?_)
  refine TL_pure (d := (some 51)) rfl rfl rfl (PV_assign rfl) ?_
  refine TL_nil ?_
  -- IF t51
  refine T_else rfl (by rfl) ?_
  refine T_seq ?_
  refine T_region ?_
  refine TL_pure (d := (some 75)) rfl rfl rfl (PV_move rfl) ?_
  refine TL_pure (d := (some 76)) rfl rfl rfl (PV.cast (PV_bin rfl rfl bin_eql) (congrArg Value.bool (show _ = false by exact beq_false_of_ne h24))) ?_
  refine TL_pure (d := (some 77)) rfl rfl rfl (PV_move rfl) ?_
  -- guard 78 move t0
  refine TL_no (b := false) rfl rfl rfl rfl ?_
  refine TL_no (b := false) rfl rfl rfl rfl ?_
  refine TL_no (b := false) rfl rfl rfl rfl ?_
  refine TL_no (b := false) rfl rfl rfl rfl ?_
  refine TL_no (b := false) rfl rfl rfl rfl ?_
  refine TL_no (b := false) rfl rfl rfl rfl ?_
  first | (refine TL_pure (d := (some 84)) rfl rfl rfl (PV_pickAnd rfl rfl rfl) ?_) | (refine TL_pure (d := (some 84)) rfl rfl rfl (PV_pickF rfl (by first | assumption | rfl | (simp; done) | (simp; omega)) rfl rfl) ?_)
  refine TL_pure (d := (some 74)) rfl rfl rfl (PV_assign rfl) ?_
  refine TL_nil ?_
  -- IF t74
  refine T_else rfl (by rfl) ?_
  refine T_skip ?_
  refine T_seq ?_
  refine T_drawn (WH _ _ _) mixed (by intro w h; exact h) ?_
  refine TA_take (dd := (some 86)) 0 rfl (by kernel_rfl) (by kernel_rfl) (by kernel_rfl) rfl rfl rfl (PV_move rfl) ?_
  refine TA_take (dd := (some 87)) 1 rfl (by kernel_rfl) (by kernel_rfl) (by kernel_rfl) rfl rfl rfl (PV_nilCheck rfl) ?_
  refine TA_take (dd := (some 88)) 2 rfl (by kernel_rfl) (by kernel_rfl) (by kernel_rfl) rfl rfl rfl (PV_fieldAddr (D := 7) Try.underlying140 rfl sz23 (by decide) rfl rfl) ?_
  first | (refine TA_take (dd := (some 89)) 3 rfl (by kernel_rfl) (by kernel_rfl) (by kernel_rfl) rfl rfl rfl (PV_load Try.underlying23 rfl rfl (by first | exact Rd.at 0 rfl rfl | exact Rd.at 1 rfl rfl | exact Rd.at 2 rfl rfl | exact Rd.at 3 rfl rfl | exact Rd.at 4 rfl rfl | exact Rd.at 5 rfl rfl | exact Rd.at 6 rfl rfl | exact Rd.at 7 rfl rfl | exact Rd.at 8 rfl rfl)) ?_) | (refine TA_pure1 (dd := (some 89)) 3 (by kernel_rfl) rfl rfl rfl rfl (PV_load Try.underlying23 rfl rfl (by first | exact Rd.at 0 rfl rfl | exact Rd.at 1 rfl rfl | exact Rd.at 2 rfl rfl | exact Rd.at 3 rfl rfl | exact Rd.at 4 rfl rfl | exact Rd.at 5 rfl rfl | exact Rd.at 6 rfl rfl | exact Rd.at 7 rfl rfl | exact Rd.at 8 rfl rfl)) ?_)
  refine TA_take (dd := (some 90)) 4 rfl (by kernel_rfl) (by kernel_rfl) (by kernel_rfl) rfl rfl rfl (PV_move rfl) ?_
  refine TA_take (dd := (some 91)) 5 rfl (by kernel_rfl) (by kernel_rfl) (by kernel_rfl) rfl rfl rfl (PV_nilCheck rfl) ?_
  refine TA_take (dd := (some 92)) 6 rfl (by kernel_rfl) (by kernel_rfl) (by kernel_rfl) rfl rfl rfl (PV_fieldAddr (D := 0) Try.underlying140 rfl sz4 (by decide) rfl rfl) ?_
  first | (refine TA_take (dd := (some 93)) 7 rfl (by kernel_rfl) (by kernel_rfl) (by kernel_rfl) rfl rfl rfl (PV_load Try.underlying4 rfl rfl (by first | exact Rd.at 0 rfl rfl | exact Rd.at 1 rfl rfl | exact Rd.at 2 rfl rfl | exact Rd.at 3 rfl rfl | exact Rd.at 4 rfl rfl | exact Rd.at 5 rfl rfl | exact Rd.at 6 rfl rfl | exact Rd.at 7 rfl rfl | exact Rd.at 8 rfl rfl)) ?_) | (refine TA_pure1 (dd := (some 93)) 7 (by kernel_rfl) rfl rfl rfl rfl (PV_load Try.underlying4 rfl rfl (by first | exact Rd.at 0 rfl rfl | exact Rd.at 1 rfl rfl | exact Rd.at 2 rfl rfl | exact Rd.at 3 rfl rfl | exact Rd.at 4 rfl rfl | exact Rd.at 5 rfl rfl | exact Rd.at 6 rfl rfl | exact Rd.at 7 rfl rfl | exact Rd.at 8 rfl rfl)) ?_)
  -- ('many', [8, 12])
  refine TA_hard (rs := [8, 12]) (by kernel_rfl) (by decide) ?_
  refine List.forall_mem_cons.2 ⟨?_, List.forall_mem_cons.2 ⟨?_, by simp⟩⟩
  · skip
    refine ⟨_, rfl, rfl, (TO_call0 call52 rfl rfl (t52no crc hs (by decide) (Shows.at 2 rfl) rfl (by omega) hc30 hu) ?_)⟩
    rintro v94 H94 ⟨rfl, rfl⟩
    refine ⟨by intro w h; first | exact h | exact h.tl | exact h.tl.tl, ?_⟩
    refine TA_take (dd := (some 85)) 9 rfl (by kernel_rfl) (by kernel_rfl) (by kernel_rfl) rfl rfl rfl (PV_move rfl) ?_
    refine TA_take (dd := (some 95)) 10 rfl (by kernel_rfl) (by kernel_rfl) (by kernel_rfl) rfl rfl rfl (PV_extract rfl rfl) ?_
    refine TA_take (dd := (some 96)) 11 rfl (by kernel_rfl) (by kernel_rfl) (by kernel_rfl) rfl rfl rfl (PV_extract rfl rfl) ?_
    refine TA_one 12 (by kernel_rfl) rfl rfl (TO_alloc rfl zr58 fun g6 => ?_)
    refine ⟨by intro w h; first | exact h | exact h.tl | exact h.tl.tl, ?_⟩
    first | (refine TA_one 13 (by kernel_rfl) rfl rfl (TO_store 0 rfl rfl rfl sz58 rfl rfl rfl (by simp [Value.cells, Value.oneCell']) (by first | exact Nat.le_of_ble_eq_true rfl | (simp; done) | (simp; omega) | omega) ?_)) | (refine TA_one 13 (by kernel_rfl) rfl rfl (TO_store 1 rfl rfl rfl sz58 rfl rfl rfl (by simp [Value.cells, Value.oneCell']) (by first | exact Nat.le_of_ble_eq_true rfl | (simp; done) | (simp; omega) | omega) ?_)) | (refine TA_one 13 (by kernel_rfl) rfl rfl (TO_store 2 rfl rfl rfl sz58 rfl rfl rfl (by simp [Value.cells, Value.oneCell']) (by first | exact Nat.le_of_ble_eq_true rfl | (simp; done) | (simp; omega) | omega) ?_)) | (refine TA_one 13 (by kernel_rfl) rfl rfl (TO_store 3 rfl rfl rfl sz58 rfl rfl rfl (by simp [Value.cells, Value.oneCell']) (by first | exact Nat.le_of_ble_eq_true rfl | (simp; done) | (simp; omega) | omega) ?_)) | (refine TA_one 13 (by kernel_rfl) rfl rfl (TO_store 4 rfl rfl rfl sz58 rfl rfl rfl (by simp [Value.cells, Value.oneCell']) (by first | exact Nat.le_of_ble_eq_true rfl | (simp; done) | (simp; omega) | omega) ?_)) | (refine TA_one 13 (by kernel_rfl) rfl rfl (TO_store 5 rfl rfl rfl sz58 rfl rfl rfl (by simp [Value.cells, Value.oneCell']) (by first | exact Nat.le_of_ble_eq_true rfl | (simp; done) | (simp; omega) | omega) ?_)) | (refine TA_one 13 (by kernel_rfl) rfl rfl (TO_store 6 rfl rfl rfl sz58 rfl rfl rfl (by simp [Value.cells, Value.oneCell']) (by first | exact Nat.le_of_ble_eq_true rfl | (simp; done) | (simp; omega) | omega) ?_)) | (refine TA_one 13 (by kernel_rfl) rfl rfl (TO_store 7 rfl rfl rfl sz58 rfl rfl rfl (by simp [Value.cells, Value.oneCell']) (by first | exact Nat.le_of_ble_eq_true rfl | (simp; done) | (simp; omega) | omega) ?_)) | (refine TA_one 13 (by kernel_rfl) rfl rfl (TO_store 8 rfl rfl rfl sz58 rfl rfl rfl (by simp [Value.cells, Value.oneCell']) (by first | exact Nat.le_of_ble_eq_true rfl | (simp; done) | (simp; omega) | omega) ?_))
    refine ⟨by intro w h; first | exact h | exact h.tl | exact h.tl.tl, ?_⟩
    refine TA_take (dd := (some 7)) 14 rfl (by kernel_rfl) (by kernel_rfl) (by kernel_rfl) rfl rfl rfl (PV_assign rfl) ?_
    refine TA_done (by kernel_rfl) ?_
    refine T_seq ?_
    refine T_seq ?_
    refine T_region ?_
    refine TL_pure (d := (some 97)) rfl rfl rfl (PV_move rfl) ?_
    refine TL_nil ?_
    refine T_block ?_
    refine T_seq ?_
    refine T_region ?_
    refine TL_pure (d := (some 99)) rfl rfl rfl (PV_bin rfl rfl bin_eql) ?_
    refine TL_pure (d := (some 98)) rfl rfl rfl (PV_assign rfl) ?_
    refine TL_nil ?_
    -- IF t98
    refine T_else rfl (by rfl) ?_
    refine T_seq ?_
    refine T_region ?_
    refine TL_pure (d := (some 101)) rfl rfl rfl (PV_bin rfl rfl bin_eql) ?_
    refine TL_pure (d := (some 100)) rfl rfl rfl (PV_assign rfl) ?_
    refine TL_nil ?_
    -- IF t100
    refine T_then rfl (by rfl) ?_
    refine T_seq ?_
    refine T_region ?_
    refine TL_pure (d := (some 102)) rfl rfl rfl (PV_move rfl) ?_
    refine TL_pure (d := (some 103)) rfl rfl rfl (PV_nilCheck rfl) ?_
    refine TL_pure (d := (some 104)) rfl rfl rfl (PV_fieldAddr (D := 7) Try.underlying140 rfl sz23 (by decide) rfl rfl) ?_
    first | (refine TL_cons rfl (TO_store1 0 rfl rfl rfl sz23 rfl rfl rfl (by first | exact Nat.le_of_ble_eq_true rfl | (simp; done) | (simp; omega) | omega) ?_)) | (refine TL_cons rfl (TO_store1 1 rfl rfl rfl sz23 rfl rfl rfl (by first | exact Nat.le_of_ble_eq_true rfl | (simp; done) | (simp; omega) | omega) ?_)) | (refine TL_cons rfl (TO_store1 2 rfl rfl rfl sz23 rfl rfl rfl (by first | exact Nat.le_of_ble_eq_true rfl | (simp; done) | (simp; omega) | omega) ?_)) | (refine TL_cons rfl (TO_store1 3 rfl rfl rfl sz23 rfl rfl rfl (by first | exact Nat.le_of_ble_eq_true rfl | (simp; done) | (simp; omega) | omega) ?_)) | (refine TL_cons rfl (TO_store1 4 rfl rfl rfl sz23 rfl rfl rfl (by first | exact Nat.le_of_ble_eq_true rfl | (simp; done) | (simp; omega) | omega) ?_)) | (refine TL_cons rfl (TO_store1 5 rfl rfl rfl sz23 rfl rfl rfl (by first | exact Nat.le_of_ble_eq_true rfl | (simp; done) | (simp; omega) | omega) ?_)) | (refine TL_cons rfl (TO_store1 6 rfl rfl rfl sz23 rfl rfl rfl (by first | exact Nat.le_of_ble_eq_true rfl | (simp; done) | (simp; omega) | omega) ?_)) | (refine TL_cons rfl (TO_store1 7 rfl rfl rfl sz23 rfl rfl rfl (by first | exact Nat.le_of_ble_eq_true rfl | (simp; done) | (simp; omega) | omega) ?_)) | (refine TL_cons rfl (TO_store1 8 rfl rfl rfl sz23 rfl rfl rfl (by first | exact Nat.le_of_ble_eq_true rfl | (simp; done) | (simp; omega) | omega) ?_))
    refine TL_nil ?_
    refine T_seq ?_
    refine T_region ?_
    -- op 105 buildSlice 23 1 [(0 cu8:21)]
    refine TL_cons rfl (TO_buildSlice (cells := #[.int .u8 21]) Try.underlying23 zs5 (by decide) rfl rfl rfl (by kernel_rfl) rfl fun g105 => ?_)
    refine TL_drop (H' := [_, _, _] ++ (_ :: X)) (List.Sublist.cons_cons _ (List.Sublist.cons _ (List.Sublist.cons_cons _ (List.Sublist.cons_cons _ (List.Sublist.cons _ (List.Sublist.refl _)))))) ?_
    refine TL_perm ((List.Perm.swap _ _ _).cons _) ?_
    refine TL_pure (d := (some 4)) rfl rfl rfl (PV_assign rfl) ?_
    refine TL_nil ?_
    refine T_ret ?_
    -- ('ret',)
    refine ⟨_, _, ?_, ResV_one rfl rfl, ⟨_, 1, rfl, Nat.le_refl _, rfl⟩⟩
    repeat (first | exact List.Sublist.refl _ | apply List.Sublist.cons_cons | apply List.Sublist.cons)
  · skip
    refine ⟨_, rfl, rfl, (TO_alloc rfl zr58 fun g6 => ?_)⟩
    refine ⟨by intro w h; first | exact h | exact h.tl | exact h.tl.tl, ?_⟩
    -- dop 8 94 call F52(t89, t93)
    refine TA_one 8 (by kernel_rfl) rfl rfl (TO_call0 call52 rfl rfl (t52no crc hs (by decide) (Shows.at 3 rfl) rfl (by omega) hc30 hu) ?_)
    rintro v94 H94 ⟨rfl, rfl⟩
    refine ⟨by intro w h; first | exact h | exact h.tl | exact h.tl.tl, ?_⟩
    refine TA_take (dd := (some 85)) 9 rfl (by kernel_rfl) (by kernel_rfl) (by kernel_rfl) rfl rfl rfl (PV_move rfl) ?_
    refine TA_take (dd := (some 95)) 10 rfl (by kernel_rfl) (by kernel_rfl) (by kernel_rfl) rfl rfl rfl (PV_extract rfl rfl) ?_
    refine TA_take (dd := (some 96)) 11 rfl (by kernel_rfl) (by kernel_rfl) (by kernel_rfl) rfl rfl rfl (PV_extract rfl rfl) ?_
    first | (refine TA_one 13 (by kernel_rfl) rfl rfl (TO_store 0 rfl rfl rfl sz58 rfl rfl rfl (by simp [Value.cells, Value.oneCell']) (by first | exact Nat.le_of_ble_eq_true rfl | (simp; done) | (simp; omega) | omega) ?_)) | (refine TA_one 13 (by kernel_rfl) rfl rfl (TO_store 1 rfl rfl rfl sz58 rfl rfl rfl (by simp [Value.cells, Value.oneCell']) (by first | exact Nat.le_of_ble_eq_true rfl | (simp; done) | (simp; omega) | omega) ?_)) | (refine TA_one 13 (by kernel_rfl) rfl rfl (TO_store 2 rfl rfl rfl sz58 rfl rfl rfl (by simp [Value.cells, Value.oneCell']) (by first | exact Nat.le_of_ble_eq_true rfl | (simp; done) | (simp; omega) | omega) ?_)) | (refine TA_one 13 (by kernel_rfl) rfl rfl (TO_store 3 rfl rfl rfl sz58 rfl rfl rfl (by simp [Value.cells, Value.oneCell']) (by first | exact Nat.le_of_ble_eq_true rfl | (simp; done) | (simp; omega) | omega) ?_)) | (refine TA_one 13 (by kernel_rfl) rfl rfl (TO_store 4 rfl rfl rfl sz58 rfl rfl rfl (by simp [Value.cells, Value.oneCell']) (by first | exact Nat.le_of_ble_eq_true rfl | (simp; done) | (simp; omega) | omega) ?_)) | (refine TA_one 13 (by kernel_rfl) rfl rfl (TO_store 5 rfl rfl rfl sz58 rfl rfl rfl (by simp [Value.cells, Value.oneCell']) (by first | exact Nat.le_of_ble_eq_true rfl | (simp; done) | (simp; omega) | omega) ?_)) | (refine TA_one 13 (by kernel_rfl) rfl rfl (TO_store 6 rfl rfl rfl sz58 rfl rfl rfl (by simp [Value.cells, Value.oneCell']) (by first | exact Nat.le_of_ble_eq_true rfl | (simp; done) | (simp; omega) | omega) ?_)) | (refine TA_one 13 (by kernel_rfl) rfl rfl (TO_store 7 rfl rfl rfl sz58 rfl rfl rfl (by simp [Value.cells, Value.oneCell']) (by first | exact Nat.le_of_ble_eq_true rfl | (simp; done) | (simp; omega) | omega) ?_)) | (refine TA_one 13 (by kernel_rfl) rfl rfl (TO_store 8 rfl rfl rfl sz58 rfl rfl rfl (by simp [Value.cells, Value.oneCell']) (by first | exact Nat.le_of_ble_eq_true rfl | (simp; done) | (simp; omega) | omega) ?_))
    refine ⟨by intro w h; first | exact h | exact h.tl | exact h.tl.tl, ?_⟩
    refine TA_take (dd := (some 7)) 14 rfl (by kernel_rfl) (by kernel_rfl) (by kernel_rfl) rfl rfl rfl (PV_assign rfl) ?_
    refine TA_done (by kernel_rfl) ?_
    refine T_seq ?_
    refine T_seq ?_
    refine T_region ?_
    refine TL_pure (d := (some 97)) rfl rfl rfl (PV_move rfl) ?_
    refine TL_nil ?_
    refine T_block ?_
    refine T_seq ?_
    refine T_region ?_
    refine TL_pure (d := (some 99)) rfl rfl rfl (PV_bin rfl rfl bin_eql) ?_
    refine TL_pure (d := (some 98)) rfl rfl rfl (PV_assign rfl) ?_
    refine TL_nil ?_
    refine T_else rfl (by rfl) ?_
    refine T_seq ?_
    refine T_region ?_
    refine TL_pure (d := (some 101)) rfl rfl rfl (PV_bin rfl rfl bin_eql) ?_
    refine TL_pure (d := (some 100)) rfl rfl rfl (PV_assign rfl) ?_
    refine TL_nil ?_
    -- IF t100
    refine T_then rfl (by rfl) ?_
    refine T_seq ?_
    refine T_region ?_
    refine TL_pure (d := (some 102)) rfl rfl rfl (PV_move rfl) ?_
    refine TL_pure (d := (some 103)) rfl rfl rfl (PV_nilCheck rfl) ?_
    refine TL_pure (d := (some 104)) rfl rfl rfl (PV_fieldAddr (D := 7) Try.underlying140 rfl sz23 (by decide) rfl rfl) ?_
    first | (refine TL_cons rfl (TO_store1 0 rfl rfl rfl sz23 rfl rfl rfl (by first | exact Nat.le_of_ble_eq_true rfl | (simp; done) | (simp; omega) | omega) ?_)) | (refine TL_cons rfl (TO_store1 1 rfl rfl rfl sz23 rfl rfl rfl (by first | exact Nat.le_of_ble_eq_true rfl | (simp; done) | (simp; omega) | omega) ?_)) | (refine TL_cons rfl (TO_store1 2 rfl rfl rfl sz23 rfl rfl rfl (by first | exact Nat.le_of_ble_eq_true rfl | (simp; done) | (simp; omega) | omega) ?_)) | (refine TL_cons rfl (TO_store1 3 rfl rfl rfl sz23 rfl rfl rfl (by first | exact Nat.le_of_ble_eq_true rfl | (simp; done) | (simp; omega) | omega) ?_)) | (refine TL_cons rfl (TO_store1 4 rfl rfl rfl sz23 rfl rfl rfl (by first | exact Nat.le_of_ble_eq_true rfl | (simp; done) | (simp; omega) | omega) ?_)) | (refine TL_cons rfl (TO_store1 5 rfl rfl rfl sz23 rfl rfl rfl (by first | exact Nat.le_of_ble_eq_true rfl | (simp; done) | (simp; omega) | omega) ?_)) | (refine TL_cons rfl (TO_store1 6 rfl rfl rfl sz23 rfl rfl rfl (by first | exact Nat.le_of_ble_eq_true rfl | (simp; done) | (simp; omega) | omega) ?_)) | (refine TL_cons rfl (TO_store1 7 rfl rfl rfl sz23 rfl rfl rfl (by first | exact Nat.le_of_ble_eq_true rfl | (simp; done) | (simp; omega) | omega) ?_)) | (refine TL_cons rfl (TO_store1 8 rfl rfl rfl sz23 rfl rfl rfl (by first | exact Nat.le_of_ble_eq_true rfl | (simp; done) | (simp; omega) | omega) ?_))
    refine TL_nil ?_
    refine T_seq ?_
    refine T_region ?_
    -- op 105 buildSlice 23 1 [(0 cu8:21)]
    refine TL_cons rfl (TO_buildSlice (cells := #[.int .u8 21]) Try.underlying23 zs5 (by decide) rfl rfl rfl (by kernel_rfl) rfl fun g105 => ?_)
    refine TL_drop (H' := [_, _, _] ++ (_ :: X)) (List.Sublist.cons_cons _ (List.Sublist.cons _ (List.Sublist.cons_cons _ (List.Sublist.cons_cons _ (List.Sublist.cons _ (List.Sublist.refl _)))))) ?_
    refine TL_perm ((List.Perm.swap _ _ _).cons _) ?_
    refine TL_pure (d := (some 4)) rfl rfl rfl (PV_assign rfl) ?_
    refine TL_nil ?_
    refine T_ret ?_
    -- ('ret',)
    refine ⟨_, _, ?_, ResV_one rfl rfl, ⟨_, 1, rfl, Nat.le_refl _, rfl⟩⟩
    repeat (first | exact List.Sublist.refl _ | apply List.Sublist.cons_cons | apply List.Sublist.cons)
set_option maxRecDepth 100000 in
theorem t75good {g : Nat} (r : Rcv) {Ab : Option Addr} {m cb : Nat} {bs : List Int} (hx : Shows (WH w0 B X) Ab m 1 (nums .u8 bs)) (hm : bs.length = m) (hm0 : 0 < m) (hu : U8s (r.buf ++ bs)) (hlb : r.buf.length + m ≤ 1000000) (ho : r.over = false) (h4 : rd (r.buf ++ bs) 0 ≠ 4) (h24 : rd (r.buf ++ bs) 0 ≠ 24) (hs : scanS (r.buf ++ bs) r.crc = 2) (hnum : rd (r.buf ++ bs) 1 = r.number) (hdl : r.dat.length ≤ 1000000) (hbk : 0 ≤ r.blocks ∧ r.blocks ≤ 1000000) :
    TCall Try.prog w0 B 75 #[.pointer (some ⟨g, 0, none⟩), .slice Ab m cb] (fun v H' => ∃ (A6 : Option Addr) (k6 : Nat) (A : Option Addr) (k : Nat), v = .slice A6 1 k6 ∧ 1 ≤ k6 ∧ (r.with.took A k (scanD (r.buf ++ bs) r.crc)).dat.length ≤ k ∧ H' = .sl (.slice A6 1 k6) 1 1 (nums .u8 [6]) :: rcvC g (r.with.took A k (scanD (r.buf ++ bs) r.crc)).fin :: bufC (r.with.took A k (scanD (r.buf ++ bs) r.crc)).fin :: datC (r.with.took A k (scanD (r.buf ++ bs) r.crc)).fin :: X) (rcvC g r :: bufC r :: datC r :: X) := by
  subst hm
  obtain ⟨crc, wait, tries, left, number, begun, close, bA, bc, buf, dA, dc, dat, blocks, want, over, err⟩ := r
  dsimp only at hu hlb ho h4 h24 hs hnum hdl hbk
  subst ho
  refine TCall_intro (args := [_, _]) Try.func75 rfl Try.ntmps75 (Nat.le_of_ble_eq_true rfl) ?_
  refine T_addNil 1 ?_
  refine T_seq ?_
  refine T_region ?_
  refine TL_pure (d := (some 4)) rfl rfl rfl (PV_assign rfl) ?_
  refine TL_nil ?_
  refine T_seq ?_
  refine T_seq ?_
  refine T_region ?_
  refine TL_pure (d := (some 8)) rfl rfl rfl (PV_move rfl) ?_
  refine TL_pure (d := (some 9)) rfl rfl rfl (PV_nilCheck rfl) ?_
  refine TL_pure (d := (some 10)) rfl rfl rfl (PV_fieldAddr (D := 11) Try.underlying140 rfl sz4 (by decide) rfl rfl) ?_
  refine TL_pure (d := (some 11)) rfl rfl rfl (PV_load Try.underlying4 rfl rfl (by first | exact Rd.at 0 rfl rfl | exact Rd.at 1 rfl rfl | exact Rd.at 2 rfl rfl | exact Rd.at 3 rfl rfl | exact Rd.at 4 rfl rfl | exact Rd.at 5 rfl rfl | exact Rd.at 6 rfl rfl | exact Rd.at 7 rfl rfl | exact Rd.at 8 rfl rfl)) ?_
  refine TL_pure (d := (some 12)) rfl rfl rfl (PV_move rfl) ?_
  -- guard 13 move t1
  refine TL_yes rfl rfl rfl (TO_pure rfl (PV_move rfl) ?_)
  refine TL_yes rfl rfl rfl (TO_pure rfl (PV_len_slice Try.underlying23 rfl) ?_)
  refine TL_yes rfl rfl rfl (TO_pure rfl (PV_bin rfl rfl bin_eql) ?_)
  first | (refine TL_pure (d := (some 16)) rfl rfl rfl (PV_pickOr rfl rfl rfl) ?_) | (refine TL_pure (d := (some 16)) rfl rfl rfl (PV_pickT rfl (by first | assumption | rfl | (simp; done) | (simp; omega)) rfl rfl) ?_)
  refine TL_nil ?_
  -- IF t16
  refine T_else rfl (by exact beq_false_of_ne (by omega)) ?_
  refine T_skip ?_
  refine T_seq ?_
  refine T_region ?_
  refine TL_pure (d := (some 17)) rfl rfl rfl (PV_move rfl) ?_
  refine TL_pure (d := (some 18)) rfl rfl rfl (PV_move rfl) ?_
  refine TL_pure (d := (some 19)) rfl rfl rfl (PV_nilCheck rfl) ?_
  refine TL_pure (d := (some 20)) rfl rfl rfl (PV_fieldAddr (D := 1) Try.underlying140 rfl sz3 (by decide) rfl rfl) ?_
  refine TL_pure (d := (some 21)) rfl rfl rfl (PV_load Try.underlying3 rfl rfl (by first | exact Rd.at 0 rfl rfl | exact Rd.at 1 rfl rfl | exact Rd.at 2 rfl rfl | exact Rd.at 3 rfl rfl | exact Rd.at 4 rfl rfl | exact Rd.at 5 rfl rfl | exact Rd.at 6 rfl rfl | exact Rd.at 7 rfl rfl | exact Rd.at 8 rfl rfl)) ?_
  refine TL_pure (d := (some 22)) rfl rfl rfl (PV_nilCheck rfl) ?_
  refine TL_pure (d := (some 23)) rfl rfl rfl (PV_fieldAddr (D := 3) Try.underlying140 rfl sz3 (by decide) rfl rfl) ?_
  first | (refine TL_cons rfl (TO_store1 0 rfl rfl rfl sz3 rfl rfl rfl (by first | exact Nat.le_of_ble_eq_true rfl | (simp; done) | (simp; omega) | omega) ?_)) | (refine TL_cons rfl (TO_store1 1 rfl rfl rfl sz3 rfl rfl rfl (by first | exact Nat.le_of_ble_eq_true rfl | (simp; done) | (simp; omega) | omega) ?_)) | (refine TL_cons rfl (TO_store1 2 rfl rfl rfl sz3 rfl rfl rfl (by first | exact Nat.le_of_ble_eq_true rfl | (simp; done) | (simp; omega) | omega) ?_)) | (refine TL_cons rfl (TO_store1 3 rfl rfl rfl sz3 rfl rfl rfl (by first | exact Nat.le_of_ble_eq_true rfl | (simp; done) | (simp; omega) | omega) ?_)) | (refine TL_cons rfl (TO_store1 4 rfl rfl rfl sz3 rfl rfl rfl (by first | exact Nat.le_of_ble_eq_true rfl | (simp; done) | (simp; omega) | omega) ?_)) | (refine TL_cons rfl (TO_store1 5 rfl rfl rfl sz3 rfl rfl rfl (by first | exact Nat.le_of_ble_eq_true rfl | (simp; done) | (simp; omega) | omega) ?_)) | (refine TL_cons rfl (TO_store1 6 rfl rfl rfl sz3 rfl rfl rfl (by first | exact Nat.le_of_ble_eq_true rfl | (simp; done) | (simp; omega) | omega) ?_)) | (refine TL_cons rfl (TO_store1 7 rfl rfl rfl sz3 rfl rfl rfl (by first | exact Nat.le_of_ble_eq_true rfl | (simp; done) | (simp; omega) | omega) ?_)) | (refine TL_cons rfl (TO_store1 8 rfl rfl rfl sz3 rfl rfl rfl (by first | exact Nat.le_of_ble_eq_true rfl | (simp; done) | (simp; omega) | omega) ?_))
  refine TL_nil ?_
  refine T_seq ?_
  refine T_region ?_
  refine TL_pure (d := (some 24)) rfl rfl rfl (PV_move rfl) ?_
  refine TL_pure (d := (some 25)) rfl rfl rfl (PV_move rfl) ?_
  refine TL_pure (d := (some 26)) rfl rfl rfl (PV_nilCheck rfl) ?_
  refine TL_pure (d := (some 27)) rfl rfl rfl (PV_fieldAddr (D := 7) Try.underlying140 rfl sz23 (by decide) rfl rfl) ?_
  refine TL_pure (d := (some 28)) rfl rfl rfl (PV_load Try.underlying23 rfl rfl (by first | exact Rd.at 0 rfl rfl | exact Rd.at 1 rfl rfl | exact Rd.at 2 rfl rfl | exact Rd.at 3 rfl rfl | exact Rd.at 4 rfl rfl | exact Rd.at 5 rfl rfl | exact Rd.at 6 rfl rfl | exact Rd.at 7 rfl rfl | exact Rd.at 8 rfl rfl)) ?_
  refine TL_pure (d := (some 29)) rfl rfl rfl (PV_move rfl) ?_
  -- op 30 append(t28, t29) [23, 23]
  refine TL_cons rfl (TO_append 2 rfl Try.underlying23 zb5 rfl (by decide) rfl rfl rfl (hx.mono fun w h => h.tl.tl.tl.tl) nums_one (by show (buf.length + bs.length) * 1 ≤ 140737488355328; omega) (by show buf.length + bs.length ≤ 9223372036854775807; omega) fun A30 c30 hc30 => ?_)
  rw [show nums .u8 buf ++ nums .u8 bs = nums .u8 (buf ++ bs) from List.map_append.symm, show buf.length + bs.length = (buf ++ bs).length from List.length_append.symm]
  replace hc30 : (buf ++ bs).length ≤ c30 := by rw [List.length_append]; exact hc30
  have hL0 : 0 < (buf ++ bs).length := by rw [List.length_append]; omega
  have hLm : (buf ++ bs).length ≤ 1000000 := by rw [List.length_append]; omega
  obtain ⟨L, hL⟩ : ∃ L, buf ++ bs = L := ⟨_, rfl⟩
  rw [hL] at hu h4 h24 hs hnum hc30 hL0 hLm ⊢
  refine TL_pure (d := (some 31)) rfl rfl rfl (PV_nilCheck rfl) ?_
  refine TL_pure (d := (some 32)) rfl rfl rfl (PV_fieldAddr (D := 7) Try.underlying140 rfl sz23 (by decide) rfl rfl) ?_
  first | (refine TL_cons rfl (TO_store1 0 rfl rfl rfl sz23 rfl rfl rfl (by first | exact Nat.le_of_ble_eq_true rfl | (simp; done) | (simp; omega) | omega) ?_)) | (refine TL_cons rfl (TO_store1 1 rfl rfl rfl sz23 rfl rfl rfl (by first | exact Nat.le_of_ble_eq_true rfl | (simp; done) | (simp; omega) | omega) ?_)) | (refine TL_cons rfl (TO_store1 2 rfl rfl rfl sz23 rfl rfl rfl (by first | exact Nat.le_of_ble_eq_true rfl | (simp; done) | (simp; omega) | omega) ?_)) | (refine TL_cons rfl (TO_store1 3 rfl rfl rfl sz23 rfl rfl rfl (by first | exact Nat.le_of_ble_eq_true rfl | (simp; done) | (simp; omega) | omega) ?_)) | (refine TL_cons rfl (TO_store1 4 rfl rfl rfl sz23 rfl rfl rfl (by first | exact Nat.le_of_ble_eq_true rfl | (simp; done) | (simp; omega) | omega) ?_)) | (refine TL_cons rfl (TO_store1 5 rfl rfl rfl sz23 rfl rfl rfl (by first | exact Nat.le_of_ble_eq_true rfl | (simp; done) | (simp; omega) | omega) ?_)) | (refine TL_cons rfl (TO_store1 6 rfl rfl rfl sz23 rfl rfl rfl (by first | exact Nat.le_of_ble_eq_true rfl | (simp; done) | (simp; omega) | omega) ?_)) | (refine TL_cons rfl (TO_store1 7 rfl rfl rfl sz23 rfl rfl rfl (by first | exact Nat.le_of_ble_eq_true rfl | (simp; done) | (simp; omega) | omega) ?_)) | (refine TL_cons rfl (TO_store1 8 rfl rfl rfl sz23 rfl rfl rfl (by first | exact Nat.le_of_ble_eq_true rfl | (simp; done) | (simp; omega) | omega) ?_))
  refine TL_nil ?_
  refine T_seq ?_
  refine T_seq ?_
  refine T_region ?_
  -- op 33 move t0
  refine TL_slA 2 rfl hL0 fun gb hgb => ?_
  subst hgb
  refine TL_cons rfl (TO_pure rfl (PV_move rfl) ?_)
  refine TL_pure (d := (some 34)) rfl rfl rfl (PV_nilCheck rfl) ?_
  refine TL_pure (d := (some 35)) rfl rfl rfl (PV_fieldAddr (D := 7) Try.underlying140 rfl sz23 (by decide) rfl rfl) ?_
  refine TL_pure (d := (some 36)) rfl rfl rfl (PV_load Try.underlying23 rfl rfl (by first | exact Rd.at 0 rfl rfl | exact Rd.at 1 rfl rfl | exact Rd.at 2 rfl rfl | exact Rd.at 3 rfl rfl | exact Rd.at 4 rfl rfl | exact Rd.at 5 rfl rfl | exact Rd.at 6 rfl rfl | exact Rd.at 7 rfl rfl | exact Rd.at 8 rfl rfl)) ?_
  refine TL_pure (d := (some 37)) rfl rfl rfl (PV_indexAddr (i := 0) Try.underlying23 sz5 rfl rfl rfl (by first | omega | decide | assumption)) ?_
  refine TL_pure (d := (some 38)) rfl rfl rfl (PV_load Try.underlying5 rfl rfl (Rd.at 2 rfl (nums_at' 0 rfl hL0))) ?_
  refine TL_pure (d := (some 5)) rfl rfl rfl (PV_assign rfl) ?_
  refine TL_nil ?_
  refine T_block ?_
  refine T_seq ?_
  refine T_region ?_
  refine TL_pure (d := (some 40)) rfl rfl rfl (PV_move rfl) ?_
  refine TL_pure (d := (some 41)) rfl rfl rfl (PV.cast (PV_bin rfl rfl bin_eql) (congrArg Value.bool (show _ = false by exact beq_false_of_ne h4))) ?_
  refine TL_pure (d := (some 42)) rfl rfl rfl (PV_move rfl) ?_
  -- guard 43 move t0
  refine TL_no (b := false) rfl rfl rfl rfl ?_
  refine TL_no (b := false) rfl rfl rfl rfl ?_
  refine TL_no (b := false) rfl rfl rfl rfl ?_
  refine TL_no (b := false) rfl rfl rfl rfl ?_
  first | (refine TL_pure (d := (some 47)) rfl rfl rfl (PV_pickAnd rfl rfl rfl) ?_) | (refine TL_pure (d := (some 47)) rfl rfl rfl (PV_pickF rfl (by first | assumption | rfl | (simp; done) | (simp; omega)) rfl rfl) ?_)
  refine TL_pure (d := (some 39)) rfl rfl rfl (PV_assign rfl) ?_
  refine TL_nil ?_
  -- IF t39
  refine T_else rfl (by rfl) ?_
  refine T_seq ?_
  refine T_region ?_
  refine TL_pure (d := (some 52)) rfl rfl rfl (PV_move rfl) ?_
  refine TL_pure (d := (some 53)) rfl rfl rfl (PV.cast (PV_bin rfl rfl bin_eql) (congrArg Value.bool (show _ = false by exact beq_false_of_ne h24))) ?_
  refine TL_pure (d := (some 54)) rfl rfl rfl (PV_move rfl) ?_
  -- guard 55 move t0
  refine TL_no (b := false) rfl rfl rfl rfl ?_
  refine TL_no (b := false) rfl rfl rfl rfl ?_
  refine TL_no (b := false) rfl rfl rfl rfl ?_
  refine TL_no (b := false) rfl rfl rfl rfl ?_
  refine TL_no (b := false) rfl rfl rfl rfl ?_
  refine TL_no (b := false) rfl rfl rfl rfl ?_
  first | (refine TL_pure (d := (some 61)) rfl rfl rfl (PV_pickAnd rfl rfl rfl) ?_) | (refine TL_pure (d := (some 61)) rfl rfl rfl (PV_pickF rfl (by first | assumption | rfl | (simp; done) | (simp; omega)) rfl rfl) ?_)
  refine TL_pure (d := (some 62)) rfl rfl rfl (PV_move rfl) ?_
  -- guard 63 move t0
  refine TL_no (b := false) rfl rfl rfl rfl ?_
  refine TL_no (b := false) rfl rfl rfl rfl ?_
  refine TL_no (b := false) rfl rfl rfl rfl ?_
  refine TL_no (b := false) rfl rfl rfl rfl ?_
  refine TL_no (b := false) rfl rfl rfl rfl ?_
  refine TL_no (b := false) rfl rfl rfl rfl ?_
  refine TL_no (b := false) rfl rfl rfl rfl ?_
  first | (refine TL_pure (d := (some 70)) rfl rfl rfl (PV_pickAnd rfl rfl rfl) ?_) | (refine TL_pure (d := (some 70)) rfl rfl rfl (PV_pickF rfl (by first | assumption | rfl | (simp; done) | (simp; omega)) rfl rfl) ?_)
  refine TL_pure (d := (some 51)) rfl rfl rfl (PV_assign rfl) ?_
  refine TL_nil ?_
  -- IF t51
  refine T_else rfl (by rfl) ?_
  refine T_seq ?_
  refine T_region ?_
  refine TL_pure (d := (some 75)) rfl rfl rfl (PV_move rfl) ?_
  refine TL_pure (d := (some 76)) rfl rfl rfl (PV.cast (PV_bin rfl rfl bin_eql) (congrArg Value.bool (show _ = false by exact beq_false_of_ne h24))) ?_
  refine TL_pure (d := (some 77)) rfl rfl rfl (PV_move rfl) ?_
  -- guard 78 move t0
  refine TL_no (b := false) rfl rfl rfl rfl ?_
  refine TL_no (b := false) rfl rfl rfl rfl ?_
  refine TL_no (b := false) rfl rfl rfl rfl ?_
  refine TL_no (b := false) rfl rfl rfl rfl ?_
  refine TL_no (b := false) rfl rfl rfl rfl ?_
  refine TL_no (b := false) rfl rfl rfl rfl ?_
  first | (refine TL_pure (d := (some 84)) rfl rfl rfl (PV_pickAnd rfl rfl rfl) ?_) | (refine TL_pure (d := (some 84)) rfl rfl rfl (PV_pickF rfl (by first | assumption | rfl | (simp; done) | (simp; omega)) rfl rfl) ?_)
  refine TL_pure (d := (some 74)) rfl rfl rfl (PV_assign rfl) ?_
  refine TL_nil ?_
  -- IF t74
  refine T_else rfl (by rfl) ?_
  refine T_skip ?_
  refine T_seq ?_
  refine T_drawn (WH _ _ _) mixed (by intro w h; exact h) ?_
  refine TA_take (dd := (some 86)) 0 rfl (by kernel_rfl) (by kernel_rfl) (by kernel_rfl) rfl rfl rfl (PV_move rfl) ?_
  refine TA_take (dd := (some 87)) 1 rfl (by kernel_rfl) (by kernel_rfl) (by kernel_rfl) rfl rfl rfl (PV_nilCheck rfl) ?_
  refine TA_take (dd := (some 88)) 2 rfl (by kernel_rfl) (by kernel_rfl) (by kernel_rfl) rfl rfl rfl (PV_fieldAddr (D := 7) Try.underlying140 rfl sz23 (by decide) rfl rfl) ?_
  first | (refine TA_take (dd := (some 89)) 3 rfl (by kernel_rfl) (by kernel_rfl) (by kernel_rfl) rfl rfl rfl (PV_load Try.underlying23 rfl rfl (by first | exact Rd.at 0 rfl rfl | exact Rd.at 1 rfl rfl | exact Rd.at 2 rfl rfl | exact Rd.at 3 rfl rfl | exact Rd.at 4 rfl rfl | exact Rd.at 5 rfl rfl | exact Rd.at 6 rfl rfl | exact Rd.at 7 rfl rfl | exact Rd.at 8 rfl rfl)) ?_) | (refine TA_pure1 (dd := (some 89)) 3 (by kernel_rfl) rfl rfl rfl rfl (PV_load Try.underlying23 rfl rfl (by first | exact Rd.at 0 rfl rfl | exact Rd.at 1 rfl rfl | exact Rd.at 2 rfl rfl | exact Rd.at 3 rfl rfl | exact Rd.at 4 rfl rfl | exact Rd.at 5 rfl rfl | exact Rd.at 6 rfl rfl | exact Rd.at 7 rfl rfl | exact Rd.at 8 rfl rfl)) ?_)
  refine TA_take (dd := (some 90)) 4 rfl (by kernel_rfl) (by kernel_rfl) (by kernel_rfl) rfl rfl rfl (PV_move rfl) ?_
  refine TA_take (dd := (some 91)) 5 rfl (by kernel_rfl) (by kernel_rfl) (by kernel_rfl) rfl rfl rfl (PV_nilCheck rfl) ?_
  refine TA_take (dd := (some 92)) 6 rfl (by kernel_rfl) (by kernel_rfl) (by kernel_rfl) rfl rfl rfl (PV_fieldAddr (D := 0) Try.underlying140 rfl sz4 (by decide) rfl rfl) ?_
  first | (refine TA_take (dd := (some 93)) 7 rfl (by kernel_rfl) (by kernel_rfl) (by kernel_rfl) rfl rfl rfl (PV_load Try.underlying4 rfl rfl (by first | exact Rd.at 0 rfl rfl | exact Rd.at 1 rfl rfl | exact Rd.at 2 rfl rfl | exact Rd.at 3 rfl rfl | exact Rd.at 4 rfl rfl | exact Rd.at 5 rfl rfl | exact Rd.at 6 rfl rfl | exact Rd.at 7 rfl rfl | exact Rd.at 8 rfl rfl)) ?_) | (refine TA_pure1 (dd := (some 93)) 7 (by kernel_rfl) rfl rfl rfl rfl (PV_load Try.underlying4 rfl rfl (by first | exact Rd.at 0 rfl rfl | exact Rd.at 1 rfl rfl | exact Rd.at 2 rfl rfl | exact Rd.at 3 rfl rfl | exact Rd.at 4 rfl rfl | exact Rd.at 5 rfl rfl | exact Rd.at 6 rfl rfl | exact Rd.at 7 rfl rfl | exact Rd.at 8 rfl rfl)) ?_)
  -- ('many', [8, 12])
  have hsd : (scanD L crc).length ≤ L.length := by
    unfold scanD
    rw [List.length_drop, List.length_take]
    omega
  refine TA_hard (rs := [8, 12]) (by kernel_rfl) (by decide) ?_
  refine List.forall_mem_cons.2 ⟨?_, List.forall_mem_cons.2 ⟨?_, by simp⟩⟩
  · skip
    refine ⟨_, rfl, rfl, (TO_call0 call52 rfl rfl (t52yes crc hs (Shows.at 2 rfl) rfl (by omega) hc30 hu) ?_)⟩
    rintro v94 H94 ⟨A94, k94, rfl, hk94, rfl⟩
    refine ⟨by intro w h; first | exact h | exact h.tl | exact h.tl.tl, ?_⟩
    refine TA_take (dd := (some 85)) 9 rfl (by kernel_rfl) (by kernel_rfl) (by kernel_rfl) rfl rfl rfl (PV_move rfl) ?_
    refine TA_take (dd := (some 95)) 10 rfl (by kernel_rfl) (by kernel_rfl) (by kernel_rfl) rfl rfl rfl (PV_extract rfl rfl) ?_
    refine TA_take (dd := (some 96)) 11 rfl (by kernel_rfl) (by kernel_rfl) (by kernel_rfl) rfl rfl rfl (PV_extract rfl rfl) ?_
    refine TA_one 12 (by kernel_rfl) rfl rfl (TO_alloc rfl zr58 fun g6 => ?_)
    refine ⟨by intro w h; first | exact h | exact h.tl | exact h.tl.tl, ?_⟩
    first | (refine TA_one 13 (by kernel_rfl) rfl rfl (TO_store 0 rfl rfl rfl sz58 rfl rfl rfl (by simp [Value.cells, Value.oneCell']) (by first | exact Nat.le_of_ble_eq_true rfl | (simp; done) | (simp; omega) | omega) ?_)) | (refine TA_one 13 (by kernel_rfl) rfl rfl (TO_store 1 rfl rfl rfl sz58 rfl rfl rfl (by simp [Value.cells, Value.oneCell']) (by first | exact Nat.le_of_ble_eq_true rfl | (simp; done) | (simp; omega) | omega) ?_)) | (refine TA_one 13 (by kernel_rfl) rfl rfl (TO_store 2 rfl rfl rfl sz58 rfl rfl rfl (by simp [Value.cells, Value.oneCell']) (by first | exact Nat.le_of_ble_eq_true rfl | (simp; done) | (simp; omega) | omega) ?_)) | (refine TA_one 13 (by kernel_rfl) rfl rfl (TO_store 3 rfl rfl rfl sz58 rfl rfl rfl (by simp [Value.cells, Value.oneCell']) (by first | exact Nat.le_of_ble_eq_true rfl | (simp; done) | (simp; omega) | omega) ?_)) | (refine TA_one 13 (by kernel_rfl) rfl rfl (TO_store 4 rfl rfl rfl sz58 rfl rfl rfl (by simp [Value.cells, Value.oneCell']) (by first | exact Nat.le_of_ble_eq_true rfl | (simp; done) | (simp; omega) | omega) ?_)) | (refine TA_one 13 (by kernel_rfl) rfl rfl (TO_store 5 rfl rfl rfl sz58 rfl rfl rfl (by simp [Value.cells, Value.oneCell']) (by first | exact Nat.le_of_ble_eq_true rfl | (simp; done) | (simp; omega) | omega) ?_)) | (refine TA_one 13 (by kernel_rfl) rfl rfl (TO_store 6 rfl rfl rfl sz58 rfl rfl rfl (by simp [Value.cells, Value.oneCell']) (by first | exact Nat.le_of_ble_eq_true rfl | (simp; done) | (simp; omega) | omega) ?_)) | (refine TA_one 13 (by kernel_rfl) rfl rfl (TO_store 7 rfl rfl rfl sz58 rfl rfl rfl (by simp [Value.cells, Value.oneCell']) (by first | exact Nat.le_of_ble_eq_true rfl | (simp; done) | (simp; omega) | omega) ?_)) | (refine TA_one 13 (by kernel_rfl) rfl rfl (TO_store 8 rfl rfl rfl sz58 rfl rfl rfl (by simp [Value.cells, Value.oneCell']) (by first | exact Nat.le_of_ble_eq_true rfl | (simp; done) | (simp; omega) | omega) ?_))
    refine ⟨by intro w h; first | exact h | exact h.tl | exact h.tl.tl, ?_⟩
    refine TA_take (dd := (some 7)) 14 rfl (by kernel_rfl) (by kernel_rfl) (by kernel_rfl) rfl rfl rfl (PV_assign rfl) ?_
    refine TA_done (by kernel_rfl) ?_
    refine T_seq ?_
    refine T_seq ?_
    refine T_region ?_
    refine TL_pure (d := (some 97)) rfl rfl rfl (PV_move rfl) ?_
    refine TL_nil ?_
    refine T_block ?_
    refine T_seq ?_
    refine T_region ?_
    refine TL_pure (d := (some 99)) rfl rfl rfl (PV_bin rfl rfl bin_eql) ?_
    refine TL_pure (d := (some 98)) rfl rfl rfl (PV_assign rfl) ?_
    refine TL_nil ?_
    -- IF t98
    refine T_else rfl (by rfl) ?_
    refine T_seq ?_
    refine T_region ?_
    refine TL_pure (d := (some 101)) rfl rfl rfl (PV_bin rfl rfl bin_eql) ?_
    refine TL_pure (d := (some 100)) rfl rfl rfl (PV_assign rfl) ?_
    refine TL_nil ?_
    -- IF t100
    refine T_else rfl (by rfl) ?_
    refine T_skip ?_
    refine T_seq ?_
    refine T_region ?_
    refine TL_pure (d := (some 106)) rfl rfl rfl (PV_move rfl) ?_
    refine TL_pure (d := (some 107)) rfl rfl rfl (PV_nilCheck rfl) ?_
    refine TL_pure (d := (some 108)) rfl rfl rfl (PV_fieldAddr (D := 7) Try.underlying140 rfl sz23 (by decide) rfl rfl) ?_
    first | (refine TL_cons rfl (TO_store1 0 rfl rfl rfl sz23 rfl rfl rfl (by first | exact Nat.le_of_ble_eq_true rfl | (simp; done) | (simp; omega) | omega) ?_)) | (refine TL_cons rfl (TO_store1 1 rfl rfl rfl sz23 rfl rfl rfl (by first | exact Nat.le_of_ble_eq_true rfl | (simp; done) | (simp; omega) | omega) ?_)) | (refine TL_cons rfl (TO_store1 2 rfl rfl rfl sz23 rfl rfl rfl (by first | exact Nat.le_of_ble_eq_true rfl | (simp; done) | (simp; omega) | omega) ?_)) | (refine TL_cons rfl (TO_store1 3 rfl rfl rfl sz23 rfl rfl rfl (by first | exact Nat.le_of_ble_eq_true rfl | (simp; done) | (simp; omega) | omega) ?_)) | (refine TL_cons rfl (TO_store1 4 rfl rfl rfl sz23 rfl rfl rfl (by first | exact Nat.le_of_ble_eq_true rfl | (simp; done) | (simp; omega) | omega) ?_)) | (refine TL_cons rfl (TO_store1 5 rfl rfl rfl sz23 rfl rfl rfl (by first | exact Nat.le_of_ble_eq_true rfl | (simp; done) | (simp; omega) | omega) ?_)) | (refine TL_cons rfl (TO_store1 6 rfl rfl rfl sz23 rfl rfl rfl (by first | exact Nat.le_of_ble_eq_true rfl | (simp; done) | (simp; omega) | omega) ?_)) | (refine TL_cons rfl (TO_store1 7 rfl rfl rfl sz23 rfl rfl rfl (by first | exact Nat.le_of_ble_eq_true rfl | (simp; done) | (simp; omega) | omega) ?_)) | (refine TL_cons rfl (TO_store1 8 rfl rfl rfl sz23 rfl rfl rfl (by first | exact Nat.le_of_ble_eq_true rfl | (simp; done) | (simp; omega) | omega) ?_))
    refine TL_nil ?_
    refine T_seq ?_
    refine T_region ?_
    -- op 109 move t0
    refine TL_cons rfl (TO_pure rfl (PV_move rfl) ?_)
    refine TL_pure (d := (some 110)) rfl rfl rfl (PV_loadAt Try.underlying58 rfl sz58 rfl (by first | exact Rds.take 0 rfl rfl rfl | exact Rds.take 1 rfl rfl rfl | exact Rds.take 2 rfl rfl rfl | exact Rds.take 3 rfl rfl rfl | exact Rds.take 4 rfl rfl rfl | exact Rds.take 5 rfl rfl rfl | exact Rds.take 6 rfl rfl rfl | exact Rds.take 7 rfl rfl rfl | exact Rds.take 8 rfl rfl rfl)) ?_
    -- op 111 call F99(t109, t110)
    refine TL_drop (H' := [_, _, _, _] ++ X) (List.Sublist.cons _ (List.Sublist.cons_cons _ (List.Sublist.cons_cons _ (List.Sublist.cons_cons _ (List.Sublist.cons _ (List.Sublist.refl _)))))) ?_
    refine TL_perm ((perm_pick (i := 2) rfl).trans (((List.Perm.swap _ _ _).cons _).trans (((List.Perm.swap _ _ _).cons _).cons _))) ?_
    refine TL_cons rfl (TO_call0 call99 rfl rfl (t99next (Rcv.with ⟨crc, wait, tries, left, number, begun, close, bA, bc, buf, dA, dc, dat, blocks, want, false, err⟩) (X := .sl (.slice A94 (scanD L crc).length k94) 1 (scanD L crc).length (nums .u8 (scanD L crc)) :: X) (Shows.at 0 rfl) rfl (by show dat.length + (scanD L crc).length ≤ 140737488355328; omega) hbk hnum) ?_)
    rintro v111 H111 ⟨A6, k6, A7, k7, rfl, hk6, hk7, rfl⟩
    refine TL_pure (d := (some 4)) rfl rfl rfl (PV_assign rfl) ?_
    refine TL_nil ?_
    refine T_ret ?_
    -- ('ret',)
    refine ⟨_, _, ?_, ResV_one rfl rfl, ⟨A6, k6, A7, k7, rfl, hk6, hk7, rfl⟩⟩
    repeat (first | exact List.Sublist.refl _ | apply List.Sublist.cons_cons | apply List.Sublist.cons)
  · skip
    refine ⟨_, rfl, rfl, (TO_alloc rfl zr58 fun g6 => ?_)⟩
    refine ⟨by intro w h; first | exact h | exact h.tl | exact h.tl.tl, ?_⟩
    -- dop 8 94 call F52(t89, t93)
    refine TA_one 8 (by kernel_rfl) rfl rfl (TO_call0 call52 rfl rfl (t52yes crc hs (Shows.at 3 rfl) rfl (by omega) hc30 hu) ?_)
    rintro v94 H94 ⟨A94, k94, rfl, hk94, rfl⟩
    refine ⟨by intro w h; first | exact h | exact h.tl | exact h.tl.tl, ?_⟩
    refine TA_take (dd := (some 85)) 9 rfl (by kernel_rfl) (by kernel_rfl) (by kernel_rfl) rfl rfl rfl (PV_move rfl) ?_
    refine TA_take (dd := (some 95)) 10 rfl (by kernel_rfl) (by kernel_rfl) (by kernel_rfl) rfl rfl rfl (PV_extract rfl rfl) ?_
    refine TA_take (dd := (some 96)) 11 rfl (by kernel_rfl) (by kernel_rfl) (by kernel_rfl) rfl rfl rfl (PV_extract rfl rfl) ?_
    first | (refine TA_one 13 (by kernel_rfl) rfl rfl (TO_store 0 rfl rfl rfl sz58 rfl rfl rfl (by simp [Value.cells, Value.oneCell']) (by first | exact Nat.le_of_ble_eq_true rfl | (simp; done) | (simp; omega) | omega) ?_)) | (refine TA_one 13 (by kernel_rfl) rfl rfl (TO_store 1 rfl rfl rfl sz58 rfl rfl rfl (by simp [Value.cells, Value.oneCell']) (by first | exact Nat.le_of_ble_eq_true rfl | (simp; done) | (simp; omega) | omega) ?_)) | (refine TA_one 13 (by kernel_rfl) rfl rfl (TO_store 2 rfl rfl rfl sz58 rfl rfl rfl (by simp [Value.cells, Value.oneCell']) (by first | exact Nat.le_of_ble_eq_true rfl | (simp; done) | (simp; omega) | omega) ?_)) | (refine TA_one 13 (by kernel_rfl) rfl rfl (TO_store 3 rfl rfl rfl sz58 rfl rfl rfl (by simp [Value.cells, Value.oneCell']) (by first | exact Nat.le_of_ble_eq_true rfl | (simp; done) | (simp; omega) | omega) ?_)) | (refine TA_one 13 (by kernel_rfl) rfl rfl (TO_store 4 rfl rfl rfl sz58 rfl rfl rfl (by simp [Value.cells, Value.oneCell']) (by first | exact Nat.le_of_ble_eq_true rfl | (simp; done) | (simp; omega) | omega) ?_)) | (refine TA_one 13 (by kernel_rfl) rfl rfl (TO_store 5 rfl rfl rfl sz58 rfl rfl rfl (by simp [Value.cells, Value.oneCell']) (by first | exact Nat.le_of_ble_eq_true rfl | (simp; done) | (simp; omega) | omega) ?_)) | (refine TA_one 13 (by kernel_rfl) rfl rfl (TO_store 6 rfl rfl rfl sz58 rfl rfl rfl (by simp [Value.cells, Value.oneCell']) (by first | exact Nat.le_of_ble_eq_true rfl | (simp; done) | (simp; omega) | omega) ?_)) | (refine TA_one 13 (by kernel_rfl) rfl rfl (TO_store 7 rfl rfl rfl sz58 rfl rfl rfl (by simp [Value.cells, Value.oneCell']) (by first | exact Nat.le_of_ble_eq_true rfl | (simp; done) | (simp; omega) | omega) ?_)) | (refine TA_one 13 (by kernel_rfl) rfl rfl (TO_store 8 rfl rfl rfl sz58 rfl rfl rfl (by simp [Value.cells, Value.oneCell']) (by first | exact Nat.le_of_ble_eq_true rfl | (simp; done) | (simp; omega) | omega) ?_))
    refine ⟨by intro w h; first | exact h | exact h.tl | exact h.tl.tl, ?_⟩
    refine TA_take (dd := (some 7)) 14 rfl (by kernel_rfl) (by kernel_rfl) (by kernel_rfl) rfl rfl rfl (PV_assign rfl) ?_
    refine TA_done (by kernel_rfl) ?_
    refine T_seq ?_
    refine T_seq ?_
    refine T_region ?_
    refine TL_pure (d := (some 97)) rfl rfl rfl (PV_move rfl) ?_
    refine TL_nil ?_
    refine T_block ?_
    refine T_seq ?_
    refine T_region ?_
    refine TL_pure (d := (some 99)) rfl rfl rfl (PV_bin rfl rfl bin_eql) ?_
    refine TL_pure (d := (some 98)) rfl rfl rfl (PV_assign rfl) ?_
    refine TL_nil ?_
    -- IF t98
    refine T_else rfl (by rfl) ?_
    refine T_seq ?_
    refine T_region ?_
    refine TL_pure (d := (some 101)) rfl rfl rfl (PV_bin rfl rfl bin_eql) ?_
    refine TL_pure (d := (some 100)) rfl rfl rfl (PV_assign rfl) ?_
    refine TL_nil ?_
    -- IF t100
    refine T_else rfl (by rfl) ?_
    refine T_skip ?_
    refine T_seq ?_
    refine T_region ?_
    refine TL_pure (d := (some 106)) rfl rfl rfl (PV_move rfl) ?_
    refine TL_pure (d := (some 107)) rfl rfl rfl (PV_nilCheck rfl) ?_
    refine TL_pure (d := (some 108)) rfl rfl rfl (PV_fieldAddr (D := 7) Try.underlying140 rfl sz23 (by decide) rfl rfl) ?_
    first | (refine TL_cons rfl (TO_store1 0 rfl rfl rfl sz23 rfl rfl rfl (by first | exact Nat.le_of_ble_eq_true rfl | (simp; done) | (simp; omega) | omega) ?_)) | (refine TL_cons rfl (TO_store1 1 rfl rfl rfl sz23 rfl rfl rfl (by first | exact Nat.le_of_ble_eq_true rfl | (simp; done) | (simp; omega) | omega) ?_)) | (refine TL_cons rfl (TO_store1 2 rfl rfl rfl sz23 rfl rfl rfl (by first | exact Nat.le_of_ble_eq_true rfl | (simp; done) | (simp; omega) | omega) ?_)) | (refine TL_cons rfl (TO_store1 3 rfl rfl rfl sz23 rfl rfl rfl (by first | exact Nat.le_of_ble_eq_true rfl | (simp; done) | (simp; omega) | omega) ?_)) | (refine TL_cons rfl (TO_store1 4 rfl rfl rfl sz23 rfl rfl rfl (by first | exact Nat.le_of_ble_eq_true rfl | (simp; done) | (simp; omega) | omega) ?_)) | (refine TL_cons rfl (TO_store1 5 rfl rfl rfl sz23 rfl rfl rfl (by first | exact Nat.le_of_ble_eq_true rfl | (simp; done) | (simp; omega) | omega) ?_)) | (refine TL_cons rfl (TO_store1 6 rfl rfl rfl sz23 rfl rfl rfl (by first | exact Nat.le_of_ble_eq_true rfl | (simp; done) | (simp; omega) | omega) ?_)) | (refine TL_cons rfl (TO_store1 7 rfl rfl rfl sz23 rfl rfl rfl (by first | exact Nat.le_of_ble_eq_true rfl | (simp; done) | (simp; omega) | omega) ?_)) | (refine TL_cons rfl (TO_store1 8 rfl rfl rfl sz23 rfl rfl rfl (by first | exact Nat.le_of_ble_eq_true rfl | (simp; done) | (simp; omega) | omega) ?_))
    refine TL_nil ?_
    refine T_seq ?_
    refine T_region ?_
    -- op 109 move t0
    refine TL_cons rfl (TO_pure rfl (PV_move rfl) ?_)
    refine TL_pure (d := (some 110)) rfl rfl rfl (PV_loadAt Try.underlying58 rfl sz58 rfl (by first | exact Rds.take 0 rfl rfl rfl | exact Rds.take 1 rfl rfl rfl | exact Rds.take 2 rfl rfl rfl | exact Rds.take 3 rfl rfl rfl | exact Rds.take 4 rfl rfl rfl | exact Rds.take 5 rfl rfl rfl | exact Rds.take 6 rfl rfl rfl | exact Rds.take 7 rfl rfl rfl | exact Rds.take 8 rfl rfl rfl)) ?_
    -- op 111 call F99(t109, t110)
    refine TL_drop (H' := [_, _, _, _] ++ X) (List.Sublist.cons_cons _ (List.Sublist.cons _ (List.Sublist.cons_cons _ (List.Sublist.cons_cons _ (List.Sublist.cons _ (List.Sublist.refl _)))))) ?_
    refine TL_perm ((perm_pick (i := 2) rfl).trans (((List.Perm.swap _ _ _).cons _).trans (((List.Perm.swap _ _ _).cons _).cons _))) ?_
    refine TL_cons rfl (TO_call0 call99 rfl rfl (t99next (Rcv.with ⟨crc, wait, tries, left, number, begun, close, bA, bc, buf, dA, dc, dat, blocks, want, false, err⟩) (X := .sl (.slice A94 (scanD L crc).length k94) 1 (scanD L crc).length (nums .u8 (scanD L crc)) :: X) (Shows.at 0 rfl) rfl (by show dat.length + (scanD L crc).length ≤ 140737488355328; omega) hbk hnum) ?_)
    rintro v111 H111 ⟨A6, k6, A7, k7, rfl, hk6, hk7, rfl⟩
    refine TL_pure (d := (some 4)) rfl rfl rfl (PV_assign rfl) ?_
    refine TL_nil ?_
    refine T_ret ?_
    -- ('ret',)
    refine ⟨_, _, ?_, ResV_one rfl rfl, ⟨A6, k6, A7, k7, rfl, hk6, hk7, rfl⟩⟩
    repeat (first | exact List.Sublist.refl _ | apply List.Sublist.cons_cons | apply List.Sublist.cons)
set_option maxRecDepth 100000 in
theorem t75eot {g : Nat} (r : Rcv) {Ab : Option Addr} {cb : Nat} (hx : Shows (WH w0 B X) Ab 1 1 (nums .u8 [4])) (hbuf : r.buf = []) (ho : r.over = false) (hcl : r.close = true) :
    TCall Try.prog w0 B 75 #[.pointer (some ⟨g, 0, none⟩), .slice Ab 1 cb] (fun v H' => ∃ (A6 : Option Addr) (k6 : Nat) (A : Option Addr) (k : Nat), v = .slice A6 1 k6 ∧ 1 ≤ k6 ∧ H' = .sl (.slice A6 1 k6) 1 1 (nums .u8 [6]) :: rcvC g { r with left := r.wait, bA := A, bc := k, buf := [4], over := true, err := .nilIface } :: bufC { r with left := r.wait, bA := A, bc := k, buf := [4], over := true, err := .nilIface } :: datC { r with left := r.wait, bA := A, bc := k, buf := [4], over := true, err := .nilIface } :: X) (rcvC g r :: bufC r :: datC r :: X) := by
  obtain ⟨crc, wait, tries, left, number, begun, close, bA, bc, buf, dA, dc, dat, blocks, want, over, err⟩ := r
  dsimp only at hbuf ho hcl
  subst ho
  subst hbuf
  subst hcl
  refine TCall_intro (args := [_, _]) Try.func75 rfl Try.ntmps75 (Nat.le_of_ble_eq_true rfl) ?_
  refine T_seq ?_
  refine T_region ?_
  refine TL_pure (d := (some 4)) rfl rfl rfl (PV_assign rfl) ?_
  refine TL_nil ?_
  refine T_seq ?_
  refine T_seq ?_
  refine T_region ?_
  refine TL_pure (d := (some 8)) rfl rfl rfl (PV_move rfl) ?_
  refine TL_pure (d := (some 9)) rfl rfl rfl (PV_nilCheck rfl) ?_
  refine TL_pure (d := (some 10)) rfl rfl rfl (PV_fieldAddr (D := 11) Try.underlying140 rfl sz4 (by decide) rfl rfl) ?_
  refine TL_pure (d := (some 11)) rfl rfl rfl (PV_load Try.underlying4 rfl rfl (by first | exact Rd.at 0 rfl rfl | exact Rd.at 1 rfl rfl | exact Rd.at 2 rfl rfl | exact Rd.at 3 rfl rfl | exact Rd.at 4 rfl rfl | exact Rd.at 5 rfl rfl | exact Rd.at 6 rfl rfl | exact Rd.at 7 rfl rfl | exact Rd.at 8 rfl rfl)) ?_
  refine TL_pure (d := (some 12)) rfl rfl rfl (PV_move rfl) ?_
  -- guard 13 move t1
  refine TL_yes rfl rfl rfl (TO_pure rfl (PV_move rfl) ?_)
  refine TL_yes rfl rfl rfl (TO_pure rfl (PV_len_slice Try.underlying23 rfl) ?_)
  refine TL_yes rfl rfl rfl (TO_pure rfl (PV_bin rfl rfl bin_eql) ?_)
  first | (refine TL_pure (d := (some 16)) rfl rfl rfl (PV_pickOr rfl rfl rfl) ?_) | (refine TL_pure (d := (some 16)) rfl rfl rfl (PV_pickT rfl (by first | assumption | rfl | (simp; done) | (simp; omega)) rfl rfl) ?_)
  refine TL_nil ?_
  -- IF t16
  refine T_else rfl (by rfl) ?_
  refine T_skip ?_
  refine T_seq ?_
  refine T_region ?_
  refine TL_pure (d := (some 17)) rfl rfl rfl (PV_move rfl) ?_
  refine TL_pure (d := (some 18)) rfl rfl rfl (PV_move rfl) ?_
  refine TL_pure (d := (some 19)) rfl rfl rfl (PV_nilCheck rfl) ?_
  refine TL_pure (d := (some 20)) rfl rfl rfl (PV_fieldAddr (D := 1) Try.underlying140 rfl sz3 (by decide) rfl rfl) ?_
  refine TL_pure (d := (some 21)) rfl rfl rfl (PV_load Try.underlying3 rfl rfl (by first | exact Rd.at 0 rfl rfl | exact Rd.at 1 rfl rfl | exact Rd.at 2 rfl rfl | exact Rd.at 3 rfl rfl | exact Rd.at 4 rfl rfl | exact Rd.at 5 rfl rfl | exact Rd.at 6 rfl rfl | exact Rd.at 7 rfl rfl | exact Rd.at 8 rfl rfl)) ?_
  refine TL_pure (d := (some 22)) rfl rfl rfl (PV_nilCheck rfl) ?_
  refine TL_pure (d := (some 23)) rfl rfl rfl (PV_fieldAddr (D := 3) Try.underlying140 rfl sz3 (by decide) rfl rfl) ?_
  first | (refine TL_cons rfl (TO_store1 0 rfl rfl rfl sz3 rfl rfl rfl (by first | exact Nat.le_of_ble_eq_true rfl | (simp; done) | (simp; omega) | omega) ?_)) | (refine TL_cons rfl (TO_store1 1 rfl rfl rfl sz3 rfl rfl rfl (by first | exact Nat.le_of_ble_eq_true rfl | (simp; done) | (simp; omega) | omega) ?_)) | (refine TL_cons rfl (TO_store1 2 rfl rfl rfl sz3 rfl rfl rfl (by first | exact Nat.le_of_ble_eq_true rfl | (simp; done) | (simp; omega) | omega) ?_)) | (refine TL_cons rfl (TO_store1 3 rfl rfl rfl sz3 rfl rfl rfl (by first | exact Nat.le_of_ble_eq_true rfl | (simp; done) | (simp; omega) | omega) ?_)) | (refine TL_cons rfl (TO_store1 4 rfl rfl rfl sz3 rfl rfl rfl (by first | exact Nat.le_of_ble_eq_true rfl | (simp; done) | (simp; omega) | omega) ?_)) | (refine TL_cons rfl (TO_store1 5 rfl rfl rfl sz3 rfl rfl rfl (by first | exact Nat.le_of_ble_eq_true rfl | (simp; done) | (simp; omega) | omega) ?_)) | (refine TL_cons rfl (TO_store1 6 rfl rfl rfl sz3 rfl rfl rfl (by first | exact Nat.le_of_ble_eq_true rfl | (simp; done) | (simp; omega) | omega) ?_)) | (refine TL_cons rfl (TO_store1 7 rfl rfl rfl sz3 rfl rfl rfl (by first | exact Nat.le_of_ble_eq_true rfl | (simp; done) | (simp; omega) | omega) ?_)) | (refine TL_cons rfl (TO_store1 8 rfl rfl rfl sz3 rfl rfl rfl (by first | exact Nat.le_of_ble_eq_true rfl | (simp; done) | (simp; omega) | omega) ?_))
  refine TL_nil ?_
  refine T_seq ?_
  refine T_region ?_
  refine TL_pure (d := (some 24)) rfl rfl rfl (PV_move rfl) ?_
  refine TL_pure (d := (some 25)) rfl rfl rfl (PV_move rfl) ?_
  refine TL_pure (d := (some 26)) rfl rfl rfl (PV_nilCheck rfl) ?_
  refine TL_pure (d := (some 27)) rfl rfl rfl (PV_fieldAddr (D := 7) Try.underlying140 rfl sz23 (by decide) rfl rfl) ?_
  refine TL_pure (d := (some 28)) rfl rfl rfl (PV_load Try.underlying23 rfl rfl (by first | exact Rd.at 0 rfl rfl | exact Rd.at 1 rfl rfl | exact Rd.at 2 rfl rfl | exact Rd.at 3 rfl rfl | exact Rd.at 4 rfl rfl | exact Rd.at 5 rfl rfl | exact Rd.at 6 rfl rfl | exact Rd.at 7 rfl rfl | exact Rd.at 8 rfl rfl)) ?_
  refine TL_pure (d := (some 29)) rfl rfl rfl (PV_move rfl) ?_
  -- op 30 append(t28, t29) [23, 23]
  refine TL_cons rfl (TO_append 1 rfl Try.underlying23 zb5 rfl (by decide) rfl rfl rfl (hx.mono fun w h => h.tl.tl.tl) nums_one (by show (0 + 1) * 1 ≤ 140737488355328; decide) (by show 0 + 1 ≤ 9223372036854775807; decide) fun A30 c30 hc30 => ?_)
  refine TL_pure (d := (some 31)) rfl rfl rfl (PV_nilCheck rfl) ?_
  refine TL_pure (d := (some 32)) rfl rfl rfl (PV_fieldAddr (D := 7) Try.underlying140 rfl sz23 (by decide) rfl rfl) ?_
  first | (refine TL_cons rfl (TO_store1 0 rfl rfl rfl sz23 rfl rfl rfl (by first | exact Nat.le_of_ble_eq_true rfl | (simp; done) | (simp; omega) | omega) ?_)) | (refine TL_cons rfl (TO_store1 1 rfl rfl rfl sz23 rfl rfl rfl (by first | exact Nat.le_of_ble_eq_true rfl | (simp; done) | (simp; omega) | omega) ?_)) | (refine TL_cons rfl (TO_store1 2 rfl rfl rfl sz23 rfl rfl rfl (by first | exact Nat.le_of_ble_eq_true rfl | (simp; done) | (simp; omega) | omega) ?_)) | (refine TL_cons rfl (TO_store1 3 rfl rfl rfl sz23 rfl rfl rfl (by first | exact Nat.le_of_ble_eq_true rfl | (simp; done) | (simp; omega) | omega) ?_)) | (refine TL_cons rfl (TO_store1 4 rfl rfl rfl sz23 rfl rfl rfl (by first | exact Nat.le_of_ble_eq_true rfl | (simp; done) | (simp; omega) | omega) ?_)) | (refine TL_cons rfl (TO_store1 5 rfl rfl rfl sz23 rfl rfl rfl (by first | exact Nat.le_of_ble_eq_true rfl | (simp; done) | (simp; omega) | omega) ?_)) | (refine TL_cons rfl (TO_store1 6 rfl rfl rfl sz23 rfl rfl rfl (by first | exact Nat.le_of_ble_eq_true rfl | (simp; done) | (simp; omega) | omega) ?_)) | (refine TL_cons rfl (TO_store1 7 rfl rfl rfl sz23 rfl rfl rfl (by first | exact Nat.le_of_ble_eq_true rfl | (simp; done) | (simp; omega) | omega) ?_)) | (refine TL_cons rfl (TO_store1 8 rfl rfl rfl sz23 rfl rfl rfl (by first | exact Nat.le_of_ble_eq_true rfl | (simp; done) | (simp; omega) | omega) ?_))
  refine TL_nil ?_
  refine T_seq ?_
  refine T_seq ?_
  refine T_region ?_
  -- op 33 move t0
  refine TL_slA 1 rfl (by show 0 < 0 + 1; decide) fun gb hgb => ?_
  subst hgb
  refine TL_cons rfl (TO_pure rfl (PV_move rfl) ?_)
  refine TL_pure (d := (some 34)) rfl rfl rfl (PV_nilCheck rfl) ?_
  refine TL_pure (d := (some 35)) rfl rfl rfl (PV_fieldAddr (D := 7) Try.underlying140 rfl sz23 (by decide) rfl rfl) ?_
  refine TL_pure (d := (some 36)) rfl rfl rfl (PV_load Try.underlying23 rfl rfl (by first | exact Rd.at 0 rfl rfl | exact Rd.at 1 rfl rfl | exact Rd.at 2 rfl rfl | exact Rd.at 3 rfl rfl | exact Rd.at 4 rfl rfl | exact Rd.at 5 rfl rfl | exact Rd.at 6 rfl rfl | exact Rd.at 7 rfl rfl | exact Rd.at 8 rfl rfl)) ?_
  refine TL_pure (d := (some 37)) rfl rfl rfl (PV_indexAddr (i := 0) Try.underlying23 sz5 rfl rfl rfl (by first | omega | decide | assumption)) ?_
  refine TL_pure (d := (some 38)) rfl rfl rfl (PV_load Try.underlying5 rfl rfl (Rd.at 1 rfl (v := .int .u8 4) rfl)) ?_
  refine TL_pure (d := (some 5)) rfl rfl rfl (PV_assign rfl) ?_
  refine TL_nil ?_
  refine T_block ?_
  refine T_seq ?_
  refine T_region ?_
  refine TL_pure (d := (some 40)) rfl rfl rfl (PV_move rfl) ?_
  refine TL_pure (d := (some 41)) rfl rfl rfl (PV.cast (PV_bin rfl rfl bin_eql) (congrArg Value.bool (show _ = true by rfl))) ?_
  refine TL_pure (d := (some 42)) rfl rfl rfl (PV_move rfl) ?_
  -- guard 43 move t0
  refine TL_yes rfl rfl rfl (TO_pure rfl (PV_move rfl) ?_)
  refine TL_yes rfl rfl rfl (TO_pure rfl (PV_nilCheck rfl) ?_)
  refine TL_yes rfl rfl rfl (TO_pure rfl (PV_fieldAddr (D := 6) Try.underlying140 rfl sz4 (by decide) rfl rfl) ?_)
  refine TL_yes rfl rfl rfl (TO_pure rfl (PV_load Try.underlying4 rfl rfl (by first | exact Rd.at 0 rfl rfl | exact Rd.at 1 rfl rfl | exact Rd.at 2 rfl rfl | exact Rd.at 3 rfl rfl | exact Rd.at 4 rfl rfl | exact Rd.at 5 rfl rfl | exact Rd.at 6 rfl rfl | exact Rd.at 7 rfl rfl | exact Rd.at 8 rfl rfl)) ?_)
  first | (refine TL_pure (d := (some 47)) rfl rfl rfl (PV_pickAnd rfl rfl rfl) ?_) | (refine TL_pure (d := (some 47)) rfl rfl rfl (PV_pickF rfl (by first | assumption | rfl | (simp; done) | (simp; omega)) rfl rfl) ?_)
  refine TL_pure (d := (some 39)) rfl rfl rfl (PV_assign rfl) ?_
  refine TL_nil ?_
  -- IF t39
  refine T_then rfl (by rfl) ?_
  refine T_seq ?_
  refine T_region ?_
  refine TL_pure (d := (some 48)) rfl rfl rfl (PV_move rfl) ?_
  -- op 49 buildSlice 23 1 [(0 cu8:6)]
  refine TL_cons rfl (TO_buildSlice (cells := #[.int .u8 6]) Try.underlying23 zs5 (by decide) rfl rfl rfl (by kernel_rfl) rfl fun g49 => ?_)
  refine TL_perm (List.Perm.swap _ _ _) ?_
  refine TL_cons rfl (TO_call0 call96 rfl rfl (t96nil (⟨crc, wait, tries, wait, number, begun, true, some ⟨gb, 0, none⟩, c30, [4], dA, dc, dat, blocks, want, false, err⟩ : Rcv) (some ⟨g49, 0, none⟩) 1 1) ?_)
  rintro v50 H50 ⟨rfl, rfl⟩
  refine TL_perm (List.Perm.swap _ _ _) ?_
  refine TL_pure (d := (some 4)) rfl rfl rfl (PV_assign rfl) ?_
  refine TL_nil ?_
  refine T_ret ?_
  -- ('ret',)
  refine ⟨_, _, ?_, ResV_one rfl rfl, ⟨_, 1, some ⟨gb, 0, none⟩, c30, rfl, Nat.le_refl _, rfl⟩⟩
  repeat (first | exact List.Sublist.refl _ | apply List.Sublist.cons_cons | apply List.Sublist.cons)

theorem Rcv.mk_nil : True := trivial
set_option maxRecDepth 100000 in
theorem t72first {g : Nat} (crc : Bool) (wait tries number : Int) (close : Bool) (want : Int) (ht : 1 ≤ tries ∧ tries ≤ 9) : TCall Try.prog w0 B 72 #[.pointer (some ⟨g, 0, none⟩)] (fun v H' => ∃ (A6 : Option Addr) (k6 : Nat), v = .slice A6 1 k6 ∧ 1 ≤ k6 ∧ H' = .sl (.slice A6 1 k6) 1 1 (nums .u8 [if crc = true ∧ false = false then 67 else 21]) :: rcvC g ⟨crc, wait, tries - 1, wait, number, false, close, none, 0, [], none, 0, [], 0, want, false, .nilIface⟩ :: X) (rcvC g ⟨crc, wait, tries, 1, number, false, close, none, 0, [], none, 0, [], 0, want, false, .nilIface⟩ :: X) := by
  refine TCall_intro (args := [_]) Try.func72 rfl Try.ntmps72 (Nat.le_of_ble_eq_true rfl) ?_
  refine T_seq ?_
  refine T_region ?_
  refine TL_pure (d := (some 2)) rfl rfl rfl (PV_assign rfl) ?_
  refine TL_nil ?_
  refine T_seq ?_
  refine T_seq ?_
  refine T_region ?_
  refine TL_pure (d := (some 3)) rfl rfl rfl (PV_move rfl) ?_
  refine TL_pure (d := (some 4)) rfl rfl rfl (PV_nilCheck rfl) ?_
  refine TL_pure (d := (some 5)) rfl rfl rfl (PV_fieldAddr (D := 11) Try.underlying140 rfl sz4 (by decide) rfl rfl) ?_
  refine TL_pure (d := (some 6)) rfl rfl rfl (PV_load Try.underlying4 rfl rfl (by first | exact Rd.at 0 rfl rfl | exact Rd.at 1 rfl rfl | exact Rd.at 2 rfl rfl | exact Rd.at 3 rfl rfl | exact Rd.at 4 rfl rfl | exact Rd.at 5 rfl rfl | exact Rd.at 6 rfl rfl | exact Rd.at 7 rfl rfl | exact Rd.at 8 rfl rfl)) ?_
  refine TL_nil ?_
  -- IF t6
  refine T_else rfl (by rfl) ?_
  refine T_skip ?_
  refine T_seq ?_
  refine T_region ?_
  refine TL_pure (d := (some 7)) rfl rfl rfl (PV_move rfl) ?_
  refine TL_pure (d := (some 8)) rfl rfl rfl (PV_nilCheck rfl) ?_
  refine TL_pure (d := (some 9)) rfl rfl rfl (PV_fieldAddr (D := 3) Try.underlying140 rfl sz3 (by decide) rfl rfl) ?_
  refine TL_pure (d := (some 10)) rfl rfl rfl (PV_load Try.underlying3 rfl rfl (by first | exact Rd.at 0 rfl rfl | exact Rd.at 1 rfl rfl | exact Rd.at 2 rfl rfl | exact Rd.at 3 rfl rfl | exact Rd.at 4 rfl rfl | exact Rd.at 5 rfl rfl | exact Rd.at 6 rfl rfl | exact Rd.at 7 rfl rfl | exact Rd.at 8 rfl rfl)) ?_
  refine TL_pure (d := (some 11)) rfl rfl rfl (PV.cast (PV_bin rfl rfl bin_sub) (wr64 (show -9223372036854775808 ≤ (1 : Int) - 1 ∧ (1 : Int) - 1 ≤ 9223372036854775807 by decide))) ?_
  refine TL_pure (d := (some 12)) rfl rfl rfl (PV_nilCheck rfl) ?_
  refine TL_pure (d := (some 13)) rfl rfl rfl (PV_fieldAddr (D := 3) Try.underlying140 rfl sz3 (by decide) rfl rfl) ?_
  first | (refine TL_cons rfl (TO_store1 0 rfl rfl rfl sz3 rfl rfl rfl (by first | exact Nat.le_of_ble_eq_true rfl | (simp; done) | (simp; omega) | omega) ?_)) | (refine TL_cons rfl (TO_store1 1 rfl rfl rfl sz3 rfl rfl rfl (by first | exact Nat.le_of_ble_eq_true rfl | (simp; done) | (simp; omega) | omega) ?_)) | (refine TL_cons rfl (TO_store1 2 rfl rfl rfl sz3 rfl rfl rfl (by first | exact Nat.le_of_ble_eq_true rfl | (simp; done) | (simp; omega) | omega) ?_)) | (refine TL_cons rfl (TO_store1 3 rfl rfl rfl sz3 rfl rfl rfl (by first | exact Nat.le_of_ble_eq_true rfl | (simp; done) | (simp; omega) | omega) ?_)) | (refine TL_cons rfl (TO_store1 4 rfl rfl rfl sz3 rfl rfl rfl (by first | exact Nat.le_of_ble_eq_true rfl | (simp; done) | (simp; omega) | omega) ?_)) | (refine TL_cons rfl (TO_store1 5 rfl rfl rfl sz3 rfl rfl rfl (by first | exact Nat.le_of_ble_eq_true rfl | (simp; done) | (simp; omega) | omega) ?_)) | (refine TL_cons rfl (TO_store1 6 rfl rfl rfl sz3 rfl rfl rfl (by first | exact Nat.le_of_ble_eq_true rfl | (simp; done) | (simp; omega) | omega) ?_)) | (refine TL_cons rfl (TO_store1 7 rfl rfl rfl sz3 rfl rfl rfl (by first | exact Nat.le_of_ble_eq_true rfl | (simp; done) | (simp; omega) | omega) ?_)) | (refine TL_cons rfl (TO_store1 8 rfl rfl rfl sz3 rfl rfl rfl (by first | exact Nat.le_of_ble_eq_true rfl | (simp; done) | (simp; omega) | omega) ?_))
  refine TL_nil ?_
  refine T_seq ?_
  refine T_seq ?_
  refine T_region ?_
  refine TL_pure (d := (some 14)) rfl rfl rfl (PV_move rfl) ?_
  refine TL_pure (d := (some 15)) rfl rfl rfl (PV_nilCheck rfl) ?_
  refine TL_pure (d := (some 16)) rfl rfl rfl (PV_fieldAddr (D := 3) Try.underlying140 rfl sz3 (by decide) rfl rfl) ?_
  refine TL_pure (d := (some 17)) rfl rfl rfl (PV_load Try.underlying3 rfl rfl (by first | exact Rd.at 0 rfl rfl | exact Rd.at 1 rfl rfl | exact Rd.at 2 rfl rfl | exact Rd.at 3 rfl rfl | exact Rd.at 4 rfl rfl | exact Rd.at 5 rfl rfl | exact Rd.at 6 rfl rfl | exact Rd.at 7 rfl rfl | exact Rd.at 8 rfl rfl)) ?_
  refine TL_pure (d := (some 18)) rfl rfl rfl (PV_bin rfl rfl bin_gtr) ?_
  refine TL_nil ?_
  -- IF t18
  refine T_else rfl (by rfl) ?_
  refine T_skip ?_
  refine T_seq ?_
  refine T_region ?_
  refine TL_pure (d := (some 19)) rfl rfl rfl (PV_move rfl) ?_
  refine TL_pure (d := (some 20)) rfl rfl rfl (PV_move rfl) ?_
  refine TL_pure (d := (some 21)) rfl rfl rfl (PV_nilCheck rfl) ?_
  refine TL_pure (d := (some 22)) rfl rfl rfl (PV_fieldAddr (D := 1) Try.underlying140 rfl sz3 (by decide) rfl rfl) ?_
  refine TL_pure (d := (some 23)) rfl rfl rfl (PV_load Try.underlying3 rfl rfl (by first | exact Rd.at 0 rfl rfl | exact Rd.at 1 rfl rfl | exact Rd.at 2 rfl rfl | exact Rd.at 3 rfl rfl | exact Rd.at 4 rfl rfl | exact Rd.at 5 rfl rfl | exact Rd.at 6 rfl rfl | exact Rd.at 7 rfl rfl | exact Rd.at 8 rfl rfl)) ?_
  refine TL_pure (d := (some 24)) rfl rfl rfl (PV_nilCheck rfl) ?_
  refine TL_pure (d := (some 25)) rfl rfl rfl (PV_fieldAddr (D := 3) Try.underlying140 rfl sz3 (by decide) rfl rfl) ?_
  first | (refine TL_cons rfl (TO_store1 0 rfl rfl rfl sz3 rfl rfl rfl (by first | exact Nat.le_of_ble_eq_true rfl | (simp; done) | (simp; omega) | omega) ?_)) | (refine TL_cons rfl (TO_store1 1 rfl rfl rfl sz3 rfl rfl rfl (by first | exact Nat.le_of_ble_eq_true rfl | (simp; done) | (simp; omega) | omega) ?_)) | (refine TL_cons rfl (TO_store1 2 rfl rfl rfl sz3 rfl rfl rfl (by first | exact Nat.le_of_ble_eq_true rfl | (simp; done) | (simp; omega) | omega) ?_)) | (refine TL_cons rfl (TO_store1 3 rfl rfl rfl sz3 rfl rfl rfl (by first | exact Nat.le_of_ble_eq_true rfl | (simp; done) | (simp; omega) | omega) ?_)) | (refine TL_cons rfl (TO_store1 4 rfl rfl rfl sz3 rfl rfl rfl (by first | exact Nat.le_of_ble_eq_true rfl | (simp; done) | (simp; omega) | omega) ?_)) | (refine TL_cons rfl (TO_store1 5 rfl rfl rfl sz3 rfl rfl rfl (by first | exact Nat.le_of_ble_eq_true rfl | (simp; done) | (simp; omega) | omega) ?_)) | (refine TL_cons rfl (TO_store1 6 rfl rfl rfl sz3 rfl rfl rfl (by first | exact Nat.le_of_ble_eq_true rfl | (simp; done) | (simp; omega) | omega) ?_)) | (refine TL_cons rfl (TO_store1 7 rfl rfl rfl sz3 rfl rfl rfl (by first | exact Nat.le_of_ble_eq_true rfl | (simp; done) | (simp; omega) | omega) ?_)) | (refine TL_cons rfl (TO_store1 8 rfl rfl rfl sz3 rfl rfl rfl (by first | exact Nat.le_of_ble_eq_true rfl | (simp; done) | (simp; omega) | omega) ?_))
  refine TL_nil ?_
  refine T_seq ?_
  refine T_region ?_
  refine TL_pure (d := (some 26)) rfl rfl rfl (PV_move rfl) ?_
  refine TL_pure (d := (some 27)) rfl rfl rfl (PV_nilCheck rfl) ?_
  refine TL_pure (d := (some 28)) rfl rfl rfl (PV_fieldAddr (D := 7) Try.underlying140 rfl sz23 (by decide) rfl rfl) ?_
  first | (refine TL_cons rfl (TO_store1 0 rfl rfl rfl sz23 rfl rfl rfl (by first | exact Nat.le_of_ble_eq_true rfl | (simp; done) | (simp; omega) | omega) ?_)) | (refine TL_cons rfl (TO_store1 1 rfl rfl rfl sz23 rfl rfl rfl (by first | exact Nat.le_of_ble_eq_true rfl | (simp; done) | (simp; omega) | omega) ?_)) | (refine TL_cons rfl (TO_store1 2 rfl rfl rfl sz23 rfl rfl rfl (by first | exact Nat.le_of_ble_eq_true rfl | (simp; done) | (simp; omega) | omega) ?_)) | (refine TL_cons rfl (TO_store1 3 rfl rfl rfl sz23 rfl rfl rfl (by first | exact Nat.le_of_ble_eq_true rfl | (simp; done) | (simp; omega) | omega) ?_)) | (refine TL_cons rfl (TO_store1 4 rfl rfl rfl sz23 rfl rfl rfl (by first | exact Nat.le_of_ble_eq_true rfl | (simp; done) | (simp; omega) | omega) ?_)) | (refine TL_cons rfl (TO_store1 5 rfl rfl rfl sz23 rfl rfl rfl (by first | exact Nat.le_of_ble_eq_true rfl | (simp; done) | (simp; omega) | omega) ?_)) | (refine TL_cons rfl (TO_store1 6 rfl rfl rfl sz23 rfl rfl rfl (by first | exact Nat.le_of_ble_eq_true rfl | (simp; done) | (simp; omega) | omega) ?_)) | (refine TL_cons rfl (TO_store1 7 rfl rfl rfl sz23 rfl rfl rfl (by first | exact Nat.le_of_ble_eq_true rfl | (simp; done) | (simp; omega) | omega) ?_)) | (refine TL_cons rfl (TO_store1 8 rfl rfl rfl sz23 rfl rfl rfl (by first | exact Nat.le_of_ble_eq_true rfl | (simp; done) | (simp; omega) | omega) ?_))
  refine TL_nil ?_
  refine T_seq ?_
  refine T_seq ?_
  refine T_region ?_
  refine TL_pure (d := (some 29)) rfl rfl rfl (PV_move rfl) ?_
  refine TL_pure (d := (some 30)) rfl rfl rfl (PV_nilCheck rfl) ?_
  refine TL_pure (d := (some 31)) rfl rfl rfl (PV_fieldAddr (D := 5) Try.underlying140 rfl sz4 (by decide) rfl rfl) ?_
  refine TL_pure (d := (some 32)) rfl rfl rfl (PV_load Try.underlying4 rfl rfl (by first | exact Rd.at 0 rfl rfl | exact Rd.at 1 rfl rfl | exact Rd.at 2 rfl rfl | exact Rd.at 3 rfl rfl | exact Rd.at 4 rfl rfl | exact Rd.at 5 rfl rfl | exact Rd.at 6 rfl rfl | exact Rd.at 7 rfl rfl | exact Rd.at 8 rfl rfl)) ?_
  refine TL_pure (d := (some 33)) rfl rfl rfl (PV_not rfl) ?_
  refine TL_pure (d := (some 34)) rfl rfl rfl (PV_move rfl) ?_
  -- guard 35 move t0
  refine TL_yes rfl rfl rfl (TO_pure rfl (PV_move rfl) ?_)
  refine TL_yes rfl rfl rfl (TO_pure rfl (PV_nilCheck rfl) ?_)
  refine TL_yes rfl rfl rfl (TO_pure rfl (PV_fieldAddr (D := 2) Try.underlying140 rfl sz3 (by decide) rfl rfl) ?_)
  refine TL_yes rfl rfl rfl (TO_pure rfl (PV_load Try.underlying3 rfl rfl (by first | exact Rd.at 0 rfl rfl | exact Rd.at 1 rfl rfl | exact Rd.at 2 rfl rfl | exact Rd.at 3 rfl rfl | exact Rd.at 4 rfl rfl | exact Rd.at 5 rfl rfl | exact Rd.at 6 rfl rfl | exact Rd.at 7 rfl rfl | exact Rd.at 8 rfl rfl)) ?_)
  refine TL_yes rfl rfl rfl (TO_pure rfl (PV.cast (PV_bin rfl rfl bin_eql) (congrArg Value.bool (show _ = false by exact beq_false_of_ne (by show tries ≠ 0; omega)))) ?_)
  first | (refine TL_pure (d := (some 40)) rfl rfl rfl (PV_pickAnd rfl rfl rfl) ?_) | (refine TL_pure (d := (some 40)) rfl rfl rfl (PV_pickF rfl (by first | assumption | rfl | (simp; done) | (simp; omega)) rfl rfl) ?_)
  refine TL_nil ?_
  -- IF t40
  refine T_else rfl (by rfl) ?_
  refine T_skip ?_
  refine T_seq ?_
  refine T_seq ?_
  refine T_region ?_
  refine TL_pure (d := (some 45)) rfl rfl rfl (PV_move rfl) ?_
  refine TL_pure (d := (some 46)) rfl rfl rfl (PV_nilCheck rfl) ?_
  refine TL_pure (d := (some 47)) rfl rfl rfl (PV_fieldAddr (D := 5) Try.underlying140 rfl sz4 (by decide) rfl rfl) ?_
  refine TL_pure (d := (some 48)) rfl rfl rfl (PV_load Try.underlying4 rfl rfl (by first | exact Rd.at 0 rfl rfl | exact Rd.at 1 rfl rfl | exact Rd.at 2 rfl rfl | exact Rd.at 3 rfl rfl | exact Rd.at 4 rfl rfl | exact Rd.at 5 rfl rfl | exact Rd.at 6 rfl rfl | exact Rd.at 7 rfl rfl | exact Rd.at 8 rfl rfl)) ?_
  refine TL_pure (d := (some 49)) rfl rfl rfl (PV_not rfl) ?_
  refine TL_nil ?_
  -- IF t49
  refine T_then rfl (by rfl) ?_
  refine T_region ?_
  refine TL_pure (d := (some 50)) rfl rfl rfl (PV_move rfl) ?_
  refine TL_pure (d := (some 51)) rfl rfl rfl (PV_nilCheck rfl) ?_
  refine TL_pure (d := (some 52)) rfl rfl rfl (PV_fieldAddr (D := 2) Try.underlying140 rfl sz3 (by decide) rfl rfl) ?_
  refine TL_pure (d := (some 53)) rfl rfl rfl (PV_load Try.underlying3 rfl rfl (by first | exact Rd.at 0 rfl rfl | exact Rd.at 1 rfl rfl | exact Rd.at 2 rfl rfl | exact Rd.at 3 rfl rfl | exact Rd.at 4 rfl rfl | exact Rd.at 5 rfl rfl | exact Rd.at 6 rfl rfl | exact Rd.at 7 rfl rfl | exact Rd.at 8 rfl rfl)) ?_
  refine TL_pure (d := (some 54)) rfl rfl rfl (PV.cast (PV_bin rfl rfl bin_sub) (wr64 (show -9223372036854775808 ≤ tries - 1 ∧ tries - 1 ≤ 9223372036854775807 by omega))) ?_
  refine TL_pure (d := (some 55)) rfl rfl rfl (PV_nilCheck rfl) ?_
  refine TL_pure (d := (some 56)) rfl rfl rfl (PV_fieldAddr (D := 2) Try.underlying140 rfl sz3 (by decide) rfl rfl) ?_
  first | (refine TL_cons rfl (TO_store1 0 rfl rfl rfl sz3 rfl rfl rfl (by first | exact Nat.le_of_ble_eq_true rfl | (simp; done) | (simp; omega) | omega) ?_)) | (refine TL_cons rfl (TO_store1 1 rfl rfl rfl sz3 rfl rfl rfl (by first | exact Nat.le_of_ble_eq_true rfl | (simp; done) | (simp; omega) | omega) ?_)) | (refine TL_cons rfl (TO_store1 2 rfl rfl rfl sz3 rfl rfl rfl (by first | exact Nat.le_of_ble_eq_true rfl | (simp; done) | (simp; omega) | omega) ?_)) | (refine TL_cons rfl (TO_store1 3 rfl rfl rfl sz3 rfl rfl rfl (by first | exact Nat.le_of_ble_eq_true rfl | (simp; done) | (simp; omega) | omega) ?_)) | (refine TL_cons rfl (TO_store1 4 rfl rfl rfl sz3 rfl rfl rfl (by first | exact Nat.le_of_ble_eq_true rfl | (simp; done) | (simp; omega) | omega) ?_)) | (refine TL_cons rfl (TO_store1 5 rfl rfl rfl sz3 rfl rfl rfl (by first | exact Nat.le_of_ble_eq_true rfl | (simp; done) | (simp; omega) | omega) ?_)) | (refine TL_cons rfl (TO_store1 6 rfl rfl rfl sz3 rfl rfl rfl (by first | exact Nat.le_of_ble_eq_true rfl | (simp; done) | (simp; omega) | omega) ?_)) | (refine TL_cons rfl (TO_store1 7 rfl rfl rfl sz3 rfl rfl rfl (by first | exact Nat.le_of_ble_eq_true rfl | (simp; done) | (simp; omega) | omega) ?_)) | (refine TL_cons rfl (TO_store1 8 rfl rfl rfl sz3 rfl rfl rfl (by first | exact Nat.le_of_ble_eq_true rfl | (simp; done) | (simp; omega) | omega) ?_))
  refine TL_nil ?_
  refine T_seq ?_
  refine T_region ?_
  refine TL_pure (d := (some 57)) rfl rfl rfl (PV_move rfl) ?_
  -- op 58 call F97(t57)
  refine TL_cons rfl (TO_call0 call97 rfl rfl (t97 ⟨crc, wait, tries - 1, wait, number, false, close, none, 0, [], none, 0, [], 0, want, false, .nilIface⟩) ?_)
  rintro v58 H58 ⟨rfl, rfl⟩
  -- op 59 buildSlice 23 1 [(0 t58)]
  refine TL_cons rfl (TO_buildSlice (cells := #[.int .u8 (if crc = true ∧ false = false then 67 else 21)]) Try.underlying23 zs5 (by decide) rfl rfl rfl (by kernel_rfl) rfl fun g59 => ?_)
  refine TL_pure (d := (some 2)) rfl rfl rfl (PV_assign rfl) ?_
  refine TL_nil ?_
  refine T_ret ?_
  -- ('ret',)
  refine ⟨_, _, ?_, ResV_one rfl rfl, ⟨_, 1, rfl, Nat.le_refl _, rfl⟩⟩
  repeat (first | exact List.Sublist.refl _ | apply List.Sublist.cons_cons | apply List.Sublist.cons)
set_option maxRecDepth 100000 in
theorem t68 : TCall Try.prog w0 B 68 #[] (fun r H' => r = .bool true ∧ H' = X) X := by
  refine TCall_intro (args := []) Try.func68 rfl Try.ntmps68 (Nat.le_of_ble_eq_true rfl) ?_
  refine T_addNil 1 ?_
  refine T_addNil 1 ?_
  refine T_seq ?_
  refine T_region ?_
  refine TL_pure (d := (some 0)) rfl rfl rfl (PV_assign rfl) ?_
  refine TL_nil ?_
  refine T_seq ?_
  refine T_region ?_
  refine TL_pure (d := (some 6)) rfl rfl rfl (PV_build (ps := _) (cells := #[_, _]) Try.underlying79 pl79 zr79 rfl rfl) ?_
  -- op 7 call F69(t6, cu8:1, ctrue, ctrue, ci64:1)
  refine TL_cons rfl (TO_call0 call69 rfl rfl (t69 2 3 1 true true 1) ?_)
  rintro v7 H7 ⟨g, rfl, rfl⟩
  refine TL_pure (d := (some 1)) rfl rfl rfl (PV_assign rfl) ?_
  refine TL_nil ?_
  refine T_seq ?_
  refine T_seq ?_
  refine T_region ?_
  refine TL_pure (d := (some 8)) rfl rfl rfl (PV_move rfl) ?_
  first | (refine TL_pure (d := (some 9)) rfl rfl rfl (PV_bin rfl rfl (bin_ptr_nil Try.underlying95)) ?_) | (refine TL_pure (d := (some 9)) rfl rfl rfl (PV_bin rfl rfl (bin_nilptr_nil Try.underlying95)) ?_)
  refine TL_nil ?_
  -- IF t9
  refine T_else rfl (by rfl) ?_
  refine T_skip ?_
  refine T_seq ?_
  refine T_region ?_
  -- op 10 move t1
  refine TL_cons rfl (TO_pure rfl (PV_move rfl) ?_)
  refine TL_cons rfl (TO_call0 call72 rfl rfl (t72first true 3 2 1 true 1 (by decide)) ?_)
  rintro v11 H11 ⟨A11, k11, rfl, hk11, rfl⟩
  refine TL_pure (d := (some 2)) rfl rfl rfl (PV_assign rfl) ?_
  refine TL_nil ?_
  refine T_seq ?_
  refine T_region ?_
  refine TL_pure (d := (some 12)) rfl rfl rfl (PV_move rfl) ?_
  -- op 13 buildSlice 23 1 [(0 cu8:4)]
  refine TL_cons rfl (TO_buildSlice (cells := #[.int .u8 4]) Try.underlying23 zs5 (by decide) rfl rfl rfl (by kernel_rfl) rfl fun g13 => ?_)
  refine TL_perm (List.Perm.append_right X (List.perm_append_comm (l₁ := [_, _]) (l₂ := [_, _, _]))) ?_
  refine TL_cons rfl (TO_call0 call75 rfl rfl (t75eot ⟨true, 3, 2 - 1, 3, 1, false, true, none, 0, [], none, 0, [], 0, 1, false, .nilIface⟩ (X := [_, _] ++ X) (Shows.at 0 rfl) rfl rfl rfl) ?_)
  rintro v14 H14 ⟨A14, k14, Ax, kx, rfl, hk14, rfl⟩
  refine TL_pure (d := (some 3)) rfl rfl rfl (PV_assign rfl) ?_
  refine TL_nil ?_
  refine T_seq ?_
  refine T_region ?_
  refine TL_pure (d := (some 16)) rfl rfl rfl (PV_move rfl) ?_
  -- op 17 call F78(t16)
  refine TL_perm (List.Perm.swap _ _ _) ?_
  refine TL_cons rfl (TO_call0 call78 rfl rfl (t78 ⟨true, 3, 2 - 1, 3, 1, false, true, Ax, kx, [4], none, 0, [], 0, 1, true, .nilIface⟩) ?_)
  rintro v17 H17 ⟨rfl, rfl⟩
  refine TL_pure (d := (some 15)) rfl rfl rfl (PV_move rfl) ?_
  refine TL_pure (d := (some 18)) rfl rfl rfl (PV_extract rfl rfl) ?_
  refine TL_pure (d := (some 19)) rfl rfl rfl (PV_extract rfl rfl) ?_
  refine TL_pure (d := (some 4)) rfl rfl rfl (PV_assign rfl) ?_
  refine TL_pure (d := (some 5)) rfl rfl rfl (PV_assign rfl) ?_
  refine TL_nil ?_
  refine T_seq ?_
  refine T_region ?_
  refine TL_pure (d := (some 20)) rfl rfl rfl (PV_move rfl) ?_
  refine TL_pure (d := (some 21)) rfl rfl rfl (PV_b2s Try.underlying23 Try.underlying5 Try.underlying9 rfl (by first | assumption | exact Shows.at 0 rfl | exact Shows.at 1 rfl | exact Shows.at 2 rfl | exact Shows.at 3 rfl | exact Shows.at 4 rfl | exact Shows.at 5 rfl | exact Shows.at 6 rfl | exact Shows.at 7 rfl | exact Shows.at 8 rfl)) ?_
  refine TL_pure (d := (some 22)) rfl rfl rfl (PV.cast (PV_bin rfl rfl bin_str_eql) (congrArg Value.bool (show _ = true by exact decide_eq_true rfl))) ?_
  refine TL_pure (d := (some 23)) rfl rfl rfl (PV_move rfl) ?_
  -- guard 24 move t3
  refine TL_yes rfl rfl rfl (TO_pure rfl (PV_move rfl) ?_)
  refine TL_yes rfl rfl rfl (TO_pure rfl (PV_b2s Try.underlying23 Try.underlying5 Try.underlying9 rfl (by first | assumption | exact Shows.at 0 rfl | exact Shows.at 1 rfl | exact Shows.at 2 rfl | exact Shows.at 3 rfl | exact Shows.at 4 rfl | exact Shows.at 5 rfl | exact Shows.at 6 rfl | exact Shows.at 7 rfl | exact Shows.at 8 rfl)) ?_)
  refine TL_yes rfl rfl rfl (TO_pure rfl (PV.cast (PV_bin rfl rfl bin_str_eql) (congrArg Value.bool (show _ = true by exact decide_eq_true rfl))) ?_)
  first | (refine TL_pure (d := (some 27)) rfl rfl rfl (PV_pickAnd rfl rfl rfl) ?_) | (refine TL_pure (d := (some 27)) rfl rfl rfl (PV_pickF rfl (by first | assumption | rfl | (simp; done) | (simp; omega)) rfl rfl) ?_)
  refine TL_pure (d := (some 28)) rfl rfl rfl (PV_move rfl) ?_
  refine TL_yes rfl rfl rfl (TO_pure rfl (PV_move rfl) ?_)
  first | (refine TL_pure (d := (some 30)) rfl rfl rfl (PV_pickAnd rfl rfl rfl) ?_) | (refine TL_pure (d := (some 30)) rfl rfl rfl (PV_pickF rfl (by first | assumption | rfl | (simp; done) | (simp; omega)) rfl rfl) ?_)
  refine TL_pure (d := (some 31)) rfl rfl rfl (PV_move rfl) ?_
  refine TL_yes rfl rfl rfl (TO_pure rfl (PV_move rfl) ?_)
  first | (refine TL_yes rfl rfl rfl (TO_pure rfl (PV_bin rfl rfl (bin_nil_nil Try.underlying83)) ?_)) | (refine TL_yes rfl rfl rfl (TO_pure rfl (PV_bin rfl rfl (bin_if_nil Try.underlying83)) ?_)) | (refine TL_yes rfl rfl rfl (TO_pure rfl (PV_bin rfl rfl (bin_nil_if Try.underlying83)) ?_)) | (refine TL_yes rfl rfl rfl (TO_pure rfl (PV_bin rfl rfl (bin_if_if Try.underlying83 (by first | exact Try.underlying135 | exact Try.underlying83) (by kernel_rfl))) ?_))
  first | (refine TL_pure (d := (some 34)) rfl rfl rfl (PV_pickAnd rfl rfl rfl) ?_) | (refine TL_pure (d := (some 34)) rfl rfl rfl (PV_pickF rfl (by first | assumption | rfl | (simp; done) | (simp; omega)) rfl rfl) ?_)
  refine TL_pure (d := (some 0)) rfl rfl rfl (PV_assign rfl) ?_
  refine TL_nil ?_
  refine T_ret ?_
  -- ('ret',)
  refine ⟨_, _, ?_, ResV_one rfl rfl, ⟨rfl, rfl⟩⟩
  repeat (first | exact List.Sublist.refl _ | apply List.Sublist.cons_cons | apply List.Sublist.cons)

end
end Go.Proofs.Ythdkmgeigdoglaa.SL
