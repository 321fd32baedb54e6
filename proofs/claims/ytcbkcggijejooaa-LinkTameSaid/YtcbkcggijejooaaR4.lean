import Derived.Test.YtcbkcggijejooaaR3
/- The receiver: Put, Tick. No statement is proved here. -/
set_option linter.unusedVariables false
set_option linter.unusedSimpArgs false
set_option maxRecDepth 100000
namespace Go.Proofs.Ytcbkcggijejooaa.SL
open Go Go.RowKit
section
variable {w0 : World} {B : Nat} {H X : List Chunk}
theorem put_need {g bc dc : Nat} {bA dA : Option Addr} (r : Rc) {Ab : Option Addr} {m cb : Nat} {bs : List Int} (hx : Shows (WH w0 B X) Ab m 1 (nums .u8 bs)) (hm : bs.length = m) (hu : U8s (r.buf ++ bs)) (hlb : r.buf.length + m ≤ 1000000000) (hdl : r.dat.length ≤ 1000000000) (hk1 : 0 ≤ r.blocks) (hk2 : r.blocks ≤ 1000000) (hn1 : 0 ≤ r.number) (hn2 : r.number ≤ 255) (ho : r.over = false) (hb0 : 0 < bs.length) (h4 : ¬ (rd (r.buf ++ bs) 0 = 4 ∧ r.close = true)) (h5 : ¬ (rd (r.buf ++ bs) 0 = 24 ∧ (r.buf ++ bs).length > 1 ∧ rd (r.buf ++ bs) 1 = 24)) (h6 : ¬ (rd (r.buf ++ bs) 0 = 24 ∧ (r.buf ++ bs).length = 1)) (h7 : scanS (r.buf ++ bs) r.crc = 0) :
    TCall Try.prog w0 B 33 #[.pointer (some ⟨g, 0, none⟩), .slice Ab m cb] (fun v H' => RGives g ([]) (r.got bs) X v H') (rcC g bA bc dA dc r :: byC bA bc r.buf :: byC dA dc r.dat :: X) := by
  have hlen : (r.buf ++ bs).length = r.buf.length + bs.length := List.length_append
  have hsd := scanD_le (r.buf ++ bs) r.crc
  refine TCall_intro (args := [_, _]) Try.func33 rfl Try.ntmps33 (Nat.le_of_ble_eq_true rfl) ?_
  refine T_addNil 1 ?_
  refine T_seq ?_
  refine T_region ?_
  refine TL_pure (d := (some 4)) rfl rfl rfl (PV_assign rfl) ?_
  refine TL_nil ?_
  refine T_seq ?_
  refine T_seq ?_
  refine T_region ?_
  refine TL_pure (d := (some 8)) rfl rfl rfl (PV_move rfl) ?_
  refine TL_pure (d := (some 9)) rfl rfl rfl (PV_nilCheck rfl) ?_
  refine TL_pure (d := (some 10)) rfl rfl rfl (PV_fieldAddr (D := 11) Try.underlying72 rfl sz4 (by decide) rfl rfl) ?_
  refine TL_pure (d := (some 11)) rfl rfl rfl (PV_load Try.underlying4 rfl rfl (Rd.at 1 rfl rfl)) ?_
  refine TL_pure (d := (some 12)) rfl rfl rfl (PV_move rfl) ?_
  refine TL_yes rfl rfl (gfalse (by with_reducible assumption)) (TO_pure rfl (PV_move rfl) ?_)
  refine TL_yes rfl rfl (gfalse (by with_reducible assumption)) (TO_pure rfl (PV_len_slice Try.underlying26 rfl) ?_)
  refine TL_yes rfl rfl (gfalse (by with_reducible assumption)) (TO_pure rfl (PV_bin rfl rfl bin_eql) ?_)
  refine TL_pure (d := (some 16)) rfl rfl rfl (PV_pickOr rfl rfl rfl) ?_
  refine TL_nil ?_
  refine T_else rfl (by (simp [*]; omega)) ?_
  refine T_skip ?_
  refine T_seq ?_
  refine T_region ?_
  refine TL_pure (d := (some 17)) rfl rfl rfl (PV_move rfl) ?_
  refine TL_pure (d := (some 18)) rfl rfl rfl (PV_move rfl) ?_
  refine TL_pure (d := (some 19)) rfl rfl rfl (PV_nilCheck rfl) ?_
  refine TL_pure (d := (some 20)) rfl rfl rfl (PV_fieldAddr (D := 1) Try.underlying72 rfl sz3 (by decide) rfl rfl) ?_
  refine TL_pure (d := (some 21)) rfl rfl rfl (PV_load Try.underlying3 rfl rfl (Rd.at 1 rfl rfl)) ?_
  refine TL_pure (d := (some 22)) rfl rfl rfl (PV_nilCheck rfl) ?_
  refine TL_pure (d := (some 23)) rfl rfl rfl (PV_fieldAddr (D := 3) Try.underlying72 rfl sz3 (by decide) rfl rfl) ?_
  refine TL_cons rfl (TO_store1 1 rfl rfl rfl sz3 rfl rfl rfl (by first | exact Nat.le_of_ble_eq_true rfl | (simp; done) | (simp; omega) | omega) ?_)
  refine TL_nil ?_
  refine T_seq ?_
  refine T_region ?_
  refine TL_pure (d := (some 24)) rfl rfl rfl (PV_move rfl) ?_
  refine TL_pure (d := (some 25)) rfl rfl rfl (PV_move rfl) ?_
  refine TL_pure (d := (some 26)) rfl rfl rfl (PV_nilCheck rfl) ?_
  refine TL_pure (d := (some 27)) rfl rfl rfl (PV_fieldAddr (D := 7) Try.underlying72 rfl sz26 (by decide) rfl rfl) ?_
  refine TL_pure (d := (some 28)) rfl rfl rfl (PV_load Try.underlying26 rfl rfl (Rd.at 1 rfl rfl)) ?_
  refine TL_pure (d := (some 29)) rfl rfl rfl (PV_move rfl) ?_
  refine TL_cons rfl (TO_appendB 2 rfl Try.underlying26 zb5 rfl rfl rfl rfl (Shows.mono hx (fun w h => h.sub (by (repeat (first | exact List.Sublist.refl _ | exact List.sublist_append_right _ _ | exact List.sublist_append_left _ _ | apply List.Sublist.cons | refine List.Sublist.trans ?_ (List.sublist_append_left _ _))); done))) ?bb2q15 ?bc2q15 fun A2 c2 hc2 => ?_)
  case bb2q15 => omega
  case bc2q15 => omega
  refine TL_pure (d := (some 31)) rfl rfl rfl (PV_nilCheck rfl) ?_
  refine TL_pure (d := (some 32)) rfl rfl rfl (PV_fieldAddr (D := 7) Try.underlying72 rfl sz26 (by decide) rfl rfl) ?_
  refine TL_cons rfl (TO_store1 1 rfl rfl rfl sz26 rfl rfl rfl (by first | exact Nat.le_of_ble_eq_true rfl | (simp; done) | (simp; omega) | omega) ?_)
  refine TL_nil ?_
  refine T_seq ?_
  refine T_seq ?_
  refine T_region ?_
  refine TL_pure (d := (some 33)) rfl rfl rfl (PV_move rfl) ?_
  refine TL_pure (d := (some 34)) rfl rfl rfl (PV_nilCheck rfl) ?_
  refine TL_pure (d := (some 35)) rfl rfl rfl (PV_fieldAddr (D := 7) Try.underlying72 rfl sz26 (by decide) rfl rfl) ?_
  refine TL_pure (d := (some 36)) rfl rfl rfl (PV_load Try.underlying26 rfl rfl (Rd.at 1 rfl rfl)) ?_
  refine TL_slA 2 rfl (by omega) fun g5 e5 => ?_
  subst e5
  refine TL_pure (d := (some 37)) rfl rfl rfl (PV_indexAddr (i := 0) Try.underlying26 sz5 rfl rfl rfl (by first | omega | decide | assumption)) ?_
  refine TL_pure (d := (some 38)) rfl rfl rfl (PV_load Try.underlying5 rfl rfl (Rd.at 2 rfl (nums_at0 rfl (by omega)))) ?_
  refine TL_pure (d := (some 5)) rfl rfl rfl (PV_assign rfl) ?_
  refine TL_nil ?_
  refine T_block ?_
  refine T_seq ?_
  refine T_region ?_
  refine TL_pure (d := (some 40)) rfl rfl rfl (PV_move rfl) ?_
  refine TL_pure (d := (some 41)) rfl rfl rfl (PV_bin rfl rfl bin_eql) ?_
  refine TL_pure (d := (some 42)) rfl rfl rfl (PV_move rfl) ?_
  refine TL_split (d := 42) rfl (fun c6 => ?w6q15y) (fun c6 => ?w6q15n)
  try simp only [decide_eq_true_eq, decide_eq_false_iff_not, beq_iff_eq, beq_eq_false_iff_ne, bne_iff_ne, bne_eq_false_iff_eq, ne_eq, Bool.not_eq_true', Bool.not_eq_false', Bool.not_not, Bool.not_true, Bool.not_false, Bool.and_eq_true, Bool.or_eq_true, Bool.and_eq_false_iff, Bool.or_eq_false_iff, Int.not_lt, Int.not_le, gt_iff_lt, ge_iff_le] at c6
  refine TL_yes rfl rfl (gtrue (by exact decide_eq_true (by omega))) (TO_pure rfl (PV_move rfl) ?_)
  refine TL_yes rfl rfl (gtrue (by exact decide_eq_true (by omega))) (TO_pure rfl (PV_nilCheck rfl) ?_)
  refine TL_yes rfl rfl (gtrue (by exact decide_eq_true (by omega))) (TO_pure rfl (PV_fieldAddr (D := 6) Try.underlying72 rfl sz4 (by decide) rfl rfl) ?_)
  refine TL_yes rfl rfl (gtrue (by exact decide_eq_true (by omega))) (TO_pure rfl (PV_load Try.underlying4 rfl rfl (Rd.at 1 rfl rfl)) ?_)
  refine TL_pure (d := (some 47)) rfl rfl rfl (PV_pickAnd rfl rfl rfl) ?_
  refine TL_pure (d := (some 39)) rfl rfl rfl (PV_assign rfl) ?_
  refine TL_nil ?_
  refine T_else rfl (by (simp_all; done)) ?_
  refine T_seq ?_
  refine T_region ?_
  refine TL_pure (d := (some 52)) rfl rfl rfl (PV_move rfl) ?_
  refine TL_pure (d := (some 53)) rfl rfl rfl (PV_bin rfl rfl bin_eql) ?_
  refine TL_pure (d := (some 54)) rfl rfl rfl (PV_move rfl) ?_
  refine TL_no (b := false) rfl rfl (gfalse (by exact decide_eq_false (by omega))) rfl ?_
  refine TL_no (b := false) rfl rfl (gfalse (by exact decide_eq_false (by omega))) rfl ?_
  refine TL_no (b := false) rfl rfl (gfalse (by exact decide_eq_false (by omega))) rfl ?_
  refine TL_no (b := false) rfl rfl (gfalse (by exact decide_eq_false (by omega))) rfl ?_
  refine TL_no (b := false) rfl rfl (gfalse (by exact decide_eq_false (by omega))) rfl ?_
  refine TL_no (b := false) rfl rfl (gfalse (by exact decide_eq_false (by omega))) rfl ?_
  refine TL_pure (d := (some 61)) rfl rfl rfl (PV_pickF rfl (by first | assumption | rfl | (simp; done) | (simp; omega) | (simp [*]; done) | (simp [*]; omega)) rfl rfl) ?_
  refine TL_pure (d := (some 62)) rfl rfl rfl (PV_move rfl) ?_
  refine TL_no (b := false) rfl rfl rfl rfl ?_
  refine TL_no (b := false) rfl rfl rfl rfl ?_
  refine TL_no (b := false) rfl rfl rfl rfl ?_
  refine TL_no (b := false) rfl rfl rfl rfl ?_
  refine TL_no (b := false) rfl rfl rfl rfl ?_
  refine TL_no (b := false) rfl rfl rfl rfl ?_
  refine TL_no (b := false) rfl rfl rfl rfl ?_
  refine TL_pure (d := (some 70)) rfl rfl rfl (PV_pickF rfl (by first | assumption | rfl | (simp; done) | (simp; omega) | (simp [*]; done) | (simp [*]; omega)) rfl rfl) ?_
  refine TL_pure (d := (some 51)) rfl rfl rfl (PV_assign rfl) ?_
  refine TL_nil ?_
  refine T_else rfl (by rfl) ?_
  refine T_seq ?_
  refine T_region ?_
  refine TL_pure (d := (some 75)) rfl rfl rfl (PV_move rfl) ?_
  refine TL_pure (d := (some 76)) rfl rfl rfl (PV_bin rfl rfl bin_eql) ?_
  refine TL_pure (d := (some 77)) rfl rfl rfl (PV_move rfl) ?_
  refine TL_no (b := false) rfl rfl (gfalse (by exact decide_eq_false (by omega))) rfl ?_
  refine TL_no (b := false) rfl rfl (gfalse (by exact decide_eq_false (by omega))) rfl ?_
  refine TL_no (b := false) rfl rfl (gfalse (by exact decide_eq_false (by omega))) rfl ?_
  refine TL_no (b := false) rfl rfl (gfalse (by exact decide_eq_false (by omega))) rfl ?_
  refine TL_no (b := false) rfl rfl (gfalse (by exact decide_eq_false (by omega))) rfl ?_
  refine TL_no (b := false) rfl rfl (gfalse (by exact decide_eq_false (by omega))) rfl ?_
  refine TL_pure (d := (some 84)) rfl rfl rfl (PV_pickF rfl (by first | assumption | rfl | (simp; done) | (simp; omega) | (simp [*]; done) | (simp [*]; omega)) rfl rfl) ?_
  refine TL_pure (d := (some 74)) rfl rfl rfl (PV_assign rfl) ?_
  refine TL_nil ?_
  refine T_else rfl (by rfl) ?_
  refine T_skip ?_
  refine T_seq ?_
  refine T_drawn (WH _ _ _) mixed (fun w h => h) ?_
  refine TA_take (dd := (some 86)) 0 rfl (by kernel_rfl) (by kernel_rfl) (by kernel_rfl) rfl rfl rfl (PV_move rfl) ?_
  refine TA_take (dd := (some 87)) 1 rfl (by kernel_rfl) (by kernel_rfl) (by kernel_rfl) rfl rfl rfl (PV_nilCheck rfl) ?_
  refine TA_take (dd := (some 88)) 2 rfl (by kernel_rfl) (by kernel_rfl) (by kernel_rfl) rfl rfl rfl (PV_fieldAddr (D := 7) Try.underlying72 rfl sz26 (by decide) rfl rfl) ?_
  refine TA_take (dd := (some 89)) 3 rfl (by kernel_rfl) (by kernel_rfl) (by kernel_rfl) rfl rfl rfl (PV_load Try.underlying26 rfl rfl (Rd.at 1 rfl rfl)) ?_
  refine TA_take (dd := (some 90)) 4 rfl (by kernel_rfl) (by kernel_rfl) (by kernel_rfl) rfl rfl rfl (PV_move rfl) ?_
  refine TA_take (dd := (some 91)) 5 rfl (by kernel_rfl) (by kernel_rfl) (by kernel_rfl) rfl rfl rfl (PV_nilCheck rfl) ?_
  refine TA_take (dd := (some 92)) 6 rfl (by kernel_rfl) (by kernel_rfl) (by kernel_rfl) rfl rfl rfl (PV_fieldAddr (D := 0) Try.underlying72 rfl sz4 (by decide) rfl rfl) ?_
  refine TA_take (dd := (some 93)) 7 rfl (by kernel_rfl) (by kernel_rfl) (by kernel_rfl) rfl rfl rfl (PV_load Try.underlying4 rfl rfl (Rd.at 1 rfl rfl)) ?_
  refine TA_hardG (rs := [8, 12]) (by kernel_rfl) (by decide) ?_
  refine List.forall_mem_cons.2 ⟨?w7q15_8, List.forall_mem_cons.2 ⟨?w7q15_12, by simp⟩⟩
  refine ⟨_, rfl, Or.inl rfl, (TO_call0 call15 rfl rfl (t52no _ ?sd10q15_1 ?sd10q15_2 ?sd10q15_3 ?sd10q15_4 hu ?sd10q15_6) ?_)⟩
  case sd10q15_1 => exact Shows.at 2 rfl
  case sd10q15_2 => omega
  case sd10q15_3 => omega
  case sd10q15_4 => exact hc2
  case sd10q15_6 => omega
  rintro v94_11 H94_11 ⟨rfl, rfl⟩
  refine ⟨by intro w h; first | exact h | exact trivial | (refine WH.sub h ?_; (repeat (first | exact List.Sublist.refl _ | exact List.sublist_append_right _ _ | exact List.sublist_append_left _ _ | apply List.Sublist.cons | refine List.Sublist.trans ?_ (List.sublist_append_left _ _))); done) | (refine WH.sub h ?_; (repeat (first | exact List.Sublist.refl _ | exact List.sublist_append_right _ _ | exact List.sublist_append_left _ _ | apply List.Sublist.cons_cons | apply List.Sublist.cons | refine List.Sublist.trans ?_ (List.sublist_append_left _ _))); done), ?_⟩
  refine TA_take (dd := (some 85)) 9 rfl (by kernel_rfl) (by kernel_rfl) (by kernel_rfl) rfl rfl rfl (PV_move rfl) ?_
  refine TA_take (dd := (some 95)) 10 rfl (by kernel_rfl) (by kernel_rfl) (by kernel_rfl) rfl rfl rfl (PV_extract rfl rfl) ?_
  refine TA_take (dd := (some 96)) 11 rfl (by kernel_rfl) (by kernel_rfl) (by kernel_rfl) rfl rfl rfl (PV_extract rfl rfl) ?_
  refine TA_one 12 (by kernel_rfl) rfl rfl (TO_alloc rfl zr28 fun g12 => ?_)
  refine ⟨by intro w h; first | exact h | exact trivial | (refine WH.sub h ?_; (repeat (first | exact List.Sublist.refl _ | exact List.sublist_append_right _ _ | exact List.sublist_append_left _ _ | apply List.Sublist.cons | refine List.Sublist.trans ?_ (List.sublist_append_left _ _))); done) | (refine WH.sub h ?_; (repeat (first | exact List.Sublist.refl _ | exact List.sublist_append_right _ _ | exact List.sublist_append_left _ _ | apply List.Sublist.cons_cons | apply List.Sublist.cons | refine List.Sublist.trans ?_ (List.sublist_append_left _ _))); done), ?_⟩
  refine TA_one 13 (by kernel_rfl) rfl rfl (TO_store 0 rfl rfl rfl sz28 rfl rfl rfl (List.forall_mem_cons.2 ⟨by first | rfl, List.forall_mem_cons.2 ⟨by first | rfl, by simp⟩⟩) (by first | exact Nat.le_of_ble_eq_true rfl | (simp; done) | (simp; omega) | omega) ?_)
  refine ⟨by intro w h; first | exact h | exact trivial | (refine WH.sub h ?_; (repeat (first | exact List.Sublist.refl _ | exact List.sublist_append_right _ _ | exact List.sublist_append_left _ _ | apply List.Sublist.cons | refine List.Sublist.trans ?_ (List.sublist_append_left _ _))); done) | (refine WH.sub h ?_; (repeat (first | exact List.Sublist.refl _ | exact List.sublist_append_right _ _ | exact List.sublist_append_left _ _ | apply List.Sublist.cons_cons | apply List.Sublist.cons | refine List.Sublist.trans ?_ (List.sublist_append_left _ _))); done), ?_⟩
  refine TA_take (dd := (some 7)) 14 rfl (by kernel_rfl) (by kernel_rfl) (by kernel_rfl) rfl rfl rfl (PV_assign rfl) ?_
  refine TA_done (by kernel_rfl) ?_
  refine T_seq ?_
  refine T_seq ?_
  refine T_region ?_
  refine TL_pure (d := (some 97)) rfl rfl rfl (PV_move rfl) ?_
  refine TL_nil ?_
  refine T_block ?_
  refine T_seq ?_
  refine T_region ?_
  refine TL_pure (d := (some 99)) rfl rfl rfl (PV_bin rfl rfl bin_eql) ?_
  refine TL_pure (d := (some 98)) rfl rfl rfl (PV_assign rfl) ?_
  refine TL_nil ?_
  refine T_then rfl (by exact decide_eq_true (by omega)) ?_
  refine T_seq ?_
  refine T_region ?_
  refine TL_pure (d := (some 4)) rfl rfl rfl (PV_assign rfl) ?_
  refine TL_nil ?_
  refine T.perm ((perm_pick (i := 1) rfl).trans (List.Perm.cons _ ((perm_pick (i := 1) rfl).trans (List.Perm.cons _ ((perm_pick (i := 1) rfl).trans (List.Perm.cons _ ((perm_pick (i := 1) rfl).trans (List.Perm.cons _ (List.Perm.refl _))))))))) ?_
  refine T_dropAt 4 ?_
  refine T_ret ?_
  refine ret_ret (ResV_one rfl rfl) ⟨_, List.Sublist.refl _, ⟨_, _, _, _, _, _, rfl, ?sd14q15_0, rfl⟩⟩
  case sd14q15_0 => decide
  refine ⟨_, rfl, Or.inl rfl, (TO_alloc rfl zr28 fun g9 => ?_)⟩
  refine ⟨by intro w h; first | exact h | exact trivial | (refine WH.sub h ?_; (repeat (first | exact List.Sublist.refl _ | exact List.sublist_append_right _ _ | exact List.sublist_append_left _ _ | apply List.Sublist.cons | refine List.Sublist.trans ?_ (List.sublist_append_left _ _))); done) | (refine WH.sub h ?_; (repeat (first | exact List.Sublist.refl _ | exact List.sublist_append_right _ _ | exact List.sublist_append_left _ _ | apply List.Sublist.cons_cons | apply List.Sublist.cons | refine List.Sublist.trans ?_ (List.sublist_append_left _ _))); done), ?_⟩
  refine TA_one 8 (by kernel_rfl) rfl rfl (TO_call0 call15 rfl rfl (t52no _ (Shows.at 3 rfl) ?sd16q15_2 ?sd16q15_3 ?sd16q15_4 ?sd16q15_5 ?sd16q15_6) ?_)
  case sd16q15_2 => omega
  case sd16q15_3 => omega
  case sd16q15_4 => exact hc2
  case sd16q15_5 => exact hu
  case sd16q15_6 => omega
  rintro v94_17 H94_17 ⟨rfl, rfl⟩
  refine ⟨by intro w h; first | exact h | exact trivial | (refine WH.sub h ?_; (repeat (first | exact List.Sublist.refl _ | exact List.sublist_append_right _ _ | exact List.sublist_append_left _ _ | apply List.Sublist.cons | refine List.Sublist.trans ?_ (List.sublist_append_left _ _))); done) | (refine WH.sub h ?_; (repeat (first | exact List.Sublist.refl _ | exact List.sublist_append_right _ _ | exact List.sublist_append_left _ _ | apply List.Sublist.cons_cons | apply List.Sublist.cons | refine List.Sublist.trans ?_ (List.sublist_append_left _ _))); done), ?_⟩
  refine TA_take (dd := (some 85)) 9 rfl (by kernel_rfl) (by kernel_rfl) (by kernel_rfl) rfl rfl rfl (PV_move rfl) ?_
  refine TA_take (dd := (some 95)) 10 rfl (by kernel_rfl) (by kernel_rfl) (by kernel_rfl) rfl rfl rfl (PV_extract rfl rfl) ?_
  refine TA_take (dd := (some 96)) 11 rfl (by kernel_rfl) (by kernel_rfl) (by kernel_rfl) rfl rfl rfl (PV_extract rfl rfl) ?_
  refine TA_one 13 (by kernel_rfl) rfl rfl (TO_store 0 rfl rfl rfl sz28 rfl rfl rfl (List.forall_mem_cons.2 ⟨by first | rfl, List.forall_mem_cons.2 ⟨by first | rfl, by simp⟩⟩) (by first | exact Nat.le_of_ble_eq_true rfl | (simp; done) | (simp; omega) | omega) ?_)
  refine ⟨by intro w h; first | exact h | exact trivial | (refine WH.sub h ?_; (repeat (first | exact List.Sublist.refl _ | exact List.sublist_append_right _ _ | exact List.sublist_append_left _ _ | apply List.Sublist.cons | refine List.Sublist.trans ?_ (List.sublist_append_left _ _))); done) | (refine WH.sub h ?_; (repeat (first | exact List.Sublist.refl _ | exact List.sublist_append_right _ _ | exact List.sublist_append_left _ _ | apply List.Sublist.cons_cons | apply List.Sublist.cons | refine List.Sublist.trans ?_ (List.sublist_append_left _ _))); done), ?_⟩
  refine TA_take (dd := (some 7)) 14 rfl (by kernel_rfl) (by kernel_rfl) (by kernel_rfl) rfl rfl rfl (PV_assign rfl) ?_
  refine TA_done (by kernel_rfl) ?_
  refine T_seq ?_
  refine T_seq ?_
  refine T_region ?_
  refine TL_pure (d := (some 97)) rfl rfl rfl (PV_move rfl) ?_
  refine TL_nil ?_
  refine T_block ?_
  refine T_seq ?_
  refine T_region ?_
  refine TL_pure (d := (some 99)) rfl rfl rfl (PV_bin rfl rfl bin_eql) ?_
  refine TL_pure (d := (some 98)) rfl rfl rfl (PV_assign rfl) ?_
  refine TL_nil ?_
  refine T_then rfl (by exact decide_eq_true (by omega)) ?_
  refine T_seq ?_
  refine T_region ?_
  refine TL_pure (d := (some 4)) rfl rfl rfl (PV_assign rfl) ?_
  refine TL_nil ?_
  refine T.perm ((perm_pick (i := 1) rfl).trans (List.Perm.cons _ ((perm_pick (i := 1) rfl).trans (List.Perm.cons _ ((perm_pick (i := 1) rfl).trans (List.Perm.cons _ ((perm_pick (i := 1) rfl).trans (List.Perm.cons _ (List.Perm.refl _))))))))) ?_
  refine T_dropAt 4 ?_
  refine T_ret ?_
  refine ret_ret (ResV_one rfl rfl) ⟨_, List.Sublist.refl _, ⟨_, _, _, _, _, _, rfl, ?sd19q15_0, rfl⟩⟩
  case sd19q15_0 => decide
  try simp only [decide_eq_true_eq, decide_eq_false_iff_not, beq_iff_eq, beq_eq_false_iff_ne, bne_iff_ne, bne_eq_false_iff_eq, ne_eq, Bool.not_eq_true', Bool.not_eq_false', Bool.not_not, Bool.not_true, Bool.not_false, Bool.and_eq_true, Bool.or_eq_true, Bool.and_eq_false_iff, Bool.or_eq_false_iff, Int.not_lt, Int.not_le, gt_iff_lt, ge_iff_le] at c6
  refine TL_no (b := false) rfl rfl (gfalse (by exact decide_eq_false (by omega))) rfl ?_
  refine TL_no (b := false) rfl rfl (gfalse (by exact decide_eq_false (by omega))) rfl ?_
  refine TL_no (b := false) rfl rfl (gfalse (by exact decide_eq_false (by omega))) rfl ?_
  refine TL_no (b := false) rfl rfl (gfalse (by exact decide_eq_false (by omega))) rfl ?_
  refine TL_pure (d := (some 47)) rfl rfl rfl (PV_pickF rfl (by first | assumption | rfl | (simp; done) | (simp; omega) | (simp [*]; done) | (simp [*]; omega)) rfl rfl) ?_
  refine TL_pure (d := (some 39)) rfl rfl rfl (PV_assign rfl) ?_
  refine TL_nil ?_
  refine T_else rfl (by rfl) ?_
  refine T_seq ?_
  refine T_region ?_
  refine TL_pure (d := (some 52)) rfl rfl rfl (PV_move rfl) ?_
  refine TL_pure (d := (some 53)) rfl rfl rfl (PV_bin rfl rfl bin_eql) ?_
  refine TL_pure (d := (some 54)) rfl rfl rfl (PV_move rfl) ?_
  refine TL_split (d := 54) rfl (fun c20 => ?w20q15y) (fun c20 => ?w20q15n)
  try simp only [decide_eq_true_eq, decide_eq_false_iff_not, beq_iff_eq, beq_eq_false_iff_ne, bne_iff_ne, bne_eq_false_iff_eq, ne_eq, Bool.not_eq_true', Bool.not_eq_false', Bool.not_not, Bool.not_true, Bool.not_false, Bool.and_eq_true, Bool.or_eq_true, Bool.and_eq_false_iff, Bool.or_eq_false_iff, Int.not_lt, Int.not_le, gt_iff_lt, ge_iff_le] at c20
  refine TL_yes rfl rfl (gtrue (by exact decide_eq_true (by omega))) (TO_pure rfl (PV_move rfl) ?_)
  refine TL_yes rfl rfl (gtrue (by exact decide_eq_true (by omega))) (TO_pure rfl (PV_nilCheck rfl) ?_)
  refine TL_yes rfl rfl (gtrue (by exact decide_eq_true (by omega))) (TO_pure rfl (PV_fieldAddr (D := 7) Try.underlying72 rfl sz26 (by decide) rfl rfl) ?_)
  refine TL_yes rfl rfl (gtrue (by exact decide_eq_true (by omega))) (TO_pure rfl (PV_load Try.underlying26 rfl rfl (Rd.at 1 rfl rfl)) ?_)
  refine TL_yes rfl rfl (gtrue (by exact decide_eq_true (by omega))) (TO_pure rfl (PV_len_slice Try.underlying26 rfl) ?_)
  refine TL_yes rfl rfl (gtrue (by exact decide_eq_true (by omega))) (TO_pure rfl (PV_bin rfl rfl bin_gtr) ?_)
  refine TL_pure (d := (some 61)) rfl rfl rfl (PV_pickAnd rfl rfl rfl) ?_
  refine TL_pure (d := (some 62)) rfl rfl rfl (PV_move rfl) ?_
  refine TL_yes rfl rfl (gtrue (by (simp; omega))) (TO_pure rfl (PV_move rfl) ?_)
  refine TL_yes rfl rfl (gtrue (by (simp; omega))) (TO_pure rfl (PV_nilCheck rfl) ?_)
  refine TL_yes rfl rfl (gtrue (by (simp; omega))) (TO_pure rfl (PV_fieldAddr (D := 7) Try.underlying72 rfl sz26 (by decide) rfl rfl) ?_)
  refine TL_yes rfl rfl (gtrue (by (simp; omega))) (TO_pure rfl (PV_load Try.underlying26 rfl rfl (Rd.at 1 rfl rfl)) ?_)
  refine TL_yes rfl rfl (gtrue (by (simp; omega))) (TO_pure rfl (PV_indexAddr (i := 1) Try.underlying26 sz5 rfl rfl rfl (by first | omega | decide | assumption)) ?_)
  refine TL_yes rfl rfl (gtrue (by (simp; omega))) (TO_pure rfl (PV_load Try.underlying5 rfl rfl (Rd.at 2 rfl (nums_at1 rfl (by omega)))) ?_)
  refine TL_yes rfl rfl (gtrue (by (simp; omega))) (TO_pure rfl (PV_bin rfl rfl bin_eql) ?_)
  refine TL_pure (d := (some 70)) rfl rfl rfl (PV_pickAnd rfl rfl rfl) ?_
  refine TL_pure (d := (some 51)) rfl rfl rfl (PV_assign rfl) ?_
  refine TL_nil ?_
  refine T_else rfl (by (simp; omega)) ?_
  refine T_seq ?_
  refine T_region ?_
  refine TL_pure (d := (some 75)) rfl rfl rfl (PV_move rfl) ?_
  refine TL_pure (d := (some 76)) rfl rfl rfl (PV_bin rfl rfl bin_eql) ?_
  refine TL_pure (d := (some 77)) rfl rfl rfl (PV_move rfl) ?_
  refine TL_yes rfl rfl (gtrue (by exact decide_eq_true (by omega))) (TO_pure rfl (PV_move rfl) ?_)
  refine TL_yes rfl rfl (gtrue (by exact decide_eq_true (by omega))) (TO_pure rfl (PV_nilCheck rfl) ?_)
  refine TL_yes rfl rfl (gtrue (by exact decide_eq_true (by omega))) (TO_pure rfl (PV_fieldAddr (D := 7) Try.underlying72 rfl sz26 (by decide) rfl rfl) ?_)
  refine TL_yes rfl rfl (gtrue (by exact decide_eq_true (by omega))) (TO_pure rfl (PV_load Try.underlying26 rfl rfl (Rd.at 1 rfl rfl)) ?_)
  refine TL_yes rfl rfl (gtrue (by exact decide_eq_true (by omega))) (TO_pure rfl (PV_len_slice Try.underlying26 rfl) ?_)
  refine TL_yes rfl rfl (gtrue (by exact decide_eq_true (by omega))) (TO_pure rfl (PV_bin rfl rfl bin_eql) ?_)
  refine TL_pure (d := (some 84)) rfl rfl rfl (PV_pickAnd rfl rfl rfl) ?_
  refine TL_pure (d := (some 74)) rfl rfl rfl (PV_assign rfl) ?_
  refine TL_nil ?_
  refine T_else rfl (by (simp; omega)) ?_
  refine T_skip ?_
  refine T_seq ?_
  refine T_drawn (WH _ _ _) mixed (fun w h => h) ?_
  refine TA_take (dd := (some 86)) 0 rfl (by kernel_rfl) (by kernel_rfl) (by kernel_rfl) rfl rfl rfl (PV_move rfl) ?_
  refine TA_take (dd := (some 87)) 1 rfl (by kernel_rfl) (by kernel_rfl) (by kernel_rfl) rfl rfl rfl (PV_nilCheck rfl) ?_
  refine TA_take (dd := (some 88)) 2 rfl (by kernel_rfl) (by kernel_rfl) (by kernel_rfl) rfl rfl rfl (PV_fieldAddr (D := 7) Try.underlying72 rfl sz26 (by decide) rfl rfl) ?_
  refine TA_take (dd := (some 89)) 3 rfl (by kernel_rfl) (by kernel_rfl) (by kernel_rfl) rfl rfl rfl (PV_load Try.underlying26 rfl rfl (Rd.at 1 rfl rfl)) ?_
  refine TA_take (dd := (some 90)) 4 rfl (by kernel_rfl) (by kernel_rfl) (by kernel_rfl) rfl rfl rfl (PV_move rfl) ?_
  refine TA_take (dd := (some 91)) 5 rfl (by kernel_rfl) (by kernel_rfl) (by kernel_rfl) rfl rfl rfl (PV_nilCheck rfl) ?_
  refine TA_take (dd := (some 92)) 6 rfl (by kernel_rfl) (by kernel_rfl) (by kernel_rfl) rfl rfl rfl (PV_fieldAddr (D := 0) Try.underlying72 rfl sz4 (by decide) rfl rfl) ?_
  refine TA_take (dd := (some 93)) 7 rfl (by kernel_rfl) (by kernel_rfl) (by kernel_rfl) rfl rfl rfl (PV_load Try.underlying4 rfl rfl (Rd.at 1 rfl rfl)) ?_
  refine TA_hardG (rs := [8, 12]) (by kernel_rfl) (by decide) ?_
  refine List.forall_mem_cons.2 ⟨?w21q15_8, List.forall_mem_cons.2 ⟨?w21q15_12, by simp⟩⟩
  refine ⟨_, rfl, Or.inl rfl, (TO_call0 call15 rfl rfl (t52no _ ?sd24q15_1 ?sd24q15_2 ?sd24q15_3 ?sd24q15_4 hu ?sd24q15_6) ?_)⟩
  case sd24q15_1 => exact Shows.at 2 rfl
  case sd24q15_2 => omega
  case sd24q15_3 => omega
  case sd24q15_4 => exact hc2
  case sd24q15_6 => omega
  rintro v94_25 H94_25 ⟨rfl, rfl⟩
  refine ⟨by intro w h; first | exact h | exact trivial | (refine WH.sub h ?_; (repeat (first | exact List.Sublist.refl _ | exact List.sublist_append_right _ _ | exact List.sublist_append_left _ _ | apply List.Sublist.cons | refine List.Sublist.trans ?_ (List.sublist_append_left _ _))); done) | (refine WH.sub h ?_; (repeat (first | exact List.Sublist.refl _ | exact List.sublist_append_right _ _ | exact List.sublist_append_left _ _ | apply List.Sublist.cons_cons | apply List.Sublist.cons | refine List.Sublist.trans ?_ (List.sublist_append_left _ _))); done), ?_⟩
  refine TA_take (dd := (some 85)) 9 rfl (by kernel_rfl) (by kernel_rfl) (by kernel_rfl) rfl rfl rfl (PV_move rfl) ?_
  refine TA_take (dd := (some 95)) 10 rfl (by kernel_rfl) (by kernel_rfl) (by kernel_rfl) rfl rfl rfl (PV_extract rfl rfl) ?_
  refine TA_take (dd := (some 96)) 11 rfl (by kernel_rfl) (by kernel_rfl) (by kernel_rfl) rfl rfl rfl (PV_extract rfl rfl) ?_
  refine TA_one 12 (by kernel_rfl) rfl rfl (TO_alloc rfl zr28 fun g26 => ?_)
  refine ⟨by intro w h; first | exact h | exact trivial | (refine WH.sub h ?_; (repeat (first | exact List.Sublist.refl _ | exact List.sublist_append_right _ _ | exact List.sublist_append_left _ _ | apply List.Sublist.cons | refine List.Sublist.trans ?_ (List.sublist_append_left _ _))); done) | (refine WH.sub h ?_; (repeat (first | exact List.Sublist.refl _ | exact List.sublist_append_right _ _ | exact List.sublist_append_left _ _ | apply List.Sublist.cons_cons | apply List.Sublist.cons | refine List.Sublist.trans ?_ (List.sublist_append_left _ _))); done), ?_⟩
  refine TA_one 13 (by kernel_rfl) rfl rfl (TO_store 0 rfl rfl rfl sz28 rfl rfl rfl (List.forall_mem_cons.2 ⟨by first | rfl, List.forall_mem_cons.2 ⟨by first | rfl, by simp⟩⟩) (by first | exact Nat.le_of_ble_eq_true rfl | (simp; done) | (simp; omega) | omega) ?_)
  refine ⟨by intro w h; first | exact h | exact trivial | (refine WH.sub h ?_; (repeat (first | exact List.Sublist.refl _ | exact List.sublist_append_right _ _ | exact List.sublist_append_left _ _ | apply List.Sublist.cons | refine List.Sublist.trans ?_ (List.sublist_append_left _ _))); done) | (refine WH.sub h ?_; (repeat (first | exact List.Sublist.refl _ | exact List.sublist_append_right _ _ | exact List.sublist_append_left _ _ | apply List.Sublist.cons_cons | apply List.Sublist.cons | refine List.Sublist.trans ?_ (List.sublist_append_left _ _))); done), ?_⟩
  refine TA_take (dd := (some 7)) 14 rfl (by kernel_rfl) (by kernel_rfl) (by kernel_rfl) rfl rfl rfl (PV_assign rfl) ?_
  refine TA_done (by kernel_rfl) ?_
  refine T_seq ?_
  refine T_seq ?_
  refine T_region ?_
  refine TL_pure (d := (some 97)) rfl rfl rfl (PV_move rfl) ?_
  refine TL_nil ?_
  refine T_block ?_
  refine T_seq ?_
  refine T_region ?_
  refine TL_pure (d := (some 99)) rfl rfl rfl (PV_bin rfl rfl bin_eql) ?_
  refine TL_pure (d := (some 98)) rfl rfl rfl (PV_assign rfl) ?_
  refine TL_nil ?_
  refine T_then rfl (by exact decide_eq_true (by omega)) ?_
  refine T_seq ?_
  refine T_region ?_
  refine TL_pure (d := (some 4)) rfl rfl rfl (PV_assign rfl) ?_
  refine TL_nil ?_
  refine T.perm ((perm_pick (i := 1) rfl).trans (List.Perm.cons _ ((perm_pick (i := 1) rfl).trans (List.Perm.cons _ ((perm_pick (i := 1) rfl).trans (List.Perm.cons _ ((perm_pick (i := 1) rfl).trans (List.Perm.cons _ (List.Perm.refl _))))))))) ?_
  refine T_dropAt 4 ?_
  refine T_ret ?_
  refine ret_ret (ResV_one rfl rfl) ⟨_, List.Sublist.refl _, ⟨_, _, _, _, _, _, rfl, ?sd28q15_0, rfl⟩⟩
  case sd28q15_0 => decide
  refine ⟨_, rfl, Or.inl rfl, (TO_alloc rfl zr28 fun g23 => ?_)⟩
  refine ⟨by intro w h; first | exact h | exact trivial | (refine WH.sub h ?_; (repeat (first | exact List.Sublist.refl _ | exact List.sublist_append_right _ _ | exact List.sublist_append_left _ _ | apply List.Sublist.cons | refine List.Sublist.trans ?_ (List.sublist_append_left _ _))); done) | (refine WH.sub h ?_; (repeat (first | exact List.Sublist.refl _ | exact List.sublist_append_right _ _ | exact List.sublist_append_left _ _ | apply List.Sublist.cons_cons | apply List.Sublist.cons | refine List.Sublist.trans ?_ (List.sublist_append_left _ _))); done), ?_⟩
  refine TA_one 8 (by kernel_rfl) rfl rfl (TO_call0 call15 rfl rfl (t52no _ (Shows.at 3 rfl) ?sd30q15_2 ?sd30q15_3 ?sd30q15_4 ?sd30q15_5 ?sd30q15_6) ?_)
  case sd30q15_2 => omega
  case sd30q15_3 => omega
  case sd30q15_4 => exact hc2
  case sd30q15_5 => exact hu
  case sd30q15_6 => omega
  rintro v94_31 H94_31 ⟨rfl, rfl⟩
  refine ⟨by intro w h; first | exact h | exact trivial | (refine WH.sub h ?_; (repeat (first | exact List.Sublist.refl _ | exact List.sublist_append_right _ _ | exact List.sublist_append_left _ _ | apply List.Sublist.cons | refine List.Sublist.trans ?_ (List.sublist_append_left _ _))); done) | (refine WH.sub h ?_; (repeat (first | exact List.Sublist.refl _ | exact List.sublist_append_right _ _ | exact List.sublist_append_left _ _ | apply List.Sublist.cons_cons | apply List.Sublist.cons | refine List.Sublist.trans ?_ (List.sublist_append_left _ _))); done), ?_⟩
  refine TA_take (dd := (some 85)) 9 rfl (by kernel_rfl) (by kernel_rfl) (by kernel_rfl) rfl rfl rfl (PV_move rfl) ?_
  refine TA_take (dd := (some 95)) 10 rfl (by kernel_rfl) (by kernel_rfl) (by kernel_rfl) rfl rfl rfl (PV_extract rfl rfl) ?_
  refine TA_take (dd := (some 96)) 11 rfl (by kernel_rfl) (by kernel_rfl) (by kernel_rfl) rfl rfl rfl (PV_extract rfl rfl) ?_
  refine TA_one 13 (by kernel_rfl) rfl rfl (TO_store 0 rfl rfl rfl sz28 rfl rfl rfl (List.forall_mem_cons.2 ⟨by first | rfl, List.forall_mem_cons.2 ⟨by first | rfl, by simp⟩⟩) (by first | exact Nat.le_of_ble_eq_true rfl | (simp; done) | (simp; omega) | omega) ?_)
  refine ⟨by intro w h; first | exact h | exact trivial | (refine WH.sub h ?_; (repeat (first | exact List.Sublist.refl _ | exact List.sublist_append_right _ _ | exact List.sublist_append_left _ _ | apply List.Sublist.cons | refine List.Sublist.trans ?_ (List.sublist_append_left _ _))); done) | (refine WH.sub h ?_; (repeat (first | exact List.Sublist.refl _ | exact List.sublist_append_right _ _ | exact List.sublist_append_left _ _ | apply List.Sublist.cons_cons | apply List.Sublist.cons | refine List.Sublist.trans ?_ (List.sublist_append_left _ _))); done), ?_⟩
  refine TA_take (dd := (some 7)) 14 rfl (by kernel_rfl) (by kernel_rfl) (by kernel_rfl) rfl rfl rfl (PV_assign rfl) ?_
  refine TA_done (by kernel_rfl) ?_
  refine T_seq ?_
  refine T_seq ?_
  refine T_region ?_
  refine TL_pure (d := (some 97)) rfl rfl rfl (PV_move rfl) ?_
  refine TL_nil ?_
  refine T_block ?_
  refine T_seq ?_
  refine T_region ?_
  refine TL_pure (d := (some 99)) rfl rfl rfl (PV_bin rfl rfl bin_eql) ?_
  refine TL_pure (d := (some 98)) rfl rfl rfl (PV_assign rfl) ?_
  refine TL_nil ?_
  refine T_then rfl (by exact decide_eq_true (by omega)) ?_
  refine T_seq ?_
  refine T_region ?_
  refine TL_pure (d := (some 4)) rfl rfl rfl (PV_assign rfl) ?_
  refine TL_nil ?_
  refine T.perm ((perm_pick (i := 1) rfl).trans (List.Perm.cons _ ((perm_pick (i := 1) rfl).trans (List.Perm.cons _ ((perm_pick (i := 1) rfl).trans (List.Perm.cons _ ((perm_pick (i := 1) rfl).trans (List.Perm.cons _ (List.Perm.refl _))))))))) ?_
  refine T_dropAt 4 ?_
  refine T_ret ?_
  refine ret_ret (ResV_one rfl rfl) ⟨_, List.Sublist.refl _, ⟨_, _, _, _, _, _, rfl, ?sd33q15_0, rfl⟩⟩
  case sd33q15_0 => decide
  try simp only [decide_eq_true_eq, decide_eq_false_iff_not, beq_iff_eq, beq_eq_false_iff_ne, bne_iff_ne, bne_eq_false_iff_eq, ne_eq, Bool.not_eq_true', Bool.not_eq_false', Bool.not_not, Bool.not_true, Bool.not_false, Bool.and_eq_true, Bool.or_eq_true, Bool.and_eq_false_iff, Bool.or_eq_false_iff, Int.not_lt, Int.not_le, gt_iff_lt, ge_iff_le] at c20
  refine TL_no (b := false) rfl rfl (gfalse (by exact decide_eq_false (by omega))) rfl ?_
  refine TL_no (b := false) rfl rfl (gfalse (by exact decide_eq_false (by omega))) rfl ?_
  refine TL_no (b := false) rfl rfl (gfalse (by exact decide_eq_false (by omega))) rfl ?_
  refine TL_no (b := false) rfl rfl (gfalse (by exact decide_eq_false (by omega))) rfl ?_
  refine TL_no (b := false) rfl rfl (gfalse (by exact decide_eq_false (by omega))) rfl ?_
  refine TL_no (b := false) rfl rfl (gfalse (by exact decide_eq_false (by omega))) rfl ?_
  refine TL_pure (d := (some 61)) rfl rfl rfl (PV_pickF rfl (by first | assumption | rfl | (simp; done) | (simp; omega) | (simp [*]; done) | (simp [*]; omega)) rfl rfl) ?_
  refine TL_pure (d := (some 62)) rfl rfl rfl (PV_move rfl) ?_
  refine TL_no (b := false) rfl rfl rfl rfl ?_
  refine TL_no (b := false) rfl rfl rfl rfl ?_
  refine TL_no (b := false) rfl rfl rfl rfl ?_
  refine TL_no (b := false) rfl rfl rfl rfl ?_
  refine TL_no (b := false) rfl rfl rfl rfl ?_
  refine TL_no (b := false) rfl rfl rfl rfl ?_
  refine TL_no (b := false) rfl rfl rfl rfl ?_
  refine TL_pure (d := (some 70)) rfl rfl rfl (PV_pickF rfl (by first | assumption | rfl | (simp; done) | (simp; omega) | (simp [*]; done) | (simp [*]; omega)) rfl rfl) ?_
  refine TL_pure (d := (some 51)) rfl rfl rfl (PV_assign rfl) ?_
  refine TL_nil ?_
  refine T_else rfl (by rfl) ?_
  refine T_seq ?_
  refine T_region ?_
  refine TL_pure (d := (some 75)) rfl rfl rfl (PV_move rfl) ?_
  refine TL_pure (d := (some 76)) rfl rfl rfl (PV_bin rfl rfl bin_eql) ?_
  refine TL_pure (d := (some 77)) rfl rfl rfl (PV_move rfl) ?_
  refine TL_no (b := false) rfl rfl (gfalse (by exact decide_eq_false (by omega))) rfl ?_
  refine TL_no (b := false) rfl rfl (gfalse (by exact decide_eq_false (by omega))) rfl ?_
  refine TL_no (b := false) rfl rfl (gfalse (by exact decide_eq_false (by omega))) rfl ?_
  refine TL_no (b := false) rfl rfl (gfalse (by exact decide_eq_false (by omega))) rfl ?_
  refine TL_no (b := false) rfl rfl (gfalse (by exact decide_eq_false (by omega))) rfl ?_
  refine TL_no (b := false) rfl rfl (gfalse (by exact decide_eq_false (by omega))) rfl ?_
  refine TL_pure (d := (some 84)) rfl rfl rfl (PV_pickF rfl (by first | assumption | rfl | (simp; done) | (simp; omega) | (simp [*]; done) | (simp [*]; omega)) rfl rfl) ?_
  refine TL_pure (d := (some 74)) rfl rfl rfl (PV_assign rfl) ?_
  refine TL_nil ?_
  refine T_else rfl (by rfl) ?_
  refine T_skip ?_
  refine T_seq ?_
  refine T_drawn (WH _ _ _) mixed (fun w h => h) ?_
  refine TA_take (dd := (some 86)) 0 rfl (by kernel_rfl) (by kernel_rfl) (by kernel_rfl) rfl rfl rfl (PV_move rfl) ?_
  refine TA_take (dd := (some 87)) 1 rfl (by kernel_rfl) (by kernel_rfl) (by kernel_rfl) rfl rfl rfl (PV_nilCheck rfl) ?_
  refine TA_take (dd := (some 88)) 2 rfl (by kernel_rfl) (by kernel_rfl) (by kernel_rfl) rfl rfl rfl (PV_fieldAddr (D := 7) Try.underlying72 rfl sz26 (by decide) rfl rfl) ?_
  refine TA_take (dd := (some 89)) 3 rfl (by kernel_rfl) (by kernel_rfl) (by kernel_rfl) rfl rfl rfl (PV_load Try.underlying26 rfl rfl (Rd.at 1 rfl rfl)) ?_
  refine TA_take (dd := (some 90)) 4 rfl (by kernel_rfl) (by kernel_rfl) (by kernel_rfl) rfl rfl rfl (PV_move rfl) ?_
  refine TA_take (dd := (some 91)) 5 rfl (by kernel_rfl) (by kernel_rfl) (by kernel_rfl) rfl rfl rfl (PV_nilCheck rfl) ?_
  refine TA_take (dd := (some 92)) 6 rfl (by kernel_rfl) (by kernel_rfl) (by kernel_rfl) rfl rfl rfl (PV_fieldAddr (D := 0) Try.underlying72 rfl sz4 (by decide) rfl rfl) ?_
  refine TA_take (dd := (some 93)) 7 rfl (by kernel_rfl) (by kernel_rfl) (by kernel_rfl) rfl rfl rfl (PV_load Try.underlying4 rfl rfl (Rd.at 1 rfl rfl)) ?_
  refine TA_hardG (rs := [8, 12]) (by kernel_rfl) (by decide) ?_
  refine List.forall_mem_cons.2 ⟨?w34q15_8, List.forall_mem_cons.2 ⟨?w34q15_12, by simp⟩⟩
  refine ⟨_, rfl, Or.inl rfl, (TO_call0 call15 rfl rfl (t52no _ ?sd37q15_1 ?sd37q15_2 ?sd37q15_3 ?sd37q15_4 hu ?sd37q15_6) ?_)⟩
  case sd37q15_1 => exact Shows.at 2 rfl
  case sd37q15_2 => omega
  case sd37q15_3 => omega
  case sd37q15_4 => exact hc2
  case sd37q15_6 => omega
  rintro v94_38 H94_38 ⟨rfl, rfl⟩
  refine ⟨by intro w h; first | exact h | exact trivial | (refine WH.sub h ?_; (repeat (first | exact List.Sublist.refl _ | exact List.sublist_append_right _ _ | exact List.sublist_append_left _ _ | apply List.Sublist.cons | refine List.Sublist.trans ?_ (List.sublist_append_left _ _))); done) | (refine WH.sub h ?_; (repeat (first | exact List.Sublist.refl _ | exact List.sublist_append_right _ _ | exact List.sublist_append_left _ _ | apply List.Sublist.cons_cons | apply List.Sublist.cons | refine List.Sublist.trans ?_ (List.sublist_append_left _ _))); done), ?_⟩
  refine TA_take (dd := (some 85)) 9 rfl (by kernel_rfl) (by kernel_rfl) (by kernel_rfl) rfl rfl rfl (PV_move rfl) ?_
  refine TA_take (dd := (some 95)) 10 rfl (by kernel_rfl) (by kernel_rfl) (by kernel_rfl) rfl rfl rfl (PV_extract rfl rfl) ?_
  refine TA_take (dd := (some 96)) 11 rfl (by kernel_rfl) (by kernel_rfl) (by kernel_rfl) rfl rfl rfl (PV_extract rfl rfl) ?_
  refine TA_one 12 (by kernel_rfl) rfl rfl (TO_alloc rfl zr28 fun g39 => ?_)
  refine ⟨by intro w h; first | exact h | exact trivial | (refine WH.sub h ?_; (repeat (first | exact List.Sublist.refl _ | exact List.sublist_append_right _ _ | exact List.sublist_append_left _ _ | apply List.Sublist.cons | refine List.Sublist.trans ?_ (List.sublist_append_left _ _))); done) | (refine WH.sub h ?_; (repeat (first | exact List.Sublist.refl _ | exact List.sublist_append_right _ _ | exact List.sublist_append_left _ _ | apply List.Sublist.cons_cons | apply List.Sublist.cons | refine List.Sublist.trans ?_ (List.sublist_append_left _ _))); done), ?_⟩
  refine TA_one 13 (by kernel_rfl) rfl rfl (TO_store 0 rfl rfl rfl sz28 rfl rfl rfl (List.forall_mem_cons.2 ⟨by first | rfl, List.forall_mem_cons.2 ⟨by first | rfl, by simp⟩⟩) (by first | exact Nat.le_of_ble_eq_true rfl | (simp; done) | (simp; omega) | omega) ?_)
  refine ⟨by intro w h; first | exact h | exact trivial | (refine WH.sub h ?_; (repeat (first | exact List.Sublist.refl _ | exact List.sublist_append_right _ _ | exact List.sublist_append_left _ _ | apply List.Sublist.cons | refine List.Sublist.trans ?_ (List.sublist_append_left _ _))); done) | (refine WH.sub h ?_; (repeat (first | exact List.Sublist.refl _ | exact List.sublist_append_right _ _ | exact List.sublist_append_left _ _ | apply List.Sublist.cons_cons | apply List.Sublist.cons | refine List.Sublist.trans ?_ (List.sublist_append_left _ _))); done), ?_⟩
  refine TA_take (dd := (some 7)) 14 rfl (by kernel_rfl) (by kernel_rfl) (by kernel_rfl) rfl rfl rfl (PV_assign rfl) ?_
  refine TA_done (by kernel_rfl) ?_
  refine T_seq ?_
  refine T_seq ?_
  refine T_region ?_
  refine TL_pure (d := (some 97)) rfl rfl rfl (PV_move rfl) ?_
  refine TL_nil ?_
  refine T_block ?_
  refine T_seq ?_
  refine T_region ?_
  refine TL_pure (d := (some 99)) rfl rfl rfl (PV_bin rfl rfl bin_eql) ?_
  refine TL_pure (d := (some 98)) rfl rfl rfl (PV_assign rfl) ?_
  refine TL_nil ?_
  refine T_then rfl (by exact decide_eq_true (by omega)) ?_
  refine T_seq ?_
  refine T_region ?_
  refine TL_pure (d := (some 4)) rfl rfl rfl (PV_assign rfl) ?_
  refine TL_nil ?_
  refine T.perm ((perm_pick (i := 1) rfl).trans (List.Perm.cons _ ((perm_pick (i := 1) rfl).trans (List.Perm.cons _ ((perm_pick (i := 1) rfl).trans (List.Perm.cons _ ((perm_pick (i := 1) rfl).trans (List.Perm.cons _ (List.Perm.refl _))))))))) ?_
  refine T_dropAt 4 ?_
  refine T_ret ?_
  refine ret_ret (ResV_one rfl rfl) ⟨_, List.Sublist.refl _, ⟨_, _, _, _, _, _, rfl, ?sd41q15_0, rfl⟩⟩
  case sd41q15_0 => decide
  refine ⟨_, rfl, Or.inl rfl, (TO_alloc rfl zr28 fun g36 => ?_)⟩
  refine ⟨by intro w h; first | exact h | exact trivial | (refine WH.sub h ?_; (repeat (first | exact List.Sublist.refl _ | exact List.sublist_append_right _ _ | exact List.sublist_append_left _ _ | apply List.Sublist.cons | refine List.Sublist.trans ?_ (List.sublist_append_left _ _))); done) | (refine WH.sub h ?_; (repeat (first | exact List.Sublist.refl _ | exact List.sublist_append_right _ _ | exact List.sublist_append_left _ _ | apply List.Sublist.cons_cons | apply List.Sublist.cons | refine List.Sublist.trans ?_ (List.sublist_append_left _ _))); done), ?_⟩
  refine TA_one 8 (by kernel_rfl) rfl rfl (TO_call0 call15 rfl rfl (t52no _ (Shows.at 3 rfl) ?sd43q15_2 ?sd43q15_3 ?sd43q15_4 ?sd43q15_5 ?sd43q15_6) ?_)
  case sd43q15_2 => omega
  case sd43q15_3 => omega
  case sd43q15_4 => exact hc2
  case sd43q15_5 => exact hu
  case sd43q15_6 => omega
  rintro v94_44 H94_44 ⟨rfl, rfl⟩
  refine ⟨by intro w h; first | exact h | exact trivial | (refine WH.sub h ?_; (repeat (first | exact List.Sublist.refl _ | exact List.sublist_append_right _ _ | exact List.sublist_append_left _ _ | apply List.Sublist.cons | refine List.Sublist.trans ?_ (List.sublist_append_left _ _))); done) | (refine WH.sub h ?_; (repeat (first | exact List.Sublist.refl _ | exact List.sublist_append_right _ _ | exact List.sublist_append_left _ _ | apply List.Sublist.cons_cons | apply List.Sublist.cons | refine List.Sublist.trans ?_ (List.sublist_append_left _ _))); done), ?_⟩
  refine TA_take (dd := (some 85)) 9 rfl (by kernel_rfl) (by kernel_rfl) (by kernel_rfl) rfl rfl rfl (PV_move rfl) ?_
  refine TA_take (dd := (some 95)) 10 rfl (by kernel_rfl) (by kernel_rfl) (by kernel_rfl) rfl rfl rfl (PV_extract rfl rfl) ?_
  refine TA_take (dd := (some 96)) 11 rfl (by kernel_rfl) (by kernel_rfl) (by kernel_rfl) rfl rfl rfl (PV_extract rfl rfl) ?_
  refine TA_one 13 (by kernel_rfl) rfl rfl (TO_store 0 rfl rfl rfl sz28 rfl rfl rfl (List.forall_mem_cons.2 ⟨by first | rfl, List.forall_mem_cons.2 ⟨by first | rfl, by simp⟩⟩) (by first | exact Nat.le_of_ble_eq_true rfl | (simp; done) | (simp; omega) | omega) ?_)
  refine ⟨by intro w h; first | exact h | exact trivial | (refine WH.sub h ?_; (repeat (first | exact List.Sublist.refl _ | exact List.sublist_append_right _ _ | exact List.sublist_append_left _ _ | apply List.Sublist.cons | refine List.Sublist.trans ?_ (List.sublist_append_left _ _))); done) | (refine WH.sub h ?_; (repeat (first | exact List.Sublist.refl _ | exact List.sublist_append_right _ _ | exact List.sublist_append_left _ _ | apply List.Sublist.cons_cons | apply List.Sublist.cons | refine List.Sublist.trans ?_ (List.sublist_append_left _ _))); done), ?_⟩
  refine TA_take (dd := (some 7)) 14 rfl (by kernel_rfl) (by kernel_rfl) (by kernel_rfl) rfl rfl rfl (PV_assign rfl) ?_
  refine TA_done (by kernel_rfl) ?_
  refine T_seq ?_
  refine T_seq ?_
  refine T_region ?_
  refine TL_pure (d := (some 97)) rfl rfl rfl (PV_move rfl) ?_
  refine TL_nil ?_
  refine T_block ?_
  refine T_seq ?_
  refine T_region ?_
  refine TL_pure (d := (some 99)) rfl rfl rfl (PV_bin rfl rfl bin_eql) ?_
  refine TL_pure (d := (some 98)) rfl rfl rfl (PV_assign rfl) ?_
  refine TL_nil ?_
  refine T_then rfl (by exact decide_eq_true (by omega)) ?_
  refine T_seq ?_
  refine T_region ?_
  refine TL_pure (d := (some 4)) rfl rfl rfl (PV_assign rfl) ?_
  refine TL_nil ?_
  refine T.perm ((perm_pick (i := 1) rfl).trans (List.Perm.cons _ ((perm_pick (i := 1) rfl).trans (List.Perm.cons _ ((perm_pick (i := 1) rfl).trans (List.Perm.cons _ ((perm_pick (i := 1) rfl).trans (List.Perm.cons _ (List.Perm.refl _))))))))) ?_
  refine T_dropAt 4 ?_
  refine T_ret ?_
  refine ret_ret (ResV_one rfl rfl) ⟨_, List.Sublist.refl _, ⟨_, _, _, _, _, _, rfl, ?sd46q15_0, rfl⟩⟩
  case sd46q15_0 => decide
theorem put_good {g bc dc : Nat} {bA dA : Option Addr} (r : Rc) {Ab : Option Addr} {m cb : Nat} {bs : List Int} (hx : Shows (WH w0 B X) Ab m 1 (nums .u8 bs)) (hm : bs.length = m) (hu : U8s (r.buf ++ bs)) (hlb : r.buf.length + m ≤ 1000000000) (hdl : r.dat.length ≤ 1000000000) (hk1 : 0 ≤ r.blocks) (hk2 : r.blocks ≤ 1000000) (hn1 : 0 ≤ r.number) (hn2 : r.number ≤ 255) (ho : r.over = false) (hb0 : 0 < bs.length) (h4 : ¬ (rd (r.buf ++ bs) 0 = 4 ∧ r.close = true)) (h5 : ¬ (rd (r.buf ++ bs) 0 = 24 ∧ (r.buf ++ bs).length > 1 ∧ rd (r.buf ++ bs) 1 = 24)) (h6 : ¬ (rd (r.buf ++ bs) 0 = 24 ∧ (r.buf ++ bs).length = 1)) (h8 : scanS (r.buf ++ bs) r.crc = 2) :
    TCall Try.prog w0 B 33 #[.pointer (some ⟨g, 0, none⟩), .slice Ab m cb] (fun v H' => RGives g (({ r.got bs with buf := [] } : Rc).takeOut (rd (r.buf ++ bs) 1)) (({ r.got bs with buf := [] } : Rc).take (rd (r.buf ++ bs) 1) (scanD (r.buf ++ bs) r.crc)) X v H') (rcC g bA bc dA dc r :: byC bA bc r.buf :: byC dA dc r.dat :: X) := by
  have hlen : (r.buf ++ bs).length = r.buf.length + bs.length := List.length_append
  have hsd := scanD_le (r.buf ++ bs) r.crc
  have hsx : ({ r.got bs with buf := [] } : Rc).dat.length + (scanD (r.buf ++ bs) r.crc).length ≤ 140737488355328 := by show r.dat.length + _ ≤ _; omega
  refine TCall_intro (args := [_, _]) Try.func33 rfl Try.ntmps33 (Nat.le_of_ble_eq_true rfl) ?_
  refine T_addNil 1 ?_
  refine T_seq ?_
  refine T_region ?_
  refine TL_pure (d := (some 4)) rfl rfl rfl (PV_assign rfl) ?_
  refine TL_nil ?_
  refine T_seq ?_
  refine T_seq ?_
  refine T_region ?_
  refine TL_pure (d := (some 8)) rfl rfl rfl (PV_move rfl) ?_
  refine TL_pure (d := (some 9)) rfl rfl rfl (PV_nilCheck rfl) ?_
  refine TL_pure (d := (some 10)) rfl rfl rfl (PV_fieldAddr (D := 11) Try.underlying72 rfl sz4 (by decide) rfl rfl) ?_
  refine TL_pure (d := (some 11)) rfl rfl rfl (PV_load Try.underlying4 rfl rfl (Rd.at 1 rfl rfl)) ?_
  refine TL_pure (d := (some 12)) rfl rfl rfl (PV_move rfl) ?_
  refine TL_yes rfl rfl (gfalse (by with_reducible assumption)) (TO_pure rfl (PV_move rfl) ?_)
  refine TL_yes rfl rfl (gfalse (by with_reducible assumption)) (TO_pure rfl (PV_len_slice Try.underlying26 rfl) ?_)
  refine TL_yes rfl rfl (gfalse (by with_reducible assumption)) (TO_pure rfl (PV_bin rfl rfl bin_eql) ?_)
  refine TL_pure (d := (some 16)) rfl rfl rfl (PV_pickOr rfl rfl rfl) ?_
  refine TL_nil ?_
  refine T_else rfl (by (simp [*]; omega)) ?_
  refine T_skip ?_
  refine T_seq ?_
  refine T_region ?_
  refine TL_pure (d := (some 17)) rfl rfl rfl (PV_move rfl) ?_
  refine TL_pure (d := (some 18)) rfl rfl rfl (PV_move rfl) ?_
  refine TL_pure (d := (some 19)) rfl rfl rfl (PV_nilCheck rfl) ?_
  refine TL_pure (d := (some 20)) rfl rfl rfl (PV_fieldAddr (D := 1) Try.underlying72 rfl sz3 (by decide) rfl rfl) ?_
  refine TL_pure (d := (some 21)) rfl rfl rfl (PV_load Try.underlying3 rfl rfl (Rd.at 1 rfl rfl)) ?_
  refine TL_pure (d := (some 22)) rfl rfl rfl (PV_nilCheck rfl) ?_
  refine TL_pure (d := (some 23)) rfl rfl rfl (PV_fieldAddr (D := 3) Try.underlying72 rfl sz3 (by decide) rfl rfl) ?_
  refine TL_cons rfl (TO_store1 1 rfl rfl rfl sz3 rfl rfl rfl (by first | exact Nat.le_of_ble_eq_true rfl | (simp; done) | (simp; omega) | omega) ?_)
  refine TL_nil ?_
  refine T_seq ?_
  refine T_region ?_
  refine TL_pure (d := (some 24)) rfl rfl rfl (PV_move rfl) ?_
  refine TL_pure (d := (some 25)) rfl rfl rfl (PV_move rfl) ?_
  refine TL_pure (d := (some 26)) rfl rfl rfl (PV_nilCheck rfl) ?_
  refine TL_pure (d := (some 27)) rfl rfl rfl (PV_fieldAddr (D := 7) Try.underlying72 rfl sz26 (by decide) rfl rfl) ?_
  refine TL_pure (d := (some 28)) rfl rfl rfl (PV_load Try.underlying26 rfl rfl (Rd.at 1 rfl rfl)) ?_
  refine TL_pure (d := (some 29)) rfl rfl rfl (PV_move rfl) ?_
  refine TL_cons rfl (TO_appendB 2 rfl Try.underlying26 zb5 rfl rfl rfl rfl (Shows.mono hx (fun w h => h.sub (by (repeat (first | exact List.Sublist.refl _ | exact List.sublist_append_right _ _ | exact List.sublist_append_left _ _ | apply List.Sublist.cons | refine List.Sublist.trans ?_ (List.sublist_append_left _ _))); done))) ?bb2q26 ?bc2q26 fun A2 c2 hc2 => ?_)
  case bb2q26 => omega
  case bc2q26 => omega
  refine TL_pure (d := (some 31)) rfl rfl rfl (PV_nilCheck rfl) ?_
  refine TL_pure (d := (some 32)) rfl rfl rfl (PV_fieldAddr (D := 7) Try.underlying72 rfl sz26 (by decide) rfl rfl) ?_
  refine TL_cons rfl (TO_store1 1 rfl rfl rfl sz26 rfl rfl rfl (by first | exact Nat.le_of_ble_eq_true rfl | (simp; done) | (simp; omega) | omega) ?_)
  refine TL_nil ?_
  refine T_seq ?_
  refine T_seq ?_
  refine T_region ?_
  refine TL_pure (d := (some 33)) rfl rfl rfl (PV_move rfl) ?_
  refine TL_pure (d := (some 34)) rfl rfl rfl (PV_nilCheck rfl) ?_
  refine TL_pure (d := (some 35)) rfl rfl rfl (PV_fieldAddr (D := 7) Try.underlying72 rfl sz26 (by decide) rfl rfl) ?_
  refine TL_pure (d := (some 36)) rfl rfl rfl (PV_load Try.underlying26 rfl rfl (Rd.at 1 rfl rfl)) ?_
  refine TL_slA 2 rfl (by omega) fun g5 e5 => ?_
  subst e5
  refine TL_pure (d := (some 37)) rfl rfl rfl (PV_indexAddr (i := 0) Try.underlying26 sz5 rfl rfl rfl (by first | omega | decide | assumption)) ?_
  refine TL_pure (d := (some 38)) rfl rfl rfl (PV_load Try.underlying5 rfl rfl (Rd.at 2 rfl (nums_at0 rfl (by omega)))) ?_
  refine TL_pure (d := (some 5)) rfl rfl rfl (PV_assign rfl) ?_
  refine TL_nil ?_
  refine T_block ?_
  refine T_seq ?_
  refine T_region ?_
  refine TL_pure (d := (some 40)) rfl rfl rfl (PV_move rfl) ?_
  refine TL_pure (d := (some 41)) rfl rfl rfl (PV_bin rfl rfl bin_eql) ?_
  refine TL_pure (d := (some 42)) rfl rfl rfl (PV_move rfl) ?_
  refine TL_split (d := 42) rfl (fun c6 => ?w6q26y) (fun c6 => ?w6q26n)
  try simp only [decide_eq_true_eq, decide_eq_false_iff_not, beq_iff_eq, beq_eq_false_iff_ne, bne_iff_ne, bne_eq_false_iff_eq, ne_eq, Bool.not_eq_true', Bool.not_eq_false', Bool.not_not, Bool.not_true, Bool.not_false, Bool.and_eq_true, Bool.or_eq_true, Bool.and_eq_false_iff, Bool.or_eq_false_iff, Int.not_lt, Int.not_le, gt_iff_lt, ge_iff_le] at c6
  refine TL_yes rfl rfl (gtrue (by exact decide_eq_true (by omega))) (TO_pure rfl (PV_move rfl) ?_)
  refine TL_yes rfl rfl (gtrue (by exact decide_eq_true (by omega))) (TO_pure rfl (PV_nilCheck rfl) ?_)
  refine TL_yes rfl rfl (gtrue (by exact decide_eq_true (by omega))) (TO_pure rfl (PV_fieldAddr (D := 6) Try.underlying72 rfl sz4 (by decide) rfl rfl) ?_)
  refine TL_yes rfl rfl (gtrue (by exact decide_eq_true (by omega))) (TO_pure rfl (PV_load Try.underlying4 rfl rfl (Rd.at 1 rfl rfl)) ?_)
  refine TL_pure (d := (some 47)) rfl rfl rfl (PV_pickAnd rfl rfl rfl) ?_
  refine TL_pure (d := (some 39)) rfl rfl rfl (PV_assign rfl) ?_
  refine TL_nil ?_
  refine T_else rfl (by (simp_all; done)) ?_
  refine T_seq ?_
  refine T_region ?_
  refine TL_pure (d := (some 52)) rfl rfl rfl (PV_move rfl) ?_
  refine TL_pure (d := (some 53)) rfl rfl rfl (PV_bin rfl rfl bin_eql) ?_
  refine TL_pure (d := (some 54)) rfl rfl rfl (PV_move rfl) ?_
  refine TL_no (b := false) rfl rfl (gfalse (by exact decide_eq_false (by omega))) rfl ?_
  refine TL_no (b := false) rfl rfl (gfalse (by exact decide_eq_false (by omega))) rfl ?_
  refine TL_no (b := false) rfl rfl (gfalse (by exact decide_eq_false (by omega))) rfl ?_
  refine TL_no (b := false) rfl rfl (gfalse (by exact decide_eq_false (by omega))) rfl ?_
  refine TL_no (b := false) rfl rfl (gfalse (by exact decide_eq_false (by omega))) rfl ?_
  refine TL_no (b := false) rfl rfl (gfalse (by exact decide_eq_false (by omega))) rfl ?_
  refine TL_pure (d := (some 61)) rfl rfl rfl (PV_pickF rfl (by first | assumption | rfl | (simp; done) | (simp; omega) | (simp [*]; done) | (simp [*]; omega)) rfl rfl) ?_
  refine TL_pure (d := (some 62)) rfl rfl rfl (PV_move rfl) ?_
  refine TL_no (b := false) rfl rfl rfl rfl ?_
  refine TL_no (b := false) rfl rfl rfl rfl ?_
  refine TL_no (b := false) rfl rfl rfl rfl ?_
  refine TL_no (b := false) rfl rfl rfl rfl ?_
  refine TL_no (b := false) rfl rfl rfl rfl ?_
  refine TL_no (b := false) rfl rfl rfl rfl ?_
  refine TL_no (b := false) rfl rfl rfl rfl ?_
  refine TL_pure (d := (some 70)) rfl rfl rfl (PV_pickF rfl (by first | assumption | rfl | (simp; done) | (simp; omega) | (simp [*]; done) | (simp [*]; omega)) rfl rfl) ?_
  refine TL_pure (d := (some 51)) rfl rfl rfl (PV_assign rfl) ?_
  refine TL_nil ?_
  refine T_else rfl (by rfl) ?_
  refine T_seq ?_
  refine T_region ?_
  refine TL_pure (d := (some 75)) rfl rfl rfl (PV_move rfl) ?_
  refine TL_pure (d := (some 76)) rfl rfl rfl (PV_bin rfl rfl bin_eql) ?_
  refine TL_pure (d := (some 77)) rfl rfl rfl (PV_move rfl) ?_
  refine TL_no (b := false) rfl rfl (gfalse (by exact decide_eq_false (by omega))) rfl ?_
  refine TL_no (b := false) rfl rfl (gfalse (by exact decide_eq_false (by omega))) rfl ?_
  refine TL_no (b := false) rfl rfl (gfalse (by exact decide_eq_false (by omega))) rfl ?_
  refine TL_no (b := false) rfl rfl (gfalse (by exact decide_eq_false (by omega))) rfl ?_
  refine TL_no (b := false) rfl rfl (gfalse (by exact decide_eq_false (by omega))) rfl ?_
  refine TL_no (b := false) rfl rfl (gfalse (by exact decide_eq_false (by omega))) rfl ?_
  refine TL_pure (d := (some 84)) rfl rfl rfl (PV_pickF rfl (by first | assumption | rfl | (simp; done) | (simp; omega) | (simp [*]; done) | (simp [*]; omega)) rfl rfl) ?_
  refine TL_pure (d := (some 74)) rfl rfl rfl (PV_assign rfl) ?_
  refine TL_nil ?_
  refine T_else rfl (by rfl) ?_
  refine T_skip ?_
  refine T_seq ?_
  refine T_drawn (WH _ _ _) mixed (fun w h => h) ?_
  refine TA_take (dd := (some 86)) 0 rfl (by kernel_rfl) (by kernel_rfl) (by kernel_rfl) rfl rfl rfl (PV_move rfl) ?_
  refine TA_take (dd := (some 87)) 1 rfl (by kernel_rfl) (by kernel_rfl) (by kernel_rfl) rfl rfl rfl (PV_nilCheck rfl) ?_
  refine TA_take (dd := (some 88)) 2 rfl (by kernel_rfl) (by kernel_rfl) (by kernel_rfl) rfl rfl rfl (PV_fieldAddr (D := 7) Try.underlying72 rfl sz26 (by decide) rfl rfl) ?_
  refine TA_take (dd := (some 89)) 3 rfl (by kernel_rfl) (by kernel_rfl) (by kernel_rfl) rfl rfl rfl (PV_load Try.underlying26 rfl rfl (Rd.at 1 rfl rfl)) ?_
  refine TA_take (dd := (some 90)) 4 rfl (by kernel_rfl) (by kernel_rfl) (by kernel_rfl) rfl rfl rfl (PV_move rfl) ?_
  refine TA_take (dd := (some 91)) 5 rfl (by kernel_rfl) (by kernel_rfl) (by kernel_rfl) rfl rfl rfl (PV_nilCheck rfl) ?_
  refine TA_take (dd := (some 92)) 6 rfl (by kernel_rfl) (by kernel_rfl) (by kernel_rfl) rfl rfl rfl (PV_fieldAddr (D := 0) Try.underlying72 rfl sz4 (by decide) rfl rfl) ?_
  refine TA_take (dd := (some 93)) 7 rfl (by kernel_rfl) (by kernel_rfl) (by kernel_rfl) rfl rfl rfl (PV_load Try.underlying4 rfl rfl (Rd.at 1 rfl rfl)) ?_
  refine TA_hardG (rs := [8, 12]) (by kernel_rfl) (by decide) ?_
  refine List.forall_mem_cons.2 ⟨?w7q26_8, List.forall_mem_cons.2 ⟨?w7q26_12, by simp⟩⟩
  refine ⟨_, rfl, Or.inl rfl, (TO_call0 call15 rfl rfl (t52yes _ ?sd10q26_1 ?sd10q26_2 ?sd10q26_3 ?sd10q26_4 hu ?sd10q26_6) ?_)⟩
  case sd10q26_1 => exact Shows.at 2 rfl
  case sd10q26_2 => omega
  case sd10q26_3 => omega
  case sd10q26_4 => exact hc2
  case sd10q26_6 => omega
  rintro v94_11 H94_11 ⟨A'_11, c'_11, rfl, h_11_0, rfl⟩
  refine ⟨by intro w h; first | exact h | exact trivial | (refine WH.sub h ?_; (repeat (first | exact List.Sublist.refl _ | exact List.sublist_append_right _ _ | exact List.sublist_append_left _ _ | apply List.Sublist.cons | refine List.Sublist.trans ?_ (List.sublist_append_left _ _))); done) | (refine WH.sub h ?_; (repeat (first | exact List.Sublist.refl _ | exact List.sublist_append_right _ _ | exact List.sublist_append_left _ _ | apply List.Sublist.cons_cons | apply List.Sublist.cons | refine List.Sublist.trans ?_ (List.sublist_append_left _ _))); done), ?_⟩
  refine TA_take (dd := (some 85)) 9 rfl (by kernel_rfl) (by kernel_rfl) (by kernel_rfl) rfl rfl rfl (PV_move rfl) ?_
  refine TA_take (dd := (some 95)) 10 rfl (by kernel_rfl) (by kernel_rfl) (by kernel_rfl) rfl rfl rfl (PV_extract rfl rfl) ?_
  refine TA_take (dd := (some 96)) 11 rfl (by kernel_rfl) (by kernel_rfl) (by kernel_rfl) rfl rfl rfl (PV_extract rfl rfl) ?_
  refine TA_one 12 (by kernel_rfl) rfl rfl (TO_alloc rfl zr28 fun g12 => ?_)
  refine ⟨by intro w h; first | exact h | exact trivial | (refine WH.sub h ?_; (repeat (first | exact List.Sublist.refl _ | exact List.sublist_append_right _ _ | exact List.sublist_append_left _ _ | apply List.Sublist.cons | refine List.Sublist.trans ?_ (List.sublist_append_left _ _))); done) | (refine WH.sub h ?_; (repeat (first | exact List.Sublist.refl _ | exact List.sublist_append_right _ _ | exact List.sublist_append_left _ _ | apply List.Sublist.cons_cons | apply List.Sublist.cons | refine List.Sublist.trans ?_ (List.sublist_append_left _ _))); done), ?_⟩
  refine TA_one 13 (by kernel_rfl) rfl rfl (TO_store 0 rfl rfl rfl sz28 rfl rfl rfl (List.forall_mem_cons.2 ⟨by first | rfl, List.forall_mem_cons.2 ⟨by first | rfl, by simp⟩⟩) (by first | exact Nat.le_of_ble_eq_true rfl | (simp; done) | (simp; omega) | omega) ?_)
  refine ⟨by intro w h; first | exact h | exact trivial | (refine WH.sub h ?_; (repeat (first | exact List.Sublist.refl _ | exact List.sublist_append_right _ _ | exact List.sublist_append_left _ _ | apply List.Sublist.cons | refine List.Sublist.trans ?_ (List.sublist_append_left _ _))); done) | (refine WH.sub h ?_; (repeat (first | exact List.Sublist.refl _ | exact List.sublist_append_right _ _ | exact List.sublist_append_left _ _ | apply List.Sublist.cons_cons | apply List.Sublist.cons | refine List.Sublist.trans ?_ (List.sublist_append_left _ _))); done), ?_⟩
  refine TA_take (dd := (some 7)) 14 rfl (by kernel_rfl) (by kernel_rfl) (by kernel_rfl) rfl rfl rfl (PV_assign rfl) ?_
  refine TA_done (by kernel_rfl) ?_
  refine T_seq ?_
  refine T_seq ?_
  refine T_region ?_
  refine TL_pure (d := (some 97)) rfl rfl rfl (PV_move rfl) ?_
  refine TL_nil ?_
  refine T_block ?_
  refine T_seq ?_
  refine T_region ?_
  refine TL_pure (d := (some 99)) rfl rfl rfl (PV_bin rfl rfl bin_eql) ?_
  refine TL_pure (d := (some 98)) rfl rfl rfl (PV_assign rfl) ?_
  refine TL_nil ?_
  refine T_else rfl (by rfl) ?_
  refine T_seq ?_
  refine T_region ?_
  refine TL_pure (d := (some 101)) rfl rfl rfl (PV_bin rfl rfl bin_eql) ?_
  refine TL_pure (d := (some 100)) rfl rfl rfl (PV_assign rfl) ?_
  refine TL_nil ?_
  refine T_else rfl (by rfl) ?_
  refine T_skip ?_
  refine T_seq ?_
  refine T_region ?_
  refine TL_pure (d := (some 106)) rfl rfl rfl (PV_move rfl) ?_
  refine TL_pure (d := (some 107)) rfl rfl rfl (PV_nilCheck rfl) ?_
  refine TL_pure (d := (some 108)) rfl rfl rfl (PV_fieldAddr (D := 7) Try.underlying72 rfl sz26 (by decide) rfl rfl) ?_
  refine TL_cons rfl (TO_store1 3 rfl rfl rfl sz26 rfl rfl rfl (by first | exact Nat.le_of_ble_eq_true rfl | (simp; done) | (simp; omega) | omega) ?_)
  refine TL_nil ?_
  refine T_seq ?_
  refine T_region ?_
  refine TL_pure (d := (some 109)) rfl rfl rfl (PV_move rfl) ?_
  refine TL_pure (d := (some 110)) rfl rfl rfl (PV_loadAt Try.underlying28 rfl sz28 rfl (Rds.take 0 rfl rfl rfl)) ?_
  refine TL_perm ((perm_pick (i := 3) rfl).trans (List.Perm.cons _ ((perm_pick (i := 2) rfl).trans (List.Perm.cons _ ((perm_pick (i := 3) rfl).trans (List.Perm.cons _ (List.Perm.refl _))))))) ?_
  refine TL_cons rfl (TO_call0 call40 rfl rfl (t99 (r := { r.got bs with buf := [] }) (Shows.at 1 rfl) ?sd16q26_1 ?sd16q26_2 ?sd16q26_3 ?sd16q26_4 ?sd16q26_5 ?sd16q26_6) ?_)
  case sd16q26_1 => omega
  case sd16q26_2 => exact hsx
  case sd16q26_3 => exact hk1
  case sd16q26_4 => exact hk2
  case sd16q26_5 => exact hn1
  case sd16q26_6 => exact hn2
  rintro v111_17 H111_17 ⟨A_17, k_17, bA_17, bc_17, dA_17, dc_17, rfl, h_17_0, rfl⟩
  refine TL_pure (d := (some 4)) rfl rfl rfl (PV_assign rfl) ?_
  refine TL_nil ?_
  refine T_dropAt 4 ?_
  refine T_dropAt 4 ?_
  refine T_dropAt 4 ?_
  refine T_ret ?_
  refine ret_ret (ResV_one rfl rfl) ⟨_, List.Sublist.refl _, ⟨_, _, _, _, _, _, rfl, ?sd18q26_0, rfl⟩⟩
  case sd18q26_0 => exact h_17_0
  refine ⟨_, rfl, Or.inl rfl, (TO_alloc rfl zr28 fun g9 => ?_)⟩
  refine ⟨by intro w h; first | exact h | exact trivial | (refine WH.sub h ?_; (repeat (first | exact List.Sublist.refl _ | exact List.sublist_append_right _ _ | exact List.sublist_append_left _ _ | apply List.Sublist.cons | refine List.Sublist.trans ?_ (List.sublist_append_left _ _))); done) | (refine WH.sub h ?_; (repeat (first | exact List.Sublist.refl _ | exact List.sublist_append_right _ _ | exact List.sublist_append_left _ _ | apply List.Sublist.cons_cons | apply List.Sublist.cons | refine List.Sublist.trans ?_ (List.sublist_append_left _ _))); done), ?_⟩
  refine TA_one 8 (by kernel_rfl) rfl rfl (TO_call0 call15 rfl rfl (t52yes _ (Shows.at 3 rfl) ?sd20q26_2 ?sd20q26_3 ?sd20q26_4 ?sd20q26_5 ?sd20q26_6) ?_)
  case sd20q26_2 => omega
  case sd20q26_3 => omega
  case sd20q26_4 => exact hc2
  case sd20q26_5 => exact hu
  case sd20q26_6 => omega
  rintro v94_21 H94_21 ⟨A'_21, c'_21, rfl, h_21_0, rfl⟩
  refine ⟨by intro w h; first | exact h | exact trivial | (refine WH.sub h ?_; (repeat (first | exact List.Sublist.refl _ | exact List.sublist_append_right _ _ | exact List.sublist_append_left _ _ | apply List.Sublist.cons | refine List.Sublist.trans ?_ (List.sublist_append_left _ _))); done) | (refine WH.sub h ?_; (repeat (first | exact List.Sublist.refl _ | exact List.sublist_append_right _ _ | exact List.sublist_append_left _ _ | apply List.Sublist.cons_cons | apply List.Sublist.cons | refine List.Sublist.trans ?_ (List.sublist_append_left _ _))); done), ?_⟩
  refine TA_take (dd := (some 85)) 9 rfl (by kernel_rfl) (by kernel_rfl) (by kernel_rfl) rfl rfl rfl (PV_move rfl) ?_
  refine TA_take (dd := (some 95)) 10 rfl (by kernel_rfl) (by kernel_rfl) (by kernel_rfl) rfl rfl rfl (PV_extract rfl rfl) ?_
  refine TA_take (dd := (some 96)) 11 rfl (by kernel_rfl) (by kernel_rfl) (by kernel_rfl) rfl rfl rfl (PV_extract rfl rfl) ?_
  refine TA_one 13 (by kernel_rfl) rfl rfl (TO_store 1 rfl rfl rfl sz28 rfl rfl rfl (List.forall_mem_cons.2 ⟨by first | rfl, List.forall_mem_cons.2 ⟨by first | rfl, by simp⟩⟩) (by first | exact Nat.le_of_ble_eq_true rfl | (simp; done) | (simp; omega) | omega) ?_)
  refine ⟨by intro w h; first | exact h | exact trivial | (refine WH.sub h ?_; (repeat (first | exact List.Sublist.refl _ | exact List.sublist_append_right _ _ | exact List.sublist_append_left _ _ | apply List.Sublist.cons | refine List.Sublist.trans ?_ (List.sublist_append_left _ _))); done) | (refine WH.sub h ?_; (repeat (first | exact List.Sublist.refl _ | exact List.sublist_append_right _ _ | exact List.sublist_append_left _ _ | apply List.Sublist.cons_cons | apply List.Sublist.cons | refine List.Sublist.trans ?_ (List.sublist_append_left _ _))); done), ?_⟩
  refine TA_take (dd := (some 7)) 14 rfl (by kernel_rfl) (by kernel_rfl) (by kernel_rfl) rfl rfl rfl (PV_assign rfl) ?_
  refine TA_done (by kernel_rfl) ?_
  refine T_seq ?_
  refine T_seq ?_
  refine T_region ?_
  refine TL_pure (d := (some 97)) rfl rfl rfl (PV_move rfl) ?_
  refine TL_nil ?_
  refine T_block ?_
  refine T_seq ?_
  refine T_region ?_
  refine TL_pure (d := (some 99)) rfl rfl rfl (PV_bin rfl rfl bin_eql) ?_
  refine TL_pure (d := (some 98)) rfl rfl rfl (PV_assign rfl) ?_
  refine TL_nil ?_
  refine T_else rfl (by rfl) ?_
  refine T_seq ?_
  refine T_region ?_
  refine TL_pure (d := (some 101)) rfl rfl rfl (PV_bin rfl rfl bin_eql) ?_
  refine TL_pure (d := (some 100)) rfl rfl rfl (PV_assign rfl) ?_
  refine TL_nil ?_
  refine T_else rfl (by rfl) ?_
  refine T_skip ?_
  refine T_seq ?_
  refine T_region ?_
  refine TL_pure (d := (some 106)) rfl rfl rfl (PV_move rfl) ?_
  refine TL_pure (d := (some 107)) rfl rfl rfl (PV_nilCheck rfl) ?_
  refine TL_pure (d := (some 108)) rfl rfl rfl (PV_fieldAddr (D := 7) Try.underlying72 rfl sz26 (by decide) rfl rfl) ?_
  refine TL_cons rfl (TO_store1 3 rfl rfl rfl sz26 rfl rfl rfl (by first | exact Nat.le_of_ble_eq_true rfl | (simp; done) | (simp; omega) | omega) ?_)
  refine TL_nil ?_
  refine T_seq ?_
  refine T_region ?_
  refine TL_pure (d := (some 109)) rfl rfl rfl (PV_move rfl) ?_
  refine TL_pure (d := (some 110)) rfl rfl rfl (PV_loadAt Try.underlying28 rfl sz28 rfl (Rds.take 1 rfl rfl rfl)) ?_
  refine TL_perm ((perm_pick (i := 3) rfl).trans (List.Perm.cons _ ((perm_pick (i := 2) rfl).trans (List.Perm.cons _ ((perm_pick (i := 3) rfl).trans (List.Perm.cons _ (List.Perm.refl _))))))) ?_
  refine TL_cons rfl (TO_call0 call40 rfl rfl (t99 (r := { r.got bs with buf := [] }) (Shows.at 0 rfl) ?sd25q26_1 ?sd25q26_2 ?sd25q26_3 ?sd25q26_4 ?sd25q26_5 ?sd25q26_6) ?_)
  case sd25q26_1 => omega
  case sd25q26_2 => exact hsx
  case sd25q26_3 => exact hk1
  case sd25q26_4 => exact hk2
  case sd25q26_5 => exact hn1
  case sd25q26_6 => exact hn2
  rintro v111_26 H111_26 ⟨A_26, k_26, bA_26, bc_26, dA_26, dc_26, rfl, h_26_0, rfl⟩
  refine TL_pure (d := (some 4)) rfl rfl rfl (PV_assign rfl) ?_
  refine TL_nil ?_
  refine T_dropAt 4 ?_
  refine T_dropAt 4 ?_
  refine T_dropAt 4 ?_
  refine T_ret ?_
  refine ret_ret (ResV_one rfl rfl) ⟨_, List.Sublist.refl _, ⟨_, _, _, _, _, _, rfl, ?sd27q26_0, rfl⟩⟩
  case sd27q26_0 => exact h_26_0
  try simp only [decide_eq_true_eq, decide_eq_false_iff_not, beq_iff_eq, beq_eq_false_iff_ne, bne_iff_ne, bne_eq_false_iff_eq, ne_eq, Bool.not_eq_true', Bool.not_eq_false', Bool.not_not, Bool.not_true, Bool.not_false, Bool.and_eq_true, Bool.or_eq_true, Bool.and_eq_false_iff, Bool.or_eq_false_iff, Int.not_lt, Int.not_le, gt_iff_lt, ge_iff_le] at c6
  refine TL_no (b := false) rfl rfl (gfalse (by exact decide_eq_false (by omega))) rfl ?_
  refine TL_no (b := false) rfl rfl (gfalse (by exact decide_eq_false (by omega))) rfl ?_
  refine TL_no (b := false) rfl rfl (gfalse (by exact decide_eq_false (by omega))) rfl ?_
  refine TL_no (b := false) rfl rfl (gfalse (by exact decide_eq_false (by omega))) rfl ?_
  refine TL_pure (d := (some 47)) rfl rfl rfl (PV_pickF rfl (by first | assumption | rfl | (simp; done) | (simp; omega) | (simp [*]; done) | (simp [*]; omega)) rfl rfl) ?_
  refine TL_pure (d := (some 39)) rfl rfl rfl (PV_assign rfl) ?_
  refine TL_nil ?_
  refine T_else rfl (by rfl) ?_
  refine T_seq ?_
  refine T_region ?_
  refine TL_pure (d := (some 52)) rfl rfl rfl (PV_move rfl) ?_
  refine TL_pure (d := (some 53)) rfl rfl rfl (PV_bin rfl rfl bin_eql) ?_
  refine TL_pure (d := (some 54)) rfl rfl rfl (PV_move rfl) ?_
  refine TL_split (d := 54) rfl (fun c28 => ?w28q26y) (fun c28 => ?w28q26n)
  try simp only [decide_eq_true_eq, decide_eq_false_iff_not, beq_iff_eq, beq_eq_false_iff_ne, bne_iff_ne, bne_eq_false_iff_eq, ne_eq, Bool.not_eq_true', Bool.not_eq_false', Bool.not_not, Bool.not_true, Bool.not_false, Bool.and_eq_true, Bool.or_eq_true, Bool.and_eq_false_iff, Bool.or_eq_false_iff, Int.not_lt, Int.not_le, gt_iff_lt, ge_iff_le] at c28
  refine TL_yes rfl rfl (gtrue (by exact decide_eq_true (by omega))) (TO_pure rfl (PV_move rfl) ?_)
  refine TL_yes rfl rfl (gtrue (by exact decide_eq_true (by omega))) (TO_pure rfl (PV_nilCheck rfl) ?_)
  refine TL_yes rfl rfl (gtrue (by exact decide_eq_true (by omega))) (TO_pure rfl (PV_fieldAddr (D := 7) Try.underlying72 rfl sz26 (by decide) rfl rfl) ?_)
  refine TL_yes rfl rfl (gtrue (by exact decide_eq_true (by omega))) (TO_pure rfl (PV_load Try.underlying26 rfl rfl (Rd.at 1 rfl rfl)) ?_)
  refine TL_yes rfl rfl (gtrue (by exact decide_eq_true (by omega))) (TO_pure rfl (PV_len_slice Try.underlying26 rfl) ?_)
  refine TL_yes rfl rfl (gtrue (by exact decide_eq_true (by omega))) (TO_pure rfl (PV_bin rfl rfl bin_gtr) ?_)
  refine TL_pure (d := (some 61)) rfl rfl rfl (PV_pickAnd rfl rfl rfl) ?_
  refine TL_pure (d := (some 62)) rfl rfl rfl (PV_move rfl) ?_
  refine TL_yes rfl rfl (gtrue (by (simp; omega))) (TO_pure rfl (PV_move rfl) ?_)
  refine TL_yes rfl rfl (gtrue (by (simp; omega))) (TO_pure rfl (PV_nilCheck rfl) ?_)
  refine TL_yes rfl rfl (gtrue (by (simp; omega))) (TO_pure rfl (PV_fieldAddr (D := 7) Try.underlying72 rfl sz26 (by decide) rfl rfl) ?_)
  refine TL_yes rfl rfl (gtrue (by (simp; omega))) (TO_pure rfl (PV_load Try.underlying26 rfl rfl (Rd.at 1 rfl rfl)) ?_)
  refine TL_yes rfl rfl (gtrue (by (simp; omega))) (TO_pure rfl (PV_indexAddr (i := 1) Try.underlying26 sz5 rfl rfl rfl (by first | omega | decide | assumption)) ?_)
  refine TL_yes rfl rfl (gtrue (by (simp; omega))) (TO_pure rfl (PV_load Try.underlying5 rfl rfl (Rd.at 2 rfl (nums_at1 rfl (by omega)))) ?_)
  refine TL_yes rfl rfl (gtrue (by (simp; omega))) (TO_pure rfl (PV_bin rfl rfl bin_eql) ?_)
  refine TL_pure (d := (some 70)) rfl rfl rfl (PV_pickAnd rfl rfl rfl) ?_
  refine TL_pure (d := (some 51)) rfl rfl rfl (PV_assign rfl) ?_
  refine TL_nil ?_
  refine T_else rfl (by (simp; omega)) ?_
  refine T_seq ?_
  refine T_region ?_
  refine TL_pure (d := (some 75)) rfl rfl rfl (PV_move rfl) ?_
  refine TL_pure (d := (some 76)) rfl rfl rfl (PV_bin rfl rfl bin_eql) ?_
  refine TL_pure (d := (some 77)) rfl rfl rfl (PV_move rfl) ?_
  refine TL_yes rfl rfl (gtrue (by exact decide_eq_true (by omega))) (TO_pure rfl (PV_move rfl) ?_)
  refine TL_yes rfl rfl (gtrue (by exact decide_eq_true (by omega))) (TO_pure rfl (PV_nilCheck rfl) ?_)
  refine TL_yes rfl rfl (gtrue (by exact decide_eq_true (by omega))) (TO_pure rfl (PV_fieldAddr (D := 7) Try.underlying72 rfl sz26 (by decide) rfl rfl) ?_)
  refine TL_yes rfl rfl (gtrue (by exact decide_eq_true (by omega))) (TO_pure rfl (PV_load Try.underlying26 rfl rfl (Rd.at 1 rfl rfl)) ?_)
  refine TL_yes rfl rfl (gtrue (by exact decide_eq_true (by omega))) (TO_pure rfl (PV_len_slice Try.underlying26 rfl) ?_)
  refine TL_yes rfl rfl (gtrue (by exact decide_eq_true (by omega))) (TO_pure rfl (PV_bin rfl rfl bin_eql) ?_)
  refine TL_pure (d := (some 84)) rfl rfl rfl (PV_pickAnd rfl rfl rfl) ?_
  refine TL_pure (d := (some 74)) rfl rfl rfl (PV_assign rfl) ?_
  refine TL_nil ?_
  refine T_else rfl (by (simp; omega)) ?_
  refine T_skip ?_
  refine T_seq ?_
  refine T_drawn (WH _ _ _) mixed (fun w h => h) ?_
  refine TA_take (dd := (some 86)) 0 rfl (by kernel_rfl) (by kernel_rfl) (by kernel_rfl) rfl rfl rfl (PV_move rfl) ?_
  refine TA_take (dd := (some 87)) 1 rfl (by kernel_rfl) (by kernel_rfl) (by kernel_rfl) rfl rfl rfl (PV_nilCheck rfl) ?_
  refine TA_take (dd := (some 88)) 2 rfl (by kernel_rfl) (by kernel_rfl) (by kernel_rfl) rfl rfl rfl (PV_fieldAddr (D := 7) Try.underlying72 rfl sz26 (by decide) rfl rfl) ?_
  refine TA_take (dd := (some 89)) 3 rfl (by kernel_rfl) (by kernel_rfl) (by kernel_rfl) rfl rfl rfl (PV_load Try.underlying26 rfl rfl (Rd.at 1 rfl rfl)) ?_
  refine TA_take (dd := (some 90)) 4 rfl (by kernel_rfl) (by kernel_rfl) (by kernel_rfl) rfl rfl rfl (PV_move rfl) ?_
  refine TA_take (dd := (some 91)) 5 rfl (by kernel_rfl) (by kernel_rfl) (by kernel_rfl) rfl rfl rfl (PV_nilCheck rfl) ?_
  refine TA_take (dd := (some 92)) 6 rfl (by kernel_rfl) (by kernel_rfl) (by kernel_rfl) rfl rfl rfl (PV_fieldAddr (D := 0) Try.underlying72 rfl sz4 (by decide) rfl rfl) ?_
  refine TA_take (dd := (some 93)) 7 rfl (by kernel_rfl) (by kernel_rfl) (by kernel_rfl) rfl rfl rfl (PV_load Try.underlying4 rfl rfl (Rd.at 1 rfl rfl)) ?_
  refine TA_hardG (rs := [8, 12]) (by kernel_rfl) (by decide) ?_
  refine List.forall_mem_cons.2 ⟨?w29q26_8, List.forall_mem_cons.2 ⟨?w29q26_12, by simp⟩⟩
  refine ⟨_, rfl, Or.inl rfl, (TO_call0 call15 rfl rfl (t52yes _ ?sd32q26_1 ?sd32q26_2 ?sd32q26_3 ?sd32q26_4 hu ?sd32q26_6) ?_)⟩
  case sd32q26_1 => exact Shows.at 2 rfl
  case sd32q26_2 => omega
  case sd32q26_3 => omega
  case sd32q26_4 => exact hc2
  case sd32q26_6 => omega
  rintro v94_33 H94_33 ⟨A'_33, c'_33, rfl, h_33_0, rfl⟩
  refine ⟨by intro w h; first | exact h | exact trivial | (refine WH.sub h ?_; (repeat (first | exact List.Sublist.refl _ | exact List.sublist_append_right _ _ | exact List.sublist_append_left _ _ | apply List.Sublist.cons | refine List.Sublist.trans ?_ (List.sublist_append_left _ _))); done) | (refine WH.sub h ?_; (repeat (first | exact List.Sublist.refl _ | exact List.sublist_append_right _ _ | exact List.sublist_append_left _ _ | apply List.Sublist.cons_cons | apply List.Sublist.cons | refine List.Sublist.trans ?_ (List.sublist_append_left _ _))); done), ?_⟩
  refine TA_take (dd := (some 85)) 9 rfl (by kernel_rfl) (by kernel_rfl) (by kernel_rfl) rfl rfl rfl (PV_move rfl) ?_
  refine TA_take (dd := (some 95)) 10 rfl (by kernel_rfl) (by kernel_rfl) (by kernel_rfl) rfl rfl rfl (PV_extract rfl rfl) ?_
  refine TA_take (dd := (some 96)) 11 rfl (by kernel_rfl) (by kernel_rfl) (by kernel_rfl) rfl rfl rfl (PV_extract rfl rfl) ?_
  refine TA_one 12 (by kernel_rfl) rfl rfl (TO_alloc rfl zr28 fun g34 => ?_)
  refine ⟨by intro w h; first | exact h | exact trivial | (refine WH.sub h ?_; (repeat (first | exact List.Sublist.refl _ | exact List.sublist_append_right _ _ | exact List.sublist_append_left _ _ | apply List.Sublist.cons | refine List.Sublist.trans ?_ (List.sublist_append_left _ _))); done) | (refine WH.sub h ?_; (repeat (first | exact List.Sublist.refl _ | exact List.sublist_append_right _ _ | exact List.sublist_append_left _ _ | apply List.Sublist.cons_cons | apply List.Sublist.cons | refine List.Sublist.trans ?_ (List.sublist_append_left _ _))); done), ?_⟩
  refine TA_one 13 (by kernel_rfl) rfl rfl (TO_store 0 rfl rfl rfl sz28 rfl rfl rfl (List.forall_mem_cons.2 ⟨by first | rfl, List.forall_mem_cons.2 ⟨by first | rfl, by simp⟩⟩) (by first | exact Nat.le_of_ble_eq_true rfl | (simp; done) | (simp; omega) | omega) ?_)
  refine ⟨by intro w h; first | exact h | exact trivial | (refine WH.sub h ?_; (repeat (first | exact List.Sublist.refl _ | exact List.sublist_append_right _ _ | exact List.sublist_append_left _ _ | apply List.Sublist.cons | refine List.Sublist.trans ?_ (List.sublist_append_left _ _))); done) | (refine WH.sub h ?_; (repeat (first | exact List.Sublist.refl _ | exact List.sublist_append_right _ _ | exact List.sublist_append_left _ _ | apply List.Sublist.cons_cons | apply List.Sublist.cons | refine List.Sublist.trans ?_ (List.sublist_append_left _ _))); done), ?_⟩
  refine TA_take (dd := (some 7)) 14 rfl (by kernel_rfl) (by kernel_rfl) (by kernel_rfl) rfl rfl rfl (PV_assign rfl) ?_
  refine TA_done (by kernel_rfl) ?_
  refine T_seq ?_
  refine T_seq ?_
  refine T_region ?_
  refine TL_pure (d := (some 97)) rfl rfl rfl (PV_move rfl) ?_
  refine TL_nil ?_
  refine T_block ?_
  refine T_seq ?_
  refine T_region ?_
  refine TL_pure (d := (some 99)) rfl rfl rfl (PV_bin rfl rfl bin_eql) ?_
  refine TL_pure (d := (some 98)) rfl rfl rfl (PV_assign rfl) ?_
  refine TL_nil ?_
  refine T_else rfl (by rfl) ?_
  refine T_seq ?_
  refine T_region ?_
  refine TL_pure (d := (some 101)) rfl rfl rfl (PV_bin rfl rfl bin_eql) ?_
  refine TL_pure (d := (some 100)) rfl rfl rfl (PV_assign rfl) ?_
  refine TL_nil ?_
  refine T_else rfl (by rfl) ?_
  refine T_skip ?_
  refine T_seq ?_
  refine T_region ?_
  refine TL_pure (d := (some 106)) rfl rfl rfl (PV_move rfl) ?_
  refine TL_pure (d := (some 107)) rfl rfl rfl (PV_nilCheck rfl) ?_
  refine TL_pure (d := (some 108)) rfl rfl rfl (PV_fieldAddr (D := 7) Try.underlying72 rfl sz26 (by decide) rfl rfl) ?_
  refine TL_cons rfl (TO_store1 3 rfl rfl rfl sz26 rfl rfl rfl (by first | exact Nat.le_of_ble_eq_true rfl | (simp; done) | (simp; omega) | omega) ?_)
  refine TL_nil ?_
  refine T_seq ?_
  refine T_region ?_
  refine TL_pure (d := (some 109)) rfl rfl rfl (PV_move rfl) ?_
  refine TL_pure (d := (some 110)) rfl rfl rfl (PV_loadAt Try.underlying28 rfl sz28 rfl (Rds.take 0 rfl rfl rfl)) ?_
  refine TL_perm ((perm_pick (i := 3) rfl).trans (List.Perm.cons _ ((perm_pick (i := 2) rfl).trans (List.Perm.cons _ ((perm_pick (i := 3) rfl).trans (List.Perm.cons _ (List.Perm.refl _))))))) ?_
  refine TL_cons rfl (TO_call0 call40 rfl rfl (t99 (r := { r.got bs with buf := [] }) (Shows.at 1 rfl) ?sd38q26_1 ?sd38q26_2 ?sd38q26_3 ?sd38q26_4 ?sd38q26_5 ?sd38q26_6) ?_)
  case sd38q26_1 => omega
  case sd38q26_2 => exact hsx
  case sd38q26_3 => exact hk1
  case sd38q26_4 => exact hk2
  case sd38q26_5 => exact hn1
  case sd38q26_6 => exact hn2
  rintro v111_39 H111_39 ⟨A_39, k_39, bA_39, bc_39, dA_39, dc_39, rfl, h_39_0, rfl⟩
  refine TL_pure (d := (some 4)) rfl rfl rfl (PV_assign rfl) ?_
  refine TL_nil ?_
  refine T_dropAt 4 ?_
  refine T_dropAt 4 ?_
  refine T_dropAt 4 ?_
  refine T_ret ?_
  refine ret_ret (ResV_one rfl rfl) ⟨_, List.Sublist.refl _, ⟨_, _, _, _, _, _, rfl, ?sd40q26_0, rfl⟩⟩
  case sd40q26_0 => exact h_39_0
  refine ⟨_, rfl, Or.inl rfl, (TO_alloc rfl zr28 fun g31 => ?_)⟩
  refine ⟨by intro w h; first | exact h | exact trivial | (refine WH.sub h ?_; (repeat (first | exact List.Sublist.refl _ | exact List.sublist_append_right _ _ | exact List.sublist_append_left _ _ | apply List.Sublist.cons | refine List.Sublist.trans ?_ (List.sublist_append_left _ _))); done) | (refine WH.sub h ?_; (repeat (first | exact List.Sublist.refl _ | exact List.sublist_append_right _ _ | exact List.sublist_append_left _ _ | apply List.Sublist.cons_cons | apply List.Sublist.cons | refine List.Sublist.trans ?_ (List.sublist_append_left _ _))); done), ?_⟩
  refine TA_one 8 (by kernel_rfl) rfl rfl (TO_call0 call15 rfl rfl (t52yes _ (Shows.at 3 rfl) ?sd42q26_2 ?sd42q26_3 ?sd42q26_4 ?sd42q26_5 ?sd42q26_6) ?_)
  case sd42q26_2 => omega
  case sd42q26_3 => omega
  case sd42q26_4 => exact hc2
  case sd42q26_5 => exact hu
  case sd42q26_6 => omega
  rintro v94_43 H94_43 ⟨A'_43, c'_43, rfl, h_43_0, rfl⟩
  refine ⟨by intro w h; first | exact h | exact trivial | (refine WH.sub h ?_; (repeat (first | exact List.Sublist.refl _ | exact List.sublist_append_right _ _ | exact List.sublist_append_left _ _ | apply List.Sublist.cons | refine List.Sublist.trans ?_ (List.sublist_append_left _ _))); done) | (refine WH.sub h ?_; (repeat (first | exact List.Sublist.refl _ | exact List.sublist_append_right _ _ | exact List.sublist_append_left _ _ | apply List.Sublist.cons_cons | apply List.Sublist.cons | refine List.Sublist.trans ?_ (List.sublist_append_left _ _))); done), ?_⟩
  refine TA_take (dd := (some 85)) 9 rfl (by kernel_rfl) (by kernel_rfl) (by kernel_rfl) rfl rfl rfl (PV_move rfl) ?_
  refine TA_take (dd := (some 95)) 10 rfl (by kernel_rfl) (by kernel_rfl) (by kernel_rfl) rfl rfl rfl (PV_extract rfl rfl) ?_
  refine TA_take (dd := (some 96)) 11 rfl (by kernel_rfl) (by kernel_rfl) (by kernel_rfl) rfl rfl rfl (PV_extract rfl rfl) ?_
  refine TA_one 13 (by kernel_rfl) rfl rfl (TO_store 1 rfl rfl rfl sz28 rfl rfl rfl (List.forall_mem_cons.2 ⟨by first | rfl, List.forall_mem_cons.2 ⟨by first | rfl, by simp⟩⟩) (by first | exact Nat.le_of_ble_eq_true rfl | (simp; done) | (simp; omega) | omega) ?_)
  refine ⟨by intro w h; first | exact h | exact trivial | (refine WH.sub h ?_; (repeat (first | exact List.Sublist.refl _ | exact List.sublist_append_right _ _ | exact List.sublist_append_left _ _ | apply List.Sublist.cons | refine List.Sublist.trans ?_ (List.sublist_append_left _ _))); done) | (refine WH.sub h ?_; (repeat (first | exact List.Sublist.refl _ | exact List.sublist_append_right _ _ | exact List.sublist_append_left _ _ | apply List.Sublist.cons_cons | apply List.Sublist.cons | refine List.Sublist.trans ?_ (List.sublist_append_left _ _))); done), ?_⟩
  refine TA_take (dd := (some 7)) 14 rfl (by kernel_rfl) (by kernel_rfl) (by kernel_rfl) rfl rfl rfl (PV_assign rfl) ?_
  refine TA_done (by kernel_rfl) ?_
  refine T_seq ?_
  refine T_seq ?_
  refine T_region ?_
  refine TL_pure (d := (some 97)) rfl rfl rfl (PV_move rfl) ?_
  refine TL_nil ?_
  refine T_block ?_
  refine T_seq ?_
  refine T_region ?_
  refine TL_pure (d := (some 99)) rfl rfl rfl (PV_bin rfl rfl bin_eql) ?_
  refine TL_pure (d := (some 98)) rfl rfl rfl (PV_assign rfl) ?_
  refine TL_nil ?_
  refine T_else rfl (by rfl) ?_
  refine T_seq ?_
  refine T_region ?_
  refine TL_pure (d := (some 101)) rfl rfl rfl (PV_bin rfl rfl bin_eql) ?_
  refine TL_pure (d := (some 100)) rfl rfl rfl (PV_assign rfl) ?_
  refine TL_nil ?_
  refine T_else rfl (by rfl) ?_
  refine T_skip ?_
  refine T_seq ?_
  refine T_region ?_
  refine TL_pure (d := (some 106)) rfl rfl rfl (PV_move rfl) ?_
  refine TL_pure (d := (some 107)) rfl rfl rfl (PV_nilCheck rfl) ?_
  refine TL_pure (d := (some 108)) rfl rfl rfl (PV_fieldAddr (D := 7) Try.underlying72 rfl sz26 (by decide) rfl rfl) ?_
  refine TL_cons rfl (TO_store1 3 rfl rfl rfl sz26 rfl rfl rfl (by first | exact Nat.le_of_ble_eq_true rfl | (simp; done) | (simp; omega) | omega) ?_)
  refine TL_nil ?_
  refine T_seq ?_
  refine T_region ?_
  refine TL_pure (d := (some 109)) rfl rfl rfl (PV_move rfl) ?_
  refine TL_pure (d := (some 110)) rfl rfl rfl (PV_loadAt Try.underlying28 rfl sz28 rfl (Rds.take 1 rfl rfl rfl)) ?_
  refine TL_perm ((perm_pick (i := 3) rfl).trans (List.Perm.cons _ ((perm_pick (i := 2) rfl).trans (List.Perm.cons _ ((perm_pick (i := 3) rfl).trans (List.Perm.cons _ (List.Perm.refl _))))))) ?_
  refine TL_cons rfl (TO_call0 call40 rfl rfl (t99 (r := { r.got bs with buf := [] }) (Shows.at 0 rfl) ?sd47q26_1 ?sd47q26_2 ?sd47q26_3 ?sd47q26_4 ?sd47q26_5 ?sd47q26_6) ?_)
  case sd47q26_1 => omega
  case sd47q26_2 => exact hsx
  case sd47q26_3 => exact hk1
  case sd47q26_4 => exact hk2
  case sd47q26_5 => exact hn1
  case sd47q26_6 => exact hn2
  rintro v111_48 H111_48 ⟨A_48, k_48, bA_48, bc_48, dA_48, dc_48, rfl, h_48_0, rfl⟩
  refine TL_pure (d := (some 4)) rfl rfl rfl (PV_assign rfl) ?_
  refine TL_nil ?_
  refine T_dropAt 4 ?_
  refine T_dropAt 4 ?_
  refine T_dropAt 4 ?_
  refine T_ret ?_
  refine ret_ret (ResV_one rfl rfl) ⟨_, List.Sublist.refl _, ⟨_, _, _, _, _, _, rfl, ?sd49q26_0, rfl⟩⟩
  case sd49q26_0 => exact h_48_0
  try simp only [decide_eq_true_eq, decide_eq_false_iff_not, beq_iff_eq, beq_eq_false_iff_ne, bne_iff_ne, bne_eq_false_iff_eq, ne_eq, Bool.not_eq_true', Bool.not_eq_false', Bool.not_not, Bool.not_true, Bool.not_false, Bool.and_eq_true, Bool.or_eq_true, Bool.and_eq_false_iff, Bool.or_eq_false_iff, Int.not_lt, Int.not_le, gt_iff_lt, ge_iff_le] at c28
  refine TL_no (b := false) rfl rfl (gfalse (by exact decide_eq_false (by omega))) rfl ?_
  refine TL_no (b := false) rfl rfl (gfalse (by exact decide_eq_false (by omega))) rfl ?_
  refine TL_no (b := false) rfl rfl (gfalse (by exact decide_eq_false (by omega))) rfl ?_
  refine TL_no (b := false) rfl rfl (gfalse (by exact decide_eq_false (by omega))) rfl ?_
  refine TL_no (b := false) rfl rfl (gfalse (by exact decide_eq_false (by omega))) rfl ?_
  refine TL_no (b := false) rfl rfl (gfalse (by exact decide_eq_false (by omega))) rfl ?_
  refine TL_pure (d := (some 61)) rfl rfl rfl (PV_pickF rfl (by first | assumption | rfl | (simp; done) | (simp; omega) | (simp [*]; done) | (simp [*]; omega)) rfl rfl) ?_
  refine TL_pure (d := (some 62)) rfl rfl rfl (PV_move rfl) ?_
  refine TL_no (b := false) rfl rfl rfl rfl ?_
  refine TL_no (b := false) rfl rfl rfl rfl ?_
  refine TL_no (b := false) rfl rfl rfl rfl ?_
  refine TL_no (b := false) rfl rfl rfl rfl ?_
  refine TL_no (b := false) rfl rfl rfl rfl ?_
  refine TL_no (b := false) rfl rfl rfl rfl ?_
  refine TL_no (b := false) rfl rfl rfl rfl ?_
  refine TL_pure (d := (some 70)) rfl rfl rfl (PV_pickF rfl (by first | assumption | rfl | (simp; done) | (simp; omega) | (simp [*]; done) | (simp [*]; omega)) rfl rfl) ?_
  refine TL_pure (d := (some 51)) rfl rfl rfl (PV_assign rfl) ?_
  refine TL_nil ?_
  refine T_else rfl (by rfl) ?_
  refine T_seq ?_
  refine T_region ?_
  refine TL_pure (d := (some 75)) rfl rfl rfl (PV_move rfl) ?_
  refine TL_pure (d := (some 76)) rfl rfl rfl (PV_bin rfl rfl bin_eql) ?_
  refine TL_pure (d := (some 77)) rfl rfl rfl (PV_move rfl) ?_
  refine TL_no (b := false) rfl rfl (gfalse (by exact decide_eq_false (by omega))) rfl ?_
  refine TL_no (b := false) rfl rfl (gfalse (by exact decide_eq_false (by omega))) rfl ?_
  refine TL_no (b := false) rfl rfl (gfalse (by exact decide_eq_false (by omega))) rfl ?_
  refine TL_no (b := false) rfl rfl (gfalse (by exact decide_eq_false (by omega))) rfl ?_
  refine TL_no (b := false) rfl rfl (gfalse (by exact decide_eq_false (by omega))) rfl ?_
  refine TL_no (b := false) rfl rfl (gfalse (by exact decide_eq_false (by omega))) rfl ?_
  refine TL_pure (d := (some 84)) rfl rfl rfl (PV_pickF rfl (by first | assumption | rfl | (simp; done) | (simp; omega) | (simp [*]; done) | (simp [*]; omega)) rfl rfl) ?_
  refine TL_pure (d := (some 74)) rfl rfl rfl (PV_assign rfl) ?_
  refine TL_nil ?_
  refine T_else rfl (by rfl) ?_
  refine T_skip ?_
  refine T_seq ?_
  refine T_drawn (WH _ _ _) mixed (fun w h => h) ?_
  refine TA_take (dd := (some 86)) 0 rfl (by kernel_rfl) (by kernel_rfl) (by kernel_rfl) rfl rfl rfl (PV_move rfl) ?_
  refine TA_take (dd := (some 87)) 1 rfl (by kernel_rfl) (by kernel_rfl) (by kernel_rfl) rfl rfl rfl (PV_nilCheck rfl) ?_
  refine TA_take (dd := (some 88)) 2 rfl (by kernel_rfl) (by kernel_rfl) (by kernel_rfl) rfl rfl rfl (PV_fieldAddr (D := 7) Try.underlying72 rfl sz26 (by decide) rfl rfl) ?_
  refine TA_take (dd := (some 89)) 3 rfl (by kernel_rfl) (by kernel_rfl) (by kernel_rfl) rfl rfl rfl (PV_load Try.underlying26 rfl rfl (Rd.at 1 rfl rfl)) ?_
  refine TA_take (dd := (some 90)) 4 rfl (by kernel_rfl) (by kernel_rfl) (by kernel_rfl) rfl rfl rfl (PV_move rfl) ?_
  refine TA_take (dd := (some 91)) 5 rfl (by kernel_rfl) (by kernel_rfl) (by kernel_rfl) rfl rfl rfl (PV_nilCheck rfl) ?_
  refine TA_take (dd := (some 92)) 6 rfl (by kernel_rfl) (by kernel_rfl) (by kernel_rfl) rfl rfl rfl (PV_fieldAddr (D := 0) Try.underlying72 rfl sz4 (by decide) rfl rfl) ?_
  refine TA_take (dd := (some 93)) 7 rfl (by kernel_rfl) (by kernel_rfl) (by kernel_rfl) rfl rfl rfl (PV_load Try.underlying4 rfl rfl (Rd.at 1 rfl rfl)) ?_
  refine TA_hardG (rs := [8, 12]) (by kernel_rfl) (by decide) ?_
  refine List.forall_mem_cons.2 ⟨?w50q26_8, List.forall_mem_cons.2 ⟨?w50q26_12, by simp⟩⟩
  refine ⟨_, rfl, Or.inl rfl, (TO_call0 call15 rfl rfl (t52yes _ ?sd53q26_1 ?sd53q26_2 ?sd53q26_3 ?sd53q26_4 hu ?sd53q26_6) ?_)⟩
  case sd53q26_1 => exact Shows.at 2 rfl
  case sd53q26_2 => omega
  case sd53q26_3 => omega
  case sd53q26_4 => exact hc2
  case sd53q26_6 => omega
  rintro v94_54 H94_54 ⟨A'_54, c'_54, rfl, h_54_0, rfl⟩
  refine ⟨by intro w h; first | exact h | exact trivial | (refine WH.sub h ?_; (repeat (first | exact List.Sublist.refl _ | exact List.sublist_append_right _ _ | exact List.sublist_append_left _ _ | apply List.Sublist.cons | refine List.Sublist.trans ?_ (List.sublist_append_left _ _))); done) | (refine WH.sub h ?_; (repeat (first | exact List.Sublist.refl _ | exact List.sublist_append_right _ _ | exact List.sublist_append_left _ _ | apply List.Sublist.cons_cons | apply List.Sublist.cons | refine List.Sublist.trans ?_ (List.sublist_append_left _ _))); done), ?_⟩
  refine TA_take (dd := (some 85)) 9 rfl (by kernel_rfl) (by kernel_rfl) (by kernel_rfl) rfl rfl rfl (PV_move rfl) ?_
  refine TA_take (dd := (some 95)) 10 rfl (by kernel_rfl) (by kernel_rfl) (by kernel_rfl) rfl rfl rfl (PV_extract rfl rfl) ?_
  refine TA_take (dd := (some 96)) 11 rfl (by kernel_rfl) (by kernel_rfl) (by kernel_rfl) rfl rfl rfl (PV_extract rfl rfl) ?_
  refine TA_one 12 (by kernel_rfl) rfl rfl (TO_alloc rfl zr28 fun g55 => ?_)
  refine ⟨by intro w h; first | exact h | exact trivial | (refine WH.sub h ?_; (repeat (first | exact List.Sublist.refl _ | exact List.sublist_append_right _ _ | exact List.sublist_append_left _ _ | apply List.Sublist.cons | refine List.Sublist.trans ?_ (List.sublist_append_left _ _))); done) | (refine WH.sub h ?_; (repeat (first | exact List.Sublist.refl _ | exact List.sublist_append_right _ _ | exact List.sublist_append_left _ _ | apply List.Sublist.cons_cons | apply List.Sublist.cons | refine List.Sublist.trans ?_ (List.sublist_append_left _ _))); done), ?_⟩
  refine TA_one 13 (by kernel_rfl) rfl rfl (TO_store 0 rfl rfl rfl sz28 rfl rfl rfl (List.forall_mem_cons.2 ⟨by first | rfl, List.forall_mem_cons.2 ⟨by first | rfl, by simp⟩⟩) (by first | exact Nat.le_of_ble_eq_true rfl | (simp; done) | (simp; omega) | omega) ?_)
  refine ⟨by intro w h; first | exact h | exact trivial | (refine WH.sub h ?_; (repeat (first | exact List.Sublist.refl _ | exact List.sublist_append_right _ _ | exact List.sublist_append_left _ _ | apply List.Sublist.cons | refine List.Sublist.trans ?_ (List.sublist_append_left _ _))); done) | (refine WH.sub h ?_; (repeat (first | exact List.Sublist.refl _ | exact List.sublist_append_right _ _ | exact List.sublist_append_left _ _ | apply List.Sublist.cons_cons | apply List.Sublist.cons | refine List.Sublist.trans ?_ (List.sublist_append_left _ _))); done), ?_⟩
  refine TA_take (dd := (some 7)) 14 rfl (by kernel_rfl) (by kernel_rfl) (by kernel_rfl) rfl rfl rfl (PV_assign rfl) ?_
  refine TA_done (by kernel_rfl) ?_
  refine T_seq ?_
  refine T_seq ?_
  refine T_region ?_
  refine TL_pure (d := (some 97)) rfl rfl rfl (PV_move rfl) ?_
  refine TL_nil ?_
  refine T_block ?_
  refine T_seq ?_
  refine T_region ?_
  refine TL_pure (d := (some 99)) rfl rfl rfl (PV_bin rfl rfl bin_eql) ?_
  refine TL_pure (d := (some 98)) rfl rfl rfl (PV_assign rfl) ?_
  refine TL_nil ?_
  refine T_else rfl (by rfl) ?_
  refine T_seq ?_
  refine T_region ?_
  refine TL_pure (d := (some 101)) rfl rfl rfl (PV_bin rfl rfl bin_eql) ?_
  refine TL_pure (d := (some 100)) rfl rfl rfl (PV_assign rfl) ?_
  refine TL_nil ?_
  refine T_else rfl (by rfl) ?_
  refine T_skip ?_
  refine T_seq ?_
  refine T_region ?_
  refine TL_pure (d := (some 106)) rfl rfl rfl (PV_move rfl) ?_
  refine TL_pure (d := (some 107)) rfl rfl rfl (PV_nilCheck rfl) ?_
  refine TL_pure (d := (some 108)) rfl rfl rfl (PV_fieldAddr (D := 7) Try.underlying72 rfl sz26 (by decide) rfl rfl) ?_
  refine TL_cons rfl (TO_store1 3 rfl rfl rfl sz26 rfl rfl rfl (by first | exact Nat.le_of_ble_eq_true rfl | (simp; done) | (simp; omega) | omega) ?_)
  refine TL_nil ?_
  refine T_seq ?_
  refine T_region ?_
  refine TL_pure (d := (some 109)) rfl rfl rfl (PV_move rfl) ?_
  refine TL_pure (d := (some 110)) rfl rfl rfl (PV_loadAt Try.underlying28 rfl sz28 rfl (Rds.take 0 rfl rfl rfl)) ?_
  refine TL_perm ((perm_pick (i := 3) rfl).trans (List.Perm.cons _ ((perm_pick (i := 2) rfl).trans (List.Perm.cons _ ((perm_pick (i := 3) rfl).trans (List.Perm.cons _ (List.Perm.refl _))))))) ?_
  refine TL_cons rfl (TO_call0 call40 rfl rfl (t99 (r := { r.got bs with buf := [] }) (Shows.at 1 rfl) ?sd59q26_1 ?sd59q26_2 ?sd59q26_3 ?sd59q26_4 ?sd59q26_5 ?sd59q26_6) ?_)
  case sd59q26_1 => omega
  case sd59q26_2 => exact hsx
  case sd59q26_3 => exact hk1
  case sd59q26_4 => exact hk2
  case sd59q26_5 => exact hn1
  case sd59q26_6 => exact hn2
  rintro v111_60 H111_60 ⟨A_60, k_60, bA_60, bc_60, dA_60, dc_60, rfl, h_60_0, rfl⟩
  refine TL_pure (d := (some 4)) rfl rfl rfl (PV_assign rfl) ?_
  refine TL_nil ?_
  refine T_dropAt 4 ?_
  refine T_dropAt 4 ?_
  refine T_dropAt 4 ?_
  refine T_ret ?_
  refine ret_ret (ResV_one rfl rfl) ⟨_, List.Sublist.refl _, ⟨_, _, _, _, _, _, rfl, ?sd61q26_0, rfl⟩⟩
  case sd61q26_0 => exact h_60_0
  refine ⟨_, rfl, Or.inl rfl, (TO_alloc rfl zr28 fun g52 => ?_)⟩
  refine ⟨by intro w h; first | exact h | exact trivial | (refine WH.sub h ?_; (repeat (first | exact List.Sublist.refl _ | exact List.sublist_append_right _ _ | exact List.sublist_append_left _ _ | apply List.Sublist.cons | refine List.Sublist.trans ?_ (List.sublist_append_left _ _))); done) | (refine WH.sub h ?_; (repeat (first | exact List.Sublist.refl _ | exact List.sublist_append_right _ _ | exact List.sublist_append_left _ _ | apply List.Sublist.cons_cons | apply List.Sublist.cons | refine List.Sublist.trans ?_ (List.sublist_append_left _ _))); done), ?_⟩
  refine TA_one 8 (by kernel_rfl) rfl rfl (TO_call0 call15 rfl rfl (t52yes _ (Shows.at 3 rfl) ?sd63q26_2 ?sd63q26_3 ?sd63q26_4 ?sd63q26_5 ?sd63q26_6) ?_)
  case sd63q26_2 => omega
  case sd63q26_3 => omega
  case sd63q26_4 => exact hc2
  case sd63q26_5 => exact hu
  case sd63q26_6 => omega
  rintro v94_64 H94_64 ⟨A'_64, c'_64, rfl, h_64_0, rfl⟩
  refine ⟨by intro w h; first | exact h | exact trivial | (refine WH.sub h ?_; (repeat (first | exact List.Sublist.refl _ | exact List.sublist_append_right _ _ | exact List.sublist_append_left _ _ | apply List.Sublist.cons | refine List.Sublist.trans ?_ (List.sublist_append_left _ _))); done) | (refine WH.sub h ?_; (repeat (first | exact List.Sublist.refl _ | exact List.sublist_append_right _ _ | exact List.sublist_append_left _ _ | apply List.Sublist.cons_cons | apply List.Sublist.cons | refine List.Sublist.trans ?_ (List.sublist_append_left _ _))); done), ?_⟩
  refine TA_take (dd := (some 85)) 9 rfl (by kernel_rfl) (by kernel_rfl) (by kernel_rfl) rfl rfl rfl (PV_move rfl) ?_
  refine TA_take (dd := (some 95)) 10 rfl (by kernel_rfl) (by kernel_rfl) (by kernel_rfl) rfl rfl rfl (PV_extract rfl rfl) ?_
  refine TA_take (dd := (some 96)) 11 rfl (by kernel_rfl) (by kernel_rfl) (by kernel_rfl) rfl rfl rfl (PV_extract rfl rfl) ?_
  refine TA_one 13 (by kernel_rfl) rfl rfl (TO_store 1 rfl rfl rfl sz28 rfl rfl rfl (List.forall_mem_cons.2 ⟨by first | rfl, List.forall_mem_cons.2 ⟨by first | rfl, by simp⟩⟩) (by first | exact Nat.le_of_ble_eq_true rfl | (simp; done) | (simp; omega) | omega) ?_)
  refine ⟨by intro w h; first | exact h | exact trivial | (refine WH.sub h ?_; (repeat (first | exact List.Sublist.refl _ | exact List.sublist_append_right _ _ | exact List.sublist_append_left _ _ | apply List.Sublist.cons | refine List.Sublist.trans ?_ (List.sublist_append_left _ _))); done) | (refine WH.sub h ?_; (repeat (first | exact List.Sublist.refl _ | exact List.sublist_append_right _ _ | exact List.sublist_append_left _ _ | apply List.Sublist.cons_cons | apply List.Sublist.cons | refine List.Sublist.trans ?_ (List.sublist_append_left _ _))); done), ?_⟩
  refine TA_take (dd := (some 7)) 14 rfl (by kernel_rfl) (by kernel_rfl) (by kernel_rfl) rfl rfl rfl (PV_assign rfl) ?_
  refine TA_done (by kernel_rfl) ?_
  refine T_seq ?_
  refine T_seq ?_
  refine T_region ?_
  refine TL_pure (d := (some 97)) rfl rfl rfl (PV_move rfl) ?_
  refine TL_nil ?_
  refine T_block ?_
  refine T_seq ?_
  refine T_region ?_
  refine TL_pure (d := (some 99)) rfl rfl rfl (PV_bin rfl rfl bin_eql) ?_
  refine TL_pure (d := (some 98)) rfl rfl rfl (PV_assign rfl) ?_
  refine TL_nil ?_
  refine T_else rfl (by rfl) ?_
  refine T_seq ?_
  refine T_region ?_
  refine TL_pure (d := (some 101)) rfl rfl rfl (PV_bin rfl rfl bin_eql) ?_
  refine TL_pure (d := (some 100)) rfl rfl rfl (PV_assign rfl) ?_
  refine TL_nil ?_
  refine T_else rfl (by rfl) ?_
  refine T_skip ?_
  refine T_seq ?_
  refine T_region ?_
  refine TL_pure (d := (some 106)) rfl rfl rfl (PV_move rfl) ?_
  refine TL_pure (d := (some 107)) rfl rfl rfl (PV_nilCheck rfl) ?_
  refine TL_pure (d := (some 108)) rfl rfl rfl (PV_fieldAddr (D := 7) Try.underlying72 rfl sz26 (by decide) rfl rfl) ?_
  refine TL_cons rfl (TO_store1 3 rfl rfl rfl sz26 rfl rfl rfl (by first | exact Nat.le_of_ble_eq_true rfl | (simp; done) | (simp; omega) | omega) ?_)
  refine TL_nil ?_
  refine T_seq ?_
  refine T_region ?_
  refine TL_pure (d := (some 109)) rfl rfl rfl (PV_move rfl) ?_
  refine TL_pure (d := (some 110)) rfl rfl rfl (PV_loadAt Try.underlying28 rfl sz28 rfl (Rds.take 1 rfl rfl rfl)) ?_
  refine TL_perm ((perm_pick (i := 3) rfl).trans (List.Perm.cons _ ((perm_pick (i := 2) rfl).trans (List.Perm.cons _ ((perm_pick (i := 3) rfl).trans (List.Perm.cons _ (List.Perm.refl _))))))) ?_
  refine TL_cons rfl (TO_call0 call40 rfl rfl (t99 (r := { r.got bs with buf := [] }) (Shows.at 0 rfl) ?sd68q26_1 ?sd68q26_2 ?sd68q26_3 ?sd68q26_4 ?sd68q26_5 ?sd68q26_6) ?_)
  case sd68q26_1 => omega
  case sd68q26_2 => exact hsx
  case sd68q26_3 => exact hk1
  case sd68q26_4 => exact hk2
  case sd68q26_5 => exact hn1
  case sd68q26_6 => exact hn2
  rintro v111_69 H111_69 ⟨A_69, k_69, bA_69, bc_69, dA_69, dc_69, rfl, h_69_0, rfl⟩
  refine TL_pure (d := (some 4)) rfl rfl rfl (PV_assign rfl) ?_
  refine TL_nil ?_
  refine T_dropAt 4 ?_
  refine T_dropAt 4 ?_
  refine T_dropAt 4 ?_
  refine T_ret ?_
  refine ret_ret (ResV_one rfl rfl) ⟨_, List.Sublist.refl _, ⟨_, _, _, _, _, _, rfl, ?sd70q26_0, rfl⟩⟩
  case sd70q26_0 => exact h_69_0
theorem put_bad {g bc dc : Nat} {bA dA : Option Addr} (r : Rc) {Ab : Option Addr} {m cb : Nat} {bs : List Int} (hx : Shows (WH w0 B X) Ab m 1 (nums .u8 bs)) (hm : bs.length = m) (hu : U8s (r.buf ++ bs)) (hlb : r.buf.length + m ≤ 1000000000) (hdl : r.dat.length ≤ 1000000000) (hk1 : 0 ≤ r.blocks) (hk2 : r.blocks ≤ 1000000) (hn1 : 0 ≤ r.number) (hn2 : r.number ≤ 255) (ho : r.over = false) (hb0 : 0 < bs.length) (h4 : ¬ (rd (r.buf ++ bs) 0 = 4 ∧ r.close = true)) (h5 : ¬ (rd (r.buf ++ bs) 0 = 24 ∧ (r.buf ++ bs).length > 1 ∧ rd (r.buf ++ bs) 1 = 24)) (h6 : ¬ (rd (r.buf ++ bs) 0 = 24 ∧ (r.buf ++ bs).length = 1)) (h9 : scanS (r.buf ++ bs) r.crc = 1) :
    TCall Try.prog w0 B 33 #[.pointer (some ⟨g, 0, none⟩), .slice Ab m cb] (fun v H' => RGives g ([21]) ({ r.got bs with buf := [] }) X v H') (rcC g bA bc dA dc r :: byC bA bc r.buf :: byC dA dc r.dat :: X) := by
  have hlen : (r.buf ++ bs).length = r.buf.length + bs.length := List.length_append
  have hsd := scanD_le (r.buf ++ bs) r.crc
  refine TCall_intro (args := [_, _]) Try.func33 rfl Try.ntmps33 (Nat.le_of_ble_eq_true rfl) ?_
  refine T_addNil 1 ?_
  refine T_seq ?_
  refine T_region ?_
  refine TL_pure (d := (some 4)) rfl rfl rfl (PV_assign rfl) ?_
  refine TL_nil ?_
  refine T_seq ?_
  refine T_seq ?_
  refine T_region ?_
  refine TL_pure (d := (some 8)) rfl rfl rfl (PV_move rfl) ?_
  refine TL_pure (d := (some 9)) rfl rfl rfl (PV_nilCheck rfl) ?_
  refine TL_pure (d := (some 10)) rfl rfl rfl (PV_fieldAddr (D := 11) Try.underlying72 rfl sz4 (by decide) rfl rfl) ?_
  refine TL_pure (d := (some 11)) rfl rfl rfl (PV_load Try.underlying4 rfl rfl (Rd.at 1 rfl rfl)) ?_
  refine TL_pure (d := (some 12)) rfl rfl rfl (PV_move rfl) ?_
  refine TL_yes rfl rfl (gfalse (by with_reducible assumption)) (TO_pure rfl (PV_move rfl) ?_)
  refine TL_yes rfl rfl (gfalse (by with_reducible assumption)) (TO_pure rfl (PV_len_slice Try.underlying26 rfl) ?_)
  refine TL_yes rfl rfl (gfalse (by with_reducible assumption)) (TO_pure rfl (PV_bin rfl rfl bin_eql) ?_)
  refine TL_pure (d := (some 16)) rfl rfl rfl (PV_pickOr rfl rfl rfl) ?_
  refine TL_nil ?_
  refine T_else rfl (by (simp [*]; omega)) ?_
  refine T_skip ?_
  refine T_seq ?_
  refine T_region ?_
  refine TL_pure (d := (some 17)) rfl rfl rfl (PV_move rfl) ?_
  refine TL_pure (d := (some 18)) rfl rfl rfl (PV_move rfl) ?_
  refine TL_pure (d := (some 19)) rfl rfl rfl (PV_nilCheck rfl) ?_
  refine TL_pure (d := (some 20)) rfl rfl rfl (PV_fieldAddr (D := 1) Try.underlying72 rfl sz3 (by decide) rfl rfl) ?_
  refine TL_pure (d := (some 21)) rfl rfl rfl (PV_load Try.underlying3 rfl rfl (Rd.at 1 rfl rfl)) ?_
  refine TL_pure (d := (some 22)) rfl rfl rfl (PV_nilCheck rfl) ?_
  refine TL_pure (d := (some 23)) rfl rfl rfl (PV_fieldAddr (D := 3) Try.underlying72 rfl sz3 (by decide) rfl rfl) ?_
  refine TL_cons rfl (TO_store1 1 rfl rfl rfl sz3 rfl rfl rfl (by first | exact Nat.le_of_ble_eq_true rfl | (simp; done) | (simp; omega) | omega) ?_)
  refine TL_nil ?_
  refine T_seq ?_
  refine T_region ?_
  refine TL_pure (d := (some 24)) rfl rfl rfl (PV_move rfl) ?_
  refine TL_pure (d := (some 25)) rfl rfl rfl (PV_move rfl) ?_
  refine TL_pure (d := (some 26)) rfl rfl rfl (PV_nilCheck rfl) ?_
  refine TL_pure (d := (some 27)) rfl rfl rfl (PV_fieldAddr (D := 7) Try.underlying72 rfl sz26 (by decide) rfl rfl) ?_
  refine TL_pure (d := (some 28)) rfl rfl rfl (PV_load Try.underlying26 rfl rfl (Rd.at 1 rfl rfl)) ?_
  refine TL_pure (d := (some 29)) rfl rfl rfl (PV_move rfl) ?_
  refine TL_cons rfl (TO_appendB 2 rfl Try.underlying26 zb5 rfl rfl rfl rfl (Shows.mono hx (fun w h => h.sub (by (repeat (first | exact List.Sublist.refl _ | exact List.sublist_append_right _ _ | exact List.sublist_append_left _ _ | apply List.Sublist.cons | refine List.Sublist.trans ?_ (List.sublist_append_left _ _))); done))) ?bb2q42 ?bc2q42 fun A2 c2 hc2 => ?_)
  case bb2q42 => omega
  case bc2q42 => omega
  refine TL_pure (d := (some 31)) rfl rfl rfl (PV_nilCheck rfl) ?_
  refine TL_pure (d := (some 32)) rfl rfl rfl (PV_fieldAddr (D := 7) Try.underlying72 rfl sz26 (by decide) rfl rfl) ?_
  refine TL_cons rfl (TO_store1 1 rfl rfl rfl sz26 rfl rfl rfl (by first | exact Nat.le_of_ble_eq_true rfl | (simp; done) | (simp; omega) | omega) ?_)
  refine TL_nil ?_
  refine T_seq ?_
  refine T_seq ?_
  refine T_region ?_
  refine TL_pure (d := (some 33)) rfl rfl rfl (PV_move rfl) ?_
  refine TL_pure (d := (some 34)) rfl rfl rfl (PV_nilCheck rfl) ?_
  refine TL_pure (d := (some 35)) rfl rfl rfl (PV_fieldAddr (D := 7) Try.underlying72 rfl sz26 (by decide) rfl rfl) ?_
  refine TL_pure (d := (some 36)) rfl rfl rfl (PV_load Try.underlying26 rfl rfl (Rd.at 1 rfl rfl)) ?_
  refine TL_slA 2 rfl (by omega) fun g5 e5 => ?_
  subst e5
  refine TL_pure (d := (some 37)) rfl rfl rfl (PV_indexAddr (i := 0) Try.underlying26 sz5 rfl rfl rfl (by first | omega | decide | assumption)) ?_
  refine TL_pure (d := (some 38)) rfl rfl rfl (PV_load Try.underlying5 rfl rfl (Rd.at 2 rfl (nums_at0 rfl (by omega)))) ?_
  refine TL_pure (d := (some 5)) rfl rfl rfl (PV_assign rfl) ?_
  refine TL_nil ?_
  refine T_block ?_
  refine T_seq ?_
  refine T_region ?_
  refine TL_pure (d := (some 40)) rfl rfl rfl (PV_move rfl) ?_
  refine TL_pure (d := (some 41)) rfl rfl rfl (PV_bin rfl rfl bin_eql) ?_
  refine TL_pure (d := (some 42)) rfl rfl rfl (PV_move rfl) ?_
  refine TL_split (d := 42) rfl (fun c6 => ?w6q42y) (fun c6 => ?w6q42n)
  try simp only [decide_eq_true_eq, decide_eq_false_iff_not, beq_iff_eq, beq_eq_false_iff_ne, bne_iff_ne, bne_eq_false_iff_eq, ne_eq, Bool.not_eq_true', Bool.not_eq_false', Bool.not_not, Bool.not_true, Bool.not_false, Bool.and_eq_true, Bool.or_eq_true, Bool.and_eq_false_iff, Bool.or_eq_false_iff, Int.not_lt, Int.not_le, gt_iff_lt, ge_iff_le] at c6
  refine TL_yes rfl rfl (gtrue (by exact decide_eq_true (by omega))) (TO_pure rfl (PV_move rfl) ?_)
  refine TL_yes rfl rfl (gtrue (by exact decide_eq_true (by omega))) (TO_pure rfl (PV_nilCheck rfl) ?_)
  refine TL_yes rfl rfl (gtrue (by exact decide_eq_true (by omega))) (TO_pure rfl (PV_fieldAddr (D := 6) Try.underlying72 rfl sz4 (by decide) rfl rfl) ?_)
  refine TL_yes rfl rfl (gtrue (by exact decide_eq_true (by omega))) (TO_pure rfl (PV_load Try.underlying4 rfl rfl (Rd.at 1 rfl rfl)) ?_)
  refine TL_pure (d := (some 47)) rfl rfl rfl (PV_pickAnd rfl rfl rfl) ?_
  refine TL_pure (d := (some 39)) rfl rfl rfl (PV_assign rfl) ?_
  refine TL_nil ?_
  refine T_else rfl (by (simp_all; done)) ?_
  refine T_seq ?_
  refine T_region ?_
  refine TL_pure (d := (some 52)) rfl rfl rfl (PV_move rfl) ?_
  refine TL_pure (d := (some 53)) rfl rfl rfl (PV_bin rfl rfl bin_eql) ?_
  refine TL_pure (d := (some 54)) rfl rfl rfl (PV_move rfl) ?_
  refine TL_no (b := false) rfl rfl (gfalse (by exact decide_eq_false (by omega))) rfl ?_
  refine TL_no (b := false) rfl rfl (gfalse (by exact decide_eq_false (by omega))) rfl ?_
  refine TL_no (b := false) rfl rfl (gfalse (by exact decide_eq_false (by omega))) rfl ?_
  refine TL_no (b := false) rfl rfl (gfalse (by exact decide_eq_false (by omega))) rfl ?_
  refine TL_no (b := false) rfl rfl (gfalse (by exact decide_eq_false (by omega))) rfl ?_
  refine TL_no (b := false) rfl rfl (gfalse (by exact decide_eq_false (by omega))) rfl ?_
  refine TL_pure (d := (some 61)) rfl rfl rfl (PV_pickF rfl (by first | assumption | rfl | (simp; done) | (simp; omega) | (simp [*]; done) | (simp [*]; omega)) rfl rfl) ?_
  refine TL_pure (d := (some 62)) rfl rfl rfl (PV_move rfl) ?_
  refine TL_no (b := false) rfl rfl rfl rfl ?_
  refine TL_no (b := false) rfl rfl rfl rfl ?_
  refine TL_no (b := false) rfl rfl rfl rfl ?_
  refine TL_no (b := false) rfl rfl rfl rfl ?_
  refine TL_no (b := false) rfl rfl rfl rfl ?_
  refine TL_no (b := false) rfl rfl rfl rfl ?_
  refine TL_no (b := false) rfl rfl rfl rfl ?_
  refine TL_pure (d := (some 70)) rfl rfl rfl (PV_pickF rfl (by first | assumption | rfl | (simp; done) | (simp; omega) | (simp [*]; done) | (simp [*]; omega)) rfl rfl) ?_
  refine TL_pure (d := (some 51)) rfl rfl rfl (PV_assign rfl) ?_
  refine TL_nil ?_
  refine T_else rfl (by rfl) ?_
  refine T_seq ?_
  refine T_region ?_
  refine TL_pure (d := (some 75)) rfl rfl rfl (PV_move rfl) ?_
  refine TL_pure (d := (some 76)) rfl rfl rfl (PV_bin rfl rfl bin_eql) ?_
  refine TL_pure (d := (some 77)) rfl rfl rfl (PV_move rfl) ?_
  refine TL_no (b := false) rfl rfl (gfalse (by exact decide_eq_false (by omega))) rfl ?_
  refine TL_no (b := false) rfl rfl (gfalse (by exact decide_eq_false (by omega))) rfl ?_
  refine TL_no (b := false) rfl rfl (gfalse (by exact decide_eq_false (by omega))) rfl ?_
  refine TL_no (b := false) rfl rfl (gfalse (by exact decide_eq_false (by omega))) rfl ?_
  refine TL_no (b := false) rfl rfl (gfalse (by exact decide_eq_false (by omega))) rfl ?_
  refine TL_no (b := false) rfl rfl (gfalse (by exact decide_eq_false (by omega))) rfl ?_
  refine TL_pure (d := (some 84)) rfl rfl rfl (PV_pickF rfl (by first | assumption | rfl | (simp; done) | (simp; omega) | (simp [*]; done) | (simp [*]; omega)) rfl rfl) ?_
  refine TL_pure (d := (some 74)) rfl rfl rfl (PV_assign rfl) ?_
  refine TL_nil ?_
  refine T_else rfl (by rfl) ?_
  refine T_skip ?_
  refine T_seq ?_
  refine T_drawn (WH _ _ _) mixed (fun w h => h) ?_
  refine TA_take (dd := (some 86)) 0 rfl (by kernel_rfl) (by kernel_rfl) (by kernel_rfl) rfl rfl rfl (PV_move rfl) ?_
  refine TA_take (dd := (some 87)) 1 rfl (by kernel_rfl) (by kernel_rfl) (by kernel_rfl) rfl rfl rfl (PV_nilCheck rfl) ?_
  refine TA_take (dd := (some 88)) 2 rfl (by kernel_rfl) (by kernel_rfl) (by kernel_rfl) rfl rfl rfl (PV_fieldAddr (D := 7) Try.underlying72 rfl sz26 (by decide) rfl rfl) ?_
  refine TA_take (dd := (some 89)) 3 rfl (by kernel_rfl) (by kernel_rfl) (by kernel_rfl) rfl rfl rfl (PV_load Try.underlying26 rfl rfl (Rd.at 1 rfl rfl)) ?_
  refine TA_take (dd := (some 90)) 4 rfl (by kernel_rfl) (by kernel_rfl) (by kernel_rfl) rfl rfl rfl (PV_move rfl) ?_
  refine TA_take (dd := (some 91)) 5 rfl (by kernel_rfl) (by kernel_rfl) (by kernel_rfl) rfl rfl rfl (PV_nilCheck rfl) ?_
  refine TA_take (dd := (some 92)) 6 rfl (by kernel_rfl) (by kernel_rfl) (by kernel_rfl) rfl rfl rfl (PV_fieldAddr (D := 0) Try.underlying72 rfl sz4 (by decide) rfl rfl) ?_
  refine TA_take (dd := (some 93)) 7 rfl (by kernel_rfl) (by kernel_rfl) (by kernel_rfl) rfl rfl rfl (PV_load Try.underlying4 rfl rfl (Rd.at 1 rfl rfl)) ?_
  refine TA_hardG (rs := [8, 12]) (by kernel_rfl) (by decide) ?_
  refine List.forall_mem_cons.2 ⟨?w7q42_8, List.forall_mem_cons.2 ⟨?w7q42_12, by simp⟩⟩
  refine ⟨_, rfl, Or.inl rfl, (TO_call0 call15 rfl rfl (t52no _ ?sd10q42_1 ?sd10q42_2 ?sd10q42_3 ?sd10q42_4 hu ?sd10q42_6) ?_)⟩
  case sd10q42_1 => exact Shows.at 2 rfl
  case sd10q42_2 => omega
  case sd10q42_3 => omega
  case sd10q42_4 => exact hc2
  case sd10q42_6 => omega
  rintro v94_11 H94_11 ⟨rfl, rfl⟩
  refine ⟨by intro w h; first | exact h | exact trivial | (refine WH.sub h ?_; (repeat (first | exact List.Sublist.refl _ | exact List.sublist_append_right _ _ | exact List.sublist_append_left _ _ | apply List.Sublist.cons | refine List.Sublist.trans ?_ (List.sublist_append_left _ _))); done) | (refine WH.sub h ?_; (repeat (first | exact List.Sublist.refl _ | exact List.sublist_append_right _ _ | exact List.sublist_append_left _ _ | apply List.Sublist.cons_cons | apply List.Sublist.cons | refine List.Sublist.trans ?_ (List.sublist_append_left _ _))); done), ?_⟩
  refine TA_take (dd := (some 85)) 9 rfl (by kernel_rfl) (by kernel_rfl) (by kernel_rfl) rfl rfl rfl (PV_move rfl) ?_
  refine TA_take (dd := (some 95)) 10 rfl (by kernel_rfl) (by kernel_rfl) (by kernel_rfl) rfl rfl rfl (PV_extract rfl rfl) ?_
  refine TA_take (dd := (some 96)) 11 rfl (by kernel_rfl) (by kernel_rfl) (by kernel_rfl) rfl rfl rfl (PV_extract rfl rfl) ?_
  refine TA_one 12 (by kernel_rfl) rfl rfl (TO_alloc rfl zr28 fun g12 => ?_)
  refine ⟨by intro w h; first | exact h | exact trivial | (refine WH.sub h ?_; (repeat (first | exact List.Sublist.refl _ | exact List.sublist_append_right _ _ | exact List.sublist_append_left _ _ | apply List.Sublist.cons | refine List.Sublist.trans ?_ (List.sublist_append_left _ _))); done) | (refine WH.sub h ?_; (repeat (first | exact List.Sublist.refl _ | exact List.sublist_append_right _ _ | exact List.sublist_append_left _ _ | apply List.Sublist.cons_cons | apply List.Sublist.cons | refine List.Sublist.trans ?_ (List.sublist_append_left _ _))); done), ?_⟩
  refine TA_one 13 (by kernel_rfl) rfl rfl (TO_store 0 rfl rfl rfl sz28 rfl rfl rfl (List.forall_mem_cons.2 ⟨by first | rfl, List.forall_mem_cons.2 ⟨by first | rfl, by simp⟩⟩) (by first | exact Nat.le_of_ble_eq_true rfl | (simp; done) | (simp; omega) | omega) ?_)
  refine ⟨by intro w h; first | exact h | exact trivial | (refine WH.sub h ?_; (repeat (first | exact List.Sublist.refl _ | exact List.sublist_append_right _ _ | exact List.sublist_append_left _ _ | apply List.Sublist.cons | refine List.Sublist.trans ?_ (List.sublist_append_left _ _))); done) | (refine WH.sub h ?_; (repeat (first | exact List.Sublist.refl _ | exact List.sublist_append_right _ _ | exact List.sublist_append_left _ _ | apply List.Sublist.cons_cons | apply List.Sublist.cons | refine List.Sublist.trans ?_ (List.sublist_append_left _ _))); done), ?_⟩
  refine TA_take (dd := (some 7)) 14 rfl (by kernel_rfl) (by kernel_rfl) (by kernel_rfl) rfl rfl rfl (PV_assign rfl) ?_
  refine TA_done (by kernel_rfl) ?_
  refine T_seq ?_
  refine T_seq ?_
  refine T_region ?_
  refine TL_pure (d := (some 97)) rfl rfl rfl (PV_move rfl) ?_
  refine TL_nil ?_
  refine T_block ?_
  refine T_seq ?_
  refine T_region ?_
  refine TL_pure (d := (some 99)) rfl rfl rfl (PV_bin rfl rfl bin_eql) ?_
  refine TL_pure (d := (some 98)) rfl rfl rfl (PV_assign rfl) ?_
  refine TL_nil ?_
  refine T_else rfl (by exact decide_eq_false (by omega)) ?_
  refine T_seq ?_
  refine T_region ?_
  refine TL_pure (d := (some 101)) rfl rfl rfl (PV_bin rfl rfl bin_eql) ?_
  refine TL_pure (d := (some 100)) rfl rfl rfl (PV_assign rfl) ?_
  refine TL_nil ?_
  refine T_then rfl (by exact decide_eq_true (by omega)) ?_
  refine T_seq ?_
  refine T_region ?_
  refine TL_pure (d := (some 102)) rfl rfl rfl (PV_move rfl) ?_
  refine TL_pure (d := (some 103)) rfl rfl rfl (PV_nilCheck rfl) ?_
  refine TL_pure (d := (some 104)) rfl rfl rfl (PV_fieldAddr (D := 7) Try.underlying72 rfl sz26 (by decide) rfl rfl) ?_
  refine TL_cons rfl (TO_store1 2 rfl rfl rfl sz26 rfl rfl rfl (by first | exact Nat.le_of_ble_eq_true rfl | (simp; done) | (simp; omega) | omega) ?_)
  refine TL_nil ?_
  refine T_seq ?_
  refine T_region ?_
  refine TL_cons rfl (TO_bs (cs := [_]) Try.underlying26 zs5 (by decide) rfl rfl rfl rfl rfl rfl fun g15 => ?_)
  refine TL_pure (d := (some 4)) rfl rfl rfl (PV_assign rfl) ?_
  refine TL_nil ?_
  refine T.perm ((perm_pick (i := 0) rfl).trans (List.Perm.cons _ ((perm_pick (i := 2) rfl).trans (List.Perm.cons _ ((perm_pick (i := 1) rfl).trans (List.Perm.cons _ ((perm_pick (i := 2) rfl).trans (List.Perm.cons _ (List.Perm.refl _))))))))) ?_
  refine T_dropAt 4 ?_
  refine T_dropAt 4 ?_
  refine T_ret ?_
  refine ret_ret (ResV_one rfl rfl) ⟨_, List.Sublist.refl _, ⟨_, _, _, _, _, _, rfl, ?sd16q42_0, rfl⟩⟩
  case sd16q42_0 => decide
  refine ⟨_, rfl, Or.inl rfl, (TO_alloc rfl zr28 fun g9 => ?_)⟩
  refine ⟨by intro w h; first | exact h | exact trivial | (refine WH.sub h ?_; (repeat (first | exact List.Sublist.refl _ | exact List.sublist_append_right _ _ | exact List.sublist_append_left _ _ | apply List.Sublist.cons | refine List.Sublist.trans ?_ (List.sublist_append_left _ _))); done) | (refine WH.sub h ?_; (repeat (first | exact List.Sublist.refl _ | exact List.sublist_append_right _ _ | exact List.sublist_append_left _ _ | apply List.Sublist.cons_cons | apply List.Sublist.cons | refine List.Sublist.trans ?_ (List.sublist_append_left _ _))); done), ?_⟩
  refine TA_one 8 (by kernel_rfl) rfl rfl (TO_call0 call15 rfl rfl (t52no _ (Shows.at 3 rfl) ?sd18q42_2 ?sd18q42_3 ?sd18q42_4 ?sd18q42_5 ?sd18q42_6) ?_)
  case sd18q42_2 => omega
  case sd18q42_3 => omega
  case sd18q42_4 => exact hc2
  case sd18q42_5 => exact hu
  case sd18q42_6 => omega
  rintro v94_19 H94_19 ⟨rfl, rfl⟩
  refine ⟨by intro w h; first | exact h | exact trivial | (refine WH.sub h ?_; (repeat (first | exact List.Sublist.refl _ | exact List.sublist_append_right _ _ | exact List.sublist_append_left _ _ | apply List.Sublist.cons | refine List.Sublist.trans ?_ (List.sublist_append_left _ _))); done) | (refine WH.sub h ?_; (repeat (first | exact List.Sublist.refl _ | exact List.sublist_append_right _ _ | exact List.sublist_append_left _ _ | apply List.Sublist.cons_cons | apply List.Sublist.cons | refine List.Sublist.trans ?_ (List.sublist_append_left _ _))); done), ?_⟩
  refine TA_take (dd := (some 85)) 9 rfl (by kernel_rfl) (by kernel_rfl) (by kernel_rfl) rfl rfl rfl (PV_move rfl) ?_
  refine TA_take (dd := (some 95)) 10 rfl (by kernel_rfl) (by kernel_rfl) (by kernel_rfl) rfl rfl rfl (PV_extract rfl rfl) ?_
  refine TA_take (dd := (some 96)) 11 rfl (by kernel_rfl) (by kernel_rfl) (by kernel_rfl) rfl rfl rfl (PV_extract rfl rfl) ?_
  refine TA_one 13 (by kernel_rfl) rfl rfl (TO_store 0 rfl rfl rfl sz28 rfl rfl rfl (List.forall_mem_cons.2 ⟨by first | rfl, List.forall_mem_cons.2 ⟨by first | rfl, by simp⟩⟩) (by first | exact Nat.le_of_ble_eq_true rfl | (simp; done) | (simp; omega) | omega) ?_)
  refine ⟨by intro w h; first | exact h | exact trivial | (refine WH.sub h ?_; (repeat (first | exact List.Sublist.refl _ | exact List.sublist_append_right _ _ | exact List.sublist_append_left _ _ | apply List.Sublist.cons | refine List.Sublist.trans ?_ (List.sublist_append_left _ _))); done) | (refine WH.sub h ?_; (repeat (first | exact List.Sublist.refl _ | exact List.sublist_append_right _ _ | exact List.sublist_append_left _ _ | apply List.Sublist.cons_cons | apply List.Sublist.cons | refine List.Sublist.trans ?_ (List.sublist_append_left _ _))); done), ?_⟩
  refine TA_take (dd := (some 7)) 14 rfl (by kernel_rfl) (by kernel_rfl) (by kernel_rfl) rfl rfl rfl (PV_assign rfl) ?_
  refine TA_done (by kernel_rfl) ?_
  refine T_seq ?_
  refine T_seq ?_
  refine T_region ?_
  refine TL_pure (d := (some 97)) rfl rfl rfl (PV_move rfl) ?_
  refine TL_nil ?_
  refine T_block ?_
  refine T_seq ?_
  refine T_region ?_
  refine TL_pure (d := (some 99)) rfl rfl rfl (PV_bin rfl rfl bin_eql) ?_
  refine TL_pure (d := (some 98)) rfl rfl rfl (PV_assign rfl) ?_
  refine TL_nil ?_
  refine T_else rfl (by exact decide_eq_false (by omega)) ?_
  refine T_seq ?_
  refine T_region ?_
  refine TL_pure (d := (some 101)) rfl rfl rfl (PV_bin rfl rfl bin_eql) ?_
  refine TL_pure (d := (some 100)) rfl rfl rfl (PV_assign rfl) ?_
  refine TL_nil ?_
  refine T_then rfl (by exact decide_eq_true (by omega)) ?_
  refine T_seq ?_
  refine T_region ?_
  refine TL_pure (d := (some 102)) rfl rfl rfl (PV_move rfl) ?_
  refine TL_pure (d := (some 103)) rfl rfl rfl (PV_nilCheck rfl) ?_
  refine TL_pure (d := (some 104)) rfl rfl rfl (PV_fieldAddr (D := 7) Try.underlying72 rfl sz26 (by decide) rfl rfl) ?_
  refine TL_cons rfl (TO_store1 2 rfl rfl rfl sz26 rfl rfl rfl (by first | exact Nat.le_of_ble_eq_true rfl | (simp; done) | (simp; omega) | omega) ?_)
  refine TL_nil ?_
  refine T_seq ?_
  refine T_region ?_
  refine TL_cons rfl (TO_bs (cs := [_]) Try.underlying26 zs5 (by decide) rfl rfl rfl rfl rfl rfl fun g22 => ?_)
  refine TL_pure (d := (some 4)) rfl rfl rfl (PV_assign rfl) ?_
  refine TL_nil ?_
  refine T.perm ((perm_pick (i := 0) rfl).trans (List.Perm.cons _ ((perm_pick (i := 2) rfl).trans (List.Perm.cons _ ((perm_pick (i := 1) rfl).trans (List.Perm.cons _ ((perm_pick (i := 2) rfl).trans (List.Perm.cons _ (List.Perm.refl _))))))))) ?_
  refine T_dropAt 4 ?_
  refine T_dropAt 4 ?_
  refine T_ret ?_
  refine ret_ret (ResV_one rfl rfl) ⟨_, List.Sublist.refl _, ⟨_, _, _, _, _, _, rfl, ?sd23q42_0, rfl⟩⟩
  case sd23q42_0 => decide
  try simp only [decide_eq_true_eq, decide_eq_false_iff_not, beq_iff_eq, beq_eq_false_iff_ne, bne_iff_ne, bne_eq_false_iff_eq, ne_eq, Bool.not_eq_true', Bool.not_eq_false', Bool.not_not, Bool.not_true, Bool.not_false, Bool.and_eq_true, Bool.or_eq_true, Bool.and_eq_false_iff, Bool.or_eq_false_iff, Int.not_lt, Int.not_le, gt_iff_lt, ge_iff_le] at c6
  refine TL_no (b := false) rfl rfl (gfalse (by exact decide_eq_false (by omega))) rfl ?_
  refine TL_no (b := false) rfl rfl (gfalse (by exact decide_eq_false (by omega))) rfl ?_
  refine TL_no (b := false) rfl rfl (gfalse (by exact decide_eq_false (by omega))) rfl ?_
  refine TL_no (b := false) rfl rfl (gfalse (by exact decide_eq_false (by omega))) rfl ?_
  refine TL_pure (d := (some 47)) rfl rfl rfl (PV_pickF rfl (by first | assumption | rfl | (simp; done) | (simp; omega) | (simp [*]; done) | (simp [*]; omega)) rfl rfl) ?_
  refine TL_pure (d := (some 39)) rfl rfl rfl (PV_assign rfl) ?_
  refine TL_nil ?_
  refine T_else rfl (by rfl) ?_
  refine T_seq ?_
  refine T_region ?_
  refine TL_pure (d := (some 52)) rfl rfl rfl (PV_move rfl) ?_
  refine TL_pure (d := (some 53)) rfl rfl rfl (PV_bin rfl rfl bin_eql) ?_
  refine TL_pure (d := (some 54)) rfl rfl rfl (PV_move rfl) ?_
  refine TL_split (d := 54) rfl (fun c24 => ?w24q42y) (fun c24 => ?w24q42n)
  try simp only [decide_eq_true_eq, decide_eq_false_iff_not, beq_iff_eq, beq_eq_false_iff_ne, bne_iff_ne, bne_eq_false_iff_eq, ne_eq, Bool.not_eq_true', Bool.not_eq_false', Bool.not_not, Bool.not_true, Bool.not_false, Bool.and_eq_true, Bool.or_eq_true, Bool.and_eq_false_iff, Bool.or_eq_false_iff, Int.not_lt, Int.not_le, gt_iff_lt, ge_iff_le] at c24
  refine TL_yes rfl rfl (gtrue (by exact decide_eq_true (by omega))) (TO_pure rfl (PV_move rfl) ?_)
  refine TL_yes rfl rfl (gtrue (by exact decide_eq_true (by omega))) (TO_pure rfl (PV_nilCheck rfl) ?_)
  refine TL_yes rfl rfl (gtrue (by exact decide_eq_true (by omega))) (TO_pure rfl (PV_fieldAddr (D := 7) Try.underlying72 rfl sz26 (by decide) rfl rfl) ?_)
  refine TL_yes rfl rfl (gtrue (by exact decide_eq_true (by omega))) (TO_pure rfl (PV_load Try.underlying26 rfl rfl (Rd.at 1 rfl rfl)) ?_)
  refine TL_yes rfl rfl (gtrue (by exact decide_eq_true (by omega))) (TO_pure rfl (PV_len_slice Try.underlying26 rfl) ?_)
  refine TL_yes rfl rfl (gtrue (by exact decide_eq_true (by omega))) (TO_pure rfl (PV_bin rfl rfl bin_gtr) ?_)
  refine TL_pure (d := (some 61)) rfl rfl rfl (PV_pickAnd rfl rfl rfl) ?_
  refine TL_pure (d := (some 62)) rfl rfl rfl (PV_move rfl) ?_
  refine TL_yes rfl rfl (gtrue (by (simp; omega))) (TO_pure rfl (PV_move rfl) ?_)
  refine TL_yes rfl rfl (gtrue (by (simp; omega))) (TO_pure rfl (PV_nilCheck rfl) ?_)
  refine TL_yes rfl rfl (gtrue (by (simp; omega))) (TO_pure rfl (PV_fieldAddr (D := 7) Try.underlying72 rfl sz26 (by decide) rfl rfl) ?_)
  refine TL_yes rfl rfl (gtrue (by (simp; omega))) (TO_pure rfl (PV_load Try.underlying26 rfl rfl (Rd.at 1 rfl rfl)) ?_)
  refine TL_yes rfl rfl (gtrue (by (simp; omega))) (TO_pure rfl (PV_indexAddr (i := 1) Try.underlying26 sz5 rfl rfl rfl (by first | omega | decide | assumption)) ?_)
  refine TL_yes rfl rfl (gtrue (by (simp; omega))) (TO_pure rfl (PV_load Try.underlying5 rfl rfl (Rd.at 2 rfl (nums_at1 rfl (by omega)))) ?_)
  refine TL_yes rfl rfl (gtrue (by (simp; omega))) (TO_pure rfl (PV_bin rfl rfl bin_eql) ?_)
  refine TL_pure (d := (some 70)) rfl rfl rfl (PV_pickAnd rfl rfl rfl) ?_
  refine TL_pure (d := (some 51)) rfl rfl rfl (PV_assign rfl) ?_
  refine TL_nil ?_
  refine T_else rfl (by (simp; omega)) ?_
  refine T_seq ?_
  refine T_region ?_
  refine TL_pure (d := (some 75)) rfl rfl rfl (PV_move rfl) ?_
  refine TL_pure (d := (some 76)) rfl rfl rfl (PV_bin rfl rfl bin_eql) ?_
  refine TL_pure (d := (some 77)) rfl rfl rfl (PV_move rfl) ?_
  refine TL_yes rfl rfl (gtrue (by exact decide_eq_true (by omega))) (TO_pure rfl (PV_move rfl) ?_)
  refine TL_yes rfl rfl (gtrue (by exact decide_eq_true (by omega))) (TO_pure rfl (PV_nilCheck rfl) ?_)
  refine TL_yes rfl rfl (gtrue (by exact decide_eq_true (by omega))) (TO_pure rfl (PV_fieldAddr (D := 7) Try.underlying72 rfl sz26 (by decide) rfl rfl) ?_)
  refine TL_yes rfl rfl (gtrue (by exact decide_eq_true (by omega))) (TO_pure rfl (PV_load Try.underlying26 rfl rfl (Rd.at 1 rfl rfl)) ?_)
  refine TL_yes rfl rfl (gtrue (by exact decide_eq_true (by omega))) (TO_pure rfl (PV_len_slice Try.underlying26 rfl) ?_)
  refine TL_yes rfl rfl (gtrue (by exact decide_eq_true (by omega))) (TO_pure rfl (PV_bin rfl rfl bin_eql) ?_)
  refine TL_pure (d := (some 84)) rfl rfl rfl (PV_pickAnd rfl rfl rfl) ?_
  refine TL_pure (d := (some 74)) rfl rfl rfl (PV_assign rfl) ?_
  refine TL_nil ?_
  refine T_else rfl (by (simp; omega)) ?_
  refine T_skip ?_
  refine T_seq ?_
  refine T_drawn (WH _ _ _) mixed (fun w h => h) ?_
  refine TA_take (dd := (some 86)) 0 rfl (by kernel_rfl) (by kernel_rfl) (by kernel_rfl) rfl rfl rfl (PV_move rfl) ?_
  refine TA_take (dd := (some 87)) 1 rfl (by kernel_rfl) (by kernel_rfl) (by kernel_rfl) rfl rfl rfl (PV_nilCheck rfl) ?_
  refine TA_take (dd := (some 88)) 2 rfl (by kernel_rfl) (by kernel_rfl) (by kernel_rfl) rfl rfl rfl (PV_fieldAddr (D := 7) Try.underlying72 rfl sz26 (by decide) rfl rfl) ?_
  refine TA_take (dd := (some 89)) 3 rfl (by kernel_rfl) (by kernel_rfl) (by kernel_rfl) rfl rfl rfl (PV_load Try.underlying26 rfl rfl (Rd.at 1 rfl rfl)) ?_
  refine TA_take (dd := (some 90)) 4 rfl (by kernel_rfl) (by kernel_rfl) (by kernel_rfl) rfl rfl rfl (PV_move rfl) ?_
  refine TA_take (dd := (some 91)) 5 rfl (by kernel_rfl) (by kernel_rfl) (by kernel_rfl) rfl rfl rfl (PV_nilCheck rfl) ?_
  refine TA_take (dd := (some 92)) 6 rfl (by kernel_rfl) (by kernel_rfl) (by kernel_rfl) rfl rfl rfl (PV_fieldAddr (D := 0) Try.underlying72 rfl sz4 (by decide) rfl rfl) ?_
  refine TA_take (dd := (some 93)) 7 rfl (by kernel_rfl) (by kernel_rfl) (by kernel_rfl) rfl rfl rfl (PV_load Try.underlying4 rfl rfl (Rd.at 1 rfl rfl)) ?_
  refine TA_hardG (rs := [8, 12]) (by kernel_rfl) (by decide) ?_
  refine List.forall_mem_cons.2 ⟨?w25q42_8, List.forall_mem_cons.2 ⟨?w25q42_12, by simp⟩⟩
  refine ⟨_, rfl, Or.inl rfl, (TO_call0 call15 rfl rfl (t52no _ ?sd28q42_1 ?sd28q42_2 ?sd28q42_3 ?sd28q42_4 hu ?sd28q42_6) ?_)⟩
  case sd28q42_1 => exact Shows.at 2 rfl
  case sd28q42_2 => omega
  case sd28q42_3 => omega
  case sd28q42_4 => exact hc2
  case sd28q42_6 => omega
  rintro v94_29 H94_29 ⟨rfl, rfl⟩
  refine ⟨by intro w h; first | exact h | exact trivial | (refine WH.sub h ?_; (repeat (first | exact List.Sublist.refl _ | exact List.sublist_append_right _ _ | exact List.sublist_append_left _ _ | apply List.Sublist.cons | refine List.Sublist.trans ?_ (List.sublist_append_left _ _))); done) | (refine WH.sub h ?_; (repeat (first | exact List.Sublist.refl _ | exact List.sublist_append_right _ _ | exact List.sublist_append_left _ _ | apply List.Sublist.cons_cons | apply List.Sublist.cons | refine List.Sublist.trans ?_ (List.sublist_append_left _ _))); done), ?_⟩
  refine TA_take (dd := (some 85)) 9 rfl (by kernel_rfl) (by kernel_rfl) (by kernel_rfl) rfl rfl rfl (PV_move rfl) ?_
  refine TA_take (dd := (some 95)) 10 rfl (by kernel_rfl) (by kernel_rfl) (by kernel_rfl) rfl rfl rfl (PV_extract rfl rfl) ?_
  refine TA_take (dd := (some 96)) 11 rfl (by kernel_rfl) (by kernel_rfl) (by kernel_rfl) rfl rfl rfl (PV_extract rfl rfl) ?_
  refine TA_one 12 (by kernel_rfl) rfl rfl (TO_alloc rfl zr28 fun g30 => ?_)
  refine ⟨by intro w h; first | exact h | exact trivial | (refine WH.sub h ?_; (repeat (first | exact List.Sublist.refl _ | exact List.sublist_append_right _ _ | exact List.sublist_append_left _ _ | apply List.Sublist.cons | refine List.Sublist.trans ?_ (List.sublist_append_left _ _))); done) | (refine WH.sub h ?_; (repeat (first | exact List.Sublist.refl _ | exact List.sublist_append_right _ _ | exact List.sublist_append_left _ _ | apply List.Sublist.cons_cons | apply List.Sublist.cons | refine List.Sublist.trans ?_ (List.sublist_append_left _ _))); done), ?_⟩
  refine TA_one 13 (by kernel_rfl) rfl rfl (TO_store 0 rfl rfl rfl sz28 rfl rfl rfl (List.forall_mem_cons.2 ⟨by first | rfl, List.forall_mem_cons.2 ⟨by first | rfl, by simp⟩⟩) (by first | exact Nat.le_of_ble_eq_true rfl | (simp; done) | (simp; omega) | omega) ?_)
  refine ⟨by intro w h; first | exact h | exact trivial | (refine WH.sub h ?_; (repeat (first | exact List.Sublist.refl _ | exact List.sublist_append_right _ _ | exact List.sublist_append_left _ _ | apply List.Sublist.cons | refine List.Sublist.trans ?_ (List.sublist_append_left _ _))); done) | (refine WH.sub h ?_; (repeat (first | exact List.Sublist.refl _ | exact List.sublist_append_right _ _ | exact List.sublist_append_left _ _ | apply List.Sublist.cons_cons | apply List.Sublist.cons | refine List.Sublist.trans ?_ (List.sublist_append_left _ _))); done), ?_⟩
  refine TA_take (dd := (some 7)) 14 rfl (by kernel_rfl) (by kernel_rfl) (by kernel_rfl) rfl rfl rfl (PV_assign rfl) ?_
  refine TA_done (by kernel_rfl) ?_
  refine T_seq ?_
  refine T_seq ?_
  refine T_region ?_
  refine TL_pure (d := (some 97)) rfl rfl rfl (PV_move rfl) ?_
  refine TL_nil ?_
  refine T_block ?_
  refine T_seq ?_
  refine T_region ?_
  refine TL_pure (d := (some 99)) rfl rfl rfl (PV_bin rfl rfl bin_eql) ?_
  refine TL_pure (d := (some 98)) rfl rfl rfl (PV_assign rfl) ?_
  refine TL_nil ?_
  refine T_else rfl (by exact decide_eq_false (by omega)) ?_
  refine T_seq ?_
  refine T_region ?_
  refine TL_pure (d := (some 101)) rfl rfl rfl (PV_bin rfl rfl bin_eql) ?_
  refine TL_pure (d := (some 100)) rfl rfl rfl (PV_assign rfl) ?_
  refine TL_nil ?_
  refine T_then rfl (by exact decide_eq_true (by omega)) ?_
  refine T_seq ?_
  refine T_region ?_
  refine TL_pure (d := (some 102)) rfl rfl rfl (PV_move rfl) ?_
  refine TL_pure (d := (some 103)) rfl rfl rfl (PV_nilCheck rfl) ?_
  refine TL_pure (d := (some 104)) rfl rfl rfl (PV_fieldAddr (D := 7) Try.underlying72 rfl sz26 (by decide) rfl rfl) ?_
  refine TL_cons rfl (TO_store1 2 rfl rfl rfl sz26 rfl rfl rfl (by first | exact Nat.le_of_ble_eq_true rfl | (simp; done) | (simp; omega) | omega) ?_)
  refine TL_nil ?_
  refine T_seq ?_
  refine T_region ?_
  refine TL_cons rfl (TO_bs (cs := [_]) Try.underlying26 zs5 (by decide) rfl rfl rfl rfl rfl rfl fun g33 => ?_)
  refine TL_pure (d := (some 4)) rfl rfl rfl (PV_assign rfl) ?_
  refine TL_nil ?_
  refine T.perm ((perm_pick (i := 0) rfl).trans (List.Perm.cons _ ((perm_pick (i := 2) rfl).trans (List.Perm.cons _ ((perm_pick (i := 1) rfl).trans (List.Perm.cons _ ((perm_pick (i := 2) rfl).trans (List.Perm.cons _ (List.Perm.refl _))))))))) ?_
  refine T_dropAt 4 ?_
  refine T_dropAt 4 ?_
  refine T_ret ?_
  refine ret_ret (ResV_one rfl rfl) ⟨_, List.Sublist.refl _, ⟨_, _, _, _, _, _, rfl, ?sd34q42_0, rfl⟩⟩
  case sd34q42_0 => decide
  refine ⟨_, rfl, Or.inl rfl, (TO_alloc rfl zr28 fun g27 => ?_)⟩
  refine ⟨by intro w h; first | exact h | exact trivial | (refine WH.sub h ?_; (repeat (first | exact List.Sublist.refl _ | exact List.sublist_append_right _ _ | exact List.sublist_append_left _ _ | apply List.Sublist.cons | refine List.Sublist.trans ?_ (List.sublist_append_left _ _))); done) | (refine WH.sub h ?_; (repeat (first | exact List.Sublist.refl _ | exact List.sublist_append_right _ _ | exact List.sublist_append_left _ _ | apply List.Sublist.cons_cons | apply List.Sublist.cons | refine List.Sublist.trans ?_ (List.sublist_append_left _ _))); done), ?_⟩
  refine TA_one 8 (by kernel_rfl) rfl rfl (TO_call0 call15 rfl rfl (t52no _ (Shows.at 3 rfl) ?sd36q42_2 ?sd36q42_3 ?sd36q42_4 ?sd36q42_5 ?sd36q42_6) ?_)
  case sd36q42_2 => omega
  case sd36q42_3 => omega
  case sd36q42_4 => exact hc2
  case sd36q42_5 => exact hu
  case sd36q42_6 => omega
  rintro v94_37 H94_37 ⟨rfl, rfl⟩
  refine ⟨by intro w h; first | exact h | exact trivial | (refine WH.sub h ?_; (repeat (first | exact List.Sublist.refl _ | exact List.sublist_append_right _ _ | exact List.sublist_append_left _ _ | apply List.Sublist.cons | refine List.Sublist.trans ?_ (List.sublist_append_left _ _))); done) | (refine WH.sub h ?_; (repeat (first | exact List.Sublist.refl _ | exact List.sublist_append_right _ _ | exact List.sublist_append_left _ _ | apply List.Sublist.cons_cons | apply List.Sublist.cons | refine List.Sublist.trans ?_ (List.sublist_append_left _ _))); done), ?_⟩
  refine TA_take (dd := (some 85)) 9 rfl (by kernel_rfl) (by kernel_rfl) (by kernel_rfl) rfl rfl rfl (PV_move rfl) ?_
  refine TA_take (dd := (some 95)) 10 rfl (by kernel_rfl) (by kernel_rfl) (by kernel_rfl) rfl rfl rfl (PV_extract rfl rfl) ?_
  refine TA_take (dd := (some 96)) 11 rfl (by kernel_rfl) (by kernel_rfl) (by kernel_rfl) rfl rfl rfl (PV_extract rfl rfl) ?_
  refine TA_one 13 (by kernel_rfl) rfl rfl (TO_store 0 rfl rfl rfl sz28 rfl rfl rfl (List.forall_mem_cons.2 ⟨by first | rfl, List.forall_mem_cons.2 ⟨by first | rfl, by simp⟩⟩) (by first | exact Nat.le_of_ble_eq_true rfl | (simp; done) | (simp; omega) | omega) ?_)
  refine ⟨by intro w h; first | exact h | exact trivial | (refine WH.sub h ?_; (repeat (first | exact List.Sublist.refl _ | exact List.sublist_append_right _ _ | exact List.sublist_append_left _ _ | apply List.Sublist.cons | refine List.Sublist.trans ?_ (List.sublist_append_left _ _))); done) | (refine WH.sub h ?_; (repeat (first | exact List.Sublist.refl _ | exact List.sublist_append_right _ _ | exact List.sublist_append_left _ _ | apply List.Sublist.cons_cons | apply List.Sublist.cons | refine List.Sublist.trans ?_ (List.sublist_append_left _ _))); done), ?_⟩
  refine TA_take (dd := (some 7)) 14 rfl (by kernel_rfl) (by kernel_rfl) (by kernel_rfl) rfl rfl rfl (PV_assign rfl) ?_
  refine TA_done (by kernel_rfl) ?_
  refine T_seq ?_
  refine T_seq ?_
  refine T_region ?_
  refine TL_pure (d := (some 97)) rfl rfl rfl (PV_move rfl) ?_
  refine TL_nil ?_
  refine T_block ?_
  refine T_seq ?_
  refine T_region ?_
  refine TL_pure (d := (some 99)) rfl rfl rfl (PV_bin rfl rfl bin_eql) ?_
  refine TL_pure (d := (some 98)) rfl rfl rfl (PV_assign rfl) ?_
  refine TL_nil ?_
  refine T_else rfl (by exact decide_eq_false (by omega)) ?_
  refine T_seq ?_
  refine T_region ?_
  refine TL_pure (d := (some 101)) rfl rfl rfl (PV_bin rfl rfl bin_eql) ?_
  refine TL_pure (d := (some 100)) rfl rfl rfl (PV_assign rfl) ?_
  refine TL_nil ?_
  refine T_then rfl (by exact decide_eq_true (by omega)) ?_
  refine T_seq ?_
  refine T_region ?_
  refine TL_pure (d := (some 102)) rfl rfl rfl (PV_move rfl) ?_
  refine TL_pure (d := (some 103)) rfl rfl rfl (PV_nilCheck rfl) ?_
  refine TL_pure (d := (some 104)) rfl rfl rfl (PV_fieldAddr (D := 7) Try.underlying72 rfl sz26 (by decide) rfl rfl) ?_
  refine TL_cons rfl (TO_store1 2 rfl rfl rfl sz26 rfl rfl rfl (by first | exact Nat.le_of_ble_eq_true rfl | (simp; done) | (simp; omega) | omega) ?_)
  refine TL_nil ?_
  refine T_seq ?_
  refine T_region ?_
  refine TL_cons rfl (TO_bs (cs := [_]) Try.underlying26 zs5 (by decide) rfl rfl rfl rfl rfl rfl fun g40 => ?_)
  refine TL_pure (d := (some 4)) rfl rfl rfl (PV_assign rfl) ?_
  refine TL_nil ?_
  refine T.perm ((perm_pick (i := 0) rfl).trans (List.Perm.cons _ ((perm_pick (i := 2) rfl).trans (List.Perm.cons _ ((perm_pick (i := 1) rfl).trans (List.Perm.cons _ ((perm_pick (i := 2) rfl).trans (List.Perm.cons _ (List.Perm.refl _))))))))) ?_
  refine T_dropAt 4 ?_
  refine T_dropAt 4 ?_
  refine T_ret ?_
  refine ret_ret (ResV_one rfl rfl) ⟨_, List.Sublist.refl _, ⟨_, _, _, _, _, _, rfl, ?sd41q42_0, rfl⟩⟩
  case sd41q42_0 => decide
  try simp only [decide_eq_true_eq, decide_eq_false_iff_not, beq_iff_eq, beq_eq_false_iff_ne, bne_iff_ne, bne_eq_false_iff_eq, ne_eq, Bool.not_eq_true', Bool.not_eq_false', Bool.not_not, Bool.not_true, Bool.not_false, Bool.and_eq_true, Bool.or_eq_true, Bool.and_eq_false_iff, Bool.or_eq_false_iff, Int.not_lt, Int.not_le, gt_iff_lt, ge_iff_le] at c24
  refine TL_no (b := false) rfl rfl (gfalse (by exact decide_eq_false (by omega))) rfl ?_
  refine TL_no (b := false) rfl rfl (gfalse (by exact decide_eq_false (by omega))) rfl ?_
  refine TL_no (b := false) rfl rfl (gfalse (by exact decide_eq_false (by omega))) rfl ?_
  refine TL_no (b := false) rfl rfl (gfalse (by exact decide_eq_false (by omega))) rfl ?_
  refine TL_no (b := false) rfl rfl (gfalse (by exact decide_eq_false (by omega))) rfl ?_
  refine TL_no (b := false) rfl rfl (gfalse (by exact decide_eq_false (by omega))) rfl ?_
  refine TL_pure (d := (some 61)) rfl rfl rfl (PV_pickF rfl (by first | assumption | rfl | (simp; done) | (simp; omega) | (simp [*]; done) | (simp [*]; omega)) rfl rfl) ?_
  refine TL_pure (d := (some 62)) rfl rfl rfl (PV_move rfl) ?_
  refine TL_no (b := false) rfl rfl rfl rfl ?_
  refine TL_no (b := false) rfl rfl rfl rfl ?_
  refine TL_no (b := false) rfl rfl rfl rfl ?_
  refine TL_no (b := false) rfl rfl rfl rfl ?_
  refine TL_no (b := false) rfl rfl rfl rfl ?_
  refine TL_no (b := false) rfl rfl rfl rfl ?_
  refine TL_no (b := false) rfl rfl rfl rfl ?_
  refine TL_pure (d := (some 70)) rfl rfl rfl (PV_pickF rfl (by first | assumption | rfl | (simp; done) | (simp; omega) | (simp [*]; done) | (simp [*]; omega)) rfl rfl) ?_
  refine TL_pure (d := (some 51)) rfl rfl rfl (PV_assign rfl) ?_
  refine TL_nil ?_
  refine T_else rfl (by rfl) ?_
  refine T_seq ?_
  refine T_region ?_
  refine TL_pure (d := (some 75)) rfl rfl rfl (PV_move rfl) ?_
  refine TL_pure (d := (some 76)) rfl rfl rfl (PV_bin rfl rfl bin_eql) ?_
  refine TL_pure (d := (some 77)) rfl rfl rfl (PV_move rfl) ?_
  refine TL_no (b := false) rfl rfl (gfalse (by exact decide_eq_false (by omega))) rfl ?_
  refine TL_no (b := false) rfl rfl (gfalse (by exact decide_eq_false (by omega))) rfl ?_
  refine TL_no (b := false) rfl rfl (gfalse (by exact decide_eq_false (by omega))) rfl ?_
  refine TL_no (b := false) rfl rfl (gfalse (by exact decide_eq_false (by omega))) rfl ?_
  refine TL_no (b := false) rfl rfl (gfalse (by exact decide_eq_false (by omega))) rfl ?_
  refine TL_no (b := false) rfl rfl (gfalse (by exact decide_eq_false (by omega))) rfl ?_
  refine TL_pure (d := (some 84)) rfl rfl rfl (PV_pickF rfl (by first | assumption | rfl | (simp; done) | (simp; omega) | (simp [*]; done) | (simp [*]; omega)) rfl rfl) ?_
  refine TL_pure (d := (some 74)) rfl rfl rfl (PV_assign rfl) ?_
  refine TL_nil ?_
  refine T_else rfl (by rfl) ?_
  refine T_skip ?_
  refine T_seq ?_
  refine T_drawn (WH _ _ _) mixed (fun w h => h) ?_
  refine TA_take (dd := (some 86)) 0 rfl (by kernel_rfl) (by kernel_rfl) (by kernel_rfl) rfl rfl rfl (PV_move rfl) ?_
  refine TA_take (dd := (some 87)) 1 rfl (by kernel_rfl) (by kernel_rfl) (by kernel_rfl) rfl rfl rfl (PV_nilCheck rfl) ?_
  refine TA_take (dd := (some 88)) 2 rfl (by kernel_rfl) (by kernel_rfl) (by kernel_rfl) rfl rfl rfl (PV_fieldAddr (D := 7) Try.underlying72 rfl sz26 (by decide) rfl rfl) ?_
  refine TA_take (dd := (some 89)) 3 rfl (by kernel_rfl) (by kernel_rfl) (by kernel_rfl) rfl rfl rfl (PV_load Try.underlying26 rfl rfl (Rd.at 1 rfl rfl)) ?_
  refine TA_take (dd := (some 90)) 4 rfl (by kernel_rfl) (by kernel_rfl) (by kernel_rfl) rfl rfl rfl (PV_move rfl) ?_
  refine TA_take (dd := (some 91)) 5 rfl (by kernel_rfl) (by kernel_rfl) (by kernel_rfl) rfl rfl rfl (PV_nilCheck rfl) ?_
  refine TA_take (dd := (some 92)) 6 rfl (by kernel_rfl) (by kernel_rfl) (by kernel_rfl) rfl rfl rfl (PV_fieldAddr (D := 0) Try.underlying72 rfl sz4 (by decide) rfl rfl) ?_
  refine TA_take (dd := (some 93)) 7 rfl (by kernel_rfl) (by kernel_rfl) (by kernel_rfl) rfl rfl rfl (PV_load Try.underlying4 rfl rfl (Rd.at 1 rfl rfl)) ?_
  refine TA_hardG (rs := [8, 12]) (by kernel_rfl) (by decide) ?_
  refine List.forall_mem_cons.2 ⟨?w42q42_8, List.forall_mem_cons.2 ⟨?w42q42_12, by simp⟩⟩
  refine ⟨_, rfl, Or.inl rfl, (TO_call0 call15 rfl rfl (t52no _ ?sd45q42_1 ?sd45q42_2 ?sd45q42_3 ?sd45q42_4 hu ?sd45q42_6) ?_)⟩
  case sd45q42_1 => exact Shows.at 2 rfl
  case sd45q42_2 => omega
  case sd45q42_3 => omega
  case sd45q42_4 => exact hc2
  case sd45q42_6 => omega
  rintro v94_46 H94_46 ⟨rfl, rfl⟩
  refine ⟨by intro w h; first | exact h | exact trivial | (refine WH.sub h ?_; (repeat (first | exact List.Sublist.refl _ | exact List.sublist_append_right _ _ | exact List.sublist_append_left _ _ | apply List.Sublist.cons | refine List.Sublist.trans ?_ (List.sublist_append_left _ _))); done) | (refine WH.sub h ?_; (repeat (first | exact List.Sublist.refl _ | exact List.sublist_append_right _ _ | exact List.sublist_append_left _ _ | apply List.Sublist.cons_cons | apply List.Sublist.cons | refine List.Sublist.trans ?_ (List.sublist_append_left _ _))); done), ?_⟩
  refine TA_take (dd := (some 85)) 9 rfl (by kernel_rfl) (by kernel_rfl) (by kernel_rfl) rfl rfl rfl (PV_move rfl) ?_
  refine TA_take (dd := (some 95)) 10 rfl (by kernel_rfl) (by kernel_rfl) (by kernel_rfl) rfl rfl rfl (PV_extract rfl rfl) ?_
  refine TA_take (dd := (some 96)) 11 rfl (by kernel_rfl) (by kernel_rfl) (by kernel_rfl) rfl rfl rfl (PV_extract rfl rfl) ?_
  refine TA_one 12 (by kernel_rfl) rfl rfl (TO_alloc rfl zr28 fun g47 => ?_)
  refine ⟨by intro w h; first | exact h | exact trivial | (refine WH.sub h ?_; (repeat (first | exact List.Sublist.refl _ | exact List.sublist_append_right _ _ | exact List.sublist_append_left _ _ | apply List.Sublist.cons | refine List.Sublist.trans ?_ (List.sublist_append_left _ _))); done) | (refine WH.sub h ?_; (repeat (first | exact List.Sublist.refl _ | exact List.sublist_append_right _ _ | exact List.sublist_append_left _ _ | apply List.Sublist.cons_cons | apply List.Sublist.cons | refine List.Sublist.trans ?_ (List.sublist_append_left _ _))); done), ?_⟩
  refine TA_one 13 (by kernel_rfl) rfl rfl (TO_store 0 rfl rfl rfl sz28 rfl rfl rfl (List.forall_mem_cons.2 ⟨by first | rfl, List.forall_mem_cons.2 ⟨by first | rfl, by simp⟩⟩) (by first | exact Nat.le_of_ble_eq_true rfl | (simp; done) | (simp; omega) | omega) ?_)
  refine ⟨by intro w h; first | exact h | exact trivial | (refine WH.sub h ?_; (repeat (first | exact List.Sublist.refl _ | exact List.sublist_append_right _ _ | exact List.sublist_append_left _ _ | apply List.Sublist.cons | refine List.Sublist.trans ?_ (List.sublist_append_left _ _))); done) | (refine WH.sub h ?_; (repeat (first | exact List.Sublist.refl _ | exact List.sublist_append_right _ _ | exact List.sublist_append_left _ _ | apply List.Sublist.cons_cons | apply List.Sublist.cons | refine List.Sublist.trans ?_ (List.sublist_append_left _ _))); done), ?_⟩
  refine TA_take (dd := (some 7)) 14 rfl (by kernel_rfl) (by kernel_rfl) (by kernel_rfl) rfl rfl rfl (PV_assign rfl) ?_
  refine TA_done (by kernel_rfl) ?_
  refine T_seq ?_
  refine T_seq ?_
  refine T_region ?_
  refine TL_pure (d := (some 97)) rfl rfl rfl (PV_move rfl) ?_
  refine TL_nil ?_
  refine T_block ?_
  refine T_seq ?_
  refine T_region ?_
  refine TL_pure (d := (some 99)) rfl rfl rfl (PV_bin rfl rfl bin_eql) ?_
  refine TL_pure (d := (some 98)) rfl rfl rfl (PV_assign rfl) ?_
  refine TL_nil ?_
  refine T_else rfl (by exact decide_eq_false (by omega)) ?_
  refine T_seq ?_
  refine T_region ?_
  refine TL_pure (d := (some 101)) rfl rfl rfl (PV_bin rfl rfl bin_eql) ?_
  refine TL_pure (d := (some 100)) rfl rfl rfl (PV_assign rfl) ?_
  refine TL_nil ?_
  refine T_then rfl (by exact decide_eq_true (by omega)) ?_
  refine T_seq ?_
  refine T_region ?_
  refine TL_pure (d := (some 102)) rfl rfl rfl (PV_move rfl) ?_
  refine TL_pure (d := (some 103)) rfl rfl rfl (PV_nilCheck rfl) ?_
  refine TL_pure (d := (some 104)) rfl rfl rfl (PV_fieldAddr (D := 7) Try.underlying72 rfl sz26 (by decide) rfl rfl) ?_
  refine TL_cons rfl (TO_store1 2 rfl rfl rfl sz26 rfl rfl rfl (by first | exact Nat.le_of_ble_eq_true rfl | (simp; done) | (simp; omega) | omega) ?_)
  refine TL_nil ?_
  refine T_seq ?_
  refine T_region ?_
  refine TL_cons rfl (TO_bs (cs := [_]) Try.underlying26 zs5 (by decide) rfl rfl rfl rfl rfl rfl fun g50 => ?_)
  refine TL_pure (d := (some 4)) rfl rfl rfl (PV_assign rfl) ?_
  refine TL_nil ?_
  refine T.perm ((perm_pick (i := 0) rfl).trans (List.Perm.cons _ ((perm_pick (i := 2) rfl).trans (List.Perm.cons _ ((perm_pick (i := 1) rfl).trans (List.Perm.cons _ ((perm_pick (i := 2) rfl).trans (List.Perm.cons _ (List.Perm.refl _))))))))) ?_
  refine T_dropAt 4 ?_
  refine T_dropAt 4 ?_
  refine T_ret ?_
  refine ret_ret (ResV_one rfl rfl) ⟨_, List.Sublist.refl _, ⟨_, _, _, _, _, _, rfl, ?sd51q42_0, rfl⟩⟩
  case sd51q42_0 => decide
  refine ⟨_, rfl, Or.inl rfl, (TO_alloc rfl zr28 fun g44 => ?_)⟩
  refine ⟨by intro w h; first | exact h | exact trivial | (refine WH.sub h ?_; (repeat (first | exact List.Sublist.refl _ | exact List.sublist_append_right _ _ | exact List.sublist_append_left _ _ | apply List.Sublist.cons | refine List.Sublist.trans ?_ (List.sublist_append_left _ _))); done) | (refine WH.sub h ?_; (repeat (first | exact List.Sublist.refl _ | exact List.sublist_append_right _ _ | exact List.sublist_append_left _ _ | apply List.Sublist.cons_cons | apply List.Sublist.cons | refine List.Sublist.trans ?_ (List.sublist_append_left _ _))); done), ?_⟩
  refine TA_one 8 (by kernel_rfl) rfl rfl (TO_call0 call15 rfl rfl (t52no _ (Shows.at 3 rfl) ?sd53q42_2 ?sd53q42_3 ?sd53q42_4 ?sd53q42_5 ?sd53q42_6) ?_)
  case sd53q42_2 => omega
  case sd53q42_3 => omega
  case sd53q42_4 => exact hc2
  case sd53q42_5 => exact hu
  case sd53q42_6 => omega
  rintro v94_54 H94_54 ⟨rfl, rfl⟩
  refine ⟨by intro w h; first | exact h | exact trivial | (refine WH.sub h ?_; (repeat (first | exact List.Sublist.refl _ | exact List.sublist_append_right _ _ | exact List.sublist_append_left _ _ | apply List.Sublist.cons | refine List.Sublist.trans ?_ (List.sublist_append_left _ _))); done) | (refine WH.sub h ?_; (repeat (first | exact List.Sublist.refl _ | exact List.sublist_append_right _ _ | exact List.sublist_append_left _ _ | apply List.Sublist.cons_cons | apply List.Sublist.cons | refine List.Sublist.trans ?_ (List.sublist_append_left _ _))); done), ?_⟩
  refine TA_take (dd := (some 85)) 9 rfl (by kernel_rfl) (by kernel_rfl) (by kernel_rfl) rfl rfl rfl (PV_move rfl) ?_
  refine TA_take (dd := (some 95)) 10 rfl (by kernel_rfl) (by kernel_rfl) (by kernel_rfl) rfl rfl rfl (PV_extract rfl rfl) ?_
  refine TA_take (dd := (some 96)) 11 rfl (by kernel_rfl) (by kernel_rfl) (by kernel_rfl) rfl rfl rfl (PV_extract rfl rfl) ?_
  refine TA_one 13 (by kernel_rfl) rfl rfl (TO_store 0 rfl rfl rfl sz28 rfl rfl rfl (List.forall_mem_cons.2 ⟨by first | rfl, List.forall_mem_cons.2 ⟨by first | rfl, by simp⟩⟩) (by first | exact Nat.le_of_ble_eq_true rfl | (simp; done) | (simp; omega) | omega) ?_)
  refine ⟨by intro w h; first | exact h | exact trivial | (refine WH.sub h ?_; (repeat (first | exact List.Sublist.refl _ | exact List.sublist_append_right _ _ | exact List.sublist_append_left _ _ | apply List.Sublist.cons | refine List.Sublist.trans ?_ (List.sublist_append_left _ _))); done) | (refine WH.sub h ?_; (repeat (first | exact List.Sublist.refl _ | exact List.sublist_append_right _ _ | exact List.sublist_append_left _ _ | apply List.Sublist.cons_cons | apply List.Sublist.cons | refine List.Sublist.trans ?_ (List.sublist_append_left _ _))); done), ?_⟩
  refine TA_take (dd := (some 7)) 14 rfl (by kernel_rfl) (by kernel_rfl) (by kernel_rfl) rfl rfl rfl (PV_assign rfl) ?_
  refine TA_done (by kernel_rfl) ?_
  refine T_seq ?_
  refine T_seq ?_
  refine T_region ?_
  refine TL_pure (d := (some 97)) rfl rfl rfl (PV_move rfl) ?_
  refine TL_nil ?_
  refine T_block ?_
  refine T_seq ?_
  refine T_region ?_
  refine TL_pure (d := (some 99)) rfl rfl rfl (PV_bin rfl rfl bin_eql) ?_
  refine TL_pure (d := (some 98)) rfl rfl rfl (PV_assign rfl) ?_
  refine TL_nil ?_
  refine T_else rfl (by exact decide_eq_false (by omega)) ?_
  refine T_seq ?_
  refine T_region ?_
  refine TL_pure (d := (some 101)) rfl rfl rfl (PV_bin rfl rfl bin_eql) ?_
  refine TL_pure (d := (some 100)) rfl rfl rfl (PV_assign rfl) ?_
  refine TL_nil ?_
  refine T_then rfl (by exact decide_eq_true (by omega)) ?_
  refine T_seq ?_
  refine T_region ?_
  refine TL_pure (d := (some 102)) rfl rfl rfl (PV_move rfl) ?_
  refine TL_pure (d := (some 103)) rfl rfl rfl (PV_nilCheck rfl) ?_
  refine TL_pure (d := (some 104)) rfl rfl rfl (PV_fieldAddr (D := 7) Try.underlying72 rfl sz26 (by decide) rfl rfl) ?_
  refine TL_cons rfl (TO_store1 2 rfl rfl rfl sz26 rfl rfl rfl (by first | exact Nat.le_of_ble_eq_true rfl | (simp; done) | (simp; omega) | omega) ?_)
  refine TL_nil ?_
  refine T_seq ?_
  refine T_region ?_
  refine TL_cons rfl (TO_bs (cs := [_]) Try.underlying26 zs5 (by decide) rfl rfl rfl rfl rfl rfl fun g57 => ?_)
  refine TL_pure (d := (some 4)) rfl rfl rfl (PV_assign rfl) ?_
  refine TL_nil ?_
  refine T.perm ((perm_pick (i := 0) rfl).trans (List.Perm.cons _ ((perm_pick (i := 2) rfl).trans (List.Perm.cons _ ((perm_pick (i := 1) rfl).trans (List.Perm.cons _ ((perm_pick (i := 2) rfl).trans (List.Perm.cons _ (List.Perm.refl _))))))))) ?_
  refine T_dropAt 4 ?_
  refine T_dropAt 4 ?_
  refine T_ret ?_
  refine ret_ret (ResV_one rfl rfl) ⟨_, List.Sublist.refl _, ⟨_, _, _, _, _, _, rfl, ?sd58q42_0, rfl⟩⟩
  case sd58q42_0 => decide
theorem t75 {g bc dc : Nat} {bA dA : Option Addr} (r : Rc) {Ab : Option Addr} {m cb : Nat} {bs : List Int} (hx : Shows (WH w0 B X) Ab m 1 (nums .u8 bs)) (hm : bs.length = m) (hu : U8s (r.buf ++ bs)) (hlb : r.buf.length + m ≤ 1000000000) (hdl : r.dat.length ≤ 1000000000) (hk1 : 0 ≤ r.blocks) (hk2 : r.blocks ≤ 1000000) (hn1 : 0 ≤ r.number) (hn2 : r.number ≤ 255) :
    TCall Try.prog w0 B 33 #[.pointer (some ⟨g, 0, none⟩), .slice Ab m cb] (fun v H' => RGives g (r.putOut bs) (r.put bs) X v H') (rcC g bA bc dA dc r :: byC bA bc r.buf :: byC dA dc r.dat :: X) := by
  unfold Rc.put Rc.putOut
  by_cases h0 : r.over = true ∨ bs.length = 0
  · rw [if_pos h0, if_pos h0]
    exact put_none r hx hm hu hlb hdl hk1 hk2 hn1 hn2 h0
  rw [if_neg h0, if_neg h0]
  have ho : r.over = false := by
    cases h : r.over
    · rfl
    · exact absurd (Or.inl h) h0
  have hb0 : 0 < bs.length := by
    have : ¬ bs.length = 0 := fun h => h0 (Or.inr h)
    omega
  by_cases h4 : rd (r.buf ++ bs) 0 = 4 ∧ r.close = true
  · rw [if_pos h4, if_pos h4]
    exact put_eot r hx hm hu hlb hdl hk1 hk2 hn1 hn2 ho hb0 h4.1 h4.2
  rw [if_neg h4, if_neg h4]
  by_cases h5 : rd (r.buf ++ bs) 0 = 24 ∧ (r.buf ++ bs).length > 1 ∧ rd (r.buf ++ bs) 1 = 24
  · rw [if_pos h5, if_pos h5]
    exact put_can r hx hm hu hlb hdl hk1 hk2 hn1 hn2 ho hb0 h4 h5.1 h5.2.1 h5.2.2
  rw [if_neg h5, if_neg h5]
  by_cases h6 : rd (r.buf ++ bs) 0 = 24 ∧ (r.buf ++ bs).length = 1
  · rw [if_pos h6, if_pos h6]
    exact put_one r hx hm hu hlb hdl hk1 hk2 hn1 hn2 ho hb0 h4 h5 h6.1 h6.2
  rw [if_neg h6, if_neg h6]
  by_cases h7 : scanS (r.buf ++ bs) r.crc = 0
  · rw [if_pos h7, if_pos h7]
    exact put_need r hx hm hu hlb hdl hk1 hk2 hn1 hn2 ho hb0 h4 h5 h6 h7
  rw [if_neg h7, if_neg h7]
  by_cases h8 : scanS (r.buf ++ bs) r.crc = 2
  · rw [if_pos h8, if_pos h8]
    exact put_good r hx hm hu hlb hdl hk1 hk2 hn1 hn2 ho hb0 h4 h5 h6 h8
  · rw [if_neg h8, if_neg h8]
    have h9 : scanS (r.buf ++ bs) r.crc = 1 := by
      have := scanS_cases (r.buf ++ bs) r.crc
      omega
    exact put_bad r hx hm hu hlb hdl hk1 hk2 hn1 hn2 ho hb0 h4 h5 h6 h9
/-- a tick -/
def Rc.askB (r : Rc) : Int := if r.crc = true ∧ r.begun = false then 67 else 21
def Rc.tick (r : Rc) : Rc :=
  if r.over = true then r
  else if r.left - 1 > 0 then { r with left := r.left - 1 }
  else if r.begun = false ∧ r.tries = 0 then ({ r with left := r.wait, buf := [] } : Rc).fin 10
  else if r.begun = false then { r with left := r.wait, buf := [], tries := r.tries - 1 }
  else { r with left := r.wait, buf := [] }
def Rc.tickOut (r : Rc) : List Int :=
  if r.over = true then []
  else if r.left - 1 > 0 then []
  else if r.begun = false ∧ r.tries = 0 then [24, 24]
  else [r.askB]
theorem t72 {g bc dc : Nat} {bA dA : Option Addr} (r : Rc) (hl1 : 0 ≤ r.left) (hl2 : r.left ≤ 1000) (ht1 : 0 ≤ r.tries) (ht2 : r.tries ≤ 1000) :
    TCall Try.prog w0 B 31 #[.pointer (some ⟨g, 0, none⟩)] (fun v H' => RGives g r.tickOut r.tick X v H') (rcC g bA bc dA dc r :: byC bA bc r.buf :: byC dA dc r.dat :: X) := by
  unfold Rc.tick Rc.tickOut
  by_cases h0 : r.over = true
  · rw [if_pos h0, if_pos h0]
    refine TCall_intro (args := [_]) Try.func31 rfl Try.ntmps31 (Nat.le_of_ble_eq_true rfl) ?_
    refine T_addNil 1 ?_
    refine T_seq ?_
    refine T_region ?_
    refine TL_pure (d := (some 2)) rfl rfl rfl (PV_assign rfl) ?_
    refine TL_nil ?_
    refine T_seq ?_
    refine T_seq ?_
    refine T_region ?_
    refine TL_pure (d := (some 3)) rfl rfl rfl (PV_move rfl) ?_
    refine TL_pure (d := (some 4)) rfl rfl rfl (PV_nilCheck rfl) ?_
    refine TL_pure (d := (some 5)) rfl rfl rfl (PV_fieldAddr (D := 11) Try.underlying72 rfl sz4 (by decide) rfl rfl) ?_
    refine TL_pure (d := (some 6)) rfl rfl rfl (PV_load Try.underlying4 rfl rfl (Rd.at 1 rfl rfl)) ?_
    refine TL_nil ?_
    refine T_then rfl (by with_reducible assumption) ?_
    refine T_seq ?_
    refine T_region ?_
    refine TL_pure (d := (some 2)) rfl rfl rfl (PV_assign rfl) ?_
    refine TL_nil ?_
    refine T_ret ?_
    refine ret_ret (ResV_one rfl rfl) ⟨_, List.Sublist.refl _, ⟨_, _, _, _, _, _, rfl, ?sd1q104_0, rfl⟩⟩
    case sd1q104_0 => decide
  rw [if_neg h0, if_neg h0]
  by_cases h1 : r.left - 1 > 0
  · rw [if_pos h1, if_pos h1]
    refine TCall_intro (args := [_]) Try.func31 rfl Try.ntmps31 (Nat.le_of_ble_eq_true rfl) ?_
    refine T_addNil 1 ?_
    refine T_seq ?_
    refine T_region ?_
    refine TL_pure (d := (some 2)) rfl rfl rfl (PV_assign rfl) ?_
    refine TL_nil ?_
    refine T_seq ?_
    refine T_seq ?_
    refine T_region ?_
    refine TL_pure (d := (some 3)) rfl rfl rfl (PV_move rfl) ?_
    refine TL_pure (d := (some 4)) rfl rfl rfl (PV_nilCheck rfl) ?_
    refine TL_pure (d := (some 5)) rfl rfl rfl (PV_fieldAddr (D := 11) Try.underlying72 rfl sz4 (by decide) rfl rfl) ?_
    refine TL_pure (d := (some 6)) rfl rfl rfl (PV_load Try.underlying4 rfl rfl (Rd.at 1 rfl rfl)) ?_
    refine TL_nil ?_
    refine T_else rfl (by (simp [*]; done)) ?_
    refine T_skip ?_
    refine T_seq ?_
    refine T_region ?_
    refine TL_pure (d := (some 7)) rfl rfl rfl (PV_move rfl) ?_
    refine TL_pure (d := (some 8)) rfl rfl rfl (PV_nilCheck rfl) ?_
    refine TL_pure (d := (some 9)) rfl rfl rfl (PV_fieldAddr (D := 3) Try.underlying72 rfl sz3 (by decide) rfl rfl) ?_
    refine TL_pure (d := (some 10)) rfl rfl rfl (PV_load Try.underlying3 rfl rfl (Rd.at 1 rfl rfl)) ?_
    refine TL_pure (d := (some 11)) rfl rfl rfl (PV.cast (PV_bin rfl rfl bin_sub) (wr64 (by omega))) ?_
    refine TL_pure (d := (some 12)) rfl rfl rfl (PV_nilCheck rfl) ?_
    refine TL_pure (d := (some 13)) rfl rfl rfl (PV_fieldAddr (D := 3) Try.underlying72 rfl sz3 (by decide) rfl rfl) ?_
    refine TL_cons rfl (TO_store1 1 rfl rfl rfl sz3 rfl rfl rfl (by first | exact Nat.le_of_ble_eq_true rfl | (simp; done) | (simp; omega) | omega) ?_)
    refine TL_nil ?_
    refine T_seq ?_
    refine T_seq ?_
    refine T_region ?_
    refine TL_pure (d := (some 14)) rfl rfl rfl (PV_move rfl) ?_
    refine TL_pure (d := (some 15)) rfl rfl rfl (PV_nilCheck rfl) ?_
    refine TL_pure (d := (some 16)) rfl rfl rfl (PV_fieldAddr (D := 3) Try.underlying72 rfl sz3 (by decide) rfl rfl) ?_
    refine TL_pure (d := (some 17)) rfl rfl rfl (PV_load Try.underlying3 rfl rfl (Rd.at 1 rfl rfl)) ?_
    refine TL_pure (d := (some 18)) rfl rfl rfl (PV_bin rfl rfl bin_gtr) ?_
    refine TL_nil ?_
    refine T_then rfl (by exact decide_eq_true (by omega)) ?_
    refine T_seq ?_
    refine T_region ?_
    refine TL_pure (d := (some 2)) rfl rfl rfl (PV_assign rfl) ?_
    refine TL_nil ?_
    refine T_ret ?_
    refine ret_ret (ResV_one rfl rfl) ⟨_, List.Sublist.refl _, ⟨_, _, _, _, _, _, rfl, ?sd2q108_0, rfl⟩⟩
    case sd2q108_0 => decide
  rw [if_neg h1, if_neg h1]
  by_cases h2 : r.begun = false ∧ r.tries = 0
  · rw [if_pos h2, if_pos h2]
    obtain ⟨h2a, h2b⟩ := h2
    refine TCall_intro (args := [_]) Try.func31 rfl Try.ntmps31 (Nat.le_of_ble_eq_true rfl) ?_
    refine T_addNil 1 ?_
    refine T_seq ?_
    refine T_region ?_
    refine TL_pure (d := (some 2)) rfl rfl rfl (PV_assign rfl) ?_
    refine TL_nil ?_
    refine T_seq ?_
    refine T_seq ?_
    refine T_region ?_
    refine TL_pure (d := (some 3)) rfl rfl rfl (PV_move rfl) ?_
    refine TL_pure (d := (some 4)) rfl rfl rfl (PV_nilCheck rfl) ?_
    refine TL_pure (d := (some 5)) rfl rfl rfl (PV_fieldAddr (D := 11) Try.underlying72 rfl sz4 (by decide) rfl rfl) ?_
    refine TL_pure (d := (some 6)) rfl rfl rfl (PV_load Try.underlying4 rfl rfl (Rd.at 1 rfl rfl)) ?_
    refine TL_nil ?_
    refine T_else rfl (by (simp [*]; done)) ?_
    refine T_skip ?_
    refine T_seq ?_
    refine T_region ?_
    refine TL_pure (d := (some 7)) rfl rfl rfl (PV_move rfl) ?_
    refine TL_pure (d := (some 8)) rfl rfl rfl (PV_nilCheck rfl) ?_
    refine TL_pure (d := (some 9)) rfl rfl rfl (PV_fieldAddr (D := 3) Try.underlying72 rfl sz3 (by decide) rfl rfl) ?_
    refine TL_pure (d := (some 10)) rfl rfl rfl (PV_load Try.underlying3 rfl rfl (Rd.at 1 rfl rfl)) ?_
    refine TL_pure (d := (some 11)) rfl rfl rfl (PV.cast (PV_bin rfl rfl bin_sub) (wr64 (by omega))) ?_
    refine TL_pure (d := (some 12)) rfl rfl rfl (PV_nilCheck rfl) ?_
    refine TL_pure (d := (some 13)) rfl rfl rfl (PV_fieldAddr (D := 3) Try.underlying72 rfl sz3 (by decide) rfl rfl) ?_
    refine TL_cons rfl (TO_store1 1 rfl rfl rfl sz3 rfl rfl rfl (by first | exact Nat.le_of_ble_eq_true rfl | (simp; done) | (simp; omega) | omega) ?_)
    refine TL_nil ?_
    refine T_seq ?_
    refine T_seq ?_
    refine T_region ?_
    refine TL_pure (d := (some 14)) rfl rfl rfl (PV_move rfl) ?_
    refine TL_pure (d := (some 15)) rfl rfl rfl (PV_nilCheck rfl) ?_
    refine TL_pure (d := (some 16)) rfl rfl rfl (PV_fieldAddr (D := 3) Try.underlying72 rfl sz3 (by decide) rfl rfl) ?_
    refine TL_pure (d := (some 17)) rfl rfl rfl (PV_load Try.underlying3 rfl rfl (Rd.at 1 rfl rfl)) ?_
    refine TL_pure (d := (some 18)) rfl rfl rfl (PV_bin rfl rfl bin_gtr) ?_
    refine TL_nil ?_
    refine T_else rfl (by exact decide_eq_false (by omega)) ?_
    refine T_skip ?_
    refine T_seq ?_
    refine T_region ?_
    refine TL_pure (d := (some 19)) rfl rfl rfl (PV_move rfl) ?_
    refine TL_pure (d := (some 20)) rfl rfl rfl (PV_move rfl) ?_
    refine TL_pure (d := (some 21)) rfl rfl rfl (PV_nilCheck rfl) ?_
    refine TL_pure (d := (some 22)) rfl rfl rfl (PV_fieldAddr (D := 1) Try.underlying72 rfl sz3 (by decide) rfl rfl) ?_
    refine TL_pure (d := (some 23)) rfl rfl rfl (PV_load Try.underlying3 rfl rfl (Rd.at 1 rfl rfl)) ?_
    refine TL_pure (d := (some 24)) rfl rfl rfl (PV_nilCheck rfl) ?_
    refine TL_pure (d := (some 25)) rfl rfl rfl (PV_fieldAddr (D := 3) Try.underlying72 rfl sz3 (by decide) rfl rfl) ?_
    refine TL_cons rfl (TO_store1 1 rfl rfl rfl sz3 rfl rfl rfl (by first | exact Nat.le_of_ble_eq_true rfl | (simp; done) | (simp; omega) | omega) ?_)
    refine TL_nil ?_
    refine T_seq ?_
    refine T_region ?_
    refine TL_pure (d := (some 26)) rfl rfl rfl (PV_move rfl) ?_
    refine TL_pure (d := (some 27)) rfl rfl rfl (PV_nilCheck rfl) ?_
    refine TL_pure (d := (some 28)) rfl rfl rfl (PV_fieldAddr (D := 7) Try.underlying72 rfl sz26 (by decide) rfl rfl) ?_
    refine TL_cons rfl (TO_store1 1 rfl rfl rfl sz26 rfl rfl rfl (by first | exact Nat.le_of_ble_eq_true rfl | (simp; done) | (simp; omega) | omega) ?_)
    refine TL_nil ?_
    refine T_seq ?_
    refine T_seq ?_
    refine T_region ?_
    refine TL_pure (d := (some 29)) rfl rfl rfl (PV_move rfl) ?_
    refine TL_pure (d := (some 30)) rfl rfl rfl (PV_nilCheck rfl) ?_
    refine TL_pure (d := (some 31)) rfl rfl rfl (PV_fieldAddr (D := 5) Try.underlying72 rfl sz4 (by decide) rfl rfl) ?_
    refine TL_pure (d := (some 32)) rfl rfl rfl (PV_load Try.underlying4 rfl rfl (Rd.at 1 rfl rfl)) ?_
    refine TL_pure (d := (some 33)) rfl rfl rfl (PV_not rfl) ?_
    refine TL_pure (d := (some 34)) rfl rfl rfl (PV_move rfl) ?_
    refine TL_yes rfl rfl (gtrue (by (simp; omega))) (TO_pure rfl (PV_move rfl) ?_)
    refine TL_yes rfl rfl (gtrue (by (simp; omega))) (TO_pure rfl (PV_nilCheck rfl) ?_)
    refine TL_yes rfl rfl (gtrue (by (simp; omega))) (TO_pure rfl (PV_fieldAddr (D := 2) Try.underlying72 rfl sz3 (by decide) rfl rfl) ?_)
    refine TL_yes rfl rfl (gtrue (by (simp; omega))) (TO_pure rfl (PV_load Try.underlying3 rfl rfl (Rd.at 1 rfl rfl)) ?_)
    refine TL_yes rfl rfl (gtrue (by (simp; omega))) (TO_pure rfl (PV_bin rfl rfl bin_eql) ?_)
    refine TL_pure (d := (some 40)) rfl rfl rfl (PV_pickAnd rfl rfl rfl) ?_
    refine TL_nil ?_
    refine T_then rfl (by (simp [*]; done)) ?_
    refine T_seq ?_
    refine T_region ?_
    refine TL_pure (d := (some 41)) rfl rfl rfl (PV_move rfl) ?_
    refine TL_pure (d := (some 42)) rfl rfl rfl (PV_makeInterface (by kernel_rfl) rfl) ?_
    refine TL_cons rfl (TO_bs (cs := [_, _]) Try.underlying26 zs5 (by decide) rfl rfl rfl rfl rfl rfl fun g4 => ?_)
    refine TL_perm ((perm_pick (i := 2) rfl).trans (List.Perm.cons _ (List.Perm.refl _))) ?_
    refine TL_cons rfl (TO_call0 call38 rfl rfl (t96tries (r := { r with left := r.wait, buf := [] }) _ _ _) ?_)
    rintro v44_7 H44_7 ⟨rfl, rfl⟩
    refine TL_pure (d := (some 2)) rfl rfl rfl (PV_assign rfl) ?_
    refine TL_nil ?_
    refine T.perm ((perm_pick (i := 1) rfl).trans (List.Perm.cons _ ((perm_pick (i := 0) rfl).trans (List.Perm.cons _ ((perm_pick (i := 0) rfl).trans (List.Perm.cons _ ((perm_pick (i := 1) rfl).trans (List.Perm.cons _ (List.Perm.refl _))))))))) ?_
    refine T_dropAt 4 ?_
    refine T_ret ?_
    refine ret_ret (ResV_one rfl rfl) ⟨_, List.Sublist.refl _, ⟨_, _, _, _, _, _, rfl, ?sd8q113_0, rfl⟩⟩
    case sd8q113_0 => decide
  rw [if_neg h2, if_neg h2]
  by_cases h3 : r.begun = false
  · have h3t : r.tries ≠ 0 := fun h => h2 ⟨h3, h⟩
    rw [if_pos h3]
    refine TCall_intro (args := [_]) Try.func31 rfl Try.ntmps31 (Nat.le_of_ble_eq_true rfl) ?_
    refine T_addNil 1 ?_
    refine T_seq ?_
    refine T_region ?_
    refine TL_pure (d := (some 2)) rfl rfl rfl (PV_assign rfl) ?_
    refine TL_nil ?_
    refine T_seq ?_
    refine T_seq ?_
    refine T_region ?_
    refine TL_pure (d := (some 3)) rfl rfl rfl (PV_move rfl) ?_
    refine TL_pure (d := (some 4)) rfl rfl rfl (PV_nilCheck rfl) ?_
    refine TL_pure (d := (some 5)) rfl rfl rfl (PV_fieldAddr (D := 11) Try.underlying72 rfl sz4 (by decide) rfl rfl) ?_
    refine TL_pure (d := (some 6)) rfl rfl rfl (PV_load Try.underlying4 rfl rfl (Rd.at 1 rfl rfl)) ?_
    refine TL_nil ?_
    refine T_else rfl (by (simp [*]; done)) ?_
    refine T_skip ?_
    refine T_seq ?_
    refine T_region ?_
    refine TL_pure (d := (some 7)) rfl rfl rfl (PV_move rfl) ?_
    refine TL_pure (d := (some 8)) rfl rfl rfl (PV_nilCheck rfl) ?_
    refine TL_pure (d := (some 9)) rfl rfl rfl (PV_fieldAddr (D := 3) Try.underlying72 rfl sz3 (by decide) rfl rfl) ?_
    refine TL_pure (d := (some 10)) rfl rfl rfl (PV_load Try.underlying3 rfl rfl (Rd.at 1 rfl rfl)) ?_
    refine TL_pure (d := (some 11)) rfl rfl rfl (PV.cast (PV_bin rfl rfl bin_sub) (wr64 (by omega))) ?_
    refine TL_pure (d := (some 12)) rfl rfl rfl (PV_nilCheck rfl) ?_
    refine TL_pure (d := (some 13)) rfl rfl rfl (PV_fieldAddr (D := 3) Try.underlying72 rfl sz3 (by decide) rfl rfl) ?_
    refine TL_cons rfl (TO_store1 1 rfl rfl rfl sz3 rfl rfl rfl (by first | exact Nat.le_of_ble_eq_true rfl | (simp; done) | (simp; omega) | omega) ?_)
    refine TL_nil ?_
    refine T_seq ?_
    refine T_seq ?_
    refine T_region ?_
    refine TL_pure (d := (some 14)) rfl rfl rfl (PV_move rfl) ?_
    refine TL_pure (d := (some 15)) rfl rfl rfl (PV_nilCheck rfl) ?_
    refine TL_pure (d := (some 16)) rfl rfl rfl (PV_fieldAddr (D := 3) Try.underlying72 rfl sz3 (by decide) rfl rfl) ?_
    refine TL_pure (d := (some 17)) rfl rfl rfl (PV_load Try.underlying3 rfl rfl (Rd.at 1 rfl rfl)) ?_
    refine TL_pure (d := (some 18)) rfl rfl rfl (PV_bin rfl rfl bin_gtr) ?_
    refine TL_nil ?_
    refine T_else rfl (by exact decide_eq_false (by omega)) ?_
    refine T_skip ?_
    refine T_seq ?_
    refine T_region ?_
    refine TL_pure (d := (some 19)) rfl rfl rfl (PV_move rfl) ?_
    refine TL_pure (d := (some 20)) rfl rfl rfl (PV_move rfl) ?_
    refine TL_pure (d := (some 21)) rfl rfl rfl (PV_nilCheck rfl) ?_
    refine TL_pure (d := (some 22)) rfl rfl rfl (PV_fieldAddr (D := 1) Try.underlying72 rfl sz3 (by decide) rfl rfl) ?_
    refine TL_pure (d := (some 23)) rfl rfl rfl (PV_load Try.underlying3 rfl rfl (Rd.at 1 rfl rfl)) ?_
    refine TL_pure (d := (some 24)) rfl rfl rfl (PV_nilCheck rfl) ?_
    refine TL_pure (d := (some 25)) rfl rfl rfl (PV_fieldAddr (D := 3) Try.underlying72 rfl sz3 (by decide) rfl rfl) ?_
    refine TL_cons rfl (TO_store1 1 rfl rfl rfl sz3 rfl rfl rfl (by first | exact Nat.le_of_ble_eq_true rfl | (simp; done) | (simp; omega) | omega) ?_)
    refine TL_nil ?_
    refine T_seq ?_
    refine T_region ?_
    refine TL_pure (d := (some 26)) rfl rfl rfl (PV_move rfl) ?_
    refine TL_pure (d := (some 27)) rfl rfl rfl (PV_nilCheck rfl) ?_
    refine TL_pure (d := (some 28)) rfl rfl rfl (PV_fieldAddr (D := 7) Try.underlying72 rfl sz26 (by decide) rfl rfl) ?_
    refine TL_cons rfl (TO_store1 1 rfl rfl rfl sz26 rfl rfl rfl (by first | exact Nat.le_of_ble_eq_true rfl | (simp; done) | (simp; omega) | omega) ?_)
    refine TL_nil ?_
    refine T_seq ?_
    refine T_seq ?_
    refine T_region ?_
    refine TL_pure (d := (some 29)) rfl rfl rfl (PV_move rfl) ?_
    refine TL_pure (d := (some 30)) rfl rfl rfl (PV_nilCheck rfl) ?_
    refine TL_pure (d := (some 31)) rfl rfl rfl (PV_fieldAddr (D := 5) Try.underlying72 rfl sz4 (by decide) rfl rfl) ?_
    refine TL_pure (d := (some 32)) rfl rfl rfl (PV_load Try.underlying4 rfl rfl (Rd.at 1 rfl rfl)) ?_
    refine TL_pure (d := (some 33)) rfl rfl rfl (PV_not rfl) ?_
    refine TL_pure (d := (some 34)) rfl rfl rfl (PV_move rfl) ?_
    refine TL_yes rfl rfl (gtrue (by (simp; omega))) (TO_pure rfl (PV_move rfl) ?_)
    refine TL_yes rfl rfl (gtrue (by (simp; omega))) (TO_pure rfl (PV_nilCheck rfl) ?_)
    refine TL_yes rfl rfl (gtrue (by (simp; omega))) (TO_pure rfl (PV_fieldAddr (D := 2) Try.underlying72 rfl sz3 (by decide) rfl rfl) ?_)
    refine TL_yes rfl rfl (gtrue (by (simp; omega))) (TO_pure rfl (PV_load Try.underlying3 rfl rfl (Rd.at 1 rfl rfl)) ?_)
    refine TL_yes rfl rfl (gtrue (by (simp; omega))) (TO_pure rfl (PV_bin rfl rfl bin_eql) ?_)
    refine TL_pure (d := (some 40)) rfl rfl rfl (PV_pickAnd rfl rfl rfl) ?_
    refine TL_nil ?_
    refine T_else rfl (by (simp; omega)) ?_
    refine T_skip ?_
    refine T_seq ?_
    refine T_seq ?_
    refine T_region ?_
    refine TL_pure (d := (some 45)) rfl rfl rfl (PV_move rfl) ?_
    refine TL_pure (d := (some 46)) rfl rfl rfl (PV_nilCheck rfl) ?_
    refine TL_pure (d := (some 47)) rfl rfl rfl (PV_fieldAddr (D := 5) Try.underlying72 rfl sz4 (by decide) rfl rfl) ?_
    refine TL_pure (d := (some 48)) rfl rfl rfl (PV_load Try.underlying4 rfl rfl (Rd.at 1 rfl rfl)) ?_
    refine TL_pure (d := (some 49)) rfl rfl rfl (PV_not rfl) ?_
    refine TL_nil ?_
    refine T_then rfl (by (simp; omega)) ?_
    refine T_region ?_
    refine TL_pure (d := (some 50)) rfl rfl rfl (PV_move rfl) ?_
    refine TL_pure (d := (some 51)) rfl rfl rfl (PV_nilCheck rfl) ?_
    refine TL_pure (d := (some 52)) rfl rfl rfl (PV_fieldAddr (D := 2) Try.underlying72 rfl sz3 (by decide) rfl rfl) ?_
    refine TL_pure (d := (some 53)) rfl rfl rfl (PV_load Try.underlying3 rfl rfl (Rd.at 1 rfl rfl)) ?_
    refine TL_pure (d := (some 54)) rfl rfl rfl (PV.cast (PV_bin rfl rfl bin_sub) (wr64 (by omega))) ?_
    refine TL_pure (d := (some 55)) rfl rfl rfl (PV_nilCheck rfl) ?_
    refine TL_pure (d := (some 56)) rfl rfl rfl (PV_fieldAddr (D := 2) Try.underlying72 rfl sz3 (by decide) rfl rfl) ?_
    refine TL_cons rfl (TO_store1 1 rfl rfl rfl sz3 rfl rfl rfl (by first | exact Nat.le_of_ble_eq_true rfl | (simp; done) | (simp; omega) | omega) ?_)
    refine TL_nil ?_
    refine T_seq ?_
    refine T_region ?_
    refine TL_pure (d := (some 57)) rfl rfl rfl (PV_move rfl) ?_
    refine TL_perm ((perm_pick (i := 1) rfl).trans (List.Perm.cons _ (List.Perm.refl _))) ?_
    refine TL_cons rfl (TO_call0 call39 rfl rfl (t97 (r := { r with left := r.wait, buf := [], tries := r.tries - 1 })) ?_)
    rintro v58_7 H58_7 ⟨rfl, rfl⟩
    refine TL_cons rfl (TO_bs (cs := [_]) Try.underlying26 zs5 (by decide) rfl rfl rfl rfl rfl rfl fun g8 => ?_)
    refine TL_pure (d := (some 2)) rfl rfl rfl (PV_assign rfl) ?_
    refine TL_nil ?_
    refine T.perm ((perm_pick (i := 0) rfl).trans (List.Perm.cons _ ((perm_pick (i := 0) rfl).trans (List.Perm.cons _ ((perm_pick (i := 0) rfl).trans (List.Perm.cons _ ((perm_pick (i := 1) rfl).trans (List.Perm.cons _ (List.Perm.refl _))))))))) ?_
    refine T_dropAt 4 ?_
    refine T_ret ?_
    refine ret_ret (ResV_one rfl rfl) ⟨_, List.Sublist.refl _, ⟨_, _, _, _, _, _, rfl, ?sd9q119_0, rfl⟩⟩
    case sd9q119_0 => exact Nat.le_refl _
  · rw [if_neg h3]
    refine TCall_intro (args := [_]) Try.func31 rfl Try.ntmps31 (Nat.le_of_ble_eq_true rfl) ?_
    refine T_addNil 1 ?_
    refine T_seq ?_
    refine T_region ?_
    refine TL_pure (d := (some 2)) rfl rfl rfl (PV_assign rfl) ?_
    refine TL_nil ?_
    refine T_seq ?_
    refine T_seq ?_
    refine T_region ?_
    refine TL_pure (d := (some 3)) rfl rfl rfl (PV_move rfl) ?_
    refine TL_pure (d := (some 4)) rfl rfl rfl (PV_nilCheck rfl) ?_
    refine TL_pure (d := (some 5)) rfl rfl rfl (PV_fieldAddr (D := 11) Try.underlying72 rfl sz4 (by decide) rfl rfl) ?_
    refine TL_pure (d := (some 6)) rfl rfl rfl (PV_load Try.underlying4 rfl rfl (Rd.at 1 rfl rfl)) ?_
    refine TL_nil ?_
    refine T_else rfl (by (simp [*]; done)) ?_
    refine T_skip ?_
    refine T_seq ?_
    refine T_region ?_
    refine TL_pure (d := (some 7)) rfl rfl rfl (PV_move rfl) ?_
    refine TL_pure (d := (some 8)) rfl rfl rfl (PV_nilCheck rfl) ?_
    refine TL_pure (d := (some 9)) rfl rfl rfl (PV_fieldAddr (D := 3) Try.underlying72 rfl sz3 (by decide) rfl rfl) ?_
    refine TL_pure (d := (some 10)) rfl rfl rfl (PV_load Try.underlying3 rfl rfl (Rd.at 1 rfl rfl)) ?_
    refine TL_pure (d := (some 11)) rfl rfl rfl (PV.cast (PV_bin rfl rfl bin_sub) (wr64 (by omega))) ?_
    refine TL_pure (d := (some 12)) rfl rfl rfl (PV_nilCheck rfl) ?_
    refine TL_pure (d := (some 13)) rfl rfl rfl (PV_fieldAddr (D := 3) Try.underlying72 rfl sz3 (by decide) rfl rfl) ?_
    refine TL_cons rfl (TO_store1 1 rfl rfl rfl sz3 rfl rfl rfl (by first | exact Nat.le_of_ble_eq_true rfl | (simp; done) | (simp; omega) | omega) ?_)
    refine TL_nil ?_
    refine T_seq ?_
    refine T_seq ?_
    refine T_region ?_
    refine TL_pure (d := (some 14)) rfl rfl rfl (PV_move rfl) ?_
    refine TL_pure (d := (some 15)) rfl rfl rfl (PV_nilCheck rfl) ?_
    refine TL_pure (d := (some 16)) rfl rfl rfl (PV_fieldAddr (D := 3) Try.underlying72 rfl sz3 (by decide) rfl rfl) ?_
    refine TL_pure (d := (some 17)) rfl rfl rfl (PV_load Try.underlying3 rfl rfl (Rd.at 1 rfl rfl)) ?_
    refine TL_pure (d := (some 18)) rfl rfl rfl (PV_bin rfl rfl bin_gtr) ?_
    refine TL_nil ?_
    refine T_else rfl (by exact decide_eq_false (by omega)) ?_
    refine T_skip ?_
    refine T_seq ?_
    refine T_region ?_
    refine TL_pure (d := (some 19)) rfl rfl rfl (PV_move rfl) ?_
    refine TL_pure (d := (some 20)) rfl rfl rfl (PV_move rfl) ?_
    refine TL_pure (d := (some 21)) rfl rfl rfl (PV_nilCheck rfl) ?_
    refine TL_pure (d := (some 22)) rfl rfl rfl (PV_fieldAddr (D := 1) Try.underlying72 rfl sz3 (by decide) rfl rfl) ?_
    refine TL_pure (d := (some 23)) rfl rfl rfl (PV_load Try.underlying3 rfl rfl (Rd.at 1 rfl rfl)) ?_
    refine TL_pure (d := (some 24)) rfl rfl rfl (PV_nilCheck rfl) ?_
    refine TL_pure (d := (some 25)) rfl rfl rfl (PV_fieldAddr (D := 3) Try.underlying72 rfl sz3 (by decide) rfl rfl) ?_
    refine TL_cons rfl (TO_store1 1 rfl rfl rfl sz3 rfl rfl rfl (by first | exact Nat.le_of_ble_eq_true rfl | (simp; done) | (simp; omega) | omega) ?_)
    refine TL_nil ?_
    refine T_seq ?_
    refine T_region ?_
    refine TL_pure (d := (some 26)) rfl rfl rfl (PV_move rfl) ?_
    refine TL_pure (d := (some 27)) rfl rfl rfl (PV_nilCheck rfl) ?_
    refine TL_pure (d := (some 28)) rfl rfl rfl (PV_fieldAddr (D := 7) Try.underlying72 rfl sz26 (by decide) rfl rfl) ?_
    refine TL_cons rfl (TO_store1 1 rfl rfl rfl sz26 rfl rfl rfl (by first | exact Nat.le_of_ble_eq_true rfl | (simp; done) | (simp; omega) | omega) ?_)
    refine TL_nil ?_
    refine T_seq ?_
    refine T_seq ?_
    refine T_region ?_
    refine TL_pure (d := (some 29)) rfl rfl rfl (PV_move rfl) ?_
    refine TL_pure (d := (some 30)) rfl rfl rfl (PV_nilCheck rfl) ?_
    refine TL_pure (d := (some 31)) rfl rfl rfl (PV_fieldAddr (D := 5) Try.underlying72 rfl sz4 (by decide) rfl rfl) ?_
    refine TL_pure (d := (some 32)) rfl rfl rfl (PV_load Try.underlying4 rfl rfl (Rd.at 1 rfl rfl)) ?_
    refine TL_pure (d := (some 33)) rfl rfl rfl (PV_not rfl) ?_
    refine TL_pure (d := (some 34)) rfl rfl rfl (PV_move rfl) ?_
    refine TL_no (b := false) rfl rfl (gfalse (by (simp [*]; done))) rfl ?_
    refine TL_no (b := false) rfl rfl (gfalse (by (simp [*]; done))) rfl ?_
    refine TL_no (b := false) rfl rfl (gfalse (by (simp [*]; done))) rfl ?_
    refine TL_no (b := false) rfl rfl (gfalse (by (simp [*]; done))) rfl ?_
    refine TL_no (b := false) rfl rfl (gfalse (by (simp [*]; done))) rfl ?_
    refine TL_pure (d := (some 40)) rfl rfl rfl (PV_pickF rfl (by first | assumption | rfl | (simp; done) | (simp; omega) | (simp [*]; done) | (simp [*]; omega)) rfl rfl) ?_
    refine TL_nil ?_
    refine T_else rfl (by rfl) ?_
    refine T_skip ?_
    refine T_seq ?_
    refine T_seq ?_
    refine T_region ?_
    refine TL_pure (d := (some 45)) rfl rfl rfl (PV_move rfl) ?_
    refine TL_pure (d := (some 46)) rfl rfl rfl (PV_nilCheck rfl) ?_
    refine TL_pure (d := (some 47)) rfl rfl rfl (PV_fieldAddr (D := 5) Try.underlying72 rfl sz4 (by decide) rfl rfl) ?_
    refine TL_pure (d := (some 48)) rfl rfl rfl (PV_load Try.underlying4 rfl rfl (Rd.at 1 rfl rfl)) ?_
    refine TL_pure (d := (some 49)) rfl rfl rfl (PV_not rfl) ?_
    refine TL_nil ?_
    refine T_else rfl (by (simp [*]; done)) ?_
    refine T_skip ?_
    refine T_seq ?_
    refine T_region ?_
    refine TL_pure (d := (some 57)) rfl rfl rfl (PV_move rfl) ?_
    refine TL_perm ((perm_pick (i := 1) rfl).trans (List.Perm.cons _ (List.Perm.refl _))) ?_
    refine TL_cons rfl (TO_call0 call39 rfl rfl (t97 (r := { r with left := r.wait, buf := [] })) ?_)
    rintro v58_6 H58_6 ⟨rfl, rfl⟩
    refine TL_cons rfl (TO_bs (cs := [_]) Try.underlying26 zs5 (by decide) rfl rfl rfl rfl rfl rfl fun g7 => ?_)
    refine TL_pure (d := (some 2)) rfl rfl rfl (PV_assign rfl) ?_
    refine TL_nil ?_
    refine T.perm ((perm_pick (i := 0) rfl).trans (List.Perm.cons _ ((perm_pick (i := 0) rfl).trans (List.Perm.cons _ ((perm_pick (i := 0) rfl).trans (List.Perm.cons _ ((perm_pick (i := 1) rfl).trans (List.Perm.cons _ (List.Perm.refl _))))))))) ?_
    refine T_dropAt 4 ?_
    refine T_ret ?_
    refine ret_ret (ResV_one rfl rfl) ⟨_, List.Sublist.refl _, ⟨_, _, _, _, _, _, rfl, ?sd8q122_0, rfl⟩⟩
    case sd8q122_0 => exact Nat.le_refl _
end
end Go.Proofs.Ytcbkcggijejooaa.SL
