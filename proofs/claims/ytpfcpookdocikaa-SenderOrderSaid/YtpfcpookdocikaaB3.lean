import Derived.Test.YtpfcpookdocikaaB2
/- Blocks: Scan. No statement is proved here. -/
set_option linter.unusedVariables false
set_option linter.unusedSimpArgs false
set_option maxRecDepth 100000
namespace Go.Proofs.Ytpfcpookdocikaa.SL
open Go Go.RowKit
section
variable {w0 : World} {B : Nat} {H : List Chunk}
def scanT (l : List Int) (crc : Bool) : Nat := sizeL (rd l 0) crc - (trailL [] crc).length
def scanD (l : List Int) (crc : Bool) : List Int := (l.take (scanT l crc)).drop 3
def scanE (l : List Int) (crc : Bool) : List Int := (l.take (sizeL (rd l 0) crc)).drop (scanT l crc)
def scanS (l : List Int) (crc : Bool) : Nat :=
  if l.length = 0 then 0 else if sizeL (rd l 0) crc = 0 then 1 else if 2 < l.length ∧ rd l 1 ≠ 255 - rd l 2 then 1
  else if l.length < sizeL (rd l 0) crc then 0 else if strOfNums (trailL (scanD l crc) crc) = strOfNums (scanE l crc) then 2 else 1
theorem t52_0 {A : Option Addr} {c : Nat} (crc : Bool) : TCall Try.prog w0 B 14 #[.slice A 0 c, .bool crc] (fun r H' => r = .tuple #[.agg #[.int .u8 0, .slice none 0 0], .int .i64 0] ∧ H' = H) H := by
  refine TCall_intro (args := [_, _]) Try.func14 rfl Try.ntmps14 (Nat.le_of_ble_eq_true rfl) ?_
  refine T_seq ?_
  refine T_region ?_
  refine TL_cons rfl (TO_alloc rfl zr28 fun g1 => ?_)
  refine TL_p (PV_assign rfl) ?_
  refine TL_nil ?_
  refine T_scope 0 rfl ?_
  refine T_seq ?_
  refine T_region ?_
  refine TL_cons rfl (TO_alloc rfl zr28 fun g2 => ?_)
  refine TL_nil ?_
  refine T_seq ?_
  refine T_region ?_
  refine TL_p (PV_assign rfl) ?_
  refine TL_nil ?_
  refine T_seq ?_
  refine T_seq ?_
  refine T_region ?_
  refine TL_p (PV_move rfl) ?_
  refine TL_p (PV_len_slice Try.underlying26 rfl) ?_
  refine TL_p (PV_bin rfl rfl bin_eql) ?_
  refine TL_nil ?_
  refine T_then rfl (by rfl) ?_
  refine T_goto ?_
  refine ⟨rfl, ?_⟩
  refine T_seq ?_
  refine T_skip ?_
  refine T_seq ?_
  refine T_seq ?_
  refine T_region ?_
  refine TL_p (PV_bld (cs := [_, _]) Try.underlying28 pl28 zr28 rfl rfl) ?_
  refine TL_cons rfl (TO_store 1 rfl rfl rfl sz28 rfl rfl rfl (all_one rfl) (by first | exact Nat.le_of_ble_eq_true rfl | (simp; done) | (simp; omega) | omega) ?_)
  refine TL_p (PV_assign rfl) ?_
  refine TL_nil ?_
  refine T_ret ?_
  refine ret_ret (ResV_ct rfl Try.underlying28 rfl sz28 rfl (Rds.take 1 rfl rfl rfl) rfl) ⟨_, ?zb4q18, ⟨rfl, rfl⟩⟩
  case zb4q18 => exact (by (repeat (first | exact Sb.r | exact Sb.ar | exact Sb.al | apply Sb.c | apply Sb.d | refine Sb.t ?_)); done)
theorem t52_1 {A : Option Addr} {m c : Nat} {l : List Int} (crc : Bool) (h : Shows (WH w0 B H) A m 1 (nums .u8 l)) (hlm : l.length = m) (hm : m ≤ 9223372036854775807) (hc : m ≤ c) (hu : U8s l) (h0 : 0 < m) (hz : sizeL (rd l 0) crc = 0) : TCall Try.prog w0 B 14 #[.slice A m c, .bool crc] (fun r H' => r = .tuple #[.agg #[.int .u8 0, .slice none 0 0], .int .i64 1] ∧ H' = H) H := by
  refine TCall_intro (args := [_, _]) Try.func14 rfl Try.ntmps14 (Nat.le_of_ble_eq_true rfl) ?_
  refine T_shows h (by rw [nums_length]; omega) fun ga oa hA hrd => ?_
  subst hA
  have r0 := hrd _ _ (nums_at' (off := 0 * 1) 0 rfl (by omega))
  refine T_seq ?_
  refine T_region ?_
  refine TL_cons rfl (TO_alloc rfl zr28 fun g1 => ?_)
  refine TL_p (PV_assign rfl) ?_
  refine TL_nil ?_
  refine T_scope 1 rfl ?_
  refine T_seq ?_
  refine T_region ?_
  refine TL_cons rfl (TO_alloc rfl zr28 fun g2 => ?_)
  refine TL_nil ?_
  refine T_seq ?_
  refine T_region ?_
  refine TL_p (PV_assign rfl) ?_
  refine TL_nil ?_
  refine T_seq ?_
  refine T_seq ?_
  refine T_region ?_
  refine TL_p (PV_move rfl) ?_
  refine TL_p (PV_len_slice Try.underlying26 rfl) ?_
  refine TL_p (PV_bin rfl rfl bin_eql) ?_
  refine TL_nil ?_
  refine T_else rfl (by exact decide_eq_false (by omega)) ?_
  refine T_skip ?_
  refine T_seq ?_
  refine T_region ?_
  refine TL_p (PV_move rfl) ?_
  refine TL_p (PV_indexAddr (i := 0) Try.underlying26 sz5 rfl rfl rfl (by first | omega | decide | assumption)) ?_
  refine TL_p (PV_load Try.underlying5 rfl rfl (Rd.mono r0 (fun w h => h.sub (by (repeat (first | exact Sb.r | exact Sb.ar | exact Sb.al | apply Sb.d | refine Sb.t ?_)); done)))) ?_
  refine TL_p (PV_move rfl) ?_
  refine TL_cons rfl (TO_call0 call22 rfl rfl (t_size _ _) ?_)
  rintro v15_5 H15_5 ⟨rfl, rfl⟩
  refine TL_p (PV_assign rfl) ?_
  refine TL_nil ?_
  refine T_seq ?_
  refine T_seq ?_
  refine T_region ?_
  refine TL_p (PV_move rfl) ?_
  refine TL_p (PV_bin rfl rfl bin_eql) ?_
  refine TL_nil ?_
  refine T_then rfl (by (simp; omega)) ?_
  refine T_goto ?_
  refine ⟨rfl, ?_⟩
  refine T_seq ?_
  refine T_skip ?_
  refine T_seq ?_
  refine T_region ?_
  refine TL_p (PV_bld (cs := [_, _]) Try.underlying28 pl28 zr28 rfl rfl) ?_
  refine TL_cons rfl (TO_store 1 rfl rfl rfl sz28 rfl rfl rfl (all_one rfl) (by first | exact Nat.le_of_ble_eq_true rfl | (simp; done) | (simp; omega) | omega) ?_)
  refine TL_p (PV_assign rfl) ?_
  refine TL_nil ?_
  refine T_ret ?_
  refine ret_ret (ResV_ct rfl Try.underlying28 rfl sz28 rfl (Rds.take 1 rfl rfl rfl) rfl) ⟨_, ?zb7q24, ⟨rfl, rfl⟩⟩
  case zb7q24 => exact (by (repeat (first | exact Sb.r | exact Sb.ar | exact Sb.al | apply Sb.c | apply Sb.d | refine Sb.t ?_)); done)
theorem t52_x {A : Option Addr} {m c : Nat} {l : List Int} (crc : Bool) (h : Shows (WH w0 B H) A m 1 (nums .u8 l)) (hlm : l.length = m) (hm : m ≤ 9223372036854775807) (hc : m ≤ c) (hu : U8s l) (h0 : 2 < m) (hz : sizeL (rd l 0) crc ≠ 0) (hx : rd l 1 ≠ 255 - rd l 2) : TCall Try.prog w0 B 14 #[.slice A m c, .bool crc] (fun r H' => r = .tuple #[.agg #[.int .u8 0, .slice none 0 0], .int .i64 1] ∧ H' = H) H := by
  refine TCall_intro (args := [_, _]) Try.func14 rfl Try.ntmps14 (Nat.le_of_ble_eq_true rfl) ?_
  refine T_shows h (by rw [nums_length]; omega) fun ga oa hA hrd => ?_
  subst hA
  have r0 := hrd _ _ (nums_at' (off := 0 * 1) 0 rfl (by omega))
  have r1 := hrd _ _ (nums_at' (off := 1 * 1) 1 rfl (by omega))
  have r2 := hrd _ _ (nums_at' (off := 2 * 1) 2 rfl (by omega))
  have hcm := com8 _ (hu.at_ 2)
  refine T_seq ?_
  refine T_region ?_
  refine TL_cons rfl (TO_alloc rfl zr28 fun g1 => ?_)
  refine TL_p (PV_assign rfl) ?_
  refine TL_nil ?_
  refine T_scope 1 rfl ?_
  refine T_seq ?_
  refine T_region ?_
  refine TL_cons rfl (TO_alloc rfl zr28 fun g2 => ?_)
  refine TL_nil ?_
  refine T_seq ?_
  refine T_region ?_
  refine TL_p (PV_assign rfl) ?_
  refine TL_nil ?_
  refine T_seq ?_
  refine T_seq ?_
  refine T_region ?_
  refine TL_p (PV_move rfl) ?_
  refine TL_p (PV_len_slice Try.underlying26 rfl) ?_
  refine TL_p (PV_bin rfl rfl bin_eql) ?_
  refine TL_nil ?_
  refine T_else rfl (by exact decide_eq_false (by omega)) ?_
  refine T_skip ?_
  refine T_seq ?_
  refine T_region ?_
  refine TL_p (PV_move rfl) ?_
  refine TL_p (PV_indexAddr (i := 0) Try.underlying26 sz5 rfl rfl rfl (by first | omega | decide | assumption)) ?_
  refine TL_p (PV_load Try.underlying5 rfl rfl (Rd.mono r0 (fun w h => h.sub (by (repeat (first | exact Sb.r | exact Sb.ar | exact Sb.al | apply Sb.d | refine Sb.t ?_)); done)))) ?_
  refine TL_p (PV_move rfl) ?_
  refine TL_cons rfl (TO_call0 call22 rfl rfl (t_size _ _) ?_)
  rintro v15_5 H15_5 ⟨rfl, rfl⟩
  refine TL_p (PV_assign rfl) ?_
  refine TL_nil ?_
  refine T_seq ?_
  refine T_seq ?_
  refine T_region ?_
  refine TL_p (PV_move rfl) ?_
  refine TL_p (PV_bin rfl rfl bin_eql) ?_
  refine TL_nil ?_
  refine T_else rfl (by (simp; omega)) ?_
  refine T_skip ?_
  refine T_seq ?_
  refine T_seq ?_
  refine T_drawn (WH _ _ _) mixed (fun w h => h) ?_
  refine TA_p 0 rfl (by kernel_rfl) (PV_move rfl) ?_
  refine TA_p 1 rfl (by kernel_rfl) (PV_len_slice Try.underlying26 rfl) ?_
  refine TA_p 2 rfl (by kernel_rfl) (PV_bin rfl rfl bin_gtr) ?_
  refine TA_p 3 rfl (by kernel_rfl) (PV_move rfl) ?_
  refine TA_yes (dd := (some 22)) 4 rfl (by kernel_rfl) (by kernel_rfl) (by kernel_rfl) rfl rfl (gtrue (by exact decide_eq_true (by omega))) rfl rfl (PV_move rfl) ?_
  refine TA_yes (dd := (some 23)) 5 rfl (by kernel_rfl) (by kernel_rfl) (by kernel_rfl) rfl rfl (gtrue (by exact decide_eq_true (by omega))) rfl rfl (PV_indexAddr (i := 1) Try.underlying26 sz5 rfl rfl rfl (by first | omega | decide | assumption)) ?_
  refine TA_yes (dd := (some 24)) 6 rfl (by kernel_rfl) (by kernel_rfl) (by kernel_rfl) rfl rfl (gtrue (by exact decide_eq_true (by omega))) rfl rfl (PV_load Try.underlying5 rfl rfl (Rd.mono r1 (fun w h => h.sub (by (repeat (first | exact Sb.r | exact Sb.ar | exact Sb.al | apply Sb.d | refine Sb.t ?_)); done)))) ?_
  refine TA_yes (dd := (some 25)) 7 rfl (by kernel_rfl) (by kernel_rfl) (by kernel_rfl) rfl rfl (gtrue (by exact decide_eq_true (by omega))) rfl rfl (PV_move rfl) ?_
  refine TA_yes (dd := (some 26)) 8 rfl (by kernel_rfl) (by kernel_rfl) (by kernel_rfl) rfl rfl (gtrue (by exact decide_eq_true (by omega))) rfl rfl (PV_indexAddr (i := 2) Try.underlying26 sz5 rfl rfl rfl (by first | omega | decide | assumption)) ?_
  refine TA_yes (dd := (some 27)) 9 rfl (by kernel_rfl) (by kernel_rfl) (by kernel_rfl) rfl rfl (gtrue (by exact decide_eq_true (by omega))) rfl rfl (PV_load Try.underlying5 rfl rfl (Rd.mono r2 (fun w h => h.sub (by (repeat (first | exact Sb.r | exact Sb.ar | exact Sb.al | apply Sb.d | refine Sb.t ?_)); done)))) ?_
  refine TA_yes (dd := (some 28)) 10 rfl (by kernel_rfl) (by kernel_rfl) (by kernel_rfl) rfl rfl (gtrue (by exact decide_eq_true (by omega))) rfl rfl (PV.cast (PV_com rfl) hcm) ?_
  refine TA_yes (dd := (some 29)) 11 rfl (by kernel_rfl) (by kernel_rfl) (by kernel_rfl) rfl rfl (gtrue (by exact decide_eq_true (by omega))) rfl rfl (PV_bin rfl rfl bin_neq) ?_
  refine TA_p 12 rfl (by kernel_rfl) (PV_pickAnd rfl rfl rfl) ?_
  refine TA_done (by kernel_rfl) ?_
  refine T_then rfl (by (simp; omega)) ?_
  refine T_goto ?_
  refine ⟨rfl, ?_⟩
  refine T_seq ?_
  refine T_skip ?_
  refine T_seq ?_
  refine T_region ?_
  refine TL_p (PV_bld (cs := [_, _]) Try.underlying28 pl28 zr28 rfl rfl) ?_
  refine TL_cons rfl (TO_store 1 rfl rfl rfl sz28 rfl rfl rfl (all_one rfl) (by first | exact Nat.le_of_ble_eq_true rfl | (simp; done) | (simp; omega) | omega) ?_)
  refine TL_p (PV_assign rfl) ?_
  refine TL_nil ?_
  refine T_ret ?_
  refine ret_ret (ResV_ct rfl Try.underlying28 rfl sz28 rfl (Rds.take 1 rfl rfl rfl) rfl) ⟨_, ?zb7q34, ⟨rfl, rfl⟩⟩
  case zb7q34 => exact (by (repeat (first | exact Sb.r | exact Sb.ar | exact Sb.al | apply Sb.c | apply Sb.d | refine Sb.t ?_)); done)
theorem t52_n {A : Option Addr} {m c : Nat} {l : List Int} (crc : Bool) (h : Shows (WH w0 B H) A m 1 (nums .u8 l)) (hlm : l.length = m) (hm : m ≤ 9223372036854775807) (hc : m ≤ c) (hu : U8s l) (h0 : 0 < m) (hz : sizeL (rd l 0) crc ≠ 0) (hx : 2 < m → rd l 1 = 255 - rd l 2) (hn : m < sizeL (rd l 0) crc) : TCall Try.prog w0 B 14 #[.slice A m c, .bool crc] (fun r H' => r = .tuple #[.agg #[.int .u8 0, .slice none 0 0], .int .i64 0] ∧ H' = H) H := by
  refine TCall_intro (args := [_, _]) Try.func14 rfl Try.ntmps14 (Nat.le_of_ble_eq_true rfl) ?_
  refine T_shows h (by rw [nums_length]; omega) fun ga oa hA hrd => ?_
  subst hA
  have r0 := hrd _ _ (nums_at' (off := 0 * 1) 0 rfl (by omega))
  by_cases h2 : 2 < m
  · have r1 := hrd _ _ (nums_at' (off := 1 * 1) 1 rfl (by omega))
    have r2 := hrd _ _ (nums_at' (off := 2 * 1) 2 rfl (by omega))
    have hcm := com8 _ (hu.at_ 2)
    have hx2 := hx h2
    refine T_seq ?_
    refine T_region ?_
    refine TL_cons rfl (TO_alloc rfl zr28 fun g1 => ?_)
    refine TL_p (PV_assign rfl) ?_
    refine TL_nil ?_
    refine T_scope 0 rfl ?_
    refine T_seq ?_
    refine T_region ?_
    refine TL_cons rfl (TO_alloc rfl zr28 fun g2 => ?_)
    refine TL_nil ?_
    refine T_seq ?_
    refine T_region ?_
    refine TL_p (PV_assign rfl) ?_
    refine TL_nil ?_
    refine T_seq ?_
    refine T_seq ?_
    refine T_region ?_
    refine TL_p (PV_move rfl) ?_
    refine TL_p (PV_len_slice Try.underlying26 rfl) ?_
    refine TL_p (PV_bin rfl rfl bin_eql) ?_
    refine TL_nil ?_
    refine T_else rfl (by exact decide_eq_false (by omega)) ?_
    refine T_skip ?_
    refine T_seq ?_
    refine T_region ?_
    refine TL_p (PV_move rfl) ?_
    refine TL_p (PV_indexAddr (i := 0) Try.underlying26 sz5 rfl rfl rfl (by first | omega | decide | assumption)) ?_
    refine TL_p (PV_load Try.underlying5 rfl rfl (Rd.mono r0 (fun w h => h.sub (by (repeat (first | exact Sb.r | exact Sb.ar | exact Sb.al | apply Sb.d | refine Sb.t ?_)); done)))) ?_
    refine TL_p (PV_move rfl) ?_
    refine TL_cons rfl (TO_call0 call22 rfl rfl (t_size _ _) ?_)
    rintro v15_5 H15_5 ⟨rfl, rfl⟩
    refine TL_p (PV_assign rfl) ?_
    refine TL_nil ?_
    refine T_seq ?_
    refine T_seq ?_
    refine T_region ?_
    refine TL_p (PV_move rfl) ?_
    refine TL_p (PV_bin rfl rfl bin_eql) ?_
    refine TL_nil ?_
    refine T_else rfl (by (simp; omega)) ?_
    refine T_skip ?_
    refine T_seq ?_
    refine T_seq ?_
    refine T_drawn (WH _ _ _) mixed (fun w h => h) ?_
    refine TA_p 0 rfl (by kernel_rfl) (PV_move rfl) ?_
    refine TA_p 1 rfl (by kernel_rfl) (PV_len_slice Try.underlying26 rfl) ?_
    refine TA_p 2 rfl (by kernel_rfl) (PV_bin rfl rfl bin_gtr) ?_
    refine TA_p 3 rfl (by kernel_rfl) (PV_move rfl) ?_
    refine TA_yes (dd := (some 22)) 4 rfl (by kernel_rfl) (by kernel_rfl) (by kernel_rfl) rfl rfl (gtrue (by exact decide_eq_true (by omega))) rfl rfl (PV_move rfl) ?_
    refine TA_yes (dd := (some 23)) 5 rfl (by kernel_rfl) (by kernel_rfl) (by kernel_rfl) rfl rfl (gtrue (by exact decide_eq_true (by omega))) rfl rfl (PV_indexAddr (i := 1) Try.underlying26 sz5 rfl rfl rfl (by first | omega | decide | assumption)) ?_
    refine TA_yes (dd := (some 24)) 6 rfl (by kernel_rfl) (by kernel_rfl) (by kernel_rfl) rfl rfl (gtrue (by exact decide_eq_true (by omega))) rfl rfl (PV_load Try.underlying5 rfl rfl (Rd.mono r1 (fun w h => h.sub (by (repeat (first | exact Sb.r | exact Sb.ar | exact Sb.al | apply Sb.d | refine Sb.t ?_)); done)))) ?_
    refine TA_yes (dd := (some 25)) 7 rfl (by kernel_rfl) (by kernel_rfl) (by kernel_rfl) rfl rfl (gtrue (by exact decide_eq_true (by omega))) rfl rfl (PV_move rfl) ?_
    refine TA_yes (dd := (some 26)) 8 rfl (by kernel_rfl) (by kernel_rfl) (by kernel_rfl) rfl rfl (gtrue (by exact decide_eq_true (by omega))) rfl rfl (PV_indexAddr (i := 2) Try.underlying26 sz5 rfl rfl rfl (by first | omega | decide | assumption)) ?_
    refine TA_yes (dd := (some 27)) 9 rfl (by kernel_rfl) (by kernel_rfl) (by kernel_rfl) rfl rfl (gtrue (by exact decide_eq_true (by omega))) rfl rfl (PV_load Try.underlying5 rfl rfl (Rd.mono r2 (fun w h => h.sub (by (repeat (first | exact Sb.r | exact Sb.ar | exact Sb.al | apply Sb.d | refine Sb.t ?_)); done)))) ?_
    refine TA_yes (dd := (some 28)) 10 rfl (by kernel_rfl) (by kernel_rfl) (by kernel_rfl) rfl rfl (gtrue (by exact decide_eq_true (by omega))) rfl rfl (PV.cast (PV_com rfl) hcm) ?_
    refine TA_yes (dd := (some 29)) 11 rfl (by kernel_rfl) (by kernel_rfl) (by kernel_rfl) rfl rfl (gtrue (by exact decide_eq_true (by omega))) rfl rfl (PV_bin rfl rfl bin_neq) ?_
    refine TA_p 12 rfl (by kernel_rfl) (PV_pickAnd rfl rfl rfl) ?_
    refine TA_done (by kernel_rfl) ?_
    refine T_else rfl (by (simp; omega)) ?_
    refine T_skip ?_
    refine T_seq ?_
    refine T_seq ?_
    refine T_region ?_
    refine TL_p (PV_move rfl) ?_
    refine TL_p (PV_len_slice Try.underlying26 rfl) ?_
    refine TL_p (PV_move rfl) ?_
    refine TL_p (PV_bin rfl rfl bin_lss) ?_
    refine TL_nil ?_
    refine T_then rfl (by (simp; omega)) ?_
    refine T_goto ?_
    refine ⟨rfl, ?_⟩
    refine T_seq ?_
    refine T_skip ?_
    refine T_seq ?_
    refine T_seq ?_
    refine T_region ?_
    refine TL_p (PV_bld (cs := [_, _]) Try.underlying28 pl28 zr28 rfl rfl) ?_
    refine TL_cons rfl (TO_store 1 rfl rfl rfl sz28 rfl rfl rfl (all_one rfl) (by first | exact Nat.le_of_ble_eq_true rfl | (simp; done) | (simp; omega) | omega) ?_)
    refine TL_p (PV_assign rfl) ?_
    refine TL_nil ?_
    refine T_ret ?_
    refine ret_ret (ResV_ct rfl Try.underlying28 rfl sz28 rfl (Rds.take 1 rfl rfl rfl) rfl) ⟨_, ?zb7q47, ⟨rfl, rfl⟩⟩
    case zb7q47 => exact (by (repeat (first | exact Sb.r | exact Sb.ar | exact Sb.al | apply Sb.c | apply Sb.d | refine Sb.t ?_)); done)
  · refine T_seq ?_
    refine T_region ?_
    refine TL_cons rfl (TO_alloc rfl zr28 fun g1 => ?_)
    refine TL_p (PV_assign rfl) ?_
    refine TL_nil ?_
    refine T_scope 0 rfl ?_
    refine T_seq ?_
    refine T_region ?_
    refine TL_cons rfl (TO_alloc rfl zr28 fun g2 => ?_)
    refine TL_nil ?_
    refine T_seq ?_
    refine T_region ?_
    refine TL_p (PV_assign rfl) ?_
    refine TL_nil ?_
    refine T_seq ?_
    refine T_seq ?_
    refine T_region ?_
    refine TL_p (PV_move rfl) ?_
    refine TL_p (PV_len_slice Try.underlying26 rfl) ?_
    refine TL_p (PV_bin rfl rfl bin_eql) ?_
    refine TL_nil ?_
    refine T_else rfl (by exact decide_eq_false (by omega)) ?_
    refine T_skip ?_
    refine T_seq ?_
    refine T_region ?_
    refine TL_p (PV_move rfl) ?_
    refine TL_p (PV_indexAddr (i := 0) Try.underlying26 sz5 rfl rfl rfl (by first | omega | decide | assumption)) ?_
    refine TL_p (PV_load Try.underlying5 rfl rfl (Rd.mono r0 (fun w h => h.sub (by (repeat (first | exact Sb.r | exact Sb.ar | exact Sb.al | apply Sb.d | refine Sb.t ?_)); done)))) ?_
    refine TL_p (PV_move rfl) ?_
    refine TL_cons rfl (TO_call0 call22 rfl rfl (t_size _ _) ?_)
    rintro v15_5 H15_5 ⟨rfl, rfl⟩
    refine TL_p (PV_assign rfl) ?_
    refine TL_nil ?_
    refine T_seq ?_
    refine T_seq ?_
    refine T_region ?_
    refine TL_p (PV_move rfl) ?_
    refine TL_p (PV_bin rfl rfl bin_eql) ?_
    refine TL_nil ?_
    refine T_else rfl (by (simp; omega)) ?_
    refine T_skip ?_
    refine T_seq ?_
    refine T_seq ?_
    refine T_drawn (WH _ _ _) mixed (fun w h => h) ?_
    refine TA_p 0 rfl (by kernel_rfl) (PV_move rfl) ?_
    refine TA_p 1 rfl (by kernel_rfl) (PV_len_slice Try.underlying26 rfl) ?_
    refine TA_p 2 rfl (by kernel_rfl) (PV_bin rfl rfl bin_gtr) ?_
    refine TA_p 3 rfl (by kernel_rfl) (PV_move rfl) ?_
    refine TA_no (dd := (some 22)) (b := false) 4 rfl (by kernel_rfl) (by kernel_rfl) (by kernel_rfl) rfl rfl (gfalse (by exact decide_eq_false (by omega))) rfl rfl ?_
    refine TA_no (dd := (some 23)) (b := false) 5 rfl (by kernel_rfl) (by kernel_rfl) (by kernel_rfl) rfl rfl (gfalse (by exact decide_eq_false (by omega))) rfl rfl ?_
    refine TA_no (dd := (some 24)) (b := false) 6 rfl (by kernel_rfl) (by kernel_rfl) (by kernel_rfl) rfl rfl (gfalse (by exact decide_eq_false (by omega))) rfl rfl ?_
    refine TA_no (dd := (some 25)) (b := false) 7 rfl (by kernel_rfl) (by kernel_rfl) (by kernel_rfl) rfl rfl (gfalse (by exact decide_eq_false (by omega))) rfl rfl ?_
    refine TA_no (dd := (some 26)) (b := false) 8 rfl (by kernel_rfl) (by kernel_rfl) (by kernel_rfl) rfl rfl (gfalse (by exact decide_eq_false (by omega))) rfl rfl ?_
    refine TA_no (dd := (some 27)) (b := false) 9 rfl (by kernel_rfl) (by kernel_rfl) (by kernel_rfl) rfl rfl (gfalse (by exact decide_eq_false (by omega))) rfl rfl ?_
    refine TA_no (dd := (some 28)) (b := false) 10 rfl (by kernel_rfl) (by kernel_rfl) (by kernel_rfl) rfl rfl (gfalse (by exact decide_eq_false (by omega))) rfl rfl ?_
    refine TA_no (dd := (some 29)) (b := false) 11 rfl (by kernel_rfl) (by kernel_rfl) (by kernel_rfl) rfl rfl (gfalse (by exact decide_eq_false (by omega))) rfl rfl ?_
    refine TA_p 12 rfl (by kernel_rfl) (PV_pickF rfl (by first | assumption | rfl | (simp; done) | (simp; omega) | (simp [*]; done) | (simp [*]; omega)) rfl rfl) ?_
    refine TA_done (by kernel_rfl) ?_
    refine T_else rfl (by rfl) ?_
    refine T_skip ?_
    refine T_seq ?_
    refine T_seq ?_
    refine T_region ?_
    refine TL_p (PV_move rfl) ?_
    refine TL_p (PV_len_slice Try.underlying26 rfl) ?_
    refine TL_p (PV_move rfl) ?_
    refine TL_p (PV_bin rfl rfl bin_lss) ?_
    refine TL_nil ?_
    refine T_then rfl (by (simp; omega)) ?_
    refine T_goto ?_
    refine ⟨rfl, ?_⟩
    refine T_seq ?_
    refine T_skip ?_
    refine T_seq ?_
    refine T_seq ?_
    refine T_region ?_
    refine TL_p (PV_bld (cs := [_, _]) Try.underlying28 pl28 zr28 rfl rfl) ?_
    refine TL_cons rfl (TO_store 1 rfl rfl rfl sz28 rfl rfl rfl (all_one rfl) (by first | exact Nat.le_of_ble_eq_true rfl | (simp; done) | (simp; omega) | omega) ?_)
    refine TL_p (PV_assign rfl) ?_
    refine TL_nil ?_
    refine T_ret ?_
    refine ret_ret (ResV_ct rfl Try.underlying28 rfl sz28 rfl (Rds.take 1 rfl rfl rfl) rfl) ⟨_, ?zb7q50, ⟨rfl, rfl⟩⟩
    case zb7q50 => exact (by (repeat (first | exact Sb.r | exact Sb.ar | exact Sb.al | apply Sb.c | apply Sb.d | refine Sb.t ?_)); done)
theorem t52full {A : Option Addr} {m c : Nat} {l : List Int} (crc : Bool) (h : Shows (WH w0 B H) A m 1 (nums .u8 l)) (hlm : l.length = m) (hm : m ≤ 9223372036854775807) (hc : m ≤ c) (hu : U8s l) (n : Nat) (hn : sizeL (rd l 0) crc = n) (hn0 : n ≠ 0) (hnm : n ≤ m) (h1 : rd l 1 = 255 - rd l 2) (t : Nat) (ht : (trailL [] crc).length = t) (dat tr : List Int) (hdat : (l.take (n - t)).drop 3 = dat) (htr : (l.take n).drop (n - t) = tr) (hn5 : 131 ≤ n) (hn9 : n ≤ 1029) (ht2 : t ≤ 2) :
    TCall Try.prog w0 B 14 #[.slice A m c, .bool crc] (fun r H' => if strOfNums (trailL dat crc) = strOfNums tr then ∃ A' c', r = .tuple #[.agg #[.int .u8 (rd l 1), .slice A' dat.length c'], .int .i64 2] ∧ dat.length ≤ c' ∧ H' = .sl (.slice A' dat.length c') 1 dat.length (nums .u8 dat) :: H else r = .tuple #[.agg #[.int .u8 0, .slice none 0 0], .int .i64 1] ∧ H' = H) H := by
  obtain ⟨R, hR⟩ : ∃ R : Value → List Chunk → Prop, R = (fun r H' => if strOfNums (trailL dat crc) = strOfNums tr then ∃ A' c', r = .tuple #[.agg #[.int .u8 (rd l 1), .slice A' dat.length c'], .int .i64 2] ∧ dat.length ≤ c' ∧ H' = .sl (.slice A' dat.length c') 1 dat.length (nums .u8 dat) :: H else r = .tuple #[.agg #[.int .u8 0, .slice none 0 0], .int .i64 1] ∧ H' = H) := ⟨_, rfl⟩
  rw [← hR]
  refine TCall_intro (args := [_, _]) Try.func14 rfl Try.ntmps14 (Nat.le_of_ble_eq_true rfl) ?_
  refine T_shows h (by rw [nums_length]; omega) fun ga oa hA hrd => ?_
  subst hA
  have r0 := hrd _ _ (nums_at' (off := 0 * 1) 0 rfl (by omega))
  have r1 := hrd _ _ (nums_at' (off := 1 * 1) 1 rfl (by omega))
  have r2 := hrd _ _ (nums_at' (off := 2 * 1) 2 rfl (by omega))
  have hcm := com8 _ (hu.at_ 2)
  have hdl : n - t - 3 = dat.length := by rw [← hdat]; simp [hlm]; omega
  have hcut : Shows (WH w0 B H) (some ⟨ga, if c = 3 then oa else oa + 3 * 1, none⟩) dat.length 1 (nums .u8 dat) := by
    have := h.cut (l := 3) (h := n - t) (c := c) (by omega) (by omega) hc
    rw [hdl] at this
    have e : nums .u8 dat = ((nums .u8 l).take ((n - t) * 1)).drop (3 * 1) := by rw [← hdat]; simp [nums, List.map_take, List.map_drop]
    rw [e]
    exact this
  have htl : tr.length = n - (n - t) := by rw [← htr]; simp [hlm]; omega
  have hcut2 : Shows (WH w0 B H) (some ⟨ga, if c = n - t then oa else oa + (n - t) * 1, none⟩) (n - (n - t)) 1 (nums .u8 tr) := by
    have := h.cut (l := n - t) (h := n) (c := c) (by omega) (by omega) hc
    rw [← htr]
    simpa [nums, List.map_take, List.map_drop] using this
  have hdu : U8s dat := by rw [← hdat]; exact (hu.take _).drop _
  have e44 : Value.int .i64 (IntKind.i64.wrap ((n : Int) - (((trailL [] crc).length : Nat) : Int))) = .int .i64 ((n - t : Nat) : Int) := by
    rw [ht]
    exact wr64n (n - t) (by omega) (by omega)
  have e57 : Value.int .i64 (IntKind.i64.wrap (3 + (dat.length : Int))) = .int .i64 ((n - t : Nat) : Int) := wr64n (n - t) (by omega) (by omega)
  have e45 : Value.slice (some ⟨ga, if c = 3 then oa else oa + 3 * 1, none⟩) (n - t - 3) (c - 3) = Value.slice (some ⟨ga, if c = 3 then oa else oa + 3 * 1, none⟩) dat.length (c - 3) := by rw [hdl]
  have e7 : Value.int .i64 ((sizeL (rd l 0) crc : Nat) : Int) = .int .i64 (n : Int) := by rw [hn]
  by_cases hq : strOfNums (trailL dat crc) = strOfNums tr
  · have hR2 : R = (fun r H' => ∃ (A' : Option Addr) (c' : Nat), r = .tuple #[.agg #[.int .u8 (rd l 1), .slice A' dat.length c'], .int .i64 2] ∧ dat.length ≤ c' ∧ H' = .sl (.slice A' dat.length c') 1 dat.length (nums .u8 dat) :: H) := by rw [hR]; simp only [if_pos hq]
    rw [hR2]
    refine T_seq ?_
    refine T_region ?_
    refine TL_cons rfl (TO_alloc rfl zr28 fun g1 => ?_)
    refine TL_p (PV_assign rfl) ?_
    refine TL_nil ?_
    refine T_scope 1 rfl ?_
    refine T_seq ?_
    refine T_region ?_
    refine TL_cons rfl (TO_alloc rfl zr28 fun g2 => ?_)
    refine TL_nil ?_
    refine T_seq ?_
    refine T_region ?_
    refine TL_p (PV_assign rfl) ?_
    refine TL_nil ?_
    refine T_seq ?_
    refine T_seq ?_
    refine T_region ?_
    refine TL_p (PV_move rfl) ?_
    refine TL_p (PV_len_slice Try.underlying26 rfl) ?_
    refine TL_p (PV_bin rfl rfl bin_eql) ?_
    refine TL_nil ?_
    refine T_else rfl (by exact decide_eq_false (by omega)) ?_
    refine T_skip ?_
    refine T_seq ?_
    refine T_region ?_
    refine TL_p (PV_move rfl) ?_
    refine TL_p (PV_indexAddr (i := 0) Try.underlying26 sz5 rfl rfl rfl (by first | omega | decide | assumption)) ?_
    refine TL_p (PV_load Try.underlying5 rfl rfl (Rd.mono r0 (fun w h => h.sub (by (repeat (first | exact Sb.r | exact Sb.ar | exact Sb.al | apply Sb.d | refine Sb.t ?_)); done)))) ?_
    refine TL_p (PV_move rfl) ?_
    refine TL_cons rfl (TO_call0 call22 rfl rfl (t_size _ _) ?_)
    rintro v15_5 H15_5 ⟨rfl, rfl⟩
    refine TL_p (PV.cast (PV_assign rfl) e7) ?_
    refine TL_nil ?_
    refine T_seq ?_
    refine T_seq ?_
    refine T_region ?_
    refine TL_p (PV_move rfl) ?_
    refine TL_p (PV_bin rfl rfl bin_eql) ?_
    refine TL_nil ?_
    refine T_else rfl (by exact decide_eq_false (by omega)) ?_
    refine T_skip ?_
    refine T_seq ?_
    refine T_seq ?_
    refine T_drawn (WH _ _ _) mixed (fun w h => h) ?_
    refine TA_p 0 rfl (by kernel_rfl) (PV_move rfl) ?_
    refine TA_p 1 rfl (by kernel_rfl) (PV_len_slice Try.underlying26 rfl) ?_
    refine TA_p 2 rfl (by kernel_rfl) (PV_bin rfl rfl bin_gtr) ?_
    refine TA_p 3 rfl (by kernel_rfl) (PV_move rfl) ?_
    refine TA_yes (dd := (some 22)) 4 rfl (by kernel_rfl) (by kernel_rfl) (by kernel_rfl) rfl rfl (gtrue (by exact decide_eq_true (by omega))) rfl rfl (PV_move rfl) ?_
    refine TA_yes (dd := (some 23)) 5 rfl (by kernel_rfl) (by kernel_rfl) (by kernel_rfl) rfl rfl (gtrue (by exact decide_eq_true (by omega))) rfl rfl (PV_indexAddr (i := 1) Try.underlying26 sz5 rfl rfl rfl (by first | omega | decide | assumption)) ?_
    refine TA_yes (dd := (some 24)) 6 rfl (by kernel_rfl) (by kernel_rfl) (by kernel_rfl) rfl rfl (gtrue (by exact decide_eq_true (by omega))) rfl rfl (PV_load Try.underlying5 rfl rfl (Rd.mono r1 (fun w h => h.sub (by (repeat (first | exact Sb.r | exact Sb.ar | exact Sb.al | apply Sb.d | refine Sb.t ?_)); done)))) ?_
    refine TA_yes (dd := (some 25)) 7 rfl (by kernel_rfl) (by kernel_rfl) (by kernel_rfl) rfl rfl (gtrue (by exact decide_eq_true (by omega))) rfl rfl (PV_move rfl) ?_
    refine TA_yes (dd := (some 26)) 8 rfl (by kernel_rfl) (by kernel_rfl) (by kernel_rfl) rfl rfl (gtrue (by exact decide_eq_true (by omega))) rfl rfl (PV_indexAddr (i := 2) Try.underlying26 sz5 rfl rfl rfl (by first | omega | decide | assumption)) ?_
    refine TA_yes (dd := (some 27)) 9 rfl (by kernel_rfl) (by kernel_rfl) (by kernel_rfl) rfl rfl (gtrue (by exact decide_eq_true (by omega))) rfl rfl (PV_load Try.underlying5 rfl rfl (Rd.mono r2 (fun w h => h.sub (by (repeat (first | exact Sb.r | exact Sb.ar | exact Sb.al | apply Sb.d | refine Sb.t ?_)); done)))) ?_
    refine TA_yes (dd := (some 28)) 10 rfl (by kernel_rfl) (by kernel_rfl) (by kernel_rfl) rfl rfl (gtrue (by exact decide_eq_true (by omega))) rfl rfl (PV.cast (PV_com rfl) hcm) ?_
    refine TA_yes (dd := (some 29)) 11 rfl (by kernel_rfl) (by kernel_rfl) (by kernel_rfl) rfl rfl (gtrue (by exact decide_eq_true (by omega))) rfl rfl (PV_bin rfl rfl bin_neq) ?_
    refine TA_p 12 rfl (by kernel_rfl) (PV_pickAnd rfl rfl rfl) ?_
    refine TA_done (by kernel_rfl) ?_
    refine T_else rfl (by (simp; omega)) ?_
    refine T_skip ?_
    refine T_seq ?_
    refine T_seq ?_
    refine T_region ?_
    refine TL_p (PV_move rfl) ?_
    refine TL_p (PV_len_slice Try.underlying26 rfl) ?_
    refine TL_p (PV_move rfl) ?_
    refine TL_p (PV_bin rfl rfl bin_lss) ?_
    refine TL_nil ?_
    refine T_else rfl (by exact decide_eq_false (by omega)) ?_
    refine T_skip ?_
    refine T_seq ?_
    refine T_region ?_
    refine TL_p (PV_move rfl) ?_
    refine TL_p (PV_indexAddr (i := 1) Try.underlying26 sz5 rfl rfl rfl (by first | omega | decide | assumption)) ?_
    refine TL_p (PV_load Try.underlying5 rfl rfl (Rd.mono r1 (fun w h => h.sub (by (repeat (first | exact Sb.r | exact Sb.ar | exact Sb.al | apply Sb.d | refine Sb.t ?_)); done)))) ?_
    refine TL_p (PV_fieldAddr (D := 0) Try.underlying28 rfl sz5 (by decide) rfl rfl) ?_
    refine TL_cons rfl (TO_store1 0 rfl rfl rfl sz5 rfl rfl rfl (by first | exact Nat.le_of_ble_eq_true rfl | (simp; done) | (simp; omega) | omega) ?_)
    refine TL_nil ?_
    refine T_seq ?_
    refine T_region ?_
    refine TL_p (PV_move rfl) ?_
    refine TL_p (PV_move rfl) ?_
    refine TL_p (PV_move rfl) ?_
    refine TL_cons rfl (TO_call0 call23 rfl rfl (t_trailer (l := []) _ Shows.nil ?sd8q85_2 ?sd8q85_3 ?sd8q85_4 ?sd8q85_5) ?_)
    case sd8q85_2 => exact rfl
    case sd8q85_3 => omega
    case sd8q85_4 => omega
    case sd8q85_5 => exact U8s.nil
    rintro v42_9 H42_9 ⟨A_9, c_9, rfl, h_9_0, rfl⟩
    refine TL_p (PV_len_slice Try.underlying26 rfl) ?_
    refine TL_p (PV.cast (PV_bin rfl rfl bin_sub) e44) ?_
    refine TL_p (PV.cast (PV_slice (l := 3) (h := n - t) Try.underlying26 sz5 rfl hc ⟨_, rfl⟩ ⟨_, rfl⟩ (by omega) (by omega)) e45) ?_
    refine TL_cons rfl (TO_appendNil Try.underlying26 zb5 rfl (by decide) rfl rfl rfl (Shows.mono hcut (fun w h => h.sub (by (repeat (first | exact Sb.r | exact Sb.ar | exact Sb.al | apply Sb.d | refine Sb.t ?_)); done))) ?oc10q85 ?bb10q85 ?bc10q85 fun A10 c10 hc10 => ?_)
    case oc10q85 => exact nums_one
    case bb10q85 => omega
    case bc10q85 => omega
    refine TL_p (PV_fieldAddr (D := 1) Try.underlying28 rfl sz26 (by decide) rfl rfl) ?_
    refine TL_cons rfl (TO_store1 2 rfl rfl rfl sz26 rfl rfl rfl (by first | exact Nat.le_of_ble_eq_true rfl | (simp; done) | (simp; omega) | omega) ?_)
    refine TL_nil ?_
    refine T_seq ?_
    refine T_seq ?_
    refine T_drawn (WH _ _ _) mixed (fun w h => h) ?_
    refine TA_p 0 rfl (by kernel_rfl) (PV_fieldAddr (D := 1) Try.underlying28 rfl sz26 (by decide) rfl rfl) ?_
    refine TA_p 1 rfl (by kernel_rfl) (PV_load Try.underlying26 rfl rfl (Rd.at 2 rfl rfl)) ?_
    refine TA_p 2 rfl (by kernel_rfl) (PV_move rfl) ?_
    refine TA_p 5 rfl (by kernel_rfl) (PV_move rfl) ?_
    refine TA_p 6 rfl (by kernel_rfl) (PV_fieldAddr (D := 1) Try.underlying28 rfl sz26 (by decide) rfl rfl) ?_
    refine TA_p 7 rfl (by kernel_rfl) (PV_load Try.underlying26 rfl rfl (Rd.at 2 rfl rfl)) ?_
    refine TA_p 8 rfl (by kernel_rfl) (PV_len_slice Try.underlying26 rfl) ?_
    refine TA_p 9 rfl (by kernel_rfl) (PV.cast (PV_bin rfl rfl bin_add) e57) ?_
    refine TA_p 10 rfl (by kernel_rfl) (PV_move rfl) ?_
    refine TA_p 11 rfl (by kernel_rfl) (PV_slice (l := n - t) (h := n) Try.underlying26 sz5 rfl hc ⟨_, rfl⟩ ⟨_, rfl⟩ (by omega) (by omega)) ?_
    refine TA_p 12 rfl (by kernel_rfl) (PV_b2s Try.underlying26 Try.underlying5 Try.underlying9 rfl (Shows.mono hcut2 (fun w h => h.sub (by (repeat (first | exact Sb.r | exact Sb.ar | exact Sb.al | apply Sb.d | refine Sb.t ?_)); done)))) ?_
    refine TA_one 3 (by kernel_rfl) rfl rfl (TO_call0 call23 rfl rfl (t_trailer _ (Shows.at 0 rfl) ?sd13q85_2 ?sd13q85_3 ?sd13q85_4 ?sd13q85_5) ?_)
    case sd13q85_2 => omega
    case sd13q85_3 => omega
    case sd13q85_4 => exact hc10
    case sd13q85_5 => exact hdu
    rintro v51_14 H51_14 ⟨A_14, c_14, rfl, h_14_0, rfl⟩
    refine ⟨fun _ h => h.sub (by (repeat (first | exact Sb.r | exact Sb.ar | exact Sb.al | apply Sb.d | refine Sb.t ?_)); done), ?_⟩
    refine TA_pure1 (dd := (some 52)) 4 (by kernel_rfl) rfl rfl rfl rfl (PV_b2s Try.underlying26 Try.underlying5 Try.underlying9 rfl (Shows.at 0 rfl)) ?_
    refine TA_p 13 rfl (by kernel_rfl) (PV_bin rfl rfl bin_str_neq) ?_
    refine TA_done (by kernel_rfl) ?_
    refine T_else rfl (by (simp [hq]; done)) ?_
    refine T_skip ?_
    refine T_seq ?_
    refine T_seq ?_
    refine T_region ?_
    refine TL_p (PV_loadAt Try.underlying28 rfl sz28 rfl (Rds.take 3 rfl rfl rfl)) ?_
    refine TL_cons rfl (TO_store 4 rfl rfl rfl sz28 rfl rfl rfl (all_one rfl) (by first | exact Nat.le_of_ble_eq_true rfl | (simp; done) | (simp; omega) | omega) ?_)
    refine TL_p (PV_assign rfl) ?_
    refine TL_nil ?_
    refine T_ret ?_
    refine ret_ret (ResV_ct rfl Try.underlying28 rfl sz28 rfl (Rds.take 4 rfl rfl rfl) rfl) ⟨_, ?zb16q85, ⟨_, _, rfl, ?sd16q85_0, rfl⟩⟩
    case sd16q85_0 => exact hc10
    case zb16q85 => exact (by (repeat (first | exact Sb.r | exact Sb.ar | exact Sb.al | apply Sb.c | apply Sb.d | refine Sb.t ?_)); done)
  · have hR2 : R = (fun r H' => r = .tuple #[.agg #[.int .u8 0, .slice none 0 0], .int .i64 1] ∧ H' = H) := by rw [hR]; simp only [if_neg hq]
    rw [hR2]
    refine T_seq ?_
    refine T_region ?_
    refine TL_cons rfl (TO_alloc rfl zr28 fun g101 => ?_)
    refine TL_p (PV_assign rfl) ?_
    refine TL_nil ?_
    refine T_scope 1 rfl ?_
    refine T_seq ?_
    refine T_region ?_
    refine TL_cons rfl (TO_alloc rfl zr28 fun g102 => ?_)
    refine TL_nil ?_
    refine T_seq ?_
    refine T_region ?_
    refine TL_p (PV_assign rfl) ?_
    refine TL_nil ?_
    refine T_seq ?_
    refine T_seq ?_
    refine T_region ?_
    refine TL_p (PV_move rfl) ?_
    refine TL_p (PV_len_slice Try.underlying26 rfl) ?_
    refine TL_p (PV_bin rfl rfl bin_eql) ?_
    refine TL_nil ?_
    refine T_else rfl (by exact decide_eq_false (by omega)) ?_
    refine T_skip ?_
    refine T_seq ?_
    refine T_region ?_
    refine TL_p (PV_move rfl) ?_
    refine TL_p (PV_indexAddr (i := 0) Try.underlying26 sz5 rfl rfl rfl (by first | omega | decide | assumption)) ?_
    refine TL_p (PV_load Try.underlying5 rfl rfl (Rd.mono r0 (fun w h => h.sub (by (repeat (first | exact Sb.r | exact Sb.ar | exact Sb.al | apply Sb.d | refine Sb.t ?_)); done)))) ?_
    refine TL_p (PV_move rfl) ?_
    refine TL_cons rfl (TO_call0 call22 rfl rfl (t_size _ _) ?_)
    rintro v15_105 H15_105 ⟨rfl, rfl⟩
    refine TL_p (PV.cast (PV_assign rfl) e7) ?_
    refine TL_nil ?_
    refine T_seq ?_
    refine T_seq ?_
    refine T_region ?_
    refine TL_p (PV_move rfl) ?_
    refine TL_p (PV_bin rfl rfl bin_eql) ?_
    refine TL_nil ?_
    refine T_else rfl (by exact decide_eq_false (by omega)) ?_
    refine T_skip ?_
    refine T_seq ?_
    refine T_seq ?_
    refine T_drawn (WH _ _ _) mixed (fun w h => h) ?_
    refine TA_p 0 rfl (by kernel_rfl) (PV_move rfl) ?_
    refine TA_p 1 rfl (by kernel_rfl) (PV_len_slice Try.underlying26 rfl) ?_
    refine TA_p 2 rfl (by kernel_rfl) (PV_bin rfl rfl bin_gtr) ?_
    refine TA_p 3 rfl (by kernel_rfl) (PV_move rfl) ?_
    refine TA_yes (dd := (some 22)) 4 rfl (by kernel_rfl) (by kernel_rfl) (by kernel_rfl) rfl rfl (gtrue (by exact decide_eq_true (by omega))) rfl rfl (PV_move rfl) ?_
    refine TA_yes (dd := (some 23)) 5 rfl (by kernel_rfl) (by kernel_rfl) (by kernel_rfl) rfl rfl (gtrue (by exact decide_eq_true (by omega))) rfl rfl (PV_indexAddr (i := 1) Try.underlying26 sz5 rfl rfl rfl (by first | omega | decide | assumption)) ?_
    refine TA_yes (dd := (some 24)) 6 rfl (by kernel_rfl) (by kernel_rfl) (by kernel_rfl) rfl rfl (gtrue (by exact decide_eq_true (by omega))) rfl rfl (PV_load Try.underlying5 rfl rfl (Rd.mono r1 (fun w h => h.sub (by (repeat (first | exact Sb.r | exact Sb.ar | exact Sb.al | apply Sb.d | refine Sb.t ?_)); done)))) ?_
    refine TA_yes (dd := (some 25)) 7 rfl (by kernel_rfl) (by kernel_rfl) (by kernel_rfl) rfl rfl (gtrue (by exact decide_eq_true (by omega))) rfl rfl (PV_move rfl) ?_
    refine TA_yes (dd := (some 26)) 8 rfl (by kernel_rfl) (by kernel_rfl) (by kernel_rfl) rfl rfl (gtrue (by exact decide_eq_true (by omega))) rfl rfl (PV_indexAddr (i := 2) Try.underlying26 sz5 rfl rfl rfl (by first | omega | decide | assumption)) ?_
    refine TA_yes (dd := (some 27)) 9 rfl (by kernel_rfl) (by kernel_rfl) (by kernel_rfl) rfl rfl (gtrue (by exact decide_eq_true (by omega))) rfl rfl (PV_load Try.underlying5 rfl rfl (Rd.mono r2 (fun w h => h.sub (by (repeat (first | exact Sb.r | exact Sb.ar | exact Sb.al | apply Sb.d | refine Sb.t ?_)); done)))) ?_
    refine TA_yes (dd := (some 28)) 10 rfl (by kernel_rfl) (by kernel_rfl) (by kernel_rfl) rfl rfl (gtrue (by exact decide_eq_true (by omega))) rfl rfl (PV.cast (PV_com rfl) hcm) ?_
    refine TA_yes (dd := (some 29)) 11 rfl (by kernel_rfl) (by kernel_rfl) (by kernel_rfl) rfl rfl (gtrue (by exact decide_eq_true (by omega))) rfl rfl (PV_bin rfl rfl bin_neq) ?_
    refine TA_p 12 rfl (by kernel_rfl) (PV_pickAnd rfl rfl rfl) ?_
    refine TA_done (by kernel_rfl) ?_
    refine T_else rfl (by (simp; omega)) ?_
    refine T_skip ?_
    refine T_seq ?_
    refine T_seq ?_
    refine T_region ?_
    refine TL_p (PV_move rfl) ?_
    refine TL_p (PV_len_slice Try.underlying26 rfl) ?_
    refine TL_p (PV_move rfl) ?_
    refine TL_p (PV_bin rfl rfl bin_lss) ?_
    refine TL_nil ?_
    refine T_else rfl (by exact decide_eq_false (by omega)) ?_
    refine T_skip ?_
    refine T_seq ?_
    refine T_region ?_
    refine TL_p (PV_move rfl) ?_
    refine TL_p (PV_indexAddr (i := 1) Try.underlying26 sz5 rfl rfl rfl (by first | omega | decide | assumption)) ?_
    refine TL_p (PV_load Try.underlying5 rfl rfl (Rd.mono r1 (fun w h => h.sub (by (repeat (first | exact Sb.r | exact Sb.ar | exact Sb.al | apply Sb.d | refine Sb.t ?_)); done)))) ?_
    refine TL_p (PV_fieldAddr (D := 0) Try.underlying28 rfl sz5 (by decide) rfl rfl) ?_
    refine TL_cons rfl (TO_store1 0 rfl rfl rfl sz5 rfl rfl rfl (by first | exact Nat.le_of_ble_eq_true rfl | (simp; done) | (simp; omega) | omega) ?_)
    refine TL_nil ?_
    refine T_seq ?_
    refine T_region ?_
    refine TL_p (PV_move rfl) ?_
    refine TL_p (PV_move rfl) ?_
    refine TL_p (PV_move rfl) ?_
    refine TL_cons rfl (TO_call0 call23 rfl rfl (t_trailer (l := []) _ Shows.nil ?sd108q99_2 ?sd108q99_3 ?sd108q99_4 ?sd108q99_5) ?_)
    case sd108q99_2 => exact rfl
    case sd108q99_3 => omega
    case sd108q99_4 => omega
    case sd108q99_5 => exact U8s.nil
    rintro v42_109 H42_109 ⟨A_109, c_109, rfl, h_109_0, rfl⟩
    refine TL_p (PV_len_slice Try.underlying26 rfl) ?_
    refine TL_p (PV.cast (PV_bin rfl rfl bin_sub) e44) ?_
    refine TL_p (PV.cast (PV_slice (l := 3) (h := n - t) Try.underlying26 sz5 rfl hc ⟨_, rfl⟩ ⟨_, rfl⟩ (by omega) (by omega)) e45) ?_
    refine TL_cons rfl (TO_appendNil Try.underlying26 zb5 rfl (by decide) rfl rfl rfl (Shows.mono hcut (fun w h => h.sub (by (repeat (first | exact Sb.r | exact Sb.ar | exact Sb.al | apply Sb.d | refine Sb.t ?_)); done))) ?oc110q99 ?bb110q99 ?bc110q99 fun A110 c110 hc110 => ?_)
    case oc110q99 => exact nums_one
    case bb110q99 => omega
    case bc110q99 => omega
    refine TL_p (PV_fieldAddr (D := 1) Try.underlying28 rfl sz26 (by decide) rfl rfl) ?_
    refine TL_cons rfl (TO_store1 2 rfl rfl rfl sz26 rfl rfl rfl (by first | exact Nat.le_of_ble_eq_true rfl | (simp; done) | (simp; omega) | omega) ?_)
    refine TL_nil ?_
    refine T_seq ?_
    refine T_seq ?_
    refine T_drawn (WH _ _ _) mixed (fun w h => h) ?_
    refine TA_p 0 rfl (by kernel_rfl) (PV_fieldAddr (D := 1) Try.underlying28 rfl sz26 (by decide) rfl rfl) ?_
    refine TA_p 1 rfl (by kernel_rfl) (PV_load Try.underlying26 rfl rfl (Rd.at 2 rfl rfl)) ?_
    refine TA_p 2 rfl (by kernel_rfl) (PV_move rfl) ?_
    refine TA_p 5 rfl (by kernel_rfl) (PV_move rfl) ?_
    refine TA_p 6 rfl (by kernel_rfl) (PV_fieldAddr (D := 1) Try.underlying28 rfl sz26 (by decide) rfl rfl) ?_
    refine TA_p 7 rfl (by kernel_rfl) (PV_load Try.underlying26 rfl rfl (Rd.at 2 rfl rfl)) ?_
    refine TA_p 8 rfl (by kernel_rfl) (PV_len_slice Try.underlying26 rfl) ?_
    refine TA_p 9 rfl (by kernel_rfl) (PV.cast (PV_bin rfl rfl bin_add) e57) ?_
    refine TA_p 10 rfl (by kernel_rfl) (PV_move rfl) ?_
    refine TA_p 11 rfl (by kernel_rfl) (PV_slice (l := n - t) (h := n) Try.underlying26 sz5 rfl hc ⟨_, rfl⟩ ⟨_, rfl⟩ (by omega) (by omega)) ?_
    refine TA_p 12 rfl (by kernel_rfl) (PV_b2s Try.underlying26 Try.underlying5 Try.underlying9 rfl (Shows.mono hcut2 (fun w h => h.sub (by (repeat (first | exact Sb.r | exact Sb.ar | exact Sb.al | apply Sb.d | refine Sb.t ?_)); done)))) ?_
    refine TA_one 3 (by kernel_rfl) rfl rfl (TO_call0 call23 rfl rfl (t_trailer _ (Shows.at 0 rfl) ?sd113q99_2 ?sd113q99_3 ?sd113q99_4 ?sd113q99_5) ?_)
    case sd113q99_2 => omega
    case sd113q99_3 => omega
    case sd113q99_4 => exact hc110
    case sd113q99_5 => exact hdu
    rintro v51_114 H51_114 ⟨A_114, c_114, rfl, h_114_0, rfl⟩
    refine ⟨fun _ h => h.sub (by (repeat (first | exact Sb.r | exact Sb.ar | exact Sb.al | apply Sb.d | refine Sb.t ?_)); done), ?_⟩
    refine TA_pure1 (dd := (some 52)) 4 (by kernel_rfl) rfl rfl rfl rfl (PV_b2s Try.underlying26 Try.underlying5 Try.underlying9 rfl (Shows.at 0 rfl)) ?_
    refine TA_p 13 rfl (by kernel_rfl) (PV_bin rfl rfl bin_str_neq) ?_
    refine TA_done (by kernel_rfl) ?_
    refine T_then rfl (by (simp [hq]; done)) ?_
    refine T_goto ?_
    refine ⟨rfl, ?_⟩
    refine T_seq ?_
    refine T_skip ?_
    refine T_seq ?_
    refine T_region ?_
    refine TL_p (PV_bld (cs := [_, _]) Try.underlying28 pl28 zr28 rfl rfl) ?_
    refine TL_cons rfl (TO_store 4 rfl rfl rfl sz28 rfl rfl rfl (all_one rfl) (by first | exact Nat.le_of_ble_eq_true rfl | (simp; done) | (simp; omega) | omega) ?_)
    refine TL_p (PV_assign rfl) ?_
    refine TL_nil ?_
    refine T_ret ?_
    refine ret_ret (ResV_ct rfl Try.underlying28 rfl sz28 rfl (Rds.take 4 rfl rfl rfl) rfl) ⟨_, ?zb116q99, ⟨rfl, rfl⟩⟩
    case zb116q99 => exact (by (repeat (first | exact Sb.r | exact Sb.ar | exact Sb.al | apply Sb.c | apply Sb.d | refine Sb.t ?_)); done)
theorem t52 {A : Option Addr} {m c : Nat} {l : List Int} (crc : Bool) (h : Shows (WH w0 B H) A m 1 (nums .u8 l)) (hlm : l.length = m) (hm : m ≤ 9223372036854775807) (hc : m ≤ c) (hu : U8s l) :
    TCall Try.prog w0 B 14 #[.slice A m c, .bool crc] (fun r H' => if scanS l crc = 2 then ∃ A' c', r = .tuple #[.agg #[.int .u8 (rd l 1), .slice A' (scanD l crc).length c'], .int .i64 2] ∧ (scanD l crc).length ≤ c' ∧ H' = .sl (.slice A' (scanD l crc).length c') 1 (scanD l crc).length (nums .u8 (scanD l crc)) :: H else r = .tuple #[.agg #[.int .u8 0, .slice none 0 0], .int .i64 ((scanS l crc : Nat) : Int)] ∧ H' = H) H := by
  by_cases h0 : l.length = 0
  · have e : scanS l crc = 0 := by unfold scanS; rw [if_pos h0]
    rw [e]
    have hm0 : m = 0 := by omega
    subst hm0
    refine (t52_0 crc).mono fun v h' hr => ?_
    exact ifn (by decide) hr
  by_cases hz : sizeL (rd l 0) crc = 0
  · have e : scanS l crc = 1 := by unfold scanS; rw [if_neg h0, if_pos hz]
    rw [e]
    refine (t52_1 crc h hlm hm hc hu (by omega) hz).mono fun v h' hr => ?_
    exact ifn (by decide) hr
  by_cases hx : 2 < l.length ∧ rd l 1 ≠ 255 - rd l 2
  · have e : scanS l crc = 1 := by unfold scanS; rw [if_neg h0, if_neg hz, if_pos hx]
    rw [e]
    refine (t52_x crc h hlm hm hc hu (by omega) hz hx.2).mono fun v h' hr => ?_
    exact ifn (by decide) hr
  have hx2 : 2 < m → rd l 1 = 255 - rd l 2 := fun h2 => by
    by_cases h1 : rd l 1 = 255 - rd l 2
    · exact h1
    · exact absurd ⟨by omega, h1⟩ hx
  by_cases hl : l.length < sizeL (rd l 0) crc
  · have e : scanS l crc = 0 := by unfold scanS; rw [if_neg h0, if_neg hz, if_neg hx, if_pos hl]
    rw [e]
    refine (t52_n crc h hlm hm hc hu (by omega) hz hx2 (by omega)).mono fun v h' hr => ?_
    exact ifn (by decide) hr
  have hn5 : 132 ≤ sizeL (rd l 0) crc := by unfold sizeL at *; split <;> split <;> (try split) <;> simp_all
  have hn9 : sizeL (rd l 0) crc ≤ 1029 := by unfold sizeL; split <;> (try split) <;> (try split) <;> omega
  have h1 : rd l 1 = 255 - rd l 2 := hx2 (by omega)
  refine (t52full crc h hlm hm hc hu _ rfl hz (by omega) h1 _ rfl (scanD l crc) (scanE l crc) rfl rfl (by omega) hn9 (trailL_le [] crc)).mono fun v h' hr => ?_
  by_cases hq : strOfNums (trailL (scanD l crc) crc) = strOfNums (scanE l crc)
  · have e : scanS l crc = 2 := by unfold scanS; rw [if_neg h0, if_neg hz, if_neg hx, if_neg hl, if_pos hq]
    rw [if_pos hq] at hr
    exact ifp e hr
  · have e : scanS l crc = 1 := by unfold scanS; rw [if_neg h0, if_neg hz, if_neg hx, if_neg hl, if_neg hq]
    rw [if_neg hq] at hr
    rw [e]
    exact ifn (by decide) hr
theorem t52no {A : Option Addr} {m c : Nat} {l : List Int} (crc : Bool) (h : Shows (WH w0 B H) A m 1 (nums .u8 l)) (hlm : l.length = m) (hm : m ≤ 9223372036854775807) (hc : m ≤ c) (hu : U8s l) (hs : scanS l crc ≠ 2) :
    TCall Try.prog w0 B 14 #[.slice A m c, .bool crc] (fun r H' => r = .tuple #[.agg #[.int .u8 0, .slice none 0 0], .int .i64 ((scanS l crc : Nat) : Int)] ∧ H' = H) H :=
  (t52 crc h hlm hm hc hu).mono fun v h' hr => by rw [if_neg hs] at hr; exact hr
theorem t52yes {A : Option Addr} {m c : Nat} {l : List Int} (crc : Bool) (h : Shows (WH w0 B H) A m 1 (nums .u8 l)) (hlm : l.length = m) (hm : m ≤ 9223372036854775807) (hc : m ≤ c) (hu : U8s l) (hs : scanS l crc = 2) :
    TCall Try.prog w0 B 14 #[.slice A m c, .bool crc] (fun r H' => ∃ (A' : Option Addr) (c' : Nat), r = .tuple #[.agg #[.int .u8 (rd l 1), .slice A' (scanD l crc).length c'], .int .i64 2] ∧ (scanD l crc).length ≤ c' ∧ H' = .sl (.slice A' (scanD l crc).length c') 1 (scanD l crc).length (nums .u8 (scanD l crc)) :: H) H :=
  (t52 crc h hlm hm hc hu).mono fun v h' hr => by rw [if_pos hs] at hr; exact hr
end
end Go.Proofs.Ytpfcpookdocikaa.SL
