import Derived.Test.YthdkmgeigdoglaaSLB
/- Blocks: Scan. No statement is proved here. -/
namespace Go.Proofs.Ythdkmgeigdoglaa.SL
open Go Go.RowKit Go.Proofs.YthdkmgeigdoglaaW.PrintWords H Hand
set_option linter.unusedVariables false
section
variable {w0 : World} {B : Nat} {H : List Chunk}
set_option maxRecDepth 100000 in
theorem t52full {A : Option Addr} {m c : Nat} {l : List Int} (crc : Bool) (h : Shows (WH w0 B H) A m 1 (nums .u8 l)) (hlm : l.length = m) (hm : m ≤ 9223372036854775807) (hc : m ≤ c) (hu : U8s l) (n : Nat) (hn : sizeL (rd l 0) crc = n) (hn0 : n ≠ 0) (hnm : n ≤ m) (h1 : rd l 1 = 255 - rd l 2) (t : Nat) (ht : (trailL [] crc).length = t) (dat tr : List Int) (hdat : (l.take (n - t)).drop 3 = dat) (htr : (l.take n).drop (n - t) = tr) (hn5 : 131 ≤ n) (hn9 : n ≤ 1029) (ht2 : t ≤ 2) :
    TCall Try.prog w0 B 52 #[.slice A m c, .bool crc] (fun r H' => if strOfNums (trailL dat crc) = strOfNums tr then ∃ A' c', r = .tuple #[.agg #[.int .u8 (rd l 1), .slice A' dat.length c'], .int .i64 2] ∧ dat.length ≤ c' ∧ H' = .sl (.slice A' dat.length c') 1 dat.length (nums .u8 dat) :: H else r = .tuple #[.agg #[.int .u8 0, .slice none 0 0], .int .i64 1] ∧ H' = H) H := by
  refine TCall_intro (args := [_, _]) Try.func52 rfl Try.ntmps52 (Nat.le_of_ble_eq_true rfl) ?_
  subst hn
  subst ht
  refine T_shows h (by simp [nums]; omega) fun ga oa hA hrd => ?_
  subst hA
  have rd0 := hrd 0 (.int .u8 (rd l 0)) (nums_at _ (by omega))
  have rd1 := hrd 1 (.int .u8 (rd l 1)) (nums_at _ (by omega))
  have rd2 := hrd 2 (.int .u8 (rd l 2)) (nums_at _ (by omega))
  have hdl : sizeL (rd l 0) crc - (trailL [] crc).length - 3 = dat.length := by rw [← hdat]; simp [hlm]; omega
  have hcut : Shows (WH w0 B H) (some ⟨ga, if c = 3 then oa else oa + 3 * 1, none⟩) dat.length 1 (nums .u8 dat) := by
    have := h.cut (l := 3) (h := sizeL (rd l 0) crc - (trailL [] crc).length) (c := c) (by omega) (by omega) hc
    rw [hdl] at this
    have e : nums .u8 dat = ((nums .u8 l).take ((sizeL (rd l 0) crc - (trailL [] crc).length) * 1)).drop (3 * 1) := by rw [← hdat]; simp [nums, List.map_take, List.map_drop]
    rw [e]
    exact this
  have hcut2 : Shows (WH w0 B H) (some ⟨ga, if c = sizeL (rd l 0) crc - (trailL [] crc).length then oa else oa + (sizeL (rd l 0) crc - (trailL [] crc).length) * 1, none⟩) (sizeL (rd l 0) crc - (sizeL (rd l 0) crc - (trailL [] crc).length)) 1 (nums .u8 tr) := by
    have := h.cut (l := sizeL (rd l 0) crc - (trailL [] crc).length) (h := sizeL (rd l 0) crc) (c := c) (by omega) (by omega) hc
    rw [← htr]
    simpa [nums, List.map_take, List.map_drop] using this
  have hdu : U8s dat := by rw [← hdat]; exact (hu.take _).drop _
  refine T_seq ?_
  refine T_region ?_
  refine TL_cons rfl (TO_alloc rfl zr58 fun g4 => ?_)
  refine TL_pure (d := (some 5)) rfl rfl rfl (PV_assign rfl) ?_
  refine TL_nil ?_
  -- ('scope', ('Code.scope', ('Code.seq', ('Code.region', 1, ('L', ('Oper.mk', ('some', 6), ('Op.alloc', 58), 0, '"block.go:60"', ('L',), 'none')), 'Bool.false'), ('Code.seq', ('Code.region', 2, ('L', ('O
  refine T_scope 1 rfl ?_
  refine T_seq ?_
  refine T_region ?_
  refine TL_cons rfl (TO_alloc rfl zr58 fun g6 => ?_)
  refine TL_nil ?_
  refine T_seq ?_
  refine T_region ?_
  refine TL_pure (d := (some 7)) rfl rfl rfl (PV_assign rfl) ?_
  refine TL_nil ?_
  refine T_seq ?_
  refine T_seq ?_
  refine T_region ?_
  refine TL_pure (d := (some 8)) rfl rfl rfl (PV_move rfl) ?_
  refine TL_pure (d := (some 9)) rfl rfl rfl (PV_len_slice Try.underlying23 rfl) ?_
  refine TL_pure (d := (some 10)) rfl rfl rfl (PV_bin rfl rfl bin_eql) ?_
  refine TL_nil ?_
  -- IF t10
  refine T_else rfl (by simp; omega) ?_
  refine T_skip ?_
  refine T_seq ?_
  refine T_region ?_
  refine TL_pure (d := (some 11)) rfl rfl rfl (PV_move rfl) ?_
  refine TL_pure (d := (some 12)) rfl rfl rfl (PV_indexAddr (i := 0) Try.underlying23 sz5 rfl rfl rfl (by first | omega | decide | assumption)) ?_
  refine TL_pure (d := (some 13)) rfl rfl rfl (PV_load Try.underlying5 rfl rfl (by first | exact Rd.at 0 rfl rfl | exact Rd.at 1 rfl rfl | exact Rd.at 2 rfl rfl | exact Rd.at 3 rfl rfl | exact Rd.at 4 rfl rfl | exact Rd.at 5 rfl rfl | exact Rd.at 6 rfl rfl | exact Rd.at 7 rfl rfl | exact Rd.at 8 rfl rfl | exact Rd.mono rd0 (by intro w h; first | exact h | exact h.tl | exact h.tl.tl | exact h.tl.tl.tl | exact h.tl.tl.tl.tl | exact h.tl.tl.tl.tl.tl | exact h.tl.tl.tl.tl.tl.tl | exact h.tl.tl.tl.tl.tl.tl.tl | exact h.tl.tl.tl.tl.tl.tl.tl.tl) | exact Rd.mono rd1 (by intro w h; first | exact h | exact h.tl | exact h.tl.tl | exact h.tl.tl.tl | exact h.tl.tl.tl.tl | exact h.tl.tl.tl.tl.tl | exact h.tl.tl.tl.tl.tl.tl | exact h.tl.tl.tl.tl.tl.tl.tl | exact h.tl.tl.tl.tl.tl.tl.tl.tl) | exact Rd.mono rd2 (by intro w h; first | exact h | exact h.tl | exact h.tl.tl | exact h.tl.tl.tl | exact h.tl.tl.tl.tl | exact h.tl.tl.tl.tl.tl | exact h.tl.tl.tl.tl.tl.tl | exact h.tl.tl.tl.tl.tl.tl.tl | exact h.tl.tl.tl.tl.tl.tl.tl.tl))) ?_
  refine TL_pure (d := (some 14)) rfl rfl rfl (PV_move rfl) ?_
  refine TL_cons rfl (TO_call0 call51 rfl rfl (t51 (rd l 0) crc) ?_)
  rintro v15 H15 ⟨rfl, rfl⟩
  refine TL_pure (d := (some 7)) rfl rfl rfl (PV_assign rfl) ?_
  refine TL_nil ?_
  refine T_seq ?_
  refine T_seq ?_
  refine T_region ?_
  refine TL_pure (d := (some 16)) rfl rfl rfl (PV_move rfl) ?_
  refine TL_pure (d := (some 17)) rfl rfl rfl (PV_bin rfl rfl bin_eql) ?_
  refine TL_nil ?_
  -- IF t17
  refine T_else rfl (by simp; omega) ?_
  refine T_skip ?_
  refine T_seq ?_
  refine T_seq ?_
  refine T_drawn (WH _ _ _) mixed (by intro w h; exact h) ?_
  refine TA_take (dd := (some 18)) 0 rfl (by kernel_rfl) (by kernel_rfl) (by kernel_rfl) rfl rfl rfl (PV_move rfl) ?_
  refine TA_take (dd := (some 19)) 1 rfl (by kernel_rfl) (by kernel_rfl) (by kernel_rfl) rfl rfl rfl (PV_len_slice Try.underlying23 rfl) ?_
  refine TA_take (dd := (some 20)) 2 rfl (by kernel_rfl) (by kernel_rfl) (by kernel_rfl) rfl rfl rfl (PV_bin rfl rfl bin_gtr) ?_
  refine TA_take (dd := (some 21)) 3 rfl (by kernel_rfl) (by kernel_rfl) (by kernel_rfl) rfl rfl rfl (PV_move rfl) ?_
  -- dguard 4 22 move t0
  refine TA_yes (dd := (some 22)) 4 rfl (by kernel_rfl) (by kernel_rfl) (by kernel_rfl) rfl rfl (gtrue (by simp; omega)) rfl rfl (PV_move rfl) ?_
  refine TA_yes (dd := (some 23)) 5 rfl (by kernel_rfl) (by kernel_rfl) (by kernel_rfl) rfl rfl (gtrue (by simp; omega)) rfl rfl (PV_indexAddr (i := 1) Try.underlying23 sz5 rfl rfl rfl (by first | omega | decide | assumption)) ?_
  refine TA_yes (dd := (some 24)) 6 rfl (by kernel_rfl) (by kernel_rfl) (by kernel_rfl) rfl rfl (gtrue (by simp; omega)) rfl rfl (PV_load Try.underlying5 rfl rfl (by first | exact Rd.at 0 rfl rfl | exact Rd.at 1 rfl rfl | exact Rd.at 2 rfl rfl | exact Rd.at 3 rfl rfl | exact Rd.at 4 rfl rfl | exact Rd.at 5 rfl rfl | exact Rd.at 6 rfl rfl | exact Rd.at 7 rfl rfl | exact Rd.at 8 rfl rfl | exact Rd.mono rd0 (by intro w h; first | exact h | exact h.tl | exact h.tl.tl | exact h.tl.tl.tl | exact h.tl.tl.tl.tl | exact h.tl.tl.tl.tl.tl | exact h.tl.tl.tl.tl.tl.tl | exact h.tl.tl.tl.tl.tl.tl.tl | exact h.tl.tl.tl.tl.tl.tl.tl.tl) | exact Rd.mono rd1 (by intro w h; first | exact h | exact h.tl | exact h.tl.tl | exact h.tl.tl.tl | exact h.tl.tl.tl.tl | exact h.tl.tl.tl.tl.tl | exact h.tl.tl.tl.tl.tl.tl | exact h.tl.tl.tl.tl.tl.tl.tl | exact h.tl.tl.tl.tl.tl.tl.tl.tl) | exact Rd.mono rd2 (by intro w h; first | exact h | exact h.tl | exact h.tl.tl | exact h.tl.tl.tl | exact h.tl.tl.tl.tl | exact h.tl.tl.tl.tl.tl | exact h.tl.tl.tl.tl.tl.tl | exact h.tl.tl.tl.tl.tl.tl.tl | exact h.tl.tl.tl.tl.tl.tl.tl.tl))) ?_
  refine TA_yes (dd := (some 25)) 7 rfl (by kernel_rfl) (by kernel_rfl) (by kernel_rfl) rfl rfl (gtrue (by simp; omega)) rfl rfl (PV_move rfl) ?_
  refine TA_yes (dd := (some 26)) 8 rfl (by kernel_rfl) (by kernel_rfl) (by kernel_rfl) rfl rfl (gtrue (by simp; omega)) rfl rfl (PV_indexAddr (i := 2) Try.underlying23 sz5 rfl rfl rfl (by first | omega | decide | assumption)) ?_
  refine TA_yes (dd := (some 27)) 9 rfl (by kernel_rfl) (by kernel_rfl) (by kernel_rfl) rfl rfl (gtrue (by simp; omega)) rfl rfl (PV_load Try.underlying5 rfl rfl (by first | exact Rd.at 0 rfl rfl | exact Rd.at 1 rfl rfl | exact Rd.at 2 rfl rfl | exact Rd.at 3 rfl rfl | exact Rd.at 4 rfl rfl | exact Rd.at 5 rfl rfl | exact Rd.at 6 rfl rfl | exact Rd.at 7 rfl rfl | exact Rd.at 8 rfl rfl | exact Rd.mono rd0 (by intro w h; first | exact h | exact h.tl | exact h.tl.tl | exact h.tl.tl.tl | exact h.tl.tl.tl.tl | exact h.tl.tl.tl.tl.tl | exact h.tl.tl.tl.tl.tl.tl | exact h.tl.tl.tl.tl.tl.tl.tl | exact h.tl.tl.tl.tl.tl.tl.tl.tl) | exact Rd.mono rd1 (by intro w h; first | exact h | exact h.tl | exact h.tl.tl | exact h.tl.tl.tl | exact h.tl.tl.tl.tl | exact h.tl.tl.tl.tl.tl | exact h.tl.tl.tl.tl.tl.tl | exact h.tl.tl.tl.tl.tl.tl.tl | exact h.tl.tl.tl.tl.tl.tl.tl.tl) | exact Rd.mono rd2 (by intro w h; first | exact h | exact h.tl | exact h.tl.tl | exact h.tl.tl.tl | exact h.tl.tl.tl.tl | exact h.tl.tl.tl.tl.tl | exact h.tl.tl.tl.tl.tl.tl | exact h.tl.tl.tl.tl.tl.tl.tl | exact h.tl.tl.tl.tl.tl.tl.tl.tl))) ?_
  refine TA_yes (dd := (some 28)) 10 rfl (by kernel_rfl) (by kernel_rfl) (by kernel_rfl) rfl rfl (gtrue (by simp; omega)) rfl rfl (PV_com rfl) ?_
  refine TA_yes (dd := (some 29)) 11 rfl (by kernel_rfl) (by kernel_rfl) (by kernel_rfl) rfl rfl (gtrue (by simp; omega)) rfl rfl (PV_bin rfl rfl bin_neq) ?_
  first | (refine TA_take (dd := (some 30)) 12 rfl (by kernel_rfl) (by kernel_rfl) (by kernel_rfl) rfl rfl rfl (PV_pickAnd rfl rfl rfl) ?_) | (refine TA_take (dd := (some 30)) 12 rfl (by kernel_rfl) (by kernel_rfl) (by kernel_rfl) rfl rfl rfl (PV_pickF rfl (by first | assumption | rfl | (simp; done) | (simp; omega)) rfl rfl) ?_)
  refine TA_done (by kernel_rfl) ?_
  -- IF t30
  refine T_else rfl (by have := bits_xor_max8 (rd l 2) (hu.at_ 2); simp [IntKind.signed, this, h1]) ?_
  refine T_skip ?_
  refine T_seq ?_
  refine T_seq ?_
  refine T_region ?_
  refine TL_pure (d := (some 31)) rfl rfl rfl (PV_move rfl) ?_
  refine TL_pure (d := (some 32)) rfl rfl rfl (PV_len_slice Try.underlying23 rfl) ?_
  refine TL_pure (d := (some 33)) rfl rfl rfl (PV_move rfl) ?_
  refine TL_pure (d := (some 34)) rfl rfl rfl (PV_bin rfl rfl bin_lss) ?_
  refine TL_nil ?_
  -- IF t34
  refine T_else rfl (by simp; omega) ?_
  refine T_skip ?_
  refine T_seq ?_
  refine T_region ?_
  refine TL_pure (d := (some 35)) rfl rfl rfl (PV_move rfl) ?_
  refine TL_pure (d := (some 36)) rfl rfl rfl (PV_indexAddr (i := 1) Try.underlying23 sz5 rfl rfl rfl (by first | omega | decide | assumption)) ?_
  refine TL_pure (d := (some 37)) rfl rfl rfl (PV_load Try.underlying5 rfl rfl (by first | exact Rd.at 0 rfl rfl | exact Rd.at 1 rfl rfl | exact Rd.at 2 rfl rfl | exact Rd.at 3 rfl rfl | exact Rd.at 4 rfl rfl | exact Rd.at 5 rfl rfl | exact Rd.at 6 rfl rfl | exact Rd.at 7 rfl rfl | exact Rd.at 8 rfl rfl | exact Rd.mono rd0 (by intro w h; first | exact h | exact h.tl | exact h.tl.tl | exact h.tl.tl.tl | exact h.tl.tl.tl.tl | exact h.tl.tl.tl.tl.tl | exact h.tl.tl.tl.tl.tl.tl | exact h.tl.tl.tl.tl.tl.tl.tl | exact h.tl.tl.tl.tl.tl.tl.tl.tl) | exact Rd.mono rd1 (by intro w h; first | exact h | exact h.tl | exact h.tl.tl | exact h.tl.tl.tl | exact h.tl.tl.tl.tl | exact h.tl.tl.tl.tl.tl | exact h.tl.tl.tl.tl.tl.tl | exact h.tl.tl.tl.tl.tl.tl.tl | exact h.tl.tl.tl.tl.tl.tl.tl.tl) | exact Rd.mono rd2 (by intro w h; first | exact h | exact h.tl | exact h.tl.tl | exact h.tl.tl.tl | exact h.tl.tl.tl.tl | exact h.tl.tl.tl.tl.tl | exact h.tl.tl.tl.tl.tl.tl | exact h.tl.tl.tl.tl.tl.tl.tl | exact h.tl.tl.tl.tl.tl.tl.tl.tl))) ?_
  refine TL_pure (d := (some 38)) rfl rfl rfl (PV_fieldAddr (D := 0) Try.underlying58 rfl sz5 (by decide) rfl rfl) ?_
  first | (refine TL_cons rfl (TO_store1 0 rfl rfl rfl sz5 rfl rfl rfl (by first | exact Nat.le_of_ble_eq_true rfl | (simp; done) | (simp; omega) | omega) ?_)) | (refine TL_cons rfl (TO_store1 1 rfl rfl rfl sz5 rfl rfl rfl (by first | exact Nat.le_of_ble_eq_true rfl | (simp; done) | (simp; omega) | omega) ?_)) | (refine TL_cons rfl (TO_store1 2 rfl rfl rfl sz5 rfl rfl rfl (by first | exact Nat.le_of_ble_eq_true rfl | (simp; done) | (simp; omega) | omega) ?_)) | (refine TL_cons rfl (TO_store1 3 rfl rfl rfl sz5 rfl rfl rfl (by first | exact Nat.le_of_ble_eq_true rfl | (simp; done) | (simp; omega) | omega) ?_)) | (refine TL_cons rfl (TO_store1 4 rfl rfl rfl sz5 rfl rfl rfl (by first | exact Nat.le_of_ble_eq_true rfl | (simp; done) | (simp; omega) | omega) ?_)) | (refine TL_cons rfl (TO_store1 5 rfl rfl rfl sz5 rfl rfl rfl (by first | exact Nat.le_of_ble_eq_true rfl | (simp; done) | (simp; omega) | omega) ?_)) | (refine TL_cons rfl (TO_store1 6 rfl rfl rfl sz5 rfl rfl rfl (by first | exact Nat.le_of_ble_eq_true rfl | (simp; done) | (simp; omega) | omega) ?_)) | (refine TL_cons rfl (TO_store1 7 rfl rfl rfl sz5 rfl rfl rfl (by first | exact Nat.le_of_ble_eq_true rfl | (simp; done) | (simp; omega) | omega) ?_)) | (refine TL_cons rfl (TO_store1 8 rfl rfl rfl sz5 rfl rfl rfl (by first | exact Nat.le_of_ble_eq_true rfl | (simp; done) | (simp; omega) | omega) ?_))
  refine TL_nil ?_
  refine T_seq ?_
  refine T_region ?_
  refine TL_pure (d := (some 39)) rfl rfl rfl (PV_move rfl) ?_
  refine TL_pure (d := (some 40)) rfl rfl rfl (PV_move rfl) ?_
  refine TL_pure (d := (some 41)) rfl rfl rfl (PV_move rfl) ?_
  -- op 42 call F88(cnilslice, t41)
  refine TL_cons rfl (TO_call0 call88 rfl rfl (t88 crc Shows.nil (by omega) (Nat.le_refl 0) U8s.nil) ?_)
  rintro v42 H42 ⟨A2, c2, rfl, hc2, rfl⟩
  refine TL_pure (d := (some 43)) rfl rfl rfl (PV_len_slice Try.underlying23 rfl) ?_
  refine TL_pure (d := (some 44)) rfl rfl rfl (PV.cast (PV_bin rfl rfl bin_sub) (wr64n (sizeL (rd l 0) crc - (trailL [] crc).length) (by omega) (by omega))) ?_
  -- op 45 slice 23 t39 ci64:3 t44 none
  refine TL_pure (d := (some 45)) rfl rfl rfl (PV.cast (PV_slice (l := 3) (h := sizeL (rd l 0) crc - (trailL [] crc).length) Try.underlying23 sz5 rfl hc ⟨_, rfl⟩ ⟨_, rfl⟩ (by omega) (by omega)) (by rw [hdl])) ?_
  refine TL_cons rfl (TO_appendNil Try.underlying23 zb5 rfl (by decide) rfl rfl rfl (hcut.mono (by intro w h; exact h.tl.tl.tl)) nums_one (by omega) (by omega) fun A46 c46 hc46 => ?_)
  refine TL_pure (d := (some 47)) rfl rfl rfl (PV_fieldAddr (D := 1) Try.underlying58 rfl sz23 (by decide) rfl rfl) ?_
  first | (refine TL_cons rfl (TO_store1 0 rfl rfl rfl sz23 rfl rfl rfl (by first | exact Nat.le_of_ble_eq_true rfl | (simp; done) | (simp; omega) | omega) ?_)) | (refine TL_cons rfl (TO_store1 1 rfl rfl rfl sz23 rfl rfl rfl (by first | exact Nat.le_of_ble_eq_true rfl | (simp; done) | (simp; omega) | omega) ?_)) | (refine TL_cons rfl (TO_store1 2 rfl rfl rfl sz23 rfl rfl rfl (by first | exact Nat.le_of_ble_eq_true rfl | (simp; done) | (simp; omega) | omega) ?_)) | (refine TL_cons rfl (TO_store1 3 rfl rfl rfl sz23 rfl rfl rfl (by first | exact Nat.le_of_ble_eq_true rfl | (simp; done) | (simp; omega) | omega) ?_)) | (refine TL_cons rfl (TO_store1 4 rfl rfl rfl sz23 rfl rfl rfl (by first | exact Nat.le_of_ble_eq_true rfl | (simp; done) | (simp; omega) | omega) ?_)) | (refine TL_cons rfl (TO_store1 5 rfl rfl rfl sz23 rfl rfl rfl (by first | exact Nat.le_of_ble_eq_true rfl | (simp; done) | (simp; omega) | omega) ?_)) | (refine TL_cons rfl (TO_store1 6 rfl rfl rfl sz23 rfl rfl rfl (by first | exact Nat.le_of_ble_eq_true rfl | (simp; done) | (simp; omega) | omega) ?_)) | (refine TL_cons rfl (TO_store1 7 rfl rfl rfl sz23 rfl rfl rfl (by first | exact Nat.le_of_ble_eq_true rfl | (simp; done) | (simp; omega) | omega) ?_)) | (refine TL_cons rfl (TO_store1 8 rfl rfl rfl sz23 rfl rfl rfl (by first | exact Nat.le_of_ble_eq_true rfl | (simp; done) | (simp; omega) | omega) ?_))
  refine TL_nil ?_
  refine T_seq ?_
  refine T_seq ?_
  refine T_drawn (WH _ _ _) mixed (by intro w h; exact h) ?_
  refine TA_take (dd := (some 48)) 0 rfl (by kernel_rfl) (by kernel_rfl) (by kernel_rfl) rfl rfl rfl (PV_fieldAddr (D := 1) Try.underlying58 rfl sz23 (by decide) rfl rfl) ?_
  first | (refine TA_take (dd := (some 49)) 1 rfl (by kernel_rfl) (by kernel_rfl) (by kernel_rfl) rfl rfl rfl (PV_load Try.underlying23 rfl rfl (by first | exact Rd.at 0 rfl rfl | exact Rd.at 1 rfl rfl | exact Rd.at 2 rfl rfl | exact Rd.at 3 rfl rfl | exact Rd.at 4 rfl rfl | exact Rd.at 5 rfl rfl | exact Rd.at 6 rfl rfl | exact Rd.at 7 rfl rfl | exact Rd.at 8 rfl rfl | exact Rd.mono rd0 (by intro w h; first | exact h | exact h.tl | exact h.tl.tl | exact h.tl.tl.tl | exact h.tl.tl.tl.tl | exact h.tl.tl.tl.tl.tl | exact h.tl.tl.tl.tl.tl.tl | exact h.tl.tl.tl.tl.tl.tl.tl | exact h.tl.tl.tl.tl.tl.tl.tl.tl) | exact Rd.mono rd1 (by intro w h; first | exact h | exact h.tl | exact h.tl.tl | exact h.tl.tl.tl | exact h.tl.tl.tl.tl | exact h.tl.tl.tl.tl.tl | exact h.tl.tl.tl.tl.tl.tl | exact h.tl.tl.tl.tl.tl.tl.tl | exact h.tl.tl.tl.tl.tl.tl.tl.tl) | exact Rd.mono rd2 (by intro w h; first | exact h | exact h.tl | exact h.tl.tl | exact h.tl.tl.tl | exact h.tl.tl.tl.tl | exact h.tl.tl.tl.tl.tl | exact h.tl.tl.tl.tl.tl.tl | exact h.tl.tl.tl.tl.tl.tl.tl | exact h.tl.tl.tl.tl.tl.tl.tl.tl))) ?_) | (refine TA_pure1 (dd := (some 49)) 1 (by kernel_rfl) rfl rfl rfl rfl (PV_load Try.underlying23 rfl rfl (by first | exact Rd.at 0 rfl rfl | exact Rd.at 1 rfl rfl | exact Rd.at 2 rfl rfl | exact Rd.at 3 rfl rfl | exact Rd.at 4 rfl rfl | exact Rd.at 5 rfl rfl | exact Rd.at 6 rfl rfl | exact Rd.at 7 rfl rfl | exact Rd.at 8 rfl rfl | exact Rd.mono rd0 (by intro w h; first | exact h | exact h.tl | exact h.tl.tl | exact h.tl.tl.tl | exact h.tl.tl.tl.tl | exact h.tl.tl.tl.tl.tl | exact h.tl.tl.tl.tl.tl.tl | exact h.tl.tl.tl.tl.tl.tl.tl | exact h.tl.tl.tl.tl.tl.tl.tl.tl) | exact Rd.mono rd1 (by intro w h; first | exact h | exact h.tl | exact h.tl.tl | exact h.tl.tl.tl | exact h.tl.tl.tl.tl | exact h.tl.tl.tl.tl.tl | exact h.tl.tl.tl.tl.tl.tl | exact h.tl.tl.tl.tl.tl.tl.tl | exact h.tl.tl.tl.tl.tl.tl.tl.tl) | exact Rd.mono rd2 (by intro w h; first | exact h | exact h.tl | exact h.tl.tl | exact h.tl.tl.tl | exact h.tl.tl.tl.tl | exact h.tl.tl.tl.tl.tl | exact h.tl.tl.tl.tl.tl.tl | exact h.tl.tl.tl.tl.tl.tl.tl | exact h.tl.tl.tl.tl.tl.tl.tl.tl))) ?_)
  refine TA_take (dd := (some 50)) 2 rfl (by kernel_rfl) (by kernel_rfl) (by kernel_rfl) rfl rfl rfl (PV_move rfl) ?_
  refine TA_take (dd := (some 53)) 5 rfl (by kernel_rfl) (by kernel_rfl) (by kernel_rfl) rfl rfl rfl (PV_move rfl) ?_
  refine TA_take (dd := (some 54)) 6 rfl (by kernel_rfl) (by kernel_rfl) (by kernel_rfl) rfl rfl rfl (PV_fieldAddr (D := 1) Try.underlying58 rfl sz23 (by decide) rfl rfl) ?_
  first | (refine TA_take (dd := (some 55)) 7 rfl (by kernel_rfl) (by kernel_rfl) (by kernel_rfl) rfl rfl rfl (PV_load Try.underlying23 rfl rfl (by first | exact Rd.at 0 rfl rfl | exact Rd.at 1 rfl rfl | exact Rd.at 2 rfl rfl | exact Rd.at 3 rfl rfl | exact Rd.at 4 rfl rfl | exact Rd.at 5 rfl rfl | exact Rd.at 6 rfl rfl | exact Rd.at 7 rfl rfl | exact Rd.at 8 rfl rfl | exact Rd.mono rd0 (by intro w h; first | exact h | exact h.tl | exact h.tl.tl | exact h.tl.tl.tl | exact h.tl.tl.tl.tl | exact h.tl.tl.tl.tl.tl | exact h.tl.tl.tl.tl.tl.tl | exact h.tl.tl.tl.tl.tl.tl.tl | exact h.tl.tl.tl.tl.tl.tl.tl.tl) | exact Rd.mono rd1 (by intro w h; first | exact h | exact h.tl | exact h.tl.tl | exact h.tl.tl.tl | exact h.tl.tl.tl.tl | exact h.tl.tl.tl.tl.tl | exact h.tl.tl.tl.tl.tl.tl | exact h.tl.tl.tl.tl.tl.tl.tl | exact h.tl.tl.tl.tl.tl.tl.tl.tl) | exact Rd.mono rd2 (by intro w h; first | exact h | exact h.tl | exact h.tl.tl | exact h.tl.tl.tl | exact h.tl.tl.tl.tl | exact h.tl.tl.tl.tl.tl | exact h.tl.tl.tl.tl.tl.tl | exact h.tl.tl.tl.tl.tl.tl.tl | exact h.tl.tl.tl.tl.tl.tl.tl.tl))) ?_) | (refine TA_pure1 (dd := (some 55)) 7 (by kernel_rfl) rfl rfl rfl rfl (PV_load Try.underlying23 rfl rfl (by first | exact Rd.at 0 rfl rfl | exact Rd.at 1 rfl rfl | exact Rd.at 2 rfl rfl | exact Rd.at 3 rfl rfl | exact Rd.at 4 rfl rfl | exact Rd.at 5 rfl rfl | exact Rd.at 6 rfl rfl | exact Rd.at 7 rfl rfl | exact Rd.at 8 rfl rfl | exact Rd.mono rd0 (by intro w h; first | exact h | exact h.tl | exact h.tl.tl | exact h.tl.tl.tl | exact h.tl.tl.tl.tl | exact h.tl.tl.tl.tl.tl | exact h.tl.tl.tl.tl.tl.tl | exact h.tl.tl.tl.tl.tl.tl.tl | exact h.tl.tl.tl.tl.tl.tl.tl.tl) | exact Rd.mono rd1 (by intro w h; first | exact h | exact h.tl | exact h.tl.tl | exact h.tl.tl.tl | exact h.tl.tl.tl.tl | exact h.tl.tl.tl.tl.tl | exact h.tl.tl.tl.tl.tl.tl | exact h.tl.tl.tl.tl.tl.tl.tl | exact h.tl.tl.tl.tl.tl.tl.tl.tl) | exact Rd.mono rd2 (by intro w h; first | exact h | exact h.tl | exact h.tl.tl | exact h.tl.tl.tl | exact h.tl.tl.tl.tl | exact h.tl.tl.tl.tl.tl | exact h.tl.tl.tl.tl.tl.tl | exact h.tl.tl.tl.tl.tl.tl.tl | exact h.tl.tl.tl.tl.tl.tl.tl.tl))) ?_)
  refine TA_take (dd := (some 56)) 8 rfl (by kernel_rfl) (by kernel_rfl) (by kernel_rfl) rfl rfl rfl (PV_len_slice Try.underlying23 rfl) ?_
  refine TA_take (dd := (some 57)) 9 rfl (by kernel_rfl) (by kernel_rfl) (by kernel_rfl) rfl rfl rfl (PV.cast (PV_bin rfl rfl bin_add) (wr64n (sizeL (rd l 0) crc - (trailL [] crc).length) (by omega) (by omega))) ?_
  refine TA_take (dd := (some 58)) 10 rfl (by kernel_rfl) (by kernel_rfl) (by kernel_rfl) rfl rfl rfl (PV_move rfl) ?_
  refine TA_take (dd := (some 59)) 11 rfl (by kernel_rfl) (by kernel_rfl) (by kernel_rfl) rfl rfl rfl (PV_slice (l := sizeL (rd l 0) crc - (trailL [] crc).length) (h := sizeL (rd l 0) crc) Try.underlying23 sz5 rfl hc ⟨_, rfl⟩ ⟨_, rfl⟩ (by omega) (by omega)) ?_
  first | (refine TA_take (dd := (some 60)) 12 rfl (by kernel_rfl) (by kernel_rfl) (by kernel_rfl) rfl rfl rfl (PV_b2s Try.underlying23 Try.underlying5 Try.underlying9 rfl (by first | assumption | exact Shows.at 0 rfl | exact Shows.at 1 rfl | exact Shows.at 2 rfl | exact Shows.at 3 rfl | exact Shows.at 4 rfl | exact Shows.at 5 rfl | exact Shows.at 6 rfl | exact Shows.at 7 rfl | exact Shows.at 8 rfl | exact Shows.mono hcut2 (by intro w h; first | exact h | exact h.tl | exact h.tl.tl | exact h.tl.tl.tl | exact h.tl.tl.tl.tl | exact h.tl.tl.tl.tl.tl | exact h.tl.tl.tl.tl.tl.tl | exact h.tl.tl.tl.tl.tl.tl.tl | exact h.tl.tl.tl.tl.tl.tl.tl.tl))) ?_) | (refine TA_pure1 (dd := (some 60)) 12 (by kernel_rfl) rfl rfl rfl rfl (PV_b2s Try.underlying23 Try.underlying5 Try.underlying9 rfl (by first | assumption | exact Shows.at 0 rfl | exact Shows.at 1 rfl | exact Shows.at 2 rfl | exact Shows.at 3 rfl | exact Shows.at 4 rfl | exact Shows.at 5 rfl | exact Shows.at 6 rfl | exact Shows.at 7 rfl | exact Shows.at 8 rfl | exact Shows.mono hcut2 (by intro w h; first | exact h | exact h.tl | exact h.tl.tl | exact h.tl.tl.tl | exact h.tl.tl.tl.tl | exact h.tl.tl.tl.tl.tl | exact h.tl.tl.tl.tl.tl.tl | exact h.tl.tl.tl.tl.tl.tl.tl | exact h.tl.tl.tl.tl.tl.tl.tl.tl))) ?_)
  -- dop 3 51 call F88(t49, t50)
  refine TA_one 3 (by kernel_rfl) rfl rfl (TO_call0 call88 rfl rfl (t88 crc (Shows.at 0 rfl) (by omega) hc46 hdu) ?_)
  rintro v51 H51 ⟨A51, c51, rfl, hc51, rfl⟩
  refine ⟨by intro w h; first | exact h | exact h.tl | exact h.tl.tl, ?_⟩
  first | (refine TA_take (dd := (some 52)) 4 rfl (by kernel_rfl) (by kernel_rfl) (by kernel_rfl) rfl rfl rfl (PV_b2s Try.underlying23 Try.underlying5 Try.underlying9 rfl (by first | assumption | exact Shows.at 0 rfl | exact Shows.at 1 rfl | exact Shows.at 2 rfl | exact Shows.at 3 rfl | exact Shows.at 4 rfl | exact Shows.at 5 rfl | exact Shows.at 6 rfl | exact Shows.at 7 rfl | exact Shows.at 8 rfl | exact Shows.mono hcut2 (by intro w h; first | exact h | exact h.tl | exact h.tl.tl | exact h.tl.tl.tl | exact h.tl.tl.tl.tl | exact h.tl.tl.tl.tl.tl | exact h.tl.tl.tl.tl.tl.tl | exact h.tl.tl.tl.tl.tl.tl.tl | exact h.tl.tl.tl.tl.tl.tl.tl.tl))) ?_) | (refine TA_pure1 (dd := (some 52)) 4 (by kernel_rfl) rfl rfl rfl rfl (PV_b2s Try.underlying23 Try.underlying5 Try.underlying9 rfl (by first | assumption | exact Shows.at 0 rfl | exact Shows.at 1 rfl | exact Shows.at 2 rfl | exact Shows.at 3 rfl | exact Shows.at 4 rfl | exact Shows.at 5 rfl | exact Shows.at 6 rfl | exact Shows.at 7 rfl | exact Shows.at 8 rfl | exact Shows.mono hcut2 (by intro w h; first | exact h | exact h.tl | exact h.tl.tl | exact h.tl.tl.tl | exact h.tl.tl.tl.tl | exact h.tl.tl.tl.tl.tl | exact h.tl.tl.tl.tl.tl.tl | exact h.tl.tl.tl.tl.tl.tl.tl | exact h.tl.tl.tl.tl.tl.tl.tl.tl))) ?_)
  refine TA_take (dd := (some 61)) 13 rfl (by kernel_rfl) (by kernel_rfl) (by kernel_rfl) rfl rfl rfl (PV_bin rfl rfl bin_str_neq) ?_
  refine TA_done (by kernel_rfl) ?_
  -- IF t61
  refine T_cond rfl (fun hb => ?_) (fun hb => ?_)
  · simp at hb
    refine T_goto ?_
    refine ⟨rfl, ?_⟩
    refine T_seq ?_
    refine T_skip ?_
    refine T_seq ?_
    refine T_region ?_
    refine TL_pure (d := (some 64)) rfl rfl rfl (PV_build (ps := _) Try.underlying58 pl58 zr58 rfl rfl) ?_
    first | (refine TL_cons rfl (TO_store 0 rfl rfl rfl sz58 rfl rfl rfl (by simp [Value.cells, Value.oneCell']) (by first | exact Nat.le_of_ble_eq_true rfl | (simp; done) | (simp; omega) | omega) ?_)) | (refine TL_cons rfl (TO_store 1 rfl rfl rfl sz58 rfl rfl rfl (by simp [Value.cells, Value.oneCell']) (by first | exact Nat.le_of_ble_eq_true rfl | (simp; done) | (simp; omega) | omega) ?_)) | (refine TL_cons rfl (TO_store 2 rfl rfl rfl sz58 rfl rfl rfl (by simp [Value.cells, Value.oneCell']) (by first | exact Nat.le_of_ble_eq_true rfl | (simp; done) | (simp; omega) | omega) ?_)) | (refine TL_cons rfl (TO_store 3 rfl rfl rfl sz58 rfl rfl rfl (by simp [Value.cells, Value.oneCell']) (by first | exact Nat.le_of_ble_eq_true rfl | (simp; done) | (simp; omega) | omega) ?_)) | (refine TL_cons rfl (TO_store 4 rfl rfl rfl sz58 rfl rfl rfl (by simp [Value.cells, Value.oneCell']) (by first | exact Nat.le_of_ble_eq_true rfl | (simp; done) | (simp; omega) | omega) ?_)) | (refine TL_cons rfl (TO_store 5 rfl rfl rfl sz58 rfl rfl rfl (by simp [Value.cells, Value.oneCell']) (by first | exact Nat.le_of_ble_eq_true rfl | (simp; done) | (simp; omega) | omega) ?_)) | (refine TL_cons rfl (TO_store 6 rfl rfl rfl sz58 rfl rfl rfl (by simp [Value.cells, Value.oneCell']) (by first | exact Nat.le_of_ble_eq_true rfl | (simp; done) | (simp; omega) | omega) ?_)) | (refine TL_cons rfl (TO_store 7 rfl rfl rfl sz58 rfl rfl rfl (by simp [Value.cells, Value.oneCell']) (by first | exact Nat.le_of_ble_eq_true rfl | (simp; done) | (simp; omega) | omega) ?_)) | (refine TL_cons rfl (TO_store 8 rfl rfl rfl sz58 rfl rfl rfl (by simp [Value.cells, Value.oneCell']) (by first | exact Nat.le_of_ble_eq_true rfl | (simp; done) | (simp; omega) | omega) ?_))
    refine TL_pure (d := (some 5)) rfl rfl rfl (PV_assign rfl) ?_
    refine TL_nil ?_
    refine T_ret ?_
    refine ⟨_, _, ?_, ResV_ct rfl Try.underlying58 rfl sz58 rfl (by first | exact Rds.take 0 rfl rfl rfl | exact Rds.take 1 rfl rfl rfl | exact Rds.take 2 rfl rfl rfl | exact Rds.take 3 rfl rfl rfl | exact Rds.take 4 rfl rfl rfl | exact Rds.take 5 rfl rfl rfl | exact Rds.take 6 rfl rfl rfl | exact Rds.take 7 rfl rfl rfl | exact Rds.take 8 rfl rfl rfl) rfl, (ifn hb ⟨rfl, rfl⟩)⟩
    repeat (first | exact List.Sublist.refl _ | apply List.Sublist.cons_cons | apply List.Sublist.cons)
  · simp at hb
    refine T_skip ?_
    refine T_seq ?_
    refine T_seq ?_
    refine T_region ?_
    refine TL_pure (d := (some 62)) rfl rfl rfl (PV_loadAt Try.underlying58 rfl sz58 rfl (by first | exact Rds.take 0 rfl rfl rfl | exact Rds.take 1 rfl rfl rfl | exact Rds.take 2 rfl rfl rfl | exact Rds.take 3 rfl rfl rfl | exact Rds.take 4 rfl rfl rfl | exact Rds.take 5 rfl rfl rfl | exact Rds.take 6 rfl rfl rfl | exact Rds.take 7 rfl rfl rfl | exact Rds.take 8 rfl rfl rfl)) ?_
    first | (refine TL_cons rfl (TO_store 0 rfl rfl rfl sz58 rfl rfl rfl (by simp [Value.cells, Value.oneCell']) (by first | exact Nat.le_of_ble_eq_true rfl | (simp; done) | (simp; omega) | omega) ?_)) | (refine TL_cons rfl (TO_store 1 rfl rfl rfl sz58 rfl rfl rfl (by simp [Value.cells, Value.oneCell']) (by first | exact Nat.le_of_ble_eq_true rfl | (simp; done) | (simp; omega) | omega) ?_)) | (refine TL_cons rfl (TO_store 2 rfl rfl rfl sz58 rfl rfl rfl (by simp [Value.cells, Value.oneCell']) (by first | exact Nat.le_of_ble_eq_true rfl | (simp; done) | (simp; omega) | omega) ?_)) | (refine TL_cons rfl (TO_store 3 rfl rfl rfl sz58 rfl rfl rfl (by simp [Value.cells, Value.oneCell']) (by first | exact Nat.le_of_ble_eq_true rfl | (simp; done) | (simp; omega) | omega) ?_)) | (refine TL_cons rfl (TO_store 4 rfl rfl rfl sz58 rfl rfl rfl (by simp [Value.cells, Value.oneCell']) (by first | exact Nat.le_of_ble_eq_true rfl | (simp; done) | (simp; omega) | omega) ?_)) | (refine TL_cons rfl (TO_store 5 rfl rfl rfl sz58 rfl rfl rfl (by simp [Value.cells, Value.oneCell']) (by first | exact Nat.le_of_ble_eq_true rfl | (simp; done) | (simp; omega) | omega) ?_)) | (refine TL_cons rfl (TO_store 6 rfl rfl rfl sz58 rfl rfl rfl (by simp [Value.cells, Value.oneCell']) (by first | exact Nat.le_of_ble_eq_true rfl | (simp; done) | (simp; omega) | omega) ?_)) | (refine TL_cons rfl (TO_store 7 rfl rfl rfl sz58 rfl rfl rfl (by simp [Value.cells, Value.oneCell']) (by first | exact Nat.le_of_ble_eq_true rfl | (simp; done) | (simp; omega) | omega) ?_)) | (refine TL_cons rfl (TO_store 8 rfl rfl rfl sz58 rfl rfl rfl (by simp [Value.cells, Value.oneCell']) (by first | exact Nat.le_of_ble_eq_true rfl | (simp; done) | (simp; omega) | omega) ?_))
    refine TL_pure (d := (some 5)) rfl rfl rfl (PV_assign rfl) ?_
    refine TL_nil ?_
    refine T_ret ?_
    refine ⟨_, _, ?_, ResV_ct rfl Try.underlying58 rfl sz58 rfl (by first | exact Rds.take 0 rfl rfl rfl | exact Rds.take 1 rfl rfl rfl | exact Rds.take 2 rfl rfl rfl | exact Rds.take 3 rfl rfl rfl | exact Rds.take 4 rfl rfl rfl | exact Rds.take 5 rfl rfl rfl | exact Rds.take 6 rfl rfl rfl | exact Rds.take 7 rfl rfl rfl | exact Rds.take 8 rfl rfl rfl) rfl, (ifp hb ⟨_, _, rfl, hc46, rfl⟩)⟩
    repeat (first | exact List.Sublist.refl _ | apply List.Sublist.cons_cons | apply List.Sublist.cons)
/-- what bytes begin with: 0 too few, 1 none, 2 a block -/
def scanT (l : List Int) (crc : Bool) : Nat := sizeL (rd l 0) crc - (trailL [] crc).length
def scanD (l : List Int) (crc : Bool) : List Int := (l.take (scanT l crc)).drop 3
def scanE (l : List Int) (crc : Bool) : List Int := (l.take (sizeL (rd l 0) crc)).drop (scanT l crc)
def scanS (l : List Int) (crc : Bool) : Nat :=
  if l.length = 0 then 0 else if sizeL (rd l 0) crc = 0 then 1 else if 2 < l.length ∧ rd l 1 ≠ 255 - rd l 2 then 1
  else if l.length < sizeL (rd l 0) crc then 0 else if strOfNums (trailL (scanD l crc) crc) = strOfNums (scanE l crc) then 2 else 1
theorem t52 {A : Option Addr} {m c : Nat} {l : List Int} (crc : Bool) (h : Shows (WH w0 B H) A m 1 (nums .u8 l)) (hlm : l.length = m) (hm : m ≤ 9223372036854775807) (hc : m ≤ c) (hu : U8s l) :
    TCall Try.prog w0 B 52 #[.slice A m c, .bool crc] (fun r H' => if scanS l crc = 2 then ∃ A' c', r = .tuple #[.agg #[.int .u8 (rd l 1), .slice A' (scanD l crc).length c'], .int .i64 2] ∧ (scanD l crc).length ≤ c' ∧ H' = .sl (.slice A' (scanD l crc).length c') 1 (scanD l crc).length (nums .u8 (scanD l crc)) :: H else r = .tuple #[.agg #[.int .u8 0, .slice none 0 0], .int .i64 ((scanS l crc : Nat) : Int)] ∧ H' = H) H := by
  by_cases h0 : l.length = 0
  · have e : scanS l crc = 0 := by unfold scanS; rw [if_pos h0]
    rw [e]
    have hm0 : m = 0 := by omega
    subst hm0
    refine (lift_val (v := .tuple #[.agg #[.int .u8 0, .slice none 0 0], .int .i64 0]) fun w hw => scan_nil A c crc w).mono fun v h' hr => ?_
    exact ifn (by decide) hr
  by_cases hz : sizeL (rd l 0) crc = 0
  · have e : scanS l crc = 1 := by unfold scanS; rw [if_neg h0, if_pos hz]
    rw [e]
    refine (lift_val (v := .tuple #[.agg #[.int .u8 0, .slice none 0 0], .int .i64 1]) fun w hw => scan_bad0 A m c l crc w (reads_of h hm hw) hc hu (by omega) hz).mono fun v h' hr => ?_
    exact ifn (by decide) hr
  by_cases hx : 2 < l.length ∧ rd l 1 ≠ 255 - rd l 2
  · have e : scanS l crc = 1 := by unfold scanS; rw [if_neg h0, if_neg hz, if_pos hx]
    rw [e]
    refine (lift_val (v := .tuple #[.agg #[.int .u8 0, .slice none 0 0], .int .i64 1]) fun w hw => scan_xor A m c l crc w (reads_of h hm hw) hc hu (by omega) hz hx.2).mono fun v h' hr => ?_
    exact ifn (by decide) hr
  by_cases hl : l.length < sizeL (rd l 0) crc
  · have e : scanS l crc = 0 := by unfold scanS; rw [if_neg h0, if_neg hz, if_neg hx, if_pos hl]
    rw [e]
    by_cases h2 : 2 < l.length
    · have h1 : rd l 1 = 255 - rd l 2 := by
        by_cases h1 : rd l 1 = 255 - rd l 2
        · exact h1
        · exact absurd ⟨h2, h1⟩ hx
      refine (lift_val (v := .tuple #[.agg #[.int .u8 0, .slice none 0 0], .int .i64 0]) fun w hw => scan_need3 A m c l crc w (reads_of h hm hw) hc hu (by omega) h1 hz (by omega)).mono fun v h' hr => ?_
      exact ifn (by decide) hr
    · refine (lift_val (v := .tuple #[.agg #[.int .u8 0, .slice none 0 0], .int .i64 0]) fun w hw => scan_need2 A m c l crc w (reads_of h hm hw) hc hu (by omega) (by omega) hz (by omega)).mono fun v h' hr => ?_
      exact ifn (by decide) hr
  have hn5 : 132 ≤ sizeL (rd l 0) crc := by unfold sizeL at *; split <;> split <;> (try split) <;> simp_all
  have hn9 : sizeL (rd l 0) crc ≤ 1029 := by unfold sizeL; split <;> (try split) <;> (try split) <;> omega
  have h1 : rd l 1 = 255 - rd l 2 := by
    by_cases h1 : rd l 1 = 255 - rd l 2
    · exact h1
    · exact absurd ⟨by omega, h1⟩ hx
  refine (t52full crc h hlm hm hc hu _ rfl hz (by omega) h1 _ rfl (scanD l crc) (scanE l crc) rfl rfl (by omega) hn9 (trailL_le [] crc)).mono fun v h' hr => ?_
  by_cases hq : strOfNums (trailL (scanD l crc) crc) = strOfNums (scanE l crc)
  · have e : scanS l crc = 2 := by unfold scanS; rw [if_neg h0, if_neg hz, if_neg hx, if_neg hl, if_pos hq]
    rw [if_pos hq] at hr
    exact ifp e hr
  · have e : scanS l crc = 1 := by unfold scanS; rw [if_neg h0, if_neg hz, if_neg hx, if_neg hl, if_neg hq]
    rw [if_neg hq] at hr
    rw [e]
    exact ifn (by decide) hr
end
end Go.Proofs.Ythdkmgeigdoglaa.SL
