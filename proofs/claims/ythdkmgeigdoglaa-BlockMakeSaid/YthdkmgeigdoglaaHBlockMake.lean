import Derived.Test.YthdkmgeigdoglaaSLAwake04
/- BlockMake, walked. -/
set_option linter.unusedVariables false
namespace Go.Proofs.Ythdkmgeigdoglaa.SL
open Go Go.RowKit Go.Proofs.YthdkmgeigdoglaaW.PrintWords H Hand
set_option maxRecDepth 100000 in
theorem BlockMake_t {w : World} {A : Option Addr} {c : Nat} {l : List Int} {long : Bool} {num : Int} {crc : Bool} (hr : ReadsInt w .u8 A l.length l) (hc : l.length ≤ c) (hu : U8s l) (hn : 0 ≤ num ∧ num ≤ 255) :
    TCall Try.prog w w.heap.size 13 #[.slice A l.length c, .bool long, .int .u8 num, .bool crc] (fun r _ => r = .bool true) [] := by
  have hS : ∀ H, Shows (WH w w.heap.size H) A l.length 1 (nums .u8 l) := fun H => shows_start hr
  have hl := hr.2.1
  have hdl := dataL_len l long
  have hdn : dataN long = 128 ∨ dataN long = 1024 := by cases long <;> simp [dataN]
  have hbl := blockL_len (leadOf (dataN long)) num (dataL l long) crc
  have hsz : sizeL (leadOf (dataN long)) crc = (blockL (leadOf (dataN long)) num (dataL l long) crc).length := by
    rw [hbl, trailL_len, hdl]
    rcases hdn with h | h <;> rw [h] <;> cases crc <;> rfl
  have htl := trailL_le (dataL l long) crc
  refine TCall_intro (args := [_, _, _, _]) Try.func13 rfl Try.ntmps13 (Nat.le_of_ble_eq_true rfl) ?_
  refine T_seq ?_
  refine T_region ?_
  refine TL_pure (d := (some 8)) rfl rfl rfl (PV_assign rfl) ?_
  refine TL_nil ?_
  refine T_seq ?_
  refine T_seq ?_
  refine T_region ?_
  -- op 14 call F47()
  refine TL_cons rfl (TO_call0 call47 rfl rfl (t47) ?_)
  rintro v14 H14 ⟨rfl, rfl⟩
  refine TL_pure (d := (some 15)) rfl rfl rfl (PV_not rfl) ?_
  refine TL_nil ?_
  refine T_else rfl (by rfl) ?_
  refine T_skip ?_
  refine T_seq ?_
  refine T_region ?_
  refine TL_pure (d := (some 16)) rfl rfl rfl (PV_move rfl) ?_
  refine TL_pure (d := (some 17)) rfl rfl rfl (PV_move rfl) ?_
  -- op 18 call F48(t16, t17)
  refine TL_cons rfl (TO_call0 call48 rfl rfl (t48 long (hS _) hl hc hu) ?_)
  rintro v18 H18 ⟨A18, c18, rfl, hc18, rfl⟩
  refine TL_pure (d := (some 9)) rfl rfl rfl (PV_assign rfl) ?_
  refine TL_nil ?_
  refine T_seq ?_
  refine T_region ?_
  refine TL_pure (d := (some 20)) rfl rfl rfl (PV_move rfl) ?_
  refine TL_pure (d := (some 21)) rfl rfl rfl (PV_move rfl) ?_
  refine TL_pure (d := (some 22)) rfl rfl rfl (PV_build (ps := _) (cells := #[_, _]) Try.underlying58 pl58 zr58 rfl rfl) ?_
  refine TL_pure (d := (some 23)) rfl rfl rfl (PV_move rfl) ?_
  -- op 24 call F49(t22, t23)
  refine TL_cons rfl (TO_call0 call49 rfl rfl (t49 crc (Shows.at 0 rfl) hdn hc18 (dataL_u8 l long) hn) ?_)
  rintro v24 H24 ⟨A24, c24, rfl, hc24, rfl⟩
  refine TL_slA 0 rfl (by omega) fun g24 h24 => ?_
  subst h24
  refine TL_pure (d := (some 19)) rfl rfl rfl (PV_move rfl) ?_
  refine TL_pure (d := (some 25)) rfl rfl rfl (PV_extract rfl rfl) ?_
  refine TL_pure (d := (some 26)) rfl rfl rfl (PV_extract rfl rfl) ?_
  refine TL_pure (d := (some 10)) rfl rfl rfl (PV_assign rfl) ?_
  refine TL_pure (d := (some 11)) rfl rfl rfl (PV_assign rfl) ?_
  refine TL_nil ?_
  refine T_seq ?_
  refine T_region ?_
  refine TL_pure (d := (some 28)) rfl rfl rfl (PV_move rfl) ?_
  refine TL_pure (d := (some 29)) rfl rfl rfl (PV_move rfl) ?_
  refine TL_pure (d := (some 30)) rfl rfl rfl (PV_move rfl) ?_
  refine TL_pure (d := (some 31)) rfl rfl rfl (PV_len_slice Try.underlying23 rfl) ?_
  refine TL_pure (d := (some 32)) rfl rfl rfl (PV.cast (PV_min rfl rfl) (show _ = Value.int .i64 ((min l.length 127 : Nat) : Int) by congr 1; omega)) ?_
  -- op 33 slice 23 t29 none t32 none
  refine TL_pure (d := (some 33)) rfl rfl rfl (PV_sliceTo (h := min l.length 127) Try.underlying23 sz5 rfl hc ⟨_, rfl⟩ (by omega)) ?_
  refine TL_pure (d := (some 34)) rfl rfl rfl (PV_build (ps := _) (cells := #[_, _]) Try.underlying58 pl58 zr58 rfl rfl) ?_
  refine TL_pure (d := (some 35)) rfl rfl rfl (PV_move rfl) ?_
  refine TL_cons rfl (TO_call0 call49 rfl rfl (t49no crc (by omega) (by omega)) ?_)
  rintro v36 H36 ⟨rfl, rfl⟩
  refine TL_pure (d := (some 27)) rfl rfl rfl (PV_move rfl) ?_
  refine TL_pure (d := (some 37)) rfl rfl rfl (PV_extract rfl rfl) ?_
  refine TL_pure (d := (some 38)) rfl rfl rfl (PV_extract rfl rfl) ?_
  refine TL_pure (d := (some 12)) rfl rfl rfl (PV_assign rfl) ?_
  refine TL_pure (d := (some 13)) rfl rfl rfl (PV_assign rfl) ?_
  refine TL_nil ?_
  refine T_seq ?_
  refine T_drawn (WH _ _ _) mixed (by intro w h; exact h) ?_
  refine TA_take (dd := (some 39)) 0 rfl (by kernel_rfl) (by kernel_rfl) (by kernel_rfl) rfl rfl rfl (PV_move rfl) ?_
  refine TA_take (dd := (some 40)) 1 rfl (by kernel_rfl) (by kernel_rfl) (by kernel_rfl) rfl rfl rfl (PV_move rfl) ?_
  -- dguard 2 41 move t10
  refine TA_yes (dd := (some 41)) 2 rfl (by kernel_rfl) (by kernel_rfl) (by kernel_rfl) rfl rfl rfl rfl rfl (PV_move rfl) ?_
  refine TA_yes (dd := (some 42)) 3 rfl (by kernel_rfl) (by kernel_rfl) (by kernel_rfl) rfl rfl rfl rfl rfl (PV_b2s Try.underlying23 Try.underlying5 Try.underlying9 rfl (by first | assumption | exact Shows.at 0 rfl | exact Shows.at 1 rfl | exact Shows.at 2 rfl | exact Shows.at 3 rfl | exact Shows.at 4 rfl | exact Shows.at 5 rfl | exact Shows.at 6 rfl | exact Shows.at 7 rfl | exact Shows.at 8 rfl)) ?_
  refine TA_yes (dd := (some 43)) 4 rfl (by kernel_rfl) (by kernel_rfl) (by kernel_rfl) rfl rfl rfl rfl rfl (PV_move rfl) ?_
  refine TA_yes (dd := (some 44)) 5 rfl (by kernel_rfl) (by kernel_rfl) (by kernel_rfl) rfl rfl rfl rfl rfl (PV_move rfl) ?_
  refine TA_yes (dd := (some 45)) 6 rfl (by kernel_rfl) (by kernel_rfl) (by kernel_rfl) rfl rfl rfl rfl rfl (PV_move rfl) ?_
  refine TA_oneYes 7 (by kernel_rfl) rfl rfl rfl rfl (TO_call0 call50 rfl rfl (t50 crc (Shows.at 1 rfl) (by omega) hc18 (dataL_u8 l long) hn) ?_)
  rintro v46 H46 ⟨rfl, rfl⟩
  refine ⟨by intro w h; first | exact h | exact h.tl | exact h.tl.tl, ?_⟩
  refine TA_yes (dd := (some 47)) 8 rfl (by kernel_rfl) (by kernel_rfl) (by kernel_rfl) rfl rfl rfl rfl rfl (PV.cast (PV_bin rfl rfl bin_str_eql) (congrArg Value.bool (show _ = true by exact decide_eq_true rfl))) ?_
  first | (refine TA_take (dd := (some 48)) 9 rfl (by kernel_rfl) (by kernel_rfl) (by kernel_rfl) rfl rfl rfl (PV_pickAnd rfl rfl rfl) ?_) | (refine TA_take (dd := (some 48)) 9 rfl (by kernel_rfl) (by kernel_rfl) (by kernel_rfl) rfl rfl rfl (PV_pickF rfl (by first | assumption | rfl | (simp; done) | (simp; omega)) rfl rfl) ?_)
  refine TA_take (dd := (some 49)) 10 rfl (by kernel_rfl) (by kernel_rfl) (by kernel_rfl) rfl rfl rfl (PV_move rfl) ?_
  refine TA_yes (dd := (some 50)) 11 rfl (by kernel_rfl) (by kernel_rfl) (by kernel_rfl) rfl rfl rfl rfl rfl (PV_move rfl) ?_
  refine TA_yes (dd := (some 51)) 12 rfl (by kernel_rfl) (by kernel_rfl) (by kernel_rfl) rfl rfl rfl rfl rfl (PV_len_slice Try.underlying23 rfl) ?_
  refine TA_yes (dd := (some 52)) 13 rfl (by kernel_rfl) (by kernel_rfl) (by kernel_rfl) rfl rfl rfl rfl rfl (PV_move rfl) ?_
  refine TA_yes (dd := (some 53)) 14 rfl (by kernel_rfl) (by kernel_rfl) (by kernel_rfl) rfl rfl rfl rfl rfl (PV_indexAddr (i := 0) Try.underlying23 sz5 rfl rfl rfl (by first | omega | decide | assumption)) ?_
  refine TA_yes (dd := (some 54)) 15 rfl (by kernel_rfl) (by kernel_rfl) (by kernel_rfl) rfl rfl rfl rfl rfl (PV_load Try.underlying5 rfl rfl (by first | exact Rd.at 0 rfl rfl | exact Rd.at 1 rfl rfl | exact Rd.at 2 rfl rfl | exact Rd.at 3 rfl rfl | exact Rd.at 4 rfl rfl | exact Rd.at 5 rfl rfl | exact Rd.at 6 rfl rfl | exact Rd.at 7 rfl rfl | exact Rd.at 8 rfl rfl)) ?_
  refine TA_yes (dd := (some 55)) 16 rfl (by kernel_rfl) (by kernel_rfl) (by kernel_rfl) rfl rfl rfl rfl rfl (PV_move rfl) ?_
  refine TA_oneYes 17 (by kernel_rfl) rfl rfl rfl rfl (TO_call0 call51 rfl rfl (t51 _ crc) ?_)
  rintro v56 H56 ⟨rfl, rfl⟩
  refine ⟨by intro w h; first | exact h | exact h.tl | exact h.tl.tl, ?_⟩
  refine TA_yes (dd := (some 57)) 18 rfl (by kernel_rfl) (by kernel_rfl) (by kernel_rfl) rfl rfl rfl rfl rfl (PV.cast (PV_bin rfl rfl bin_eql) (congrArg Value.bool (show _ = true by rw [hsz]; exact beq_self_eq_true _))) ?_
  first | (refine TA_take (dd := (some 58)) 19 rfl (by kernel_rfl) (by kernel_rfl) (by kernel_rfl) rfl rfl rfl (PV_pickAnd rfl rfl rfl) ?_) | (refine TA_take (dd := (some 58)) 19 rfl (by kernel_rfl) (by kernel_rfl) (by kernel_rfl) rfl rfl rfl (PV_pickF rfl (by first | assumption | rfl | (simp; done) | (simp; omega)) rfl rfl) ?_)
  refine TA_take (dd := (some 59)) 20 rfl (by kernel_rfl) (by kernel_rfl) (by kernel_rfl) rfl rfl rfl (PV_move rfl) ?_
  refine TA_yes (dd := (some 60)) 21 rfl (by kernel_rfl) (by kernel_rfl) (by kernel_rfl) rfl rfl rfl rfl rfl (PV_move rfl) ?_
  refine TA_yes (dd := (some 61)) 22 rfl (by kernel_rfl) (by kernel_rfl) (by kernel_rfl) rfl rfl rfl rfl rfl (PV_not rfl) ?_
  first | (refine TA_take (dd := (some 62)) 23 rfl (by kernel_rfl) (by kernel_rfl) (by kernel_rfl) rfl rfl rfl (PV_pickAnd rfl rfl rfl) ?_) | (refine TA_take (dd := (some 62)) 23 rfl (by kernel_rfl) (by kernel_rfl) (by kernel_rfl) rfl rfl rfl (PV_pickF rfl (by first | assumption | rfl | (simp; done) | (simp; omega)) rfl rfl) ?_)
  refine TA_take (dd := (some 8)) 24 rfl (by kernel_rfl) (by kernel_rfl) (by kernel_rfl) rfl rfl rfl (PV_assign rfl) ?_
  refine TA_done (by kernel_rfl) ?_
  refine T_ret ?_
  refine ⟨_, ?hh, ?sb, ResV_one rfl rfl, rfl⟩
  case sb => repeat (first | exact List.Sublist.refl _ | apply List.Sublist.cons_cons | apply List.Sublist.cons)
end Go.Proofs.Ythdkmgeigdoglaa.SL
namespace Go.Proofs.Ythdkmgeigdoglaa.Hand
open Go Go.RowKit Go.Proofs.YthdkmgeigdoglaaW.PrintWords H
theorem u8_of_wf {n : Int} (h : (Lit.int .u8 n).wf = true) : 0 ≤ n ∧ n ≤ 255 := U8s.of_wf (l := [n]) (by simpa using h) n (by simp)
theorem BlockMake_walk (a0 : Option Addr) (c0 : Nat) (l0 : List Int) (a1 : Bool) (a2 : Int) (a3 : Bool) (w : World)
    (hr0 : ReadsInt w .u8 a0 l0.length l0) (hc0 : l0.length ≤ c0) (y0 : l0.length * 1 ≤ 140737488351232) (hw0 : ∀ x ∈ l0, (Lit.int .u8 x).wf = true) (w2 : (Lit.int .u8 a2).wf = true) :
    Calls Try.prog 13 #[.slice a0 l0.length c0, .bool a1, .int .u8 a2, .bool a3] w fun e w' => e = .returned (.bool true) ∧ Below w.heap.size w w' :=
  SL.law_of (SL.BlockMake_t hr0 hc0 (U8s.of_wf hw0) (u8_of_wf w2))
end Go.Proofs.Ythdkmgeigdoglaa.Hand
