import Derived.Test.YtijpbpnfachlkaaDoorE1
import Derived.Test.YtijpbpnfachlkaaDoorP11
/- What waits for patterns: laid. No statement is proved here. -/
set_option linter.unusedVariables false
set_option linter.unusedSimpArgs false
set_option maxRecDepth 100000
set_option maxHeartbeats 8000000
namespace Go.Proofs.YtijpbpnfachlkaaDoor.SL
open Go Go.RowKit
def strs (qs : List (List Int)) : List Value := qs.map fun q => .string (strOfNums q)
theorem strs_at {qs : List (List Int)} {j : Nat} (h : j < qs.length) : (strs qs)[j * 1]? = some (.string (strOfNums (qs.getD j []))) := by
  rw [Nat.mul_one]
  simp [strs, List.getD_eq_getElem?_getD, List.getElem?_eq_getElem h]
/-- patterns that can be waited for -/
structure PatOk (q : List Int) (t : Rx) : Prop where
  u8 : U8s q
  len : q.length ≤ 64
  ok : ∃ e, pParse q = .ok t e
  nul : nul t = false
  pl : pl t ≤ 1000000
  nx : nx t ≤ 900000000
section
variable {w0 : World} {B n : Nat} {H : List Chunk}
theorem OfW_t {A : Option Addr} {m c : Nat} {qs : List (List Int)} {ts : List Rx} (hS : Shows (WH w0 B H) A m 1 (strs qs)) (hqm : qs.length = m) (h1 : 1 ≤ m) (h8 : m ≤ 8) (hc : m ≤ c) (htl : ts.length = m) (hq : ∀ i, i < m → PatOk (qs.getD i []) (ts.getD i .nothing)) :
    TCall Tryd.prog w0 B 23 #[.slice A m c] (fun r H' => ∃ (gw gT gA cT cA : Nat) (gs : List Nat) (vs : List Value) (Z : List Chunk), r = .tuple #[.pointer (some ⟨gw, 0, none⟩), .nilIface] ∧ H.Sublist Z ∧ Wk (WH w0 B Z) ts gs (List.replicate m []) vs m ∧ H' = wC gw gT gA m cT cA 0 false :: tC gT m cT gs :: aC gA m cA vs :: Z) H := by
  have e12 : Value.bool (decide ((m : Int) = 0)) = .bool false := congrArg Value.bool (decide_eq_false (by omega))
  have e12b : Value.bool ((m : Int) == 0) = .bool false := congrArg Value.bool (by simp; omega)
  have e16 : Value.bool (decide ((m : Int) > 8)) = .bool false := congrArg Value.bool (decide_eq_false (by omega))
  refine TCall_intro (args := [_]) Tryd.func23 rfl Tryd.ntmps23 (Nat.le_of_ble_eq_true rfl) ?_
  refine T_seq ?_
  refine T_region ?_
  refine TL_p (PV_assign rfl) ?_
  refine TL_p (PV_assign rfl) ?_
  refine TL_nil ?_
  refine T_seq ?_
  refine T_seq ?_
  refine T_region ?_
  refine TL_p (PV_move rfl) ?_
  refine TL_p (PV_len_slice Tryd.underlying52 rfl) ?_
  refine TL_p (PV.cast (PV_bin rfl rfl bin_eql) e12b) ?_
  refine TL_p (PV_move rfl) ?_
  refine TL_yes rfl rfl rfl (TO_pure rfl (PV_move rfl) ?_)
  refine TL_yes rfl rfl rfl (TO_pure rfl (PV_len_slice Tryd.underlying52 rfl) ?_)
  refine TL_yes rfl rfl rfl (TO_pure rfl (PV.cast (PV_bin rfl rfl bin_gtr) e16) ?_)
  refine TL_p (PV_pickOr rfl rfl rfl) ?_
  refine TL_nil ?_
  refine T_else rfl (by rfl) ?_
  refine T_skip ?_
  refine T_seq ?_
  refine T_region ?_
  refine TL_p (PV_move rfl) ?_
  refine TL_p (PV_len_slice Tryd.underlying52 rfl) ?_
  refine TL_cons rfl (TO_make Tryd.underlying86 zb99 rfl (by omega) (by omega) rfl ⟨_, rfl⟩ ⟨_, rfl⟩ fun g1 => ?_)
  refine TL_p (PV_bld (cs := [_, _, _, _]) Tryd.underlying89 pl89 zr89 rfl rfl) ?_
  refine TL_cons rfl (TO_box rfl rfl fun g2 => ?_)
  refine TL_p (PV_assign rfl) ?_
  refine TL_nil ?_
  refine T_seq ?_
  refine T_seq ?_
  refine T_region ?_
  refine TL_p (PV_move rfl) ?_
  refine TL_p (PV_len_slice Tryd.underlying52 rfl) ?_
  refine TL_p (PV_move rfl) ?_
  refine TL_nil ?_
  refine T_block ?_
  refine ?L1
  case L1 =>
    refine T_addNil 1 ?_
    refine T_loopP5 (fun (j : Nat) (Aj : Option Addr) (cj : Nat) (gs : List Nat) (Z : List Chunk) => j ≤ m ∧ gs.length = j ∧ j ≤ cj ∧ H.Sublist Z ∧ ∀ i, i < j → Tab (WH w0 B Z) (gs.getD i 0) (ts.getD i .nothing)) (fun j _ _ _ _ => m - j) (fun j Aj cj gs Z => [(4, .pointer (some ⟨g2, 0, none⟩)), (24, .slice A m c), (25, .int .i64 (m : Int)), (26, .int .i64 (j : Int))]) (fun j Aj cj gs Z => .own g2 4 [.slice Aj j cj, .slice (some ⟨g1, 0, none⟩) m m, .int .i64 0, .bool false] :: .sl (.slice Aj j cj) 1 j (ptrs gs) :: .sl (.slice (some ⟨g1, 0, none⟩) m m) 1 m (List.replicate m (.slice none 0 0)) :: Z) 0 none 0 [] H ⟨Nat.zero_le _, rfl, Nat.le_refl _, List.Sublist.refl _, fun i hi => absurd hi (Nat.not_lt_zero i)⟩ (by repeat (first | exact FrSub.nil _ | refine FrSub.cons rfl ?_)) (Has.of_perm (List.Perm.swap _ _ _) (by repeat (first | exact Sb.r | exact Sb.ar | exact Sb.al | apply Sb.c | apply Sb.d | refine Sb.t ?_))) ?_
    rintro j Aj cj gs Z ⟨hj, hgl, hcj, hZ, hT⟩
    have hpl : (ptrs gs).length = j := by simp [ptrs, hgl]
    by_cases hjm : j < m
    · have e53 : Value.int .i64 (IntKind.i64.wrap ((j : Int) + 1)) = .int .i64 ((j + 1 : Nat) : Int) := wr64n _ (by push_cast; rfl) (by omega)
      obtain ⟨hu, hlen, ⟨e, hpar⟩, hnul, hplt, hnxt⟩ := hq j hjm
      obtain ⟨t, ht⟩ : ∃ t, ts.getD j .nothing = t := ⟨_, rfl⟩
      obtain ⟨q, hqe⟩ : ∃ q, qs.getD j [] = q := ⟨_, rfl⟩
      rw [ht] at hpar hnul hplt hnxt
      rw [hqe] at hpar hu hlen
      refine T_shows (hS.mono fun w h => h.sub (hZ.trans (by repeat (first | exact Sb.r | exact Sb.ar | exact Sb.al | apply Sb.d | refine Sb.t ?_)))) (by simp [strs, hqm]; omega) fun ga oa hA hr1 => ?_
      subst hA
      have hR1 : Rd _ ⟨ga, oa + j * 1, none⟩ (.string (strOfNums q)) := hr1 (j * 1) _ (by rw [← hqe]; exact strs_at (by rw [hqm]; exact hjm))
      have hem := fun {X : List Chunk} {g : Nat} (hT : Tab (WH w0 B X) g t) => (Empty_t (w0 := w0) (B := B) (H := X) hT).mono (R' := fun r H' => r = .bool false ∧ H' = X) fun r h q => ⟨by rw [← hnul]; exact q.1, q.2⟩
      refine T_seq ?_
      refine T_region ?_
      refine TL_p (PV_bin rfl rfl bin_lss) ?_
      refine TL_nil ?_
      refine T_seq ?_
      refine T_then rfl (by exact decide_eq_true (by omega)) ?_
      refine T_skip ?_
      refine T_seq ?_
      refine T_block ?_
      refine T_seq ?_
      refine T_region ?_
      refine TL_p (PV_indexAddr Tryd.underlying52 sz9 rfl rfl rfl (by first | omega | decide | assumption)) ?_
      refine TL_p (PV_load Tryd.underlying9 rfl rfl hR1) ?_
      refine TL_p (PV_assign rfl) ?_
      refine TL_nil ?_
      refine T_seq ?_
      refine T_region ?_
      refine TL_p (PV_move rfl) ?_
      refine TL_cons rfl (TO_parse hpar hu hlen rfl rfl rfl fun v32 N32 hv32 => ?_)
      refine TL_p (PV_move rfl) ?_
      refine TL_p (PV_extract rfl rfl) ?_
      refine TL_p (PV_extract rfl rfl) ?_
      refine TL_cons rfl (TO_alloc rfl zr30 fun g1002 => ?_)
      refine TL_cons rfl (TO_store 0 rfl rfl rfl sz30 rfl rfl rfl (all_one rfl) (by first | exact Nat.le_of_ble_eq_true rfl | (simp; done) | (simp; omega) | omega) ?_)
      refine TL_p (PV_assign rfl) ?_
      refine TL_nil ?_
      refine T_seq ?_
      refine T_seq ?_
      refine T_region ?_
      refine TL_p (PV_move rfl) ?_
      refine TL_p (PV_bin rfl rfl (bin_nil_nnil Tryd.underlying34)) ?_
      refine TL_nil ?_
      refine T_else rfl (by rfl) ?_
      refine T_skip ?_
      refine T_seq ?_
      refine T_region ?_
      refine TL_p (PV_loadAt Tryd.underlying30 rfl sz30 rfl (Rds.take 0 rfl rfl rfl)) ?_
      refine TL_cons rfl (TO_Of (hv32.mono fun w h => h.sub ((List.sublist_append_right _ N32).trans (by repeat (first | exact Sb.r | exact Sb.ar | exact Sb.al | apply Sb.d | refine Sb.t ?_)))) (by omega) (by omega) rfl rfl fun g39 N39 hT39 => ?_)
      refine TL_p (PV_assign rfl) ?_
      refine TL_nil ?_
      refine T_seq ?_
      refine T_seq ?_
      refine T_region ?_
      refine TL_p (PV_move rfl) ?_
      refine TL_cons rfl (TO_eqD call25 (hem (hT39.mono fun w h => h.sub (by repeat (first | exact Sb.r | exact Sb.ar | exact Sb.al | apply Sb.d | refine Sb.t ?_)))) rfl rfl _ (List.Sublist.refl _) ?_)
      refine TL_nil ?_
      refine T_else rfl (by rfl) ?_
      refine T_skip ?_
      refine T_region ?_
      refine TL_p (PV_move rfl) ?_
      refine TL_p (PV_move rfl) ?_
      refine TL_p (PV_nilCheck rfl) ?_
      refine TL_p (PV_fieldAddr (D := 0) Tryd.underlying89 rfl sz87 (by decide) rfl rfl) ?_
      refine TL_p (PV_load Tryd.underlying87 rfl rfl (Rd.at 1 rfl rfl)) ?_
      refine TL_p (PV_move rfl) ?_
      refine TL_cons rfl (TO_bs (cs := [_]) Tryd.underlying87 zs56 (by decide) rfl rfl rfl rfl rfl rfl fun g1006 => ?_)
      refine TL_cons rfl (TO_append 3 rfl Tryd.underlying87 zb56 rfl (by decide) rfl rfl rfl (Shows.at 0 rfl) ?oc1007q48 ?bb1007q48 ?bc1007q48 fun A1007 c1007 hc1007 => ?_)
      case oc1007q48 => (simp [Value.oneCell'])
      case bb1007q48 => omega
      case bc1007q48 => omega
      refine TL_p (PV_nilCheck rfl) ?_
      refine TL_p (PV_fieldAddr (D := 0) Tryd.underlying89 rfl sz87 (by decide) rfl rfl) ?_
      refine TL_cons rfl (TO_store1 2 rfl rfl rfl sz87 rfl rfl rfl (by first | exact Nat.le_of_ble_eq_true rfl | (simp; done) | (simp; omega) | omega) ?_)
      refine TL_nil ?_
      refine T_region ?_
      refine TL_p (PV.cast (PV_bin rfl rfl bin_add) e53) ?_
      refine TL_p (PV_move rfl) ?_
      refine TL_nil ?_
      refine ?L11
      case L11 =>
        have hpp : ptrs (gs ++ [g39]) = ptrs gs ++ [.pointer (some ⟨g39, 0, none⟩)] := by simp [ptrs]
        refine ⟨j + 1, A1007, c1007, gs ++ [g39], (Z ++ N32) ++ N39, ⟨by omega, by simp [hgl], by omega, hZ.trans ((List.sublist_append_left _ _).trans (List.sublist_append_left _ _)), fun i hi => ?_⟩, by omega, (by repeat (first | exact FrSub.nil _ | refine FrSub.cons rfl ?_)), ?_⟩
        · rcases Nat.lt_or_ge i j with h | h
          · rw [show (gs ++ [g39]).getD i 0 = gs.getD i 0 by simp [List.getD_eq_getElem?_getD, List.getElem?_append_left (show i < gs.length by omega)]]
            exact (hT i h).mono fun w h => h.sub ((List.sublist_append_left _ _).trans (List.sublist_append_left _ _))
          · obtain rfl : i = j := by omega
            rw [show (gs ++ [g39]).getD i 0 = g39 by simp [List.getD_eq_getElem?_getD, ← hgl], ht]
            exact hT39.mono fun w h => h.sub (List.sublist_append_right _ _)
        · rw [hpp]
          exact Has.of_sub (by repeat (first | exact Sb.r | exact Sb.ar | exact Sb.al | apply Sb.c | apply Sb.d | refine Sb.t ?_))
    · obtain rfl : j = m := by omega
      refine T_slA 1 rfl (by omega) fun gT hA => ?_
      subst hA
      have hWk : Wk (WH w0 B Z) ts gs (List.replicate j []) (List.replicate j (.slice none 0 0)) j := by
        refine ⟨htl, hgl, List.length_replicate, List.length_replicate, hT, fun i hi => by have := (hq i hi).pl; omega, fun i hi => ⟨none, 0, 0, by simp [hi], by simp [List.getD_eq_getElem?_getD, hi], Nat.le_refl _, by omega, ?_⟩⟩
        rw [show (List.replicate j ([] : List Bool)).getD i [] = [] by simp [List.getD_eq_getElem?_getD, hi]]
        exact Shows.nil
      refine T_seq ?_
      refine T_region ?_
      refine TL_p (PV_bin rfl rfl bin_lss) ?_
      refine TL_nil ?_
      refine T_seq ?_
      refine T_else rfl (by (simp; done)) ?_
      refine T_exit ?_
      refine T_seq ?_
      refine T_region ?_
      refine TL_p (PV_move rfl) ?_
      refine TL_p (PV_assign rfl) ?_
      refine TL_p (PV_assign rfl) ?_
      refine TL_nil ?_
      refine T_ret ?_
      refine ret_ret (ResV_two rfl rfl rfl) ⟨_, List.Sublist.refl _, ⟨_, _, _, _, _, _, _, _, rfl, ?sd2001q71_0, ?sd2001q71_1, rfl⟩⟩
      case sd2001q71_0 => exact hZ
      case sd2001q71_1 => exact hWk
end
end Go.Proofs.YtijpbpnfachlkaaDoor.SL
