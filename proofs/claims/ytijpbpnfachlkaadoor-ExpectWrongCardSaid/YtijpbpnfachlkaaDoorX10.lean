import Derived.Test.YtijpbpnfachlkaaDoorX9
import Derived.Test.YtijpbpnfachlkaaDoorE3
/- What can't be waited for is told: the law. No statement is proved here. -/
set_option linter.unusedVariables false
set_option linter.unusedSimpArgs false
set_option maxRecDepth 100000
set_option maxHeartbeats 8000000
namespace Go.Proofs.YtijpbpnfachlkaaDoor.SL
open Go Go.RowKit
theorem first_bad (p : Nat → Prop) : ∀ m, (∀ i, i < m → p i) ∨ ∃ k, k < m ∧ (∀ i, i < k → p i) ∧ ¬ p k
  | 0 => .inl fun i hi => absurd hi (Nat.not_lt_zero i)
  | m + 1 => by
    rcases first_bad p m with h | ⟨k, h1, h2, h3⟩
    · by_cases hm : p m
      · exact .inl fun i hi => by
          rcases Nat.lt_or_ge i m with h' | h'
          · exact h i h'
          · obtain rfl : i = m := by omega
            exact hm
      · exact .inr ⟨m, by omega, h, hm⟩
    · exact .inr ⟨k, by omega, h2, h3⟩
theorem trees_of {qs : List (List Int)} : ∀ k, (∀ i, i < k → ∃ t, PatOk (qs.getD i []) t) → ∃ ts : List Rx, ts.length = k ∧ ∀ i, i < k → PatOk (qs.getD i []) (ts.getD i .nothing)
  | 0, h => ⟨[], rfl, fun i hi => absurd hi (Nat.not_lt_zero i)⟩
  | k + 1, h => by
    obtain ⟨ts, hl, hq⟩ := trees_of k fun i hi => h i (by omega)
    obtain ⟨t, ht⟩ := h k (by omega)
    refine ⟨ts ++ [t], by simp [hl], fun i hi => ?_⟩
    rcases Nat.lt_or_ge i k with h' | h'
    · rw [show (ts ++ [t]).getD i .nothing = ts.getD i .nothing by simp [List.getD_eq_getElem?_getD, List.getElem?_append_left (show i < ts.length by omega)]]
      exact hq i h'
    · obtain rfl : i = k := by omega
      rw [show (ts ++ [t]).getD i .nothing = t by simp [List.getD_eq_getElem?_getD, ← hl]]
      exact ht
theorem bad_of {q : List Int} (hu : U8s q) (h : ¬ ∃ t, PatOk q t) : ∃ ev, BadPat q ev := by
  cases pat_all hu with
  | long h1 => exact ⟨_, .long h1⟩
  | bad p j h1 hp => exact ⟨_, .bad p j h1 hp⟩
  | nul t j h1 hp hn => exact ⟨_, .nul t j h1 hp hn⟩
  | ok t ht => exact absurd ⟨t, ht⟩ h
section
variable {w0 : World} {B n : Nat} {H : List Chunk}
theorem ExpectWrong_t (hL : Laid w0) (hB0 : 0 < B) {A : Option Addr} {m c : Nat} {qs : List (List Int)} (hS : Shows (WH w0 B H) A m 1 (strs qs)) (hqm : qs.length = m) (hc : m ≤ c) (hm : m ≤ 9223372036854775807) (hu : ∀ q ∈ qs, U8s q) (hln : ∀ q ∈ qs, q.length ≤ 9223372036854775807) :
    TCall Tryd.prog w0 B 8 #[.slice A m c] (fun r H' => r = .bool true ∧ H' = H) H := by
  by_cases hm8 : m = 0 ∨ 8 < m
  · have hof := OfE_t (w0 := w0) (B := B) (H := H) (A := A) (c := c) hm8 hm
    have hz : m = 0 ∨ m ≠ 0 := by omega
    rcases hz with rfl | hz
    · refine TCall_intro (args := [_]) Tryd.func8 rfl Tryd.ntmps8 (Nat.le_of_ble_eq_true rfl) ?_
      refine T_seq ?_
      refine T_region ?_
      refine TL_p (PV_assign rfl) ?_
      refine TL_nil ?_
      refine T_seq ?_
      refine T_seq ?_
      refine T_region ?_
      refine TL_cons rfl (TO_call0 call22 rfl rfl (awake09s) ?_)
      rintro v9_3 H9_3 ⟨rfl, rfl⟩
      refine TL_p (PV_not rfl) ?_
      refine TL_nil ?_
      refine T_else rfl (by rfl) ?_
      refine T_skip ?_
      refine T_seq ?_
      refine T_region ?_
      refine TL_p (PV_move rfl) ?_
      refine TL_cons rfl (TO_eqD call23 hof rfl rfl _ (List.Sublist.refl _) ?_)
      refine TL_p (PV_move rfl) ?_
      refine TL_p (PV_extract rfl rfl) ?_
      refine TL_p (PV_extract rfl rfl) ?_
      refine TL_p (PV_assign rfl) ?_
      refine TL_p (PV_assign rfl) ?_
      refine TL_nil ?_
      refine T_seq ?_
      refine T_seq ?_
      refine T_region ?_
      refine TL_p (PV_move rfl) ?_
      refine TL_p (PV_len_slice Tryd.underlying52 rfl) ?_
      refine TL_p (PV_bin rfl rfl bin_eql) ?_
      refine TL_p (PV_move rfl) ?_
      refine TL_no (b := true) rfl rfl rfl rfl ?_
      refine TL_no (b := true) rfl rfl rfl rfl ?_
      refine TL_no (b := true) rfl rfl rfl rfl ?_
      refine TL_p (PV_pickT rfl (by first | assumption | rfl | (simp; done) | (simp; omega) | (simp [*]; done) | (simp [*]; omega)) rfl rfl) ?_
      refine TL_nil ?_
      refine T_then rfl (by rfl) ?_
      refine T_seq ?_
      refine T_region ?_
      refine TL_p (PV_move rfl) ?_
      refine TL_p (PV_bin rfl rfl (bin_nilptr_nil Tryd.underlying53)) ?_
      refine TL_p (PV_move rfl) ?_
      refine TL_yes rfl rfl rfl (TO_pure rfl (PV_move rfl) ?_)
      refine TL_yes rfl rfl rfl (TO_call0 call13 rfl rfl (number_t ?sd6q49_0 ?sd6q49_1 _) ?_)
      case sd6q49_0 => exact hL
      case sd6q49_1 => exact hB0
      rintro v28_7 H28_7 ⟨rfl, rfl⟩
      refine TL_yes rfl rfl rfl (TO_pure rfl (PV_bin rfl rfl bin_eql) ?_)
      refine TL_p (PV_pickAnd rfl rfl rfl) ?_
      refine TL_p (PV_assign rfl) ?_
      refine TL_nil ?_
      refine T_ret ?_
      refine ret_ret (ResV_one rfl rfl) ⟨_, List.Sublist.refl _, ⟨rfl, rfl⟩⟩
      all_goals exact T_ret (ret_ret (ResV_one rfl rfl) ⟨H, (by repeat (first | exact Sb.r | exact Sb.ar | exact Sb.al | apply Sb.c | apply Sb.d | refine Sb.t ?_)), rfl, rfl⟩)
    · have e18 : Value.bool ((m : Int) == 0) = .bool false := congrArg Value.bool (by simp; omega)
      have e22 : Value.bool (decide ((m : Int) > 8)) = .bool true := congrArg Value.bool (decide_eq_true (by omega))
      refine TCall_intro (args := [_]) Tryd.func8 rfl Tryd.ntmps8 (Nat.le_of_ble_eq_true rfl) ?_
      refine T_seq ?_
      refine T_region ?_
      refine TL_p (PV_assign rfl) ?_
      refine TL_nil ?_
      refine T_seq ?_
      refine T_seq ?_
      refine T_region ?_
      refine TL_cons rfl (TO_call0 call22 rfl rfl (awake09s) ?_)
      rintro v9_1003 H9_1003 ⟨rfl, rfl⟩
      refine TL_p (PV_not rfl) ?_
      refine TL_nil ?_
      refine T_else rfl (by rfl) ?_
      refine T_skip ?_
      refine T_seq ?_
      refine T_region ?_
      refine TL_p (PV_move rfl) ?_
      refine TL_cons rfl (TO_eqD call23 hof rfl rfl _ (List.Sublist.refl _) ?_)
      refine TL_p (PV_move rfl) ?_
      refine TL_p (PV_extract rfl rfl) ?_
      refine TL_p (PV_extract rfl rfl) ?_
      refine TL_p (PV_assign rfl) ?_
      refine TL_p (PV_assign rfl) ?_
      refine TL_nil ?_
      refine T_seq ?_
      refine T_seq ?_
      refine T_region ?_
      refine TL_p (PV_move rfl) ?_
      refine TL_p (PV_len_slice Tryd.underlying52 rfl) ?_
      refine TL_p (PV.cast (PV_bin rfl rfl bin_eql) e18) ?_
      refine TL_p (PV_move rfl) ?_
      refine TL_yes rfl rfl rfl (TO_pure rfl (PV_move rfl) ?_)
      refine TL_yes rfl rfl rfl (TO_pure rfl (PV_len_slice Tryd.underlying52 rfl) ?_)
      refine TL_yes rfl rfl rfl (TO_pure rfl (PV.cast (PV_bin rfl rfl bin_gtr) e22) ?_)
      refine TL_p (PV_pickOr rfl rfl rfl) ?_
      refine TL_nil ?_
      refine T_then rfl (by rfl) ?_
      refine T_seq ?_
      refine T_region ?_
      refine TL_p (PV_move rfl) ?_
      refine TL_p (PV_bin rfl rfl (bin_nilptr_nil Tryd.underlying53)) ?_
      refine TL_p (PV_move rfl) ?_
      refine TL_yes rfl rfl rfl (TO_pure rfl (PV_move rfl) ?_)
      refine TL_yes rfl rfl rfl (TO_call0 call13 rfl rfl (number_t ?sd1006q55_0 ?sd1006q55_1 _) ?_)
      case sd1006q55_0 => exact hL
      case sd1006q55_1 => exact hB0
      rintro v28_1007 H28_1007 ⟨rfl, rfl⟩
      refine TL_yes rfl rfl rfl (TO_pure rfl (PV_bin rfl rfl bin_eql) ?_)
      refine TL_p (PV_pickAnd rfl rfl rfl) ?_
      refine TL_p (PV_assign rfl) ?_
      refine TL_nil ?_
      refine T_ret ?_
      refine ret_ret (ResV_one rfl rfl) ⟨_, List.Sublist.refl _, ⟨rfl, rfl⟩⟩
      all_goals exact T_ret (ret_ret (ResV_one rfl rfl) ⟨H, (by repeat (first | exact Sb.r | exact Sb.ar | exact Sb.al | apply Sb.c | apply Sb.d | refine Sb.t ?_)), rfl, rfl⟩)
  · have e18 : Value.bool ((m : Int) == 0) = .bool false := congrArg Value.bool (by simp; omega)
    have e22 : Value.bool (decide ((m : Int) > 8)) = .bool false := congrArg Value.bool (decide_eq_false (by omega))
    have hmem : ∀ i, i < m → qs.getD i [] ∈ qs := fun i hi => by
      rw [List.getD_eq_getElem?_getD, List.getElem?_eq_getElem (by omega)]
      exact List.getElem_mem _
    rcases first_bad (fun i => ∃ t, PatOk (qs.getD i []) t) m with hall | ⟨k, hk, hok, hbad⟩
    · obtain ⟨ts, htl, hq⟩ := trees_of m hall
      refine TCall_intro (args := [_]) Tryd.func8 rfl Tryd.ntmps8 (Nat.le_of_ble_eq_true rfl) ?_
      refine T_seq ?_
      refine T_region ?_
      refine TL_p (PV_assign rfl) ?_
      refine TL_nil ?_
      refine T_seq ?_
      refine T_seq ?_
      refine T_region ?_
      refine TL_cons rfl (TO_call0 call22 rfl rfl (awake09s) ?_)
      rintro v9_2003 H9_2003 ⟨rfl, rfl⟩
      refine TL_p (PV_not rfl) ?_
      refine TL_nil ?_
      refine T_else rfl (by rfl) ?_
      refine T_skip ?_
      refine T_seq ?_
      refine T_region ?_
      refine TL_p (PV_move rfl) ?_
      refine TL_cons rfl (TO_OfW hS hqm (by omega) (by omega) hc htl hq rfl rfl fun gw gT gA cT cA gs vs Z hZ hW => ?_)
      refine TL_p (PV_move rfl) ?_
      refine TL_p (PV_extract rfl rfl) ?_
      refine TL_p (PV_extract rfl rfl) ?_
      refine TL_p (PV_assign rfl) ?_
      refine TL_p (PV_assign rfl) ?_
      refine TL_nil ?_
      refine T_seq ?_
      refine T_seq ?_
      refine T_region ?_
      refine TL_p (PV_move rfl) ?_
      refine TL_p (PV_len_slice Tryd.underlying52 rfl) ?_
      refine TL_p (PV.cast (PV_bin rfl rfl bin_eql) e18) ?_
      refine TL_p (PV_move rfl) ?_
      refine TL_yes rfl rfl rfl (TO_pure rfl (PV_move rfl) ?_)
      refine TL_yes rfl rfl rfl (TO_pure rfl (PV_len_slice Tryd.underlying52 rfl) ?_)
      refine TL_yes rfl rfl rfl (TO_pure rfl (PV.cast (PV_bin rfl rfl bin_gtr) e22) ?_)
      refine TL_p (PV_pickOr rfl rfl rfl) ?_
      refine TL_nil ?_
      refine T_else rfl (by rfl) ?_
      refine T_skip ?_
      refine T_seq ?_
      refine T_seq ?_
      refine T_region ?_
      refine TL_p (PV_move rfl) ?_
      refine TL_p (PV_len_slice Tryd.underlying52 rfl) ?_
      refine TL_p (PV_move rfl) ?_
      refine TL_nil ?_
      refine T_block ?_
      refine ?L21
      case L21 =>
        refine T_addNil 1 ?_
        refine T_loopP1 (fun (j : Nat) => j ≤ m) (fun j => m - j) (fun j => [(3, .pointer (some ⟨gw, 0, none⟩)), (4, .nilIface), (31, .slice A m c), (32, .int .i64 (m : Int)), (33, .int .i64 (j : Int))]) (fun j => wC gw gT gA m cT cA 0 false :: Z) 0 (Nat.zero_le _) (by repeat (first | exact FrSub.nil _ | refine FrSub.cons rfl ?_)) (Has.of_sub (by repeat (first | exact Sb.r | exact Sb.ar | exact Sb.al | apply Sb.c | apply Sb.d | refine Sb.t ?_))) ?_
        rintro j hj
        by_cases hjm : j < m
        · have e75 : Value.int .i64 (IntKind.i64.wrap ((j : Int) + 1)) = .int .i64 ((j + 1 : Nat) : Int) := wr64n _ (by push_cast; rfl) (by omega)
          refine T_shows (hS.mono fun w h => h.sub (hZ.trans (by repeat (first | exact Sb.r | exact Sb.ar | exact Sb.al | apply Sb.d | refine Sb.t ?_)))) (by simp [strs, hqm]; omega) fun ga oa hA hr1 => ?_
          subst hA
          obtain ⟨hu2, hlen2, ⟨e, hpar⟩, hnul, hplt, hnxt⟩ := hq j hjm
          obtain ⟨t, ht⟩ : ∃ t, ts.getD j .nothing = t := ⟨_, rfl⟩
          obtain ⟨q, hqe⟩ : ∃ q, qs.getD j [] = q := ⟨_, rfl⟩
          rw [ht] at hpar hnul hplt hnxt
          rw [hqe] at hpar hu2 hlen2
          have hR1 : Rd _ ⟨ga, oa + j * 1, none⟩ (.string (strOfNums q)) := hr1 (j * 1) _ (by rw [← hqe]; exact strs_at (by rw [hqm]; exact hjm))
          have hem := fun {X : List Chunk} {g : Nat} (hT : Tab (WH w0 B X) g t) => (Empty_t (w0 := w0) (B := B) (H := X) hT).mono (R' := fun r H' => r = .bool false ∧ H' = X) fun r h q => ⟨by rw [← hnul]; exact q.1, q.2⟩
          refine T_seq ?_
          refine T_region ?_
          refine TL_p (PV_bin rfl rfl bin_lss) ?_
          refine TL_nil ?_
          refine T_seq ?_
          refine T_then rfl (by exact decide_eq_true (by omega)) ?_
          refine T_skip ?_
          refine T_seq ?_
          refine T_block ?_
          refine T_seq ?_
          refine T_region ?_
          refine TL_p (PV_indexAddr Tryd.underlying52 sz9 rfl rfl rfl (by first | omega | decide | assumption)) ?_
          refine TL_p (PV_load Tryd.underlying9 rfl rfl hR1) ?_
          refine TL_p (PV_assign rfl) ?_
          refine TL_nil ?_
          refine T_seq ?_
          refine T_region ?_
          refine TL_p (PV_move rfl) ?_
          refine TL_cons rfl (TO_parse hpar hu2 hlen2 rfl rfl rfl fun v39 N39 hv39 => ?_)
          refine TL_p (PV_move rfl) ?_
          refine TL_p (PV_extract rfl rfl) ?_
          refine TL_p (PV_extract rfl rfl) ?_
          refine TL_cons rfl (TO_alloc rfl zr30 fun g3002 => ?_)
          refine TL_cons rfl (TO_store 0 rfl rfl rfl sz30 rfl rfl rfl (all_one rfl) (by first | exact Nat.le_of_ble_eq_true rfl | (simp; done) | (simp; omega) | omega) ?_)
          refine TL_p (PV_assign rfl) ?_
          refine TL_nil ?_
          refine T_seq ?_
          refine T_seq ?_
          refine T_region ?_
          refine TL_p (PV_move rfl) ?_
          refine TL_p (PV_bin rfl rfl (bin_nil_nnil Tryd.underlying34)) ?_
          refine TL_nil ?_
          refine T_else rfl (by rfl) ?_
          refine T_skip ?_
          refine T_seq ?_
          refine T_region ?_
          refine TL_p (PV_loadAt Tryd.underlying30 rfl sz30 rfl (Rds.take 0 rfl rfl rfl)) ?_
          refine TL_cons rfl (TO_Of (hv39.mono fun w h => h.sub ((List.sublist_append_right _ N39).trans (by repeat (first | exact Sb.r | exact Sb.ar | exact Sb.al | apply Sb.d | refine Sb.t ?_)))) (by omega) (by omega) rfl rfl fun g61 N61 hT61 => ?_)
          refine TL_cons rfl (TO_eqD call25 (hem (hT61.mono fun w h => h.sub (by repeat (first | exact Sb.r | exact Sb.ar | exact Sb.al | apply Sb.d | refine Sb.t ?_)))) rfl rfl _ (List.Sublist.refl _) ?_)
          refine TL_nil ?_
          refine T_else rfl (by rfl) ?_
          refine T_skip ?_
          refine T_region ?_
          refine TL_p (PV.cast (PV_bin rfl rfl bin_add) e75) ?_
          refine TL_p (PV_move rfl) ?_
          refine TL_nil ?_
          refine ?L31
          all_goals exact ⟨j + 1, by omega, by omega, (by repeat (first | exact FrSub.nil _ | refine FrSub.cons rfl ?_)), Has.of_sub (by repeat (first | exact Sb.r | exact Sb.ar | exact Sb.al | apply Sb.c | apply Sb.d | refine Sb.t ?_))⟩
        · obtain rfl : j = m := by omega
          refine T_seq ?_
          refine T_region ?_
          refine TL_p (PV_bin rfl rfl bin_lss) ?_
          refine TL_nil ?_
          refine T_seq ?_
          refine T_else rfl (by (simp; done)) ?_
          refine T_exit ?_
          refine T_seq ?_
          refine T_region ?_
          refine TL_p (PV_move rfl) ?_
          refine TL_p (PV_bin rfl rfl (bin_nil_nil Tryd.underlying34)) ?_
          refine TL_p (PV_move rfl) ?_
          refine TL_yes rfl rfl rfl (TO_pure rfl (PV_move rfl) ?_)
          refine TL_yes rfl rfl rfl (TO_pure rfl (PV_bin rfl rfl (bin_ptr_nnil Tryd.underlying53)) ?_)
          refine TL_p (PV_pickAnd rfl rfl rfl) ?_
          refine TL_p (PV_move rfl) ?_
          refine TL_yes rfl rfl rfl (TO_pure rfl (PV_move rfl) ?_)
          refine TL_yes rfl rfl rfl (TO_call0 call26 rfl rfl (Seen_t) ?_)
          rintro v84_6003 H84_6003 ⟨rfl, rfl⟩
          refine TL_yes rfl rfl rfl (TO_pure rfl (PV_bin rfl rfl bin_eql) ?_)
          refine TL_p (PV_pickAnd rfl rfl rfl) ?_
          refine TL_p (PV_move rfl) ?_
          refine TL_yes rfl rfl rfl (TO_pure rfl (PV_move rfl) ?_)
          refine TL_yes rfl rfl rfl (TO_call0 call27 rfl rfl (Over_t) ?_)
          rintro v89_6006 H89_6006 ⟨rfl, rfl⟩
          refine TL_yes rfl rfl rfl (TO_pure rfl (PV_not rfl) ?_)
          refine TL_p (PV_pickAnd rfl rfl rfl) ?_
          refine TL_p (PV_assign rfl) ?_
          refine TL_nil ?_
          refine ?L61
          all_goals exact T_ret (ret_ret (ResV_one rfl rfl) ⟨H, hZ.trans (by repeat (first | exact Sb.r | exact Sb.ar | exact Sb.al | apply Sb.d | refine Sb.t ?_)), rfl, rfl⟩)
    · obtain ⟨ts, htl, hq⟩ := trees_of k hok
      have huk := hu _ (hmem k hk)
      have hlk := hln _ (hmem k hk)
      obtain ⟨ev, hev⟩ := bad_of huk hbad
      have hof := OfN_t (w0 := w0) (B := B) (H := H) (ts := ts) hS hqm hk (by omega) hc hq huk hlk hev
      refine TCall_intro (args := [_]) Tryd.func8 rfl Tryd.ntmps8 (Nat.le_of_ble_eq_true rfl) ?_
      refine T_seq ?_
      refine T_region ?_
      refine TL_p (PV_assign rfl) ?_
      refine TL_nil ?_
      refine T_seq ?_
      refine T_seq ?_
      refine T_region ?_
      refine TL_cons rfl (TO_call0 call22 rfl rfl (awake09s) ?_)
      rintro v9_10003 H9_10003 ⟨rfl, rfl⟩
      refine TL_p (PV_not rfl) ?_
      refine TL_nil ?_
      refine T_else rfl (by rfl) ?_
      refine T_skip ?_
      refine T_seq ?_
      refine T_region ?_
      refine TL_p (PV_move rfl) ?_
      refine TL_cons rfl (TO_eqD call23 hof rfl rfl _ (List.Sublist.refl _) ?_)
      refine TL_p (PV_move rfl) ?_
      refine TL_p (PV_extract rfl rfl) ?_
      refine TL_p (PV_extract rfl rfl) ?_
      refine TL_p (PV_assign rfl) ?_
      refine TL_p (PV_assign rfl) ?_
      refine TL_nil ?_
      refine T_seq ?_
      refine T_seq ?_
      refine T_region ?_
      refine TL_p (PV_move rfl) ?_
      refine TL_p (PV_len_slice Tryd.underlying52 rfl) ?_
      refine TL_p (PV.cast (PV_bin rfl rfl bin_eql) e18) ?_
      refine TL_p (PV_move rfl) ?_
      refine TL_yes rfl rfl rfl (TO_pure rfl (PV_move rfl) ?_)
      refine TL_yes rfl rfl rfl (TO_pure rfl (PV_len_slice Tryd.underlying52 rfl) ?_)
      refine TL_yes rfl rfl rfl (TO_pure rfl (PV.cast (PV_bin rfl rfl bin_gtr) e22) ?_)
      refine TL_p (PV_pickOr rfl rfl rfl) ?_
      refine TL_nil ?_
      refine T_else rfl (by rfl) ?_
      refine T_skip ?_
      refine T_seq ?_
      refine T_seq ?_
      refine T_region ?_
      refine TL_p (PV_move rfl) ?_
      refine TL_p (PV_len_slice Tryd.underlying52 rfl) ?_
      refine TL_p (PV_move rfl) ?_
      refine TL_nil ?_
      refine T_block ?_
      refine ?L101
      case L101 =>
        refine T_addNil 1 ?_
        refine T_loopP1 (fun (j : Nat) => j ≤ k) (fun j => k - j) (fun j => [(3, .pointer none), (4, ev), (31, .slice A m c), (32, .int .i64 (m : Int)), (33, .int .i64 (j : Int))]) (fun j => H) 0 (Nat.zero_le _) (by repeat (first | exact FrSub.nil _ | refine FrSub.cons rfl ?_)) (Has.of_sub (by repeat (first | exact Sb.r | exact Sb.ar | exact Sb.al | apply Sb.c | apply Sb.d | refine Sb.t ?_))) ?_
        rintro j hj
        have hjm : j < m := by omega
        have e75 : Value.int .i64 (IntKind.i64.wrap ((j : Int) + 1)) = .int .i64 ((j + 1 : Nat) : Int) := wr64n _ (by push_cast; rfl) (by omega)
        refine T_shows (hS.mono fun w h => h.sub (by repeat (first | exact Sb.r | exact Sb.ar | exact Sb.al | apply Sb.d | refine Sb.t ?_))) (by simp [strs, hqm]; omega) fun ga oa hA hr1 => ?_
        subst hA
        by_cases hjk : j < k
        · obtain ⟨hu2, hlen2, ⟨e, hpar⟩, hnul, hplt, hnxt⟩ := hq j hjk
          obtain ⟨t, ht⟩ : ∃ t, ts.getD j .nothing = t := ⟨_, rfl⟩
          obtain ⟨q, hqe⟩ : ∃ q, qs.getD j [] = q := ⟨_, rfl⟩
          rw [ht] at hpar hnul hplt hnxt
          rw [hqe] at hpar hu2 hlen2
          have hR1 : Rd _ ⟨ga, oa + j * 1, none⟩ (.string (strOfNums q)) := hr1 (j * 1) _ (by rw [← hqe]; exact strs_at (by rw [hqm]; exact hjm))
          have hem := fun {X : List Chunk} {g : Nat} (hT : Tab (WH w0 B X) g t) => (Empty_t (w0 := w0) (B := B) (H := X) hT).mono (R' := fun r H' => r = .bool false ∧ H' = X) fun r h q => ⟨by rw [← hnul]; exact q.1, q.2⟩
          refine T_seq ?_
          refine T_region ?_
          refine TL_p (PV_bin rfl rfl bin_lss) ?_
          refine TL_nil ?_
          refine T_seq ?_
          refine T_then rfl (by exact decide_eq_true (by omega)) ?_
          refine T_skip ?_
          refine T_seq ?_
          refine T_block ?_
          refine T_seq ?_
          refine T_region ?_
          refine TL_p (PV_indexAddr Tryd.underlying52 sz9 rfl rfl rfl (by first | omega | decide | assumption)) ?_
          refine TL_p (PV_load Tryd.underlying9 rfl rfl hR1) ?_
          refine TL_p (PV_assign rfl) ?_
          refine TL_nil ?_
          refine T_seq ?_
          refine T_region ?_
          refine TL_p (PV_move rfl) ?_
          refine TL_cons rfl (TO_parse hpar hu2 hlen2 rfl rfl rfl fun v39 N39 hv39 => ?_)
          refine TL_p (PV_move rfl) ?_
          refine TL_p (PV_extract rfl rfl) ?_
          refine TL_p (PV_extract rfl rfl) ?_
          refine TL_cons rfl (TO_alloc rfl zr30 fun g11002 => ?_)
          refine TL_cons rfl (TO_store 0 rfl rfl rfl sz30 rfl rfl rfl (all_one rfl) (by first | exact Nat.le_of_ble_eq_true rfl | (simp; done) | (simp; omega) | omega) ?_)
          refine TL_p (PV_assign rfl) ?_
          refine TL_nil ?_
          refine T_seq ?_
          refine T_seq ?_
          refine T_region ?_
          refine TL_p (PV_move rfl) ?_
          refine TL_p (PV_bin rfl rfl (bin_nil_nnil Tryd.underlying34)) ?_
          refine TL_nil ?_
          refine T_else rfl (by rfl) ?_
          refine T_skip ?_
          refine T_seq ?_
          refine T_region ?_
          refine TL_p (PV_loadAt Tryd.underlying30 rfl sz30 rfl (Rds.take 0 rfl rfl rfl)) ?_
          refine TL_cons rfl (TO_Of (hv39.mono fun w h => h.sub ((List.sublist_append_right _ N39).trans (by repeat (first | exact Sb.r | exact Sb.ar | exact Sb.al | apply Sb.d | refine Sb.t ?_)))) (by omega) (by omega) rfl rfl fun g61 N61 hT61 => ?_)
          refine TL_cons rfl (TO_eqD call25 (hem (hT61.mono fun w h => h.sub (by repeat (first | exact Sb.r | exact Sb.ar | exact Sb.al | apply Sb.d | refine Sb.t ?_)))) rfl rfl _ (List.Sublist.refl _) ?_)
          refine TL_nil ?_
          refine T_else rfl (by rfl) ?_
          refine T_skip ?_
          refine T_region ?_
          refine TL_p (PV.cast (PV_bin rfl rfl bin_add) e75) ?_
          refine TL_p (PV_move rfl) ?_
          refine TL_nil ?_
          refine ?L111
          all_goals exact ⟨j + 1, by omega, by omega, (by repeat (first | exact FrSub.nil _ | refine FrSub.cons rfl ?_)), Has.of_sub (by repeat (first | exact Sb.r | exact Sb.ar | exact Sb.al | apply Sb.c | apply Sb.d | refine Sb.t ?_))⟩
        · obtain rfl : j = k := by omega
          obtain ⟨q, hqe⟩ : ∃ q, qs.getD j [] = q := ⟨_, rfl⟩
          rw [hqe] at huk hlk hev
          have hR1 : Rd _ ⟨ga, oa + j * 1, none⟩ (.string (strOfNums q)) := hr1 (j * 1) _ (by rw [← hqe]; exact strs_at (by rw [hqm]; exact hjm))
          clear hof
          cases hev with
          | long hl =>
            unfold errF
            refine T_seq ?_
            refine T_region ?_
            refine TL_p (PV_bin rfl rfl bin_lss) ?_
            refine TL_nil ?_
            refine T_seq ?_
            refine T_then rfl (by exact decide_eq_true (by omega)) ?_
            refine T_skip ?_
            refine T_seq ?_
            refine T_block ?_
            refine T_seq ?_
            refine T_region ?_
            refine TL_p (PV_indexAddr Tryd.underlying52 sz9 rfl rfl rfl (by first | omega | decide | assumption)) ?_
            refine TL_p (PV_load Tryd.underlying9 rfl rfl hR1) ?_
            refine TL_p (PV_assign rfl) ?_
            refine TL_nil ?_
            refine T_seq ?_
            refine T_region ?_
            refine TL_p (PV_move rfl) ?_
            refine TL_cons rfl (TO_parseL hl hlk rfl rfl rfl ?_)
            refine TL_p (PV_move rfl) ?_
            refine TL_p (PV_extract rfl rfl) ?_
            refine TL_p (PV_extract rfl rfl) ?_
            refine TL_cons rfl (TO_alloc rfl zr30 fun g12002 => ?_)
            refine TL_cons rfl (TO_store 0 rfl rfl rfl sz30 rfl rfl rfl (all_one rfl) (by first | exact Nat.le_of_ble_eq_true rfl | (simp; done) | (simp; omega) | omega) ?_)
            refine TL_p (PV_assign rfl) ?_
            refine TL_nil ?_
            refine T_seq ?_
            refine T_seq ?_
            refine T_region ?_
            refine TL_p (PV_move rfl) ?_
            refine TL_p (PV_bin rfl rfl (bin_if_nnil Tryd.underlying34)) ?_
            refine TL_nil ?_
            refine T_then rfl (by rfl) ?_
            refine T_seq ?_
            refine T_region ?_
            refine TL_p (PV_move rfl) ?_
            refine TL_p (PV_bin rfl rfl (bin_nilptr_nil Tryd.underlying53)) ?_
            refine TL_p (PV_move rfl) ?_
            refine TL_yes rfl rfl rfl (TO_pure rfl (PV_move rfl) ?_)
            refine TL_yes rfl rfl rfl (TO_call0 call13 rfl rfl (numberF_t ?sd12005q140_0 ?sd12005q140_1 _ _) ?_)
            case sd12005q140_0 => exact hL
            case sd12005q140_1 => exact hB0
            rintro v48_12006 H48_12006 ⟨rfl, rfl⟩
            refine TL_yes rfl rfl rfl (TO_pure rfl (PV_move rfl) ?_)
            refine TL_yes rfl rfl rfl (TO_call0 call13 rfl rfl (numberF_t ?sd12008q140_0 ?sd12008q140_1 _ _) ?_)
            case sd12008q140_0 => exact hL
            case sd12008q140_1 => exact hB0
            rintro v50_12009 H50_12009 ⟨rfl, rfl⟩
            refine TL_yes rfl rfl rfl (TO_pure rfl (PV_bin rfl rfl bin_eql) ?_)
            refine TL_p (PV_pickAnd rfl rfl rfl) ?_
            refine TL_p (PV_move rfl) ?_
            refine TL_yes rfl rfl rfl (TO_pure rfl (PV_move rfl) ?_)
            refine TL_yes rfl rfl rfl (TO_call0 call14 rfl rfl (placeF_t ?sd12011q140_0 ?sd12011q140_1 _ _) ?_)
            case sd12011q140_0 => exact hL
            case sd12011q140_1 => exact hB0
            rintro v55_12012 H55_12012 ⟨rfl, rfl⟩
            refine TL_yes rfl rfl rfl (TO_pure rfl (PV_move rfl) ?_)
            refine TL_yes rfl rfl rfl (TO_call0 call14 rfl rfl (placeF_t ?sd12014q140_0 ?sd12014q140_1 _ _) ?_)
            case sd12014q140_0 => exact hL
            case sd12014q140_1 => exact hB0
            rintro v57_12015 H57_12015 ⟨rfl, rfl⟩
            refine TL_yes rfl rfl rfl (TO_pure rfl (PV_bin rfl rfl bin_eql) ?_)
            refine TL_p (PV_pickAnd rfl rfl rfl) ?_
            refine TL_p (PV_assign rfl) ?_
            refine TL_nil ?_
            refine T_ret ?_
            refine ret_ret (ResV_one rfl rfl) ⟨_, ?zb12016q140, ⟨rfl, rfl⟩⟩
            case zb12016q140 => exact (by (repeat (first | exact Sb.r | exact Sb.ar | exact Sb.al | apply Sb.c | apply Sb.d | refine Sb.t ?_)); done)
            all_goals exact T_ret (ret_ret (ResV_one rfl rfl) ⟨H, (by repeat (first | exact Sb.r | exact Sb.ar | exact Sb.al | apply Sb.c | apply Sb.d | refine Sb.t ?_)), rfl, rfl⟩)
          | bad p e hl hp =>
            have e51 : Value.bool ((8 : Int) == 8) = .bool true := rfl
            have e58 : Value.bool (((p : Nat) : Int) == ((p : Nat) : Int)) = .bool true := by simp
            unfold errF
            refine T_seq ?_
            refine T_region ?_
            refine TL_p (PV_bin rfl rfl bin_lss) ?_
            refine TL_nil ?_
            refine T_seq ?_
            refine T_then rfl (by exact decide_eq_true (by omega)) ?_
            refine T_skip ?_
            refine T_seq ?_
            refine T_block ?_
            refine T_seq ?_
            refine T_region ?_
            refine TL_p (PV_indexAddr Tryd.underlying52 sz9 rfl rfl rfl (by first | omega | decide | assumption)) ?_
            refine TL_p (PV_load Tryd.underlying9 rfl rfl hR1) ?_
            refine TL_p (PV_assign rfl) ?_
            refine TL_nil ?_
            refine T_seq ?_
            refine T_region ?_
            refine TL_p (PV_move rfl) ?_
            refine TL_cons rfl (TO_parseB hp huk hl rfl rfl rfl ?_)
            refine TL_p (PV_move rfl) ?_
            refine TL_p (PV_extract rfl rfl) ?_
            refine TL_p (PV_extract rfl rfl) ?_
            refine TL_cons rfl (TO_alloc rfl zr30 fun g13002 => ?_)
            refine TL_cons rfl (TO_store 0 rfl rfl rfl sz30 rfl rfl rfl (all_one rfl) (by first | exact Nat.le_of_ble_eq_true rfl | (simp; done) | (simp; omega) | omega) ?_)
            refine TL_p (PV_assign rfl) ?_
            refine TL_nil ?_
            refine T_seq ?_
            refine T_seq ?_
            refine T_region ?_
            refine TL_p (PV_move rfl) ?_
            refine TL_p (PV_bin rfl rfl (bin_if_nnil Tryd.underlying34)) ?_
            refine TL_nil ?_
            refine T_then rfl (by rfl) ?_
            refine T_seq ?_
            refine T_region ?_
            refine TL_p (PV_move rfl) ?_
            refine TL_p (PV_bin rfl rfl (bin_nilptr_nil Tryd.underlying53)) ?_
            refine TL_p (PV_move rfl) ?_
            refine TL_yes rfl rfl rfl (TO_pure rfl (PV_move rfl) ?_)
            refine TL_yes rfl rfl rfl (TO_call0 call13 rfl rfl (numberF_t ?sd13005q149_0 ?sd13005q149_1 _ _) ?_)
            case sd13005q149_0 => exact hL
            case sd13005q149_1 => exact hB0
            rintro v48_13006 H48_13006 ⟨rfl, rfl⟩
            refine TL_yes rfl rfl rfl (TO_pure rfl (PV_move rfl) ?_)
            refine TL_yes rfl rfl rfl (TO_call0 call13 rfl rfl (numberF_t ?sd13008q149_0 ?sd13008q149_1 _ _) ?_)
            case sd13008q149_0 => exact hL
            case sd13008q149_1 => exact hB0
            rintro v50_13009 H50_13009 ⟨rfl, rfl⟩
            refine TL_yes rfl rfl rfl (TO_pure rfl (PV.cast (PV_bin rfl rfl bin_eql) e51) ?_)
            refine TL_p (PV_pickAnd rfl rfl rfl) ?_
            refine TL_p (PV_move rfl) ?_
            refine TL_yes rfl rfl rfl (TO_pure rfl (PV_move rfl) ?_)
            refine TL_yes rfl rfl rfl (TO_call0 call14 rfl rfl (placeF_t ?sd13011q149_0 ?sd13011q149_1 _ _) ?_)
            case sd13011q149_0 => exact hL
            case sd13011q149_1 => exact hB0
            rintro v55_13012 H55_13012 ⟨rfl, rfl⟩
            refine TL_yes rfl rfl rfl (TO_pure rfl (PV_move rfl) ?_)
            refine TL_yes rfl rfl rfl (TO_call0 call14 rfl rfl (placeF_t ?sd13014q149_0 ?sd13014q149_1 _ _) ?_)
            case sd13014q149_0 => exact hL
            case sd13014q149_1 => exact hB0
            rintro v57_13015 H57_13015 ⟨rfl, rfl⟩
            refine TL_yes rfl rfl rfl (TO_pure rfl (PV.cast (PV_bin rfl rfl bin_eql) e58) ?_)
            refine TL_p (PV_pickAnd rfl rfl rfl) ?_
            refine TL_p (PV_assign rfl) ?_
            refine TL_nil ?_
            refine T_ret ?_
            refine ret_ret (ResV_one rfl rfl) ⟨_, ?zb13016q149, ⟨rfl, rfl⟩⟩
            case zb13016q149 => exact (by (repeat (first | exact Sb.r | exact Sb.ar | exact Sb.al | apply Sb.c | apply Sb.d | refine Sb.t ?_)); done)
            all_goals exact T_ret (ret_ret (ResV_one rfl rfl) ⟨H, (by repeat (first | exact Sb.r | exact Sb.ar | exact Sb.al | apply Sb.c | apply Sb.d | refine Sb.t ?_)), rfl, rfl⟩)
          | nul t e hl hp hn =>
            have hsz := parse_sz hl hp
            have hem := fun {X : List Chunk} {g : Nat} (hT : Tab (WH w0 B X) g t) => (Empty_t (w0 := w0) (B := B) (H := X) hT).mono (R' := fun r H' => r = .bool true ∧ H' = X) fun r h q => ⟨by rw [← hn]; exact q.1, q.2⟩
            unfold errE
            refine T_seq ?_
            refine T_region ?_
            refine TL_p (PV_bin rfl rfl bin_lss) ?_
            refine TL_nil ?_
            refine T_seq ?_
            refine T_then rfl (by exact decide_eq_true (by omega)) ?_
            refine T_skip ?_
            refine T_seq ?_
            refine T_block ?_
            refine T_seq ?_
            refine T_region ?_
            refine TL_p (PV_indexAddr Tryd.underlying52 sz9 rfl rfl rfl (by first | omega | decide | assumption)) ?_
            refine TL_p (PV_load Tryd.underlying9 rfl rfl hR1) ?_
            refine TL_p (PV_assign rfl) ?_
            refine TL_nil ?_
            refine T_seq ?_
            refine T_region ?_
            refine TL_p (PV_move rfl) ?_
            refine TL_cons rfl (TO_parse hp huk hl rfl rfl rfl fun v39 N39 hv39 => ?_)
            refine TL_p (PV_move rfl) ?_
            refine TL_p (PV_extract rfl rfl) ?_
            refine TL_p (PV_extract rfl rfl) ?_
            refine TL_cons rfl (TO_alloc rfl zr30 fun g14002 => ?_)
            refine TL_cons rfl (TO_store 0 rfl rfl rfl sz30 rfl rfl rfl (all_one rfl) (by first | exact Nat.le_of_ble_eq_true rfl | (simp; done) | (simp; omega) | omega) ?_)
            refine TL_p (PV_assign rfl) ?_
            refine TL_nil ?_
            refine T_seq ?_
            refine T_seq ?_
            refine T_region ?_
            refine TL_p (PV_move rfl) ?_
            refine TL_p (PV_bin rfl rfl (bin_nil_nnil Tryd.underlying34)) ?_
            refine TL_nil ?_
            refine T_else rfl (by rfl) ?_
            refine T_skip ?_
            refine T_seq ?_
            refine T_region ?_
            refine TL_p (PV_loadAt Tryd.underlying30 rfl sz30 rfl (Rds.take 0 rfl rfl rfl)) ?_
            refine TL_cons rfl (TO_Of (hv39.mono fun w h => h.sub ((List.sublist_append_right _ N39).trans (by repeat (first | exact Sb.r | exact Sb.ar | exact Sb.al | apply Sb.d | refine Sb.t ?_)))) (by omega) (by omega) rfl rfl fun g61 N61 hT61 => ?_)
            refine TL_cons rfl (TO_eqD call25 (hem (hT61.mono fun w h => h.sub (by repeat (first | exact Sb.r | exact Sb.ar | exact Sb.al | apply Sb.d | refine Sb.t ?_)))) rfl rfl _ (List.Sublist.refl _) ?_)
            refine TL_nil ?_
            refine T_then rfl (by rfl) ?_
            refine T_seq ?_
            refine T_region ?_
            refine TL_p (PV_move rfl) ?_
            refine TL_p (PV_bin rfl rfl (bin_nilptr_nil Tryd.underlying53)) ?_
            refine TL_p (PV_move rfl) ?_
            refine TL_yes rfl rfl rfl (TO_pure rfl (PV_move rfl) ?_)
            refine TL_yes rfl rfl rfl (TO_call0 call13 rfl rfl (number_t ?sd14007q160_0 ?sd14007q160_1 _) ?_)
            case sd14007q160_0 => exact hL
            case sd14007q160_1 => exact hB0
            rintro v67_14008 H67_14008 ⟨rfl, rfl⟩
            refine TL_yes rfl rfl rfl (TO_pure rfl (PV_bin rfl rfl bin_eql) ?_)
            refine TL_p (PV_pickAnd rfl rfl rfl) ?_
            refine TL_p (PV_move rfl) ?_
            refine TL_yes rfl rfl rfl (TO_pure rfl (PV_move rfl) ?_)
            refine TL_yes rfl rfl rfl (TO_call0 call14 rfl rfl (placeE_t ?sd14010q160_0 ?sd14010q160_1 _) ?_)
            case sd14010q160_0 => exact hL
            case sd14010q160_1 => exact hB0
            rintro v72_14011 H72_14011 ⟨rfl, rfl⟩
            refine TL_yes rfl rfl rfl (TO_pure rfl (PV_bin rfl rfl bin_eql) ?_)
            refine TL_p (PV_pickAnd rfl rfl rfl) ?_
            refine TL_p (PV_assign rfl) ?_
            refine TL_nil ?_
            refine T_ret ?_
            refine ret_ret (ResV_one rfl rfl) ⟨_, ?zb14012q160, ⟨rfl, rfl⟩⟩
            case zb14012q160 => exact (by (repeat (first | exact Sb.r | exact Sb.ar | exact Sb.al | apply Sb.c | apply Sb.d | refine Sb.t ?_)); done)
            all_goals exact T_ret (ret_ret (ResV_one rfl rfl) ⟨H, (by repeat (first | exact Sb.r | exact Sb.ar | exact Sb.al | apply Sb.c | apply Sb.d | refine Sb.t ?_)), rfl, rfl⟩)
end
end Go.Proofs.YtijpbpnfachlkaaDoor.SL
