import Derived.Test.YtijpbpnfachlkaaDoorP2
/- Patterns: bytes that stand for themselves, and classes. No statement is proved here. -/
set_option linter.unusedVariables false
set_option linter.unusedSimpArgs false
set_option maxRecDepth 100000
set_option maxHeartbeats 8000000
namespace Go.Proofs.YtijpbpnfachlkaaDoor.SL
open Go Go.RowKit
section
variable {w0 : World} {B : Nat} {H X : List Chunk}
theorem more_y {g : Nat} {s : List Int} {i : Nat} (hi : i < s.length) : TCall Tryd.prog w0 B 34 #[.pointer (some ⟨g, 0, none⟩)] (fun r H' => r = .bool true ∧ H' = rdC g s i :: X) (rdC g s i :: X) := by
  have h := more_t (w0 := w0) (B := B) (X := X) (g := g) (s := s) (i := i)
  rw [decide_eq_true hi] at h
  exact h
theorem more_n {g : Nat} {s : List Int} {i : Nat} (hi : ¬ i < s.length) : TCall Tryd.prog w0 B 34 #[.pointer (some ⟨g, 0, none⟩)] (fun r H' => r = .bool false ∧ H' = rdC g s i :: X) (rdC g s i :: X) := by
  have h := more_t (w0 := w0) (B := B) (X := X) (g := g) (s := s) (i := i)
  rw [decide_eq_false hi] at h
  exact h
theorem is_b {g : Nat} {s : List Int} {i : Nat} (c : Int) (b : Bool) (hu : U8s s) (hb : isB s i c = b) : TCall Tryd.prog w0 B 45 #[.pointer (some ⟨g, 0, none⟩), .int .u8 c] (fun r H' => r = .bool b ∧ H' = rdC g s i :: X) (rdC g s i :: X) := by
  subst hb
  exact is_t c hu
/-- a byte that stands for itself, or one behind a stroke -/
theorem plain_ok {g : Nat} {s : List Int} {i j : Nat} {c : Int} (hu : U8s s) (hs : s.length ≤ 64) (h : pPlain s i = .ok c j) : TCall Tryd.prog w0 B 64 #[.pointer (some ⟨g, 0, none⟩)] (fun r H' => r = .tuple #[.int .u8 c, .nilIface] ∧ H' = rdC g s j :: X) (rdC g s i :: X) := by
  unfold pPlain at h
  have e30 : Value.int .i64 (((strOfNums s).size : Nat) : Int) = .int .i64 ((s.length : Nat) : Int) := by rw [str_len]
  by_cases hi : i < s.length
  · rw [if_pos hi] at h
    by_cases h92 : rd s i = 92
    · rw [if_pos h92] at h
      by_cases hl : i + 1 = s.length
      · rw [if_pos hl] at h; cases h
      · rw [if_neg hl] at h
        cases h
        refine TCall_intro (args := [_]) Tryd.func64 rfl Tryd.ntmps64 (Nat.le_of_ble_eq_true rfl) ?_
        refine T_seq ?_
        refine T_region ?_
        refine TL_p (PV_assign rfl) ?_
        refine TL_p (PV_assign rfl) ?_
        refine TL_nil ?_
        refine T_seq ?_
        refine T_seq ?_
        refine T_region ?_
        refine TL_p (PV_move rfl) ?_
        refine TL_cons rfl (TO_call0 call34 rfl rfl (more_y hi) ?_)
        rintro v6_3 H6_3 ⟨rfl, rfl⟩
        refine TL_p (PV_not rfl) ?_
        refine TL_nil ?_
        refine T_else rfl (by rfl) ?_
        refine T_skip ?_
        refine T_seq ?_
        refine T_drawn (WH _ _ _) mixed (fun w h => h) ?_
        refine TA_p 0 rfl (by kernel_rfl) (PV_move rfl) ?_
        refine TA_p 1 rfl (by kernel_rfl) (PV_nilCheck rfl) ?_
        refine TA_p 2 rfl (by kernel_rfl) (PV_fieldAddr (D := 0) Tryd.underlying71 rfl sz9 (by decide) rfl rfl) ?_
        refine TA_p 3 rfl (by kernel_rfl) (PV_load Tryd.underlying9 rfl rfl (Rd.at 0 rfl rfl)) ?_
        refine TA_p 4 rfl (by kernel_rfl) (PV_move rfl) ?_
        refine TA_p 5 rfl (by kernel_rfl) (PV_nilCheck rfl) ?_
        refine TA_p 6 rfl (by kernel_rfl) (PV_fieldAddr (D := 1) Tryd.underlying71 rfl sz3 (by decide) rfl rfl) ?_
        refine TA_p 7 rfl (by kernel_rfl) (PV_load Tryd.underlying3 rfl rfl (Rd.at 0 rfl rfl)) ?_
        refine TA_p 8 rfl (by kernel_rfl) (PV_indexNums Tryd.underlying9 rfl rfl rfl hu hi) ?_
        refine TA_p 9 rfl (by kernel_rfl) (PV_assign rfl) ?_
        refine TA_done (by kernel_rfl) ?_
        refine T_seq ?_
        refine T_seq ?_
        refine T_region ?_
        refine TL_p (PV_move rfl) ?_
        refine TL_p (PV_bin rfl rfl bin_eql) ?_
        refine TL_nil ?_
        refine T_then rfl (by exact decide_eq_true (by omega)) ?_
        refine T_seq ?_
        refine T_seq ?_
        refine T_drawn (WH _ _ _) mixed (fun w h => h) ?_
        refine TA_p 0 rfl (by kernel_rfl) (PV_move rfl) ?_
        refine TA_p 1 rfl (by kernel_rfl) (PV_nilCheck rfl) ?_
        refine TA_p 2 rfl (by kernel_rfl) (PV_fieldAddr (D := 1) Tryd.underlying71 rfl sz3 (by decide) rfl rfl) ?_
        refine TA_p 3 rfl (by kernel_rfl) (PV_load Tryd.underlying3 rfl rfl (Rd.at 0 rfl rfl)) ?_
        refine TA_p 4 rfl (by kernel_rfl) (PV.cast (PV_bin rfl rfl bin_add) (wr64 (by omega))) ?_
        refine TA_p 5 rfl (by kernel_rfl) (PV_move rfl) ?_
        refine TA_p 6 rfl (by kernel_rfl) (PV_nilCheck rfl) ?_
        refine TA_p 7 rfl (by kernel_rfl) (PV_fieldAddr (D := 0) Tryd.underlying71 rfl sz9 (by decide) rfl rfl) ?_
        refine TA_p 8 rfl (by kernel_rfl) (PV_load Tryd.underlying9 rfl rfl (Rd.at 0 rfl rfl)) ?_
        refine TA_p 9 rfl (by kernel_rfl) (PV.cast (PV_len_string Tryd.underlying9 rfl) e30) ?_
        refine TA_p 10 rfl (by kernel_rfl) (PV_bin rfl rfl bin_eql) ?_
        refine TA_done (by kernel_rfl) ?_
        refine T_else rfl (by exact decide_eq_false (by omega)) ?_
        refine T_skip ?_
        refine T_seq ?_
        refine T_region ?_
        refine TL_p (PV_move rfl) ?_
        refine TL_p (PV_nilCheck rfl) ?_
        refine TL_p (PV_fieldAddr (D := 1) Tryd.underlying71 rfl sz3 (by decide) rfl rfl) ?_
        refine TL_p (PV_load Tryd.underlying3 rfl rfl (Rd.at 0 rfl rfl)) ?_
        refine TL_p (PV.cast (PV_bin rfl rfl bin_add) (wr64 (by omega))) ?_
        refine TL_p (PV_nilCheck rfl) ?_
        refine TL_p (PV_fieldAddr (D := 1) Tryd.underlying71 rfl sz3 (by decide) rfl rfl) ?_
        refine TL_cons rfl (TO_store1 0 rfl rfl rfl sz3 rfl rfl rfl (by first | exact Nat.le_of_ble_eq_true rfl | (simp; done) | (simp; omega) | omega) ?_)
        refine TL_nil ?_
        refine T_drawn (WH _ _ _) mixed (fun w h => h) ?_
        refine TA_p 0 rfl (by kernel_rfl) (PV_move rfl) ?_
        refine TA_p 1 rfl (by kernel_rfl) (PV_nilCheck rfl) ?_
        refine TA_p 2 rfl (by kernel_rfl) (PV_fieldAddr (D := 0) Tryd.underlying71 rfl sz9 (by decide) rfl rfl) ?_
        refine TA_p 3 rfl (by kernel_rfl) (PV_load Tryd.underlying9 rfl rfl (Rd.at 0 rfl rfl)) ?_
        refine TA_p 4 rfl (by kernel_rfl) (PV_move rfl) ?_
        refine TA_p 5 rfl (by kernel_rfl) (PV_nilCheck rfl) ?_
        refine TA_p 6 rfl (by kernel_rfl) (PV_fieldAddr (D := 1) Tryd.underlying71 rfl sz3 (by decide) rfl rfl) ?_
        refine TA_p 7 rfl (by kernel_rfl) (PV_load Tryd.underlying3 rfl rfl (Rd.at 0 rfl rfl)) ?_
        refine TA_p 8 rfl (by kernel_rfl) (PV_indexNums (i := i + 1) Tryd.underlying9 rfl rfl rfl hu (by omega)) ?_
        refine TA_p 9 rfl (by kernel_rfl) (PV_assign rfl) ?_
        refine TA_done (by kernel_rfl) ?_
        refine T_seq ?_
        refine T_region ?_
        refine TL_p (PV_move rfl) ?_
        refine TL_p (PV_nilCheck rfl) ?_
        refine TL_p (PV_fieldAddr (D := 1) Tryd.underlying71 rfl sz3 (by decide) rfl rfl) ?_
        refine TL_p (PV_load Tryd.underlying3 rfl rfl (Rd.at 0 rfl rfl)) ?_
        refine TL_p (PV.cast (PV_bin rfl rfl bin_add) (wr64 (by omega))) ?_
        refine TL_p (PV_nilCheck rfl) ?_
        refine TL_p (PV_fieldAddr (D := 1) Tryd.underlying71 rfl sz3 (by decide) rfl rfl) ?_
        refine TL_cons rfl (TO_store1 0 rfl rfl rfl sz3 rfl rfl rfl (by first | exact Nat.le_of_ble_eq_true rfl | (simp; done) | (simp; omega) | omega) ?_)
        refine TL_nil ?_
        refine T_seq ?_
        refine T_region ?_
        refine TL_p (PV_move rfl) ?_
        refine TL_p (PV_assign rfl) ?_
        refine TL_p (PV_assign rfl) ?_
        refine TL_nil ?_
        refine T_ret ?_
        refine ret_ret (ResV_two rfl rfl rfl) ⟨_, List.Sublist.refl _, ⟨rfl, rfl⟩⟩
    · rw [if_neg h92] at h
      cases h
      refine TCall_intro (args := [_]) Tryd.func64 rfl Tryd.ntmps64 (Nat.le_of_ble_eq_true rfl) ?_
      refine T_seq ?_
      refine T_region ?_
      refine TL_p (PV_assign rfl) ?_
      refine TL_p (PV_assign rfl) ?_
      refine TL_nil ?_
      refine T_seq ?_
      refine T_seq ?_
      refine T_region ?_
      refine TL_p (PV_move rfl) ?_
      refine TL_cons rfl (TO_call0 call34 rfl rfl (more_y hi) ?_)
      rintro v6_2003 H6_2003 ⟨rfl, rfl⟩
      refine TL_p (PV_not rfl) ?_
      refine TL_nil ?_
      refine T_else rfl (by rfl) ?_
      refine T_skip ?_
      refine T_seq ?_
      refine T_drawn (WH _ _ _) mixed (fun w h => h) ?_
      refine TA_p 0 rfl (by kernel_rfl) (PV_move rfl) ?_
      refine TA_p 1 rfl (by kernel_rfl) (PV_nilCheck rfl) ?_
      refine TA_p 2 rfl (by kernel_rfl) (PV_fieldAddr (D := 0) Tryd.underlying71 rfl sz9 (by decide) rfl rfl) ?_
      refine TA_p 3 rfl (by kernel_rfl) (PV_load Tryd.underlying9 rfl rfl (Rd.at 0 rfl rfl)) ?_
      refine TA_p 4 rfl (by kernel_rfl) (PV_move rfl) ?_
      refine TA_p 5 rfl (by kernel_rfl) (PV_nilCheck rfl) ?_
      refine TA_p 6 rfl (by kernel_rfl) (PV_fieldAddr (D := 1) Tryd.underlying71 rfl sz3 (by decide) rfl rfl) ?_
      refine TA_p 7 rfl (by kernel_rfl) (PV_load Tryd.underlying3 rfl rfl (Rd.at 0 rfl rfl)) ?_
      refine TA_p 8 rfl (by kernel_rfl) (PV_indexNums Tryd.underlying9 rfl rfl rfl hu hi) ?_
      refine TA_p 9 rfl (by kernel_rfl) (PV_assign rfl) ?_
      refine TA_done (by kernel_rfl) ?_
      refine T_seq ?_
      refine T_seq ?_
      refine T_region ?_
      refine TL_p (PV_move rfl) ?_
      refine TL_p (PV_bin rfl rfl bin_eql) ?_
      refine TL_nil ?_
      refine T_else rfl (by exact decide_eq_false (by omega)) ?_
      refine T_skip ?_
      refine T_seq ?_
      refine T_region ?_
      refine TL_p (PV_move rfl) ?_
      refine TL_p (PV_nilCheck rfl) ?_
      refine TL_p (PV_fieldAddr (D := 1) Tryd.underlying71 rfl sz3 (by decide) rfl rfl) ?_
      refine TL_p (PV_load Tryd.underlying3 rfl rfl (Rd.at 0 rfl rfl)) ?_
      refine TL_p (PV.cast (PV_bin rfl rfl bin_add) (wr64 (by omega))) ?_
      refine TL_p (PV_nilCheck rfl) ?_
      refine TL_p (PV_fieldAddr (D := 1) Tryd.underlying71 rfl sz3 (by decide) rfl rfl) ?_
      refine TL_cons rfl (TO_store1 0 rfl rfl rfl sz3 rfl rfl rfl (by first | exact Nat.le_of_ble_eq_true rfl | (simp; done) | (simp; omega) | omega) ?_)
      refine TL_nil ?_
      refine T_seq ?_
      refine T_region ?_
      refine TL_p (PV_move rfl) ?_
      refine TL_p (PV_assign rfl) ?_
      refine TL_p (PV_assign rfl) ?_
      refine TL_nil ?_
      refine T_ret ?_
      refine ret_ret (ResV_two rfl rfl rfl) ⟨_, List.Sublist.refl _, ⟨rfl, rfl⟩⟩
  · rw [if_neg hi] at h; cases h
theorem plain_bad {g : Nat} {s : List Int} {i p j : Nat} (hu : U8s s) (hs : s.length ≤ 64) (h : pPlain s i = .bad p j) : TCall Tryd.prog w0 B 64 #[.pointer (some ⟨g, 0, none⟩)] (fun r H' => r = .tuple #[.int .u8 0, faultV (p : Int)] ∧ H' = rdC g s j :: X) (rdC g s i :: X) := by
  unfold pPlain at h
  have e30 : Value.int .i64 (((strOfNums s).size : Nat) : Int) = .int .i64 ((s.length : Nat) : Int) := by rw [str_len]
  by_cases hi : i < s.length
  · rw [if_pos hi] at h
    by_cases h92 : rd s i = 92
    · rw [if_pos h92] at h
      by_cases hl : i + 1 = s.length
      · rw [if_pos hl] at h
        cases h
        refine TCall_intro (args := [_]) Tryd.func64 rfl Tryd.ntmps64 (Nat.le_of_ble_eq_true rfl) ?_
        refine T_seq ?_
        refine T_region ?_
        refine TL_p (PV_assign rfl) ?_
        refine TL_p (PV_assign rfl) ?_
        refine TL_nil ?_
        refine T_seq ?_
        refine T_seq ?_
        refine T_region ?_
        refine TL_p (PV_move rfl) ?_
        refine TL_cons rfl (TO_call0 call34 rfl rfl (more_y hi) ?_)
        rintro v6_3 H6_3 ⟨rfl, rfl⟩
        refine TL_p (PV_not rfl) ?_
        refine TL_nil ?_
        refine T_else rfl (by rfl) ?_
        refine T_skip ?_
        refine T_seq ?_
        refine T_drawn (WH _ _ _) mixed (fun w h => h) ?_
        refine TA_p 0 rfl (by kernel_rfl) (PV_move rfl) ?_
        refine TA_p 1 rfl (by kernel_rfl) (PV_nilCheck rfl) ?_
        refine TA_p 2 rfl (by kernel_rfl) (PV_fieldAddr (D := 0) Tryd.underlying71 rfl sz9 (by decide) rfl rfl) ?_
        refine TA_p 3 rfl (by kernel_rfl) (PV_load Tryd.underlying9 rfl rfl (Rd.at 0 rfl rfl)) ?_
        refine TA_p 4 rfl (by kernel_rfl) (PV_move rfl) ?_
        refine TA_p 5 rfl (by kernel_rfl) (PV_nilCheck rfl) ?_
        refine TA_p 6 rfl (by kernel_rfl) (PV_fieldAddr (D := 1) Tryd.underlying71 rfl sz3 (by decide) rfl rfl) ?_
        refine TA_p 7 rfl (by kernel_rfl) (PV_load Tryd.underlying3 rfl rfl (Rd.at 0 rfl rfl)) ?_
        refine TA_p 8 rfl (by kernel_rfl) (PV_indexNums Tryd.underlying9 rfl rfl rfl hu hi) ?_
        refine TA_p 9 rfl (by kernel_rfl) (PV_assign rfl) ?_
        refine TA_done (by kernel_rfl) ?_
        refine T_seq ?_
        refine T_seq ?_
        refine T_region ?_
        refine TL_p (PV_move rfl) ?_
        refine TL_p (PV_bin rfl rfl bin_eql) ?_
        refine TL_nil ?_
        refine T_then rfl (by exact decide_eq_true (by omega)) ?_
        refine T_seq ?_
        refine T_seq ?_
        refine T_drawn (WH _ _ _) mixed (fun w h => h) ?_
        refine TA_p 0 rfl (by kernel_rfl) (PV_move rfl) ?_
        refine TA_p 1 rfl (by kernel_rfl) (PV_nilCheck rfl) ?_
        refine TA_p 2 rfl (by kernel_rfl) (PV_fieldAddr (D := 1) Tryd.underlying71 rfl sz3 (by decide) rfl rfl) ?_
        refine TA_p 3 rfl (by kernel_rfl) (PV_load Tryd.underlying3 rfl rfl (Rd.at 0 rfl rfl)) ?_
        refine TA_p 4 rfl (by kernel_rfl) (PV.cast (PV_bin rfl rfl bin_add) (wr64 (by omega))) ?_
        refine TA_p 5 rfl (by kernel_rfl) (PV_move rfl) ?_
        refine TA_p 6 rfl (by kernel_rfl) (PV_nilCheck rfl) ?_
        refine TA_p 7 rfl (by kernel_rfl) (PV_fieldAddr (D := 0) Tryd.underlying71 rfl sz9 (by decide) rfl rfl) ?_
        refine TA_p 8 rfl (by kernel_rfl) (PV_load Tryd.underlying9 rfl rfl (Rd.at 0 rfl rfl)) ?_
        refine TA_p 9 rfl (by kernel_rfl) (PV.cast (PV_len_string Tryd.underlying9 rfl) e30) ?_
        refine TA_p 10 rfl (by kernel_rfl) (PV_bin rfl rfl bin_eql) ?_
        refine TA_done (by kernel_rfl) ?_
        refine T_then rfl (by exact decide_eq_true (by omega)) ?_
        refine T_seq ?_
        refine T_region ?_
        refine TL_p (PV_move rfl) ?_
        refine TL_cons rfl (TO_call0 call35 rfl rfl (bad_t) ?_)
        rintro v33_6 H33_6 ⟨rfl, rfl⟩
        refine TL_p (PV_assign rfl) ?_
        refine TL_p (PV_assign rfl) ?_
        refine TL_nil ?_
        refine T_ret ?_
        refine ret_ret (ResV_two rfl rfl rfl) ⟨_, List.Sublist.refl _, ⟨rfl, rfl⟩⟩
      · rw [if_neg hl] at h; cases h
    · rw [if_neg h92] at h; cases h
  · rw [if_neg hi] at h
    cases h
    refine TCall_intro (args := [_]) Tryd.func64 rfl Tryd.ntmps64 (Nat.le_of_ble_eq_true rfl) ?_
    refine T_seq ?_
    refine T_region ?_
    refine TL_p (PV_assign rfl) ?_
    refine TL_p (PV_assign rfl) ?_
    refine TL_nil ?_
    refine T_seq ?_
    refine T_seq ?_
    refine T_region ?_
    refine TL_p (PV_move rfl) ?_
    refine TL_cons rfl (TO_call0 call34 rfl rfl (more_n hi) ?_)
    rintro v6_2003 H6_2003 ⟨rfl, rfl⟩
    refine TL_p (PV_not rfl) ?_
    refine TL_nil ?_
    refine T_then rfl (by rfl) ?_
    refine T_seq ?_
    refine T_region ?_
    refine TL_p (PV_move rfl) ?_
    refine TL_cons rfl (TO_call0 call35 rfl rfl (bad_t) ?_)
    rintro v9_2006 H9_2006 ⟨rfl, rfl⟩
    refine TL_p (PV_assign rfl) ?_
    refine TL_p (PV_assign rfl) ?_
    refine TL_nil ?_
    refine T_ret ?_
    refine ret_ret (ResV_two rfl rfl rfl) ⟨_, List.Sublist.refl _, ⟨rfl, rfl⟩⟩
end
end Go.Proofs.YtijpbpnfachlkaaDoor.SL
