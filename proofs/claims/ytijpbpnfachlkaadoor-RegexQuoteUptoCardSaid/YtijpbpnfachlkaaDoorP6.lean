import Derived.Test.YtijpbpnfachlkaaDoorP5
/- Patterns: how often one comes. No statement is proved here. -/
set_option linter.unusedVariables false
set_option linter.unusedSimpArgs false
set_option maxRecDepth 100000
set_option maxHeartbeats 8000000
namespace Go.Proofs.YtijpbpnfachlkaaDoor.SL
open Go Go.RowKit
section
variable {w0 : World} {B : Nat} {H X : List Chunk}
theorem T_retP {P : Program} {n : Nat} {fn : Func} {R : Value → List Chunk → Prop} {fr : Fr} {v : Value} {H2 : List Chunk} (hp : H.Perm H2) (hv : ResV P n (WH w0 B H2) fr fn v) (h : ∃ h', List.Sublist h' H2 ∧ R v h') : T P w0 B n .ret (RetQ P w0 B n fn R) fr H :=
  T.perm hp (T_ret (ret_ret hv h))
theorem perm_tail {a : Chunk} {X N : List Chunk} : (a :: (X ++ N)).Perm (X ++ (a :: N)) := List.perm_middle.symm
structure PF (g : Nat) (s : List Int) (deep : Nat) (pE : Nat → Res Rx) (top : Bool) (w0 : World) (B : Nat) : Prop where
  hu : U8s s
  hs : s.length ≤ 64
  hd : deep ≤ 6
  htop : top = decide (deep = 6)
  hE : deep < 6 → EitherC w0 B g s (deep + 1) pE
theorem pOne_lt {s : List Int} {i j deep : Nat} {t : Rx} {pE : Nat → Res Rx} {top : Bool} {g : Nat} (h : PF g s deep pE top w0 B) (hi : i < s.length) (hr : pOne pE top s i = .ok t j) : i < j ∧ j ≤ s.length := by
  unfold pOne at hr
  by_cases h40 : rd s i = 40
  · rw [if_pos h40] at hr
    by_cases h6 : deep = 6
    · rw [if_pos (by rw [h.htop]; exact decide_eq_true h6)] at hr; cases hr
    · rw [if_neg (by rw [h.htop]; simp [h6])] at hr
      have hd := h.hd
      cases hp : pE (i + 1) with
      | bad q e => rw [hp] at hr; cases hr
      | ok t2 k =>
        rw [hp] at hr
        have := (h.hE (by omega)).lt (i + 1) t2 k (by omega) hp
        simp only at hr
        split at hr
        · rename_i h41
          cases hr
          have := (isB_lt h41).1
          omega
        · cases hr
  · rw [if_neg h40] at hr
    split at hr
    · exact pClass_lt hr
    · split at hr
      · cases hr; omega
      · split at hr
        · cases hr
        · split at hr
          · cases hr
          · rename_i c k hk
            cases hr
            exact pPlain_lt hk
theorem pAgain_lt {s : List Int} {i j deep : Nat} {t : Rx} {pE : Nat → Res Rx} {top : Bool} {g : Nat} (h : PF g s deep pE top w0 B) (hi : i < s.length) (hr : pAgain pE top s i = .ok t j) : i < j ∧ j ≤ s.length := by
  unfold pAgain at hr
  split at hr
  · cases hr
  · rename_i t2 k hk
    have := pOne_lt h hi hk
    split at hr
    · split at hr
      · cases hr; omega
      · split at hr
        · cases hr; omega
        · split at hr
          · cases hr; omega
          · cases hr; omega
    · cases hr; omega
theorem again_bad {g : Nat} {s : List Int} {i p j deep : Nat} {pE : Nat → Res Rx} {top : Bool} (h : PF g s deep pE top w0 B) (hi : i < s.length) (hr : pAgain pE top s i = .bad p j) :
    ReadsBad 56 w0 B #[.pointer (some ⟨g, 0, none⟩), .int .i64 (deep : Int)] g s i p j := by
  intro X
  unfold pAgain at hr
  cases hp : pOne pE top s i with
  | bad q e =>
    rw [hp] at hr
    cases hr
    have hb := fun {X : List Chunk} => one_bad (X := X) h.hu h.hs hi h.hd h.htop h.hE hp
    refine TCall_intro (args := [_, _]) Tryd.func56 rfl Tryd.ntmps56 (Nat.le_of_ble_eq_true rfl) ?_
    refine T_seq ?_
    refine T_region ?_
    refine TL_cons rfl (TO_alloc rfl zr30 fun g1 => ?_)
    refine TL_p (PV_assign rfl) ?_
    refine TL_nil ?_
    refine T_seq ?_
    refine T_region ?_
    refine TL_p (PV_move rfl) ?_
    refine TL_p (PV_move rfl) ?_
    refine TL_perm ((perm_pick (i := 1) rfl).trans (List.Perm.cons _ (List.Perm.refl _))) ?_
    refine TL_cons rfl (TO_call0 call62 rfl rfl (hb) ?_)
    rintro v11_4 H11_4 ⟨rfl, rfl⟩
    refine TL_p (PV_move rfl) ?_
    refine TL_p (PV_extract rfl rfl) ?_
    refine TL_p (PV_extract rfl rfl) ?_
    refine TL_cons rfl (TO_alloc rfl zr30 fun g5 => ?_)
    refine TL_cons rfl (TO_store 0 rfl rfl rfl sz30 rfl rfl rfl (all_one rfl) (by first | exact Nat.le_of_ble_eq_true rfl | (simp; done) | (simp; omega) | omega) ?_)
    refine TL_p (PV_assign rfl) ?_
    refine TL_nil ?_
    refine T_seq ?_
    refine T_seq ?_
    refine T_region ?_
    refine TL_p (PV_move rfl) ?_
    refine TL_p (PV_bin rfl rfl (bin_if_nnil Tryd.underlying34)) ?_
    refine TL_p (PV_move rfl) ?_
    refine TL_no (b := true) rfl rfl rfl rfl ?_
    refine TL_no (b := true) rfl rfl rfl rfl ?_
    refine TL_no (b := true) rfl rfl rfl rfl ?_
    refine TL_p (PV_pickT rfl (by first | assumption | rfl | (simp; done) | (simp; omega) | (simp [*]; done) | (simp [*]; omega)) rfl rfl) ?_
    refine TL_nil ?_
    refine T_then rfl (by rfl) ?_
    refine T_seq ?_
    refine T_region ?_
    refine TL_p (PV_loadAt Tryd.underlying30 rfl sz30 rfl (Rds.take 0 rfl rfl rfl)) ?_
    refine TL_p (PV_move rfl) ?_
    refine TL_cons rfl (TO_store 2 rfl rfl rfl sz30 rfl rfl rfl (all_one rfl) (by first | exact Nat.le_of_ble_eq_true rfl | (simp; done) | (simp; omega) | omega) ?_)
    refine TL_p (PV_assign rfl) ?_
    refine TL_nil ?_
    refine T_ret ?_
    refine ret_ret (ResV_ct rfl Tryd.underlying30 rfl sz30 rfl (Rds.take 2 rfl rfl rfl) rfl) ⟨_, ?zb8q77, ⟨rfl, rfl⟩⟩
    case zb8q77 => exact (by (repeat (first | exact Sb.r | exact Sb.ar | exact Sb.al | apply Sb.c | apply Sb.d | refine Sb.t ?_)); done)
  | ok t k =>
    rw [hp] at hr
    simp only at hr
    split at hr
    · split at hr
      · cases hr
      · split at hr
        · cases hr
        · split at hr <;> cases hr
    · cases hr
theorem again_ok {g : Nat} {s : List Int} {i j deep : Nat} {t : Rx} {pE : Nat → Res Rx} {top : Bool} (h : PF g s deep pE top w0 B) (hi : i < s.length) (hr : pAgain pE top s i = .ok t j) :
    ReadsOk 56 w0 B #[.pointer (some ⟨g, 0, none⟩), .int .i64 (deep : Int)] g s i t j := by
  intro X
  have hu := h.hu
  have hs := h.hs
  unfold pAgain at hr
  cases hp : pOne pE top s i with
  | bad q e => rw [hp] at hr; cases hr
  | ok t2 k =>
    rw [hp] at hr
    simp only at hr
    have hk := pOne_lt h hi hp
    have ho := fun {X : List Chunk} => one_ok h.hu h.hs hi h.hd h.htop h.hE hp X
    by_cases hkl : k < s.length
    · rw [if_pos hkl] at hr
      by_cases h42 : rd s k = 42
      · rw [if_pos h42] at hr
        cases hr
        refine TCall_intro (args := [_, _]) Tryd.func56 rfl Tryd.ntmps56 (Nat.le_of_ble_eq_true rfl) ?_
        refine T_seq ?_
        refine T_region ?_
        refine TL_cons rfl (TO_alloc rfl zr30 fun g1001 => ?_)
        refine TL_p (PV_assign rfl) ?_
        refine TL_nil ?_
        refine T_seq ?_
        refine T_region ?_
        refine TL_p (PV_move rfl) ?_
        refine TL_p (PV_move rfl) ?_
        refine TL_perm ((perm_pick (i := 1) rfl).trans (List.Perm.cons _ (List.Perm.refl _))) ?_
        refine TL_cons rfl (TO_call0 call62 rfl rfl (ho) ?_)
        rintro v11_1004 H11_1004 ⟨v_1004, N_1004, rfl, h_1004_0, rfl⟩
        refine TL_p (PV_move rfl) ?_
        refine TL_p (PV_extract rfl rfl) ?_
        refine TL_p (PV_extract rfl rfl) ?_
        refine TL_cons rfl (TO_alloc rfl zr30 fun g1005 => ?_)
        refine TL_cons rfl (TO_store 0 rfl rfl rfl sz30 rfl rfl rfl (all_one rfl) (by first | exact Nat.le_of_ble_eq_true rfl | (simp; done) | (simp; omega) | omega) ?_)
        refine TL_p (PV_assign rfl) ?_
        refine TL_nil ?_
        refine T_seq ?_
        refine T_seq ?_
        refine T_region ?_
        refine TL_p (PV_move rfl) ?_
        refine TL_p (PV_bin rfl rfl (bin_nil_nnil Tryd.underlying34)) ?_
        refine TL_p (PV_move rfl) ?_
        refine TL_yes rfl rfl rfl (TO_pure rfl (PV_move rfl) ?_)
        refine TL_perm ((perm_pick (i := 1) rfl).trans (List.Perm.cons _ (List.Perm.refl _))) ?_
        refine TL_yes rfl rfl rfl (TO_call0 call34 rfl rfl (more_y hkl) ?_)
        rintro v18_1009 H18_1009 ⟨rfl, rfl⟩
        refine TL_yes rfl rfl rfl (TO_pure rfl (PV_not rfl) ?_)
        refine TL_p (PV_pickOr rfl rfl rfl) ?_
        refine TL_nil ?_
        refine T_else rfl (by rfl) ?_
        refine T_skip ?_
        refine T_seq ?_
        refine T_seq ?_
        refine T_drawn (WH _ _ _) mixed (fun w h => h) ?_
        refine TA_p 0 rfl (by kernel_rfl) (PV_move rfl) ?_
        refine TA_p 1 rfl (by kernel_rfl) (PV_nilCheck rfl) ?_
        refine TA_p 2 rfl (by kernel_rfl) (PV_fieldAddr (D := 0) Tryd.underlying71 rfl sz9 (by decide) rfl rfl) ?_
        refine TA_p 3 rfl (by kernel_rfl) (PV_load Tryd.underlying9 rfl rfl (Rd.at 0 rfl rfl)) ?_
        refine TA_p 4 rfl (by kernel_rfl) (PV_move rfl) ?_
        refine TA_p 5 rfl (by kernel_rfl) (PV_nilCheck rfl) ?_
        refine TA_p 6 rfl (by kernel_rfl) (PV_fieldAddr (D := 1) Tryd.underlying71 rfl sz3 (by decide) rfl rfl) ?_
        refine TA_p 7 rfl (by kernel_rfl) (PV_load Tryd.underlying3 rfl rfl (Rd.at 0 rfl rfl)) ?_
        refine TA_p 8 rfl (by kernel_rfl) (PV_indexNums Tryd.underlying9 rfl rfl rfl hu hkl) ?_
        refine TA_done (by kernel_rfl) ?_
        refine T_block ?_
        refine T_seq ?_
        refine T_region ?_
        refine TL_p (PV_bin rfl rfl bin_eql) ?_
        refine TL_p (PV_assign rfl) ?_
        refine TL_nil ?_
        refine T_then rfl (by exact decide_eq_true (by omega)) ?_
        refine T_region ?_
        refine TL_p (PV_loadAt Tryd.underlying30 rfl sz30 rfl (Rds.take 1 rfl rfl rfl)) ?_
        refine TL_cons rfl (TO_bs (cs := [_, _, _, _, _, _]) Tryd.underlying28 zs30 (by decide) rfl rfl rfl rfl rfl rfl fun g1010 => ?_)
        refine TL_p (PV_bld (cs := [_, _, _, _, _, _]) Tryd.underlying30 pl30 zr30 rfl rfl) ?_
        refine TL_cons rfl (TO_store 2 rfl rfl rfl sz30 rfl rfl rfl (all_one rfl) (by first | exact Nat.le_of_ble_eq_true rfl | (simp; done) | (simp; omega) | omega) ?_)
        refine TL_nil ?_
        refine T_seq ?_
        refine T_region ?_
        refine TL_p (PV_move rfl) ?_
        refine TL_p (PV_nilCheck rfl) ?_
        refine TL_p (PV_fieldAddr (D := 1) Tryd.underlying71 rfl sz3 (by decide) rfl rfl) ?_
        refine TL_p (PV_load Tryd.underlying3 rfl rfl (Rd.at 1 rfl rfl)) ?_
        refine TL_p (PV.cast (PV_bin rfl rfl bin_add) (wr64 (by omega))) ?_
        refine TL_p (PV_nilCheck rfl) ?_
        refine TL_p (PV_fieldAddr (D := 1) Tryd.underlying71 rfl sz3 (by decide) rfl rfl) ?_
        refine TL_cons rfl (TO_store1 1 rfl rfl rfl sz3 rfl rfl rfl (by first | exact Nat.le_of_ble_eq_true rfl | (simp; done) | (simp; omega) | omega) ?_)
        refine TL_nil ?_
        refine T_seq ?_
        refine T_region ?_
        refine TL_p (PV_loadAt Tryd.underlying30 rfl sz30 rfl (Rds.take 2 rfl rfl rfl)) ?_
        refine TL_cons rfl (TO_store 3 rfl rfl rfl sz30 rfl rfl rfl (all_one rfl) (by first | exact Nat.le_of_ble_eq_true rfl | (simp; done) | (simp; omega) | omega) ?_)
        refine TL_p (PV_assign rfl) ?_
        refine TL_nil ?_
        refine ?L11
        case L11 =>
          refine T_retP (H2 := rdC g s (k + 1) :: .own g1005 6 (⟨4, S4.zero, some ⟨g1010, 0, none⟩, 1, 1⟩ : Nv).cells :: .own g1001 6 (⟨4, S4.zero, some ⟨g1010, 0, none⟩, 1, 1⟩ : Nv).cells :: (X ++ (.sl (.slice (some ⟨g1010, 0, none⟩) 1 1) 6 1 v_1004.cells :: N_1004))) ((((perm_pick (i := 1) rfl).trans (List.Perm.cons _ ((perm_pick (i := 1) rfl).trans (List.Perm.cons _ ((perm_pick (i := 1) rfl).trans (List.Perm.cons _ (List.Perm.refl _)))))))).trans (List.Perm.cons _ (List.Perm.cons _ (List.Perm.cons _ perm_tail)))) (ResV_ct rfl Tryd.underlying30 rfl sz30 rfl (Rds.take 2 rfl rfl rfl) rfl) ?_
          exact ⟨rdC g s (k + 1) :: (X ++ (.sl (.slice (some ⟨g1010, 0, none⟩) 1 1) 6 1 v_1004.cells :: N_1004)), (by repeat (first | exact Sb.r | exact Sb.ar | exact Sb.al | apply Sb.c | apply Sb.d | refine Sb.t ?_)), ⟨4, S4.zero, some ⟨g1010, 0, none⟩, 1, 1⟩, _, rfl, ⟨_, _, v_1004, rfl, Nat.le_refl _, Shows.at 0 rfl, h_1004_0.mono fun w h => h.sub (List.sublist_cons_self _ _)⟩, rfl⟩
      · rw [if_neg h42] at hr
        by_cases h43 : rd s k = 43
        · rw [if_pos h43] at hr
          cases hr
          refine TCall_intro (args := [_, _]) Tryd.func56 rfl Tryd.ntmps56 (Nat.le_of_ble_eq_true rfl) ?_
          refine T_seq ?_
          refine T_region ?_
          refine TL_cons rfl (TO_alloc rfl zr30 fun g2001 => ?_)
          refine TL_p (PV_assign rfl) ?_
          refine TL_nil ?_
          refine T_seq ?_
          refine T_region ?_
          refine TL_p (PV_move rfl) ?_
          refine TL_p (PV_move rfl) ?_
          refine TL_perm ((perm_pick (i := 1) rfl).trans (List.Perm.cons _ (List.Perm.refl _))) ?_
          refine TL_cons rfl (TO_call0 call62 rfl rfl (ho) ?_)
          rintro v11_2004 H11_2004 ⟨v_2004, N_2004, rfl, h_2004_0, rfl⟩
          refine TL_p (PV_move rfl) ?_
          refine TL_p (PV_extract rfl rfl) ?_
          refine TL_p (PV_extract rfl rfl) ?_
          refine TL_cons rfl (TO_alloc rfl zr30 fun g2005 => ?_)
          refine TL_cons rfl (TO_store 0 rfl rfl rfl sz30 rfl rfl rfl (all_one rfl) (by first | exact Nat.le_of_ble_eq_true rfl | (simp; done) | (simp; omega) | omega) ?_)
          refine TL_p (PV_assign rfl) ?_
          refine TL_nil ?_
          refine T_seq ?_
          refine T_seq ?_
          refine T_region ?_
          refine TL_p (PV_move rfl) ?_
          refine TL_p (PV_bin rfl rfl (bin_nil_nnil Tryd.underlying34)) ?_
          refine TL_p (PV_move rfl) ?_
          refine TL_yes rfl rfl rfl (TO_pure rfl (PV_move rfl) ?_)
          refine TL_perm ((perm_pick (i := 1) rfl).trans (List.Perm.cons _ (List.Perm.refl _))) ?_
          refine TL_yes rfl rfl rfl (TO_call0 call34 rfl rfl (more_y hkl) ?_)
          rintro v18_2009 H18_2009 ⟨rfl, rfl⟩
          refine TL_yes rfl rfl rfl (TO_pure rfl (PV_not rfl) ?_)
          refine TL_p (PV_pickOr rfl rfl rfl) ?_
          refine TL_nil ?_
          refine T_else rfl (by rfl) ?_
          refine T_skip ?_
          refine T_seq ?_
          refine T_seq ?_
          refine T_drawn (WH _ _ _) mixed (fun w h => h) ?_
          refine TA_p 0 rfl (by kernel_rfl) (PV_move rfl) ?_
          refine TA_p 1 rfl (by kernel_rfl) (PV_nilCheck rfl) ?_
          refine TA_p 2 rfl (by kernel_rfl) (PV_fieldAddr (D := 0) Tryd.underlying71 rfl sz9 (by decide) rfl rfl) ?_
          refine TA_p 3 rfl (by kernel_rfl) (PV_load Tryd.underlying9 rfl rfl (Rd.at 0 rfl rfl)) ?_
          refine TA_p 4 rfl (by kernel_rfl) (PV_move rfl) ?_
          refine TA_p 5 rfl (by kernel_rfl) (PV_nilCheck rfl) ?_
          refine TA_p 6 rfl (by kernel_rfl) (PV_fieldAddr (D := 1) Tryd.underlying71 rfl sz3 (by decide) rfl rfl) ?_
          refine TA_p 7 rfl (by kernel_rfl) (PV_load Tryd.underlying3 rfl rfl (Rd.at 0 rfl rfl)) ?_
          refine TA_p 8 rfl (by kernel_rfl) (PV_indexNums Tryd.underlying9 rfl rfl rfl hu hkl) ?_
          refine TA_done (by kernel_rfl) ?_
          refine T_block ?_
          refine T_seq ?_
          refine T_region ?_
          refine TL_p (PV_bin rfl rfl bin_eql) ?_
          refine TL_p (PV_assign rfl) ?_
          refine TL_nil ?_
          refine T_else rfl (by exact decide_eq_false (by omega)) ?_
          refine T_seq ?_
          refine T_region ?_
          refine TL_p (PV_bin rfl rfl bin_eql) ?_
          refine TL_p (PV_assign rfl) ?_
          refine TL_nil ?_
          refine T_then rfl (by exact decide_eq_true (by omega)) ?_
          refine T_region ?_
          refine TL_p (PV_loadAt Tryd.underlying30 rfl sz30 rfl (Rds.take 1 rfl rfl rfl)) ?_
          refine TL_p (PV_loadAt Tryd.underlying30 rfl sz30 rfl (Rds.take 1 rfl rfl rfl)) ?_
          refine TL_cons rfl (TO_bs (cs := [_, _, _, _, _, _]) Tryd.underlying28 zs30 (by decide) rfl rfl rfl rfl rfl rfl fun g2010 => ?_)
          refine TL_p (PV_bld (cs := [_, _, _, _, _, _]) Tryd.underlying30 pl30 zr30 rfl rfl) ?_
          refine TL_cons rfl (TO_bs (cs := [_, _, _, _, _, _, _, _, _, _, _, _]) Tryd.underlying28 zs30 (by decide) rfl rfl rfl rfl rfl rfl fun g2011 => ?_)
          refine TL_p (PV_bld (cs := [_, _, _, _, _, _]) Tryd.underlying30 pl30 zr30 rfl rfl) ?_
          refine TL_cons rfl (TO_store 3 rfl rfl rfl sz30 rfl rfl rfl (all_one rfl) (by first | exact Nat.le_of_ble_eq_true rfl | (simp; done) | (simp; omega) | omega) ?_)
          refine TL_nil ?_
          refine T_seq ?_
          refine T_region ?_
          refine TL_p (PV_move rfl) ?_
          refine TL_p (PV_nilCheck rfl) ?_
          refine TL_p (PV_fieldAddr (D := 1) Tryd.underlying71 rfl sz3 (by decide) rfl rfl) ?_
          refine TL_p (PV_load Tryd.underlying3 rfl rfl (Rd.at 2 rfl rfl)) ?_
          refine TL_p (PV.cast (PV_bin rfl rfl bin_add) (wr64 (by omega))) ?_
          refine TL_p (PV_nilCheck rfl) ?_
          refine TL_p (PV_fieldAddr (D := 1) Tryd.underlying71 rfl sz3 (by decide) rfl rfl) ?_
          refine TL_cons rfl (TO_store1 2 rfl rfl rfl sz3 rfl rfl rfl (by first | exact Nat.le_of_ble_eq_true rfl | (simp; done) | (simp; omega) | omega) ?_)
          refine TL_nil ?_
          refine T_seq ?_
          refine T_region ?_
          refine TL_p (PV_loadAt Tryd.underlying30 rfl sz30 rfl (Rds.take 3 rfl rfl rfl)) ?_
          refine TL_cons rfl (TO_store 4 rfl rfl rfl sz30 rfl rfl rfl (all_one rfl) (by first | exact Nat.le_of_ble_eq_true rfl | (simp; done) | (simp; omega) | omega) ?_)
          refine TL_p (PV_assign rfl) ?_
          refine TL_nil ?_
          refine ?L21
          case L21 =>
            refine T_retP (H2 := rdC g s (k + 1) :: .own g2005 6 (⟨2, S4.zero, some ⟨g2011, 0, none⟩, 2, 2⟩ : Nv).cells :: .own g2001 6 (⟨2, S4.zero, some ⟨g2011, 0, none⟩, 2, 2⟩ : Nv).cells :: (X ++ (.sl (.slice (some ⟨g2011, 0, none⟩) 2 2) 6 2 (v_2004.cells ++ (⟨4, S4.zero, some ⟨g2010, 0, none⟩, 1, 1⟩ : Nv).cells) :: .sl (.slice (some ⟨g2010, 0, none⟩) 1 1) 6 1 v_2004.cells :: N_2004))) ((((perm_pick (i := 2) rfl).trans (List.Perm.cons _ ((perm_pick (i := 2) rfl).trans (List.Perm.cons _ ((perm_pick (i := 2) rfl).trans (List.Perm.cons _ (List.Perm.refl _)))))))).trans (List.Perm.cons _ (List.Perm.cons _ (List.Perm.cons _ ((List.Perm.cons _ perm_tail).trans perm_tail))))) (ResV_ct rfl Tryd.underlying30 rfl sz30 rfl (Rds.take 2 rfl rfl rfl) rfl) ?_
            exact ⟨rdC g s (k + 1) :: (X ++ (.sl (.slice (some ⟨g2011, 0, none⟩) 2 2) 6 2 (v_2004.cells ++ (⟨4, S4.zero, some ⟨g2010, 0, none⟩, 1, 1⟩ : Nv).cells) :: .sl (.slice (some ⟨g2010, 0, none⟩) 1 1) 6 1 v_2004.cells :: N_2004)), (by repeat (first | exact Sb.r | exact Sb.ar | exact Sb.al | apply Sb.c | apply Sb.d | refine Sb.t ?_)), ⟨2, S4.zero, some ⟨g2011, 0, none⟩, 2, 2⟩, _, rfl, ⟨_, _, v_2004, ⟨4, S4.zero, some ⟨g2010, 0, none⟩, 1, 1⟩, rfl, Nat.le_refl _, Shows.at 0 rfl, h_2004_0.mono fun w h => h.sub (List.Sublist.cons _ (List.sublist_cons_self _ _)), ⟨_, _, v_2004, rfl, Nat.le_refl _, Shows.at 1 rfl, h_2004_0.mono fun w h => h.sub (List.Sublist.cons _ (List.sublist_cons_self _ _))⟩⟩, rfl⟩
        · rw [if_neg h43] at hr
          by_cases h63 : rd s k = 63
          · rw [if_pos h63] at hr
            cases hr
            refine TCall_intro (args := [_, _]) Tryd.func56 rfl Tryd.ntmps56 (Nat.le_of_ble_eq_true rfl) ?_
            refine T_seq ?_
            refine T_region ?_
            refine TL_cons rfl (TO_alloc rfl zr30 fun g3001 => ?_)
            refine TL_p (PV_assign rfl) ?_
            refine TL_nil ?_
            refine T_seq ?_
            refine T_region ?_
            refine TL_p (PV_move rfl) ?_
            refine TL_p (PV_move rfl) ?_
            refine TL_perm ((perm_pick (i := 1) rfl).trans (List.Perm.cons _ (List.Perm.refl _))) ?_
            refine TL_cons rfl (TO_call0 call62 rfl rfl (ho) ?_)
            rintro v11_3004 H11_3004 ⟨v_3004, N_3004, rfl, h_3004_0, rfl⟩
            refine TL_p (PV_move rfl) ?_
            refine TL_p (PV_extract rfl rfl) ?_
            refine TL_p (PV_extract rfl rfl) ?_
            refine TL_cons rfl (TO_alloc rfl zr30 fun g3005 => ?_)
            refine TL_cons rfl (TO_store 0 rfl rfl rfl sz30 rfl rfl rfl (all_one rfl) (by first | exact Nat.le_of_ble_eq_true rfl | (simp; done) | (simp; omega) | omega) ?_)
            refine TL_p (PV_assign rfl) ?_
            refine TL_nil ?_
            refine T_seq ?_
            refine T_seq ?_
            refine T_region ?_
            refine TL_p (PV_move rfl) ?_
            refine TL_p (PV_bin rfl rfl (bin_nil_nnil Tryd.underlying34)) ?_
            refine TL_p (PV_move rfl) ?_
            refine TL_yes rfl rfl rfl (TO_pure rfl (PV_move rfl) ?_)
            refine TL_perm ((perm_pick (i := 1) rfl).trans (List.Perm.cons _ (List.Perm.refl _))) ?_
            refine TL_yes rfl rfl rfl (TO_call0 call34 rfl rfl (more_y hkl) ?_)
            rintro v18_3009 H18_3009 ⟨rfl, rfl⟩
            refine TL_yes rfl rfl rfl (TO_pure rfl (PV_not rfl) ?_)
            refine TL_p (PV_pickOr rfl rfl rfl) ?_
            refine TL_nil ?_
            refine T_else rfl (by rfl) ?_
            refine T_skip ?_
            refine T_seq ?_
            refine T_seq ?_
            refine T_drawn (WH _ _ _) mixed (fun w h => h) ?_
            refine TA_p 0 rfl (by kernel_rfl) (PV_move rfl) ?_
            refine TA_p 1 rfl (by kernel_rfl) (PV_nilCheck rfl) ?_
            refine TA_p 2 rfl (by kernel_rfl) (PV_fieldAddr (D := 0) Tryd.underlying71 rfl sz9 (by decide) rfl rfl) ?_
            refine TA_p 3 rfl (by kernel_rfl) (PV_load Tryd.underlying9 rfl rfl (Rd.at 0 rfl rfl)) ?_
            refine TA_p 4 rfl (by kernel_rfl) (PV_move rfl) ?_
            refine TA_p 5 rfl (by kernel_rfl) (PV_nilCheck rfl) ?_
            refine TA_p 6 rfl (by kernel_rfl) (PV_fieldAddr (D := 1) Tryd.underlying71 rfl sz3 (by decide) rfl rfl) ?_
            refine TA_p 7 rfl (by kernel_rfl) (PV_load Tryd.underlying3 rfl rfl (Rd.at 0 rfl rfl)) ?_
            refine TA_p 8 rfl (by kernel_rfl) (PV_indexNums Tryd.underlying9 rfl rfl rfl hu hkl) ?_
            refine TA_done (by kernel_rfl) ?_
            refine T_block ?_
            refine T_seq ?_
            refine T_region ?_
            refine TL_p (PV_bin rfl rfl bin_eql) ?_
            refine TL_p (PV_assign rfl) ?_
            refine TL_nil ?_
            refine T_else rfl (by exact decide_eq_false (by omega)) ?_
            refine T_seq ?_
            refine T_region ?_
            refine TL_p (PV_bin rfl rfl bin_eql) ?_
            refine TL_p (PV_assign rfl) ?_
            refine TL_nil ?_
            refine T_else rfl (by exact decide_eq_false (by omega)) ?_
            refine T_seq ?_
            refine T_region ?_
            refine TL_p (PV_bin rfl rfl bin_eql) ?_
            refine TL_p (PV_assign rfl) ?_
            refine TL_nil ?_
            refine T_then rfl (by exact decide_eq_true (by omega)) ?_
            refine T_region ?_
            refine TL_p (PV_loadAt Tryd.underlying30 rfl sz30 rfl (Rds.take 1 rfl rfl rfl)) ?_
            refine TL_p (PV_bld (cs := [_, _, _, _, _, _]) Tryd.underlying30 pl30 zr30 rfl rfl) ?_
            refine TL_cons rfl (TO_bs (cs := [_, _, _, _, _, _, _, _, _, _, _, _]) Tryd.underlying28 zs30 (by decide) rfl rfl rfl rfl rfl rfl fun g3010 => ?_)
            refine TL_p (PV_bld (cs := [_, _, _, _, _, _]) Tryd.underlying30 pl30 zr30 rfl rfl) ?_
            refine TL_cons rfl (TO_store 2 rfl rfl rfl sz30 rfl rfl rfl (all_one rfl) (by first | exact Nat.le_of_ble_eq_true rfl | (simp; done) | (simp; omega) | omega) ?_)
            refine TL_nil ?_
            refine T_seq ?_
            refine T_region ?_
            refine TL_p (PV_move rfl) ?_
            refine TL_p (PV_nilCheck rfl) ?_
            refine TL_p (PV_fieldAddr (D := 1) Tryd.underlying71 rfl sz3 (by decide) rfl rfl) ?_
            refine TL_p (PV_load Tryd.underlying3 rfl rfl (Rd.at 1 rfl rfl)) ?_
            refine TL_p (PV.cast (PV_bin rfl rfl bin_add) (wr64 (by omega))) ?_
            refine TL_p (PV_nilCheck rfl) ?_
            refine TL_p (PV_fieldAddr (D := 1) Tryd.underlying71 rfl sz3 (by decide) rfl rfl) ?_
            refine TL_cons rfl (TO_store1 1 rfl rfl rfl sz3 rfl rfl rfl (by first | exact Nat.le_of_ble_eq_true rfl | (simp; done) | (simp; omega) | omega) ?_)
            refine TL_nil ?_
            refine T_seq ?_
            refine T_region ?_
            refine TL_p (PV_loadAt Tryd.underlying30 rfl sz30 rfl (Rds.take 2 rfl rfl rfl)) ?_
            refine TL_cons rfl (TO_store 3 rfl rfl rfl sz30 rfl rfl rfl (all_one rfl) (by first | exact Nat.le_of_ble_eq_true rfl | (simp; done) | (simp; omega) | omega) ?_)
            refine TL_p (PV_assign rfl) ?_
            refine TL_nil ?_
            refine ?L31
            case L31 =>
              refine T_retP (H2 := rdC g s (k + 1) :: .own g3005 6 (⟨3, S4.zero, some ⟨g3010, 0, none⟩, 2, 2⟩ : Nv).cells :: .own g3001 6 (⟨3, S4.zero, some ⟨g3010, 0, none⟩, 2, 2⟩ : Nv).cells :: (X ++ (.sl (.slice (some ⟨g3010, 0, none⟩) 2 2) 6 2 (v_3004.cells ++ nv0.cells) :: N_3004))) ((((perm_pick (i := 1) rfl).trans (List.Perm.cons _ ((perm_pick (i := 1) rfl).trans (List.Perm.cons _ ((perm_pick (i := 1) rfl).trans (List.Perm.cons _ (List.Perm.refl _)))))))).trans (List.Perm.cons _ (List.Perm.cons _ (List.Perm.cons _ perm_tail)))) (ResV_ct rfl Tryd.underlying30 rfl sz30 rfl (Rds.take 2 rfl rfl rfl) rfl) ?_
              exact ⟨rdC g s (k + 1) :: (X ++ (.sl (.slice (some ⟨g3010, 0, none⟩) 2 2) 6 2 (v_3004.cells ++ nv0.cells) :: N_3004)), (by repeat (first | exact Sb.r | exact Sb.ar | exact Sb.al | apply Sb.c | apply Sb.d | refine Sb.t ?_)), ⟨3, S4.zero, some ⟨g3010, 0, none⟩, 2, 2⟩, _, rfl, ⟨_, _, v_3004, nv0, rfl, Nat.le_refl _, Shows.at 0 rfl, h_3004_0.mono fun w h => h.sub (List.sublist_cons_self _ _), rfl⟩, rfl⟩
          · rw [if_neg h63] at hr
            cases hr
            refine TCall_intro (args := [_, _]) Tryd.func56 rfl Tryd.ntmps56 (Nat.le_of_ble_eq_true rfl) ?_
            refine T_seq ?_
            refine T_region ?_
            refine TL_cons rfl (TO_alloc rfl zr30 fun g4001 => ?_)
            refine TL_p (PV_assign rfl) ?_
            refine TL_nil ?_
            refine T_seq ?_
            refine T_region ?_
            refine TL_p (PV_move rfl) ?_
            refine TL_p (PV_move rfl) ?_
            refine TL_perm ((perm_pick (i := 1) rfl).trans (List.Perm.cons _ (List.Perm.refl _))) ?_
            refine TL_cons rfl (TO_call0 call62 rfl rfl (ho) ?_)
            rintro v11_4004 H11_4004 ⟨v_4004, N_4004, rfl, h_4004_0, rfl⟩
            refine TL_p (PV_move rfl) ?_
            refine TL_p (PV_extract rfl rfl) ?_
            refine TL_p (PV_extract rfl rfl) ?_
            refine TL_cons rfl (TO_alloc rfl zr30 fun g4005 => ?_)
            refine TL_cons rfl (TO_store 0 rfl rfl rfl sz30 rfl rfl rfl (all_one rfl) (by first | exact Nat.le_of_ble_eq_true rfl | (simp; done) | (simp; omega) | omega) ?_)
            refine TL_p (PV_assign rfl) ?_
            refine TL_nil ?_
            refine T_seq ?_
            refine T_seq ?_
            refine T_region ?_
            refine TL_p (PV_move rfl) ?_
            refine TL_p (PV_bin rfl rfl (bin_nil_nnil Tryd.underlying34)) ?_
            refine TL_p (PV_move rfl) ?_
            refine TL_yes rfl rfl rfl (TO_pure rfl (PV_move rfl) ?_)
            refine TL_perm ((perm_pick (i := 1) rfl).trans (List.Perm.cons _ (List.Perm.refl _))) ?_
            refine TL_yes rfl rfl rfl (TO_call0 call34 rfl rfl (more_y hkl) ?_)
            rintro v18_4009 H18_4009 ⟨rfl, rfl⟩
            refine TL_yes rfl rfl rfl (TO_pure rfl (PV_not rfl) ?_)
            refine TL_p (PV_pickOr rfl rfl rfl) ?_
            refine TL_nil ?_
            refine T_else rfl (by rfl) ?_
            refine T_skip ?_
            refine T_seq ?_
            refine T_seq ?_
            refine T_drawn (WH _ _ _) mixed (fun w h => h) ?_
            refine TA_p 0 rfl (by kernel_rfl) (PV_move rfl) ?_
            refine TA_p 1 rfl (by kernel_rfl) (PV_nilCheck rfl) ?_
            refine TA_p 2 rfl (by kernel_rfl) (PV_fieldAddr (D := 0) Tryd.underlying71 rfl sz9 (by decide) rfl rfl) ?_
            refine TA_p 3 rfl (by kernel_rfl) (PV_load Tryd.underlying9 rfl rfl (Rd.at 0 rfl rfl)) ?_
            refine TA_p 4 rfl (by kernel_rfl) (PV_move rfl) ?_
            refine TA_p 5 rfl (by kernel_rfl) (PV_nilCheck rfl) ?_
            refine TA_p 6 rfl (by kernel_rfl) (PV_fieldAddr (D := 1) Tryd.underlying71 rfl sz3 (by decide) rfl rfl) ?_
            refine TA_p 7 rfl (by kernel_rfl) (PV_load Tryd.underlying3 rfl rfl (Rd.at 0 rfl rfl)) ?_
            refine TA_p 8 rfl (by kernel_rfl) (PV_indexNums Tryd.underlying9 rfl rfl rfl hu hkl) ?_
            refine TA_done (by kernel_rfl) ?_
            refine T_block ?_
            refine T_seq ?_
            refine T_region ?_
            refine TL_p (PV_bin rfl rfl bin_eql) ?_
            refine TL_p (PV_assign rfl) ?_
            refine TL_nil ?_
            refine T_else rfl (by exact decide_eq_false (by omega)) ?_
            refine T_seq ?_
            refine T_region ?_
            refine TL_p (PV_bin rfl rfl bin_eql) ?_
            refine TL_p (PV_assign rfl) ?_
            refine TL_nil ?_
            refine T_else rfl (by exact decide_eq_false (by omega)) ?_
            refine T_seq ?_
            refine T_region ?_
            refine TL_p (PV_bin rfl rfl bin_eql) ?_
            refine TL_p (PV_assign rfl) ?_
            refine TL_nil ?_
            refine T_else rfl (by exact decide_eq_false (by omega)) ?_
            refine T_seq ?_
            refine T_region ?_
            refine TL_p (PV_loadAt Tryd.underlying30 rfl sz30 rfl (Rds.take 1 rfl rfl rfl)) ?_
            refine TL_cons rfl (TO_store 2 rfl rfl rfl sz30 rfl rfl rfl (all_one rfl) (by first | exact Nat.le_of_ble_eq_true rfl | (simp; done) | (simp; omega) | omega) ?_)
            refine TL_p (PV_assign rfl) ?_
            refine TL_nil ?_
            refine ?L41
            case L41 =>
              refine T_ret ?_
              exact ret_ret (ResV_ct rfl Tryd.underlying30 rfl sz30 rfl (Rds.take 2 rfl rfl rfl) rfl) ⟨rdC g s j :: (X ++ N_4004), (by repeat (first | exact Sb.r | exact Sb.ar | exact Sb.al | apply Sb.c | apply Sb.d | refine Sb.t ?_)), v_4004, N_4004, rfl, h_4004_0, rfl⟩
    · rw [if_neg hkl] at hr
      cases hr
      refine TCall_intro (args := [_, _]) Tryd.func56 rfl Tryd.ntmps56 (Nat.le_of_ble_eq_true rfl) ?_
      refine T_seq ?_
      refine T_region ?_
      refine TL_cons rfl (TO_alloc rfl zr30 fun g5001 => ?_)
      refine TL_p (PV_assign rfl) ?_
      refine TL_nil ?_
      refine T_seq ?_
      refine T_region ?_
      refine TL_p (PV_move rfl) ?_
      refine TL_p (PV_move rfl) ?_
      refine TL_perm ((perm_pick (i := 1) rfl).trans (List.Perm.cons _ (List.Perm.refl _))) ?_
      refine TL_cons rfl (TO_call0 call62 rfl rfl (ho) ?_)
      rintro v11_5004 H11_5004 ⟨v_5004, N_5004, rfl, h_5004_0, rfl⟩
      refine TL_p (PV_move rfl) ?_
      refine TL_p (PV_extract rfl rfl) ?_
      refine TL_p (PV_extract rfl rfl) ?_
      refine TL_cons rfl (TO_alloc rfl zr30 fun g5005 => ?_)
      refine TL_cons rfl (TO_store 0 rfl rfl rfl sz30 rfl rfl rfl (all_one rfl) (by first | exact Nat.le_of_ble_eq_true rfl | (simp; done) | (simp; omega) | omega) ?_)
      refine TL_p (PV_assign rfl) ?_
      refine TL_nil ?_
      refine T_seq ?_
      refine T_seq ?_
      refine T_region ?_
      refine TL_p (PV_move rfl) ?_
      refine TL_p (PV_bin rfl rfl (bin_nil_nnil Tryd.underlying34)) ?_
      refine TL_p (PV_move rfl) ?_
      refine TL_yes rfl rfl rfl (TO_pure rfl (PV_move rfl) ?_)
      refine TL_perm ((perm_pick (i := 1) rfl).trans (List.Perm.cons _ (List.Perm.refl _))) ?_
      refine TL_yes rfl rfl rfl (TO_call0 call34 rfl rfl (more_n hkl) ?_)
      rintro v18_5009 H18_5009 ⟨rfl, rfl⟩
      refine TL_yes rfl rfl rfl (TO_pure rfl (PV_not rfl) ?_)
      refine TL_p (PV_pickOr rfl rfl rfl) ?_
      refine TL_nil ?_
      refine T_then rfl (by rfl) ?_
      refine T_seq ?_
      refine T_region ?_
      refine TL_p (PV_loadAt Tryd.underlying30 rfl sz30 rfl (Rds.take 1 rfl rfl rfl)) ?_
      refine TL_p (PV_move rfl) ?_
      refine TL_cons rfl (TO_store 2 rfl rfl rfl sz30 rfl rfl rfl (all_one rfl) (by first | exact Nat.le_of_ble_eq_true rfl | (simp; done) | (simp; omega) | omega) ?_)
      refine TL_p (PV_assign rfl) ?_
      refine TL_nil ?_
      refine ?L51
      case L51 =>
        refine T_ret ?_
        exact ret_ret (ResV_ct rfl Tryd.underlying30 rfl sz30 rfl (Rds.take 2 rfl rfl rfl) rfl) ⟨rdC g s j :: (X ++ N_5004), (by repeat (first | exact Sb.r | exact Sb.ar | exact Sb.al | apply Sb.c | apply Sb.d | refine Sb.t ?_)), v_5004, N_5004, rfl, h_5004_0, rfl⟩
end
end Go.Proofs.YtijpbpnfachlkaaDoor.SL
