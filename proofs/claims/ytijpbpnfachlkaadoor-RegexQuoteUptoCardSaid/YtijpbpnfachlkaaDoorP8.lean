import Derived.Test.YtijpbpnfachlkaaDoorP7
/- Patterns: alternatives, and the whole. No statement is proved here. -/
set_option linter.unusedVariables false
set_option linter.unusedSimpArgs false
set_option maxRecDepth 100000
set_option maxHeartbeats 8000000
namespace Go.Proofs.YtijpbpnfachlkaaDoor.SL
open Go Go.RowKit
section
variable {w0 : World} {B : Nat} {H X : List Chunk}
theorem either_ok {g : Nat} {s : List Int} {i0 j deep : Nat} {t : Rx} {pE : Nat → Res Rx} {top : Bool} (h : PF g s deep pE top w0 B) (hi0 : i0 ≤ s.length) (hr : pEither pE top s i0 = .ok t j) :
    ReadsOk 33 w0 B #[.pointer (some ⟨g, 0, none⟩), .int .i64 (deep : Int)] g s i0 t j := by
  intro X
  have hu := h.hu
  have hs := h.hs
  have hd := h.hd
  unfold pEither at hr
  cases hp : pThen pE top s i0 with
  | bad q e => rw [hp] at hr; cases hr
  | ok x0 k0 =>
    rw [hp] at hr
    simp only at hr
    have hk0 := pThenL_lt h hi0 hp
    have ho := fun {X : List Chunk} => then_ok h hi0 hp X
    refine TCall_intro (args := [_, _]) Tryd.func33 rfl Tryd.ntmps33 (Nat.le_of_ble_eq_true rfl) ?_
    refine T_seq ?_
    refine T_region ?_
    refine TL_cons rfl (TO_alloc rfl zr30 fun g1 => ?_)
    refine TL_p (PV_assign rfl) ?_
    refine TL_nil ?_
    refine T_seq ?_
    refine T_region ?_
    refine TL_p (PV_move rfl) ?_
    refine TL_p (PV_move rfl) ?_
    refine TL_perm ((perm_pick (i := 1) rfl).trans (List.Perm.cons _ (List.Perm.refl _))) ?_
    refine TL_cons rfl (TO_call0 call44 rfl rfl (ho) ?_)
    rintro v12_4 H12_4 ⟨v_4, N_4, rfl, h_4_0, rfl⟩
    refine TL_p (PV_move rfl) ?_
    refine TL_p (PV_extract rfl rfl) ?_
    refine TL_p (PV_extract rfl rfl) ?_
    refine TL_cons rfl (TO_alloc rfl zr30 fun g5 => ?_)
    refine TL_cons rfl (TO_store 0 rfl rfl rfl sz30 rfl rfl rfl (all_one rfl) (by first | exact Nat.le_of_ble_eq_true rfl | (simp; done) | (simp; omega) | omega) ?_)
    refine TL_p (PV_assign rfl) ?_
    refine TL_nil ?_
    refine T_seq ?_
    refine T_block ?_
    refine ?L1
    case L1 =>
      refine T_loopP5 (fun (n : Nat) (i : Nat) (x : Rx) (xv : Nv) (N : List Chunk) => i ≤ s.length ∧ s.length < i + n ∧ pEitherL pE top s n i x = .ok t j ∧ Tr (WH w0 B N) x xv) (fun n _ _ _ _ => n) (fun n i x xv N => [(0, .pointer (some ⟨g, 0, none⟩)), (1, .int .i64 (deep : Int)), (4, .pointer (some ⟨g1, 0, none⟩)), (6, .pointer (some ⟨g5, 0, none⟩)), (7, .nilIface)]) (fun n i x xv N => rdC g s i :: .own g5 6 xv.cells :: .own g1 6 nv0.cells :: (X ++ N)) (s.length + 1) k0 x0 v_4 N_4 ⟨hk0.2, by omega, hr, h_4_0⟩ (by repeat (first | exact FrSub.nil _ | refine FrSub.cons rfl ?_)) (Has.of_perm ((perm_pick (i := 1) rfl).trans (List.Perm.cons _ ((perm_pick (i := 0) rfl).trans (List.Perm.cons _ (List.Perm.refl _))))) (by repeat (first | exact Sb.r | exact Sb.ar | exact Sb.al | apply Sb.c | apply Sb.d | refine Sb.t ?_))) ?_
      rintro n i x xv N ⟨hi, hn, hl, htr⟩
      obtain ⟨n, rfl⟩ : ∃ k, n = k + 1 := ⟨n - 1, by omega⟩
      unfold pEitherL at hl
      by_cases h124 : isB s i 124 = true
      · rw [if_pos h124] at hl
        have hil := (isB_lt h124).1
        cases hp2 : pThen pE top s (i + 1) with
        | bad q e => rw [hp2] at hl; cases hl
        | ok y k =>
          rw [hp2] at hl
          simp only at hl
          have hk := pThenL_lt h (by omega) hp2
          have ho2 := fun {X : List Chunk} => then_ok h (show i + 1 ≤ s.length by omega) hp2 X
          refine T_seq ?_
          refine T_seq ?_
          refine T_region ?_
          refine TL_p (PV_move rfl) ?_
          refine TL_p (PV_bin rfl rfl (bin_nil_nil Tryd.underlying34)) ?_
          refine TL_p (PV_move rfl) ?_
          refine TL_yes rfl rfl rfl (TO_pure rfl (PV_move rfl) ?_)
          refine TL_perm ((perm_pick (i := 0) rfl).trans (List.Perm.cons _ (List.Perm.refl _))) ?_
          refine TL_yes rfl rfl rfl (TO_call0 call45 rfl rfl (is_b 124 true hu h124) ?_)
          rintro v19_2002 H19_2002 ⟨rfl, rfl⟩
          refine TL_p (PV_pickAnd rfl rfl rfl) ?_
          refine TL_nil ?_
          refine T_then rfl (by rfl) ?_
          refine T_skip ?_
          refine T_block ?_
          refine T_seq ?_
          refine T_region ?_
          refine TL_p (PV_move rfl) ?_
          refine TL_p (PV_nilCheck rfl) ?_
          refine TL_p (PV_fieldAddr (D := 1) Tryd.underlying71 rfl sz3 (by decide) rfl rfl) ?_
          refine TL_p (PV_load Tryd.underlying3 rfl rfl (Rd.at 0 rfl rfl)) ?_
          refine TL_p (PV.cast (PV_bin rfl rfl bin_add) (wr64 (by omega))) ?_
          refine TL_p (PV_nilCheck rfl) ?_
          refine TL_p (PV_fieldAddr (D := 1) Tryd.underlying71 rfl sz3 (by decide) rfl rfl) ?_
          refine TL_cons rfl (TO_store1 0 rfl rfl rfl sz3 rfl rfl rfl (by first | exact Nat.le_of_ble_eq_true rfl | (simp; done) | (simp; omega) | omega) ?_)
          refine TL_nil ?_
          refine T_seq ?_
          refine T_region ?_
          refine TL_cons rfl (TO_alloc rfl zr30 fun g2004 => ?_)
          refine TL_nil ?_
          refine T_seq ?_
          refine T_region ?_
          refine TL_p (PV_move rfl) ?_
          refine TL_p (PV_move rfl) ?_
          refine TL_perm ((perm_pick (i := 1) rfl).trans (List.Perm.cons _ (List.Perm.refl _))) ?_
          refine TL_cons rfl (TO_call0 call44 rfl rfl (ho2) ?_)
          rintro v31_2007 H31_2007 ⟨v_2007, N_2007, rfl, h_2007_0, rfl⟩
          refine TL_p (PV_move rfl) ?_
          refine TL_p (PV_extract rfl rfl) ?_
          refine TL_p (PV_extract rfl rfl) ?_
          refine TL_cons rfl (TO_store 1 rfl rfl rfl sz30 rfl rfl rfl (all_one rfl) (by first | exact Nat.le_of_ble_eq_true rfl | (simp; done) | (simp; omega) | omega) ?_)
          refine TL_p (PV_assign rfl) ?_
          refine TL_nil ?_
          refine T_region ?_
          refine TL_p (PV_loadAt Tryd.underlying30 rfl sz30 rfl (Rds.take 2 rfl rfl rfl)) ?_
          refine TL_p (PV_loadAt Tryd.underlying30 rfl sz30 rfl (Rds.take 1 rfl rfl rfl)) ?_
          refine TL_cons rfl (TO_bs (cs := [_, _, _, _, _, _, _, _, _, _, _, _]) Tryd.underlying28 zs30 (by decide) rfl rfl rfl rfl rfl rfl fun g2009 => ?_)
          refine TL_p (PV_bld (cs := [_, _, _, _, _, _]) Tryd.underlying30 pl30 zr30 rfl rfl) ?_
          refine TL_cons rfl (TO_store 3 rfl rfl rfl sz30 rfl rfl rfl (all_one rfl) (by first | exact Nat.le_of_ble_eq_true rfl | (simp; done) | (simp; omega) | omega) ?_)
          refine TL_nil ?_
          refine ?L21
          case L21 =>
            exact ⟨n, k, .either x y, ⟨3, S4.zero, some ⟨g2009, 0, none⟩, 2, 2⟩, .sl (.slice (some ⟨g2009, 0, none⟩) 2 2) 6 2 (xv.cells ++ v_2007.cells) :: (N ++ N_2007), ⟨hk.2, by omega, hl, ⟨_, _, xv, v_2007, rfl, Nat.le_refl _, Shows.at 0 rfl, htr.mono fun w hw => hw.sub (List.Sublist.cons _ (List.sublist_append_left _ _)), h_2007_0.mono fun w hw => hw.sub (List.Sublist.cons _ (List.sublist_append_right _ _))⟩⟩, by omega, (by repeat (first | exact FrSub.nil _ | refine FrSub.cons rfl ?_)), Has.of_perm ((((perm_pick (i := 1) rfl).trans (List.Perm.cons _ ((perm_pick (i := 2) rfl).trans (List.Perm.cons _ ((perm_pick (i := 2) rfl).trans (List.Perm.cons _ ((perm_pick (i := 1) rfl).trans (List.Perm.cons _ (List.Perm.refl _)))))))))).trans (List.Perm.cons _ (List.Perm.cons _ (List.Perm.cons _ (List.Perm.cons _ perm_tail2))))) (by repeat (first | exact Sb.r | exact Sb.ar | exact Sb.al | apply Sb.c | apply Sb.d | refine Sb.t ?_))⟩
      · rw [if_neg h124] at hl
        have h124f : isB s i 124 = false := by simpa using h124
        obtain ⟨rfl, rfl⟩ : x = t ∧ i = j := by injection hl with e1 e2; exact ⟨e1, e2⟩
        refine T_seq ?_
        refine T_seq ?_
        refine T_region ?_
        refine TL_p (PV_move rfl) ?_
        refine TL_p (PV_bin rfl rfl (bin_nil_nil Tryd.underlying34)) ?_
        refine TL_p (PV_move rfl) ?_
        refine TL_yes rfl rfl rfl (TO_pure rfl (PV_move rfl) ?_)
        refine TL_perm ((perm_pick (i := 0) rfl).trans (List.Perm.cons _ (List.Perm.refl _))) ?_
        refine TL_yes rfl rfl rfl (TO_call0 call45 rfl rfl (is_b 124 false hu h124f) ?_)
        rintro v19_4002 H19_4002 ⟨rfl, rfl⟩
        refine TL_p (PV_pickAnd rfl rfl rfl) ?_
        refine TL_nil ?_
        refine T_else rfl (by rfl) ?_
        refine T_exit ?_
        refine T_seq ?_
        refine T_seq ?_
        refine T_region ?_
        refine TL_p (PV_move rfl) ?_
        refine TL_p (PV_bin rfl rfl (bin_nil_nnil Tryd.underlying34)) ?_
        refine TL_nil ?_
        refine T_else rfl (by rfl) ?_
        refine T_skip ?_
        refine T_seq ?_
        refine T_region ?_
        refine TL_p (PV_loadAt Tryd.underlying30 rfl sz30 rfl (Rds.take 1 rfl rfl rfl)) ?_
        refine TL_cons rfl (TO_store 2 rfl rfl rfl sz30 rfl rfl rfl (all_one rfl) (by first | exact Nat.le_of_ble_eq_true rfl | (simp; done) | (simp; omega) | omega) ?_)
        refine TL_p (PV_assign rfl) ?_
        refine TL_nil ?_
        refine ?L41
        case L41 =>
          refine T_ret ?_
          exact ret_ret (ResV_ct rfl Tryd.underlying30 rfl sz30 rfl (Rds.take 2 rfl rfl rfl) rfl) ⟨rdC g s i :: (X ++ N), (by repeat (first | exact Sb.r | exact Sb.ar | exact Sb.al | apply Sb.c | apply Sb.d | refine Sb.t ?_)), xv, N, rfl, htr, rfl⟩
theorem either_bad {g : Nat} {s : List Int} {i0 p j deep : Nat} {pE : Nat → Res Rx} {top : Bool} (h : PF g s deep pE top w0 B) (hi0 : i0 ≤ s.length) (hr : pEither pE top s i0 = .bad p j) :
    ReadsBad 33 w0 B #[.pointer (some ⟨g, 0, none⟩), .int .i64 (deep : Int)] g s i0 p j := by
  intro X
  have hu := h.hu
  have hs := h.hs
  have hd := h.hd
  unfold pEither at hr
  cases hp : pThen pE top s i0 with
  | bad q e =>
    rw [hp] at hr
    cases hr
    have hb := fun {X : List Chunk} => then_bad h hi0 hp X
    refine TCall_intro (args := [_, _]) Tryd.func33 rfl Tryd.ntmps33 (Nat.le_of_ble_eq_true rfl) ?_
    refine T_seq ?_
    refine T_region ?_
    refine TL_cons rfl (TO_alloc rfl zr30 fun g6001 => ?_)
    refine TL_p (PV_assign rfl) ?_
    refine TL_nil ?_
    refine T_seq ?_
    refine T_region ?_
    refine TL_p (PV_move rfl) ?_
    refine TL_p (PV_move rfl) ?_
    refine TL_perm ((perm_pick (i := 1) rfl).trans (List.Perm.cons _ (List.Perm.refl _))) ?_
    refine TL_cons rfl (TO_call0 call44 rfl rfl (hb) ?_)
    rintro v12_6004 H12_6004 ⟨rfl, rfl⟩
    refine TL_p (PV_move rfl) ?_
    refine TL_p (PV_extract rfl rfl) ?_
    refine TL_p (PV_extract rfl rfl) ?_
    refine TL_cons rfl (TO_alloc rfl zr30 fun g6005 => ?_)
    refine TL_cons rfl (TO_store 0 rfl rfl rfl sz30 rfl rfl rfl (all_one rfl) (by first | exact Nat.le_of_ble_eq_true rfl | (simp; done) | (simp; omega) | omega) ?_)
    refine TL_p (PV_assign rfl) ?_
    refine TL_nil ?_
    refine T_seq ?_
    refine T_block ?_
    refine ?L61
    case L61 =>
      refine T_loopP1 (fun (u : Nat) => u = 0) (fun _ => 1) (fun _ => [(0, .pointer (some ⟨g, 0, none⟩)), (1, .int .i64 (deep : Int)), (4, .pointer (some ⟨g6001, 0, none⟩)), (6, .pointer (some ⟨g6005, 0, none⟩)), (7, faultV (p : Int))]) (fun _ => rdC g s j :: .own g6005 6 nv0.cells :: .own g6001 6 nv0.cells :: X) 0 rfl (by repeat (first | exact FrSub.nil _ | refine FrSub.cons rfl ?_)) (Has.of_perm ((perm_pick (i := 1) rfl).trans (List.Perm.cons _ ((perm_pick (i := 0) rfl).trans (List.Perm.cons _ (List.Perm.refl _))))) (by repeat (first | exact Sb.r | exact Sb.ar | exact Sb.al | apply Sb.c | apply Sb.d | refine Sb.t ?_))) ?_
      rintro u rfl
      refine T_seq ?_
      refine T_seq ?_
      refine T_region ?_
      refine TL_p (PV_move rfl) ?_
      refine TL_p (PV_bin rfl rfl (bin_if_nil Tryd.underlying34)) ?_
      refine TL_p (PV_move rfl) ?_
      refine TL_no (b := false) rfl rfl rfl rfl ?_
      refine TL_no (b := false) rfl rfl rfl rfl ?_
      refine TL_p (PV_pickF rfl (by first | assumption | rfl | (simp; done) | (simp; omega) | (simp [*]; done) | (simp [*]; omega)) rfl rfl) ?_
      refine TL_nil ?_
      refine T_else rfl (by rfl) ?_
      refine T_exit ?_
      refine T_seq ?_
      refine T_seq ?_
      refine T_region ?_
      refine TL_p (PV_move rfl) ?_
      refine TL_p (PV_bin rfl rfl (bin_if_nnil Tryd.underlying34)) ?_
      refine TL_nil ?_
      refine T_then rfl (by rfl) ?_
      refine T_seq ?_
      refine T_region ?_
      refine TL_p (PV_bld (cs := [_, _, _, _, _, _]) Tryd.underlying30 pl30 zr30 rfl rfl) ?_
      refine TL_p (PV_move rfl) ?_
      refine TL_cons rfl (TO_store 2 rfl rfl rfl sz30 rfl rfl rfl (all_one rfl) (by first | exact Nat.le_of_ble_eq_true rfl | (simp; done) | (simp; omega) | omega) ?_)
      refine TL_p (PV_assign rfl) ?_
      refine TL_nil ?_
      refine T_ret ?_
      refine ret_ret (ResV_ct rfl Tryd.underlying30 rfl sz30 rfl (Rds.take 2 rfl rfl rfl) rfl) ⟨_, ?zb7002q72, ⟨rfl, rfl⟩⟩
      case zb7002q72 => exact (by (repeat (first | exact Sb.r | exact Sb.ar | exact Sb.al | apply Sb.c | apply Sb.d | refine Sb.t ?_)); done)
  | ok x0 k0 =>
    rw [hp] at hr
    simp only at hr
    have hk0 := pThenL_lt h hi0 hp
    have ho := fun {X : List Chunk} => then_ok h hi0 hp X
    refine TCall_intro (args := [_, _]) Tryd.func33 rfl Tryd.ntmps33 (Nat.le_of_ble_eq_true rfl) ?_
    refine T_seq ?_
    refine T_region ?_
    refine TL_cons rfl (TO_alloc rfl zr30 fun g1 => ?_)
    refine TL_p (PV_assign rfl) ?_
    refine TL_nil ?_
    refine T_seq ?_
    refine T_region ?_
    refine TL_p (PV_move rfl) ?_
    refine TL_p (PV_move rfl) ?_
    refine TL_perm ((perm_pick (i := 1) rfl).trans (List.Perm.cons _ (List.Perm.refl _))) ?_
    refine TL_cons rfl (TO_call0 call44 rfl rfl (ho) ?_)
    rintro v12_4 H12_4 ⟨v_4, N_4, rfl, h_4_0, rfl⟩
    refine TL_p (PV_move rfl) ?_
    refine TL_p (PV_extract rfl rfl) ?_
    refine TL_p (PV_extract rfl rfl) ?_
    refine TL_cons rfl (TO_alloc rfl zr30 fun g5 => ?_)
    refine TL_cons rfl (TO_store 0 rfl rfl rfl sz30 rfl rfl rfl (all_one rfl) (by first | exact Nat.le_of_ble_eq_true rfl | (simp; done) | (simp; omega) | omega) ?_)
    refine TL_p (PV_assign rfl) ?_
    refine TL_nil ?_
    refine T_seq ?_
    refine T_block ?_
    refine ?L1
    case L1 =>
      refine T_loopP6 (fun (n : Nat) (i : Nat) (x : Rx) (xv : Nv) (N : List Chunk) (fl : Bool) => (fl = false ∧ 0 < n ∧ i ≤ s.length ∧ s.length + 1 < i + n ∧ pEitherL pE top s (n - 1) i x = .bad p j) ∨ (fl = true ∧ i = j)) (fun n _ _ _ _ _ => n) (fun n i x xv N fl => [(0, .pointer (some ⟨g, 0, none⟩)), (1, .int .i64 (deep : Int)), (4, .pointer (some ⟨g1, 0, none⟩)), (6, .pointer (some ⟨g5, 0, none⟩)), (7, match fl with | true => faultV (p : Int) | false => .nilIface)]) (fun n i x xv N fl => rdC g s i :: .own g5 6 xv.cells :: .own g1 6 nv0.cells :: (X ++ N)) (s.length + 2) k0 x0 v_4 N_4 false (.inl ⟨rfl, by omega, hk0.2, by omega, hr⟩) (by repeat (first | exact FrSub.nil _ | refine FrSub.cons rfl ?_)) (Has.of_perm ((perm_pick (i := 1) rfl).trans (List.Perm.cons _ ((perm_pick (i := 0) rfl).trans (List.Perm.cons _ (List.Perm.refl _))))) (by repeat (first | exact Sb.r | exact Sb.ar | exact Sb.al | apply Sb.c | apply Sb.d | refine Sb.t ?_))) ?_
      rintro n i x xv N fl (⟨rfl, hn0, hi, hn, hl⟩ | ⟨rfl, rfl⟩)
      · obtain ⟨n, rfl⟩ : ∃ k, n = k + 2 := ⟨n - 2, by omega⟩
        rw [show n + 2 - 1 = n + 1 by omega] at hl
        unfold pEitherL at hl
        by_cases h124 : isB s i 124 = true
        · rw [if_pos h124] at hl
          have hil := (isB_lt h124).1
          cases hp2 : pThen pE top s (i + 1) with
          | bad q e =>
            rw [hp2] at hl
            cases hl
            have hb2 := fun {X : List Chunk} => then_bad h (show i + 1 ≤ s.length by omega) hp2 X
            refine T_seq ?_
            refine T_seq ?_
            refine T_region ?_
            refine TL_p (PV_move rfl) ?_
            refine TL_p (PV_bin rfl rfl (bin_nil_nil Tryd.underlying34)) ?_
            refine TL_p (PV_move rfl) ?_
            refine TL_yes rfl rfl rfl (TO_pure rfl (PV_move rfl) ?_)
            refine TL_perm ((perm_pick (i := 0) rfl).trans (List.Perm.cons _ (List.Perm.refl _))) ?_
            refine TL_yes rfl rfl rfl (TO_call0 call45 rfl rfl (is_b 124 true hu h124) ?_)
            rintro v19_1002 H19_1002 ⟨rfl, rfl⟩
            refine TL_p (PV_pickAnd rfl rfl rfl) ?_
            refine TL_nil ?_
            refine T_then rfl (by rfl) ?_
            refine T_skip ?_
            refine T_block ?_
            refine T_seq ?_
            refine T_region ?_
            refine TL_p (PV_move rfl) ?_
            refine TL_p (PV_nilCheck rfl) ?_
            refine TL_p (PV_fieldAddr (D := 1) Tryd.underlying71 rfl sz3 (by decide) rfl rfl) ?_
            refine TL_p (PV_load Tryd.underlying3 rfl rfl (Rd.at 0 rfl rfl)) ?_
            refine TL_p (PV.cast (PV_bin rfl rfl bin_add) (wr64 (by omega))) ?_
            refine TL_p (PV_nilCheck rfl) ?_
            refine TL_p (PV_fieldAddr (D := 1) Tryd.underlying71 rfl sz3 (by decide) rfl rfl) ?_
            refine TL_cons rfl (TO_store1 0 rfl rfl rfl sz3 rfl rfl rfl (by first | exact Nat.le_of_ble_eq_true rfl | (simp; done) | (simp; omega) | omega) ?_)
            refine TL_nil ?_
            refine T_seq ?_
            refine T_region ?_
            refine TL_cons rfl (TO_alloc rfl zr30 fun g1004 => ?_)
            refine TL_nil ?_
            refine T_seq ?_
            refine T_region ?_
            refine TL_p (PV_move rfl) ?_
            refine TL_p (PV_move rfl) ?_
            refine TL_perm ((perm_pick (i := 1) rfl).trans (List.Perm.cons _ (List.Perm.refl _))) ?_
            refine TL_cons rfl (TO_call0 call44 rfl rfl (hb2) ?_)
            rintro v31_1007 H31_1007 ⟨rfl, rfl⟩
            refine TL_p (PV_move rfl) ?_
            refine TL_p (PV_extract rfl rfl) ?_
            refine TL_p (PV_extract rfl rfl) ?_
            refine TL_cons rfl (TO_store 1 rfl rfl rfl sz30 rfl rfl rfl (all_one rfl) (by first | exact Nat.le_of_ble_eq_true rfl | (simp; done) | (simp; omega) | omega) ?_)
            refine TL_p (PV_assign rfl) ?_
            refine TL_nil ?_
            refine T_region ?_
            refine TL_p (PV_loadAt Tryd.underlying30 rfl sz30 rfl (Rds.take 2 rfl rfl rfl)) ?_
            refine TL_p (PV_loadAt Tryd.underlying30 rfl sz30 rfl (Rds.take 1 rfl rfl rfl)) ?_
            refine TL_cons rfl (TO_bs (cs := [_, _, _, _, _, _, _, _, _, _, _, _]) Tryd.underlying28 zs30 (by decide) rfl rfl rfl rfl rfl rfl fun g1009 => ?_)
            refine TL_p (PV_bld (cs := [_, _, _, _, _, _]) Tryd.underlying30 pl30 zr30 rfl rfl) ?_
            refine TL_cons rfl (TO_store 3 rfl rfl rfl sz30 rfl rfl rfl (all_one rfl) (by first | exact Nat.le_of_ble_eq_true rfl | (simp; done) | (simp; omega) | omega) ?_)
            refine TL_nil ?_
            refine ?L11
            case L11 =>
              exact ⟨n, j, x, ⟨3, S4.zero, some ⟨g1009, 0, none⟩, 2, 2⟩, N, true, .inr ⟨rfl, rfl⟩, by omega, (by repeat (first | exact FrSub.nil _ | refine FrSub.cons rfl ?_)), Has.of_perm ((perm_pick (i := 1) rfl).trans (List.Perm.cons _ ((perm_pick (i := 2) rfl).trans (List.Perm.cons _ ((perm_pick (i := 2) rfl).trans (List.Perm.cons _ (List.Perm.refl _))))))) (by repeat (first | exact Sb.r | exact Sb.ar | exact Sb.al | apply Sb.c | apply Sb.d | refine Sb.t ?_))⟩
          | ok y k =>
            rw [hp2] at hl
            simp only at hl
            have hk := pThenL_lt h (by omega) hp2
            have ho2 := fun {X : List Chunk} => then_ok h (show i + 1 ≤ s.length by omega) hp2 X
            refine T_seq ?_
            refine T_seq ?_
            refine T_region ?_
            refine TL_p (PV_move rfl) ?_
            refine TL_p (PV_bin rfl rfl (bin_nil_nil Tryd.underlying34)) ?_
            refine TL_p (PV_move rfl) ?_
            refine TL_yes rfl rfl rfl (TO_pure rfl (PV_move rfl) ?_)
            refine TL_perm ((perm_pick (i := 0) rfl).trans (List.Perm.cons _ (List.Perm.refl _))) ?_
            refine TL_yes rfl rfl rfl (TO_call0 call45 rfl rfl (is_b 124 true hu h124) ?_)
            rintro v19_2002 H19_2002 ⟨rfl, rfl⟩
            refine TL_p (PV_pickAnd rfl rfl rfl) ?_
            refine TL_nil ?_
            refine T_then rfl (by rfl) ?_
            refine T_skip ?_
            refine T_block ?_
            refine T_seq ?_
            refine T_region ?_
            refine TL_p (PV_move rfl) ?_
            refine TL_p (PV_nilCheck rfl) ?_
            refine TL_p (PV_fieldAddr (D := 1) Tryd.underlying71 rfl sz3 (by decide) rfl rfl) ?_
            refine TL_p (PV_load Tryd.underlying3 rfl rfl (Rd.at 0 rfl rfl)) ?_
            refine TL_p (PV.cast (PV_bin rfl rfl bin_add) (wr64 (by omega))) ?_
            refine TL_p (PV_nilCheck rfl) ?_
            refine TL_p (PV_fieldAddr (D := 1) Tryd.underlying71 rfl sz3 (by decide) rfl rfl) ?_
            refine TL_cons rfl (TO_store1 0 rfl rfl rfl sz3 rfl rfl rfl (by first | exact Nat.le_of_ble_eq_true rfl | (simp; done) | (simp; omega) | omega) ?_)
            refine TL_nil ?_
            refine T_seq ?_
            refine T_region ?_
            refine TL_cons rfl (TO_alloc rfl zr30 fun g2004 => ?_)
            refine TL_nil ?_
            refine T_seq ?_
            refine T_region ?_
            refine TL_p (PV_move rfl) ?_
            refine TL_p (PV_move rfl) ?_
            refine TL_perm ((perm_pick (i := 1) rfl).trans (List.Perm.cons _ (List.Perm.refl _))) ?_
            refine TL_cons rfl (TO_call0 call44 rfl rfl (ho2) ?_)
            rintro v31_2007 H31_2007 ⟨v_2007, N_2007, rfl, h_2007_0, rfl⟩
            refine TL_p (PV_move rfl) ?_
            refine TL_p (PV_extract rfl rfl) ?_
            refine TL_p (PV_extract rfl rfl) ?_
            refine TL_cons rfl (TO_store 1 rfl rfl rfl sz30 rfl rfl rfl (all_one rfl) (by first | exact Nat.le_of_ble_eq_true rfl | (simp; done) | (simp; omega) | omega) ?_)
            refine TL_p (PV_assign rfl) ?_
            refine TL_nil ?_
            refine T_region ?_
            refine TL_p (PV_loadAt Tryd.underlying30 rfl sz30 rfl (Rds.take 2 rfl rfl rfl)) ?_
            refine TL_p (PV_loadAt Tryd.underlying30 rfl sz30 rfl (Rds.take 1 rfl rfl rfl)) ?_
            refine TL_cons rfl (TO_bs (cs := [_, _, _, _, _, _, _, _, _, _, _, _]) Tryd.underlying28 zs30 (by decide) rfl rfl rfl rfl rfl rfl fun g2009 => ?_)
            refine TL_p (PV_bld (cs := [_, _, _, _, _, _]) Tryd.underlying30 pl30 zr30 rfl rfl) ?_
            refine TL_cons rfl (TO_store 3 rfl rfl rfl sz30 rfl rfl rfl (all_one rfl) (by first | exact Nat.le_of_ble_eq_true rfl | (simp; done) | (simp; omega) | omega) ?_)
            refine TL_nil ?_
            refine ?L21
            case L21 =>
              exact ⟨n + 1, k, .either x y, ⟨3, S4.zero, some ⟨g2009, 0, none⟩, 2, 2⟩, .sl (.slice (some ⟨g2009, 0, none⟩) 2 2) 6 2 (xv.cells ++ v_2007.cells) :: (N ++ N_2007), false, .inl ⟨rfl, by omega, hk.2, by omega, hl⟩, by omega, (by repeat (first | exact FrSub.nil _ | refine FrSub.cons rfl ?_)), Has.of_perm ((((perm_pick (i := 1) rfl).trans (List.Perm.cons _ ((perm_pick (i := 2) rfl).trans (List.Perm.cons _ ((perm_pick (i := 2) rfl).trans (List.Perm.cons _ ((perm_pick (i := 1) rfl).trans (List.Perm.cons _ (List.Perm.refl _)))))))))).trans (List.Perm.cons _ (List.Perm.cons _ (List.Perm.cons _ (List.Perm.cons _ perm_tail2))))) (by repeat (first | exact Sb.r | exact Sb.ar | exact Sb.al | apply Sb.c | apply Sb.d | refine Sb.t ?_))⟩
        · rw [if_neg h124] at hl; cases hl
      · refine T_seq ?_
        refine T_seq ?_
        refine T_region ?_
        refine TL_p (PV_move rfl) ?_
        refine TL_p (PV_bin rfl rfl (bin_if_nil Tryd.underlying34)) ?_
        refine TL_p (PV_move rfl) ?_
        refine TL_no (b := false) rfl rfl rfl rfl ?_
        refine TL_no (b := false) rfl rfl rfl rfl ?_
        refine TL_p (PV_pickF rfl (by first | assumption | rfl | (simp; done) | (simp; omega) | (simp [*]; done) | (simp [*]; omega)) rfl rfl) ?_
        refine TL_nil ?_
        refine T_else rfl (by rfl) ?_
        refine T_exit ?_
        refine T_seq ?_
        refine T_seq ?_
        refine T_region ?_
        refine TL_p (PV_move rfl) ?_
        refine TL_p (PV_bin rfl rfl (bin_if_nnil Tryd.underlying34)) ?_
        refine TL_nil ?_
        refine T_then rfl (by rfl) ?_
        refine T_seq ?_
        refine T_region ?_
        refine TL_p (PV_bld (cs := [_, _, _, _, _, _]) Tryd.underlying30 pl30 zr30 rfl rfl) ?_
        refine TL_p (PV_move rfl) ?_
        refine TL_cons rfl (TO_store 2 rfl rfl rfl sz30 rfl rfl rfl (all_one rfl) (by first | exact Nat.le_of_ble_eq_true rfl | (simp; done) | (simp; omega) | omega) ?_)
        refine TL_p (PV_assign rfl) ?_
        refine TL_nil ?_
        refine T_ret ?_
        refine ret_ret (ResV_ct rfl Tryd.underlying30 rfl sz30 rfl (Rds.take 2 rfl rfl rfl) rfl) ⟨_, ?zb4002q109, ⟨rfl, rfl⟩⟩
        case zb4002q109 => exact (by (repeat (first | exact Sb.r | exact Sb.ar | exact Sb.al | apply Sb.c | apply Sb.d | refine Sb.t ?_)); done)
/-- either, by how deep it stands: so many brackets may still come -/
def pE (s : List Int) : Nat → Nat → Res Rx
  | 0 => pEither (fun i => .bad 0 0) true s
  | k + 1 => pEither (pE s k) false s
theorem either_all {g : Nat} {s : List Int} (hu : U8s s) (hs : s.length ≤ 64) : ∀ (k deep : Nat), deep + k = 6 → EitherC w0 B g s deep (pE s k)
  | 0, deep, hd => by
    have h : PF g s deep (fun i => .bad 0 0) true w0 B := ⟨hu, hs, by omega, by rw [decide_eq_true (by omega)], fun h => by omega⟩
    exact ⟨fun i t j hi hr => either_ok h hi hr, fun i p j hi hr => either_bad h hi hr, fun i t j hi hr => pEither_lt h hi hr⟩
  | k + 1, deep, hd => by
    have h : PF g s deep (pE s k) false w0 B := ⟨hu, hs, by omega, by rw [decide_eq_false (by omega)], fun _ => either_all hu hs k (deep + 1) (by omega)⟩
    exact ⟨fun i t j hi hr => either_ok h hi hr, fun i p j hi hr => either_bad h hi hr, fun i t j hi hr => pEither_lt h hi hr⟩
/-- a pattern's text -/
def pParse (s : List Int) : Res Rx := match pE s 6 0 with
  | .bad p e => .bad p e
  | .ok t j => if j < s.length then .bad j j else .ok t j
theorem Parse_limit {s : List Int} (hs : ¬ s.length ≤ 64) (hs2 : s.length ≤ 140737488355328) : TCall Tryd.prog w0 B 12 #[.string (strOfNums s)] (fun r H' => r = .tuple #[nv0.val, .iface 77 (.agg #[.int .i64 7, .int .i64 64])] ∧ H' = H) H := by
  have e8 : Value.int .i64 (((strOfNums s).size : Nat) : Int) = .int .i64 ((s.length : Nat) : Int) := by rw [str_len]
  refine TCall_intro (args := [_]) Tryd.func12 rfl Tryd.ntmps12 (Nat.le_of_ble_eq_true rfl) ?_
  refine T_seq ?_
  refine T_region ?_
  refine TL_cons rfl (TO_alloc rfl zr30 fun g1 => ?_)
  refine TL_p (PV_assign rfl) ?_
  refine TL_nil ?_
  refine T_seq ?_
  refine T_seq ?_
  refine T_region ?_
  refine TL_p (PV_move rfl) ?_
  refine TL_p (PV.cast (PV_len_string Tryd.underlying9 rfl) e8) ?_
  refine TL_p (PV_bin rfl rfl bin_gtr) ?_
  refine TL_nil ?_
  refine T_then rfl (by exact decide_eq_true (by omega)) ?_
  refine T_seq ?_
  refine T_region ?_
  refine TL_p (PV_bld (cs := [_, _, _, _, _, _]) Tryd.underlying30 pl30 zr30 rfl rfl) ?_
  refine TL_cons rfl (TO_call0 call32 rfl rfl (Wrap_t _ _) ?_)
  rintro v11_4 H11_4 ⟨rfl, rfl⟩
  refine TL_cons rfl (TO_store 0 rfl rfl rfl sz30 rfl rfl rfl (all_one rfl) (by first | exact Nat.le_of_ble_eq_true rfl | (simp; done) | (simp; omega) | omega) ?_)
  refine TL_p (PV_assign rfl) ?_
  refine TL_nil ?_
  refine T_ret ?_
  refine ret_ret (ResV_ct rfl Tryd.underlying30 rfl sz30 rfl (Rds.take 0 rfl rfl rfl) rfl) ⟨_, ?zb6q127, ⟨rfl, rfl⟩⟩
  case zb6q127 => exact (by (repeat (first | exact Sb.r | exact Sb.ar | exact Sb.al | apply Sb.c | apply Sb.d | refine Sb.t ?_)); done)
theorem Parse_bad {s : List Int} {p j : Nat} (hu : U8s s) (hs : s.length ≤ 64) (hr : pParse s = .bad p j) : TCall Tryd.prog w0 B 12 #[.string (strOfNums s)] (fun r H' => r = .tuple #[nv0.val, faultV (p : Int)] ∧ H' = H) H := by
  have e8 : Value.int .i64 (((strOfNums s).size : Nat) : Int) = .int .i64 ((s.length : Nat) : Int) := by rw [str_len]
  unfold pParse at hr
  cases hp : pE s 6 0 with
  | bad q e =>
    rw [hp] at hr
    cases hr
    have hb := fun {g : Nat} {X : List Chunk} => (either_all (w0 := w0) (B := B) (g := g) hu hs 6 0 rfl).bad 0 p j (Nat.zero_le _) hp X
    refine TCall_intro (args := [_]) Tryd.func12 rfl Tryd.ntmps12 (Nat.le_of_ble_eq_true rfl) ?_
    refine T_seq ?_
    refine T_region ?_
    refine TL_cons rfl (TO_alloc rfl zr30 fun g1 => ?_)
    refine TL_p (PV_assign rfl) ?_
    refine TL_nil ?_
    refine T_seq ?_
    refine T_seq ?_
    refine T_region ?_
    refine TL_p (PV_move rfl) ?_
    refine TL_p (PV.cast (PV_len_string Tryd.underlying9 rfl) e8) ?_
    refine TL_p (PV_bin rfl rfl bin_gtr) ?_
    refine TL_nil ?_
    refine T_else rfl (by exact decide_eq_false (by omega)) ?_
    refine T_skip ?_
    refine T_seq ?_
    refine T_region ?_
    refine TL_p (PV_move rfl) ?_
    refine TL_p (PV_bld (cs := [_, _]) Tryd.underlying71 pl71 zr71 rfl rfl) ?_
    refine TL_cons rfl (TO_box rfl rfl fun g2 => ?_)
    refine TL_p (PV_assign rfl) ?_
    refine TL_nil ?_
    refine T_seq ?_
    refine T_region ?_
    refine TL_p (PV_move rfl) ?_
    refine TL_cons rfl (TO_call0 call33 rfl rfl (hb) ?_)
    rintro v17_5 H17_5 ⟨rfl, rfl⟩
    refine TL_p (PV_move rfl) ?_
    refine TL_p (PV_extract rfl rfl) ?_
    refine TL_p (PV_extract rfl rfl) ?_
    refine TL_cons rfl (TO_alloc rfl zr30 fun g6 => ?_)
    refine TL_cons rfl (TO_store 0 rfl rfl rfl sz30 rfl rfl rfl (all_one rfl) (by first | exact Nat.le_of_ble_eq_true rfl | (simp; done) | (simp; omega) | omega) ?_)
    refine TL_p (PV_assign rfl) ?_
    refine TL_nil ?_
    refine T_seq ?_
    refine T_seq ?_
    refine T_region ?_
    refine TL_p (PV_move rfl) ?_
    refine TL_p (PV_bin rfl rfl (bin_if_nil Tryd.underlying34)) ?_
    refine TL_p (PV_move rfl) ?_
    refine TL_no (b := false) rfl rfl rfl rfl ?_
    refine TL_no (b := false) rfl rfl rfl rfl ?_
    refine TL_p (PV_pickF rfl (by first | assumption | rfl | (simp; done) | (simp; omega) | (simp [*]; done) | (simp [*]; omega)) rfl rfl) ?_
    refine TL_nil ?_
    refine T_else rfl (by rfl) ?_
    refine T_skip ?_
    refine T_seq ?_
    refine T_seq ?_
    refine T_region ?_
    refine TL_p (PV_move rfl) ?_
    refine TL_p (PV_bin rfl rfl (bin_if_nnil Tryd.underlying34)) ?_
    refine TL_nil ?_
    refine T_then rfl (by rfl) ?_
    refine T_seq ?_
    refine T_region ?_
    refine TL_p (PV_bld (cs := [_, _, _, _, _, _]) Tryd.underlying30 pl30 zr30 rfl rfl) ?_
    refine TL_p (PV_move rfl) ?_
    refine TL_cons rfl (TO_store 2 rfl rfl rfl sz30 rfl rfl rfl (all_one rfl) (by first | exact Nat.le_of_ble_eq_true rfl | (simp; done) | (simp; omega) | omega) ?_)
    refine TL_p (PV_assign rfl) ?_
    refine TL_nil ?_
    refine T_ret ?_
    refine ret_ret (ResV_ct rfl Tryd.underlying30 rfl sz30 rfl (Rds.take 2 rfl rfl rfl) rfl) ⟨_, ?zb9q137, ⟨rfl, rfl⟩⟩
    case zb9q137 => exact (by (repeat (first | exact Sb.r | exact Sb.ar | exact Sb.al | apply Sb.c | apply Sb.d | refine Sb.t ?_)); done)
  | ok t k =>
    rw [hp] at hr
    simp only at hr
    have ho := fun {g : Nat} {X : List Chunk} => (either_all (w0 := w0) (B := B) (g := g) hu hs 6 0 rfl).ok 0 t k (Nat.zero_le _) hp X
    by_cases hk : k < s.length
    · rw [if_pos hk] at hr
      cases hr
      refine TCall_intro (args := [_]) Tryd.func12 rfl Tryd.ntmps12 (Nat.le_of_ble_eq_true rfl) ?_
      refine T_seq ?_
      refine T_region ?_
      refine TL_cons rfl (TO_alloc rfl zr30 fun g1001 => ?_)
      refine TL_p (PV_assign rfl) ?_
      refine TL_nil ?_
      refine T_seq ?_
      refine T_seq ?_
      refine T_region ?_
      refine TL_p (PV_move rfl) ?_
      refine TL_p (PV.cast (PV_len_string Tryd.underlying9 rfl) e8) ?_
      refine TL_p (PV_bin rfl rfl bin_gtr) ?_
      refine TL_nil ?_
      refine T_else rfl (by exact decide_eq_false (by omega)) ?_
      refine T_skip ?_
      refine T_seq ?_
      refine T_region ?_
      refine TL_p (PV_move rfl) ?_
      refine TL_p (PV_bld (cs := [_, _]) Tryd.underlying71 pl71 zr71 rfl rfl) ?_
      refine TL_cons rfl (TO_box rfl rfl fun g1002 => ?_)
      refine TL_p (PV_assign rfl) ?_
      refine TL_nil ?_
      refine T_seq ?_
      refine T_region ?_
      refine TL_p (PV_move rfl) ?_
      refine TL_cons rfl (TO_call0 call33 rfl rfl (ho) ?_)
      rintro v17_1005 H17_1005 ⟨v_1005, N_1005, rfl, h_1005_0, rfl⟩
      refine TL_p (PV_move rfl) ?_
      refine TL_p (PV_extract rfl rfl) ?_
      refine TL_p (PV_extract rfl rfl) ?_
      refine TL_cons rfl (TO_alloc rfl zr30 fun g1006 => ?_)
      refine TL_cons rfl (TO_store 0 rfl rfl rfl sz30 rfl rfl rfl (all_one rfl) (by first | exact Nat.le_of_ble_eq_true rfl | (simp; done) | (simp; omega) | omega) ?_)
      refine TL_p (PV_assign rfl) ?_
      refine TL_nil ?_
      refine T_seq ?_
      refine T_seq ?_
      refine T_region ?_
      refine TL_p (PV_move rfl) ?_
      refine TL_p (PV_bin rfl rfl (bin_nil_nil Tryd.underlying34)) ?_
      refine TL_p (PV_move rfl) ?_
      refine TL_yes rfl rfl rfl (TO_pure rfl (PV_move rfl) ?_)
      refine TL_perm ((perm_pick (i := 1) rfl).trans (List.Perm.cons _ (List.Perm.refl _))) ?_
      refine TL_yes rfl rfl rfl (TO_call0 call34 rfl rfl (more_y hk) ?_)
      rintro v24_1010 H24_1010 ⟨rfl, rfl⟩
      refine TL_p (PV_pickAnd rfl rfl rfl) ?_
      refine TL_nil ?_
      refine T_then rfl (by rfl) ?_
      refine T_region ?_
      refine TL_p (PV_move rfl) ?_
      refine TL_cons rfl (TO_call0 call35 rfl rfl (bad_t) ?_)
      rintro v27_1013 H27_1013 ⟨rfl, rfl⟩
      refine TL_p (PV_assign rfl) ?_
      refine TL_nil ?_
      refine T_seq ?_
      refine T_seq ?_
      refine T_region ?_
      refine TL_p (PV_move rfl) ?_
      refine TL_p (PV_bin rfl rfl (bin_if_nnil Tryd.underlying34)) ?_
      refine TL_nil ?_
      refine T_then rfl (by rfl) ?_
      refine T_seq ?_
      refine T_region ?_
      refine TL_p (PV_bld (cs := [_, _, _, _, _, _]) Tryd.underlying30 pl30 zr30 rfl rfl) ?_
      refine TL_p (PV_move rfl) ?_
      refine TL_cons rfl (TO_store 2 rfl rfl rfl sz30 rfl rfl rfl (all_one rfl) (by first | exact Nat.le_of_ble_eq_true rfl | (simp; done) | (simp; omega) | omega) ?_)
      refine TL_p (PV_assign rfl) ?_
      refine TL_nil ?_
      refine T_ret ?_
      refine ret_ret (ResV_ct rfl Tryd.underlying30 rfl sz30 rfl (Rds.take 2 rfl rfl rfl) rfl) ⟨_, ?zb1015q146, ⟨rfl, rfl⟩⟩
      case zb1015q146 => exact (by (repeat (first | exact Sb.r | exact Sb.ar | exact Sb.al | apply Sb.c | apply Sb.d | refine Sb.t ?_)); done)
    · rw [if_neg hk] at hr; cases hr
theorem Parse_ok {s : List Int} {t : Rx} {j : Nat} (hu : U8s s) (hs : s.length ≤ 64) (hr : pParse s = .ok t j) : TCall Tryd.prog w0 B 12 #[.string (strOfNums s)] (fun r H' => ∃ (v : Nv) (N : List Chunk), r = .tuple #[v.val, .nilIface] ∧ Tr (WH w0 B N) t v ∧ H' = H ++ N) H := by
  have e8 : Value.int .i64 (((strOfNums s).size : Nat) : Int) = .int .i64 ((s.length : Nat) : Int) := by rw [str_len]
  unfold pParse at hr
  cases hp : pE s 6 0 with
  | bad q e => rw [hp] at hr; cases hr
  | ok t2 k =>
    rw [hp] at hr
    simp only at hr
    have ho := fun {g : Nat} {X : List Chunk} => (either_all (w0 := w0) (B := B) (g := g) hu hs 6 0 rfl).ok 0 t2 k (Nat.zero_le _) hp X
    by_cases hk : k < s.length
    · rw [if_pos hk] at hr; cases hr
    · rw [if_neg hk] at hr
      obtain ⟨rfl, rfl⟩ : t2 = t ∧ k = j := by injection hr with e1 e2; exact ⟨e1, e2⟩
      refine TCall_intro (args := [_]) Tryd.func12 rfl Tryd.ntmps12 (Nat.le_of_ble_eq_true rfl) ?_
      refine T_seq ?_
      refine T_region ?_
      refine TL_cons rfl (TO_alloc rfl zr30 fun g1001 => ?_)
      refine TL_p (PV_assign rfl) ?_
      refine TL_nil ?_
      refine T_seq ?_
      refine T_seq ?_
      refine T_region ?_
      refine TL_p (PV_move rfl) ?_
      refine TL_p (PV.cast (PV_len_string Tryd.underlying9 rfl) e8) ?_
      refine TL_p (PV_bin rfl rfl bin_gtr) ?_
      refine TL_nil ?_
      refine T_else rfl (by exact decide_eq_false (by omega)) ?_
      refine T_skip ?_
      refine T_seq ?_
      refine T_region ?_
      refine TL_p (PV_move rfl) ?_
      refine TL_p (PV_bld (cs := [_, _]) Tryd.underlying71 pl71 zr71 rfl rfl) ?_
      refine TL_cons rfl (TO_box rfl rfl fun g1002 => ?_)
      refine TL_p (PV_assign rfl) ?_
      refine TL_nil ?_
      refine T_seq ?_
      refine T_region ?_
      refine TL_p (PV_move rfl) ?_
      refine TL_cons rfl (TO_call0 call33 rfl rfl (ho) ?_)
      rintro v17_1005 H17_1005 ⟨v_1005, N_1005, rfl, h_1005_0, rfl⟩
      refine TL_p (PV_move rfl) ?_
      refine TL_p (PV_extract rfl rfl) ?_
      refine TL_p (PV_extract rfl rfl) ?_
      refine TL_cons rfl (TO_alloc rfl zr30 fun g1006 => ?_)
      refine TL_cons rfl (TO_store 0 rfl rfl rfl sz30 rfl rfl rfl (all_one rfl) (by first | exact Nat.le_of_ble_eq_true rfl | (simp; done) | (simp; omega) | omega) ?_)
      refine TL_p (PV_assign rfl) ?_
      refine TL_nil ?_
      refine T_seq ?_
      refine T_seq ?_
      refine T_region ?_
      refine TL_p (PV_move rfl) ?_
      refine TL_p (PV_bin rfl rfl (bin_nil_nil Tryd.underlying34)) ?_
      refine TL_p (PV_move rfl) ?_
      refine TL_yes rfl rfl rfl (TO_pure rfl (PV_move rfl) ?_)
      refine TL_perm ((perm_pick (i := 1) rfl).trans (List.Perm.cons _ (List.Perm.refl _))) ?_
      refine TL_yes rfl rfl rfl (TO_call0 call34 rfl rfl (more_n hk) ?_)
      rintro v24_1010 H24_1010 ⟨rfl, rfl⟩
      refine TL_p (PV_pickAnd rfl rfl rfl) ?_
      refine TL_nil ?_
      refine T_else rfl (by rfl) ?_
      refine T_skip ?_
      refine T_seq ?_
      refine T_seq ?_
      refine T_region ?_
      refine TL_p (PV_move rfl) ?_
      refine TL_p (PV_bin rfl rfl (bin_nil_nnil Tryd.underlying34)) ?_
      refine TL_nil ?_
      refine T_else rfl (by rfl) ?_
      refine T_skip ?_
      refine T_seq ?_
      refine T_region ?_
      refine TL_p (PV_loadAt Tryd.underlying30 rfl sz30 rfl (Rds.take 1 rfl rfl rfl)) ?_
      refine TL_cons rfl (TO_store 2 rfl rfl rfl sz30 rfl rfl rfl (all_one rfl) (by first | exact Nat.le_of_ble_eq_true rfl | (simp; done) | (simp; omega) | omega) ?_)
      refine TL_p (PV_assign rfl) ?_
      refine TL_nil ?_
      refine ?L11
      case L11 =>
        refine T_ret ?_
        exact ret_ret (ResV_ct rfl Tryd.underlying30 rfl sz30 rfl (Rds.take 2 rfl rfl rfl) rfl) ⟨H ++ N_1005, (by repeat (first | exact Sb.r | exact Sb.ar | exact Sb.al | apply Sb.c | apply Sb.d | refine Sb.t ?_)), v_1005, N_1005, rfl, h_1005_0, rfl⟩
end
end Go.Proofs.YtijpbpnfachlkaaDoor.SL
