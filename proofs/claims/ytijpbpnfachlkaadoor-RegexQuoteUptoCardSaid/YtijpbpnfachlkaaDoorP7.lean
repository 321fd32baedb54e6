import Derived.Test.YtijpbpnfachlkaaDoorP6
/- Patterns: one behind the other; alternatives. No statement is proved here. -/
set_option linter.unusedVariables false
set_option linter.unusedSimpArgs false
set_option maxRecDepth 100000
set_option maxHeartbeats 8000000
namespace Go.Proofs.YtijpbpnfachlkaaDoor.SL
open Go Go.RowKit
section
variable {w0 : World} {B : Nat} {H X : List Chunk}
theorem perm_tail2 {a : Chunk} {X N M : List Chunk} : (a :: ((X ++ N) ++ M)).Perm (X ++ (a :: (N ++ M))) := by rw [List.append_assoc]; exact perm_tail
def goesOn (s : List Int) (i : Nat) : Bool := decide (i < s.length) && !isB s i 124 && !isB s i 41
def pThenL (pE : Nat → Res Rx) (top : Bool) (s : List Int) : Nat → Nat → Rx → Bool → Res Rx
  | 0, i, out, first => .bad 0 0
  | n + 1, i, out, first => if goesOn s i = true then (match pAgain pE top s i with
      | .bad p e => .bad p e
      | .ok t j => pThenL pE top s n j (if first = true then t else .then_ out t) false)
    else .ok out i
def pThen (pE : Nat → Res Rx) (top : Bool) (s : List Int) (i : Nat) : Res Rx := pThenL pE top s (s.length + 1) i .nothing true
def pEitherL (pE : Nat → Res Rx) (top : Bool) (s : List Int) : Nat → Nat → Rx → Res Rx
  | 0, i, x => .bad 0 0
  | n + 1, i, x => if isB s i 124 = true then (match pThen pE top s (i + 1) with
      | .bad p e => .bad p e
      | .ok y j => pEitherL pE top s n j (.either x y))
    else .ok x i
def pEither (pE : Nat → Res Rx) (top : Bool) (s : List Int) (i : Nat) : Res Rx := match pThen pE top s i with
  | .bad p e => .bad p e
  | .ok x j => pEitherL pE top s (s.length + 1) j x
theorem goesOn_lt {s : List Int} {i : Nat} (h : goesOn s i = true) : i < s.length ∧ isB s i 124 = false ∧ isB s i 41 = false := by
  unfold goesOn at h
  simpa [and_assoc] using h
theorem pThenL_lt {s : List Int} {deep : Nat} {pE : Nat → Res Rx} {top : Bool} {g : Nat} (h : PF g s deep pE top w0 B) : ∀ {n i j : Nat} {out t : Rx} {first : Bool}, i ≤ s.length → pThenL pE top s n i out first = .ok t j → i ≤ j ∧ j ≤ s.length
  | 0, i, j, out, t, first, hi, hr => by cases hr
  | n + 1, i, j, out, t, first, hi, hr => by
    unfold pThenL at hr
    split at hr
    · rename_i hg
      split at hr
      · cases hr
      · rename_i t2 k hk
        have := pAgain_lt h (goesOn_lt hg).1 hk
        have := pThenL_lt h this.2 hr
        omega
    · cases hr; omega
theorem pEitherL_lt {s : List Int} {deep : Nat} {pE : Nat → Res Rx} {top : Bool} {g : Nat} (h : PF g s deep pE top w0 B) : ∀ {n i j : Nat} {x t : Rx}, i ≤ s.length → pEitherL pE top s n i x = .ok t j → i ≤ j ∧ j ≤ s.length
  | 0, i, j, x, t, hi, hr => by cases hr
  | n + 1, i, j, x, t, hi, hr => by
    unfold pEitherL at hr
    split at hr
    · rename_i hg
      split at hr
      · cases hr
      · rename_i t2 k hk
        have h1 := (isB_lt hg).1
        have := pThenL_lt h (by omega) hk
        have := pEitherL_lt h this.2 hr
        omega
    · cases hr; omega
theorem pEither_lt {s : List Int} {deep : Nat} {pE : Nat → Res Rx} {top : Bool} {g : Nat} (h : PF g s deep pE top w0 B) {i j : Nat} {t : Rx} (hi : i ≤ s.length) (hr : pEither pE top s i = .ok t j) : i ≤ j ∧ j ≤ s.length := by
  unfold pEither at hr
  split at hr
  · cases hr
  · rename_i x k hk
    have := pThenL_lt h hi hk
    have := pEitherL_lt h this.2 hr
    omega
theorem then_ok {g : Nat} {s : List Int} {i0 j deep : Nat} {t : Rx} {pE : Nat → Res Rx} {top : Bool} (h : PF g s deep pE top w0 B) (hi0 : i0 ≤ s.length) (hr : pThen pE top s i0 = .ok t j) :
    ReadsOk 44 w0 B #[.pointer (some ⟨g, 0, none⟩), .int .i64 (deep : Int)] g s i0 t j := by
  intro X
  have hu := h.hu
  have hs := h.hs
  have hd := h.hd
  unfold pThen at hr
  refine TCall_intro (args := [_, _]) Tryd.func44 rfl Tryd.ntmps44 (Nat.le_of_ble_eq_true rfl) ?_
  refine T_seq ?_
  refine T_region ?_
  refine TL_cons rfl (TO_alloc rfl zr30 fun g1 => ?_)
  refine TL_p (PV_assign rfl) ?_
  refine TL_nil ?_
  refine T_seq ?_
  refine T_region ?_
  refine TL_p (PV_bld (cs := [_, _, _, _, _, _]) Tryd.underlying30 pl30 zr30 rfl rfl) ?_
  refine TL_cons rfl (TO_alloc rfl zr30 fun g2 => ?_)
  refine TL_cons rfl (TO_store 0 rfl rfl rfl sz30 rfl rfl rfl (all_one rfl) (by first | exact Nat.le_of_ble_eq_true rfl | (simp; done) | (simp; omega) | omega) ?_)
  refine TL_nil ?_
  refine T_seq ?_
  refine T_seq ?_
  refine T_region ?_
  refine TL_p (PV_assign rfl) ?_
  refine TL_nil ?_
  refine T_block ?_
  refine ?L1
  case L1 =>
    refine T_loopP6 (fun (n : Nat) (i : Nat) (out : Rx) (ov : Nv) (first : Bool) (N : List Chunk) => i ≤ s.length ∧ s.length < i + n ∧ pThenL pE top s n i out first = .ok t j ∧ Tr (WH w0 B N) out ov) (fun n _ _ _ _ _ => n) (fun n i out ov first N => [(0, .pointer (some ⟨g, 0, none⟩)), (1, .int .i64 (deep : Int)), (4, .pointer (some ⟨g1, 0, none⟩)), (6, .pointer (some ⟨g2, 0, none⟩)), (7, .bool first)]) (fun n i out ov first N => rdC g s i :: .own g2 6 ov.cells :: .own g1 6 nv0.cells :: (X ++ N)) (s.length + 1) i0 .nothing nv0 true [] ⟨hi0, by omega, hr, rfl⟩ (by repeat (first | exact FrSub.nil _ | refine FrSub.cons rfl ?_)) (by rw [List.append_nil]; exact Has.of_perm ((perm_pick (i := 2) rfl).trans (List.Perm.cons _ ((perm_pick (i := 0) rfl).trans (List.Perm.cons _ (List.Perm.refl _))))) (by repeat (first | exact Sb.r | exact Sb.ar | exact Sb.al | apply Sb.c | apply Sb.d | refine Sb.t ?_))) ?_
    rintro n i out ov first N ⟨hi, hn, hl, htr⟩
    obtain ⟨n, rfl⟩ : ∃ k, n = k + 1 := ⟨n - 1, by omega⟩
    unfold pThenL at hl
    by_cases hg : goesOn s i = true
    · obtain ⟨hil, h124, h41⟩ := goesOn_lt hg
      rw [if_pos hg] at hl
      cases hp : pAgain pE top s i with
      | bad q e =>
        rw [hp] at hl
        cases hl
      | ok t2 k =>
        rw [hp] at hl
        simp only at hl
        have hk := pAgain_lt h hil hp
        have ho := fun {X : List Chunk} => again_ok h hil hp X
        cases first with
        | true =>
          refine T_seq ?_
          refine T_seq ?_
          refine T_region ?_
          refine TL_p (PV_move rfl) ?_
          refine TL_perm ((perm_pick (i := 0) rfl).trans (List.Perm.cons _ (List.Perm.refl _))) ?_
          refine TL_cons rfl (TO_call0 call34 rfl rfl (more_y hil) ?_)
          rintro v12_2002 H12_2002 ⟨rfl, rfl⟩
          refine TL_p (PV_move rfl) ?_
          refine TL_yes rfl rfl rfl (TO_pure rfl (PV_move rfl) ?_)
          refine TL_perm ((perm_pick (i := 0) rfl).trans (List.Perm.cons _ (List.Perm.refl _))) ?_
          refine TL_yes rfl rfl rfl (TO_call0 call45 rfl rfl (is_b 124 false hu h124) ?_)
          rintro v15_2004 H15_2004 ⟨rfl, rfl⟩
          refine TL_yes rfl rfl rfl (TO_pure rfl (PV_not rfl) ?_)
          refine TL_p (PV_pickAnd rfl rfl rfl) ?_
          refine TL_p (PV_move rfl) ?_
          refine TL_yes rfl rfl rfl (TO_pure rfl (PV_move rfl) ?_)
          refine TL_perm ((perm_pick (i := 0) rfl).trans (List.Perm.cons _ (List.Perm.refl _))) ?_
          refine TL_yes rfl rfl rfl (TO_call0 call45 rfl rfl (is_b 41 false hu h41) ?_)
          rintro v20_2006 H20_2006 ⟨rfl, rfl⟩
          refine TL_yes rfl rfl rfl (TO_pure rfl (PV_not rfl) ?_)
          refine TL_p (PV_pickAnd rfl rfl rfl) ?_
          refine TL_nil ?_
          refine T_then rfl (by rfl) ?_
          refine T_skip ?_
          refine T_seq ?_
          refine T_block ?_
          refine T_seq ?_
          refine T_region ?_
          refine TL_p (PV_move rfl) ?_
          refine TL_p (PV_move rfl) ?_
          refine TL_cons rfl (TO_call0 call56 rfl rfl (ho) ?_)
          rintro v26_2009 H26_2009 ⟨v_2009, N_2009, rfl, h_2009_0, rfl⟩
          refine TL_p (PV_move rfl) ?_
          refine TL_p (PV_extract rfl rfl) ?_
          refine TL_p (PV_extract rfl rfl) ?_
          refine TL_cons rfl (TO_alloc rfl zr30 fun g2010 => ?_)
          refine TL_cons rfl (TO_store 0 rfl rfl rfl sz30 rfl rfl rfl (all_one rfl) (by first | exact Nat.le_of_ble_eq_true rfl | (simp; done) | (simp; omega) | omega) ?_)
          refine TL_p (PV_assign rfl) ?_
          refine TL_nil ?_
          refine T_seq ?_
          refine T_seq ?_
          refine T_region ?_
          refine TL_p (PV_move rfl) ?_
          refine TL_p (PV_bin rfl rfl (bin_nil_nnil Tryd.underlying34)) ?_
          refine TL_nil ?_
          refine T_else rfl (by rfl) ?_
          refine T_skip ?_
          refine T_seq ?_
          refine T_seq ?_
          refine T_region ?_
          refine TL_p (PV_move rfl) ?_
          refine TL_nil ?_
          refine T_then rfl (by rfl) ?_
          refine T_seq ?_
          refine T_region ?_
          refine TL_p (PV_loadAt Tryd.underlying30 rfl sz30 rfl (Rds.take 0 rfl rfl rfl)) ?_
          refine TL_cons rfl (TO_store 2 rfl rfl rfl sz30 rfl rfl rfl (all_one rfl) (by first | exact Nat.le_of_ble_eq_true rfl | (simp; done) | (simp; omega) | omega) ?_)
          refine TL_nil ?_
          refine T_exit ?_
          refine T_region ?_
          refine TL_p (PV_assign rfl) ?_
          refine TL_nil ?_
          refine ?L21
          case L21 =>
            rw [if_pos rfl] at hl
            exact ⟨n, k, t2, v_2009, false, N ++ N_2009, ⟨hk.2, by omega, hl, h_2009_0.mono fun w hw => hw.sub (List.sublist_append_right _ _)⟩, by omega, (by repeat (first | exact FrSub.nil _ | refine FrSub.cons rfl ?_)), by rw [← List.append_assoc]; exact Has.of_sub (by repeat (first | exact Sb.r | exact Sb.ar | exact Sb.al | apply Sb.c | apply Sb.d | refine Sb.t ?_))⟩
        | false =>
          refine T_seq ?_
          refine T_seq ?_
          refine T_region ?_
          refine TL_p (PV_move rfl) ?_
          refine TL_perm ((perm_pick (i := 0) rfl).trans (List.Perm.cons _ (List.Perm.refl _))) ?_
          refine TL_cons rfl (TO_call0 call34 rfl rfl (more_y hil) ?_)
          rintro v12_3002 H12_3002 ⟨rfl, rfl⟩
          refine TL_p (PV_move rfl) ?_
          refine TL_yes rfl rfl rfl (TO_pure rfl (PV_move rfl) ?_)
          refine TL_perm ((perm_pick (i := 0) rfl).trans (List.Perm.cons _ (List.Perm.refl _))) ?_
          refine TL_yes rfl rfl rfl (TO_call0 call45 rfl rfl (is_b 124 false hu h124) ?_)
          rintro v15_3004 H15_3004 ⟨rfl, rfl⟩
          refine TL_yes rfl rfl rfl (TO_pure rfl (PV_not rfl) ?_)
          refine TL_p (PV_pickAnd rfl rfl rfl) ?_
          refine TL_p (PV_move rfl) ?_
          refine TL_yes rfl rfl rfl (TO_pure rfl (PV_move rfl) ?_)
          refine TL_perm ((perm_pick (i := 0) rfl).trans (List.Perm.cons _ (List.Perm.refl _))) ?_
          refine TL_yes rfl rfl rfl (TO_call0 call45 rfl rfl (is_b 41 false hu h41) ?_)
          rintro v20_3006 H20_3006 ⟨rfl, rfl⟩
          refine TL_yes rfl rfl rfl (TO_pure rfl (PV_not rfl) ?_)
          refine TL_p (PV_pickAnd rfl rfl rfl) ?_
          refine TL_nil ?_
          refine T_then rfl (by rfl) ?_
          refine T_skip ?_
          refine T_seq ?_
          refine T_block ?_
          refine T_seq ?_
          refine T_region ?_
          refine TL_p (PV_move rfl) ?_
          refine TL_p (PV_move rfl) ?_
          refine TL_cons rfl (TO_call0 call56 rfl rfl (ho) ?_)
          rintro v26_3009 H26_3009 ⟨v_3009, N_3009, rfl, h_3009_0, rfl⟩
          refine TL_p (PV_move rfl) ?_
          refine TL_p (PV_extract rfl rfl) ?_
          refine TL_p (PV_extract rfl rfl) ?_
          refine TL_cons rfl (TO_alloc rfl zr30 fun g3010 => ?_)
          refine TL_cons rfl (TO_store 0 rfl rfl rfl sz30 rfl rfl rfl (all_one rfl) (by first | exact Nat.le_of_ble_eq_true rfl | (simp; done) | (simp; omega) | omega) ?_)
          refine TL_p (PV_assign rfl) ?_
          refine TL_nil ?_
          refine T_seq ?_
          refine T_seq ?_
          refine T_region ?_
          refine TL_p (PV_move rfl) ?_
          refine TL_p (PV_bin rfl rfl (bin_nil_nnil Tryd.underlying34)) ?_
          refine TL_nil ?_
          refine T_else rfl (by rfl) ?_
          refine T_skip ?_
          refine T_seq ?_
          refine T_seq ?_
          refine T_region ?_
          refine TL_p (PV_move rfl) ?_
          refine TL_nil ?_
          refine T_else rfl (by rfl) ?_
          refine T_skip ?_
          refine T_region ?_
          refine TL_p (PV_loadAt Tryd.underlying30 rfl sz30 rfl (Rds.take 2 rfl rfl rfl)) ?_
          refine TL_p (PV_loadAt Tryd.underlying30 rfl sz30 rfl (Rds.take 0 rfl rfl rfl)) ?_
          refine TL_cons rfl (TO_bs (cs := [_, _, _, _, _, _, _, _, _, _, _, _]) Tryd.underlying28 zs30 (by decide) rfl rfl rfl rfl rfl rfl fun g3012 => ?_)
          refine TL_p (PV_bld (cs := [_, _, _, _, _, _]) Tryd.underlying30 pl30 zr30 rfl rfl) ?_
          refine TL_cons rfl (TO_store 3 rfl rfl rfl sz30 rfl rfl rfl (all_one rfl) (by first | exact Nat.le_of_ble_eq_true rfl | (simp; done) | (simp; omega) | omega) ?_)
          refine TL_nil ?_
          refine T_region ?_
          refine TL_p (PV_assign rfl) ?_
          refine TL_nil ?_
          refine ?L31
          case L31 =>
            rw [if_neg (by decide)] at hl
            exact ⟨n, k, .then_ out t2, ⟨2, S4.zero, some ⟨g3012, 0, none⟩, 2, 2⟩, false, .sl (.slice (some ⟨g3012, 0, none⟩) 2 2) 6 2 (ov.cells ++ v_3009.cells) :: (N ++ N_3009), ⟨hk.2, by omega, hl, ⟨_, _, ov, v_3009, rfl, Nat.le_refl _, Shows.at 0 rfl, htr.mono fun w hw => hw.sub (List.Sublist.cons _ (List.sublist_append_left _ _)), h_3009_0.mono fun w hw => hw.sub (List.Sublist.cons _ (List.sublist_append_right _ _))⟩⟩, by omega, (by repeat (first | exact FrSub.nil _ | refine FrSub.cons rfl ?_)), Has.of_perm ((((perm_pick (i := 2) rfl).trans (List.Perm.cons _ ((perm_pick (i := 2) rfl).trans (List.Perm.cons _ ((perm_pick (i := 2) rfl).trans (List.Perm.cons _ ((perm_pick (i := 1) rfl).trans (List.Perm.cons _ (List.Perm.refl _)))))))))).trans (List.Perm.cons _ (List.Perm.cons _ (List.Perm.cons _ (List.Perm.cons _ perm_tail2))))) (by repeat (first | exact Sb.r | exact Sb.ar | exact Sb.al | apply Sb.c | apply Sb.d | refine Sb.t ?_))⟩
    · rw [if_neg hg] at hl
      obtain ⟨rfl, rfl⟩ : out = t ∧ i = j := by injection hl with e1 e2; exact ⟨e1, e2⟩
      by_cases hil : i < s.length
      · rcases Bool.eq_false_or_eq_true (isB s i 124) with h124 | h124
        · refine T_seq ?_
          refine T_seq ?_
          refine T_region ?_
          refine TL_p (PV_move rfl) ?_
          refine TL_perm ((perm_pick (i := 0) rfl).trans (List.Perm.cons _ (List.Perm.refl _))) ?_
          refine TL_cons rfl (TO_call0 call34 rfl rfl (more_y hil) ?_)
          rintro v12_4002 H12_4002 ⟨rfl, rfl⟩
          refine TL_p (PV_move rfl) ?_
          refine TL_yes rfl rfl rfl (TO_pure rfl (PV_move rfl) ?_)
          refine TL_perm ((perm_pick (i := 0) rfl).trans (List.Perm.cons _ (List.Perm.refl _))) ?_
          refine TL_yes rfl rfl rfl (TO_call0 call45 rfl rfl (is_b 124 true hu h124) ?_)
          rintro v15_4004 H15_4004 ⟨rfl, rfl⟩
          refine TL_yes rfl rfl rfl (TO_pure rfl (PV_not rfl) ?_)
          refine TL_p (PV_pickAnd rfl rfl rfl) ?_
          refine TL_p (PV_move rfl) ?_
          refine TL_no (b := false) rfl rfl rfl rfl ?_
          refine TL_no (b := false) rfl rfl rfl rfl ?_
          refine TL_no (b := false) rfl rfl rfl rfl ?_
          refine TL_p (PV_pickF rfl (by first | assumption | rfl | (simp; done) | (simp; omega) | (simp [*]; done) | (simp [*]; omega)) rfl rfl) ?_
          refine TL_nil ?_
          refine T_else rfl (by rfl) ?_
          refine T_exit ?_
          refine T_seq ?_
          refine T_region ?_
          refine TL_p (PV_loadAt Tryd.underlying30 rfl sz30 rfl (Rds.take 1 rfl rfl rfl)) ?_
          refine TL_cons rfl (TO_store 2 rfl rfl rfl sz30 rfl rfl rfl (all_one rfl) (by first | exact Nat.le_of_ble_eq_true rfl | (simp; done) | (simp; omega) | omega) ?_)
          refine TL_p (PV_assign rfl) ?_
          refine TL_nil ?_
          refine ?L41
          case L41 =>
            refine T_ret ?_
            exact ret_ret (ResV_ct rfl Tryd.underlying30 rfl sz30 rfl (Rds.take 2 rfl rfl rfl) rfl) ⟨rdC g s i :: (X ++ N), (by repeat (first | exact Sb.r | exact Sb.ar | exact Sb.al | apply Sb.c | apply Sb.d | refine Sb.t ?_)), ov, N, rfl, htr, rfl⟩
        · have h41 : isB s i 41 = true := by
            unfold goesOn at hg
            simpa [hil, h124] using hg
          refine T_seq ?_
          refine T_seq ?_
          refine T_region ?_
          refine TL_p (PV_move rfl) ?_
          refine TL_perm ((perm_pick (i := 0) rfl).trans (List.Perm.cons _ (List.Perm.refl _))) ?_
          refine TL_cons rfl (TO_call0 call34 rfl rfl (more_y hil) ?_)
          rintro v12_5002 H12_5002 ⟨rfl, rfl⟩
          refine TL_p (PV_move rfl) ?_
          refine TL_yes rfl rfl rfl (TO_pure rfl (PV_move rfl) ?_)
          refine TL_perm ((perm_pick (i := 0) rfl).trans (List.Perm.cons _ (List.Perm.refl _))) ?_
          refine TL_yes rfl rfl rfl (TO_call0 call45 rfl rfl (is_b 124 false hu h124) ?_)
          rintro v15_5004 H15_5004 ⟨rfl, rfl⟩
          refine TL_yes rfl rfl rfl (TO_pure rfl (PV_not rfl) ?_)
          refine TL_p (PV_pickAnd rfl rfl rfl) ?_
          refine TL_p (PV_move rfl) ?_
          refine TL_yes rfl rfl rfl (TO_pure rfl (PV_move rfl) ?_)
          refine TL_perm ((perm_pick (i := 0) rfl).trans (List.Perm.cons _ (List.Perm.refl _))) ?_
          refine TL_yes rfl rfl rfl (TO_call0 call45 rfl rfl (is_b 41 true hu h41) ?_)
          rintro v20_5006 H20_5006 ⟨rfl, rfl⟩
          refine TL_yes rfl rfl rfl (TO_pure rfl (PV_not rfl) ?_)
          refine TL_p (PV_pickAnd rfl rfl rfl) ?_
          refine TL_nil ?_
          refine T_else rfl (by rfl) ?_
          refine T_exit ?_
          refine T_seq ?_
          refine T_region ?_
          refine TL_p (PV_loadAt Tryd.underlying30 rfl sz30 rfl (Rds.take 1 rfl rfl rfl)) ?_
          refine TL_cons rfl (TO_store 2 rfl rfl rfl sz30 rfl rfl rfl (all_one rfl) (by first | exact Nat.le_of_ble_eq_true rfl | (simp; done) | (simp; omega) | omega) ?_)
          refine TL_p (PV_assign rfl) ?_
          refine TL_nil ?_
          refine ?L51
          case L51 =>
            refine T_ret ?_
            exact ret_ret (ResV_ct rfl Tryd.underlying30 rfl sz30 rfl (Rds.take 2 rfl rfl rfl) rfl) ⟨rdC g s i :: (X ++ N), (by repeat (first | exact Sb.r | exact Sb.ar | exact Sb.al | apply Sb.c | apply Sb.d | refine Sb.t ?_)), ov, N, rfl, htr, rfl⟩
      · refine T_seq ?_
        refine T_seq ?_
        refine T_region ?_
        refine TL_p (PV_move rfl) ?_
        refine TL_perm ((perm_pick (i := 0) rfl).trans (List.Perm.cons _ (List.Perm.refl _))) ?_
        refine TL_cons rfl (TO_call0 call34 rfl rfl (more_n hil) ?_)
        rintro v12_6002 H12_6002 ⟨rfl, rfl⟩
        refine TL_p (PV_move rfl) ?_
        refine TL_no (b := false) rfl rfl rfl rfl ?_
        refine TL_no (b := false) rfl rfl rfl rfl ?_
        refine TL_no (b := false) rfl rfl rfl rfl ?_
        refine TL_p (PV_pickF rfl (by first | assumption | rfl | (simp; done) | (simp; omega) | (simp [*]; done) | (simp [*]; omega)) rfl rfl) ?_
        refine TL_p (PV_move rfl) ?_
        refine TL_no (b := false) rfl rfl rfl rfl ?_
        refine TL_no (b := false) rfl rfl rfl rfl ?_
        refine TL_no (b := false) rfl rfl rfl rfl ?_
        refine TL_p (PV_pickF rfl (by first | assumption | rfl | (simp; done) | (simp; omega) | (simp [*]; done) | (simp [*]; omega)) rfl rfl) ?_
        refine TL_nil ?_
        refine T_else rfl (by rfl) ?_
        refine T_exit ?_
        refine T_seq ?_
        refine T_region ?_
        refine TL_p (PV_loadAt Tryd.underlying30 rfl sz30 rfl (Rds.take 1 rfl rfl rfl)) ?_
        refine TL_cons rfl (TO_store 2 rfl rfl rfl sz30 rfl rfl rfl (all_one rfl) (by first | exact Nat.le_of_ble_eq_true rfl | (simp; done) | (simp; omega) | omega) ?_)
        refine TL_p (PV_assign rfl) ?_
        refine TL_nil ?_
        refine ?L61
        case L61 =>
          refine T_ret ?_
          exact ret_ret (ResV_ct rfl Tryd.underlying30 rfl sz30 rfl (Rds.take 2 rfl rfl rfl) rfl) ⟨rdC g s i :: (X ++ N), (by repeat (first | exact Sb.r | exact Sb.ar | exact Sb.al | apply Sb.c | apply Sb.d | refine Sb.t ?_)), ov, N, rfl, htr, rfl⟩

theorem then_bad {g : Nat} {s : List Int} {i0 p j deep : Nat} {pE : Nat → Res Rx} {top : Bool} (h : PF g s deep pE top w0 B) (hi0 : i0 ≤ s.length) (hr : pThen pE top s i0 = .bad p j) :
    ReadsBad 44 w0 B #[.pointer (some ⟨g, 0, none⟩), .int .i64 (deep : Int)] g s i0 p j := by
  intro X
  have hu := h.hu
  have hs := h.hs
  have hd := h.hd
  unfold pThen at hr
  refine TCall_intro (args := [_, _]) Tryd.func44 rfl Tryd.ntmps44 (Nat.le_of_ble_eq_true rfl) ?_
  refine T_seq ?_
  refine T_region ?_
  refine TL_cons rfl (TO_alloc rfl zr30 fun g1 => ?_)
  refine TL_p (PV_assign rfl) ?_
  refine TL_nil ?_
  refine T_seq ?_
  refine T_region ?_
  refine TL_p (PV_bld (cs := [_, _, _, _, _, _]) Tryd.underlying30 pl30 zr30 rfl rfl) ?_
  refine TL_cons rfl (TO_alloc rfl zr30 fun g2 => ?_)
  refine TL_cons rfl (TO_store 0 rfl rfl rfl sz30 rfl rfl rfl (all_one rfl) (by first | exact Nat.le_of_ble_eq_true rfl | (simp; done) | (simp; omega) | omega) ?_)
  refine TL_nil ?_
  refine T_seq ?_
  refine T_seq ?_
  refine T_region ?_
  refine TL_p (PV_assign rfl) ?_
  refine TL_nil ?_
  refine T_block ?_
  refine ?L1
  case L1 =>
    refine T_loopP6 (fun (n : Nat) (i : Nat) (out : Rx) (ov : Nv) (first : Bool) (N : List Chunk) => i ≤ s.length ∧ s.length < i + n ∧ pThenL pE top s n i out first = .bad p j ∧ Tr (WH w0 B N) out ov) (fun n _ _ _ _ _ => n) (fun n i out ov first N => [(0, .pointer (some ⟨g, 0, none⟩)), (1, .int .i64 (deep : Int)), (4, .pointer (some ⟨g1, 0, none⟩)), (6, .pointer (some ⟨g2, 0, none⟩)), (7, .bool first)]) (fun n i out ov first N => rdC g s i :: .own g2 6 ov.cells :: .own g1 6 nv0.cells :: (X ++ N)) (s.length + 1) i0 .nothing nv0 true [] ⟨hi0, by omega, hr, rfl⟩ (by repeat (first | exact FrSub.nil _ | refine FrSub.cons rfl ?_)) (by rw [List.append_nil]; exact Has.of_perm ((perm_pick (i := 2) rfl).trans (List.Perm.cons _ ((perm_pick (i := 0) rfl).trans (List.Perm.cons _ (List.Perm.refl _))))) (by repeat (first | exact Sb.r | exact Sb.ar | exact Sb.al | apply Sb.c | apply Sb.d | refine Sb.t ?_))) ?_
    rintro n i out ov first N ⟨hi, hn, hl, htr⟩
    obtain ⟨n, rfl⟩ : ∃ k, n = k + 1 := ⟨n - 1, by omega⟩
    unfold pThenL at hl
    by_cases hg : goesOn s i = true
    · obtain ⟨hil, h124, h41⟩ := goesOn_lt hg
      rw [if_pos hg] at hl
      cases hp : pAgain pE top s i with
      | bad q e =>
        rw [hp] at hl
        cases hl
        have hb := fun {X : List Chunk} => again_bad h hil hp X
        refine T_seq ?_
        refine T_seq ?_
        refine T_region ?_
        refine TL_p (PV_move rfl) ?_
        refine TL_perm ((perm_pick (i := 0) rfl).trans (List.Perm.cons _ (List.Perm.refl _))) ?_
        refine TL_cons rfl (TO_call0 call34 rfl rfl (more_y hil) ?_)
        rintro v12_1002 H12_1002 ⟨rfl, rfl⟩
        refine TL_p (PV_move rfl) ?_
        refine TL_yes rfl rfl rfl (TO_pure rfl (PV_move rfl) ?_)
        refine TL_perm ((perm_pick (i := 0) rfl).trans (List.Perm.cons _ (List.Perm.refl _))) ?_
        refine TL_yes rfl rfl rfl (TO_call0 call45 rfl rfl (is_b 124 false hu h124) ?_)
        rintro v15_1004 H15_1004 ⟨rfl, rfl⟩
        refine TL_yes rfl rfl rfl (TO_pure rfl (PV_not rfl) ?_)
        refine TL_p (PV_pickAnd rfl rfl rfl) ?_
        refine TL_p (PV_move rfl) ?_
        refine TL_yes rfl rfl rfl (TO_pure rfl (PV_move rfl) ?_)
        refine TL_perm ((perm_pick (i := 0) rfl).trans (List.Perm.cons _ (List.Perm.refl _))) ?_
        refine TL_yes rfl rfl rfl (TO_call0 call45 rfl rfl (is_b 41 false hu h41) ?_)
        rintro v20_1006 H20_1006 ⟨rfl, rfl⟩
        refine TL_yes rfl rfl rfl (TO_pure rfl (PV_not rfl) ?_)
        refine TL_p (PV_pickAnd rfl rfl rfl) ?_
        refine TL_nil ?_
        refine T_then rfl (by rfl) ?_
        refine T_skip ?_
        refine T_seq ?_
        refine T_block ?_
        refine T_seq ?_
        refine T_region ?_
        refine TL_p (PV_move rfl) ?_
        refine TL_p (PV_move rfl) ?_
        refine TL_cons rfl (TO_call0 call56 rfl rfl (hb) ?_)
        rintro v26_1009 H26_1009 ⟨rfl, rfl⟩
        refine TL_p (PV_move rfl) ?_
        refine TL_p (PV_extract rfl rfl) ?_
        refine TL_p (PV_extract rfl rfl) ?_
        refine TL_cons rfl (TO_alloc rfl zr30 fun g1010 => ?_)
        refine TL_cons rfl (TO_store 0 rfl rfl rfl sz30 rfl rfl rfl (all_one rfl) (by first | exact Nat.le_of_ble_eq_true rfl | (simp; done) | (simp; omega) | omega) ?_)
        refine TL_p (PV_assign rfl) ?_
        refine TL_nil ?_
        refine T_seq ?_
        refine T_seq ?_
        refine T_region ?_
        refine TL_p (PV_move rfl) ?_
        refine TL_p (PV_bin rfl rfl (bin_if_nnil Tryd.underlying34)) ?_
        refine TL_nil ?_
        refine T_then rfl (by rfl) ?_
        refine T_seq ?_
        refine T_region ?_
        refine TL_p (PV_bld (cs := [_, _, _, _, _, _]) Tryd.underlying30 pl30 zr30 rfl rfl) ?_
        refine TL_p (PV_move rfl) ?_
        refine TL_cons rfl (TO_store 3 rfl rfl rfl sz30 rfl rfl rfl (all_one rfl) (by first | exact Nat.le_of_ble_eq_true rfl | (simp; done) | (simp; omega) | omega) ?_)
        refine TL_p (PV_assign rfl) ?_
        refine TL_nil ?_
        refine T_ret ?_
        refine ret_ret (ResV_ct rfl Tryd.underlying30 rfl sz30 rfl (Rds.take 3 rfl rfl rfl) rfl) ⟨_, ?zb1013q159, ⟨rfl, rfl⟩⟩
        case zb1013q159 => exact (by (repeat (first | exact Sb.r | exact Sb.ar | exact Sb.al | apply Sb.c | apply Sb.d | refine Sb.t ?_)); done)
      | ok t2 k =>
        rw [hp] at hl
        simp only at hl
        have hk := pAgain_lt h hil hp
        have ho := fun {X : List Chunk} => again_ok h hil hp X
        cases first with
        | true =>
          refine T_seq ?_
          refine T_seq ?_
          refine T_region ?_
          refine TL_p (PV_move rfl) ?_
          refine TL_perm ((perm_pick (i := 0) rfl).trans (List.Perm.cons _ (List.Perm.refl _))) ?_
          refine TL_cons rfl (TO_call0 call34 rfl rfl (more_y hil) ?_)
          rintro v12_2002 H12_2002 ⟨rfl, rfl⟩
          refine TL_p (PV_move rfl) ?_
          refine TL_yes rfl rfl rfl (TO_pure rfl (PV_move rfl) ?_)
          refine TL_perm ((perm_pick (i := 0) rfl).trans (List.Perm.cons _ (List.Perm.refl _))) ?_
          refine TL_yes rfl rfl rfl (TO_call0 call45 rfl rfl (is_b 124 false hu h124) ?_)
          rintro v15_2004 H15_2004 ⟨rfl, rfl⟩
          refine TL_yes rfl rfl rfl (TO_pure rfl (PV_not rfl) ?_)
          refine TL_p (PV_pickAnd rfl rfl rfl) ?_
          refine TL_p (PV_move rfl) ?_
          refine TL_yes rfl rfl rfl (TO_pure rfl (PV_move rfl) ?_)
          refine TL_perm ((perm_pick (i := 0) rfl).trans (List.Perm.cons _ (List.Perm.refl _))) ?_
          refine TL_yes rfl rfl rfl (TO_call0 call45 rfl rfl (is_b 41 false hu h41) ?_)
          rintro v20_2006 H20_2006 ⟨rfl, rfl⟩
          refine TL_yes rfl rfl rfl (TO_pure rfl (PV_not rfl) ?_)
          refine TL_p (PV_pickAnd rfl rfl rfl) ?_
          refine TL_nil ?_
          refine T_then rfl (by rfl) ?_
          refine T_skip ?_
          refine T_seq ?_
          refine T_block ?_
          refine T_seq ?_
          refine T_region ?_
          refine TL_p (PV_move rfl) ?_
          refine TL_p (PV_move rfl) ?_
          refine TL_cons rfl (TO_call0 call56 rfl rfl (ho) ?_)
          rintro v26_2009 H26_2009 ⟨v_2009, N_2009, rfl, h_2009_0, rfl⟩
          refine TL_p (PV_move rfl) ?_
          refine TL_p (PV_extract rfl rfl) ?_
          refine TL_p (PV_extract rfl rfl) ?_
          refine TL_cons rfl (TO_alloc rfl zr30 fun g2010 => ?_)
          refine TL_cons rfl (TO_store 0 rfl rfl rfl sz30 rfl rfl rfl (all_one rfl) (by first | exact Nat.le_of_ble_eq_true rfl | (simp; done) | (simp; omega) | omega) ?_)
          refine TL_p (PV_assign rfl) ?_
          refine TL_nil ?_
          refine T_seq ?_
          refine T_seq ?_
          refine T_region ?_
          refine TL_p (PV_move rfl) ?_
          refine TL_p (PV_bin rfl rfl (bin_nil_nnil Tryd.underlying34)) ?_
          refine TL_nil ?_
          refine T_else rfl (by rfl) ?_
          refine T_skip ?_
          refine T_seq ?_
          refine T_seq ?_
          refine T_region ?_
          refine TL_p (PV_move rfl) ?_
          refine TL_nil ?_
          refine T_then rfl (by rfl) ?_
          refine T_seq ?_
          refine T_region ?_
          refine TL_p (PV_loadAt Tryd.underlying30 rfl sz30 rfl (Rds.take 0 rfl rfl rfl)) ?_
          refine TL_cons rfl (TO_store 2 rfl rfl rfl sz30 rfl rfl rfl (all_one rfl) (by first | exact Nat.le_of_ble_eq_true rfl | (simp; done) | (simp; omega) | omega) ?_)
          refine TL_nil ?_
          refine T_exit ?_
          refine T_region ?_
          refine TL_p (PV_assign rfl) ?_
          refine TL_nil ?_
          refine ?L21
          case L21 =>
            rw [if_pos rfl] at hl
            exact ⟨n, k, t2, v_2009, false, N ++ N_2009, ⟨hk.2, by omega, hl, h_2009_0.mono fun w hw => hw.sub (List.sublist_append_right _ _)⟩, by omega, (by repeat (first | exact FrSub.nil _ | refine FrSub.cons rfl ?_)), by rw [← List.append_assoc]; exact Has.of_sub (by repeat (first | exact Sb.r | exact Sb.ar | exact Sb.al | apply Sb.c | apply Sb.d | refine Sb.t ?_))⟩
        | false =>
          refine T_seq ?_
          refine T_seq ?_
          refine T_region ?_
          refine TL_p (PV_move rfl) ?_
          refine TL_perm ((perm_pick (i := 0) rfl).trans (List.Perm.cons _ (List.Perm.refl _))) ?_
          refine TL_cons rfl (TO_call0 call34 rfl rfl (more_y hil) ?_)
          rintro v12_3002 H12_3002 ⟨rfl, rfl⟩
          refine TL_p (PV_move rfl) ?_
          refine TL_yes rfl rfl rfl (TO_pure rfl (PV_move rfl) ?_)
          refine TL_perm ((perm_pick (i := 0) rfl).trans (List.Perm.cons _ (List.Perm.refl _))) ?_
          refine TL_yes rfl rfl rfl (TO_call0 call45 rfl rfl (is_b 124 false hu h124) ?_)
          rintro v15_3004 H15_3004 ⟨rfl, rfl⟩
          refine TL_yes rfl rfl rfl (TO_pure rfl (PV_not rfl) ?_)
          refine TL_p (PV_pickAnd rfl rfl rfl) ?_
          refine TL_p (PV_move rfl) ?_
          refine TL_yes rfl rfl rfl (TO_pure rfl (PV_move rfl) ?_)
          refine TL_perm ((perm_pick (i := 0) rfl).trans (List.Perm.cons _ (List.Perm.refl _))) ?_
          refine TL_yes rfl rfl rfl (TO_call0 call45 rfl rfl (is_b 41 false hu h41) ?_)
          rintro v20_3006 H20_3006 ⟨rfl, rfl⟩
          refine TL_yes rfl rfl rfl (TO_pure rfl (PV_not rfl) ?_)
          refine TL_p (PV_pickAnd rfl rfl rfl) ?_
          refine TL_nil ?_
          refine T_then rfl (by rfl) ?_
          refine T_skip ?_
          refine T_seq ?_
          refine T_block ?_
          refine T_seq ?_
          refine T_region ?_
          refine TL_p (PV_move rfl) ?_
          refine TL_p (PV_move rfl) ?_
          refine TL_cons rfl (TO_call0 call56 rfl rfl (ho) ?_)
          rintro v26_3009 H26_3009 ⟨v_3009, N_3009, rfl, h_3009_0, rfl⟩
          refine TL_p (PV_move rfl) ?_
          refine TL_p (PV_extract rfl rfl) ?_
          refine TL_p (PV_extract rfl rfl) ?_
          refine TL_cons rfl (TO_alloc rfl zr30 fun g3010 => ?_)
          refine TL_cons rfl (TO_store 0 rfl rfl rfl sz30 rfl rfl rfl (all_one rfl) (by first | exact Nat.le_of_ble_eq_true rfl | (simp; done) | (simp; omega) | omega) ?_)
          refine TL_p (PV_assign rfl) ?_
          refine TL_nil ?_
          refine T_seq ?_
          refine T_seq ?_
          refine T_region ?_
          refine TL_p (PV_move rfl) ?_
          refine TL_p (PV_bin rfl rfl (bin_nil_nnil Tryd.underlying34)) ?_
          refine TL_nil ?_
          refine T_else rfl (by rfl) ?_
          refine T_skip ?_
          refine T_seq ?_
          refine T_seq ?_
          refine T_region ?_
          refine TL_p (PV_move rfl) ?_
          refine TL_nil ?_
          refine T_else rfl (by rfl) ?_
          refine T_skip ?_
          refine T_region ?_
          refine TL_p (PV_loadAt Tryd.underlying30 rfl sz30 rfl (Rds.take 2 rfl rfl rfl)) ?_
          refine TL_p (PV_loadAt Tryd.underlying30 rfl sz30 rfl (Rds.take 0 rfl rfl rfl)) ?_
          refine TL_cons rfl (TO_bs (cs := [_, _, _, _, _, _, _, _, _, _, _, _]) Tryd.underlying28 zs30 (by decide) rfl rfl rfl rfl rfl rfl fun g3012 => ?_)
          refine TL_p (PV_bld (cs := [_, _, _, _, _, _]) Tryd.underlying30 pl30 zr30 rfl rfl) ?_
          refine TL_cons rfl (TO_store 3 rfl rfl rfl sz30 rfl rfl rfl (all_one rfl) (by first | exact Nat.le_of_ble_eq_true rfl | (simp; done) | (simp; omega) | omega) ?_)
          refine TL_nil ?_
          refine T_region ?_
          refine TL_p (PV_assign rfl) ?_
          refine TL_nil ?_
          refine ?L31
          case L31 =>
            rw [if_neg (by decide)] at hl
            exact ⟨n, k, .then_ out t2, ⟨2, S4.zero, some ⟨g3012, 0, none⟩, 2, 2⟩, false, .sl (.slice (some ⟨g3012, 0, none⟩) 2 2) 6 2 (ov.cells ++ v_3009.cells) :: (N ++ N_3009), ⟨hk.2, by omega, hl, ⟨_, _, ov, v_3009, rfl, Nat.le_refl _, Shows.at 0 rfl, htr.mono fun w hw => hw.sub (List.Sublist.cons _ (List.sublist_append_left _ _)), h_3009_0.mono fun w hw => hw.sub (List.Sublist.cons _ (List.sublist_append_right _ _))⟩⟩, by omega, (by repeat (first | exact FrSub.nil _ | refine FrSub.cons rfl ?_)), Has.of_perm ((((perm_pick (i := 2) rfl).trans (List.Perm.cons _ ((perm_pick (i := 2) rfl).trans (List.Perm.cons _ ((perm_pick (i := 2) rfl).trans (List.Perm.cons _ ((perm_pick (i := 1) rfl).trans (List.Perm.cons _ (List.Perm.refl _)))))))))).trans (List.Perm.cons _ (List.Perm.cons _ (List.Perm.cons _ (List.Perm.cons _ perm_tail2))))) (by repeat (first | exact Sb.r | exact Sb.ar | exact Sb.al | apply Sb.c | apply Sb.d | refine Sb.t ?_))⟩
    · rw [if_neg hg] at hl
      cases hl
end
end Go.Proofs.YtijpbpnfachlkaaDoor.SL
