import Derived.Test.YtijpbpnfachlkaaDoorX2
/- Brackets stand six deep in one another, and no deeper: the law. No statement is proved here. -/
set_option linter.unusedVariables false
set_option linter.unusedSimpArgs false
set_option maxRecDepth 100000
set_option maxHeartbeats 8000000
namespace Go.Proofs.YtijpbpnfachlkaaDoor.SL
open Go Go.RowKit
def deepTxt (k : Nat) (b : Bool) : List Int := (List.replicate k 40 ++ [97]) ++ (List.replicate k 41 ++ (if b then [98] else []))
def okR : Res Rx → Bool
  | .ok _ _ => true
  | .bad _ _ => false
def badR : Res Rx → Nat
  | .ok _ _ => 1000
  | .bad p _ => p
theorem deep_ok : ∀ k, k < 7 → ∀ b, okR (pParse (deepTxt k b)) = true := by decide +kernel
theorem deep_bad : ∀ k, k < 12 → 6 < k → ∀ b, badR (pParse (deepTxt k b)) = 6 := by decide +kernel
theorem deep_u8 (k : Nat) (b : Bool) : U8s (deepTxt k b) := fun x hx => by
  simp only [deepTxt, List.mem_append, List.mem_replicate, List.mem_cons, List.not_mem_nil, or_false] at hx
  rcases hx with (⟨_, rfl⟩ | rfl) | ⟨_, rfl⟩ | hx
  · omega
  · omega
  · omega
  · split at hx
    · simp at hx; omega
    · simp at hx
theorem deep_len (k : Nat) (b : Bool) : (deepTxt k b).length ≤ 2 * k + 2 := by
  cases b <;> simp [deepTxt] <;> omega
theorem rep_succ (k : Nat) (c : Int) : List.replicate (k + 1) c = List.replicate k c ++ [c] := List.replicate_succ'
section
variable {w0 : World} {B n : Nat} {H : List Chunk}
theorem RegexDeep_t (hL : Laid w0) (hB0 : 0 < B) (mn : Nat) (hmn : mn ≤ 255) (b : Bool) : TCall Tryd.prog w0 B 6 #[.int .u8 (mn : Int), .bool b] (fun r H' => r = .bool true ∧ H' = H) H := by
  have aw := fun {X : List Chunk} => (awake06s (w0 := w0) (B := B) (H := X) hL hB0)
  have e14 : Value.int .u8 ((mn : Int).tmod 12) = .int .u8 ((mn % 12 : Nat) : Int) := rfl
  have e15 : Value.int .i64 (IntKind.i64.wrap ((mn % 12 : Nat) : Int)) = .int .i64 ((mn % 12 : Nat) : Int) := wr64n _ rfl (by omega)
  obtain ⟨k, hk⟩ : ∃ k, mn % 12 = k := ⟨_, rfl⟩
  have hk12 : k < 12 := by omega
  rw [hk] at e14 e15
  refine TCall_intro (args := [_, _]) Tryd.func6 rfl Tryd.ntmps6 (Nat.le_of_ble_eq_true rfl) ?_
  refine T_seq ?_
  refine T_region ?_
  refine TL_p (PV_assign rfl) ?_
  refine TL_nil ?_
  refine T_seq ?_
  refine T_seq ?_
  refine T_region ?_
  refine TL_cons rfl (TO_call0 call10 rfl rfl (aw) ?_)
  rintro v11_3 H11_3 ⟨rfl, rfl⟩
  refine TL_p (PV_not rfl) ?_
  refine TL_nil ?_
  refine T_else rfl (by rfl) ?_
  refine T_skip ?_
  refine T_seq ?_
  refine T_region ?_
  refine TL_p (PV_move rfl) ?_
  refine TL_p (PV.cast (PV_bin rfl rfl (bin_rem (by decide))) e14) ?_
  refine TL_p (PV.cast (PV_conv (by rw [Tryd.underlying5]; rfl) Tryd.underlying3 rfl) e15) ?_
  refine TL_p (PV_assign rfl) ?_
  refine TL_nil ?_
  refine T_seq ?_
  refine T_region ?_
  refine TL_p (PV_assign rfl) ?_
  refine TL_p (PV_assign rfl) ?_
  refine TL_nil ?_
  refine T_seq ?_
  refine T_seq ?_
  refine T_region ?_
  refine TL_p (PV_assign rfl) ?_
  refine TL_nil ?_
  refine T_block ?_
  refine ?L1
  case L1 =>
    refine T_addNil 1 ?_
    refine T_loopP1 (fun (i : Nat) => i ≤ k) (fun i => k - i) (fun i => [(1, .bool b), (5, .int .i64 (k : Int)), (6, .string (strOfNums (List.replicate i 40))), (7, .string (strOfNums (List.replicate i 41))), (8, .int .i64 (i : Int))]) (fun i => H) 0 (Nat.zero_le _) (by repeat (first | exact FrSub.nil _ | refine FrSub.cons rfl ?_)) (Has.of_sub (by repeat (first | exact Sb.r | exact Sb.ar | exact Sb.al | apply Sb.c | apply Sb.d | refine Sb.t ?_))) ?_
    rintro i hi
    have h40 : strOfNums [40] = ⟨#[40]⟩ := by kernel_rfl
    have h41 : strOfNums [41] = ⟨#[41]⟩ := by kernel_rfl
    have h97 : strOfNums [97] = ⟨#[97]⟩ := by kernel_rfl
    have h98 : strOfNums [98] = ⟨#[98]⟩ := by kernel_rfl
    by_cases hik : i < k
    · have e20 : Value.int .i64 (IntKind.i64.wrap ((i : Int) + 1)) = .int .i64 ((i + 1 : Nat) : Int) := wr64n _ (by push_cast; rfl) (by omega)
      refine T_seq ?_
      refine T_seq ?_
      refine T_region ?_
      refine TL_p (PV_move rfl) ?_
      refine TL_p (PV_move rfl) ?_
      refine TL_p (PV_bin rfl rfl bin_lss) ?_
      refine TL_nil ?_
      refine T_then rfl (by exact decide_eq_true (by omega)) ?_
      refine T_skip ?_
      refine T_seq ?_
      refine T_block ?_
      refine T_region ?_
      refine TL_p (PV_move rfl) ?_
      refine TL_p (PV_bin rfl rfl (bin_cat (x := List.replicate i 40) (y := [40]) rfl h40 (by simp; omega))) ?_
      refine TL_p (PV_move rfl) ?_
      refine TL_p (PV_bin rfl rfl (bin_cat (x := List.replicate i 41) (y := [41]) rfl h41 (by simp; omega))) ?_
      refine TL_p (PV_assign rfl) ?_
      refine TL_p (PV_assign rfl) ?_
      refine TL_nil ?_
      refine T_region ?_
      refine TL_p (PV_move rfl) ?_
      refine TL_p (PV.cast (PV_bin rfl rfl bin_add) e20) ?_
      refine TL_p (PV_assign rfl) ?_
      refine TL_nil ?_
      refine ?L11
      all_goals exact ⟨i + 1, by omega, by omega, by rw [rep_succ, rep_succ]; exact (by repeat (first | exact FrSub.nil _ | refine FrSub.cons rfl ?_)), Has.of_sub (by repeat (first | exact Sb.r | exact Sb.ar | exact Sb.al | apply Sb.c | apply Sb.d | refine Sb.t ?_))⟩
    · obtain rfl : i = k := by omega
      have hl := deep_len i b
      have hu := deep_u8 i b
      by_cases h6 : i < 7
      · have e37 : Value.bool (decide ((i : Int) > 6)) = .bool false := congrArg Value.bool (decide_eq_false (by omega))
        obtain ⟨t, j, hp⟩ : ∃ t j, pParse (deepTxt i b) = .ok t j := by
          have := deep_ok i h6 b
          cases h : pParse (deepTxt i b) with
          | ok t j => exact ⟨t, j, rfl⟩
          | bad p j => rw [h] at this; cases this
        cases b
        · refine T_seq ?_
          refine T_seq ?_
          refine T_region ?_
          refine TL_p (PV_move rfl) ?_
          refine TL_p (PV_move rfl) ?_
          refine TL_p (PV_bin rfl rfl bin_lss) ?_
          refine TL_nil ?_
          refine T_else rfl (by (simp; done)) ?_
          refine T_exit ?_
          refine T_seq ?_
          refine T_seq ?_
          refine T_region ?_
          refine TL_p (PV_move rfl) ?_
          refine TL_nil ?_
          refine T_else rfl (by rfl) ?_
          refine T_skip ?_
          refine T_seq ?_
          refine T_region ?_
          refine TL_p (PV_move rfl) ?_
          refine TL_p (PV_bin rfl rfl (bin_cat (x := List.replicate i 40) (y := [97]) rfl h97 (by simp; omega))) ?_
          refine TL_p (PV_move rfl) ?_
          refine TL_p (PV_bin rfl rfl (bin_cat (x := List.replicate i 40 ++ [97]) (y := List.replicate i 41 ++ []) rfl (by rw [List.append_nil]) (by simp; omega))) ?_
          refine TL_cons rfl (TO_parse hp hu (by omega) rfl rfl rfl fun v33 N33 hv33 => ?_)
          refine TL_p (PV_move rfl) ?_
          refine TL_p (PV_extract rfl rfl) ?_
          refine TL_p (PV_extract rfl rfl) ?_
          refine TL_cons rfl (TO_alloc rfl zr30 fun g2002 => ?_)
          refine TL_cons rfl (TO_store 0 rfl rfl rfl sz30 rfl rfl rfl (all_one rfl) (by first | exact Nat.le_of_ble_eq_true rfl | (simp; done) | (simp; omega) | omega) ?_)
          refine TL_p (PV_assign rfl) ?_
          refine TL_nil ?_
          refine T_seq ?_
          refine T_seq ?_
          refine T_region ?_
          refine TL_p (PV_move rfl) ?_
          refine TL_p (PV.cast (PV_bin rfl rfl bin_gtr) e37) ?_
          refine TL_nil ?_
          refine T_else rfl (by rfl) ?_
          refine T_skip ?_
          refine T_seq ?_
          refine T_region ?_
          refine TL_p (PV_move rfl) ?_
          refine TL_p (PV_bin rfl rfl (bin_nil_nil Tryd.underlying34)) ?_
          refine TL_p (PV_assign rfl) ?_
          refine TL_nil ?_
          refine T_ret ?_
          refine ret_ret (ResV_one rfl rfl) ⟨_, ?zb2004q69, ⟨rfl, rfl⟩⟩
          case zb2004q69 => exact (by (repeat (first | exact Sb.r | exact Sb.ar | exact Sb.al | apply Sb.c | apply Sb.d | refine Sb.t ?_)); done)
          all_goals exact T_ret (ret_ret (ResV_one rfl rfl) ⟨H, (by repeat (first | exact Sb.r | exact Sb.ar | exact Sb.al | apply Sb.c | apply Sb.d | refine Sb.t ?_)), rfl, rfl⟩)
        · refine T_seq ?_
          refine T_seq ?_
          refine T_region ?_
          refine TL_p (PV_move rfl) ?_
          refine TL_p (PV_move rfl) ?_
          refine TL_p (PV_bin rfl rfl bin_lss) ?_
          refine TL_nil ?_
          refine T_else rfl (by (simp; done)) ?_
          refine T_exit ?_
          refine T_seq ?_
          refine T_seq ?_
          refine T_region ?_
          refine TL_p (PV_move rfl) ?_
          refine TL_nil ?_
          refine T_then rfl (by rfl) ?_
          refine T_region ?_
          refine TL_p (PV_move rfl) ?_
          refine TL_p (PV_bin rfl rfl (bin_cat (x := List.replicate i 41) (y := [98]) rfl h98 (by simp; omega))) ?_
          refine TL_p (PV_assign rfl) ?_
          refine TL_nil ?_
          refine T_seq ?_
          refine T_region ?_
          refine TL_p (PV_move rfl) ?_
          refine TL_p (PV_bin rfl rfl (bin_cat (x := List.replicate i 40) (y := [97]) rfl h97 (by simp; omega))) ?_
          refine TL_p (PV_move rfl) ?_
          refine TL_p (PV_bin rfl rfl (bin_cat (x := List.replicate i 40 ++ [97]) (y := List.replicate i 41 ++ [98]) rfl rfl (by simp; omega))) ?_
          refine TL_cons rfl (TO_parse hp hu (by omega) rfl rfl rfl fun v33 N33 hv33 => ?_)
          refine TL_p (PV_move rfl) ?_
          refine TL_p (PV_extract rfl rfl) ?_
          refine TL_p (PV_extract rfl rfl) ?_
          refine TL_cons rfl (TO_alloc rfl zr30 fun g3002 => ?_)
          refine TL_cons rfl (TO_store 0 rfl rfl rfl sz30 rfl rfl rfl (all_one rfl) (by first | exact Nat.le_of_ble_eq_true rfl | (simp; done) | (simp; omega) | omega) ?_)
          refine TL_p (PV_assign rfl) ?_
          refine TL_nil ?_
          refine T_seq ?_
          refine T_seq ?_
          refine T_region ?_
          refine TL_p (PV_move rfl) ?_
          refine TL_p (PV.cast (PV_bin rfl rfl bin_gtr) e37) ?_
          refine TL_nil ?_
          refine T_else rfl (by rfl) ?_
          refine T_skip ?_
          refine T_seq ?_
          refine T_region ?_
          refine TL_p (PV_move rfl) ?_
          refine TL_p (PV_bin rfl rfl (bin_nil_nil Tryd.underlying34)) ?_
          refine TL_p (PV_assign rfl) ?_
          refine TL_nil ?_
          refine T_ret ?_
          refine ret_ret (ResV_one rfl rfl) ⟨_, ?zb3004q75, ⟨rfl, rfl⟩⟩
          case zb3004q75 => exact (by (repeat (first | exact Sb.r | exact Sb.ar | exact Sb.al | apply Sb.c | apply Sb.d | refine Sb.t ?_)); done)
          all_goals exact T_ret (ret_ret (ResV_one rfl rfl) ⟨H, (by repeat (first | exact Sb.r | exact Sb.ar | exact Sb.al | apply Sb.c | apply Sb.d | refine Sb.t ?_)), rfl, rfl⟩)
      · have e37 : Value.bool (decide ((i : Int) > 6)) = .bool true := congrArg Value.bool (decide_eq_true (by omega))
        obtain ⟨j, hp⟩ : ∃ j, pParse (deepTxt i b) = .bad 6 j := by
          have := deep_bad i (by omega) (by omega) b
          cases h : pParse (deepTxt i b) with
          | ok t j => rw [h] at this; cases this
          | bad p j => rw [h] at this; obtain rfl : p = 6 := this; exact ⟨j, rfl⟩
        cases b
        · refine T_seq ?_
          refine T_seq ?_
          refine T_region ?_
          refine TL_p (PV_move rfl) ?_
          refine TL_p (PV_move rfl) ?_
          refine TL_p (PV_bin rfl rfl bin_lss) ?_
          refine TL_nil ?_
          refine T_else rfl (by (simp; done)) ?_
          refine T_exit ?_
          refine T_seq ?_
          refine T_seq ?_
          refine T_region ?_
          refine TL_p (PV_move rfl) ?_
          refine TL_nil ?_
          refine T_else rfl (by rfl) ?_
          refine T_skip ?_
          refine T_seq ?_
          refine T_region ?_
          refine TL_p (PV_move rfl) ?_
          refine TL_p (PV_bin rfl rfl (bin_cat (x := List.replicate i 40) (y := [97]) rfl h97 (by simp; omega))) ?_
          refine TL_p (PV_move rfl) ?_
          refine TL_p (PV_bin rfl rfl (bin_cat (x := List.replicate i 40 ++ [97]) (y := List.replicate i 41 ++ []) rfl (by rw [List.append_nil]) (by simp; omega))) ?_
          refine TL_cons rfl (TO_parseB hp hu (by omega) rfl rfl rfl ?_)
          refine TL_p (PV_move rfl) ?_
          refine TL_p (PV_extract rfl rfl) ?_
          refine TL_p (PV_extract rfl rfl) ?_
          refine TL_cons rfl (TO_alloc rfl zr30 fun g4002 => ?_)
          refine TL_cons rfl (TO_store 0 rfl rfl rfl sz30 rfl rfl rfl (all_one rfl) (by first | exact Nat.le_of_ble_eq_true rfl | (simp; done) | (simp; omega) | omega) ?_)
          refine TL_p (PV_assign rfl) ?_
          refine TL_nil ?_
          refine T_seq ?_
          refine T_seq ?_
          refine T_region ?_
          refine TL_p (PV_move rfl) ?_
          refine TL_p (PV.cast (PV_bin rfl rfl bin_gtr) e37) ?_
          refine TL_nil ?_
          refine T_then rfl (by rfl) ?_
          refine T_seq ?_
          refine T_region ?_
          refine TL_p (PV_move rfl) ?_
          refine TL_cons rfl (TO_call0 call13 rfl rfl (numberF_t ?sd4005q89_0 ?sd4005q89_1 _ _) ?_)
          case sd4005q89_0 => exact hL
          case sd4005q89_1 => exact hB0
          rintro v39_4006 H39_4006 ⟨rfl, rfl⟩
          refine TL_p (PV_bin rfl rfl bin_eql) ?_
          refine TL_p (PV_move rfl) ?_
          refine TL_yes rfl rfl rfl (TO_pure rfl (PV_move rfl) ?_)
          refine TL_yes rfl rfl rfl (TO_call0 call14 rfl rfl (placeF_t ?sd4008q89_0 ?sd4008q89_1 _ _) ?_)
          case sd4008q89_0 => exact hL
          case sd4008q89_1 => exact hB0
          rintro v43_4009 H43_4009 ⟨rfl, rfl⟩
          refine TL_yes rfl rfl rfl (TO_pure rfl (PV_bin rfl rfl bin_eql) ?_)
          refine TL_p (PV_pickAnd rfl rfl rfl) ?_
          refine TL_p (PV_assign rfl) ?_
          refine TL_nil ?_
          refine T_ret ?_
          refine ret_ret (ResV_one rfl rfl) ⟨_, ?zb4010q89, ⟨rfl, rfl⟩⟩
          case zb4010q89 => exact (by (repeat (first | exact Sb.r | exact Sb.ar | exact Sb.al | apply Sb.c | apply Sb.d | refine Sb.t ?_)); done)
          all_goals exact T_ret (ret_ret (ResV_one rfl rfl) ⟨H, (by repeat (first | exact Sb.r | exact Sb.ar | exact Sb.al | apply Sb.c | apply Sb.d | refine Sb.t ?_)), rfl, rfl⟩)
        · refine T_seq ?_
          refine T_seq ?_
          refine T_region ?_
          refine TL_p (PV_move rfl) ?_
          refine TL_p (PV_move rfl) ?_
          refine TL_p (PV_bin rfl rfl bin_lss) ?_
          refine TL_nil ?_
          refine T_else rfl (by (simp; done)) ?_
          refine T_exit ?_
          refine T_seq ?_
          refine T_seq ?_
          refine T_region ?_
          refine TL_p (PV_move rfl) ?_
          refine TL_nil ?_
          refine T_then rfl (by rfl) ?_
          refine T_region ?_
          refine TL_p (PV_move rfl) ?_
          refine TL_p (PV_bin rfl rfl (bin_cat (x := List.replicate i 41) (y := [98]) rfl h98 (by simp; omega))) ?_
          refine TL_p (PV_assign rfl) ?_
          refine TL_nil ?_
          refine T_seq ?_
          refine T_region ?_
          refine TL_p (PV_move rfl) ?_
          refine TL_p (PV_bin rfl rfl (bin_cat (x := List.replicate i 40) (y := [97]) rfl h97 (by simp; omega))) ?_
          refine TL_p (PV_move rfl) ?_
          refine TL_p (PV_bin rfl rfl (bin_cat (x := List.replicate i 40 ++ [97]) (y := List.replicate i 41 ++ [98]) rfl rfl (by simp; omega))) ?_
          refine TL_cons rfl (TO_parseB hp hu (by omega) rfl rfl rfl ?_)
          refine TL_p (PV_move rfl) ?_
          refine TL_p (PV_extract rfl rfl) ?_
          refine TL_p (PV_extract rfl rfl) ?_
          refine TL_cons rfl (TO_alloc rfl zr30 fun g5002 => ?_)
          refine TL_cons rfl (TO_store 0 rfl rfl rfl sz30 rfl rfl rfl (all_one rfl) (by first | exact Nat.le_of_ble_eq_true rfl | (simp; done) | (simp; omega) | omega) ?_)
          refine TL_p (PV_assign rfl) ?_
          refine TL_nil ?_
          refine T_seq ?_
          refine T_seq ?_
          refine T_region ?_
          refine TL_p (PV_move rfl) ?_
          refine TL_p (PV.cast (PV_bin rfl rfl bin_gtr) e37) ?_
          refine TL_nil ?_
          refine T_then rfl (by rfl) ?_
          refine T_seq ?_
          refine T_region ?_
          refine TL_p (PV_move rfl) ?_
          refine TL_cons rfl (TO_call0 call13 rfl rfl (numberF_t ?sd5005q97_0 ?sd5005q97_1 _ _) ?_)
          case sd5005q97_0 => exact hL
          case sd5005q97_1 => exact hB0
          rintro v39_5006 H39_5006 ⟨rfl, rfl⟩
          refine TL_p (PV_bin rfl rfl bin_eql) ?_
          refine TL_p (PV_move rfl) ?_
          refine TL_yes rfl rfl rfl (TO_pure rfl (PV_move rfl) ?_)
          refine TL_yes rfl rfl rfl (TO_call0 call14 rfl rfl (placeF_t ?sd5008q97_0 ?sd5008q97_1 _ _) ?_)
          case sd5008q97_0 => exact hL
          case sd5008q97_1 => exact hB0
          rintro v43_5009 H43_5009 ⟨rfl, rfl⟩
          refine TL_yes rfl rfl rfl (TO_pure rfl (PV_bin rfl rfl bin_eql) ?_)
          refine TL_p (PV_pickAnd rfl rfl rfl) ?_
          refine TL_p (PV_assign rfl) ?_
          refine TL_nil ?_
          refine T_ret ?_
          refine ret_ret (ResV_one rfl rfl) ⟨_, ?zb5010q97, ⟨rfl, rfl⟩⟩
          case zb5010q97 => exact (by (repeat (first | exact Sb.r | exact Sb.ar | exact Sb.al | apply Sb.c | apply Sb.d | refine Sb.t ?_)); done)
          all_goals exact T_ret (ret_ret (ResV_one rfl rfl) ⟨H, (by repeat (first | exact Sb.r | exact Sb.ar | exact Sb.al | apply Sb.c | apply Sb.d | refine Sb.t ?_)), rfl, rfl⟩)
end
end Go.Proofs.YtijpbpnfachlkaaDoor.SL
