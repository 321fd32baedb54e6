import Derived.Test.YthdkmgeigdoglaaSLSend2
/- The sender's blocks. No statement is proved here. -/
set_option linter.unusedVariables false
namespace Go.Proofs.Ythdkmgeigdoglaa.SL
open Go Go.RowKit Go.Proofs.YthdkmgeigdoglaaW.PrintWords H Hand
section
variable {w0 : World} {B : Nat} {H : List Chunk}
def lg (long : Bool) (i : Nat) : Bool := long && decide (i % 2 = 0)
def blkL (l : List Int) (long : Bool) (i : Nat) : List Int := (dataL l (lg long i)).set 0 (i : Int)
theorem blkL_len (l : List Int) (long : Bool) (i : Nat) : (blkL l long i).length = dataN (lg long i) := by
  unfold blkL
  rw [List.length_set, dataL_len]
theorem blkL_two (l : List Int) (long : Bool) (i : Nat) : (blkL l long i).length = 128 ∨ (blkL l long i).length = 1024 := by
  rw [blkL_len]
  cases lg long i <;> simp [dataN]
theorem blkL_u8 (l : List Int) (long : Bool) (i : Nat) (h : i ≤ 255) : U8s (blkL l long i) := U8s_set (dataL_u8 l _) 0 _ (by omega) (by omega)
theorem tmod2 (i : Nat) : (Int.tmod (i : Int) 2 == 0) = decide (i % 2 = 0) := by
  have e : Int.tmod (i : Int) 2 = ((i % 2 : Nat) : Int) := rfl
  rw [e]
  by_cases h : i % 2 = 0
  · rw [h]; rfl
  · rw [decide_eq_false h]
    exact beq_false_of_ne (by omega)
set_option maxRecDepth 100000 in
theorem t57 {A : Option Addr} {c : Nat} {l : List Int} (mn : Nat) (long : Bool) (hS : ∀ H, Shows (WH w0 B H) A l.length 1 (nums .u8 l)) (hl : l.length ≤ 9223372036854775807) (hc : l.length ≤ c) (hu : U8s l) (hmn : mn ≤ 255) :
    TCall Try.prog w0 B 57 #[.slice A l.length c, .int .u8 (mn : Int), .bool long] (fun r H' => ∃ (A : Option Addr) (c : Nat) (qs : List Part), qs.map (·.2.2) = (List.range (mn % 5)).map (blkL l long) ∧ (∀ p ∈ qs, p.2.2.length ≤ p.2.1) ∧ r = .slice A qs.length c ∧ qs.length ≤ c ∧ H' = .sl (.slice A qs.length c) 2 qs.length (bCells 0 qs) :: (qs.reverse.map pCh ++ H)) H := by
  obtain ⟨n, hn⟩ : ∃ n, mn % 5 = n := ⟨_, rfl⟩
  have hn5 : n < 5 := by omega
  rw [hn]
  refine TCall_intro (args := [_, _, _]) Try.func57 rfl Try.ntmps57 (Nat.le_of_ble_eq_true rfl) ?_
  refine T_seq ?_
  refine T_region ?_
  refine TL_pure (d := (some 6)) rfl rfl rfl (PV_assign rfl) ?_
  refine TL_nil ?_
  refine T_seq ?_
  refine T_region ?_
  refine TL_pure (d := (some 7)) rfl rfl rfl (PV_assign rfl) ?_
  refine TL_nil ?_
  refine T_seq ?_
  refine T_seq ?_
  refine T_region ?_
  refine TL_pure (d := (some 8)) rfl rfl rfl (PV_assign rfl) ?_
  refine TL_nil ?_
  refine T_block ?_
  -- ('loop', ('Code.loop', ('Code.seq', ('Code.seq', ('Code.region', 3, ('L', ('Oper.mk', ('some', 10), ('Op.move', ('Operand.tmp', 8)), 3, '"law.go:26"', ('L',), 'none'), ('Oper.mk', ('some', 11), ('Op.m
  refine T_addNil 1 ?_
  refine T.weaken (fr' := [(0, .slice A l.length c), (1, .int .u8 (mn : Int)), (2, .bool long), (7, .slice none 0 0), (8, .int .i64 0)]) (FrSub.cons rfl (FrSub.cons rfl (FrSub.cons rfl (FrSub.cons rfl (FrSub.cons rfl (FrSub.nil _)))))) ?_
  refine T_loop (fun m f h => ∃ (i : Nat) (Ao : Option Addr) (co : Nat) (ps : List Part), m = n - i ∧ i ≤ n ∧ ps.length = i ∧ ps.length ≤ co ∧ ps.map (·.2.2) = (List.range i).map (blkL l long) ∧ (∀ p ∈ ps, p.2.2.length ≤ p.2.1) ∧ f = [(0, .slice A l.length c), (1, .int .u8 (mn : Int)), (2, .bool long), (7, .slice Ao ps.length co), (8, .int .i64 ((i : Nat) : Int))] ∧ h = .sl (.slice Ao ps.length co) 1 ps.length (ps.map pVal) :: (ps.reverse.map pCh ++ H)) (n) ?_ ?_
  · exact ⟨0, none, 0, [], rfl, Nat.zero_le _, rfl, Nat.le_refl _, rfl, by simp, rfl, rfl⟩
  · rintro m f h ⟨i, Ao, co, ps, rfl, hi, hpi, hpc, hps, hpl, rfl, rfl⟩
    refine T_seq ?_
    refine T_seq ?_
    refine T_region ?_
    refine TL_pure (d := (some 10)) rfl rfl rfl (PV_move rfl) ?_
    refine TL_pure (d := (some 11)) rfl rfl rfl (PV_move rfl) ?_
    refine TL_pure (d := (some 12)) rfl rfl rfl (PV.cast (PV_bin rfl rfl (bin_rem (by omega))) (congrArg (Value.int .u8) ((tmod_nat' mn 5).trans (congrArg (fun x : Nat => (x : Int)) hn)))) ?_
    first | (refine TL_pure (d := (some 13)) rfl rfl rfl (PV.cast (PV_conv (by rw [Try.underlying5]; rfl) Try.underlying3 rfl) (wr64 (by omega))) ?_) | (refine TL_pure (d := (some 13)) rfl rfl rfl (PV_conv (by rw [Try.underlying5]; rfl) Try.underlying3 rfl) ?_)
    refine TL_pure (d := (some 14)) rfl rfl rfl (PV_bin rfl rfl bin_lss) ?_
    refine TL_nil ?_
    -- IF t14
    refine T_cond rfl (fun hbi => ?_) (fun hbi => ?_)
    · skip
      have hin : i < n := by have := of_decide_eq_true hbi; omega
      have hdl := dataL_len l (lg long i)
      have hdn : dataN (lg long i) = 128 ∨ dataN (lg long i) = 1024 := by cases lg long i <;> simp [dataN]
      cases long with
      | false =>
        refine T_skip ?_
        refine T_seq ?_
        refine T_block ?_
        refine T_seq ?_
        refine T_region ?_
        refine TL_pure (d := (some 17)) rfl rfl rfl (PV_move rfl) ?_
        refine TL_pure (d := (some 18)) rfl rfl rfl (PV_move rfl) ?_
        refine TL_pure (d := (some 19)) rfl rfl rfl (PV_move rfl) ?_
        -- guard 20 move t8
        refine TL_no (b := false) rfl rfl rfl rfl ?_
        refine TL_no (b := false) rfl rfl rfl rfl ?_
        refine TL_no (b := false) rfl rfl rfl rfl ?_
        first | (refine TL_pure (d := (some 23)) rfl rfl rfl (PV_pickAnd rfl rfl rfl) ?_) | (refine TL_pure (d := (some 23)) rfl rfl rfl (PV_pickF rfl (by first | assumption | rfl | (simp; done) | (simp; omega)) rfl rfl) ?_)
        -- op 24 call F48(t17, t23)
        refine TL_cons rfl (TO_call0 call48 rfl rfl (t48 (lg false i) (hS _) hl hc hu) ?_)
        rintro v24 H24 ⟨A24, c24, rfl, hc24, rfl⟩
        refine TL_slA 0 rfl (by omega) fun g24 h24 => ?_
        subst h24
        refine TL_pure (d := (some 9)) rfl rfl rfl (PV_assign rfl) ?_
        refine TL_nil ?_
        refine T_seq ?_
        refine T_region ?_
        refine TL_pure (d := (some 25)) rfl rfl rfl (PV_move rfl) ?_
        refine TL_pure (d := (some 26)) rfl rfl rfl (PV_move rfl) ?_
        first | (refine TL_pure (d := (some 27)) rfl rfl rfl (PV.cast (PV_conv (by rw [Try.underlying3]; rfl) Try.underlying5 rfl) (wru8 (by omega))) ?_) | (refine TL_pure (d := (some 27)) rfl rfl rfl (PV_conv (by rw [Try.underlying3]; rfl) Try.underlying5 rfl) ?_)
        refine TL_pure (d := (some 28)) rfl rfl rfl (PV_indexAddr (i := 0) Try.underlying23 sz5 rfl rfl rfl (by first | omega | decide | assumption)) ?_
        first | (refine TL_cons rfl (TO_store1 0 rfl rfl rfl sz5 rfl rfl rfl (by first | exact Nat.le_of_ble_eq_true rfl | (simp; done) | (simp; omega) | omega) ?_)) | (refine TL_cons rfl (TO_store1 1 rfl rfl rfl sz5 rfl rfl rfl (by first | exact Nat.le_of_ble_eq_true rfl | (simp; done) | (simp; omega) | omega) ?_)) | (refine TL_cons rfl (TO_store1 2 rfl rfl rfl sz5 rfl rfl rfl (by first | exact Nat.le_of_ble_eq_true rfl | (simp; done) | (simp; omega) | omega) ?_)) | (refine TL_cons rfl (TO_store1 3 rfl rfl rfl sz5 rfl rfl rfl (by first | exact Nat.le_of_ble_eq_true rfl | (simp; done) | (simp; omega) | omega) ?_)) | (refine TL_cons rfl (TO_store1 4 rfl rfl rfl sz5 rfl rfl rfl (by first | exact Nat.le_of_ble_eq_true rfl | (simp; done) | (simp; omega) | omega) ?_)) | (refine TL_cons rfl (TO_store1 5 rfl rfl rfl sz5 rfl rfl rfl (by first | exact Nat.le_of_ble_eq_true rfl | (simp; done) | (simp; omega) | omega) ?_)) | (refine TL_cons rfl (TO_store1 6 rfl rfl rfl sz5 rfl rfl rfl (by first | exact Nat.le_of_ble_eq_true rfl | (simp; done) | (simp; omega) | omega) ?_)) | (refine TL_cons rfl (TO_store1 7 rfl rfl rfl sz5 rfl rfl rfl (by first | exact Nat.le_of_ble_eq_true rfl | (simp; done) | (simp; omega) | omega) ?_)) | (refine TL_cons rfl (TO_store1 8 rfl rfl rfl sz5 rfl rfl rfl (by first | exact Nat.le_of_ble_eq_true rfl | (simp; done) | (simp; omega) | omega) ?_))
        refine TL_nil ?_
        refine T_region ?_
        -- op 29 move t7
        refine TL_perm (List.Perm.swap _ _ _) ?_
        refine TL_cons rfl (TO_pure rfl (PV_move rfl) ?_)
        refine TL_pure (d := (some 30)) rfl rfl rfl (PV_move rfl) ?_
        -- op 31 buildSlice 68 1 [(0 t30)]
        refine TL_cons rfl (TO_buildSlice (cells := #[.slice (some ⟨g24, 0, none⟩) (dataN (lg false i)) c24]) Try.underlying68 zs23 (by decide) rfl rfl rfl (by kernel_rfl) rfl fun g31 => ?_)
        refine TL_cons rfl (TO_append 1 rfl Try.underlying68 zb23 rfl (by decide) rfl rfl rfl (Shows.at 0 rfl) (by simp [Value.oneCell']) (by omega) (by omega) fun A32 c32 hc32 => ?_)
        refine TL_pure (d := (some 7)) rfl rfl rfl (PV_assign rfl) ?_
        refine TL_nil ?_
        refine T_region ?_
        refine TL_pure (d := (some 15)) rfl rfl rfl (PV_move rfl) ?_
        refine TL_pure (d := (some 16)) rfl rfl rfl (PV.cast (PV_bin rfl rfl bin_add) (wr64n (i + 1) (by omega) (by omega))) ?_
        refine TL_pure (d := (some 8)) rfl rfl rfl (PV_assign rfl) ?_
        refine TL_nil ?_
        -- ('loopend',)
        have hbl := blkL_len l false i
        have hset : (nums .u8 (dataL l (lg false i))).set (0 + 0 * 1) (.int .u8 (i : Int)) = nums .u8 (blkL l false i) := nums_set' .u8 _ _ 0 _ rfl
        refine round_end (n - (i + 1)) _ _ (by omega) (FrSub.cons rfl (FrSub.cons rfl (FrSub.cons rfl (FrSub.cons (v := .slice A32 (ps ++ [((some ⟨g24, 0, none⟩, c24, blkL l false i) : Part)]).length c32) (by rw [List.length_append]; rfl) (FrSub.cons rfl (FrSub.nil _)))))) (List.Sublist.cons _ (List.Sublist.refl _)) ⟨i + 1, A32, c32, ps ++ [(some ⟨g24, 0, none⟩, c24, blkL l false i)], rfl, by omega, by rw [List.length_append, hpi]; rfl, by rw [List.length_append]; exact hc32, ?_, ?_, rfl, ?_⟩
        · rw [List.range_succ, List.map_append, List.map_append, hps]
          rfl
        · intro p hp
          rcases List.mem_append.1 hp with hp | hp
          · exact hpl p hp
          · rw [List.mem_singleton.1 hp]
            show (blkL l false i).length ≤ c24
            omega
        · simp only [List.map_append, List.reverse_append, List.reverse_cons, List.reverse_nil, List.nil_append, List.map_cons, List.map_nil, List.cons_append, List.length_append, List.length_cons, List.length_nil, pCh, pVal, hbl, ← hset]
          rfl
      | true =>
        refine T_skip ?_
        refine T_seq ?_
        refine T_block ?_
        refine T_seq ?_
        refine T_region ?_
        refine TL_pure (d := (some 17)) rfl rfl rfl (PV_move rfl) ?_
        refine TL_pure (d := (some 18)) rfl rfl rfl (PV_move rfl) ?_
        refine TL_pure (d := (some 19)) rfl rfl rfl (PV_move rfl) ?_
        -- guard 20 move t8
        refine TL_yes rfl rfl rfl (TO_pure rfl (PV_move rfl) ?_)
        refine TL_yes rfl rfl rfl (TO_pure rfl (PV_bin rfl rfl (bin_rem (by first | decide | omega | assumption))) ?_)
        refine TL_yes rfl rfl rfl (TO_pure rfl (PV.cast (PV_bin rfl rfl bin_eql) (congrArg Value.bool (tmod2 i))) ?_)
        first | (refine TL_pure (d := (some 23)) rfl rfl rfl (PV_pickAnd rfl rfl rfl) ?_) | (refine TL_pure (d := (some 23)) rfl rfl rfl (PV_pickF rfl (by first | assumption | rfl | (simp; done) | (simp; omega)) rfl rfl) ?_)
        -- op 24 call F48(t17, t23)
        refine TL_cons rfl (TO_call0 call48 rfl rfl (t48 (lg true i) (hS _) hl hc hu) ?_)
        rintro v24 H24 ⟨A24, c24, rfl, hc24, rfl⟩
        refine TL_slA 0 rfl (by omega) fun g24 h24 => ?_
        subst h24
        refine TL_pure (d := (some 9)) rfl rfl rfl (PV_assign rfl) ?_
        refine TL_nil ?_
        refine T_seq ?_
        refine T_region ?_
        refine TL_pure (d := (some 25)) rfl rfl rfl (PV_move rfl) ?_
        refine TL_pure (d := (some 26)) rfl rfl rfl (PV_move rfl) ?_
        first | (refine TL_pure (d := (some 27)) rfl rfl rfl (PV.cast (PV_conv (by rw [Try.underlying3]; rfl) Try.underlying5 rfl) (wru8 (by omega))) ?_) | (refine TL_pure (d := (some 27)) rfl rfl rfl (PV_conv (by rw [Try.underlying3]; rfl) Try.underlying5 rfl) ?_)
        refine TL_pure (d := (some 28)) rfl rfl rfl (PV_indexAddr (i := 0) Try.underlying23 sz5 rfl rfl rfl (by first | omega | decide | assumption)) ?_
        first | (refine TL_cons rfl (TO_store1 0 rfl rfl rfl sz5 rfl rfl rfl (by first | exact Nat.le_of_ble_eq_true rfl | (simp; done) | (simp; omega) | omega) ?_)) | (refine TL_cons rfl (TO_store1 1 rfl rfl rfl sz5 rfl rfl rfl (by first | exact Nat.le_of_ble_eq_true rfl | (simp; done) | (simp; omega) | omega) ?_)) | (refine TL_cons rfl (TO_store1 2 rfl rfl rfl sz5 rfl rfl rfl (by first | exact Nat.le_of_ble_eq_true rfl | (simp; done) | (simp; omega) | omega) ?_)) | (refine TL_cons rfl (TO_store1 3 rfl rfl rfl sz5 rfl rfl rfl (by first | exact Nat.le_of_ble_eq_true rfl | (simp; done) | (simp; omega) | omega) ?_)) | (refine TL_cons rfl (TO_store1 4 rfl rfl rfl sz5 rfl rfl rfl (by first | exact Nat.le_of_ble_eq_true rfl | (simp; done) | (simp; omega) | omega) ?_)) | (refine TL_cons rfl (TO_store1 5 rfl rfl rfl sz5 rfl rfl rfl (by first | exact Nat.le_of_ble_eq_true rfl | (simp; done) | (simp; omega) | omega) ?_)) | (refine TL_cons rfl (TO_store1 6 rfl rfl rfl sz5 rfl rfl rfl (by first | exact Nat.le_of_ble_eq_true rfl | (simp; done) | (simp; omega) | omega) ?_)) | (refine TL_cons rfl (TO_store1 7 rfl rfl rfl sz5 rfl rfl rfl (by first | exact Nat.le_of_ble_eq_true rfl | (simp; done) | (simp; omega) | omega) ?_)) | (refine TL_cons rfl (TO_store1 8 rfl rfl rfl sz5 rfl rfl rfl (by first | exact Nat.le_of_ble_eq_true rfl | (simp; done) | (simp; omega) | omega) ?_))
        refine TL_nil ?_
        refine T_region ?_
        -- op 29 move t7
        refine TL_perm (List.Perm.swap _ _ _) ?_
        refine TL_cons rfl (TO_pure rfl (PV_move rfl) ?_)
        refine TL_pure (d := (some 30)) rfl rfl rfl (PV_move rfl) ?_
        -- op 31 buildSlice 68 1 [(0 t30)]
        refine TL_cons rfl (TO_buildSlice (cells := #[.slice (some ⟨g24, 0, none⟩) (dataN (lg true i)) c24]) Try.underlying68 zs23 (by decide) rfl rfl rfl (by kernel_rfl) rfl fun g31 => ?_)
        refine TL_cons rfl (TO_append 1 rfl Try.underlying68 zb23 rfl (by decide) rfl rfl rfl (Shows.at 0 rfl) (by simp [Value.oneCell']) (by omega) (by omega) fun A32 c32 hc32 => ?_)
        refine TL_pure (d := (some 7)) rfl rfl rfl (PV_assign rfl) ?_
        refine TL_nil ?_
        refine T_region ?_
        refine TL_pure (d := (some 15)) rfl rfl rfl (PV_move rfl) ?_
        refine TL_pure (d := (some 16)) rfl rfl rfl (PV.cast (PV_bin rfl rfl bin_add) (wr64n (i + 1) (by omega) (by omega))) ?_
        refine TL_pure (d := (some 8)) rfl rfl rfl (PV_assign rfl) ?_
        refine TL_nil ?_
        -- ('loopend',)
        have hbl := blkL_len l true i
        have hset : (nums .u8 (dataL l (lg true i))).set (0 + 0 * 1) (.int .u8 (i : Int)) = nums .u8 (blkL l true i) := nums_set' .u8 _ _ 0 _ rfl
        refine round_end (n - (i + 1)) _ _ (by omega) (FrSub.cons rfl (FrSub.cons rfl (FrSub.cons rfl (FrSub.cons (v := .slice A32 (ps ++ [((some ⟨g24, 0, none⟩, c24, blkL l true i) : Part)]).length c32) (by rw [List.length_append]; rfl) (FrSub.cons rfl (FrSub.nil _)))))) (List.Sublist.cons _ (List.Sublist.refl _)) ⟨i + 1, A32, c32, ps ++ [(some ⟨g24, 0, none⟩, c24, blkL l true i)], rfl, by omega, by rw [List.length_append, hpi]; rfl, by rw [List.length_append]; exact hc32, ?_, ?_, rfl, ?_⟩
        · rw [List.range_succ, List.map_append, List.map_append, hps]
          rfl
        · intro p hp
          rcases List.mem_append.1 hp with hp | hp
          · exact hpl p hp
          · rw [List.mem_singleton.1 hp]
            show (blkL l true i).length ≤ c24
            omega
        · simp only [List.map_append, List.reverse_append, List.reverse_cons, List.reverse_nil, List.nil_append, List.map_cons, List.map_nil, List.cons_append, List.length_append, List.length_cons, List.length_nil, pCh, pVal, hbl, ← hset]
          rfl
    · skip
      have hin : i = n := by have := of_decide_eq_false hbi; omega
      subst hin
      have hbp : ∀ p ∈ ps, p.2.2.length ≤ 140737488355328 := fun p hp => by
        have h1 : p.2.2 ∈ ps.map (·.2.2) := List.mem_map_of_mem hp
        rw [hps] at h1
        obtain ⟨k, _, hk⟩ := List.mem_map.1 h1
        rw [← hk]
        have := blkL_two l long k
        omega
      refine T_exit ?_
      refine T_seq ?_
      refine T_region ?_
      refine TL_pure (d := (some 33)) rfl rfl rfl (PV_move rfl) ?_
      -- op 34 call F53(t33)
      refine TL_cons rfl (TO_call0 call53 rfl rfl (t53 (Shows.at 0 rfl) (ShowsAll.mem hpl fun p hp => List.mem_cons_of_mem _ (List.mem_append_left _ (List.mem_map_of_mem (f := pCh) (List.mem_reverse.2 hp)))) rfl (by omega) hbp hpc) ?_)
      rintro v34 H34 ⟨A34, c34, qs, hqs, hql, rfl, hqc, rfl⟩
      refine TL_pure (d := (some 6)) rfl rfl rfl (PV_assign rfl) ?_
      refine TL_nil ?_
      refine T_ret ?_
      -- ('ret',)
      refine ⟨_, _, ?_, ResV_one rfl rfl, ⟨A34, c34, qs, hqs.trans hps, hql, rfl, hqc, rfl⟩⟩
      exact List.Sublist.cons_cons _ (List.Sublist.append (List.Sublist.refl _) (List.Sublist.cons _ (List.sublist_append_right _ _)))
theorem Snd.fit_mk {ct cw : Int} {A : Option Addr} {c : Nat} {qs : List Part} {close crc : Bool} {phase : Int} {at_ : Nat} {tries left : Int} {can : Bool} {err : Value} (many : qs.length ≤ 65535) (h1 : 1 ≤ ct ∧ ct ≤ 9) (h2 : 1 ≤ cw ∧ cw ≤ 99) (h3 : 0 ≤ phase ∧ phase ≤ 3) (h4 : at_ ≤ qs.length) (h5 : 1 ≤ tries ∧ tries ≤ 9) (h6 : phase = 3 ∨ 1 ≤ left ∧ left ≤ 99) (h7 : phase = 1 → at_ < qs.length) : Snd.Fit ⟨ct, cw, A, c, qs, close, crc, phase, at_, tries, left, can, err⟩ := ⟨⟨many, h1, h2, h3, h4, h5, h6⟩, h7⟩
theorem Shows.empty {W : World → Prop} {A : Option Addr} {es : Nat} : Shows W A 0 es [] := fun w hw => ⟨by simp, fun j v h => by simp at h⟩
set_option maxRecDepth 100000 in
theorem t56 : TCall Try.prog w0 B 56 #[] (fun r H' => r = .bool true ∧ H' = H) H := by
  refine TCall_intro (args := []) Try.func56 rfl Try.ntmps56 (Nat.le_of_ble_eq_true rfl) ?_
  refine T_seq ?_
  refine T_region ?_
  refine TL_pure (d := (some 0)) rfl rfl rfl (PV_assign rfl) ?_
  refine TL_nil ?_
  refine T_seq ?_
  refine T_region ?_
  refine TL_pure (d := (some 6)) rfl rfl rfl (PV_build (ps := _) (cells := #[_, _]) Try.underlying79 pl79 zr79 rfl rfl) ?_
  -- op 7 call F58(t6, cnilslice, ctrue, ctrue)
  refine TL_cons rfl (TO_call0 call58 rfl rfl (t58 3 5 (A := none) (c := 0) (qs := []) true true Shows.empty (fun p hp => by cases hp) (by decide) (by decide) (fun p hp => by cases hp)) ?_)
  rintro v7 H7 ⟨g, Ao, co, rs, hrs, hrl, hrc, rfl, rfl⟩
  obtain rfl : rs = [] := by simpa using hrs
  refine TL_pure (d := (some 1)) rfl rfl rfl (PV_assign rfl) ?_
  refine TL_nil ?_
  refine T_seq ?_
  refine T_seq ?_
  refine T_region ?_
  refine TL_pure (d := (some 8)) rfl rfl rfl (PV_move rfl) ?_
  first | (refine TL_pure (d := (some 9)) rfl rfl rfl (PV_bin rfl rfl (bin_ptr_nil Try.underlying76)) ?_) | (refine TL_pure (d := (some 9)) rfl rfl rfl (PV_bin rfl rfl (bin_nilptr_nil Try.underlying76)) ?_)
  refine TL_nil ?_
  -- IF t9
  refine T_else rfl (by rfl) ?_
  refine T_skip ?_
  refine T_seq ?_
  refine T_region ?_
  refine TL_pure (d := (some 10)) rfl rfl rfl (PV_move rfl) ?_
  -- op 11 call F59(t10, cu8:67)
  refine TL_cons rfl (TO_call0 call59 rfl rfl (t59start ⟨3, 5, Ao, co, [], true, true, 0, 0, 1, 5, false, .nilIface⟩ 67 (Snd.fit_mk (by decide) (by decide) (by decide) (by decide) (by decide) (by decide) (Or.inr (by decide)) (fun e => by cases e)) ⟨Shows.empty, (fun p hp => by cases hp), hrc, (fun p hp => by cases hp)⟩ rfl (Or.inr ⟨rfl, rfl⟩)) ?_)
  rintro v11 H11 ⟨A11, k11, rfl, hk11, rfl⟩
  refine TL_pure (d := (some 2)) rfl rfl rfl (PV_assign rfl) ?_
  refine TL_nil ?_
  refine T_seq ?_
  refine T_region ?_
  refine TL_pure (d := (some 12)) rfl rfl rfl (PV_move rfl) ?_
  -- op 13 call F59(t12, cu8:6)
  refine TL_perm (List.Perm.swap _ _ _) ?_
  refine TL_cons rfl (TO_call0 call59 rfl rfl (t59ack2 ⟨3, 5, Ao, co, [], true, true, 2, 0, 1, 5, false, .nilIface⟩ (Snd.fit_mk (by decide) (by decide) (by decide) (by decide) (by decide) (by decide) (Or.inr (by decide)) (fun e => by cases e)) ⟨Shows.empty, (fun p hp => by cases hp), hrc, (fun p hp => by cases hp)⟩ rfl) ?_)
  rintro v13 H13 ⟨A13, k13, rfl, hk13, rfl⟩
  refine TL_pure (d := (some 3)) rfl rfl rfl (PV_assign rfl) ?_
  refine TL_nil ?_
  refine T_seq ?_
  refine T_region ?_
  refine TL_pure (d := (some 15)) rfl rfl rfl (PV_move rfl) ?_
  -- op 16 call F61(t15)
  refine TL_perm (List.Perm.swap _ _ _) ?_
  refine TL_cons rfl (TO_call0 call61 rfl rfl (t61 ⟨3, 5, Ao, co, [], true, true, 3, 0, 1, 5, false, .nilIface⟩) ?_)
  rintro v16 H16 ⟨rfl, rfl⟩
  have hS4 : Shows (WH w0 B (sndC g ⟨3, 5, Ao, co, [], true, true, 3, 0, 1, 5, false, .nilIface⟩ :: .sl (.slice A13 0 k13) 1 0 [] :: .sl (.slice A11 1 k11) 1 1 (nums .u8 [4]) :: .sl (.slice Ao 0 co) 2 0 [] :: H)) A11 1 1 (nums .u8 [4]) := Shows.at 2 rfl
  refine TL_pure (d := (some 14)) rfl rfl rfl (PV_move rfl) ?_
  refine TL_pure (d := (some 17)) rfl rfl rfl (PV_extract rfl rfl) ?_
  refine TL_pure (d := (some 18)) rfl rfl rfl (PV_extract rfl rfl) ?_
  refine TL_pure (d := (some 4)) rfl rfl rfl (PV_assign rfl) ?_
  refine TL_pure (d := (some 5)) rfl rfl rfl (PV_assign rfl) ?_
  refine TL_nil ?_
  refine T_seq ?_
  refine T_region ?_
  refine TL_pure (d := (some 19)) rfl rfl rfl (PV_move rfl) ?_
  refine TL_pure (d := (some 20)) rfl rfl rfl (PV_b2s Try.underlying23 Try.underlying5 Try.underlying9 rfl hS4) ?_
  refine TL_pure (d := (some 21)) rfl rfl rfl (PV.cast (PV_bin rfl rfl bin_str_eql) (congrArg Value.bool (show _ = true by exact decide_eq_true rfl))) ?_
  refine TL_pure (d := (some 22)) rfl rfl rfl (PV_move rfl) ?_
  -- guard 23 move t3
  refine TL_yes rfl rfl rfl (TO_pure rfl (PV_move rfl) ?_)
  refine TL_yes rfl rfl rfl (TO_pure rfl (PV_len_slice Try.underlying23 rfl) ?_)
  refine TL_yes rfl rfl rfl (TO_pure rfl (PV_bin rfl rfl bin_eql) ?_)
  first | (refine TL_pure (d := (some 26)) rfl rfl rfl (PV_pickAnd rfl rfl rfl) ?_) | (refine TL_pure (d := (some 26)) rfl rfl rfl (PV_pickF rfl (by first | assumption | rfl | (simp; done) | (simp; omega)) rfl rfl) ?_)
  refine TL_pure (d := (some 27)) rfl rfl rfl (PV_move rfl) ?_
  refine TL_yes rfl rfl rfl (TO_pure rfl (PV_move rfl) ?_)
  first | (refine TL_pure (d := (some 29)) rfl rfl rfl (PV_pickAnd rfl rfl rfl) ?_) | (refine TL_pure (d := (some 29)) rfl rfl rfl (PV_pickF rfl (by first | assumption | rfl | (simp; done) | (simp; omega)) rfl rfl) ?_)
  refine TL_pure (d := (some 30)) rfl rfl rfl (PV_move rfl) ?_
  refine TL_yes rfl rfl rfl (TO_pure rfl (PV_move rfl) ?_)
  first | (refine TL_yes rfl rfl rfl (TO_pure rfl (PV_bin rfl rfl (bin_nil_nil Try.underlying83)) ?_)) | (refine TL_yes rfl rfl rfl (TO_pure rfl (PV_bin rfl rfl (bin_if_nil Try.underlying83)) ?_)) | (refine TL_yes rfl rfl rfl (TO_pure rfl (PV_bin rfl rfl (bin_nil_if Try.underlying83)) ?_)) | (refine TL_yes rfl rfl rfl (TO_pure rfl (PV_bin rfl rfl (bin_if_if Try.underlying83 (by first | exact Try.underlying135 | exact Try.underlying83) (by kernel_rfl))) ?_))
  first | (refine TL_pure (d := (some 33)) rfl rfl rfl (PV_pickAnd rfl rfl rfl) ?_) | (refine TL_pure (d := (some 33)) rfl rfl rfl (PV_pickF rfl (by first | assumption | rfl | (simp; done) | (simp; omega)) rfl rfl) ?_)
  refine TL_pure (d := (some 0)) rfl rfl rfl (PV_assign rfl) ?_
  refine TL_nil ?_
  refine T_ret ?_
  refine ⟨_, _, ?_, ResV_one rfl rfl, ⟨rfl, rfl⟩⟩
  repeat (first | exact List.Sublist.refl _ | apply List.Sublist.cons_cons | apply List.Sublist.cons)
    end
    end Go.Proofs.Ythdkmgeigdoglaa.SL
    