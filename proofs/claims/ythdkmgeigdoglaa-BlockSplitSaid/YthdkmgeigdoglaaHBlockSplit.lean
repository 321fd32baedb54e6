import Derived.Test.YthdkmgeigdoglaaSLNum
/- BlockSplit, walked. -/
set_option linter.unusedVariables false
namespace Go.Proofs.Ythdkmgeigdoglaa.SL
open Go Go.RowKit Go.Proofs.YthdkmgeigdoglaaW.PrintWords H Hand
theorem set_fill (X : List Int) (N k : Nat) (h : X.length = N) (hk : k < N) (v : Int) (hv : X[k]? = some v) : (X.take k ++ List.replicate (N - k) 0).set k v = X.take (k + 1) ++ List.replicate (N - (k + 1)) 0 := by
  have hl : (X.take k).length = k := by rw [List.length_take]; omega
  rw [List.set_append_right _ _ (by omega), hl, Nat.sub_self, show N - k = (N - (k + 1)) + 1 by omega, List.replicate_succ, List.set_cons_zero, List.take_add_one, hv, List.append_assoc]
  rfl
theorem partL_get {large : Bool} {rest : List Int} {N k : Nat} (hN : partN large rest = N) (hk : k < N) : (partL large rest)[k]? = some (if k < rest.length then rd rest k else 26) := by
  unfold partL
  rw [hN]
  by_cases h : k < rest.length
  · rw [if_pos h, List.getElem?_append_left (by rw [List.length_take]; omega), List.getElem?_take_of_lt (by omega)]
    simp [rd, List.getD_eq_getElem?_getD, List.getElem?_eq_getElem h]
  · rw [if_neg h, List.getElem?_append_right (by rw [List.length_take]; omega), List.length_take, List.getElem?_replicate, if_pos (by omega)]
theorem rd_drop (d : List Int) (a k : Nat) : rd (d.drop a) k = rd d ((a + k : Nat) : Int) := by
  have e : (((a + k : Nat) : Int)).toNat = a + k := by omega
  unfold rd
  rw [e]
  simp [List.getD_eq_getElem?_getD, List.getElem?_drop]
theorem splitL_min (large : Bool) (rest : List Int) (N : Nat) : splitL large (rest.drop (min N rest.length)) = splitL large (rest.drop N) := by
  by_cases h : N ≤ rest.length
  · rw [Nat.min_eq_left h]
  · rw [Nat.min_eq_right (by omega), splitL_nil large (by rw [List.length_drop]; omega), splitL_nil large (by rw [List.length_drop]; omega)]
set_option maxRecDepth 100000 in
theorem BlockSplit_t {w : World} {A : Option Addr} {c : Nat} {l : List Int} {mo : Nat} {large : Bool} (hr : ReadsInt w .u8 A l.length l) (hc : l.length ≤ c) (hl : l.length ≤ 140737488351232) (hmo : mo ≤ 65535) :
    TCall Try.prog w w.heap.size 19 #[.slice A l.length c, .int .u16 (mo : Int), .bool large] (fun r _ => r = .bool true) [] := by
  have hS : ∀ H, Shows (WH w w.heap.size H) A l.length 1 (nums .u8 l) := fun H => shows_start hr
  obtain ⟨n, hn⟩ : ∃ n, mo % 5000 = n := ⟨_, rfl⟩
  have hn5 : n < 5000 := by omega
  refine TCall_intro (args := [_, _, _]) Try.func19 rfl Try.ntmps19 (Nat.le_of_ble_eq_true rfl) ?_
  refine T_seq ?_
  refine T_region ?_
  refine TL_pure (d := (some 6)) rfl rfl rfl (PV_assign rfl) ?_
  refine TL_nil ?_
  refine T_seq ?_
  refine T_seq ?_
  refine T_region ?_
  -- op 18 call F47()
  refine TL_cons rfl (TO_call0 call47 rfl rfl (t47) ?_)
  rintro v18 H18 ⟨rfl, rfl⟩
  refine TL_pure (d := (some 19)) rfl rfl rfl (PV_not rfl) ?_
  refine TL_nil ?_
  refine T_else rfl (by rfl) ?_
  refine T_skip ?_
  refine T_seq ?_
  refine T_region ?_
  refine TL_pure (d := (some 20)) rfl rfl rfl (PV_move rfl) ?_
  first | (refine TL_pure (d := (some 21)) rfl rfl rfl (PV.cast (PV_conv (by rw [Try.underlying22]; rfl) Try.underlying3 rfl) (wr64 (by omega))) ?_) | (refine TL_pure (d := (some 21)) rfl rfl rfl (PV_conv (by rw [Try.underlying22]; rfl) Try.underlying3 rfl) ?_)
  refine TL_pure (d := (some 22)) rfl rfl rfl (PV.cast (PV_bin rfl rfl (bin_rem (by omega))) (congrArg (Value.int .i64) ((tmod_nat' mo 5000).trans (congrArg (fun x : Nat => (x : Int)) hn)))) ?_
  refine TL_cons rfl (TO_make Try.underlying23 zb5 rfl (by omega) (by omega) rfl ⟨_, rfl⟩ ⟨_, rfl⟩ fun g23 => ?_)
  refine TL_pure (d := (some 7)) rfl rfl rfl (PV_assign rfl) ?_
  refine TL_nil ?_
  refine T_seq ?_
  refine T_seq ?_
  refine T_region ?_
  refine TL_pure (d := (some 24)) rfl rfl rfl (PV_move rfl) ?_
  refine TL_pure (d := (some 25)) rfl rfl rfl (PV_len_slice Try.underlying23 rfl) ?_
  refine TL_pure (d := (some 26)) rfl rfl rfl (PV_move rfl) ?_
  refine TL_nil ?_
  refine T_block ?_
  -- ('loop', ('Code.loop', ('Code.seq', ('Code.region', 5, ('L', ('Oper.mk', ('some', 27), ('Op.binOp', 'BinOp.lss', 3, ('Operand.tmp', 26), ('Operand.tmp', 25), 3), 0, '"law.go:125"', ('L',), 'none')), '
  refine T.weaken (fr' := [(0, .slice A l.length c), (2, .bool large), (7, .slice (some ⟨g23, 0, none⟩) n n), (25, .int .i64 (n : Int)), (26, .int .i64 0)]) (FrSub.cons rfl (FrSub.cons rfl (FrSub.cons rfl (FrSub.cons rfl (FrSub.cons rfl (FrSub.nil _)))))) ?_
  refine T_loop (fun m f h => ∃ (i : Nat) (xs : List Int), m = n - i ∧ i ≤ n ∧ xs.length = n ∧ f = [(0, .slice A l.length c), (2, .bool large), (7, .slice (some ⟨g23, 0, none⟩) n n), (25, .int .i64 (n : Int)), (26, .int .i64 ((i : Nat) : Int))] ∧ h = [.sl (.slice (some ⟨g23, 0, none⟩) n n) 1 n (nums .u8 xs)]) (n) ?_ ?_
  · exact ⟨0, List.replicate n 0, rfl, Nat.zero_le _, List.length_replicate, rfl, by simp [nums]⟩
  · rintro m f h ⟨i, xs, rfl, hi, hxs, rfl, rfl⟩
    refine T_seq ?_
    refine T_region ?_
    refine TL_pure (d := (some 27)) rfl rfl rfl (PV_bin rfl rfl bin_lss) ?_
    refine TL_nil ?_
    refine T_seq ?_
    -- IF t27
    refine T_cond rfl (fun hbi => ?_) (fun hbi => ?_)
    · skip
      have hin : i < n := by have := of_decide_eq_true hbi; omega
      refine T_skip ?_
      refine T_seq ?_
      refine T_block ?_
      refine T_seq ?_
      refine T_region ?_
      refine TL_pure (d := (some 28)) rfl rfl rfl (PV_move rfl) ?_
      refine TL_pure (d := (some 8)) rfl rfl rfl (PV_assign rfl) ?_
      refine TL_nil ?_
      refine T_seq ?_
      refine T_region ?_
      refine TL_pure (d := (some 29)) rfl rfl rfl (PV_move rfl) ?_
      refine TL_pure (d := (some 30)) rfl rfl rfl (PV_len_slice Try.underlying23 rfl) ?_
      refine TL_pure (d := (some 31)) rfl rfl rfl (PV_bin rfl rfl bin_gtr) ?_
      refine TL_nil ?_
      -- IF t31
      refine T_cond rfl (fun hbl => ?_) (fun hbl => ?_)
      · skip
        have hl0 : 0 < l.length := by have := of_decide_eq_true hbl; omega
        have hk := Nat.mod_lt i hl0
        refine T_shows (hS _) (by simp [nums]; omega) fun g off hA hrd => ?_
        subst hA
        have hget := hrd (i % l.length) (.int .u8 (rd l ((i % l.length : Nat) : Int))) (nums_at _ hk)
        rw [show off + i % l.length = off + i % l.length * 1 by omega] at hget
        refine T_region ?_
        refine TL_pure (d := (some 32)) rfl rfl rfl (PV_move rfl) ?_
        refine TL_pure (d := (some 33)) rfl rfl rfl (PV_move rfl) ?_
        refine TL_pure (d := (some 34)) rfl rfl rfl (PV_move rfl) ?_
        refine TL_pure (d := (some 35)) rfl rfl rfl (PV_move rfl) ?_
        refine TL_pure (d := (some 36)) rfl rfl rfl (PV_move rfl) ?_
        refine TL_pure (d := (some 37)) rfl rfl rfl (PV_len_slice Try.underlying23 rfl) ?_
        refine TL_pure (d := (some 38)) rfl rfl rfl (PV.cast (PV_bin rfl rfl (bin_rem (by omega))) (congrArg (Value.int .i64) (tmod_nat' i l.length))) ?_
        refine TL_pure (d := (some 39)) rfl rfl rfl (PV_indexAddr Try.underlying23 sz5 rfl rfl rfl (by first | omega | decide | assumption)) ?_
        refine TL_pure (d := (some 40)) rfl rfl rfl (PV_load Try.underlying5 rfl rfl hget) ?_
        refine TL_pure (d := (some 41)) rfl rfl rfl (PV_indexAddr Try.underlying23 sz5 rfl rfl rfl (by first | omega | decide | assumption)) ?_
        first | (refine TL_cons rfl (TO_store1 0 rfl rfl rfl sz5 rfl rfl rfl (by first | exact Nat.le_of_ble_eq_true rfl | (simp; done) | (simp; omega) | omega) ?_)) | (refine TL_cons rfl (TO_store1 1 rfl rfl rfl sz5 rfl rfl rfl (by first | exact Nat.le_of_ble_eq_true rfl | (simp; done) | (simp; omega) | omega) ?_)) | (refine TL_cons rfl (TO_store1 2 rfl rfl rfl sz5 rfl rfl rfl (by first | exact Nat.le_of_ble_eq_true rfl | (simp; done) | (simp; omega) | omega) ?_)) | (refine TL_cons rfl (TO_store1 3 rfl rfl rfl sz5 rfl rfl rfl (by first | exact Nat.le_of_ble_eq_true rfl | (simp; done) | (simp; omega) | omega) ?_)) | (refine TL_cons rfl (TO_store1 4 rfl rfl rfl sz5 rfl rfl rfl (by first | exact Nat.le_of_ble_eq_true rfl | (simp; done) | (simp; omega) | omega) ?_)) | (refine TL_cons rfl (TO_store1 5 rfl rfl rfl sz5 rfl rfl rfl (by first | exact Nat.le_of_ble_eq_true rfl | (simp; done) | (simp; omega) | omega) ?_)) | (refine TL_cons rfl (TO_store1 6 rfl rfl rfl sz5 rfl rfl rfl (by first | exact Nat.le_of_ble_eq_true rfl | (simp; done) | (simp; omega) | omega) ?_)) | (refine TL_cons rfl (TO_store1 7 rfl rfl rfl sz5 rfl rfl rfl (by first | exact Nat.le_of_ble_eq_true rfl | (simp; done) | (simp; omega) | omega) ?_)) | (refine TL_cons rfl (TO_store1 8 rfl rfl rfl sz5 rfl rfl rfl (by first | exact Nat.le_of_ble_eq_true rfl | (simp; done) | (simp; omega) | omega) ?_))
        refine TL_nil ?_
        refine T_region ?_
        refine TL_pure (d := (some 42)) rfl rfl rfl (PV.cast (PV_bin rfl rfl bin_add) (wr64n (i + 1) (by omega) (by omega))) ?_
        refine TL_pure (d := (some 26)) rfl rfl rfl (PV_move rfl) ?_
        refine TL_nil ?_
        -- ('loopend',)
        refine round_end (n - (i + 1)) _ _ (by omega) (FrSub.cons rfl (FrSub.cons rfl (FrSub.cons rfl (FrSub.cons rfl (FrSub.cons rfl (FrSub.nil _)))))) (List.Sublist.refl _) ⟨i + 1, xs.set i (rd l ((i % l.length : Nat) : Int)), rfl, by omega, by rw [List.length_set]; exact hxs, rfl, ?_⟩
        exact congrArg (fun x => [Chunk.sl (.slice (some ⟨g23, 0, none⟩) n n) 1 n x]) (nums_set' .u8 xs (0 + i * 1) i _ (by omega))
      · skip
        refine T_skip ?_
        refine T_region ?_
        refine TL_pure (d := (some 42)) rfl rfl rfl (PV.cast (PV_bin rfl rfl bin_add) (wr64n (i + 1) (by omega) (by omega))) ?_
        refine TL_pure (d := (some 26)) rfl rfl rfl (PV_move rfl) ?_
        refine TL_nil ?_
        -- ('loopend',)
        exact round_end (n - (i + 1)) _ _ (by omega) (FrSub.cons rfl (FrSub.cons rfl (FrSub.cons rfl (FrSub.cons rfl (FrSub.cons rfl (FrSub.nil _)))))) (List.Sublist.refl _) ⟨i + 1, xs, rfl, by omega, hxs, rfl, rfl⟩
    · skip
      clear hbi hi
      refine T_exit ?_
      refine T_seq ?_
      refine T_region ?_
      refine TL_pure (d := (some 9)) rfl rfl rfl (PV_assign rfl) ?_
      refine TL_nil ?_
      refine T_seq ?_
      refine T_region ?_
      refine TL_pure (d := (some 10)) rfl rfl rfl (PV_assign rfl) ?_
      refine TL_nil ?_
      refine T_seq ?_
      refine T_block ?_
      -- ('loop', ('Code.loop', ('Code.seq', ('Code.seq', ('Code.region', 12, ('L', ('Oper.mk', ('some', 43), ('Op.move', ('Operand.tmp', 10)), 3, '"law.go:132"', ('L',), 'none'), ('Oper.mk', ('some', 44), ('O
      refine T_addNil 1 ?_
      refine T.perm (List.Perm.swap _ _ _) ?_
      refine T.weaken (fr' := [(2, .bool large), (7, .slice (some ⟨g23, 0, none⟩) n n), (9, .slice none 0 0), (10, .int .i64 0)]) (FrSub.cons rfl (FrSub.cons rfl (FrSub.cons rfl (FrSub.cons rfl (FrSub.nil _))))) ?_
      refine T_loop (fun m f h => ∃ (a : Nat) (Ao : Option Addr) (co : Nat) (ps : List Part), m = n - a ∧ a ≤ n + 1024 ∧ ps.length ≤ co ∧ ps.length ≤ a ∧ ps.map (·.2.2) ++ splitL large (xs.drop a) = splitL large xs ∧ (∀ p ∈ ps, p.2.2.length ≤ p.2.1) ∧ f = [(2, .bool large), (7, .slice (some ⟨g23, 0, none⟩) n n), (9, .slice Ao ps.length co), (10, .int .i64 ((a : Nat) : Int))] ∧ h = .sl (.slice (some ⟨g23, 0, none⟩) n n) 1 n (nums .u8 xs) :: .sl (.slice Ao ps.length co) 1 ps.length (ps.map pVal) :: ps.reverse.map pCh) (n) ?_ ?_
      · exact ⟨0, none, 0, [], rfl, by omega, Nat.le_refl _, Nat.le_refl _, rfl, by simp, rfl, rfl⟩
      · rintro m f h ⟨a, Ao, co, ps, rfl, ha, hco, hpa, hps, hpl, rfl, rfl⟩
        refine T_seq ?_
        refine T_seq ?_
        refine T_region ?_
        refine TL_pure (d := (some 43)) rfl rfl rfl (PV_move rfl) ?_
        refine TL_pure (d := (some 44)) rfl rfl rfl (PV_move rfl) ?_
        refine TL_pure (d := (some 45)) rfl rfl rfl (PV_len_slice Try.underlying23 rfl) ?_
        refine TL_pure (d := (some 46)) rfl rfl rfl (PV_bin rfl rfl bin_lss) ?_
        refine TL_nil ?_
        -- IF t46
        refine T_cond rfl (fun hba => ?_) (fun hba => ?_)
        · skip
          have han : a < n := by have := of_decide_eq_true hba; omega
          obtain ⟨rest, hrest⟩ : ∃ rest, xs.drop a = rest := ⟨_, rfl⟩
          have hrl : rest.length = n - a := by rw [← hrest, List.length_drop, hxs]
          rw [hrest] at hps
          have hst := splitL_step large (l := rest) (by omega)
          rw [splitL_min] at hst
          by_cases hlg : large = true ∧ 1024 ≤ rest.length
          · have hN : partN large rest = 1024 := by unfold partN; rw [if_pos hlg]
            obtain ⟨hl1, hl2⟩ := hlg
            subst hl1
            refine T_skip ?_
            refine T_block ?_
            refine T_seq ?_
            refine T_region ?_
            refine TL_pure (d := (some 11)) rfl rfl rfl (PV_assign rfl) ?_
            refine TL_nil ?_
            refine T_seq ?_
            refine T_seq ?_
            refine T_region ?_
            refine TL_pure (d := (some 47)) rfl rfl rfl (PV_move rfl) ?_
            refine TL_pure (d := (some 48)) rfl rfl rfl (PV_move rfl) ?_
            -- guard 49 move t7
            refine TL_yes rfl rfl rfl (TO_pure rfl (PV_move rfl) ?_)
            refine TL_yes rfl rfl rfl (TO_pure rfl (PV_len_slice Try.underlying23 rfl) ?_)
            refine TL_yes rfl rfl rfl (TO_pure rfl (PV_move rfl) ?_)
            first | (refine TL_yes rfl rfl rfl (TO_pure rfl (PV.cast (PV_bin rfl rfl bin_sub) (wr64 (by omega))) ?_)) | (refine TL_yes rfl rfl rfl (TO_pure rfl (PV_bin rfl rfl bin_sub) ?_))
            refine TL_yes rfl rfl rfl (TO_pure rfl (PV.cast (PV_bin rfl rfl bin_geq) (congrArg Value.bool (show _ = true by exact decide_eq_true (by omega)))) ?_)
            first | (refine TL_pure (d := (some 54)) rfl rfl rfl (PV_pickAnd rfl rfl rfl) ?_) | (refine TL_pure (d := (some 54)) rfl rfl rfl (PV_pickF rfl (by first | assumption | rfl | (simp; done) | (simp; omega)) rfl rfl) ?_)
            refine TL_nil ?_
            -- IF t54
            refine T_then rfl (by rfl) ?_
            obtain ⟨X, hX⟩ : ∃ X, partL true rest = X := ⟨_, rfl⟩
            have hXl : X.length = 1024 := by rw [← hX, partL_len, hN]
            rw [hN, hX] at hst
            refine T_region ?_
            refine TL_pure (d := (some 11)) rfl rfl rfl (PV_assign rfl) ?_
            refine TL_nil ?_
            refine T_seq ?_
            refine T_region ?_
            refine TL_pure (d := (some 55)) rfl rfl rfl (PV_move rfl) ?_
            -- op 56 makeSlice 23 t55 t55
            refine TL_cons rfl (TO_make (m := 1024) Try.underlying23 zb5 rfl (by omega) (by omega) rfl ⟨_, rfl⟩ ⟨_, rfl⟩ fun g56 => ?_)
            refine TL_pure (d := (some 12)) rfl rfl rfl (PV_assign rfl) ?_
            refine TL_nil ?_
            refine T_seq ?_
            refine T_seq ?_
            refine T_region ?_
            refine TL_pure (d := (some 57)) rfl rfl rfl (PV_move rfl) ?_
            refine TL_pure (d := (some 58)) rfl rfl rfl (PV_len_slice Try.underlying23 rfl) ?_
            refine TL_pure (d := (some 59)) rfl rfl rfl (PV_move rfl) ?_
            refine TL_nil ?_
            refine T_block ?_
            -- ('loop', ('Code.loop', ('Code.seq', ('Code.region', 18, ('L', ('Oper.mk', ('some', 60), ('Op.binOp', 'BinOp.lss', 3, ('Operand.tmp', 59), ('Operand.tmp', 58), 3), 0, '"law.go:138"', ('L',), 'none')), 
            refine T.weaken (fr' := [(2, .bool true), (7, .slice (some ⟨g23, 0, none⟩) n n), (9, .slice Ao ps.length co), (10, .int .i64 ((a : Nat) : Int)), (11, .int .i64 1024), (12, .slice (some ⟨g56, 0, none⟩) 1024 1024), (58, .int .i64 1024), (59, .int .i64 0)]) (FrSub.cons rfl (FrSub.cons rfl (FrSub.cons rfl (FrSub.cons rfl (FrSub.cons rfl (FrSub.cons rfl (FrSub.cons rfl (FrSub.cons rfl (FrSub.nil _))))))))) ?_
            refine T_loop (fun m f h => ∃ (k : Nat), m = 1024 - k ∧ k ≤ 1024 ∧ f = [(2, .bool true), (7, .slice (some ⟨g23, 0, none⟩) n n), (9, .slice Ao ps.length co), (10, .int .i64 ((a : Nat) : Int)), (11, .int .i64 1024), (12, .slice (some ⟨g56, 0, none⟩) 1024 1024), (58, .int .i64 1024), (59, .int .i64 ((k : Nat) : Int))] ∧ h = .sl (.slice (some ⟨g56, 0, none⟩) 1024 1024) 1 1024 (nums .u8 (X.take k ++ List.replicate (1024 - k) 0)) :: Chunk.sl (.slice (some ⟨g23, 0, none⟩) n n) 1 n (nums .u8 xs) :: Chunk.sl (.slice Ao ps.length co) 1 ps.length (ps.map pVal) :: ps.reverse.map pCh) (1024) ?_ ?_
            · exact ⟨0, rfl, Nat.zero_le _, rfl, by simp [nums]⟩
            · rintro m f h ⟨k, rfl, hk, rfl, rfl⟩
              refine T_seq ?_
              refine T_region ?_
              refine TL_pure (d := (some 60)) rfl rfl rfl (PV_bin rfl rfl bin_lss) ?_
              refine TL_nil ?_
              refine T_seq ?_
              -- IF t60
              refine T_cond rfl (fun hbk => ?_) (fun hbk => ?_)
              · skip
                have hkN : k < 1024 := by have := of_decide_eq_true hbk; omega
                have hXk := partL_get hN hkN
                rw [hX] at hXk
                refine T_skip ?_
                refine T_seq ?_
                refine T_block ?_
                refine T_seq ?_
                refine T_region ?_
                refine TL_pure (d := (some 61)) rfl rfl rfl (PV_move rfl) ?_
                refine TL_pure (d := (some 13)) rfl rfl rfl (PV_assign rfl) ?_
                refine TL_nil ?_
                refine T_seq ?_
                refine T_region ?_
                refine TL_pure (d := (some 62)) rfl rfl rfl (PV_move rfl) ?_
                refine TL_pure (d := (some 63)) rfl rfl rfl (PV_move rfl) ?_
                refine TL_pure (d := (some 64)) rfl rfl rfl (PV_indexAddr Try.underlying23 sz5 rfl rfl rfl (by first | omega | decide | assumption)) ?_
                first | (refine TL_cons rfl (TO_store1 0 rfl rfl rfl sz5 rfl rfl rfl (by first | exact Nat.le_of_ble_eq_true rfl | (simp; done) | (simp; omega) | omega) ?_)) | (refine TL_cons rfl (TO_store1 1 rfl rfl rfl sz5 rfl rfl rfl (by first | exact Nat.le_of_ble_eq_true rfl | (simp; done) | (simp; omega) | omega) ?_)) | (refine TL_cons rfl (TO_store1 2 rfl rfl rfl sz5 rfl rfl rfl (by first | exact Nat.le_of_ble_eq_true rfl | (simp; done) | (simp; omega) | omega) ?_)) | (refine TL_cons rfl (TO_store1 3 rfl rfl rfl sz5 rfl rfl rfl (by first | exact Nat.le_of_ble_eq_true rfl | (simp; done) | (simp; omega) | omega) ?_)) | (refine TL_cons rfl (TO_store1 4 rfl rfl rfl sz5 rfl rfl rfl (by first | exact Nat.le_of_ble_eq_true rfl | (simp; done) | (simp; omega) | omega) ?_)) | (refine TL_cons rfl (TO_store1 5 rfl rfl rfl sz5 rfl rfl rfl (by first | exact Nat.le_of_ble_eq_true rfl | (simp; done) | (simp; omega) | omega) ?_)) | (refine TL_cons rfl (TO_store1 6 rfl rfl rfl sz5 rfl rfl rfl (by first | exact Nat.le_of_ble_eq_true rfl | (simp; done) | (simp; omega) | omega) ?_)) | (refine TL_cons rfl (TO_store1 7 rfl rfl rfl sz5 rfl rfl rfl (by first | exact Nat.le_of_ble_eq_true rfl | (simp; done) | (simp; omega) | omega) ?_)) | (refine TL_cons rfl (TO_store1 8 rfl rfl rfl sz5 rfl rfl rfl (by first | exact Nat.le_of_ble_eq_true rfl | (simp; done) | (simp; omega) | omega) ?_))
                refine TL_nil ?_
                refine T_seq ?_
                refine T_region ?_
                refine TL_pure (d := (some 65)) rfl rfl rfl (PV_move rfl) ?_
                refine TL_pure (d := (some 66)) rfl rfl rfl (PV_move rfl) ?_
                refine TL_pure (d := (some 67)) rfl rfl rfl (PV.cast (PV_bin rfl rfl bin_add) (wr64n (a + k) (by omega) (by omega))) ?_
                refine TL_pure (d := (some 68)) rfl rfl rfl (PV_move rfl) ?_
                refine TL_pure (d := (some 69)) rfl rfl rfl (PV_len_slice Try.underlying23 rfl) ?_
                refine TL_pure (d := (some 70)) rfl rfl rfl (PV_bin rfl rfl bin_lss) ?_
                refine TL_nil ?_
                -- IF t70
                refine T_cond rfl (fun hbx => ?_) (fun hbx => ?_)
                · skip
                  have hkr : a + k < n := by have := of_decide_eq_true hbx; omega
                  refine T_region ?_
                  refine TL_pure (d := (some 71)) rfl rfl rfl (PV_move rfl) ?_
                  refine TL_pure (d := (some 72)) rfl rfl rfl (PV_move rfl) ?_
                  refine TL_pure (d := (some 73)) rfl rfl rfl (PV_move rfl) ?_
                  refine TL_pure (d := (some 74)) rfl rfl rfl (PV_move rfl) ?_
                  refine TL_pure (d := (some 75)) rfl rfl rfl (PV_move rfl) ?_
                  refine TL_pure (d := (some 76)) rfl rfl rfl (PV.cast (PV_bin rfl rfl bin_add) (wr64n (a + k) (by omega) (by omega))) ?_
                  refine TL_pure (d := (some 77)) rfl rfl rfl (PV_indexAddr Try.underlying23 sz5 rfl rfl rfl (by first | omega | decide | assumption)) ?_
                  refine TL_pure (d := (some 78)) rfl rfl rfl (PV_load Try.underlying5 rfl rfl (Rd.at 1 rfl (nums_at' (a + k) (by omega) (by omega)))) ?_
                  refine TL_pure (d := (some 79)) rfl rfl rfl (PV_indexAddr Try.underlying23 sz5 rfl rfl rfl (by first | omega | decide | assumption)) ?_
                  first | (refine TL_cons rfl (TO_store1 0 rfl rfl rfl sz5 rfl rfl rfl (by first | exact Nat.le_of_ble_eq_true rfl | (simp; done) | (simp; omega) | omega) ?_)) | (refine TL_cons rfl (TO_store1 1 rfl rfl rfl sz5 rfl rfl rfl (by first | exact Nat.le_of_ble_eq_true rfl | (simp; done) | (simp; omega) | omega) ?_)) | (refine TL_cons rfl (TO_store1 2 rfl rfl rfl sz5 rfl rfl rfl (by first | exact Nat.le_of_ble_eq_true rfl | (simp; done) | (simp; omega) | omega) ?_)) | (refine TL_cons rfl (TO_store1 3 rfl rfl rfl sz5 rfl rfl rfl (by first | exact Nat.le_of_ble_eq_true rfl | (simp; done) | (simp; omega) | omega) ?_)) | (refine TL_cons rfl (TO_store1 4 rfl rfl rfl sz5 rfl rfl rfl (by first | exact Nat.le_of_ble_eq_true rfl | (simp; done) | (simp; omega) | omega) ?_)) | (refine TL_cons rfl (TO_store1 5 rfl rfl rfl sz5 rfl rfl rfl (by first | exact Nat.le_of_ble_eq_true rfl | (simp; done) | (simp; omega) | omega) ?_)) | (refine TL_cons rfl (TO_store1 6 rfl rfl rfl sz5 rfl rfl rfl (by first | exact Nat.le_of_ble_eq_true rfl | (simp; done) | (simp; omega) | omega) ?_)) | (refine TL_cons rfl (TO_store1 7 rfl rfl rfl sz5 rfl rfl rfl (by first | exact Nat.le_of_ble_eq_true rfl | (simp; done) | (simp; omega) | omega) ?_)) | (refine TL_cons rfl (TO_store1 8 rfl rfl rfl sz5 rfl rfl rfl (by first | exact Nat.le_of_ble_eq_true rfl | (simp; done) | (simp; omega) | omega) ?_))
                  refine TL_nil ?_
                  refine T_region ?_
                  refine TL_pure (d := (some 80)) rfl rfl rfl (PV.cast (PV_bin rfl rfl bin_add) (wr64n (k + 1) (by omega) (by omega))) ?_
                  refine TL_pure (d := (some 59)) rfl rfl rfl (PV_move rfl) ?_
                  refine TL_nil ?_
                  -- ('loopend',)
                  rw [if_pos (by omega), ← hrest, rd_drop] at hXk
                  refine round_end (1024 - (k + 1)) _ _ (by omega) (FrSub.cons rfl (FrSub.cons rfl (FrSub.cons rfl (FrSub.cons rfl (FrSub.cons rfl (FrSub.cons rfl (FrSub.cons rfl (FrSub.cons rfl (FrSub.nil _))))))))) (List.Sublist.refl _) ⟨k + 1, rfl, by omega, rfl, ?_⟩
                  refine congrArg (fun x => Chunk.sl (.slice (some ⟨g56, 0, none⟩) 1024 1024) 1 1024 x :: _) ?_
                  show ((nums .u8 _).set (0 + k * 1) _).set (0 + k * 1) _ = _
                  rw [List.set_set, nums_set' .u8 _ (0 + k * 1) k _ (by omega), set_fill X 1024 k hXl hkN _ hXk]
                · skip
                  have hkr : ¬ a + k < n := by have := of_decide_eq_false hbx; omega
                  refine T_skip ?_
                  refine T_region ?_
                  refine TL_pure (d := (some 80)) rfl rfl rfl (PV.cast (PV_bin rfl rfl bin_add) (wr64n (k + 1) (by omega) (by omega))) ?_
                  refine TL_pure (d := (some 59)) rfl rfl rfl (PV_move rfl) ?_
                  refine TL_nil ?_
                  -- ('loopend',)
                  rw [if_neg (by omega)] at hXk
                  refine round_end (1024 - (k + 1)) _ _ (by omega) (FrSub.cons rfl (FrSub.cons rfl (FrSub.cons rfl (FrSub.cons rfl (FrSub.cons rfl (FrSub.cons rfl (FrSub.cons rfl (FrSub.cons rfl (FrSub.nil _))))))))) (List.Sublist.refl _) ⟨k + 1, rfl, by omega, rfl, ?_⟩
                  refine congrArg (fun x => Chunk.sl (.slice (some ⟨g56, 0, none⟩) 1024 1024) 1 1024 x :: _) ?_
                  show (nums .u8 _).set (0 + k * 1) _ = _
                  rw [nums_set' .u8 _ (0 + k * 1) k _ (by omega), set_fill X 1024 k hXl hkN _ hXk]
              · skip
                have hkN : k = 1024 := by have := of_decide_eq_false hbk; omega
                subst hkN
                rw [show X.take 1024 ++ List.replicate (1024 - 1024) 0 = X by rw [Nat.sub_self, List.take_of_length_le (by omega)]; simp]
                refine T_exit ?_
                refine T_seq ?_
                refine T_region ?_
                -- op 81 move t9
                refine TL_perm ((List.Perm.swap _ _ _).trans ((List.Perm.swap _ _ _).cons _)) ?_
                refine TL_cons rfl (TO_pure rfl (PV_move rfl) ?_)
                refine TL_pure (d := (some 82)) rfl rfl rfl (PV_move rfl) ?_
                -- op 83 buildSlice 68 1 [(0 t82)]
                refine TL_cons rfl (TO_buildSlice (cells := #[.slice (some ⟨g56, 0, none⟩) 1024 1024]) Try.underlying68 zs23 (by decide) rfl rfl rfl (by kernel_rfl) rfl fun g83 => ?_)
                refine TL_cons rfl (TO_append 2 rfl Try.underlying68 zb23 rfl (by decide) rfl rfl rfl (Shows.at 0 rfl) (by simp [Value.oneCell']) (by omega) (by omega) fun A84 c84 hc84 => ?_)
                refine TL_pure (d := (some 9)) rfl rfl rfl (PV_assign rfl) ?_
                refine TL_nil ?_
                refine T_region ?_
                refine TL_pure (d := (some 85)) rfl rfl rfl (PV_move rfl) ?_
                refine TL_pure (d := (some 86)) rfl rfl rfl (PV_move rfl) ?_
                refine TL_pure (d := (some 87)) rfl rfl rfl (PV.cast (PV_bin rfl rfl bin_add) (wr64n (a + 1024) (by omega) (by omega))) ?_
                refine TL_pure (d := (some 10)) rfl rfl rfl (PV_assign rfl) ?_
                refine TL_nil ?_
                -- ('loopend',)
                refine round_end (n - (a + 1024)) _ _ (by omega) (FrSub.cons rfl (FrSub.cons rfl (FrSub.cons (v := .slice A84 (ps ++ [((some ⟨g56, 0, none⟩, 1024, X) : Part)]).length c84) (by rw [List.length_append]; rfl) (FrSub.cons rfl (FrSub.nil _))))) (List.Sublist.cons _ (List.Sublist.refl _)) ⟨a + 1024, A84, c84, ps ++ [(some ⟨g56, 0, none⟩, 1024, X)], rfl, by omega, by rw [List.length_append]; exact hc84, by rw [List.length_append]; simp only [List.length_cons, List.length_nil]; omega, ?_, ?_, rfl, ?_⟩
                · rw [← hps, hst, ← hrest, List.drop_drop]; simp
                · intro p hp
                  rcases List.mem_append.1 hp with hp | hp
                  · exact hpl p hp
                  · rw [List.mem_singleton.1 hp]
                    show X.length ≤ 1024
                    omega
                · simp [pCh, pVal, hXl]
          have hN : partN large rest = 128 := by unfold partN; rw [if_neg hlg]
          cases large with
          | true =>
            have hl2 : ¬ 1024 ≤ rest.length := fun h => hlg ⟨rfl, h⟩
            refine T_skip ?_
            refine T_block ?_
            refine T_seq ?_
            refine T_region ?_
            refine TL_pure (d := (some 11)) rfl rfl rfl (PV_assign rfl) ?_
            refine TL_nil ?_
            refine T_seq ?_
            refine T_seq ?_
            refine T_region ?_
            refine TL_pure (d := (some 47)) rfl rfl rfl (PV_move rfl) ?_
            refine TL_pure (d := (some 48)) rfl rfl rfl (PV_move rfl) ?_
            -- guard 49 move t7
            refine TL_yes rfl rfl rfl (TO_pure rfl (PV_move rfl) ?_)
            refine TL_yes rfl rfl rfl (TO_pure rfl (PV_len_slice Try.underlying23 rfl) ?_)
            refine TL_yes rfl rfl rfl (TO_pure rfl (PV_move rfl) ?_)
            first | (refine TL_yes rfl rfl rfl (TO_pure rfl (PV.cast (PV_bin rfl rfl bin_sub) (wr64 (by omega))) ?_)) | (refine TL_yes rfl rfl rfl (TO_pure rfl (PV_bin rfl rfl bin_sub) ?_))
            refine TL_yes rfl rfl rfl (TO_pure rfl (PV.cast (PV_bin rfl rfl bin_geq) (congrArg Value.bool (show _ = false by exact decide_eq_false (by omega)))) ?_)
            first | (refine TL_pure (d := (some 54)) rfl rfl rfl (PV_pickAnd rfl rfl rfl) ?_) | (refine TL_pure (d := (some 54)) rfl rfl rfl (PV_pickF rfl (by first | assumption | rfl | (simp; done) | (simp; omega)) rfl rfl) ?_)
            refine TL_nil ?_
            -- IF t54
            refine T_else rfl (by rfl) ?_
            obtain ⟨X, hX⟩ : ∃ X, partL true rest = X := ⟨_, rfl⟩
            have hXl : X.length = 128 := by rw [← hX, partL_len, hN]
            rw [hN, hX] at hst
            refine T_skip ?_
            refine T_seq ?_
            refine T_region ?_
            refine TL_pure (d := (some 55)) rfl rfl rfl (PV_move rfl) ?_
            -- op 56 makeSlice 23 t55 t55
            refine TL_cons rfl (TO_make (m := 128) Try.underlying23 zb5 rfl (by omega) (by omega) rfl ⟨_, rfl⟩ ⟨_, rfl⟩ fun g56 => ?_)
            refine TL_pure (d := (some 12)) rfl rfl rfl (PV_assign rfl) ?_
            refine TL_nil ?_
            refine T_seq ?_
            refine T_seq ?_
            refine T_region ?_
            refine TL_pure (d := (some 57)) rfl rfl rfl (PV_move rfl) ?_
            refine TL_pure (d := (some 58)) rfl rfl rfl (PV_len_slice Try.underlying23 rfl) ?_
            refine TL_pure (d := (some 59)) rfl rfl rfl (PV_move rfl) ?_
            refine TL_nil ?_
            refine T_block ?_
            -- ('loop', ('Code.loop', ('Code.seq', ('Code.region', 18, ('L', ('Oper.mk', ('some', 60), ('Op.binOp', 'BinOp.lss', 3, ('Operand.tmp', 59), ('Operand.tmp', 58), 3), 0, '"law.go:138"', ('L',), 'none')), 
            refine T.weaken (fr' := [(2, .bool true), (7, .slice (some ⟨g23, 0, none⟩) n n), (9, .slice Ao ps.length co), (10, .int .i64 ((a : Nat) : Int)), (11, .int .i64 128), (12, .slice (some ⟨g56, 0, none⟩) 128 128), (58, .int .i64 128), (59, .int .i64 0)]) (FrSub.cons rfl (FrSub.cons rfl (FrSub.cons rfl (FrSub.cons rfl (FrSub.cons rfl (FrSub.cons rfl (FrSub.cons rfl (FrSub.cons rfl (FrSub.nil _))))))))) ?_
            refine T_loop (fun m f h => ∃ (k : Nat), m = 128 - k ∧ k ≤ 128 ∧ f = [(2, .bool true), (7, .slice (some ⟨g23, 0, none⟩) n n), (9, .slice Ao ps.length co), (10, .int .i64 ((a : Nat) : Int)), (11, .int .i64 128), (12, .slice (some ⟨g56, 0, none⟩) 128 128), (58, .int .i64 128), (59, .int .i64 ((k : Nat) : Int))] ∧ h = .sl (.slice (some ⟨g56, 0, none⟩) 128 128) 1 128 (nums .u8 (X.take k ++ List.replicate (128 - k) 0)) :: Chunk.sl (.slice (some ⟨g23, 0, none⟩) n n) 1 n (nums .u8 xs) :: Chunk.sl (.slice Ao ps.length co) 1 ps.length (ps.map pVal) :: ps.reverse.map pCh) (128) ?_ ?_
            · exact ⟨0, rfl, Nat.zero_le _, rfl, by simp [nums]⟩
            · rintro m f h ⟨k, rfl, hk, rfl, rfl⟩
              refine T_seq ?_
              refine T_region ?_
              refine TL_pure (d := (some 60)) rfl rfl rfl (PV_bin rfl rfl bin_lss) ?_
              refine TL_nil ?_
              refine T_seq ?_
              -- IF t60
              refine T_cond rfl (fun hbk => ?_) (fun hbk => ?_)
              · skip
                have hkN : k < 128 := by have := of_decide_eq_true hbk; omega
                have hXk := partL_get hN hkN
                rw [hX] at hXk
                refine T_skip ?_
                refine T_seq ?_
                refine T_block ?_
                refine T_seq ?_
                refine T_region ?_
                refine TL_pure (d := (some 61)) rfl rfl rfl (PV_move rfl) ?_
                refine TL_pure (d := (some 13)) rfl rfl rfl (PV_assign rfl) ?_
                refine TL_nil ?_
                refine T_seq ?_
                refine T_region ?_
                refine TL_pure (d := (some 62)) rfl rfl rfl (PV_move rfl) ?_
                refine TL_pure (d := (some 63)) rfl rfl rfl (PV_move rfl) ?_
                refine TL_pure (d := (some 64)) rfl rfl rfl (PV_indexAddr Try.underlying23 sz5 rfl rfl rfl (by first | omega | decide | assumption)) ?_
                first | (refine TL_cons rfl (TO_store1 0 rfl rfl rfl sz5 rfl rfl rfl (by first | exact Nat.le_of_ble_eq_true rfl | (simp; done) | (simp; omega) | omega) ?_)) | (refine TL_cons rfl (TO_store1 1 rfl rfl rfl sz5 rfl rfl rfl (by first | exact Nat.le_of_ble_eq_true rfl | (simp; done) | (simp; omega) | omega) ?_)) | (refine TL_cons rfl (TO_store1 2 rfl rfl rfl sz5 rfl rfl rfl (by first | exact Nat.le_of_ble_eq_true rfl | (simp; done) | (simp; omega) | omega) ?_)) | (refine TL_cons rfl (TO_store1 3 rfl rfl rfl sz5 rfl rfl rfl (by first | exact Nat.le_of_ble_eq_true rfl | (simp; done) | (simp; omega) | omega) ?_)) | (refine TL_cons rfl (TO_store1 4 rfl rfl rfl sz5 rfl rfl rfl (by first | exact Nat.le_of_ble_eq_true rfl | (simp; done) | (simp; omega) | omega) ?_)) | (refine TL_cons rfl (TO_store1 5 rfl rfl rfl sz5 rfl rfl rfl (by first | exact Nat.le_of_ble_eq_true rfl | (simp; done) | (simp; omega) | omega) ?_)) | (refine TL_cons rfl (TO_store1 6 rfl rfl rfl sz5 rfl rfl rfl (by first | exact Nat.le_of_ble_eq_true rfl | (simp; done) | (simp; omega) | omega) ?_)) | (refine TL_cons rfl (TO_store1 7 rfl rfl rfl sz5 rfl rfl rfl (by first | exact Nat.le_of_ble_eq_true rfl | (simp; done) | (simp; omega) | omega) ?_)) | (refine TL_cons rfl (TO_store1 8 rfl rfl rfl sz5 rfl rfl rfl (by first | exact Nat.le_of_ble_eq_true rfl | (simp; done) | (simp; omega) | omega) ?_))
                refine TL_nil ?_
                refine T_seq ?_
                refine T_region ?_
                refine TL_pure (d := (some 65)) rfl rfl rfl (PV_move rfl) ?_
                refine TL_pure (d := (some 66)) rfl rfl rfl (PV_move rfl) ?_
                refine TL_pure (d := (some 67)) rfl rfl rfl (PV.cast (PV_bin rfl rfl bin_add) (wr64n (a + k) (by omega) (by omega))) ?_
                refine TL_pure (d := (some 68)) rfl rfl rfl (PV_move rfl) ?_
                refine TL_pure (d := (some 69)) rfl rfl rfl (PV_len_slice Try.underlying23 rfl) ?_
                refine TL_pure (d := (some 70)) rfl rfl rfl (PV_bin rfl rfl bin_lss) ?_
                refine TL_nil ?_
                -- IF t70
                refine T_cond rfl (fun hbx => ?_) (fun hbx => ?_)
                · skip
                  have hkr : a + k < n := by have := of_decide_eq_true hbx; omega
                  refine T_region ?_
                  refine TL_pure (d := (some 71)) rfl rfl rfl (PV_move rfl) ?_
                  refine TL_pure (d := (some 72)) rfl rfl rfl (PV_move rfl) ?_
                  refine TL_pure (d := (some 73)) rfl rfl rfl (PV_move rfl) ?_
                  refine TL_pure (d := (some 74)) rfl rfl rfl (PV_move rfl) ?_
                  refine TL_pure (d := (some 75)) rfl rfl rfl (PV_move rfl) ?_
                  refine TL_pure (d := (some 76)) rfl rfl rfl (PV.cast (PV_bin rfl rfl bin_add) (wr64n (a + k) (by omega) (by omega))) ?_
                  refine TL_pure (d := (some 77)) rfl rfl rfl (PV_indexAddr Try.underlying23 sz5 rfl rfl rfl (by first | omega | decide | assumption)) ?_
                  refine TL_pure (d := (some 78)) rfl rfl rfl (PV_load Try.underlying5 rfl rfl (Rd.at 1 rfl (nums_at' (a + k) (by omega) (by omega)))) ?_
                  refine TL_pure (d := (some 79)) rfl rfl rfl (PV_indexAddr Try.underlying23 sz5 rfl rfl rfl (by first | omega | decide | assumption)) ?_
                  first | (refine TL_cons rfl (TO_store1 0 rfl rfl rfl sz5 rfl rfl rfl (by first | exact Nat.le_of_ble_eq_true rfl | (simp; done) | (simp; omega) | omega) ?_)) | (refine TL_cons rfl (TO_store1 1 rfl rfl rfl sz5 rfl rfl rfl (by first | exact Nat.le_of_ble_eq_true rfl | (simp; done) | (simp; omega) | omega) ?_)) | (refine TL_cons rfl (TO_store1 2 rfl rfl rfl sz5 rfl rfl rfl (by first | exact Nat.le_of_ble_eq_true rfl | (simp; done) | (simp; omega) | omega) ?_)) | (refine TL_cons rfl (TO_store1 3 rfl rfl rfl sz5 rfl rfl rfl (by first | exact Nat.le_of_ble_eq_true rfl | (simp; done) | (simp; omega) | omega) ?_)) | (refine TL_cons rfl (TO_store1 4 rfl rfl rfl sz5 rfl rfl rfl (by first | exact Nat.le_of_ble_eq_true rfl | (simp; done) | (simp; omega) | omega) ?_)) | (refine TL_cons rfl (TO_store1 5 rfl rfl rfl sz5 rfl rfl rfl (by first | exact Nat.le_of_ble_eq_true rfl | (simp; done) | (simp; omega) | omega) ?_)) | (refine TL_cons rfl (TO_store1 6 rfl rfl rfl sz5 rfl rfl rfl (by first | exact Nat.le_of_ble_eq_true rfl | (simp; done) | (simp; omega) | omega) ?_)) | (refine TL_cons rfl (TO_store1 7 rfl rfl rfl sz5 rfl rfl rfl (by first | exact Nat.le_of_ble_eq_true rfl | (simp; done) | (simp; omega) | omega) ?_)) | (refine TL_cons rfl (TO_store1 8 rfl rfl rfl sz5 rfl rfl rfl (by first | exact Nat.le_of_ble_eq_true rfl | (simp; done) | (simp; omega) | omega) ?_))
                  refine TL_nil ?_
                  refine T_region ?_
                  refine TL_pure (d := (some 80)) rfl rfl rfl (PV.cast (PV_bin rfl rfl bin_add) (wr64n (k + 1) (by omega) (by omega))) ?_
                  refine TL_pure (d := (some 59)) rfl rfl rfl (PV_move rfl) ?_
                  refine TL_nil ?_
                  -- ('loopend',)
                  rw [if_pos (by omega), ← hrest, rd_drop] at hXk
                  refine round_end (128 - (k + 1)) _ _ (by omega) (FrSub.cons rfl (FrSub.cons rfl (FrSub.cons rfl (FrSub.cons rfl (FrSub.cons rfl (FrSub.cons rfl (FrSub.cons rfl (FrSub.cons rfl (FrSub.nil _))))))))) (List.Sublist.refl _) ⟨k + 1, rfl, by omega, rfl, ?_⟩
                  refine congrArg (fun x => Chunk.sl (.slice (some ⟨g56, 0, none⟩) 128 128) 1 128 x :: _) ?_
                  show ((nums .u8 _).set (0 + k * 1) _).set (0 + k * 1) _ = _
                  rw [List.set_set, nums_set' .u8 _ (0 + k * 1) k _ (by omega), set_fill X 128 k hXl hkN _ hXk]
                · skip
                  have hkr : ¬ a + k < n := by have := of_decide_eq_false hbx; omega
                  refine T_skip ?_
                  refine T_region ?_
                  refine TL_pure (d := (some 80)) rfl rfl rfl (PV.cast (PV_bin rfl rfl bin_add) (wr64n (k + 1) (by omega) (by omega))) ?_
                  refine TL_pure (d := (some 59)) rfl rfl rfl (PV_move rfl) ?_
                  refine TL_nil ?_
                  -- ('loopend',)
                  rw [if_neg (by omega)] at hXk
                  refine round_end (128 - (k + 1)) _ _ (by omega) (FrSub.cons rfl (FrSub.cons rfl (FrSub.cons rfl (FrSub.cons rfl (FrSub.cons rfl (FrSub.cons rfl (FrSub.cons rfl (FrSub.cons rfl (FrSub.nil _))))))))) (List.Sublist.refl _) ⟨k + 1, rfl, by omega, rfl, ?_⟩
                  refine congrArg (fun x => Chunk.sl (.slice (some ⟨g56, 0, none⟩) 128 128) 1 128 x :: _) ?_
                  show (nums .u8 _).set (0 + k * 1) _ = _
                  rw [nums_set' .u8 _ (0 + k * 1) k _ (by omega), set_fill X 128 k hXl hkN _ hXk]
              · skip
                have hkN : k = 128 := by have := of_decide_eq_false hbk; omega
                subst hkN
                rw [show X.take 128 ++ List.replicate (128 - 128) 0 = X by rw [Nat.sub_self, List.take_of_length_le (by omega)]; simp]
                refine T_exit ?_
                refine T_seq ?_
                refine T_region ?_
                -- op 81 move t9
                refine TL_perm ((List.Perm.swap _ _ _).trans ((List.Perm.swap _ _ _).cons _)) ?_
                refine TL_cons rfl (TO_pure rfl (PV_move rfl) ?_)
                refine TL_pure (d := (some 82)) rfl rfl rfl (PV_move rfl) ?_
                -- op 83 buildSlice 68 1 [(0 t82)]
                refine TL_cons rfl (TO_buildSlice (cells := #[.slice (some ⟨g56, 0, none⟩) 128 128]) Try.underlying68 zs23 (by decide) rfl rfl rfl (by kernel_rfl) rfl fun g83 => ?_)
                refine TL_cons rfl (TO_append 2 rfl Try.underlying68 zb23 rfl (by decide) rfl rfl rfl (Shows.at 0 rfl) (by simp [Value.oneCell']) (by omega) (by omega) fun A84 c84 hc84 => ?_)
                refine TL_pure (d := (some 9)) rfl rfl rfl (PV_assign rfl) ?_
                refine TL_nil ?_
                refine T_region ?_
                refine TL_pure (d := (some 85)) rfl rfl rfl (PV_move rfl) ?_
                refine TL_pure (d := (some 86)) rfl rfl rfl (PV_move rfl) ?_
                refine TL_pure (d := (some 87)) rfl rfl rfl (PV.cast (PV_bin rfl rfl bin_add) (wr64n (a + 128) (by omega) (by omega))) ?_
                refine TL_pure (d := (some 10)) rfl rfl rfl (PV_assign rfl) ?_
                refine TL_nil ?_
                -- ('loopend',)
                refine round_end (n - (a + 128)) _ _ (by omega) (FrSub.cons rfl (FrSub.cons rfl (FrSub.cons (v := .slice A84 (ps ++ [((some ⟨g56, 0, none⟩, 128, X) : Part)]).length c84) (by rw [List.length_append]; rfl) (FrSub.cons rfl (FrSub.nil _))))) (List.Sublist.cons _ (List.Sublist.refl _)) ⟨a + 128, A84, c84, ps ++ [(some ⟨g56, 0, none⟩, 128, X)], rfl, by omega, by rw [List.length_append]; exact hc84, by rw [List.length_append]; simp only [List.length_cons, List.length_nil]; omega, ?_, ?_, rfl, ?_⟩
                · rw [← hps, hst, ← hrest, List.drop_drop]; simp
                · intro p hp
                  rcases List.mem_append.1 hp with hp | hp
                  · exact hpl p hp
                  · rw [List.mem_singleton.1 hp]
                    show X.length ≤ 128
                    omega
                · simp [pCh, pVal, hXl]
          | false =>
            refine T_skip ?_
            refine T_block ?_
            refine T_seq ?_
            refine T_region ?_
            refine TL_pure (d := (some 11)) rfl rfl rfl (PV_assign rfl) ?_
            refine TL_nil ?_
            refine T_seq ?_
            refine T_seq ?_
            refine T_region ?_
            refine TL_pure (d := (some 47)) rfl rfl rfl (PV_move rfl) ?_
            refine TL_pure (d := (some 48)) rfl rfl rfl (PV_move rfl) ?_
            -- guard 49 move t7
            refine TL_no (b := false) rfl rfl rfl rfl ?_
            refine TL_no (b := false) rfl rfl rfl rfl ?_
            refine TL_no (b := false) rfl rfl rfl rfl ?_
            refine TL_no (b := false) rfl rfl rfl rfl ?_
            refine TL_no (b := false) rfl rfl rfl rfl ?_
            first | (refine TL_pure (d := (some 54)) rfl rfl rfl (PV_pickAnd rfl rfl rfl) ?_) | (refine TL_pure (d := (some 54)) rfl rfl rfl (PV_pickF rfl (by first | assumption | rfl | (simp; done) | (simp; omega)) rfl rfl) ?_)
            refine TL_nil ?_
            -- IF t54
            refine T_else rfl (by rfl) ?_
            obtain ⟨X, hX⟩ : ∃ X, partL false rest = X := ⟨_, rfl⟩
            have hXl : X.length = 128 := by rw [← hX, partL_len, hN]
            rw [hN, hX] at hst
            refine T_skip ?_
            refine T_seq ?_
            refine T_region ?_
            refine TL_pure (d := (some 55)) rfl rfl rfl (PV_move rfl) ?_
            -- op 56 makeSlice 23 t55 t55
            refine TL_cons rfl (TO_make (m := 128) Try.underlying23 zb5 rfl (by omega) (by omega) rfl ⟨_, rfl⟩ ⟨_, rfl⟩ fun g56 => ?_)
            refine TL_pure (d := (some 12)) rfl rfl rfl (PV_assign rfl) ?_
            refine TL_nil ?_
            refine T_seq ?_
            refine T_seq ?_
            refine T_region ?_
            refine TL_pure (d := (some 57)) rfl rfl rfl (PV_move rfl) ?_
            refine TL_pure (d := (some 58)) rfl rfl rfl (PV_len_slice Try.underlying23 rfl) ?_
            refine TL_pure (d := (some 59)) rfl rfl rfl (PV_move rfl) ?_
            refine TL_nil ?_
            refine T_block ?_
            -- ('loop', ('Code.loop', ('Code.seq', ('Code.region', 18, ('L', ('Oper.mk', ('some', 60), ('Op.binOp', 'BinOp.lss', 3, ('Operand.tmp', 59), ('Operand.tmp', 58), 3), 0, '"law.go:138"', ('L',), 'none')), 
            refine T.weaken (fr' := [(2, .bool false), (7, .slice (some ⟨g23, 0, none⟩) n n), (9, .slice Ao ps.length co), (10, .int .i64 ((a : Nat) : Int)), (11, .int .i64 128), (12, .slice (some ⟨g56, 0, none⟩) 128 128), (58, .int .i64 128), (59, .int .i64 0)]) (FrSub.cons rfl (FrSub.cons rfl (FrSub.cons rfl (FrSub.cons rfl (FrSub.cons rfl (FrSub.cons rfl (FrSub.cons rfl (FrSub.cons rfl (FrSub.nil _))))))))) ?_
            refine T_loop (fun m f h => ∃ (k : Nat), m = 128 - k ∧ k ≤ 128 ∧ f = [(2, .bool false), (7, .slice (some ⟨g23, 0, none⟩) n n), (9, .slice Ao ps.length co), (10, .int .i64 ((a : Nat) : Int)), (11, .int .i64 128), (12, .slice (some ⟨g56, 0, none⟩) 128 128), (58, .int .i64 128), (59, .int .i64 ((k : Nat) : Int))] ∧ h = .sl (.slice (some ⟨g56, 0, none⟩) 128 128) 1 128 (nums .u8 (X.take k ++ List.replicate (128 - k) 0)) :: Chunk.sl (.slice (some ⟨g23, 0, none⟩) n n) 1 n (nums .u8 xs) :: Chunk.sl (.slice Ao ps.length co) 1 ps.length (ps.map pVal) :: ps.reverse.map pCh) (128) ?_ ?_
            · exact ⟨0, rfl, Nat.zero_le _, rfl, by simp [nums]⟩
            · rintro m f h ⟨k, rfl, hk, rfl, rfl⟩
              refine T_seq ?_
              refine T_region ?_
              refine TL_pure (d := (some 60)) rfl rfl rfl (PV_bin rfl rfl bin_lss) ?_
              refine TL_nil ?_
              refine T_seq ?_
              -- IF t60
              refine T_cond rfl (fun hbk => ?_) (fun hbk => ?_)
              · skip
                have hkN : k < 128 := by have := of_decide_eq_true hbk; omega
                have hXk := partL_get hN hkN
                rw [hX] at hXk
                refine T_skip ?_
                refine T_seq ?_
                refine T_block ?_
                refine T_seq ?_
                refine T_region ?_
                refine TL_pure (d := (some 61)) rfl rfl rfl (PV_move rfl) ?_
                refine TL_pure (d := (some 13)) rfl rfl rfl (PV_assign rfl) ?_
                refine TL_nil ?_
                refine T_seq ?_
                refine T_region ?_
                refine TL_pure (d := (some 62)) rfl rfl rfl (PV_move rfl) ?_
                refine TL_pure (d := (some 63)) rfl rfl rfl (PV_move rfl) ?_
                refine TL_pure (d := (some 64)) rfl rfl rfl (PV_indexAddr Try.underlying23 sz5 rfl rfl rfl (by first | omega | decide | assumption)) ?_
                first | (refine TL_cons rfl (TO_store1 0 rfl rfl rfl sz5 rfl rfl rfl (by first | exact Nat.le_of_ble_eq_true rfl | (simp; done) | (simp; omega) | omega) ?_)) | (refine TL_cons rfl (TO_store1 1 rfl rfl rfl sz5 rfl rfl rfl (by first | exact Nat.le_of_ble_eq_true rfl | (simp; done) | (simp; omega) | omega) ?_)) | (refine TL_cons rfl (TO_store1 2 rfl rfl rfl sz5 rfl rfl rfl (by first | exact Nat.le_of_ble_eq_true rfl | (simp; done) | (simp; omega) | omega) ?_)) | (refine TL_cons rfl (TO_store1 3 rfl rfl rfl sz5 rfl rfl rfl (by first | exact Nat.le_of_ble_eq_true rfl | (simp; done) | (simp; omega) | omega) ?_)) | (refine TL_cons rfl (TO_store1 4 rfl rfl rfl sz5 rfl rfl rfl (by first | exact Nat.le_of_ble_eq_true rfl | (simp; done) | (simp; omega) | omega) ?_)) | (refine TL_cons rfl (TO_store1 5 rfl rfl rfl sz5 rfl rfl rfl (by first | exact Nat.le_of_ble_eq_true rfl | (simp; done) | (simp; omega) | omega) ?_)) | (refine TL_cons rfl (TO_store1 6 rfl rfl rfl sz5 rfl rfl rfl (by first | exact Nat.le_of_ble_eq_true rfl | (simp; done) | (simp; omega) | omega) ?_)) | (refine TL_cons rfl (TO_store1 7 rfl rfl rfl sz5 rfl rfl rfl (by first | exact Nat.le_of_ble_eq_true rfl | (simp; done) | (simp; omega) | omega) ?_)) | (refine TL_cons rfl (TO_store1 8 rfl rfl rfl sz5 rfl rfl rfl (by first | exact Nat.le_of_ble_eq_true rfl | (simp; done) | (simp; omega) | omega) ?_))
                refine TL_nil ?_
                refine T_seq ?_
                refine T_region ?_
                refine TL_pure (d := (some 65)) rfl rfl rfl (PV_move rfl) ?_
                refine TL_pure (d := (some 66)) rfl rfl rfl (PV_move rfl) ?_
                refine TL_pure (d := (some 67)) rfl rfl rfl (PV.cast (PV_bin rfl rfl bin_add) (wr64n (a + k) (by omega) (by omega))) ?_
                refine TL_pure (d := (some 68)) rfl rfl rfl (PV_move rfl) ?_
                refine TL_pure (d := (some 69)) rfl rfl rfl (PV_len_slice Try.underlying23 rfl) ?_
                refine TL_pure (d := (some 70)) rfl rfl rfl (PV_bin rfl rfl bin_lss) ?_
                refine TL_nil ?_
                -- IF t70
                refine T_cond rfl (fun hbx => ?_) (fun hbx => ?_)
                · skip
                  have hkr : a + k < n := by have := of_decide_eq_true hbx; omega
                  refine T_region ?_
                  refine TL_pure (d := (some 71)) rfl rfl rfl (PV_move rfl) ?_
                  refine TL_pure (d := (some 72)) rfl rfl rfl (PV_move rfl) ?_
                  refine TL_pure (d := (some 73)) rfl rfl rfl (PV_move rfl) ?_
                  refine TL_pure (d := (some 74)) rfl rfl rfl (PV_move rfl) ?_
                  refine TL_pure (d := (some 75)) rfl rfl rfl (PV_move rfl) ?_
                  refine TL_pure (d := (some 76)) rfl rfl rfl (PV.cast (PV_bin rfl rfl bin_add) (wr64n (a + k) (by omega) (by omega))) ?_
                  refine TL_pure (d := (some 77)) rfl rfl rfl (PV_indexAddr Try.underlying23 sz5 rfl rfl rfl (by first | omega | decide | assumption)) ?_
                  refine TL_pure (d := (some 78)) rfl rfl rfl (PV_load Try.underlying5 rfl rfl (Rd.at 1 rfl (nums_at' (a + k) (by omega) (by omega)))) ?_
                  refine TL_pure (d := (some 79)) rfl rfl rfl (PV_indexAddr Try.underlying23 sz5 rfl rfl rfl (by first | omega | decide | assumption)) ?_
                  first | (refine TL_cons rfl (TO_store1 0 rfl rfl rfl sz5 rfl rfl rfl (by first | exact Nat.le_of_ble_eq_true rfl | (simp; done) | (simp; omega) | omega) ?_)) | (refine TL_cons rfl (TO_store1 1 rfl rfl rfl sz5 rfl rfl rfl (by first | exact Nat.le_of_ble_eq_true rfl | (simp; done) | (simp; omega) | omega) ?_)) | (refine TL_cons rfl (TO_store1 2 rfl rfl rfl sz5 rfl rfl rfl (by first | exact Nat.le_of_ble_eq_true rfl | (simp; done) | (simp; omega) | omega) ?_)) | (refine TL_cons rfl (TO_store1 3 rfl rfl rfl sz5 rfl rfl rfl (by first | exact Nat.le_of_ble_eq_true rfl | (simp; done) | (simp; omega) | omega) ?_)) | (refine TL_cons rfl (TO_store1 4 rfl rfl rfl sz5 rfl rfl rfl (by first | exact Nat.le_of_ble_eq_true rfl | (simp; done) | (simp; omega) | omega) ?_)) | (refine TL_cons rfl (TO_store1 5 rfl rfl rfl sz5 rfl rfl rfl (by first | exact Nat.le_of_ble_eq_true rfl | (simp; done) | (simp; omega) | omega) ?_)) | (refine TL_cons rfl (TO_store1 6 rfl rfl rfl sz5 rfl rfl rfl (by first | exact Nat.le_of_ble_eq_true rfl | (simp; done) | (simp; omega) | omega) ?_)) | (refine TL_cons rfl (TO_store1 7 rfl rfl rfl sz5 rfl rfl rfl (by first | exact Nat.le_of_ble_eq_true rfl | (simp; done) | (simp; omega) | omega) ?_)) | (refine TL_cons rfl (TO_store1 8 rfl rfl rfl sz5 rfl rfl rfl (by first | exact Nat.le_of_ble_eq_true rfl | (simp; done) | (simp; omega) | omega) ?_))
                  refine TL_nil ?_
                  refine T_region ?_
                  refine TL_pure (d := (some 80)) rfl rfl rfl (PV.cast (PV_bin rfl rfl bin_add) (wr64n (k + 1) (by omega) (by omega))) ?_
                  refine TL_pure (d := (some 59)) rfl rfl rfl (PV_move rfl) ?_
                  refine TL_nil ?_
                  -- ('loopend',)
                  rw [if_pos (by omega), ← hrest, rd_drop] at hXk
                  refine round_end (128 - (k + 1)) _ _ (by omega) (FrSub.cons rfl (FrSub.cons rfl (FrSub.cons rfl (FrSub.cons rfl (FrSub.cons rfl (FrSub.cons rfl (FrSub.cons rfl (FrSub.cons rfl (FrSub.nil _))))))))) (List.Sublist.refl _) ⟨k + 1, rfl, by omega, rfl, ?_⟩
                  refine congrArg (fun x => Chunk.sl (.slice (some ⟨g56, 0, none⟩) 128 128) 1 128 x :: _) ?_
                  show ((nums .u8 _).set (0 + k * 1) _).set (0 + k * 1) _ = _
                  rw [List.set_set, nums_set' .u8 _ (0 + k * 1) k _ (by omega), set_fill X 128 k hXl hkN _ hXk]
                · skip
                  have hkr : ¬ a + k < n := by have := of_decide_eq_false hbx; omega
                  refine T_skip ?_
                  refine T_region ?_
                  refine TL_pure (d := (some 80)) rfl rfl rfl (PV.cast (PV_bin rfl rfl bin_add) (wr64n (k + 1) (by omega) (by omega))) ?_
                  refine TL_pure (d := (some 59)) rfl rfl rfl (PV_move rfl) ?_
                  refine TL_nil ?_
                  -- ('loopend',)
                  rw [if_neg (by omega)] at hXk
                  refine round_end (128 - (k + 1)) _ _ (by omega) (FrSub.cons rfl (FrSub.cons rfl (FrSub.cons rfl (FrSub.cons rfl (FrSub.cons rfl (FrSub.cons rfl (FrSub.cons rfl (FrSub.cons rfl (FrSub.nil _))))))))) (List.Sublist.refl _) ⟨k + 1, rfl, by omega, rfl, ?_⟩
                  refine congrArg (fun x => Chunk.sl (.slice (some ⟨g56, 0, none⟩) 128 128) 1 128 x :: _) ?_
                  show (nums .u8 _).set (0 + k * 1) _ = _
                  rw [nums_set' .u8 _ (0 + k * 1) k _ (by omega), set_fill X 128 k hXl hkN _ hXk]
              · skip
                have hkN : k = 128 := by have := of_decide_eq_false hbk; omega
                subst hkN
                rw [show X.take 128 ++ List.replicate (128 - 128) 0 = X by rw [Nat.sub_self, List.take_of_length_le (by omega)]; simp]
                refine T_exit ?_
                refine T_seq ?_
                refine T_region ?_
                -- op 81 move t9
                refine TL_perm ((List.Perm.swap _ _ _).trans ((List.Perm.swap _ _ _).cons _)) ?_
                refine TL_cons rfl (TO_pure rfl (PV_move rfl) ?_)
                refine TL_pure (d := (some 82)) rfl rfl rfl (PV_move rfl) ?_
                -- op 83 buildSlice 68 1 [(0 t82)]
                refine TL_cons rfl (TO_buildSlice (cells := #[.slice (some ⟨g56, 0, none⟩) 128 128]) Try.underlying68 zs23 (by decide) rfl rfl rfl (by kernel_rfl) rfl fun g83 => ?_)
                refine TL_cons rfl (TO_append 2 rfl Try.underlying68 zb23 rfl (by decide) rfl rfl rfl (Shows.at 0 rfl) (by simp [Value.oneCell']) (by omega) (by omega) fun A84 c84 hc84 => ?_)
                refine TL_pure (d := (some 9)) rfl rfl rfl (PV_assign rfl) ?_
                refine TL_nil ?_
                refine T_region ?_
                refine TL_pure (d := (some 85)) rfl rfl rfl (PV_move rfl) ?_
                refine TL_pure (d := (some 86)) rfl rfl rfl (PV_move rfl) ?_
                refine TL_pure (d := (some 87)) rfl rfl rfl (PV.cast (PV_bin rfl rfl bin_add) (wr64n (a + 128) (by omega) (by omega))) ?_
                refine TL_pure (d := (some 10)) rfl rfl rfl (PV_assign rfl) ?_
                refine TL_nil ?_
                -- ('loopend',)
                refine round_end (n - (a + 128)) _ _ (by omega) (FrSub.cons rfl (FrSub.cons rfl (FrSub.cons (v := .slice A84 (ps ++ [((some ⟨g56, 0, none⟩, 128, X) : Part)]).length c84) (by rw [List.length_append]; rfl) (FrSub.cons rfl (FrSub.nil _))))) (List.Sublist.cons _ (List.Sublist.refl _)) ⟨a + 128, A84, c84, ps ++ [(some ⟨g56, 0, none⟩, 128, X)], rfl, by omega, by rw [List.length_append]; exact hc84, by rw [List.length_append]; simp only [List.length_cons, List.length_nil]; omega, ?_, ?_, rfl, ?_⟩
                · rw [← hps, hst, ← hrest, List.drop_drop]; simp
                · intro p hp
                  rcases List.mem_append.1 hp with hp | hp
                  · exact hpl p hp
                  · rw [List.mem_singleton.1 hp]
                    show X.length ≤ 128
                    omega
                · simp [pCh, pVal, hXl]
        · skip
          have han : n ≤ a := by have := of_decide_eq_false hba; omega
          rw [splitL_nil large (by rw [List.length_drop]; omega), List.append_nil] at hps
          refine T_exit ?_
          refine T_seq ?_
          refine T_region ?_
          refine TL_pure (d := (some 88)) rfl rfl rfl (PV_move rfl) ?_
          refine TL_pure (d := (some 89)) rfl rfl rfl (PV_move rfl) ?_
          -- op 90 call F54(t88, t89)
          refine TL_cons rfl (TO_call0 call54 rfl rfl (t54 large (Shows.at 0 rfl) hxs (by omega) (Nat.le_refl _)) ?_)
          rintro v90 H90 ⟨A14, c14, qs, hqs, hql, rfl, hqc, hqb, rfl⟩
          have hqb2 : qs.length ≤ 41 := by omega
          have hqL : ∀ p ∈ qs, p.2.2.length = 128 ∨ p.2.2.length = 1024 := fun p hp => split_len' large _ xs (Nat.le_refl _) p.2.2 (hqs ▸ List.mem_map_of_mem hp)
          refine TL_pure (d := (some 14)) rfl rfl rfl (PV_assign rfl) ?_
          refine TL_nil ?_
          refine T_seq ?_
          refine T_region ?_
          refine TL_pure (d := (some 91)) rfl rfl rfl (PV_move rfl) ?_
          -- op 92 call F53(t91)
          refine TL_cons rfl (TO_call0 call53 rfl rfl (t53 (Shows.at 0 rfl) (ShowsAll.mem hql fun p hp => List.mem_cons_of_mem _ (List.mem_append_left _ (List.mem_map_of_mem (f := pCh) (List.mem_reverse.2 hp)))) rfl (by omega) (fun p hp => by have := hqL p hp; omega) hqc) ?_)
          rintro v92 H92 ⟨A15, c15, rs, hrs, hrl, rfl, hrc, rfl⟩
          have hqp : qs.map (·.2.2) = ps.map (·.2.2) := by rw [hqs, hps]
          have hrp : rs.map (·.2.2) = ps.map (·.2.2) := by rw [hrs, hqp]
          have hlq : rs.length = ps.length := by have := congrArg List.length hrp; simpa using this
          have hlq2 : qs.length = ps.length := by have := congrArg List.length hqp; simpa using this
          refine TL_pure (d := (some 15)) rfl rfl rfl (PV_assign rfl) ?_
          refine TL_nil ?_
          refine T_seq ?_
          refine T_seq ?_
          refine T_region ?_
          refine TL_pure (d := (some 93)) rfl rfl rfl (PV_move rfl) ?_
          refine TL_pure (d := (some 94)) rfl rfl rfl (PV_move rfl) ?_
          -- op 95 call F55(t93, t94)
          refine TL_cons rfl (TO_call0 call55 rfl rfl (t55 (Shows.mem (c := c14) (List.mem_cons_of_mem _ (List.mem_append_right _ List.mem_cons_self))) (ShowsAll.mem hql fun p hp => List.mem_cons_of_mem _ (List.mem_append_right _ (List.mem_cons_of_mem _ (List.mem_append_left _ (List.mem_map_of_mem (f := pCh) (List.mem_reverse.2 hp)))))) (Shows.mem (c := co) (List.mem_cons_of_mem _ (List.mem_append_right _ (List.mem_cons_of_mem _ (List.mem_append_right _ (List.mem_cons_of_mem _ List.mem_cons_self)))))) (ShowsAll.mem hpl fun p hp => List.mem_cons_of_mem _ (List.mem_append_right _ (List.mem_cons_of_mem _ (List.mem_append_right _ (List.mem_cons_of_mem _ (List.mem_cons_of_mem _ (List.mem_map_of_mem (f := pCh) (List.mem_reverse.2 hp)))))))) rfl rfl hqp (by omega)) ?_)
          rintro v95 H95 ⟨rfl, rfl⟩
          refine TL_pure (d := (some 96)) rfl rfl rfl (PV_not rfl) ?_
          refine TL_pure (d := (some 97)) rfl rfl rfl (PV_move rfl) ?_
          -- guard 98 move t15
          refine TL_yes rfl rfl rfl (TO_pure rfl (PV_move rfl) ?_)
          refine TL_yes rfl rfl rfl (TO_pure rfl (PV_len_slice Try.underlying69 rfl) ?_)
          refine TL_yes rfl rfl rfl (TO_pure rfl (PV_move rfl) ?_)
          refine TL_yes rfl rfl rfl (TO_pure rfl (PV_len_slice Try.underlying68 rfl) ?_)
          refine TL_yes rfl rfl rfl (TO_pure rfl (PV.cast (PV_bin rfl rfl bin_neq) (congrArg Value.bool (show _ = false by rw [hlq]; simp))) ?_)
          first | (refine TL_pure (d := (some 103)) rfl rfl rfl (PV_pickOr rfl rfl rfl) ?_) | (refine TL_pure (d := (some 103)) rfl rfl rfl (PV_pickT rfl (by first | assumption | rfl | (simp; done) | (simp; omega)) rfl rfl) ?_)
          refine TL_nil ?_
          -- IF t103
          refine T_else rfl (by rfl) ?_
          refine T_skip ?_
          refine T_seq ?_
          refine T_seq ?_
          refine T_region ?_
          refine TL_pure (d := (some 104)) rfl rfl rfl (PV_move rfl) ?_
          refine TL_pure (d := (some 105)) rfl rfl rfl (PV_len_slice Try.underlying69 rfl) ?_
          refine TL_pure (d := (some 106)) rfl rfl rfl (PV_move rfl) ?_
          refine TL_nil ?_
          refine T_block ?_
          -- ('loop', ('Code.loop', ('Code.seq', ('Code.region', 31, ('L', ('Oper.mk', ('some', 107), ('Op.binOp', 'BinOp.lss', 3, ('Operand.tmp', 106), ('Operand.tmp', 105), 3), 0, '"law.go:152"', ('L',), 'none')
          refine T.weaken (fr' := [(9, .slice Ao ps.length co), (104, .slice A15 rs.length c15), (105, .int .i64 (rs.length : Int)), (106, .int .i64 0)]) (FrSub.cons rfl (FrSub.cons rfl (FrSub.cons rfl (FrSub.cons rfl (FrSub.nil _))))) ?_
          refine T_loop (fun m f h => ∃ i : Nat, m = rs.length - i ∧ i ≤ rs.length ∧ f = [(9, .slice Ao ps.length co), (104, .slice A15 rs.length c15), (105, .int .i64 (rs.length : Int)), (106, .int .i64 ((i : Nat) : Int))] ∧ h = .sl (.slice A15 rs.length c15) 2 rs.length (bCells 0 rs) :: (rs.reverse.map pCh ++ (.sl (.slice A14 qs.length c14) 1 qs.length (qs.map pVal) :: (qs.reverse.map pCh ++ (Chunk.sl (.slice (some ⟨g23, 0, none⟩) n n) 1 n (nums .u8 xs) :: Chunk.sl (.slice Ao ps.length co) 1 ps.length (ps.map pVal) :: ps.reverse.map pCh))))) (rs.length) ?_ ?_
          · exact ⟨0, rfl, Nat.zero_le _, rfl, rfl⟩
          · rintro m f h ⟨i, rfl, hi, rfl, rfl⟩
            refine T_seq ?_
            refine T_region ?_
            refine TL_pure (d := (some 107)) rfl rfl rfl (PV_bin rfl rfl bin_lss) ?_
            refine TL_nil ?_
            refine T_seq ?_
            -- IF t107
            refine T_cond rfl (fun hbi2 => ?_) (fun hbi2 => ?_)
            · skip
              have hir : i < rs.length := by have := of_decide_eq_true hbi2; omega
              refine T_shows (A := A15) (m := rs.length) (es := 2) (ys := bCells 0 rs) (Shows.at (c := c15) 0 rfl) (by rw [bCells_len]; omega) fun g off hA hrd => ?_
              subst hA
              refine T_shows (A := Ao) (m := ps.length) (es := 1) (ys := ps.map pVal) (Shows.mem (c := co) (List.mem_cons_of_mem _ (List.mem_append_right _ (List.mem_cons_of_mem _ (List.mem_append_right _ (List.mem_cons_of_mem _ List.mem_cons_self)))))) (by rw [List.length_map]; omega) fun g' off' hA' hrd' => ?_
              subst hA'
              obtain ⟨r, hr'⟩ : ∃ r, rs[i]? = some r := ⟨rs[i], List.getElem?_eq_getElem hir⟩
              obtain ⟨p, hp'⟩ : ∃ p, ps[i]? = some p := ⟨ps[i], List.getElem?_eq_getElem (by omega)⟩
              have hxx : r.2.2 = p.2.2 := by
                have := congrArg (fun x : List (List Int) => x[i]?) hrp
                simpa [List.getElem?_map, hr', hp'] using this
              have hbc := bCells_get 0 rs i r hr'
              have hrm := List.mem_of_getElem? hr'
              have hpm := List.mem_of_getElem? hp'
              obtain ⟨Ar, cr, zs⟩ := r
              obtain ⟨Ap, cp, ys⟩ := p
              replace hxx : zs = ys := hxx
              subst hxx
              have hrS : Shows (WH w w.heap.size (.sl (.slice (some ⟨g, off, none⟩) rs.length c15) 2 rs.length (bCells 0 rs) :: (rs.reverse.map pCh ++ (.sl (.slice A14 qs.length c14) 1 qs.length (qs.map pVal) :: (qs.reverse.map pCh ++ (Chunk.sl (.slice (some ⟨g23, 0, none⟩) n n) 1 n (nums .u8 xs) :: .sl (.slice (some ⟨g', off', none⟩) ps.length co) 1 ps.length (ps.map pVal) :: ps.reverse.map pCh)))))) Ar zs.length 1 (nums .u8 zs) := Shows.mem (c := cr) (List.mem_cons_of_mem _ (List.mem_append_left _ (List.mem_map_of_mem (f := pCh) (List.mem_reverse.2 hrm))))
              have hpS : Shows (WH w w.heap.size (.sl (.slice (some ⟨g, off, none⟩) rs.length c15) 2 rs.length (bCells 0 rs) :: (rs.reverse.map pCh ++ (.sl (.slice A14 qs.length c14) 1 qs.length (qs.map pVal) :: (qs.reverse.map pCh ++ (Chunk.sl (.slice (some ⟨g23, 0, none⟩) n n) 1 n (nums .u8 xs) :: .sl (.slice (some ⟨g', off', none⟩) ps.length co) 1 ps.length (ps.map pVal) :: ps.reverse.map pCh)))))) Ap zs.length 1 (nums .u8 zs) := Shows.mem (c := cp) (List.mem_cons_of_mem _ (List.mem_append_right _ (List.mem_cons_of_mem _ (List.mem_append_right _ (List.mem_cons_of_mem _ (List.mem_cons_of_mem _ (List.mem_map_of_mem (f := pCh) (List.mem_reverse.2 hpm))))))))
              have hg0 := hrd _ _ hbc.1
              have hg1 := hrd _ _ hbc.2
              have hgp := hrd' i (.slice Ap zs.length cp) (by rw [List.getElem?_map, hp']; rfl)
              rw [show off' + i = off' + i * 1 by omega] at hgp
              have hds : RdsK (WH w w.heap.size (.sl (.slice (some ⟨g, off, none⟩) rs.length c15) 2 rs.length (bCells 0 rs) :: (rs.reverse.map pCh ++ (.sl (.slice A14 qs.length c14) 1 qs.length (qs.map pVal) :: (qs.reverse.map pCh ++ (Chunk.sl (.slice (some ⟨g23, 0, none⟩) n n) 1 n (nums .u8 xs) :: .sl (.slice (some ⟨g', off', none⟩) ps.length co) 1 ps.length (ps.map pVal) :: ps.reverse.map pCh)))))) g (off + i * 2) 2 [.int .u8 (((0 + i + 1) % 256 : Nat) : Int), .slice Ar zs.length cr] := by
                refine ⟨rfl, fun j v hj => ?_⟩
                rw [add_plain']
                match j, hj with
                | 0, hj => cases hj; exact hg0
                | 1, hj => cases hj; exact hg1
              refine T_skip ?_
              refine T_seq ?_
              refine T_block ?_
              refine T_seq ?_
              refine T_region ?_
              refine TL_pure (d := (some 108)) rfl rfl rfl (PV_move rfl) ?_
              refine TL_pure (d := (some 109)) rfl rfl rfl (PV_indexAddr Try.underlying69 sz58 rfl rfl rfl (by first | omega | decide | assumption)) ?_
              refine TL_pure (d := (some 110)) rfl rfl rfl (PV_loadAt Try.underlying58 rfl sz58 rfl hds) ?_
              refine TL_cons rfl (TO_alloc rfl zr58 fun g17 => ?_)
              refine TL_pure (d := (some 16)) rfl rfl rfl (PV_assign rfl) ?_
              first | (refine TL_cons rfl (TO_store 0 rfl rfl rfl sz58 rfl rfl rfl (by simp [Value.cells, Value.oneCell']) (by first | exact Nat.le_of_ble_eq_true rfl | (simp; done) | (simp; omega) | omega) ?_)) | (refine TL_cons rfl (TO_store 1 rfl rfl rfl sz58 rfl rfl rfl (by simp [Value.cells, Value.oneCell']) (by first | exact Nat.le_of_ble_eq_true rfl | (simp; done) | (simp; omega) | omega) ?_)) | (refine TL_cons rfl (TO_store 2 rfl rfl rfl sz58 rfl rfl rfl (by simp [Value.cells, Value.oneCell']) (by first | exact Nat.le_of_ble_eq_true rfl | (simp; done) | (simp; omega) | omega) ?_)) | (refine TL_cons rfl (TO_store 3 rfl rfl rfl sz58 rfl rfl rfl (by simp [Value.cells, Value.oneCell']) (by first | exact Nat.le_of_ble_eq_true rfl | (simp; done) | (simp; omega) | omega) ?_)) | (refine TL_cons rfl (TO_store 4 rfl rfl rfl sz58 rfl rfl rfl (by simp [Value.cells, Value.oneCell']) (by first | exact Nat.le_of_ble_eq_true rfl | (simp; done) | (simp; omega) | omega) ?_)) | (refine TL_cons rfl (TO_store 5 rfl rfl rfl sz58 rfl rfl rfl (by simp [Value.cells, Value.oneCell']) (by first | exact Nat.le_of_ble_eq_true rfl | (simp; done) | (simp; omega) | omega) ?_)) | (refine TL_cons rfl (TO_store 6 rfl rfl rfl sz58 rfl rfl rfl (by simp [Value.cells, Value.oneCell']) (by first | exact Nat.le_of_ble_eq_true rfl | (simp; done) | (simp; omega) | omega) ?_)) | (refine TL_cons rfl (TO_store 7 rfl rfl rfl sz58 rfl rfl rfl (by simp [Value.cells, Value.oneCell']) (by first | exact Nat.le_of_ble_eq_true rfl | (simp; done) | (simp; omega) | omega) ?_)) | (refine TL_cons rfl (TO_store 8 rfl rfl rfl sz58 rfl rfl rfl (by simp [Value.cells, Value.oneCell']) (by first | exact Nat.le_of_ble_eq_true rfl | (simp; done) | (simp; omega) | omega) ?_))
              refine TL_nil ?_
              refine T_seq ?_
              refine T_drawn (WH _ _ _) mixed (by intro w h; exact h) ?_
              refine TA_take (dd := (some 111)) 0 rfl (by kernel_rfl) (by kernel_rfl) (by kernel_rfl) rfl rfl rfl (PV_fieldAddr (D := 0) Try.underlying58 rfl sz5 (by decide) rfl rfl) ?_
              first | (refine TA_take (dd := (some 112)) 1 rfl (by kernel_rfl) (by kernel_rfl) (by kernel_rfl) rfl rfl rfl (PV_load Try.underlying5 rfl rfl (by first | exact Rd.at 0 rfl rfl | exact Rd.at 1 rfl rfl | exact Rd.at 2 rfl rfl | exact Rd.at 3 rfl rfl | exact Rd.at 4 rfl rfl | exact Rd.at 5 rfl rfl | exact Rd.at 6 rfl rfl | exact Rd.at 7 rfl rfl | exact Rd.at 8 rfl rfl | exact Rd.mono hgp (by intro w h; first | exact h | exact h.tl | exact h.tl.tl | exact h.tl.tl.tl | exact h.tl.tl.tl.tl | exact h.tl.tl.tl.tl.tl | exact h.tl.tl.tl.tl.tl.tl | exact h.tl.tl.tl.tl.tl.tl.tl | exact h.tl.tl.tl.tl.tl.tl.tl.tl))) ?_) | (refine TA_pure1 (dd := (some 112)) 1 (by kernel_rfl) rfl rfl rfl rfl (PV_load Try.underlying5 rfl rfl (by first | exact Rd.at 0 rfl rfl | exact Rd.at 1 rfl rfl | exact Rd.at 2 rfl rfl | exact Rd.at 3 rfl rfl | exact Rd.at 4 rfl rfl | exact Rd.at 5 rfl rfl | exact Rd.at 6 rfl rfl | exact Rd.at 7 rfl rfl | exact Rd.at 8 rfl rfl | exact Rd.mono hgp (by intro w h; first | exact h | exact h.tl | exact h.tl.tl | exact h.tl.tl.tl | exact h.tl.tl.tl.tl | exact h.tl.tl.tl.tl.tl | exact h.tl.tl.tl.tl.tl.tl | exact h.tl.tl.tl.tl.tl.tl.tl | exact h.tl.tl.tl.tl.tl.tl.tl.tl))) ?_)
              refine TA_take (dd := (some 113)) 2 rfl (by kernel_rfl) (by kernel_rfl) (by kernel_rfl) rfl rfl rfl (PV_move rfl) ?_
              refine TA_take (dd := (some 114)) 3 rfl (by kernel_rfl) (by kernel_rfl) (by kernel_rfl) rfl rfl rfl (PV.cast (PV_bin rfl rfl bin_add) (wr64n (0 + i + 1) (by omega) (by omega))) ?_
              first | (refine TA_take (dd := (some 115)) 4 rfl (by kernel_rfl) (by kernel_rfl) (by kernel_rfl) rfl rfl rfl (PV.cast (PV_conv (by rw [Try.underlying3]; rfl) Try.underlying5 rfl) (wrapu8 (0 + i + 1))) ?_) | (refine TA_pure1 (dd := (some 115)) 4 (by kernel_rfl) rfl rfl rfl rfl (PV.cast (PV_conv (by rw [Try.underlying3]; rfl) Try.underlying5 rfl) (wrapu8 (0 + i + 1))) ?_)
              refine TA_take (dd := (some 116)) 5 rfl (by kernel_rfl) (by kernel_rfl) (by kernel_rfl) rfl rfl rfl (PV.cast (PV_bin rfl rfl bin_neq) (congrArg Value.bool (show _ = false by simp))) ?_
              refine TA_take (dd := (some 117)) 6 rfl (by kernel_rfl) (by kernel_rfl) (by kernel_rfl) rfl rfl rfl (PV_move rfl) ?_
              -- dguard 7 118 fieldAddr 58 t17 1
              refine TA_yes (dd := (some 118)) 7 rfl (by kernel_rfl) (by kernel_rfl) (by kernel_rfl) rfl rfl rfl rfl rfl (PV_fieldAddr (D := 1) Try.underlying58 rfl sz23 (by decide) rfl rfl) ?_
              refine TA_yes (dd := (some 119)) 8 rfl (by kernel_rfl) (by kernel_rfl) (by kernel_rfl) rfl rfl rfl rfl rfl (PV_load Try.underlying23 rfl rfl (by first | exact Rd.at 0 rfl rfl | exact Rd.at 1 rfl rfl | exact Rd.at 2 rfl rfl | exact Rd.at 3 rfl rfl | exact Rd.at 4 rfl rfl | exact Rd.at 5 rfl rfl | exact Rd.at 6 rfl rfl | exact Rd.at 7 rfl rfl | exact Rd.at 8 rfl rfl | exact Rd.mono hgp (by intro w h; first | exact h | exact h.tl | exact h.tl.tl | exact h.tl.tl.tl | exact h.tl.tl.tl.tl | exact h.tl.tl.tl.tl.tl | exact h.tl.tl.tl.tl.tl.tl | exact h.tl.tl.tl.tl.tl.tl.tl | exact h.tl.tl.tl.tl.tl.tl.tl.tl))) ?_
              refine TA_yes (dd := (some 120)) 9 rfl (by kernel_rfl) (by kernel_rfl) (by kernel_rfl) rfl rfl rfl rfl rfl (PV_b2s Try.underlying23 Try.underlying5 Try.underlying9 rfl (by first | assumption | exact Shows.at 0 rfl | exact Shows.at 1 rfl | exact Shows.at 2 rfl | exact Shows.at 3 rfl | exact Shows.at 4 rfl | exact Shows.at 5 rfl | exact Shows.at 6 rfl | exact Shows.at 7 rfl | exact Shows.at 8 rfl | exact Shows.mono hrS (by intro w h; first | exact h | exact h.tl | exact h.tl.tl | exact h.tl.tl.tl | exact h.tl.tl.tl.tl | exact h.tl.tl.tl.tl.tl | exact h.tl.tl.tl.tl.tl.tl | exact h.tl.tl.tl.tl.tl.tl.tl | exact h.tl.tl.tl.tl.tl.tl.tl.tl) | exact Shows.mono hpS (by intro w h; first | exact h | exact h.tl | exact h.tl.tl | exact h.tl.tl.tl | exact h.tl.tl.tl.tl | exact h.tl.tl.tl.tl.tl | exact h.tl.tl.tl.tl.tl.tl | exact h.tl.tl.tl.tl.tl.tl.tl | exact h.tl.tl.tl.tl.tl.tl.tl.tl))) ?_
              refine TA_yes (dd := (some 121)) 10 rfl (by kernel_rfl) (by kernel_rfl) (by kernel_rfl) rfl rfl rfl rfl rfl (PV_move rfl) ?_
              refine TA_yes (dd := (some 122)) 11 rfl (by kernel_rfl) (by kernel_rfl) (by kernel_rfl) rfl rfl rfl rfl rfl (PV_move rfl) ?_
              refine TA_yes (dd := (some 123)) 12 rfl (by kernel_rfl) (by kernel_rfl) (by kernel_rfl) rfl rfl rfl rfl rfl (PV_indexAddr Try.underlying68 sz23 rfl rfl rfl (by first | omega | decide | assumption)) ?_
              refine TA_yes (dd := (some 124)) 13 rfl (by kernel_rfl) (by kernel_rfl) (by kernel_rfl) rfl rfl rfl rfl rfl (PV_load Try.underlying23 rfl rfl (by first | exact Rd.at 0 rfl rfl | exact Rd.at 1 rfl rfl | exact Rd.at 2 rfl rfl | exact Rd.at 3 rfl rfl | exact Rd.at 4 rfl rfl | exact Rd.at 5 rfl rfl | exact Rd.at 6 rfl rfl | exact Rd.at 7 rfl rfl | exact Rd.at 8 rfl rfl | exact Rd.mono hgp (by intro w h; first | exact h | exact h.tl | exact h.tl.tl | exact h.tl.tl.tl | exact h.tl.tl.tl.tl | exact h.tl.tl.tl.tl.tl | exact h.tl.tl.tl.tl.tl.tl | exact h.tl.tl.tl.tl.tl.tl.tl | exact h.tl.tl.tl.tl.tl.tl.tl.tl))) ?_
              refine TA_yes (dd := (some 125)) 14 rfl (by kernel_rfl) (by kernel_rfl) (by kernel_rfl) rfl rfl rfl rfl rfl (PV_b2s Try.underlying23 Try.underlying5 Try.underlying9 rfl (by first | assumption | exact Shows.at 0 rfl | exact Shows.at 1 rfl | exact Shows.at 2 rfl | exact Shows.at 3 rfl | exact Shows.at 4 rfl | exact Shows.at 5 rfl | exact Shows.at 6 rfl | exact Shows.at 7 rfl | exact Shows.at 8 rfl | exact Shows.mono hrS (by intro w h; first | exact h | exact h.tl | exact h.tl.tl | exact h.tl.tl.tl | exact h.tl.tl.tl.tl | exact h.tl.tl.tl.tl.tl | exact h.tl.tl.tl.tl.tl.tl | exact h.tl.tl.tl.tl.tl.tl.tl | exact h.tl.tl.tl.tl.tl.tl.tl.tl) | exact Shows.mono hpS (by intro w h; first | exact h | exact h.tl | exact h.tl.tl | exact h.tl.tl.tl | exact h.tl.tl.tl.tl | exact h.tl.tl.tl.tl.tl | exact h.tl.tl.tl.tl.tl.tl | exact h.tl.tl.tl.tl.tl.tl.tl | exact h.tl.tl.tl.tl.tl.tl.tl.tl))) ?_
              refine TA_yes (dd := (some 126)) 15 rfl (by kernel_rfl) (by kernel_rfl) (by kernel_rfl) rfl rfl rfl rfl rfl (PV.cast (PV_bin rfl rfl bin_str_neq) (congrArg Value.bool (show _ = false by exact congrArg Bool.not (decide_eq_true rfl)))) ?_
              first | (refine TA_take (dd := (some 127)) 16 rfl (by kernel_rfl) (by kernel_rfl) (by kernel_rfl) rfl rfl rfl (PV_pickOr rfl rfl rfl) ?_) | (refine TA_take (dd := (some 127)) 16 rfl (by kernel_rfl) (by kernel_rfl) (by kernel_rfl) rfl rfl rfl (PV_pickT rfl (by first | assumption | rfl | (simp; done) | (simp; omega)) rfl rfl) ?_)
              refine TA_done (by kernel_rfl) ?_
              -- IF t127
              refine T_else rfl (by rfl) ?_
              refine T_skip ?_
              refine T_region ?_
              refine TL_pure (d := (some 128)) rfl rfl rfl (PV.cast (PV_bin rfl rfl bin_add) (wr64n (i + 1) (by omega) (by omega))) ?_
              refine TL_pure (d := (some 106)) rfl rfl rfl (PV_move rfl) ?_
              refine TL_nil ?_
              -- ('loopend',)
              exact round_end (rs.length - (i + 1)) _ _ (by omega) (FrSub.cons rfl (FrSub.cons rfl (FrSub.cons rfl (FrSub.cons rfl (FrSub.nil _))))) (List.Sublist.cons _ (List.Sublist.refl _)) ⟨i + 1, rfl, by omega, rfl, rfl⟩
            · skip
              refine T_exit ?_
              refine T_seq ?_
              refine T_region ?_
              refine TL_pure (d := (some 6)) rfl rfl rfl (PV_assign rfl) ?_
              refine TL_nil ?_
              refine T_ret ?_
              -- ('ret',)
              refine ⟨_, ?hh1, ?sb1, ResV_one rfl rfl, rfl⟩
              case sb1 => repeat (first | exact List.Sublist.refl _ | apply List.Sublist.cons_cons | apply List.Sublist.cons)
end Go.Proofs.Ythdkmgeigdoglaa.SL
namespace Go.Proofs.Ythdkmgeigdoglaa.Hand
open Go Go.RowKit Go.Proofs.YthdkmgeigdoglaaW.PrintWords H
theorem u16_of_wf {n : Int} (h : (Lit.int .u16 n).wf = true) : 0 ≤ n ∧ n ≤ 65535 := by
  simp [Lit.wf, IntKind.min, IntKind.max, IntKind.signed, IntKind.bits] at h
  omega
theorem BlockSplit_walk (a0 : Option Addr) (c0 : Nat) (l0 : List Int) (a1 : Int) (a2 : Bool) (w : World)
    (hr0 : ReadsInt w .u8 a0 l0.length l0) (hc0 : l0.length ≤ c0) (y0 : l0.length * 1 ≤ 140737488351232) (hw0 : ∀ x ∈ l0, (Lit.int .u8 x).wf = true) (w1 : (Lit.int .u16 a1).wf = true) :
    Calls Try.prog 19 #[.slice a0 l0.length c0, .int .u16 a1, .bool a2] w fun e w' => e = .returned (.bool true) ∧ Below w.heap.size w w' := by
  have h1 := u16_of_wf w1
  obtain ⟨k, rfl⟩ := Int.eq_ofNat_of_zero_le h1.1
  exact SL.law_of (SL.BlockSplit_t hr0 hc0 (by omega) (by omega))
end Go.Proofs.Ythdkmgeigdoglaa.Hand
