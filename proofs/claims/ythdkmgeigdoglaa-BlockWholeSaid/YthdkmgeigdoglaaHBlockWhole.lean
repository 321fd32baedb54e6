import Derived.Test.YthdkmgeigdoglaaSLSplit
/- BlockWhole, walked. -/
set_option linter.unusedVariables false
namespace Go.Proofs.Ythdkmgeigdoglaa.SL
open Go Go.RowKit Go.Proofs.YthdkmgeigdoglaaW.PrintWords H Hand
theorem strOf_app (xs ys : List Int) : strOfNums xs ++ strOfNums ys = strOfNums (xs ++ ys) := by
  unfold strOfNums
  apply ByteArray.ext
  simp
theorem strOf_take (xs : List Int) (k : Nat) : (strOfNums xs).extract 0 k = strOfNums (xs.take k) := by
  unfold strOfNums
  apply ByteArray.ext
  simp [List.map_take]
theorem strOf_get (xs : List Int) (i : Nat) (v : Int) (h : xs[i]? = some v) : (strOfNums xs)[i]? = some (UInt8.ofNat v.toNat) := by
  have hi : i < xs.length := (List.getElem?_eq_some_iff.1 h).1
  have hs : i < (strOfNums xs).size := by rw [strOf_len]; exact hi
  rw [getElem?_pos _ i hs]
  congr 1
  have e : (strOfNums xs).data[i]? = some (UInt8.ofNat v.toNat) := by unfold strOfNums; simp [h]
  exact (Array.getElem?_eq_some_iff.1 e).2
theorem split_len (large : Bool) : ∀ (n : Nat) (l : List Int), l.length ≤ n → ∀ p ∈ splitL large l, p.length = 128 ∨ p.length = 1024
  | n, l, h, p, hp => by
    by_cases h0 : l.length = 0
    · rw [splitL_nil large h0] at hp; cases hp
    match n with
    | 0 => omega
    | n + 1 =>
      have h2 := partN_two large l
      rw [splitL_step large h0] at hp
      rcases List.mem_cons.1 hp with rfl | hp
      · rw [partL_len]; omega
      · exact split_len large n _ (by rw [List.length_drop]; omega) p hp
theorem split_flat (large : Bool) : ∀ (n : Nat) (l : List Int), l.length ≤ n → ∃ j, j < 128 ∧ (splitL large l).flatten = l ++ List.replicate j 26
  | n, l, h => by
    by_cases h0 : l.length = 0
    · rw [splitL_nil large h0, List.length_eq_zero_iff.1 h0]
      exact ⟨0, by omega, rfl⟩
    match n with
    | 0 => omega
    | n + 1 =>
      have h2 := partN_two large l
      rw [splitL_step large h0]
      by_cases hq : partN large l ≤ l.length
      · obtain ⟨j, hj, e⟩ := split_flat large n (l.drop (min (partN large l) l.length)) (by rw [List.length_drop]; omega)
        refine ⟨j, hj, ?_⟩
        rw [List.flatten_cons, e]
        unfold partL
        rw [Nat.min_eq_left hq, Nat.sub_self, List.replicate_zero, List.append_nil, ← List.append_assoc, List.take_append_drop]
      · refine ⟨128 - l.length, by omega, ?_⟩
        rw [List.flatten_cons, splitL_nil large (by rw [List.length_drop]; omega)]
        unfold partL
        rw [Nat.min_eq_right (by omega), List.take_length, show partN large l = 128 by omega]
        simp
set_option maxRecDepth 100000 in
theorem BlockWhole_t {w : World} {A : Option Addr} {c : Nat} {l : List Int} {large : Bool} (hr : ReadsInt w .u8 A l.length l) (hc : l.length ≤ c) (hl : l.length ≤ 140737488351232) (hu : U8s l) :
    TCall Try.prog w w.heap.size 18 #[.slice A l.length c, .bool large] (fun r _ => r = .bool true) [] := by
  have hS : ∀ H, Shows (WH w w.heap.size H) A l.length 1 (nums .u8 l) := fun H => shows_start hr
  refine TCall_intro (args := [_, _]) Try.func18 rfl Try.ntmps18 (Nat.le_of_ble_eq_true rfl) ?_
  refine T_seq ?_
  refine T_region ?_
  refine TL_pure (d := (some 4)) rfl rfl rfl (PV_assign rfl) ?_
  refine TL_nil ?_
  refine T_seq ?_
  refine T_seq ?_
  refine T_region ?_
  -- op 9 call F47()
  refine TL_cons rfl (TO_call0 call47 rfl rfl (t47) ?_)
  rintro v9 H9 ⟨rfl, rfl⟩
  refine TL_pure (d := (some 10)) rfl rfl rfl (PV_not rfl) ?_
  refine TL_nil ?_
  refine T_else rfl (by rfl) ?_
  refine T_skip ?_
  refine T_seq ?_
  refine T_region ?_
  refine TL_pure (d := (some 5)) rfl rfl rfl (PV_assign rfl) ?_
  refine TL_nil ?_
  refine T_seq ?_
  refine T_seq ?_
  refine T_region ?_
  refine TL_pure (d := (some 11)) rfl rfl rfl (PV_move rfl) ?_
  refine TL_pure (d := (some 12)) rfl rfl rfl (PV_move rfl) ?_
  -- op 13 call F54(t11, t12)
  refine TL_cons rfl (TO_call0 call54 rfl rfl (t54 large (hS _) rfl hl hc) ?_)
  rintro v13 H13 ⟨A13, c13, ps, hps, hpl, rfl, hpc, hpb, rfl⟩
  have hplen : ∀ p ∈ ps, p.2.2.length = 128 ∨ p.2.2.length = 1024 := fun p hp => split_len large _ l (Nat.le_refl _) p.2.2 (hps ▸ List.mem_map_of_mem hp)
  obtain ⟨j, hj, hfl⟩ := split_flat large _ l (Nat.le_refl _)
  rw [← hps] at hfl
  have hfll : ((ps.map (·.2.2)).flatten).length = l.length + j := by rw [hfl, List.length_append, List.length_replicate]
  refine TL_pure (d := (some 14)) rfl rfl rfl (PV_len_slice Try.underlying68 rfl) ?_
  refine TL_pure (d := (some 15)) rfl rfl rfl (PV_move rfl) ?_
  refine TL_nil ?_
  refine T_block ?_
  -- ('loop', ('Code.loop', ('Code.seq', ('Code.region', 5, ('L', ('Oper.mk', ('some', 16), ('Op.binOp', 'BinOp.lss', 3, ('Operand.tmp', 15), ('Operand.tmp', 14), 3), 0, '"law.go:166"', ('L',), 'none')), '
  refine T.weaken (fr' := [(0, .slice A l.length c), (5, .string (strOfNums [])), (13, .slice A13 ps.length c13), (14, .int .i64 (ps.length : Int)), (15, .int .i64 0)]) (FrSub.cons rfl (FrSub.cons rfl (FrSub.cons rfl (FrSub.cons rfl (FrSub.cons rfl (FrSub.nil _)))))) ?_
  refine T_loop (fun m f h => ∃ i : Nat, m = ps.length - i ∧ i ≤ ps.length ∧ f = [(0, .slice A l.length c), (5, .string (strOfNums ((ps.take i).map (·.2.2)).flatten)), (13, .slice A13 ps.length c13), (14, .int .i64 (ps.length : Int)), (15, .int .i64 ((i : Nat) : Int))] ∧ h = .sl (.slice A13 ps.length c13) 1 ps.length (ps.map pVal) :: (ps.reverse.map pCh ++ [])) (ps.length) ?_ ?_
  · exact ⟨0, rfl, Nat.zero_le _, by rw [List.take_zero]; rfl, rfl⟩
  · rintro m f h ⟨i, rfl, hi, rfl, rfl⟩
    refine T_seq ?_
    refine T_region ?_
    refine TL_pure (d := (some 16)) rfl rfl rfl (PV_bin rfl rfl bin_lss) ?_
    refine TL_nil ?_
    refine T_seq ?_
    -- IF t16
    refine T_cond rfl (fun hb => ?_) (fun hb => ?_)
    · skip
      have hip : i < ps.length := by have := of_decide_eq_true hb; omega
      refine T_slA 0 rfl (by omega) fun g13 h13 => ?_
      subst h13
      obtain ⟨p, hp⟩ : ∃ p, ps[i]? = some p := ⟨ps[i], List.getElem?_eq_getElem hip⟩
      have hpm : p ∈ ps := List.mem_of_getElem? hp
      have hp12 := hplen p hpm
      have hpcc := hpl p hpm
      have htk : ps.take (i + 1) = ps.take i ++ [p] := by rw [List.take_add_one, hp]; rfl
      have htot : ((ps.map (·.2.2)).flatten) = ((ps.take (i + 1)).map (·.2.2)).flatten ++ ((ps.drop (i + 1)).map (·.2.2)).flatten := by
        rw [← List.flatten_append, ← List.map_append, List.take_append_drop]
      have htot2 := congrArg List.length htot
      rw [htk] at htot2
      obtain ⟨Ap, cp, xs⟩ := p
      have hget : (ps.map pVal)[0 + i * 1]? = some (.slice Ap xs.length cp) := by
        rw [show 0 + i * 1 = i by omega, List.getElem?_map, hp]
        rfl
      have hSh : Shows (WH w w.heap.size (.sl (.slice (some ⟨g13, 0, none⟩) ps.length c13) 1 ps.length (ps.map pVal) :: (ps.reverse.map pCh ++ []))) Ap xs.length 1 (nums .u8 xs) :=
        Shows.mem (c := cp) (List.mem_cons_of_mem _ (List.mem_append_left _ (List.mem_map_of_mem (f := pCh) (List.mem_reverse.2 hpm))))
      have hsz : (strOfNums ((ps.take i).map (·.2.2)).flatten).size + (strOfNums xs).size ≤ 9223372036854775807 := by
        rw [strOf_len, strOf_len]
        simp only [List.map_append, List.flatten_append, List.length_append, List.map_cons, List.map_nil, List.flatten_cons, List.flatten_nil, List.append_nil] at htot2
        omega
      have hacc : strOfNums ((ps.take i).map (·.2.2)).flatten ++ strOfNums xs = strOfNums ((ps.take (i + 1)).map (·.2.2)).flatten := by
        rw [strOf_app, htk]
        simp
      rcases hp12 with e | e
      · replace e : xs.length = 128 := e
        refine T_skip ?_
        refine T_seq ?_
        refine T_block ?_
        refine T_seq ?_
        refine T_region ?_
        refine TL_pure (d := (some 17)) rfl rfl rfl (PV_indexAddr Try.underlying68 sz23 rfl rfl rfl (by first | omega | decide | assumption)) ?_
        refine TL_pure (d := (some 18)) rfl rfl rfl (PV_load Try.underlying23 rfl rfl (Rd.at 0 rfl hget)) ?_
        refine TL_pure (d := (some 7)) rfl rfl rfl (PV_assign rfl) ?_
        refine TL_nil ?_
        refine T_seq ?_
        refine T_seq ?_
        refine T_region ?_
        refine TL_pure (d := (some 19)) rfl rfl rfl (PV_move rfl) ?_
        refine TL_pure (d := (some 20)) rfl rfl rfl (PV_len_slice Try.underlying23 rfl) ?_
        refine TL_pure (d := (some 21)) rfl rfl rfl (PV.cast (PV_bin rfl rfl bin_neq) (congrArg Value.bool (show _ = false by rw [e]; rfl))) ?_
        refine TL_pure (d := (some 22)) rfl rfl rfl (PV_move rfl) ?_
        -- guard 23 move t7
        refine TL_no (b := false) rfl rfl rfl rfl ?_
        refine TL_no (b := false) rfl rfl rfl rfl ?_
        refine TL_no (b := false) rfl rfl rfl rfl ?_
        first | (refine TL_pure (d := (some 26)) rfl rfl rfl (PV_pickAnd rfl rfl rfl) ?_) | (refine TL_pure (d := (some 26)) rfl rfl rfl (PV_pickF rfl (by first | assumption | rfl | (simp; done) | (simp; omega)) rfl rfl) ?_)
        refine TL_nil ?_
        -- IF t26
        refine T_else rfl (by rfl) ?_
        refine T_skip ?_
        refine T_region ?_
        refine TL_pure (d := (some 27)) rfl rfl rfl (PV_move rfl) ?_
        refine TL_pure (d := (some 28)) rfl rfl rfl (PV_move rfl) ?_
        refine TL_pure (d := (some 29)) rfl rfl rfl (PV_b2s Try.underlying23 Try.underlying5 Try.underlying9 rfl (by first | assumption | exact Shows.at 0 rfl | exact Shows.at 1 rfl | exact Shows.at 2 rfl | exact Shows.at 3 rfl | exact Shows.at 4 rfl | exact Shows.at 5 rfl | exact Shows.at 6 rfl | exact Shows.at 7 rfl | exact Shows.at 8 rfl | exact Shows.mono hSh (by intro w h; first | exact h | exact h.tl | exact h.tl.tl | exact h.tl.tl.tl | exact h.tl.tl.tl.tl | exact h.tl.tl.tl.tl.tl | exact h.tl.tl.tl.tl.tl.tl | exact h.tl.tl.tl.tl.tl.tl.tl | exact h.tl.tl.tl.tl.tl.tl.tl.tl))) ?_
        refine TL_pure (d := (some 30)) rfl rfl rfl (PV.cast (PV_bin rfl rfl (bin_str_add hsz)) (congrArg Value.string hacc)) ?_
        refine TL_pure (d := (some 5)) rfl rfl rfl (PV_assign rfl) ?_
        refine TL_nil ?_
        refine T_region ?_
        refine TL_pure (d := (some 31)) rfl rfl rfl (PV.cast (PV_bin rfl rfl bin_add) (wr64n (i + 1) (by omega) (by omega))) ?_
        refine TL_pure (d := (some 15)) rfl rfl rfl (PV_move rfl) ?_
        refine TL_nil ?_
        -- ('loopend',)
        exact round_end (ps.length - (i + 1)) _ _ (by omega) (FrSub.cons rfl (FrSub.cons rfl (FrSub.cons rfl (FrSub.cons rfl (FrSub.cons rfl (FrSub.nil _)))))) (List.Sublist.refl _) ⟨i + 1, rfl, by omega, rfl, rfl⟩
      · replace e : xs.length = 1024 := e
        refine T_skip ?_
        refine T_seq ?_
        refine T_block ?_
        refine T_seq ?_
        refine T_region ?_
        refine TL_pure (d := (some 17)) rfl rfl rfl (PV_indexAddr Try.underlying68 sz23 rfl rfl rfl (by first | omega | decide | assumption)) ?_
        refine TL_pure (d := (some 18)) rfl rfl rfl (PV_load Try.underlying23 rfl rfl (Rd.at 0 rfl hget)) ?_
        refine TL_pure (d := (some 7)) rfl rfl rfl (PV_assign rfl) ?_
        refine TL_nil ?_
        refine T_seq ?_
        refine T_seq ?_
        refine T_region ?_
        refine TL_pure (d := (some 19)) rfl rfl rfl (PV_move rfl) ?_
        refine TL_pure (d := (some 20)) rfl rfl rfl (PV_len_slice Try.underlying23 rfl) ?_
        refine TL_pure (d := (some 21)) rfl rfl rfl (PV.cast (PV_bin rfl rfl bin_neq) (congrArg Value.bool (show _ = true by rw [e]; rfl))) ?_
        refine TL_pure (d := (some 22)) rfl rfl rfl (PV_move rfl) ?_
        -- guard 23 move t7
        refine TL_yes rfl rfl rfl (TO_pure rfl (PV_move rfl) ?_)
        refine TL_yes rfl rfl rfl (TO_pure rfl (PV_len_slice Try.underlying23 rfl) ?_)
        refine TL_yes rfl rfl rfl (TO_pure rfl (PV.cast (PV_bin rfl rfl bin_neq) (congrArg Value.bool (show _ = false by rw [e]; rfl))) ?_)
        first | (refine TL_pure (d := (some 26)) rfl rfl rfl (PV_pickAnd rfl rfl rfl) ?_) | (refine TL_pure (d := (some 26)) rfl rfl rfl (PV_pickF rfl (by first | assumption | rfl | (simp; done) | (simp; omega)) rfl rfl) ?_)
        refine TL_nil ?_
        -- IF t26
        refine T_else rfl (by rfl) ?_
        refine T_skip ?_
        refine T_region ?_
        refine TL_pure (d := (some 27)) rfl rfl rfl (PV_move rfl) ?_
        refine TL_pure (d := (some 28)) rfl rfl rfl (PV_move rfl) ?_
        refine TL_pure (d := (some 29)) rfl rfl rfl (PV_b2s Try.underlying23 Try.underlying5 Try.underlying9 rfl (by first | assumption | exact Shows.at 0 rfl | exact Shows.at 1 rfl | exact Shows.at 2 rfl | exact Shows.at 3 rfl | exact Shows.at 4 rfl | exact Shows.at 5 rfl | exact Shows.at 6 rfl | exact Shows.at 7 rfl | exact Shows.at 8 rfl | exact Shows.mono hSh (by intro w h; first | exact h | exact h.tl | exact h.tl.tl | exact h.tl.tl.tl | exact h.tl.tl.tl.tl | exact h.tl.tl.tl.tl.tl | exact h.tl.tl.tl.tl.tl.tl | exact h.tl.tl.tl.tl.tl.tl.tl | exact h.tl.tl.tl.tl.tl.tl.tl.tl))) ?_
        refine TL_pure (d := (some 30)) rfl rfl rfl (PV.cast (PV_bin rfl rfl (bin_str_add hsz)) (congrArg Value.string hacc)) ?_
        refine TL_pure (d := (some 5)) rfl rfl rfl (PV_assign rfl) ?_
        refine TL_nil ?_
        refine T_region ?_
        refine TL_pure (d := (some 31)) rfl rfl rfl (PV.cast (PV_bin rfl rfl bin_add) (wr64n (i + 1) (by omega) (by omega))) ?_
        refine TL_pure (d := (some 15)) rfl rfl rfl (PV_move rfl) ?_
        refine TL_nil ?_
        -- ('loopend',)
        exact round_end (ps.length - (i + 1)) _ _ (by omega) (FrSub.cons rfl (FrSub.cons rfl (FrSub.cons rfl (FrSub.cons rfl (FrSub.cons rfl (FrSub.nil _)))))) (List.Sublist.refl _) ⟨i + 1, rfl, by omega, rfl, rfl⟩
    · skip
      have hip : i = ps.length := by have := of_decide_eq_false hb; omega
      subst hip
      have hall : ((ps.take ps.length).map (·.2.2)).flatten = l ++ List.replicate j 26 := by rw [List.take_length]; exact hfl
      rw [hall]
      have hsl : (strOfNums (l ++ List.replicate j 26)).size = l.length + j := by rw [strOf_len, List.length_append, List.length_replicate]
      have hsub : (strOfNums (l ++ List.replicate j 26)).extract 0 l.length = strOfNums l := by rw [strOf_take, List.take_left]
      have hS0 := hS []
      have hSx : Shows (WH w w.heap.size (.sl (.slice A13 ps.length c13) 1 ps.length (ps.map pVal) :: (ps.reverse.map pCh ++ []))) A l.length 1 (nums .u8 l) := hS _
      refine T_exit ?_
      refine T_seq ?_
      refine T_seq ?_
      refine T_drawn (WH _ _ _) mixed (by intro w h; exact h) ?_
      refine TA_take (dd := (some 32)) 0 rfl (by kernel_rfl) (by kernel_rfl) (by kernel_rfl) rfl rfl rfl (PV_move rfl) ?_
      refine TA_take (dd := (some 33)) 1 rfl (by kernel_rfl) (by kernel_rfl) (by kernel_rfl) rfl rfl rfl (PV_len_string Try.underlying9 rfl) ?_
      refine TA_take (dd := (some 34)) 2 rfl (by kernel_rfl) (by kernel_rfl) (by kernel_rfl) rfl rfl rfl (PV_move rfl) ?_
      refine TA_take (dd := (some 35)) 3 rfl (by kernel_rfl) (by kernel_rfl) (by kernel_rfl) rfl rfl rfl (PV_len_slice Try.underlying23 rfl) ?_
      refine TA_take (dd := (some 36)) 4 rfl (by kernel_rfl) (by kernel_rfl) (by kernel_rfl) rfl rfl rfl (PV.cast (PV_bin rfl rfl bin_lss) (congrArg Value.bool (show _ = false by exact decide_eq_false (by omega)))) ?_
      refine TA_take (dd := (some 37)) 5 rfl (by kernel_rfl) (by kernel_rfl) (by kernel_rfl) rfl rfl rfl (PV_move rfl) ?_
      -- dguard 6 38 move t5
      refine TA_yes (dd := (some 38)) 6 rfl (by kernel_rfl) (by kernel_rfl) (by kernel_rfl) rfl rfl rfl rfl rfl (PV_move rfl) ?_
      refine TA_yes (dd := (some 39)) 7 rfl (by kernel_rfl) (by kernel_rfl) (by kernel_rfl) rfl rfl rfl rfl rfl (PV_len_string Try.underlying9 rfl) ?_
      refine TA_yes (dd := (some 40)) 8 rfl (by kernel_rfl) (by kernel_rfl) (by kernel_rfl) rfl rfl rfl rfl rfl (PV_move rfl) ?_
      refine TA_yes (dd := (some 41)) 9 rfl (by kernel_rfl) (by kernel_rfl) (by kernel_rfl) rfl rfl rfl rfl rfl (PV_len_slice Try.underlying23 rfl) ?_
      first | (refine TA_yes (dd := (some 42)) 10 rfl (by kernel_rfl) (by kernel_rfl) (by kernel_rfl) rfl rfl rfl rfl rfl (PV.cast (PV_bin rfl rfl bin_add) (wr64 (by omega))) ?_) | (refine TA_yes (dd := (some 42)) 10 rfl (by kernel_rfl) (by kernel_rfl) (by kernel_rfl) rfl rfl rfl rfl rfl (PV_bin rfl rfl bin_add) ?_)
      refine TA_yes (dd := (some 43)) 11 rfl (by kernel_rfl) (by kernel_rfl) (by kernel_rfl) rfl rfl rfl rfl rfl (PV.cast (PV_bin rfl rfl bin_geq) (congrArg Value.bool (show _ = false by exact decide_eq_false (by omega)))) ?_
      first | (refine TA_take (dd := (some 44)) 12 rfl (by kernel_rfl) (by kernel_rfl) (by kernel_rfl) rfl rfl rfl (PV_pickOr rfl rfl rfl) ?_) | (refine TA_take (dd := (some 44)) 12 rfl (by kernel_rfl) (by kernel_rfl) (by kernel_rfl) rfl rfl rfl (PV_pickT rfl (by first | assumption | rfl | (simp; done) | (simp; omega)) rfl rfl) ?_)
      refine TA_take (dd := (some 45)) 13 rfl (by kernel_rfl) (by kernel_rfl) (by kernel_rfl) rfl rfl rfl (PV_move rfl) ?_
      refine TA_yes (dd := (some 46)) 14 rfl (by kernel_rfl) (by kernel_rfl) (by kernel_rfl) rfl rfl rfl rfl rfl (PV_move rfl) ?_
      refine TA_yes (dd := (some 47)) 15 rfl (by kernel_rfl) (by kernel_rfl) (by kernel_rfl) rfl rfl rfl rfl rfl (PV_move rfl) ?_
      refine TA_yes (dd := (some 48)) 16 rfl (by kernel_rfl) (by kernel_rfl) (by kernel_rfl) rfl rfl rfl rfl rfl (PV_len_slice Try.underlying23 rfl) ?_
      refine TA_yes (dd := (some 49)) 17 rfl (by kernel_rfl) (by kernel_rfl) (by kernel_rfl) rfl rfl rfl rfl rfl (PV_sliceStr (l := 0) (h := l.length) Try.underlying9 rfl rfl ⟨_, rfl⟩ (by omega) (by omega)) ?_
      refine TA_yes (dd := (some 50)) 18 rfl (by kernel_rfl) (by kernel_rfl) (by kernel_rfl) rfl rfl rfl rfl rfl (PV_move rfl) ?_
      refine TA_yes (dd := (some 51)) 19 rfl (by kernel_rfl) (by kernel_rfl) (by kernel_rfl) rfl rfl rfl rfl rfl (PV_b2s Try.underlying23 Try.underlying5 Try.underlying9 rfl (by first | assumption | exact Shows.at 0 rfl | exact Shows.at 1 rfl | exact Shows.at 2 rfl | exact Shows.at 3 rfl | exact Shows.at 4 rfl | exact Shows.at 5 rfl | exact Shows.at 6 rfl | exact Shows.at 7 rfl | exact Shows.at 8 rfl | exact Shows.mono hSx (by intro w h; first | exact h | exact h.tl | exact h.tl.tl | exact h.tl.tl.tl | exact h.tl.tl.tl.tl | exact h.tl.tl.tl.tl.tl | exact h.tl.tl.tl.tl.tl.tl | exact h.tl.tl.tl.tl.tl.tl.tl | exact h.tl.tl.tl.tl.tl.tl.tl.tl))) ?_
      refine TA_yes (dd := (some 52)) 20 rfl (by kernel_rfl) (by kernel_rfl) (by kernel_rfl) rfl rfl rfl rfl rfl (PV.cast (PV_bin rfl rfl bin_str_neq) (congrArg Value.bool (show _ = false by exact congrArg Bool.not (decide_eq_true hsub)))) ?_
      first | (refine TA_take (dd := (some 53)) 21 rfl (by kernel_rfl) (by kernel_rfl) (by kernel_rfl) rfl rfl rfl (PV_pickOr rfl rfl rfl) ?_) | (refine TA_take (dd := (some 53)) 21 rfl (by kernel_rfl) (by kernel_rfl) (by kernel_rfl) rfl rfl rfl (PV_pickT rfl (by first | assumption | rfl | (simp; done) | (simp; omega)) rfl rfl) ?_)
      refine TA_done (by kernel_rfl) ?_
      refine T_else rfl (by rfl) ?_
      refine T_skip ?_
      refine T_seq ?_
      refine T_seq ?_
      refine T_region ?_
      refine TL_pure (d := (some 54)) rfl rfl rfl (PV_move rfl) ?_
      refine TL_pure (d := (some 55)) rfl rfl rfl (PV_len_slice Try.underlying23 rfl) ?_
      refine TL_pure (d := (some 8)) rfl rfl rfl (PV_assign rfl) ?_
      refine TL_nil ?_
      refine T_block ?_
      -- ('loop', ('Code.loop', ('Code.seq', ('Code.seq', ('Code.region', 14, ('L', ('Oper.mk', ('some', 56), ('Op.move', ('Operand.tmp', 8)), 3, '"law.go:175"', ('L',), 'none'), ('Oper.mk', ('some', 57), ('Op
      refine T.weaken (fr' := [(5, .string (strOfNums (l ++ List.replicate j 26))), (8, .int .i64 (l.length : Int))]) (FrSub.cons rfl (FrSub.cons rfl (FrSub.nil _))) ?_
      refine T_loop (fun m f h => ∃ k : Nat, m = l.length + j - k ∧ l.length ≤ k ∧ k ≤ l.length + j ∧ f = [(5, .string (strOfNums (l ++ List.replicate j 26))), (8, .int .i64 ((k : Nat) : Int))]) (j) ?_ ?_
      · exact ⟨l.length, by omega, Nat.le_refl _, by omega, rfl⟩
      · rintro m f h ⟨k, rfl, hk1, hk2, rfl⟩
        refine T_seq ?_
        refine T_seq ?_
        refine T_region ?_
        refine TL_pure (d := (some 56)) rfl rfl rfl (PV_move rfl) ?_
        refine TL_pure (d := (some 57)) rfl rfl rfl (PV_move rfl) ?_
        refine TL_pure (d := (some 58)) rfl rfl rfl (PV_len_string Try.underlying9 rfl) ?_
        refine TL_pure (d := (some 59)) rfl rfl rfl (PV_bin rfl rfl bin_lss) ?_
        refine TL_nil ?_
        -- IF t59
        refine T_cond rfl (fun hb2 => ?_) (fun hb2 => ?_)
        · skip
          have hkl : k < l.length + j := by have := of_decide_eq_true hb2; omega
          have hgk : (strOfNums (l ++ List.replicate j 26))[k]? = some 26 := strOf_get _ k 26 (by rw [List.getElem?_append_right hk1, List.getElem?_replicate, if_pos (by omega)])
          refine T_skip ?_
          refine T_seq ?_
          refine T_block ?_
          refine T_seq ?_
          refine T_region ?_
          refine TL_pure (d := (some 62)) rfl rfl rfl (PV_move rfl) ?_
          refine TL_pure (d := (some 63)) rfl rfl rfl (PV_move rfl) ?_
          refine TL_pure (d := (some 64)) rfl rfl rfl (PV_indexStr Try.underlying9 rfl rfl rfl hgk) ?_
          refine TL_pure (d := (some 65)) rfl rfl rfl (PV_bin rfl rfl bin_neq) ?_
          refine TL_nil ?_
          -- IF t65
          refine T_else rfl (by rfl) ?_
          refine T_skip ?_
          refine T_region ?_
          refine TL_pure (d := (some 60)) rfl rfl rfl (PV_move rfl) ?_
          refine TL_pure (d := (some 61)) rfl rfl rfl (PV.cast (PV_bin rfl rfl bin_add) (wr64n (k + 1) (by omega) (by omega))) ?_
          refine TL_pure (d := (some 8)) rfl rfl rfl (PV_assign rfl) ?_
          refine TL_nil ?_
          -- ('loopend',)
          exact round_end (l.length + j - (k + 1)) _ _ (by omega) (FrSub.cons rfl (FrSub.cons rfl (FrSub.nil _))) (List.Sublist.refl _) ⟨k + 1, rfl, by omega, by omega, rfl⟩
        · skip
          refine T_exit ?_
          refine T_seq ?_
          refine T_region ?_
          refine TL_pure (d := (some 4)) rfl rfl rfl (PV_assign rfl) ?_
          refine TL_nil ?_
          refine T_ret ?_
          -- ('ret',)
          refine ⟨_, ?hh1, ?sb1, ResV_one rfl rfl, rfl⟩
          case sb1 => repeat (first | exact List.Sublist.refl _ | apply List.Sublist.cons_cons | apply List.Sublist.cons)
end Go.Proofs.Ythdkmgeigdoglaa.SL
namespace Go.Proofs.Ythdkmgeigdoglaa.Hand
open Go Go.RowKit Go.Proofs.YthdkmgeigdoglaaW.PrintWords H
theorem BlockWhole_walk (a0 : Option Addr) (c0 : Nat) (l0 : List Int) (a1 : Bool) (w : World)
    (hr0 : ReadsInt w .u8 a0 l0.length l0) (hc0 : l0.length ≤ c0) (y0 : l0.length * 1 ≤ 140737488351232) (hw0 : ∀ x ∈ l0, (Lit.int .u8 x).wf = true) :
    Calls Try.prog 18 #[.slice a0 l0.length c0, .bool a1] w fun e w' => e = .returned (.bool true) ∧ Below w.heap.size w w' :=
  SL.law_of (SL.BlockWhole_t hr0 hc0 (by omega) (U8s.of_wf hw0))
end Go.Proofs.Ythdkmgeigdoglaa.Hand
