import Derived.Test.YthdkmgeigdoglaaSLSend
/- The sender: made. No statement is proved here. -/
set_option linter.unusedVariables false
namespace Go.Proofs.Ythdkmgeigdoglaa.SL
open Go Go.RowKit Go.Proofs.YthdkmgeigdoglaaW.PrintWords H Hand
section
variable {w0 : World} {B : Nat} {H : List Chunk}
set_option maxRecDepth 100000 in
theorem t89 (a b : Int) : TCall Try.prog w0 B 89 #[.agg #[.int .i64 a, .int .i64 b]] (fun r H' => r = .agg #[.int .i64 (max 1 (min a 9)), .int .i64 (max 1 (min b 99))] ∧ H' = H) H := by
  refine TCall_intro (args := [_]) Try.func89 rfl Try.ntmps89 (Nat.le_of_ble_eq_true rfl) ?_
  refine T_seq ?_
  refine T_region ?_
  refine TL_cons rfl (TO_box rfl rfl fun g1 => ?_)
  refine TL_cons rfl (TO_alloc rfl zr79 fun g2 => ?_)
  refine TL_nil ?_
  refine T_seq ?_
  refine T_region ?_
  refine TL_pure (d := (some 3)) rfl rfl rfl (PV_fieldAddr (D := 0) Try.underlying79 rfl sz3 (by decide) rfl rfl) ?_
  refine TL_pure (d := (some 4)) rfl rfl rfl (PV_load Try.underlying3 rfl rfl (by first | exact Rd.at 0 rfl rfl | exact Rd.at 1 rfl rfl | exact Rd.at 2 rfl rfl | exact Rd.at 3 rfl rfl | exact Rd.at 4 rfl rfl | exact Rd.at 5 rfl rfl | exact Rd.at 6 rfl rfl | exact Rd.at 7 rfl rfl | exact Rd.at 8 rfl rfl)) ?_
  refine TL_pure (d := (some 5)) rfl rfl rfl (PV_min rfl rfl) ?_
  refine TL_pure (d := (some 6)) rfl rfl rfl (PV_max rfl rfl) ?_
  refine TL_pure (d := (some 7)) rfl rfl rfl (PV_fieldAddr (D := 1) Try.underlying79 rfl sz3 (by decide) rfl rfl) ?_
  refine TL_pure (d := (some 8)) rfl rfl rfl (PV_load Try.underlying3 rfl rfl (by first | exact Rd.at 0 rfl rfl | exact Rd.at 1 rfl rfl | exact Rd.at 2 rfl rfl | exact Rd.at 3 rfl rfl | exact Rd.at 4 rfl rfl | exact Rd.at 5 rfl rfl | exact Rd.at 6 rfl rfl | exact Rd.at 7 rfl rfl | exact Rd.at 8 rfl rfl)) ?_
  refine TL_pure (d := (some 9)) rfl rfl rfl (PV_min rfl rfl) ?_
  refine TL_pure (d := (some 10)) rfl rfl rfl (PV_max rfl rfl) ?_
  refine TL_pure (d := (some 11)) rfl rfl rfl (PV_build (ps := _) (cells := #[_, _]) Try.underlying79 pl79 zr79 rfl rfl) ?_
  first | (refine TL_cons rfl (TO_store 0 rfl rfl rfl sz79 rfl rfl rfl (by simp [Value.cells, Value.oneCell']) (by first | exact Nat.le_of_ble_eq_true rfl | (simp; done) | (simp; omega) | omega) ?_)) | (refine TL_cons rfl (TO_store 1 rfl rfl rfl sz79 rfl rfl rfl (by simp [Value.cells, Value.oneCell']) (by first | exact Nat.le_of_ble_eq_true rfl | (simp; done) | (simp; omega) | omega) ?_)) | (refine TL_cons rfl (TO_store 2 rfl rfl rfl sz79 rfl rfl rfl (by simp [Value.cells, Value.oneCell']) (by first | exact Nat.le_of_ble_eq_true rfl | (simp; done) | (simp; omega) | omega) ?_)) | (refine TL_cons rfl (TO_store 3 rfl rfl rfl sz79 rfl rfl rfl (by simp [Value.cells, Value.oneCell']) (by first | exact Nat.le_of_ble_eq_true rfl | (simp; done) | (simp; omega) | omega) ?_)) | (refine TL_cons rfl (TO_store 4 rfl rfl rfl sz79 rfl rfl rfl (by simp [Value.cells, Value.oneCell']) (by first | exact Nat.le_of_ble_eq_true rfl | (simp; done) | (simp; omega) | omega) ?_)) | (refine TL_cons rfl (TO_store 5 rfl rfl rfl sz79 rfl rfl rfl (by simp [Value.cells, Value.oneCell']) (by first | exact Nat.le_of_ble_eq_true rfl | (simp; done) | (simp; omega) | omega) ?_)) | (refine TL_cons rfl (TO_store 6 rfl rfl rfl sz79 rfl rfl rfl (by simp [Value.cells, Value.oneCell']) (by first | exact Nat.le_of_ble_eq_true rfl | (simp; done) | (simp; omega) | omega) ?_)) | (refine TL_cons rfl (TO_store 7 rfl rfl rfl sz79 rfl rfl rfl (by simp [Value.cells, Value.oneCell']) (by first | exact Nat.le_of_ble_eq_true rfl | (simp; done) | (simp; omega) | omega) ?_)) | (refine TL_cons rfl (TO_store 8 rfl rfl rfl sz79 rfl rfl rfl (by simp [Value.cells, Value.oneCell']) (by first | exact Nat.le_of_ble_eq_true rfl | (simp; done) | (simp; omega) | omega) ?_))
  refine TL_nil ?_
  refine T_ret ?_
  -- ('ret',)
  refine ⟨_, _, ?_, ResV_c rfl Try.underlying79 rfl sz79 rfl (by first | exact Rds.take 0 rfl rfl rfl | exact Rds.take 1 rfl rfl rfl | exact Rds.take 2 rfl rfl rfl | exact Rds.take 3 rfl rfl rfl | exact Rds.take 4 rfl rfl rfl | exact Rds.take 5 rfl rfl rfl | exact Rds.take 6 rfl rfl rfl | exact Rds.take 7 rfl rfl rfl | exact Rds.take 8 rfl rfl rfl), ⟨rfl, rfl⟩⟩
  repeat (first | exact List.Sublist.refl _ | apply List.Sublist.cons_cons | apply List.Sublist.cons)
set_option maxRecDepth 100000 in
theorem t58 (a b : Int) {A : Option Addr} {c : Nat} {qs : List Part} (crc close : Bool) (hS : Shows (WH w0 B H) A qs.length 2 (bCells 0 qs)) (hP : ShowsAll (WH w0 B H) qs) (hm : qs.length ≤ 65535) (hc : qs.length ≤ c) (hb : ∀ p ∈ qs, p.2.2.length = 128 ∨ p.2.2.length = 1024) :
    TCall Try.prog w0 B 58 #[.agg #[.int .i64 a, .int .i64 b], .slice A qs.length c, .bool crc, .bool close] (fun r H' => ∃ (g : Nat) (Ao : Option Addr) (co : Nat) (rs : List Part), rs.map (·.2.2) = qs.map (·.2.2) ∧ (∀ p ∈ rs, p.2.2.length ≤ p.2.1) ∧ rs.length ≤ co ∧ r = .pointer (some ⟨g, 0, none⟩) ∧ H' = sndC g ⟨max 1 (min a 9), max 1 (min b 99), Ao, co, rs, close, crc, 0, 0, 1, max 1 (min b 99), false, .nilIface⟩ :: .sl (.slice Ao rs.length co) 2 rs.length (bCells 0 rs) :: (rs.reverse.map pCh ++ H)) H := by
  obtain ⟨ct, hct⟩ : ∃ ct, max 1 (min a 9) = ct := ⟨_, rfl⟩
  obtain ⟨cw, hcw⟩ : ∃ cw, max 1 (min b 99) = cw := ⟨_, rfl⟩
  refine TCall_intro (args := [_, _, _, _]) Try.func58 rfl Try.ntmps58 (Nat.le_of_ble_eq_true rfl) ?_
  refine T_seq ?_
  refine T_region ?_
  refine TL_cons rfl (TO_box rfl rfl fun g4 => ?_)
  refine TL_pure (d := (some 8)) rfl rfl rfl (PV_assign rfl) ?_
  refine TL_nil ?_
  refine T_seq ?_
  refine T_region ?_
  refine TL_pure (d := (some 12)) rfl rfl rfl (PV_loadAt Try.underlying79 rfl sz79 rfl (by first | exact Rds.take 0 rfl rfl rfl | exact Rds.take 1 rfl rfl rfl | exact Rds.take 2 rfl rfl rfl | exact Rds.take 3 rfl rfl rfl | exact Rds.take 4 rfl rfl rfl | exact Rds.take 5 rfl rfl rfl | exact Rds.take 6 rfl rfl rfl | exact Rds.take 7 rfl rfl rfl | exact Rds.take 8 rfl rfl rfl)) ?_
  -- op 13 call F89(t12)
  refine TL_cons rfl (TO_call0 call89 rfl rfl (t89 a b) ?_)
  rintro v13 H13 ⟨rfl, rfl⟩
  rw [hct, hcw] at *
  refine TL_pure (d := (some 14)) rfl rfl rfl (PV_move rfl) ?_
  refine TL_pure (d := (some 15)) rfl rfl rfl (PV_move rfl) ?_
  refine TL_pure (d := (some 16)) rfl rfl rfl (PV_build (ps := _) (cells := #[_, _, _, _, _, _, _, _, _, _, _]) Try.underlying133 pl133 zr133 rfl rfl) ?_
  refine TL_cons rfl (TO_box rfl rfl fun g17 => ?_)
  refine TL_pure (d := (some 9)) rfl rfl rfl (PV_assign rfl) ?_
  refine TL_nil ?_
  refine T_seq ?_
  refine T_seq ?_
  refine T_region ?_
  refine TL_pure (d := (some 18)) rfl rfl rfl (PV_move rfl) ?_
  refine TL_pure (d := (some 19)) rfl rfl rfl (PV_len_slice Try.underlying69 rfl) ?_
  refine TL_pure (d := (some 20)) rfl rfl rfl (PV_move rfl) ?_
  refine TL_nil ?_
  refine T_block ?_
  -- ('loop', ('Code.loop', ('Code.seq', ('Code.region', 3, ('L', ('Oper.mk', ('some', 21), ('Op.binOp', 'BinOp.lss', 3, ('Operand.tmp', 20), ('Operand.tmp', 19), 3), 0, '"sender.go:44"', ('L',), 'none')),
  refine T_addNil 2 ?_
  refine T.perm (List.Perm.swap _ _ _) ?_
  refine T.drop (H' := sndC g17 ⟨ct, cw, none, 0, [], close, crc, 0, 0, 0, 0, false, .nilIface⟩ :: .sl (.slice none 0 0) 2 0 [] :: H) (List.Sublist.cons_cons _ (List.Sublist.cons_cons _ (List.Sublist.cons _ (List.Sublist.refl _)))) ?_
  refine T.weaken (fr' := [(9, .pointer (some ⟨g17, 0, none⟩)), (18, .slice A qs.length c), (19, .int .i64 (qs.length : Int)), (20, .int .i64 0)]) (FrSub.cons rfl (FrSub.cons rfl (FrSub.cons rfl (FrSub.cons rfl (FrSub.nil _))))) ?_
  refine T_loop (fun m f h => ∃ (i : Nat) (Ao : Option Addr) (co : Nat) (rs : List Part), m = qs.length - i ∧ i ≤ qs.length ∧ rs.length = i ∧ rs.length ≤ co ∧ rs.map (·.2.2) = (qs.take i).map (·.2.2) ∧ (∀ p ∈ rs, p.2.2.length ≤ p.2.1) ∧ f = [(9, .pointer (some ⟨g17, 0, none⟩)), (18, .slice A qs.length c), (19, .int .i64 (qs.length : Int)), (20, .int .i64 ((i : Nat) : Int))] ∧ h = sndC g17 ⟨ct, cw, Ao, co, rs, close, crc, 0, 0, 0, 0, false, .nilIface⟩ :: .sl (.slice Ao rs.length co) 2 rs.length (bCells 0 rs) :: (rs.reverse.map pCh ++ H)) (qs.length) ?_ ?_
  · exact ⟨0, none, 0, [], rfl, Nat.zero_le _, rfl, Nat.le_refl _, rfl, by simp, rfl, rfl⟩
  · rintro m f h ⟨i, Ao, co, rs, rfl, hi, hri, hrc, hrs, hrl, rfl, rfl⟩
    have hup : ∀ w, WH w0 B (sndC g17 ⟨ct, cw, Ao, co, rs, close, crc, 0, 0, 0, 0, false, .nilIface⟩ :: .sl (.slice Ao rs.length co) 2 rs.length (bCells 0 rs) :: (rs.reverse.map pCh ++ H)) w → WH w0 B H w := fun w h => h.sub (((List.sublist_append_right _ _).cons _).cons _)
    refine T_seq ?_
    refine T_region ?_
    refine TL_pure (d := (some 21)) rfl rfl rfl (PV_bin rfl rfl bin_lss) ?_
    refine TL_nil ?_
    refine T_seq ?_
    -- IF t21
    refine T_cond rfl (fun hbi => ?_) (fun hbi => ?_)
    · skip
      have hip : i < qs.length := by have := of_decide_eq_true hbi; omega
      refine T_shows (hS.mono hup) (by rw [bCells_len]; omega) fun g off hA hrd => ?_
      subst hA
      obtain ⟨p, hp⟩ : ∃ p, qs[i]? = some p := ⟨qs[i], List.getElem?_eq_getElem hip⟩
      have hpm : p ∈ qs := List.mem_of_getElem? hp
      have hpS0 := (hP p hpm).1
      have hpb := hb p hpm
      have htk : qs.take (i + 1) = qs.take i ++ [p] := by rw [List.take_add_one, hp]; rfl
      have hbc := bCells_get 0 qs i p hp
      obtain ⟨Ap, cp, xs⟩ := p
      replace hpb : xs.length = 128 ∨ xs.length = 1024 := hpb
      have hg0 := hrd _ _ hbc.1
      have hg1 := hrd _ _ hbc.2
      have hds : RdsK (WH w0 B (sndC g17 ⟨ct, cw, Ao, co, rs, close, crc, 0, 0, 0, 0, false, .nilIface⟩ :: .sl (.slice Ao rs.length co) 2 rs.length (bCells 0 rs) :: (rs.reverse.map pCh ++ H))) g (off + i * 2) 2 [.int .u8 (((0 + i + 1) % 256 : Nat) : Int), .slice Ap xs.length cp] := by
        refine ⟨rfl, fun j v hj => ?_⟩
        rw [add_plain']
        match j, hj with
        | 0, hj => cases hj; exact hg0
        | 1, hj => cases hj; exact hg1
      refine T_skip ?_
      refine T_seq ?_
      refine T_block ?_
      refine T_seq ?_
      refine T_region ?_
      refine TL_pure (d := (some 22)) rfl rfl rfl (PV_indexAddr Try.underlying69 sz58 rfl rfl rfl (by first | omega | decide | assumption)) ?_
      refine TL_pure (d := (some 23)) rfl rfl rfl (PV_loadAt Try.underlying58 rfl sz58 rfl hds) ?_
      -- op 11 alloc 58
      refine TL_cons rfl (TO_alloc rfl zr58 fun g11 => ?_)
      refine TL_perm (((List.Perm.swap _ _ _).cons _).trans (List.Perm.swap _ _ _)) ?_
      first | (refine TL_cons rfl (TO_store 0 rfl rfl rfl sz58 rfl rfl rfl (by simp [Value.cells, Value.oneCell']) (by first | exact Nat.le_of_ble_eq_true rfl | (simp; done) | (simp; omega) | omega) ?_)) | (refine TL_cons rfl (TO_store 1 rfl rfl rfl sz58 rfl rfl rfl (by simp [Value.cells, Value.oneCell']) (by first | exact Nat.le_of_ble_eq_true rfl | (simp; done) | (simp; omega) | omega) ?_)) | (refine TL_cons rfl (TO_store 2 rfl rfl rfl sz58 rfl rfl rfl (by simp [Value.cells, Value.oneCell']) (by first | exact Nat.le_of_ble_eq_true rfl | (simp; done) | (simp; omega) | omega) ?_)) | (refine TL_cons rfl (TO_store 3 rfl rfl rfl sz58 rfl rfl rfl (by simp [Value.cells, Value.oneCell']) (by first | exact Nat.le_of_ble_eq_true rfl | (simp; done) | (simp; omega) | omega) ?_)) | (refine TL_cons rfl (TO_store 4 rfl rfl rfl sz58 rfl rfl rfl (by simp [Value.cells, Value.oneCell']) (by first | exact Nat.le_of_ble_eq_true rfl | (simp; done) | (simp; omega) | omega) ?_)) | (refine TL_cons rfl (TO_store 5 rfl rfl rfl sz58 rfl rfl rfl (by simp [Value.cells, Value.oneCell']) (by first | exact Nat.le_of_ble_eq_true rfl | (simp; done) | (simp; omega) | omega) ?_)) | (refine TL_cons rfl (TO_store 6 rfl rfl rfl sz58 rfl rfl rfl (by simp [Value.cells, Value.oneCell']) (by first | exact Nat.le_of_ble_eq_true rfl | (simp; done) | (simp; omega) | omega) ?_)) | (refine TL_cons rfl (TO_store 7 rfl rfl rfl sz58 rfl rfl rfl (by simp [Value.cells, Value.oneCell']) (by first | exact Nat.le_of_ble_eq_true rfl | (simp; done) | (simp; omega) | omega) ?_)) | (refine TL_cons rfl (TO_store 8 rfl rfl rfl sz58 rfl rfl rfl (by simp [Value.cells, Value.oneCell']) (by first | exact Nat.le_of_ble_eq_true rfl | (simp; done) | (simp; omega) | omega) ?_))
      refine TL_nil ?_
      refine T_drawn (WH w0 B (Chunk.own g11 2 [.int .u8 (((0 + i + 1) % 256 : Nat) : Int), .slice Ap xs.length cp] :: H)) mixed (by intro w h; exact h.sub (by repeat (first | exact List.Sublist.refl _ | exact List.sublist_append_right _ _ | apply List.Sublist.cons_cons | apply List.Sublist.cons))) ?_
      refine TA_take (dd := (some 24)) 0 rfl (by kernel_rfl) (by kernel_rfl) (by kernel_rfl) rfl rfl rfl (PV_move rfl) ?_
      refine TA_take (dd := (some 25)) 1 rfl (by kernel_rfl) (by kernel_rfl) (by kernel_rfl) rfl rfl rfl (PV_move rfl) ?_
      refine TA_take (dd := (some 26)) 2 rfl (by kernel_rfl) (by kernel_rfl) (by kernel_rfl) rfl rfl rfl (PV_nilCheck rfl) ?_
      refine TA_take (dd := (some 27)) 3 rfl (by kernel_rfl) (by kernel_rfl) (by kernel_rfl) rfl rfl rfl (PV_fieldAddr (D := 2) Try.underlying133 rfl sz69 (by decide) rfl rfl) ?_
      refine TA_take (dd := (some 29)) 5 rfl (by kernel_rfl) (by kernel_rfl) (by kernel_rfl) rfl rfl rfl (PV_fieldAddr (D := 0) Try.underlying58 rfl sz5 (by decide) rfl rfl) ?_
      first | (refine TA_take (dd := (some 30)) 6 rfl (by kernel_rfl) (by kernel_rfl) (by kernel_rfl) rfl rfl rfl (PV_load Try.underlying5 rfl rfl (by first | exact Rd.at 0 rfl rfl | exact Rd.at 1 rfl rfl | exact Rd.at 2 rfl rfl | exact Rd.at 3 rfl rfl | exact Rd.at 4 rfl rfl | exact Rd.at 5 rfl rfl | exact Rd.at 6 rfl rfl | exact Rd.at 7 rfl rfl | exact Rd.at 8 rfl rfl)) ?_) | (refine TA_pure1 (dd := (some 30)) 6 (by kernel_rfl) rfl rfl rfl rfl (PV_load Try.underlying5 rfl rfl (by first | exact Rd.at 0 rfl rfl | exact Rd.at 1 rfl rfl | exact Rd.at 2 rfl rfl | exact Rd.at 3 rfl rfl | exact Rd.at 4 rfl rfl | exact Rd.at 5 rfl rfl | exact Rd.at 6 rfl rfl | exact Rd.at 7 rfl rfl | exact Rd.at 8 rfl rfl)) ?_)
      refine TA_take (dd := (some 31)) 7 rfl (by kernel_rfl) (by kernel_rfl) (by kernel_rfl) rfl rfl rfl (PV_fieldAddr (D := 1) Try.underlying58 rfl sz23 (by decide) rfl rfl) ?_
      first | (refine TA_take (dd := (some 32)) 8 rfl (by kernel_rfl) (by kernel_rfl) (by kernel_rfl) rfl rfl rfl (PV_load Try.underlying23 rfl rfl (by first | exact Rd.at 0 rfl rfl | exact Rd.at 1 rfl rfl | exact Rd.at 2 rfl rfl | exact Rd.at 3 rfl rfl | exact Rd.at 4 rfl rfl | exact Rd.at 5 rfl rfl | exact Rd.at 6 rfl rfl | exact Rd.at 7 rfl rfl | exact Rd.at 8 rfl rfl)) ?_) | (refine TA_pure1 (dd := (some 32)) 8 (by kernel_rfl) rfl rfl rfl rfl (PV_load Try.underlying23 rfl rfl (by first | exact Rd.at 0 rfl rfl | exact Rd.at 1 rfl rfl | exact Rd.at 2 rfl rfl | exact Rd.at 3 rfl rfl | exact Rd.at 4 rfl rfl | exact Rd.at 5 rfl rfl | exact Rd.at 6 rfl rfl | exact Rd.at 7 rfl rfl | exact Rd.at 8 rfl rfl)) ?_)
      -- ('many', [4, 9])
      -- TAIL
      refine TA_hard (rs := [4, 9]) (by kernel_rfl) (by decide) ?_
      refine List.forall_mem_cons.2 ⟨?_, List.forall_mem_cons.2 ⟨?_, by simp⟩⟩
      · skip
        refine ⟨_, rfl, rfl, (TO_pure rfl (PV_load Try.underlying69 rfl rfl (by first | exact Rd.at 0 rfl rfl | exact Rd.at 1 rfl rfl | exact Rd.at 2 rfl rfl | exact Rd.at 3 rfl rfl | exact Rd.at 4 rfl rfl | exact Rd.at 5 rfl rfl | exact Rd.at 6 rfl rfl | exact Rd.at 7 rfl rfl | exact Rd.at 8 rfl rfl)) ?_)⟩
        refine ⟨by intro w h; exact h.sub (by repeat (first | exact List.Sublist.refl _ | exact List.sublist_append_right _ _ | apply List.Sublist.cons_cons | apply List.Sublist.cons)), ?_⟩
        refine TA_one 9 (by kernel_rfl) rfl rfl (TO_appendNil Try.underlying23 zb5 rfl (by decide) rfl rfl rfl (hpS0.mono fun w h => h.sub (by repeat (first | exact List.Sublist.refl _ | exact List.sublist_append_right _ _ | apply List.Sublist.cons))) nums_one (by omega) (by omega) fun A33 c33 hc33 => ?_)
        refine ⟨by intro w h; exact h.sub (by repeat (first | exact List.Sublist.refl _ | exact List.sublist_append_right _ _ | apply List.Sublist.cons_cons | apply List.Sublist.cons)), ?_⟩
        refine TA_take (dd := (some 34)) 10 rfl (by kernel_rfl) (by kernel_rfl) (by kernel_rfl) rfl rfl rfl (PV_build (ps := _) (cells := #[_, _]) Try.underlying58 pl58 zr58 rfl rfl) ?_
        refine TA_one 11 (by kernel_rfl) rfl rfl (TO_buildSlice (cells := #[.int .u8 (((0 + i + 1) % 256 : Nat) : Int), .slice A33 xs.length c33]) Try.underlying69 zs58 (by decide) rfl rfl rfl (by kernel_rfl) rfl fun g35 => ?_)
        refine ⟨by intro w h; exact h.sub (by repeat (first | exact List.Sublist.refl _ | exact List.sublist_append_right _ _ | apply List.Sublist.cons_cons | apply List.Sublist.cons)), ?_⟩
        refine TA_one 12 (by kernel_rfl) rfl rfl (TO_append 2 rfl Try.underlying69 zb58 rfl (by decide) rfl rfl rfl (Shows.at 0 rfl) (by simp [Value.oneCell']) (by omega) (by omega) fun A36 c36 hc36 => ?_)
        refine ⟨by intro w h; exact h.sub (by repeat (first | exact List.Sublist.refl _ | exact List.sublist_append_right _ _ | apply List.Sublist.cons_cons | apply List.Sublist.cons)), ?_⟩
        refine TA_take (dd := (some 37)) 13 rfl (by kernel_rfl) (by kernel_rfl) (by kernel_rfl) rfl rfl rfl (PV_nilCheck rfl) ?_
        refine TA_take (dd := (some 38)) 14 rfl (by kernel_rfl) (by kernel_rfl) (by kernel_rfl) rfl rfl rfl (PV_fieldAddr (D := 2) Try.underlying133 rfl sz69 (by decide) rfl rfl) ?_
        first | (refine TA_one 15 (by kernel_rfl) rfl rfl (TO_store1 0 rfl rfl rfl sz69 rfl rfl rfl (by first | exact Nat.le_of_ble_eq_true rfl | (simp; done) | (simp; omega) | omega) ?_)) | (refine TA_one 15 (by kernel_rfl) rfl rfl (TO_store1 1 rfl rfl rfl sz69 rfl rfl rfl (by first | exact Nat.le_of_ble_eq_true rfl | (simp; done) | (simp; omega) | omega) ?_)) | (refine TA_one 15 (by kernel_rfl) rfl rfl (TO_store1 2 rfl rfl rfl sz69 rfl rfl rfl (by first | exact Nat.le_of_ble_eq_true rfl | (simp; done) | (simp; omega) | omega) ?_)) | (refine TA_one 15 (by kernel_rfl) rfl rfl (TO_store1 3 rfl rfl rfl sz69 rfl rfl rfl (by first | exact Nat.le_of_ble_eq_true rfl | (simp; done) | (simp; omega) | omega) ?_)) | (refine TA_one 15 (by kernel_rfl) rfl rfl (TO_store1 4 rfl rfl rfl sz69 rfl rfl rfl (by first | exact Nat.le_of_ble_eq_true rfl | (simp; done) | (simp; omega) | omega) ?_)) | (refine TA_one 15 (by kernel_rfl) rfl rfl (TO_store1 5 rfl rfl rfl sz69 rfl rfl rfl (by first | exact Nat.le_of_ble_eq_true rfl | (simp; done) | (simp; omega) | omega) ?_)) | (refine TA_one 15 (by kernel_rfl) rfl rfl (TO_store1 6 rfl rfl rfl sz69 rfl rfl rfl (by first | exact Nat.le_of_ble_eq_true rfl | (simp; done) | (simp; omega) | omega) ?_)) | (refine TA_one 15 (by kernel_rfl) rfl rfl (TO_store1 7 rfl rfl rfl sz69 rfl rfl rfl (by first | exact Nat.le_of_ble_eq_true rfl | (simp; done) | (simp; omega) | omega) ?_)) | (refine TA_one 15 (by kernel_rfl) rfl rfl (TO_store1 8 rfl rfl rfl sz69 rfl rfl rfl (by first | exact Nat.le_of_ble_eq_true rfl | (simp; done) | (simp; omega) | omega) ?_))
        refine ⟨by intro w h; exact h.sub (by repeat (first | exact List.Sublist.refl _ | exact List.sublist_append_right _ _ | apply List.Sublist.cons_cons | apply List.Sublist.cons)), ?_⟩
        refine TA_done (by kernel_rfl) ?_
        refine T_region ?_
        -- op 39 binOp add 3 t20 ci64:1 3
        refine TL_drop (H' := Chunk.sl (.slice A33 xs.length c33) 1 xs.length (nums .u8 xs) :: Chunk.sl (.slice A36 (rs.length + 1) c36) 2 (rs.length + 1) (bCells 0 rs ++ [.int .u8 (((0 + i + 1) % 256 : Nat) : Int), .slice A33 xs.length c33]) :: Chunk.own g17 11 [.int .i64 ct, .int .i64 cw, .slice A36 (rs.length + 1) c36, .bool close, .bool crc, .int .i64 0, .int .i64 0, .int .i64 0, .int .i64 0, .bool false, .nilIface] :: (rs.reverse.map pCh ++ H)) (List.Sublist.cons _ (List.Sublist.cons_cons _ (List.Sublist.cons_cons _ (List.Sublist.cons _ (List.Sublist.refl _))))) ?_
        refine TL_perm ((List.Perm.swap _ _ _).trans (((List.Perm.swap _ _ _).cons _).trans (List.Perm.swap _ _ _))) ?_
        refine TL_cons rfl (TO_pure rfl (PV.cast (PV_bin rfl rfl bin_add) (wr64n (i + 1) (by omega) (by omega))) ?_)
        refine TL_pure (d := (some 20)) rfl rfl rfl (PV_move rfl) ?_
        refine TL_nil ?_
        -- ('loopend',)
        refine round_end (qs.length - (i + 1)) _ _ (by omega) (FrSub.cons rfl (FrSub.cons rfl (FrSub.cons rfl (FrSub.cons rfl (FrSub.nil _))))) (List.Sublist.refl _) ⟨i + 1, A36, c36, rs ++ [(A33, c33, xs)], rfl, by omega, by rw [List.length_append, hri]; rfl, by rw [List.length_append]; exact hc36, ?_, ?_, rfl, ?_⟩
        · rw [htk, List.map_append, List.map_append, hrs]
          rfl
        · intro p hp
          rcases List.mem_append.1 hp with hp | hp
          · exact hrl p hp
          · rw [List.mem_singleton.1 hp]; exact hc33
        · rw [bCells_app]
          simp [pCh, pVal, sndC, hri]
      · skip
        refine ⟨_, rfl, rfl, (TO_appendNil Try.underlying23 zb5 rfl (by decide) rfl rfl rfl (hpS0.mono fun w h => h.sub (by repeat (first | exact List.Sublist.refl _ | exact List.sublist_append_right _ _ | apply List.Sublist.cons))) nums_one (by omega) (by omega) fun A33 c33 hc33 => ?_)⟩
        refine ⟨by intro w h; exact h.sub (by repeat (first | exact List.Sublist.refl _ | exact List.sublist_append_right _ _ | apply List.Sublist.cons_cons | apply List.Sublist.cons)), ?_⟩
        refine TA_take (dd := (some 34)) 10 rfl (by kernel_rfl) (by kernel_rfl) (by kernel_rfl) rfl rfl rfl (PV_build (ps := _) (cells := #[_, _]) Try.underlying58 pl58 zr58 rfl rfl) ?_
        -- ('many', [4, 11])
        refine TA_hard (rs := [4, 11]) (by kernel_rfl) (by decide) ?_
        refine List.forall_mem_cons.2 ⟨?_, List.forall_mem_cons.2 ⟨?_, by simp⟩⟩
        · skip
          refine ⟨_, rfl, rfl, (TO_pure rfl (PV_load Try.underlying69 rfl rfl (by first | exact Rd.at 0 rfl rfl | exact Rd.at 1 rfl rfl | exact Rd.at 2 rfl rfl | exact Rd.at 3 rfl rfl | exact Rd.at 4 rfl rfl | exact Rd.at 5 rfl rfl | exact Rd.at 6 rfl rfl | exact Rd.at 7 rfl rfl | exact Rd.at 8 rfl rfl)) ?_)⟩
          refine ⟨by intro w h; exact h.sub (by repeat (first | exact List.Sublist.refl _ | exact List.sublist_append_right _ _ | apply List.Sublist.cons_cons | apply List.Sublist.cons)), ?_⟩
          refine TA_one 11 (by kernel_rfl) rfl rfl (TO_buildSlice (cells := #[.int .u8 (((0 + i + 1) % 256 : Nat) : Int), .slice A33 xs.length c33]) Try.underlying69 zs58 (by decide) rfl rfl rfl (by kernel_rfl) rfl fun g35 => ?_)
          refine ⟨by intro w h; exact h.sub (by repeat (first | exact List.Sublist.refl _ | exact List.sublist_append_right _ _ | apply List.Sublist.cons_cons | apply List.Sublist.cons)), ?_⟩
          refine TA_one 12 (by kernel_rfl) rfl rfl (TO_append 2 rfl Try.underlying69 zb58 rfl (by decide) rfl rfl rfl (Shows.at 0 rfl) (by simp [Value.oneCell']) (by omega) (by omega) fun A36 c36 hc36 => ?_)
          refine ⟨by intro w h; exact h.sub (by repeat (first | exact List.Sublist.refl _ | exact List.sublist_append_right _ _ | apply List.Sublist.cons_cons | apply List.Sublist.cons)), ?_⟩
          refine TA_take (dd := (some 37)) 13 rfl (by kernel_rfl) (by kernel_rfl) (by kernel_rfl) rfl rfl rfl (PV_nilCheck rfl) ?_
          refine TA_take (dd := (some 38)) 14 rfl (by kernel_rfl) (by kernel_rfl) (by kernel_rfl) rfl rfl rfl (PV_fieldAddr (D := 2) Try.underlying133 rfl sz69 (by decide) rfl rfl) ?_
          first | (refine TA_one 15 (by kernel_rfl) rfl rfl (TO_store1 0 rfl rfl rfl sz69 rfl rfl rfl (by first | exact Nat.le_of_ble_eq_true rfl | (simp; done) | (simp; omega) | omega) ?_)) | (refine TA_one 15 (by kernel_rfl) rfl rfl (TO_store1 1 rfl rfl rfl sz69 rfl rfl rfl (by first | exact Nat.le_of_ble_eq_true rfl | (simp; done) | (simp; omega) | omega) ?_)) | (refine TA_one 15 (by kernel_rfl) rfl rfl (TO_store1 2 rfl rfl rfl sz69 rfl rfl rfl (by first | exact Nat.le_of_ble_eq_true rfl | (simp; done) | (simp; omega) | omega) ?_)) | (refine TA_one 15 (by kernel_rfl) rfl rfl (TO_store1 3 rfl rfl rfl sz69 rfl rfl rfl (by first | exact Nat.le_of_ble_eq_true rfl | (simp; done) | (simp; omega) | omega) ?_)) | (refine TA_one 15 (by kernel_rfl) rfl rfl (TO_store1 4 rfl rfl rfl sz69 rfl rfl rfl (by first | exact Nat.le_of_ble_eq_true rfl | (simp; done) | (simp; omega) | omega) ?_)) | (refine TA_one 15 (by kernel_rfl) rfl rfl (TO_store1 5 rfl rfl rfl sz69 rfl rfl rfl (by first | exact Nat.le_of_ble_eq_true rfl | (simp; done) | (simp; omega) | omega) ?_)) | (refine TA_one 15 (by kernel_rfl) rfl rfl (TO_store1 6 rfl rfl rfl sz69 rfl rfl rfl (by first | exact Nat.le_of_ble_eq_true rfl | (simp; done) | (simp; omega) | omega) ?_)) | (refine TA_one 15 (by kernel_rfl) rfl rfl (TO_store1 7 rfl rfl rfl sz69 rfl rfl rfl (by first | exact Nat.le_of_ble_eq_true rfl | (simp; done) | (simp; omega) | omega) ?_)) | (refine TA_one 15 (by kernel_rfl) rfl rfl (TO_store1 8 rfl rfl rfl sz69 rfl rfl rfl (by first | exact Nat.le_of_ble_eq_true rfl | (simp; done) | (simp; omega) | omega) ?_))
          refine ⟨by intro w h; exact h.sub (by repeat (first | exact List.Sublist.refl _ | exact List.sublist_append_right _ _ | apply List.Sublist.cons_cons | apply List.Sublist.cons)), ?_⟩
          refine TA_done (by kernel_rfl) ?_
          refine T_region ?_
          -- op 39 binOp add 3 t20 ci64:1 3
          refine TL_drop (H' := Chunk.sl (.slice A33 xs.length c33) 1 xs.length (nums .u8 xs) :: Chunk.sl (.slice A36 (rs.length + 1) c36) 2 (rs.length + 1) (bCells 0 rs ++ [.int .u8 (((0 + i + 1) % 256 : Nat) : Int), .slice A33 xs.length c33]) :: Chunk.own g17 11 [.int .i64 ct, .int .i64 cw, .slice A36 (rs.length + 1) c36, .bool close, .bool crc, .int .i64 0, .int .i64 0, .int .i64 0, .int .i64 0, .bool false, .nilIface] :: (rs.reverse.map pCh ++ H)) (List.Sublist.cons _ (List.Sublist.cons_cons _ (List.Sublist.cons_cons _ (List.Sublist.cons _ (List.Sublist.refl _))))) ?_
          refine TL_perm ((List.Perm.swap _ _ _).trans (((List.Perm.swap _ _ _).cons _).trans (List.Perm.swap _ _ _))) ?_
          refine TL_cons rfl (TO_pure rfl (PV.cast (PV_bin rfl rfl bin_add) (wr64n (i + 1) (by omega) (by omega))) ?_)
          refine TL_pure (d := (some 20)) rfl rfl rfl (PV_move rfl) ?_
          refine TL_nil ?_
          -- ('loopend',)
          refine round_end (qs.length - (i + 1)) _ _ (by omega) (FrSub.cons rfl (FrSub.cons rfl (FrSub.cons rfl (FrSub.cons rfl (FrSub.nil _))))) (List.Sublist.refl _) ⟨i + 1, A36, c36, rs ++ [(A33, c33, xs)], rfl, by omega, by rw [List.length_append, hri]; rfl, by rw [List.length_append]; exact hc36, ?_, ?_, rfl, ?_⟩
          · rw [htk, List.map_append, List.map_append, hrs]
            rfl
          · intro p hp
            rcases List.mem_append.1 hp with hp | hp
            · exact hrl p hp
            · rw [List.mem_singleton.1 hp]; exact hc33
          · rw [bCells_app]
            simp [pCh, pVal, sndC, hri]
        · skip
          refine ⟨_, rfl, rfl, (TO_buildSlice (cells := #[.int .u8 (((0 + i + 1) % 256 : Nat) : Int), .slice A33 xs.length c33]) Try.underlying69 zs58 (by decide) rfl rfl rfl (by kernel_rfl) rfl fun g35 => ?_)⟩
          refine ⟨by intro w h; exact h.sub (by repeat (first | exact List.Sublist.refl _ | exact List.sublist_append_right _ _ | apply List.Sublist.cons_cons | apply List.Sublist.cons)), ?_⟩
          refine TA_pure1 (dd := (some 28)) 4 (by kernel_rfl) rfl rfl rfl rfl (PV_load Try.underlying69 rfl rfl (by first | exact Rd.at 0 rfl rfl | exact Rd.at 1 rfl rfl | exact Rd.at 2 rfl rfl | exact Rd.at 3 rfl rfl | exact Rd.at 4 rfl rfl | exact Rd.at 5 rfl rfl | exact Rd.at 6 rfl rfl | exact Rd.at 7 rfl rfl | exact Rd.at 8 rfl rfl)) ?_
          refine TA_one 12 (by kernel_rfl) rfl rfl (TO_append 2 rfl Try.underlying69 zb58 rfl (by decide) rfl rfl rfl (Shows.at 0 rfl) (by simp [Value.oneCell']) (by omega) (by omega) fun A36 c36 hc36 => ?_)
          refine ⟨by intro w h; exact h.sub (by repeat (first | exact List.Sublist.refl _ | exact List.sublist_append_right _ _ | apply List.Sublist.cons_cons | apply List.Sublist.cons)), ?_⟩
          refine TA_take (dd := (some 37)) 13 rfl (by kernel_rfl) (by kernel_rfl) (by kernel_rfl) rfl rfl rfl (PV_nilCheck rfl) ?_
          refine TA_take (dd := (some 38)) 14 rfl (by kernel_rfl) (by kernel_rfl) (by kernel_rfl) rfl rfl rfl (PV_fieldAddr (D := 2) Try.underlying133 rfl sz69 (by decide) rfl rfl) ?_
          first | (refine TA_one 15 (by kernel_rfl) rfl rfl (TO_store1 0 rfl rfl rfl sz69 rfl rfl rfl (by first | exact Nat.le_of_ble_eq_true rfl | (simp; done) | (simp; omega) | omega) ?_)) | (refine TA_one 15 (by kernel_rfl) rfl rfl (TO_store1 1 rfl rfl rfl sz69 rfl rfl rfl (by first | exact Nat.le_of_ble_eq_true rfl | (simp; done) | (simp; omega) | omega) ?_)) | (refine TA_one 15 (by kernel_rfl) rfl rfl (TO_store1 2 rfl rfl rfl sz69 rfl rfl rfl (by first | exact Nat.le_of_ble_eq_true rfl | (simp; done) | (simp; omega) | omega) ?_)) | (refine TA_one 15 (by kernel_rfl) rfl rfl (TO_store1 3 rfl rfl rfl sz69 rfl rfl rfl (by first | exact Nat.le_of_ble_eq_true rfl | (simp; done) | (simp; omega) | omega) ?_)) | (refine TA_one 15 (by kernel_rfl) rfl rfl (TO_store1 4 rfl rfl rfl sz69 rfl rfl rfl (by first | exact Nat.le_of_ble_eq_true rfl | (simp; done) | (simp; omega) | omega) ?_)) | (refine TA_one 15 (by kernel_rfl) rfl rfl (TO_store1 5 rfl rfl rfl sz69 rfl rfl rfl (by first | exact Nat.le_of_ble_eq_true rfl | (simp; done) | (simp; omega) | omega) ?_)) | (refine TA_one 15 (by kernel_rfl) rfl rfl (TO_store1 6 rfl rfl rfl sz69 rfl rfl rfl (by first | exact Nat.le_of_ble_eq_true rfl | (simp; done) | (simp; omega) | omega) ?_)) | (refine TA_one 15 (by kernel_rfl) rfl rfl (TO_store1 7 rfl rfl rfl sz69 rfl rfl rfl (by first | exact Nat.le_of_ble_eq_true rfl | (simp; done) | (simp; omega) | omega) ?_)) | (refine TA_one 15 (by kernel_rfl) rfl rfl (TO_store1 8 rfl rfl rfl sz69 rfl rfl rfl (by first | exact Nat.le_of_ble_eq_true rfl | (simp; done) | (simp; omega) | omega) ?_))
          refine ⟨by intro w h; exact h.sub (by repeat (first | exact List.Sublist.refl _ | exact List.sublist_append_right _ _ | apply List.Sublist.cons_cons | apply List.Sublist.cons)), ?_⟩
          refine TA_done (by kernel_rfl) ?_
          refine T_region ?_
          -- op 39 binOp add 3 t20 ci64:1 3
          refine TL_drop (H' := Chunk.sl (.slice A33 xs.length c33) 1 xs.length (nums .u8 xs) :: Chunk.sl (.slice A36 (rs.length + 1) c36) 2 (rs.length + 1) (bCells 0 rs ++ [.int .u8 (((0 + i + 1) % 256 : Nat) : Int), .slice A33 xs.length c33]) :: Chunk.own g17 11 [.int .i64 ct, .int .i64 cw, .slice A36 (rs.length + 1) c36, .bool close, .bool crc, .int .i64 0, .int .i64 0, .int .i64 0, .int .i64 0, .bool false, .nilIface] :: (rs.reverse.map pCh ++ H)) (List.Sublist.cons _ (List.Sublist.cons_cons _ (List.Sublist.cons_cons _ (List.Sublist.cons _ (List.Sublist.refl _))))) ?_
          refine TL_perm ((List.Perm.swap _ _ _).trans (((List.Perm.swap _ _ _).cons _).trans (List.Perm.swap _ _ _))) ?_
          refine TL_cons rfl (TO_pure rfl (PV.cast (PV_bin rfl rfl bin_add) (wr64n (i + 1) (by omega) (by omega))) ?_)
          refine TL_pure (d := (some 20)) rfl rfl rfl (PV_move rfl) ?_
          refine TL_nil ?_
          -- ('loopend',)
          refine round_end (qs.length - (i + 1)) _ _ (by omega) (FrSub.cons rfl (FrSub.cons rfl (FrSub.cons rfl (FrSub.cons rfl (FrSub.nil _))))) (List.Sublist.refl _) ⟨i + 1, A36, c36, rs ++ [(A33, c33, xs)], rfl, by omega, by rw [List.length_append, hri]; rfl, by rw [List.length_append]; exact hc36, ?_, ?_, rfl, ?_⟩
          · rw [htk, List.map_append, List.map_append, hrs]
            rfl
          · intro p hp
            rcases List.mem_append.1 hp with hp | hp
            · exact hrl p hp
            · rw [List.mem_singleton.1 hp]; exact hc33
          · rw [bCells_app]
            simp [pCh, pVal, sndC, hri]
    · skip
      have hip : i = qs.length := by have := of_decide_eq_false hbi; omega
      subst hip
      refine T_exit ?_
      refine T_seq ?_
      refine T_region ?_
      refine TL_pure (d := (some 40)) rfl rfl rfl (PV_move rfl) ?_
      refine TL_pure (d := (some 41)) rfl rfl rfl (PV_move rfl) ?_
      refine TL_pure (d := (some 42)) rfl rfl rfl (PV_move rfl) ?_
      refine TL_pure (d := (some 43)) rfl rfl rfl (PV_nilCheck rfl) ?_
      refine TL_pure (d := (some 44)) rfl rfl rfl (PV_fieldAddr (D := 0) Try.underlying133 rfl sz79 (by decide) rfl rfl) ?_
      refine TL_pure (d := (some 45)) rfl rfl rfl (PV_fieldAddr (D := 1) Try.underlying79 rfl sz3 (by decide) rfl rfl) ?_
      refine TL_pure (d := (some 46)) rfl rfl rfl (PV_load Try.underlying3 rfl rfl (by first | exact Rd.at 0 rfl rfl | exact Rd.at 1 rfl rfl | exact Rd.at 2 rfl rfl | exact Rd.at 3 rfl rfl | exact Rd.at 4 rfl rfl | exact Rd.at 5 rfl rfl | exact Rd.at 6 rfl rfl | exact Rd.at 7 rfl rfl | exact Rd.at 8 rfl rfl)) ?_
      refine TL_pure (d := (some 47)) rfl rfl rfl (PV_nilCheck rfl) ?_
      refine TL_pure (d := (some 48)) rfl rfl rfl (PV_fieldAddr (D := 8) Try.underlying133 rfl sz3 (by decide) rfl rfl) ?_
      first | (refine TL_cons rfl (TO_store1 0 rfl rfl rfl sz3 rfl rfl rfl (by first | exact Nat.le_of_ble_eq_true rfl | (simp; done) | (simp; omega) | omega) ?_)) | (refine TL_cons rfl (TO_store1 1 rfl rfl rfl sz3 rfl rfl rfl (by first | exact Nat.le_of_ble_eq_true rfl | (simp; done) | (simp; omega) | omega) ?_)) | (refine TL_cons rfl (TO_store1 2 rfl rfl rfl sz3 rfl rfl rfl (by first | exact Nat.le_of_ble_eq_true rfl | (simp; done) | (simp; omega) | omega) ?_)) | (refine TL_cons rfl (TO_store1 3 rfl rfl rfl sz3 rfl rfl rfl (by first | exact Nat.le_of_ble_eq_true rfl | (simp; done) | (simp; omega) | omega) ?_)) | (refine TL_cons rfl (TO_store1 4 rfl rfl rfl sz3 rfl rfl rfl (by first | exact Nat.le_of_ble_eq_true rfl | (simp; done) | (simp; omega) | omega) ?_)) | (refine TL_cons rfl (TO_store1 5 rfl rfl rfl sz3 rfl rfl rfl (by first | exact Nat.le_of_ble_eq_true rfl | (simp; done) | (simp; omega) | omega) ?_)) | (refine TL_cons rfl (TO_store1 6 rfl rfl rfl sz3 rfl rfl rfl (by first | exact Nat.le_of_ble_eq_true rfl | (simp; done) | (simp; omega) | omega) ?_)) | (refine TL_cons rfl (TO_store1 7 rfl rfl rfl sz3 rfl rfl rfl (by first | exact Nat.le_of_ble_eq_true rfl | (simp; done) | (simp; omega) | omega) ?_)) | (refine TL_cons rfl (TO_store1 8 rfl rfl rfl sz3 rfl rfl rfl (by first | exact Nat.le_of_ble_eq_true rfl | (simp; done) | (simp; omega) | omega) ?_))
      refine TL_pure (d := (some 49)) rfl rfl rfl (PV_nilCheck rfl) ?_
      refine TL_pure (d := (some 50)) rfl rfl rfl (PV_fieldAddr (D := 7) Try.underlying133 rfl sz3 (by decide) rfl rfl) ?_
      first | (refine TL_cons rfl (TO_store1 0 rfl rfl rfl sz3 rfl rfl rfl (by first | exact Nat.le_of_ble_eq_true rfl | (simp; done) | (simp; omega) | omega) ?_)) | (refine TL_cons rfl (TO_store1 1 rfl rfl rfl sz3 rfl rfl rfl (by first | exact Nat.le_of_ble_eq_true rfl | (simp; done) | (simp; omega) | omega) ?_)) | (refine TL_cons rfl (TO_store1 2 rfl rfl rfl sz3 rfl rfl rfl (by first | exact Nat.le_of_ble_eq_true rfl | (simp; done) | (simp; omega) | omega) ?_)) | (refine TL_cons rfl (TO_store1 3 rfl rfl rfl sz3 rfl rfl rfl (by first | exact Nat.le_of_ble_eq_true rfl | (simp; done) | (simp; omega) | omega) ?_)) | (refine TL_cons rfl (TO_store1 4 rfl rfl rfl sz3 rfl rfl rfl (by first | exact Nat.le_of_ble_eq_true rfl | (simp; done) | (simp; omega) | omega) ?_)) | (refine TL_cons rfl (TO_store1 5 rfl rfl rfl sz3 rfl rfl rfl (by first | exact Nat.le_of_ble_eq_true rfl | (simp; done) | (simp; omega) | omega) ?_)) | (refine TL_cons rfl (TO_store1 6 rfl rfl rfl sz3 rfl rfl rfl (by first | exact Nat.le_of_ble_eq_true rfl | (simp; done) | (simp; omega) | omega) ?_)) | (refine TL_cons rfl (TO_store1 7 rfl rfl rfl sz3 rfl rfl rfl (by first | exact Nat.le_of_ble_eq_true rfl | (simp; done) | (simp; omega) | omega) ?_)) | (refine TL_cons rfl (TO_store1 8 rfl rfl rfl sz3 rfl rfl rfl (by first | exact Nat.le_of_ble_eq_true rfl | (simp; done) | (simp; omega) | omega) ?_))
      refine TL_nil ?_
      refine T_seq ?_
      refine T_region ?_
      refine TL_pure (d := (some 51)) rfl rfl rfl (PV_move rfl) ?_
      refine TL_pure (d := (some 8)) rfl rfl rfl (PV_assign rfl) ?_
      refine TL_nil ?_
      refine T_ret ?_
      -- ('ret',)
      rw [List.take_length] at hrs
      refine ⟨_, _, ?_, ResV_one rfl rfl, ⟨g17, Ao, co, rs, hrs, hrl, hrc, rfl, rfl⟩⟩
      repeat (first | exact List.Sublist.refl _ | apply List.Sublist.cons_cons | apply List.Sublist.cons)
    end
    end Go.Proofs.Ythdkmgeigdoglaa.SL
    