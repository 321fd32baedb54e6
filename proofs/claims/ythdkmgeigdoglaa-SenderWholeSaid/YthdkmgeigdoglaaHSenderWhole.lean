import Derived.Test.YthdkmgeigdoglaaSLSend3
/- SenderWhole, walked. -/
set_option linter.unusedVariables false
namespace Go.Proofs.Ythdkmgeigdoglaa.SL
open Go Go.RowKit Go.Proofs.YthdkmgeigdoglaaW.PrintWords H Hand
theorem Snd.next_facts (s : Snd) (hc : s.close = true) (h2 : s.phase ≠ 2) : s.next.at_ = s.at_ ∧ s.next.qs = s.qs ∧ s.next.crc = s.crc ∧ s.next.close = true ∧ s.next.phase = (if s.at_ < s.qs.length then 1 else 2) := by
  unfold Snd.next
  by_cases h : s.at_ < s.qs.length
  · rw [if_pos h, if_pos h]; exact ⟨rfl, rfl, rfl, hc, rfl⟩
  · rw [if_neg h, if_neg h, if_pos ⟨hc, h2⟩]; exact ⟨rfl, rfl, rfl, hc, rfl⟩
theorem Snd.next_over (s : Snd) (h1 : ¬ s.at_ < s.qs.length) (h2 : s.phase = 2) : s.next.phase = 3 ∧ s.next.err = .nilIface ∧ s.next.at_ = s.at_ ∧ s.next.now = [] := by
  have e : s.next = { s with tries := 1, left := s.cw, phase := 3, err := .nilIface } := by
    unfold Snd.next
    rw [if_neg h1, if_neg (fun h => h.2 h2)]
  rw [e]
  exact ⟨rfl, rfl, rfl, rfl⟩
theorem now_same {A A' : Option Addr} {c c' : Nat} {rs rs' : List Part} (h : rs.map (·.2.2) = rs'.map (·.2.2)) (hl : rs.length = rs'.length) : (Snd.next ({ (⟨1, 1, A, c, rs, true, true, 0, 0, 1, 1, false, .nilIface⟩ : Snd).put1 67 with crc := (67 : Int) == 67 } : Snd)).now = (Snd.next ({ (⟨1, 1, A', c', rs', true, true, 0, 0, 1, 1, false, .nilIface⟩ : Snd).put1 67 with crc := (67 : Int) == 67 } : Snd)).now := by
  match rs, rs', hl with
  | [], [], _ => rfl
  | p :: ps, q :: qs, _ =>
    simp only [List.map_cons, List.cons.injEq] at h
    show blockL (leadOf p.2.2.length) (1 : Int) p.2.2 true = blockL (leadOf q.2.2.length) (1 : Int) q.2.2 true
    rw [h.1]
set_option maxRecDepth 100000 in
theorem SenderWhole_t {w : World} {A : Option Addr} {c : Nat} {l : List Int} {mn : Nat} {long crc : Bool} (hr : ReadsInt w .u8 A l.length l) (hc : l.length ≤ c) (hu : U8s l) (hmn : mn ≤ 255) :
    TCall Try.prog w w.heap.size 20 #[.slice A l.length c, .int .u8 (mn : Int), .bool long, .bool crc] (fun r _ => r = .bool true) [] := by
  have hS : ∀ H, Shows (WH w w.heap.size H) A l.length 1 (nums .u8 l) := fun H => shows_start hr
  have hl := hr.2.1
  obtain ⟨n, hn⟩ : ∃ n, mn % 5 = n := ⟨_, rfl⟩
  have hn5 : n < 5 := by omega
  refine TCall_intro (args := [_, _, _, _]) Try.func20 rfl Try.ntmps20 (Nat.le_of_ble_eq_true rfl) ?_
  refine T_seq ?_
  refine T_region ?_
  refine TL_pure (d := (some 8)) rfl rfl rfl (PV_assign rfl) ?_
  refine TL_nil ?_
  refine T_seq ?_
  refine T_seq ?_
  refine T_region ?_
  -- op 19 call F56()
  refine TL_cons rfl (TO_call0 call56 rfl rfl (t56) ?_)
  rintro v19 H19 ⟨rfl, rfl⟩
  refine TL_pure (d := (some 20)) rfl rfl rfl (PV_not rfl) ?_
  refine TL_nil ?_
  refine T_else rfl (by rfl) ?_
  refine T_skip ?_
  refine T_seq ?_
  refine T_region ?_
  refine TL_pure (d := (some 21)) rfl rfl rfl (PV_move rfl) ?_
  refine TL_pure (d := (some 22)) rfl rfl rfl (PV_move rfl) ?_
  refine TL_pure (d := (some 23)) rfl rfl rfl (PV_move rfl) ?_
  -- op 24 call F57(t21, t22, t23)
  refine TL_cons rfl (TO_call0 call57 rfl rfl (t57 mn long hS hl hc hu hmn) ?_)
  rintro v24 H24 ⟨A24, c24, qs, hqs, hql, rfl, hqc, rfl⟩
  rw [hn] at hqs
  have hqn : qs.length = n := by have := congrArg List.length hqs; simpa using this
  have hqx : ∀ p ∈ qs, U8s p.2.2 ∧ (p.2.2.length = 128 ∨ p.2.2.length = 1024) := fun p hp => by
    have h1 : p.2.2 ∈ qs.map (·.2.2) := List.mem_map_of_mem hp
    rw [hqs] at h1
    obtain ⟨k, hk, hk2⟩ := List.mem_map.1 h1
    rw [← hk2]
    exact ⟨blkL_u8 l long k (by have := List.mem_range.1 hk; omega), blkL_two l long k⟩
  have hcopy : ∀ rs : List Part, rs.map (·.2.2) = qs.map (·.2.2) → ∀ p ∈ rs, U8s p.2.2 ∧ (p.2.2.length = 128 ∨ p.2.2.length = 1024) := fun rs h p hp => by
    have h1 : p.2.2 ∈ rs.map (·.2.2) := List.mem_map_of_mem hp
    rw [h] at h1
    obtain ⟨q, hq, hq2⟩ := List.mem_map.1 h1
    rw [← hq2]
    exact hqx q hq
  have hlen : ∀ rs : List Part, rs.map (·.2.2) = qs.map (·.2.2) → rs.length = n := fun rs h => by have := congrArg List.length h; simp at this; omega
  obtain ⟨HQ, hHQ⟩ : ∃ HQ, (Chunk.sl (.slice A24 qs.length c24) 2 qs.length (bCells 0 qs) :: (qs.reverse.map pCh ++ [])) = HQ := ⟨_, rfl⟩
  have hrowQ : Shows (WH w w.heap.size HQ) A24 qs.length 2 (bCells 0 qs) := by rw [← hHQ]; exact Shows.at 0 rfl
  have hallQ : ShowsAll (WH w w.heap.size HQ) qs := by rw [← hHQ]; exact ShowsAll.mem hql fun p hp => List.mem_cons_of_mem _ (List.mem_append_left _ (List.mem_map_of_mem (f := pCh) (List.mem_reverse.2 hp)))
  rw [hHQ]
  have hallB : ∀ p ∈ qs, p.2.2.length = 128 ∨ p.2.2.length = 1024 := fun p hp => (hqx p hp).2
  clear hHQ
  refine TL_pure (d := (some 9)) rfl rfl rfl (PV_assign rfl) ?_
  refine TL_nil ?_
  refine T_seq ?_
  refine T_region ?_
  refine TL_pure (d := (some 25)) rfl rfl rfl (PV_build (ps := _) (cells := #[_, _]) Try.underlying79 pl79 zr79 rfl rfl) ?_
  refine TL_pure (d := (some 26)) rfl rfl rfl (PV_move rfl) ?_
  refine TL_pure (d := (some 27)) rfl rfl rfl (PV_move rfl) ?_
  -- op 28 call F58(t25, t26, t27, ctrue)
  refine TL_cons rfl (TO_call0 call58 rfl rfl (t58 2 3 crc true hrowQ hallQ (by omega) hqc hallB) ?_)
  rintro v28 H28 ⟨g28, A28, c28, rs, hrs, hrl, hrc, rfl, rfl⟩
  have hrn := hlen rs hrs
  refine TL_pure (d := (some 10)) rfl rfl rfl (PV_assign rfl) ?_
  refine TL_nil ?_
  refine T_seq ?_
  refine T_region ?_
  refine TL_pure (d := (some 29)) rfl rfl rfl (PV_move rfl) ?_
  -- op 30 call F59(t29, cu8:21)
  refine TL_cons rfl (TO_call0 call59 rfl rfl (t59start ⟨2, 3, A28, c28, rs, true, crc, 0, 0, 1, 3, false, .nilIface⟩ 21 (Snd.fit_mk (by omega) (by decide) (by decide) (by decide) (Nat.zero_le _) (by decide) (Or.inr (by decide)) (fun e => by cases e)) ⟨Shows.at (c := c28) 0 rfl, ShowsAll.mem hrl (fun p hp => List.mem_cons_of_mem _ (List.mem_append_left _ (List.mem_map_of_mem (f := pCh) (List.mem_reverse.2 hp)))), hrc, hcopy rs hrs⟩ rfl (Or.inl rfl)) ?_)
  rintro v30 H30 ⟨A30, k30, rfl, hk30, rfl⟩
  cases crc with
  | false =>
    refine TL_pure (d := (some 11)) rfl rfl rfl (PV_assign rfl) ?_
    refine TL_nil ?_
    refine T_seq ?_
    refine T_seq ?_
    refine T_region ?_
    refine TL_pure (d := (some 31)) rfl rfl rfl (PV_move rfl) ?_
    refine TL_nil ?_
    -- IF t31
    refine T_else rfl (by rfl) ?_
    refine T_skip ?_
    refine T_seq ?_
    refine T_seq ?_
    refine T_region ?_
    refine TL_pure (d := (some 45)) rfl rfl rfl (PV_move rfl) ?_
    refine TL_pure (d := (some 46)) rfl rfl rfl (PV_len_slice Try.underlying69 rfl) ?_
    refine TL_pure (d := (some 47)) rfl rfl rfl (PV_move rfl) ?_
    refine TL_nil ?_
    refine T_block ?_
    -- ('loop', ('Code.loop', ('Code.seq', ('Code.region', 12, ('L', ('Oper.mk', ('some', 48), ('Op.binOp', 'BinOp.lss', 3, ('Operand.tmp', 47), ('Operand.tmp', 46), 3), 0, '"law.go:252"', ('L',), 'none')), 
    obtain ⟨s0, hs0⟩ : ∃ s0, Snd.next ({ (⟨2, 3, A28, c28, rs, true, false, 0, 0, 1, 3, false, .nilIface⟩ : Snd).put1 21 with crc := (21 : Int) == 67 } : Snd) = s0 := ⟨_, rfl⟩
    obtain ⟨X, hX⟩ : ∃ X, (Chunk.sl (.slice A28 rs.length c28) 2 rs.length (bCells 0 rs) :: (rs.reverse.map pCh ++ HQ)) = X := ⟨_, rfl⟩
    have hrowX : Shows (WH w w.heap.size X) A24 qs.length 2 (bCells 0 qs) := hrowQ.mono fun w h => h.sub (by rw [← hX]; repeat (first | exact List.Sublist.refl _ | exact List.sublist_append_right _ _ | apply List.Sublist.cons))
    have hallX : ShowsAll (WH w w.heap.size X) qs := hallQ.mono fun w h => h.sub (by rw [← hX]; repeat (first | exact List.Sublist.refl _ | exact List.sublist_append_right _ _ | apply List.Sublist.cons))
    have hB0 : s0.Blk (WH w w.heap.size X) := by
      rw [← hs0]
      refine Snd.Blk.next ⟨?_, ?_, hrc, hcopy rs hrs⟩
      · rw [← hX]; exact Shows.mem (c := c28) (by first | exact List.mem_cons_self | simp)
      · rw [← hX]; exact ShowsAll.mem hrl (fun p hp => by first | exact List.mem_cons_of_mem _ (List.mem_append_left _ (List.mem_map_of_mem (f := pCh) (List.mem_reverse.2 hp))) | simp [hp])
    have hF0 : s0.Fit := by
      rw [← hs0]
      exact Snd.Fit0.next ⟨by show rs.length ≤ 65535; omega, by show (1 : Int) ≤ 2 ∧ (2 : Int) ≤ 9; decide, by show (1 : Int) ≤ 3 ∧ (3 : Int) ≤ 99; decide, by show (0 : Int) ≤ 0 ∧ (0 : Int) ≤ 3; decide, Nat.zero_le _, by show (1 : Int) ≤ 1 ∧ (1 : Int) ≤ 9; decide, Or.inr (by show (1 : Int) ≤ 3 ∧ (3 : Int) ≤ 99; decide)⟩
    obtain ⟨f1, f2, f3, f4, f5⟩ : s0.at_ = 0 ∧ s0.qs = rs ∧ s0.crc = false ∧ s0.close = true ∧ s0.phase = (if 0 < n then 1 else 2) := by
      have := Snd.next_facts ({ (⟨2, 3, A28, c28, rs, true, false, 0, 0, 1, 3, false, .nilIface⟩ : Snd).put1 21 with crc := (21 : Int) == 67 } : Snd) rfl (by show (0 : Int) ≠ 2; decide)
      rw [hs0] at this
      refine ⟨this.1, this.2.1, this.2.2.1, this.2.2.2.1, ?_⟩
      rw [this.2.2.2.2]
      show (if 0 < rs.length then (1 : Int) else 2) = _
      rw [hlen rs hrs]
    have hlenRS := hrn
    have hcRS := hrs
    rw [hs0] at hk30
    have hkx := hk30
    rw [hs0, hX]
    refine T.perm (List.Perm.swap _ _ _) ?_
    refine T.weaken (fr' := [(3, .bool false), (9, .slice A24 qs.length c24), (10, .pointer (some ⟨g28, 0, none⟩)), (11, .slice A30 s0.now.length k30), (45, .slice A24 qs.length c24), (46, .int .i64 (qs.length : Int)), (47, .int .i64 0)]) (FrSub.cons rfl (FrSub.cons rfl (FrSub.cons rfl (FrSub.cons rfl (FrSub.cons rfl (FrSub.cons rfl (FrSub.cons rfl (FrSub.nil _)))))))) ?_
    refine T_loop (fun m f h => ∃ (i : Nat) (s : Snd) (Ax : Option Addr) (kx : Nat), m = qs.length - i ∧ i ≤ n ∧ s.Fit ∧ s.Blk (WH w w.heap.size X) ∧ s.at_ = i ∧ s.qs = s0.qs ∧ s.crc = false ∧ s.close = true ∧ s.phase = (if i < n then 1 else 2) ∧ s.now.length ≤ kx ∧ f = [(3, .bool false), (9, .slice A24 qs.length c24), (10, .pointer (some ⟨g28, 0, none⟩)), (11, .slice Ax s.now.length kx), (45, .slice A24 qs.length c24), (46, .int .i64 (qs.length : Int)), (47, .int .i64 ((i : Nat) : Int))] ∧ h = sndC g28 s :: .sl (.slice Ax s.now.length kx) 1 s.now.length (nums .u8 s.now) :: X) (qs.length) ?_ ?_
    · exact ⟨0, s0, _, _, rfl, Nat.zero_le _, hF0, hB0, f1, rfl, f3, f4, f5, hkx, rfl, rfl⟩
    · rintro m f h ⟨i, s, Ax, kx, rfl, hi, hF, hB, e1, e2, e3, e4, e5, hkx, rfl, rfl⟩
      refine T_seq ?_
      refine T_region ?_
      refine TL_pure (d := (some 48)) rfl rfl rfl (PV_bin rfl rfl bin_lss) ?_
      refine TL_nil ?_
      refine T_seq ?_
      -- IF t48
      refine T_cond rfl (fun hbi => ?_) (fun hbi => ?_)
      · skip
        have hin : i < n := by have := of_decide_eq_true hbi; omega
        rw [if_pos hin] at e5
        have hupX : ∀ w', WH w w.heap.size (sndC g28 s :: .sl (.slice Ax s.now.length kx) 1 s.now.length (nums .u8 s.now) :: X) w' → WH w w.heap.size X w' := fun w' h => h.tl.tl
        refine T_shows (hrowX.mono hupX) (by rw [bCells_len]; omega) fun gr off hA hrd => ?_
        subst hA
        obtain ⟨q, hq⟩ : ∃ q, qs[i]? = some q := ⟨qs[i], List.getElem?_eq_getElem (by omega)⟩
        have hqm := List.mem_of_getElem? hq
        obtain ⟨p, hp⟩ : ∃ p, s.qs[s.at_]? = some p := ⟨s.qs[s.at_]'(by rw [e1, e2, f2, hlenRS]; omega), List.getElem?_eq_getElem _⟩
        have hxx : p.2.2 = q.2.2 := by
          have := congrArg (fun x : List (List Int) => x[i]?) hcRS
          rw [e1, e2, f2] at hp
          simpa [List.getElem?_map, hp, hq] using this
        have hnow : s.now = blockL (leadOf q.2.2.length) (((0 + i + 1) % 256 : Nat) : Int) q.2.2 false := by
          unfold Snd.now Snd.bytes
          rw [if_pos e5, hp]
          simp only [hxx, e1, e3]
        have hbc := bCells_get 0 qs i q hq
        have hqS := ((hallX q hqm).1).mono hupX
        have hqC := (hallX q hqm).2
        have hqU := hqx q hqm
        obtain ⟨Aq, cq, xs⟩ := q
        have hg0 := hrd _ _ hbc.1
        have hg1 := hrd _ _ hbc.2
        have hds : RdsK (WH w w.heap.size (sndC g28 s :: .sl (.slice Ax s.now.length kx) 1 s.now.length (nums .u8 s.now) :: X)) gr (off + i * 2) 2 [.int .u8 (((0 + i + 1) % 256 : Nat) : Int), .slice Aq xs.length cq] := by
          refine ⟨rfl, fun j v hj => ?_⟩
          rw [add_plain']
          match j, hj with
          | 0, hj => cases hj; exact hg0
          | 1, hj => cases hj; exact hg1
        refine T_skip ?_
        refine T_seq ?_
        refine T_block ?_
        refine T_seq ?_
        refine T_region ?_
        refine TL_pure (d := (some 49)) rfl rfl rfl (PV_move rfl) ?_
        refine TL_pure (d := (some 50)) rfl rfl rfl (PV_indexAddr Try.underlying69 sz58 rfl rfl rfl (by first | omega | decide | assumption)) ?_
        refine TL_pure (d := (some 51)) rfl rfl rfl (PV_loadAt Try.underlying58 rfl sz58 rfl hds) ?_
        refine TL_cons rfl (TO_alloc rfl zr58 fun g13 => ?_)
        refine TL_pure (d := (some 12)) rfl rfl rfl (PV_assign rfl) ?_
        first | (refine TL_cons rfl (TO_store 0 rfl rfl rfl sz58 rfl rfl rfl (by simp [Value.cells, Value.oneCell']) (by first | exact Nat.le_of_ble_eq_true rfl | (simp; done) | (simp; omega) | omega) ?_)) | (refine TL_cons rfl (TO_store 1 rfl rfl rfl sz58 rfl rfl rfl (by simp [Value.cells, Value.oneCell']) (by first | exact Nat.le_of_ble_eq_true rfl | (simp; done) | (simp; omega) | omega) ?_)) | (refine TL_cons rfl (TO_store 2 rfl rfl rfl sz58 rfl rfl rfl (by simp [Value.cells, Value.oneCell']) (by first | exact Nat.le_of_ble_eq_true rfl | (simp; done) | (simp; omega) | omega) ?_)) | (refine TL_cons rfl (TO_store 3 rfl rfl rfl sz58 rfl rfl rfl (by simp [Value.cells, Value.oneCell']) (by first | exact Nat.le_of_ble_eq_true rfl | (simp; done) | (simp; omega) | omega) ?_)) | (refine TL_cons rfl (TO_store 4 rfl rfl rfl sz58 rfl rfl rfl (by simp [Value.cells, Value.oneCell']) (by first | exact Nat.le_of_ble_eq_true rfl | (simp; done) | (simp; omega) | omega) ?_)) | (refine TL_cons rfl (TO_store 5 rfl rfl rfl sz58 rfl rfl rfl (by simp [Value.cells, Value.oneCell']) (by first | exact Nat.le_of_ble_eq_true rfl | (simp; done) | (simp; omega) | omega) ?_)) | (refine TL_cons rfl (TO_store 6 rfl rfl rfl sz58 rfl rfl rfl (by simp [Value.cells, Value.oneCell']) (by first | exact Nat.le_of_ble_eq_true rfl | (simp; done) | (simp; omega) | omega) ?_)) | (refine TL_cons rfl (TO_store 7 rfl rfl rfl sz58 rfl rfl rfl (by simp [Value.cells, Value.oneCell']) (by first | exact Nat.le_of_ble_eq_true rfl | (simp; done) | (simp; omega) | omega) ?_)) | (refine TL_cons rfl (TO_store 8 rfl rfl rfl sz58 rfl rfl rfl (by simp [Value.cells, Value.oneCell']) (by first | exact Nat.le_of_ble_eq_true rfl | (simp; done) | (simp; omega) | omega) ?_))
        refine TL_nil ?_
        refine T_seq ?_
        refine T_region ?_
        refine TL_pure (d := (some 53)) rfl rfl rfl (PV_loadAt Try.underlying58 rfl sz58 rfl (by first | exact Rds.take 0 rfl rfl rfl | exact Rds.take 1 rfl rfl rfl | exact Rds.take 2 rfl rfl rfl | exact Rds.take 3 rfl rfl rfl | exact Rds.take 4 rfl rfl rfl | exact Rds.take 5 rfl rfl rfl | exact Rds.take 6 rfl rfl rfl | exact Rds.take 7 rfl rfl rfl | exact Rds.take 8 rfl rfl rfl)) ?_
        refine TL_pure (d := (some 54)) rfl rfl rfl (PV_move rfl) ?_
        -- op 55 call F49(t53, t54)
        refine TL_cons rfl (TO_call0 call49 rfl rfl (t49 false (hqS.mono fun w h => h.tl) hqU.2 hqC hqU.1 (by omega)) ?_)
        rintro v55 H55 ⟨A55, k55, rfl, hk55, rfl⟩
        refine TL_pure (d := (some 52)) rfl rfl rfl (PV_move rfl) ?_
        refine TL_pure (d := (some 56)) rfl rfl rfl (PV_extract rfl rfl) ?_
        refine TL_pure (d := (some 57)) rfl rfl rfl (PV_extract rfl rfl) ?_
        refine TL_pure (d := (some 14)) rfl rfl rfl (PV_assign rfl) ?_
        refine TL_pure (d := (some 15)) rfl rfl rfl (PV_assign rfl) ?_
        refine TL_nil ?_
        refine T_seq ?_
        refine T_seq ?_
        refine T_region ?_
        refine TL_pure (d := (some 58)) rfl rfl rfl (PV_move rfl) ?_
        refine TL_pure (d := (some 59)) rfl rfl rfl (PV_not rfl) ?_
        refine TL_pure (d := (some 60)) rfl rfl rfl (PV_move rfl) ?_
        -- guard 61 move t11
        refine TL_yes rfl rfl rfl (TO_pure rfl (PV_move rfl) ?_)
        refine TL_yes rfl rfl rfl (TO_pure rfl (PV_b2s Try.underlying23 Try.underlying5 Try.underlying9 rfl (by first | assumption | exact Shows.at 0 rfl | exact Shows.at 1 rfl | exact Shows.at 2 rfl | exact Shows.at 3 rfl | exact Shows.at 4 rfl | exact Shows.at 5 rfl | exact Shows.at 6 rfl | exact Shows.at 7 rfl | exact Shows.at 8 rfl)) ?_)
        refine TL_yes rfl rfl rfl (TO_pure rfl (PV_move rfl) ?_)
        refine TL_yes rfl rfl rfl (TO_pure rfl (PV_b2s Try.underlying23 Try.underlying5 Try.underlying9 rfl (by first | assumption | exact Shows.at 0 rfl | exact Shows.at 1 rfl | exact Shows.at 2 rfl | exact Shows.at 3 rfl | exact Shows.at 4 rfl | exact Shows.at 5 rfl | exact Shows.at 6 rfl | exact Shows.at 7 rfl | exact Shows.at 8 rfl)) ?_)
        refine TL_yes rfl rfl rfl (TO_pure rfl (PV.cast (PV_bin rfl rfl bin_str_neq) (congrArg Value.bool (show _ = false by exact congrArg Bool.not (decide_eq_true (congrArg strOfNums hnow))))) ?_)
        first | (refine TL_pure (d := (some 66)) rfl rfl rfl (PV_pickOr rfl rfl rfl) ?_) | (refine TL_pure (d := (some 66)) rfl rfl rfl (PV_pickT rfl (by first | assumption | rfl | (simp; done) | (simp; omega)) rfl rfl) ?_)
        refine TL_pure (d := (some 67)) rfl rfl rfl (PV_move rfl) ?_
        refine TL_yes rfl rfl rfl (TO_pure rfl (PV_move rfl) ?_)
        -- guard 69 call F60(t68)
        refine TL_perm (perm_pick (i := 2) rfl) ?_
        refine TL_yes rfl rfl rfl (TO_call0 call60 rfl rfl (t60 s) ?_)
        rintro v69 H69 ⟨rfl, rfl⟩
        -- guard 70 move t12
        refine TL_yes rfl rfl rfl (TO_pure rfl (PV_move rfl) ?_)
        refine TL_yes rfl rfl rfl (TO_pure rfl (PV.cast (PV_bin rfl rfl bin_neq) (congrArg Value.bool (show _ = false by rw [e1]; simp))) ?_)
        first | (refine TL_pure (d := (some 72)) rfl rfl rfl (PV_pickOr rfl rfl rfl) ?_) | (refine TL_pure (d := (some 72)) rfl rfl rfl (PV_pickT rfl (by first | assumption | rfl | (simp; done) | (simp; omega)) rfl rfl) ?_)
        refine TL_nil ?_
        -- IF t72
        refine T_else rfl (by rfl) ?_
        refine T_skip ?_
        refine T_region ?_
        refine TL_pure (d := (some 73)) rfl rfl rfl (PV_move rfl) ?_
        -- op 74 call F59(t73, cu8:6)
        refine TL_cons rfl (TO_call0 call59 rfl rfl (t59ack1 s hF (hB.mono fun w h => h.tl.tl.tl) e5) ?_)
        rintro v74 H74 ⟨A74, k74, rfl, hk74, rfl⟩
        refine TL_pure (d := (some 11)) rfl rfl rfl (PV_assign rfl) ?_
        refine TL_nil ?_
        refine T_region ?_
        -- op 75 binOp add 3 t47 ci64:1 3
        refine TL_perm (List.Perm.swap _ _ _) ?_
        refine TL_cons rfl (TO_pure rfl (PV.cast (PV_bin rfl rfl bin_add) (wr64n (i + 1) (by omega) (by omega))) ?_)
        refine TL_pure (d := (some 47)) rfl rfl rfl (PV_move rfl) ?_
        refine TL_nil ?_
        -- ('loopend',)
        have hnf := Snd.next_facts { s.put1 6 with at_ := s.at_ + 1 } e4 (by show s.phase ≠ 2; omega)
        refine round_end (qs.length - (i + 1)) _ _ (by omega) (FrSub.cons rfl (FrSub.cons rfl (FrSub.cons rfl (FrSub.cons rfl (FrSub.cons rfl (FrSub.cons rfl (FrSub.cons rfl (FrSub.nil _)))))))) (List.Sublist.cons_cons _ (List.Sublist.cons_cons _ (List.Sublist.cons _ (List.Sublist.cons _ (List.Sublist.cons _ (List.Sublist.refl _)))))) ⟨i + 1, _, A74, k74, rfl, by omega, ?_, ?_, ?_, ?_, ?_, ?_, ?_, hk74, rfl, rfl⟩
        · exact Snd.Fit0.next ⟨hF.many, hF.ct1, hF.cw1, hF.ph, by show s.at_ + 1 ≤ s.qs.length; have := hF.dat e5; omega, hF.tr, hF.lf⟩
        · exact Snd.Blk.next ⟨hB.row, hB.all, hB.cap, hB.num⟩
        · rw [hnf.1]; show s.at_ + 1 = i + 1; omega
        · rw [hnf.2.1]; exact e2
        · rw [hnf.2.2.1]; exact e3
        · exact hnf.2.2.2.1
        · rw [hnf.2.2.2.2]
          show (if s.at_ + 1 < s.qs.length then (1 : Int) else 2) = _
          rw [e1, e2, f2, hlenRS]
      · skip
        have hin : i = n := by have := of_decide_eq_false hbi; omega
        rw [if_neg (by omega)] at e5
        have hnow : s.now = [4] := by
          unfold Snd.now
          rw [if_neg (by omega), if_pos e5]
        have hov := Snd.next_over (s.put1 6) (by show ¬ s.at_ < s.qs.length; rw [e1, e2, f2, hlenRS]; omega) e5
        refine T_exit ?_
        refine T_seq ?_
        refine T_seq ?_
        refine T_region ?_
        refine TL_pure (d := (some 76)) rfl rfl rfl (PV_move rfl) ?_
        refine TL_pure (d := (some 77)) rfl rfl rfl (PV_b2s Try.underlying23 Try.underlying5 Try.underlying9 rfl (by first | assumption | exact Shows.at 0 rfl | exact Shows.at 1 rfl | exact Shows.at 2 rfl | exact Shows.at 3 rfl | exact Shows.at 4 rfl | exact Shows.at 5 rfl | exact Shows.at 6 rfl | exact Shows.at 7 rfl | exact Shows.at 8 rfl)) ?_
        refine TL_pure (d := (some 78)) rfl rfl rfl (PV.cast (PV_bin rfl rfl bin_str_neq) (congrArg Value.bool (show _ = false by exact congrArg Bool.not (decide_eq_true (by rw [hnow]; rfl))))) ?_
        refine TL_nil ?_
        -- IF t78
        refine T_else rfl (by rfl) ?_
        refine T_skip ?_
        refine T_seq ?_
        refine T_region ?_
        refine TL_pure (d := (some 79)) rfl rfl rfl (PV_move rfl) ?_
        -- op 80 call F59(t79, cu8:6)
        refine TL_cons rfl (TO_call0 call59 rfl rfl (t59ack2 s hF (hB.mono fun w h => h.tl) e5) ?_)
        rintro v80 H80 ⟨A80, k80, rfl, hk80, rfl⟩
        refine TL_pure (d := (some 16)) rfl rfl rfl (PV_assign rfl) ?_
        refine TL_nil ?_
        refine T_seq ?_
        refine T_region ?_
        refine TL_pure (d := (some 82)) rfl rfl rfl (PV_move rfl) ?_
        -- op 83 call F61(t82)
        refine TL_perm (List.Perm.swap _ _ _) ?_
        refine TL_cons rfl (TO_call0 call61 rfl rfl (t61 (s.put1 6).next) ?_)
        rintro v83 H83 ⟨rfl, rfl⟩
        rw [hov.1, hov.2.1, hov.2.2.2]
        refine TL_pure (d := (some 81)) rfl rfl rfl (PV_move rfl) ?_
        refine TL_pure (d := (some 84)) rfl rfl rfl (PV_extract rfl rfl) ?_
        refine TL_pure (d := (some 85)) rfl rfl rfl (PV_extract rfl rfl) ?_
        refine TL_pure (d := (some 17)) rfl rfl rfl (PV_assign rfl) ?_
        refine TL_pure (d := (some 18)) rfl rfl rfl (PV_assign rfl) ?_
        refine TL_nil ?_
        refine T_seq ?_
        refine T_region ?_
        refine TL_pure (d := (some 86)) rfl rfl rfl (PV_move rfl) ?_
        refine TL_pure (d := (some 87)) rfl rfl rfl (PV_len_slice Try.underlying23 rfl) ?_
        refine TL_pure (d := (some 88)) rfl rfl rfl (PV_bin rfl rfl bin_eql) ?_
        refine TL_pure (d := (some 89)) rfl rfl rfl (PV_move rfl) ?_
        -- guard 90 move t17
        refine TL_yes rfl rfl rfl (TO_pure rfl (PV_move rfl) ?_)
        first | (refine TL_pure (d := (some 91)) rfl rfl rfl (PV_pickAnd rfl rfl rfl) ?_) | (refine TL_pure (d := (some 91)) rfl rfl rfl (PV_pickF rfl (by first | assumption | rfl | (simp; done) | (simp; omega)) rfl rfl) ?_)
        refine TL_pure (d := (some 92)) rfl rfl rfl (PV_move rfl) ?_
        refine TL_yes rfl rfl rfl (TO_pure rfl (PV_move rfl) ?_)
        first | (refine TL_yes rfl rfl rfl (TO_pure rfl (PV_bin rfl rfl (bin_nil_nil Try.underlying83)) ?_)) | (refine TL_yes rfl rfl rfl (TO_pure rfl (PV_bin rfl rfl (bin_if_nil Try.underlying83)) ?_)) | (refine TL_yes rfl rfl rfl (TO_pure rfl (PV_bin rfl rfl (bin_nil_if Try.underlying83)) ?_)) | (refine TL_yes rfl rfl rfl (TO_pure rfl (PV_bin rfl rfl (bin_if_if Try.underlying83 (by first | exact Try.underlying135 | exact Try.underlying83) (by kernel_rfl))) ?_))
        first | (refine TL_pure (d := (some 95)) rfl rfl rfl (PV_pickAnd rfl rfl rfl) ?_) | (refine TL_pure (d := (some 95)) rfl rfl rfl (PV_pickF rfl (by first | assumption | rfl | (simp; done) | (simp; omega)) rfl rfl) ?_)
        refine TL_pure (d := (some 96)) rfl rfl rfl (PV_move rfl) ?_
        refine TL_yes rfl rfl rfl (TO_pure rfl (PV_move rfl) ?_)
        refine TL_yes rfl rfl rfl (TO_call0 call60 rfl rfl (t60 (s.put1 6).next) ?_)
        rintro v98 H98 ⟨rfl, rfl⟩
        refine TL_yes rfl rfl rfl (TO_pure rfl (PV_move rfl) ?_)
        refine TL_yes rfl rfl rfl (TO_pure rfl (PV_len_slice Try.underlying69 rfl) ?_)
        refine TL_yes rfl rfl rfl (TO_pure rfl (PV.cast (PV_bin rfl rfl bin_eql) (congrArg Value.bool (show _ = true by rw [hov.2.2.1]; show (((s.at_ : Nat) : Int) == (qs.length : Int)) = true; rw [e1, hin, hqn]; exact beq_self_eq_true _))) ?_)
        first | (refine TL_pure (d := (some 102)) rfl rfl rfl (PV_pickAnd rfl rfl rfl) ?_) | (refine TL_pure (d := (some 102)) rfl rfl rfl (PV_pickF rfl (by first | assumption | rfl | (simp; done) | (simp; omega)) rfl rfl) ?_)
        refine TL_pure (d := (some 8)) rfl rfl rfl (PV_assign rfl) ?_
        refine TL_nil ?_
        refine T_ret ?_
        -- ('ret',)
        refine ⟨_, ?hh1, ?sb1, ResV_one rfl rfl, rfl⟩
        case sb1 => repeat (first | exact List.Sublist.refl _ | apply List.Sublist.cons_cons | apply List.Sublist.cons)
  | true =>
    refine TL_pure (d := (some 11)) rfl rfl rfl (PV_assign rfl) ?_
    refine TL_nil ?_
    refine T_seq ?_
    refine T_seq ?_
    refine T_region ?_
    refine TL_pure (d := (some 31)) rfl rfl rfl (PV_move rfl) ?_
    refine TL_nil ?_
    -- IF t31
    refine T_then rfl (by rfl) ?_
    refine T.drop (H' := HQ) (List.Sublist.cons _ (List.Sublist.cons _ (List.Sublist.cons _ (List.sublist_append_right _ _)))) ?_
    refine T_seq ?_
    refine T_region ?_
    refine TL_pure (d := (some 32)) rfl rfl rfl (PV_build (ps := _) (cells := #[_, _]) Try.underlying79 pl79 zr79 rfl rfl) ?_
    refine TL_pure (d := (some 33)) rfl rfl rfl (PV_move rfl) ?_
    -- op 34 call F58(t32, t33, ctrue, ctrue)
    refine TL_cons rfl (TO_call0 call58 rfl rfl (t58 0 0 true true hrowQ hallQ (by omega) hqc hallB) ?_)
    rintro v34 H34 ⟨g34, A34, c34, rs34, hrs34, hrl34, hrc34, rfl, rfl⟩
    have hrn34 := hlen rs34 hrs34
    -- op 35 call F59(t34, cu8:67)
    refine TL_cons rfl (TO_call0 call59 rfl rfl (t59start ⟨1, 1, A34, c34, rs34, true, true, 0, 0, 1, 1, false, .nilIface⟩ 67 (Snd.fit_mk (by omega) (by decide) (by decide) (by decide) (Nat.zero_le _) (by decide) (Or.inr (by decide)) (fun e => by cases e)) ⟨Shows.at (c := c34) 0 rfl, ShowsAll.mem hrl34 (fun p hp => List.mem_cons_of_mem _ (List.mem_append_left _ (List.mem_map_of_mem (f := pCh) (List.mem_reverse.2 hp)))), hrc34, hcopy rs34 hrs34⟩ rfl (Or.inr ⟨rfl, rfl⟩)) ?_)
    rintro v35 H35 ⟨A35, k35, rfl, hk35, rfl⟩
    obtain ⟨o35, ho35⟩ : ∃ o35, (Snd.next ({ (⟨1, 1, A34, c34, rs34, true, true, 0, 0, 1, 1, false, .nilIface⟩ : Snd).put1 67 with crc := (67 : Int) == 67 } : Snd)).now = o35 := ⟨_, rfl⟩
    rw [ho35] at hk35 ⊢
    refine TL_pure (d := (some 11)) rfl rfl rfl (PV_assign rfl) ?_
    refine TL_nil ?_
    refine T_seq ?_
    refine T_region ?_
    refine TL_pure (d := (some 36)) rfl rfl rfl (PV_build (ps := _) (cells := #[_, _]) Try.underlying79 pl79 zr79 rfl rfl) ?_
    refine TL_pure (d := (some 37)) rfl rfl rfl (PV_move rfl) ?_
    -- op 38 call F58(t36, t37, ctrue, ctrue)
    refine TL_drop (H' := Chunk.sl (.slice A35 o35.length k35) 1 o35.length (nums .u8 o35) :: HQ) (List.Sublist.cons_cons _ (List.Sublist.cons _ (List.Sublist.cons _ (List.sublist_append_right _ _)))) ?_
    refine TL_cons rfl (TO_call0 call58 rfl rfl (t58 0 0 true true (hrowQ.mono fun w h => h.tl) (hallQ.mono fun w h => h.tl) (by omega) hqc hallB) ?_)
    rintro v38 H38 ⟨g38, A38, c38, rs38, hrs38, hrl38, hrc38, rfl, rfl⟩
    have hrn38 := hlen rs38 hrs38
    obtain ⟨X38, hX38⟩ : ∃ X38, (Chunk.sl (.slice A38 rs38.length c38) 2 rs38.length (bCells 0 rs38) :: (rs38.reverse.map pCh ++ (Chunk.sl (.slice A35 o35.length k35) 1 o35.length (nums .u8 o35) :: HQ))) = X38 := ⟨_, rfl⟩
    have hO35 : Shows (WH w w.heap.size X38) A35 o35.length 1 (nums .u8 o35) := by
      rw [← hX38]
      exact Shows.mem (c := k35) (List.mem_cons_of_mem _ (List.mem_append_right _ List.mem_cons_self))
    have hBl : (⟨1, 1, A38, c38, rs38, true, true, 0, 0, 1, 1, false, .nilIface⟩ : Snd).Blk (WH w w.heap.size X38) := by
      rw [← hX38]
      exact ⟨Shows.at (c := c38) 0 rfl, ShowsAll.mem hrl38 (fun p hp => List.mem_cons_of_mem _ (List.mem_append_left _ (List.mem_map_of_mem (f := pCh) (List.mem_reverse.2 hp)))), hrc38, hcopy rs38 hrs38⟩
    have heq : (Snd.next ({ (⟨1, 1, A38, c38, rs38, true, true, 0, 0, 1, 1, false, .nilIface⟩ : Snd).put1 67 with crc := (67 : Int) == 67 } : Snd)).now = o35 := by
      rw [← ho35]
      exact now_same (by rw [hrs38, hrs34]) (by rw [hrn38, hrn34])
    rw [hX38]
    refine TL_pure (d := (some 10)) rfl rfl rfl (PV_assign rfl) ?_
    refine TL_nil ?_
    refine T_seq ?_
    refine T_drawn (WH w w.heap.size X38) mixed (by intro w h; first | exact h.tl | exact h.tl.tl) ?_
    refine TA_take (dd := (some 39)) 0 rfl (by kernel_rfl) (by kernel_rfl) (by kernel_rfl) rfl rfl rfl (PV_move rfl) ?_
    refine TA_take (dd := (some 42)) 3 rfl (by kernel_rfl) (by kernel_rfl) (by kernel_rfl) rfl rfl rfl (PV_move rfl) ?_
    first | (refine TA_take (dd := (some 43)) 4 rfl (by kernel_rfl) (by kernel_rfl) (by kernel_rfl) rfl rfl rfl (PV_b2s Try.underlying23 Try.underlying5 Try.underlying9 rfl (by first | assumption | exact Shows.at 0 rfl | exact Shows.at 1 rfl | exact Shows.at 2 rfl | exact Shows.at 3 rfl | exact Shows.at 4 rfl | exact Shows.at 5 rfl | exact Shows.at 6 rfl | exact Shows.at 7 rfl | exact Shows.at 8 rfl | exact Shows.mono hO35 (by intro w h; first | exact h | exact h.tl | exact h.tl.tl | exact h.tl.tl.tl | exact h.tl.tl.tl.tl | exact h.tl.tl.tl.tl.tl | exact h.tl.tl.tl.tl.tl.tl | exact h.tl.tl.tl.tl.tl.tl.tl | exact h.tl.tl.tl.tl.tl.tl.tl.tl))) ?_) | (refine TA_pure1 (dd := (some 43)) 4 (by kernel_rfl) rfl rfl rfl rfl (PV_b2s Try.underlying23 Try.underlying5 Try.underlying9 rfl (by first | assumption | exact Shows.at 0 rfl | exact Shows.at 1 rfl | exact Shows.at 2 rfl | exact Shows.at 3 rfl | exact Shows.at 4 rfl | exact Shows.at 5 rfl | exact Shows.at 6 rfl | exact Shows.at 7 rfl | exact Shows.at 8 rfl | exact Shows.mono hO35 (by intro w h; first | exact h | exact h.tl | exact h.tl.tl | exact h.tl.tl.tl | exact h.tl.tl.tl.tl | exact h.tl.tl.tl.tl.tl | exact h.tl.tl.tl.tl.tl.tl | exact h.tl.tl.tl.tl.tl.tl.tl | exact h.tl.tl.tl.tl.tl.tl.tl.tl))) ?_)
    -- dop 1 40 call F59(t39, cu8:67)
    refine TA_one 1 (by kernel_rfl) rfl rfl (TO_call0 call59 rfl rfl (t59start ⟨1, 1, A38, c38, rs38, true, true, 0, 0, 1, 1, false, .nilIface⟩ 67 (Snd.fit_mk (by omega) (by decide) (by decide) (by decide) (Nat.zero_le _) (by decide) (Or.inr (by decide)) (fun e => by cases e)) hBl rfl (Or.inr ⟨rfl, rfl⟩)) ?_)
    rintro v40 H40 ⟨A40, k40, rfl, hk40, rfl⟩
    refine ⟨by intro w h; first | exact h.tl | exact h.tl.tl, ?_⟩
    first | (refine TA_take (dd := (some 41)) 2 rfl (by kernel_rfl) (by kernel_rfl) (by kernel_rfl) rfl rfl rfl (PV_b2s Try.underlying23 Try.underlying5 Try.underlying9 rfl (by first | assumption | exact Shows.at 0 rfl | exact Shows.at 1 rfl | exact Shows.at 2 rfl | exact Shows.at 3 rfl | exact Shows.at 4 rfl | exact Shows.at 5 rfl | exact Shows.at 6 rfl | exact Shows.at 7 rfl | exact Shows.at 8 rfl | exact Shows.mono hO35 (by intro w h; first | exact h | exact h.tl | exact h.tl.tl | exact h.tl.tl.tl | exact h.tl.tl.tl.tl | exact h.tl.tl.tl.tl.tl | exact h.tl.tl.tl.tl.tl.tl | exact h.tl.tl.tl.tl.tl.tl.tl | exact h.tl.tl.tl.tl.tl.tl.tl.tl))) ?_) | (refine TA_pure1 (dd := (some 41)) 2 (by kernel_rfl) rfl rfl rfl rfl (PV_b2s Try.underlying23 Try.underlying5 Try.underlying9 rfl (by first | assumption | exact Shows.at 0 rfl | exact Shows.at 1 rfl | exact Shows.at 2 rfl | exact Shows.at 3 rfl | exact Shows.at 4 rfl | exact Shows.at 5 rfl | exact Shows.at 6 rfl | exact Shows.at 7 rfl | exact Shows.at 8 rfl | exact Shows.mono hO35 (by intro w h; first | exact h | exact h.tl | exact h.tl.tl | exact h.tl.tl.tl | exact h.tl.tl.tl.tl | exact h.tl.tl.tl.tl.tl | exact h.tl.tl.tl.tl.tl.tl | exact h.tl.tl.tl.tl.tl.tl.tl | exact h.tl.tl.tl.tl.tl.tl.tl.tl))) ?_)
    refine TA_take (dd := (some 44)) 5 rfl (by kernel_rfl) (by kernel_rfl) (by kernel_rfl) rfl rfl rfl (PV.cast (PV_bin rfl rfl bin_str_neq) (congrArg Value.bool (show _ = false by exact congrArg Bool.not (decide_eq_true (congrArg strOfNums heq))))) ?_
    refine TA_done (by kernel_rfl) ?_
    -- IF t44
    refine T_else rfl (by rfl) ?_
    refine T_skip ?_
    refine T_seq ?_
    refine T_seq ?_
    refine T_region ?_
    refine TL_pure (d := (some 45)) rfl rfl rfl (PV_move rfl) ?_
    refine TL_pure (d := (some 46)) rfl rfl rfl (PV_len_slice Try.underlying69 rfl) ?_
    refine TL_pure (d := (some 47)) rfl rfl rfl (PV_move rfl) ?_
    refine TL_nil ?_
    refine T_block ?_
    -- ('loop', ('Code.loop', ('Code.seq', ('Code.region', 12, ('L', ('Oper.mk', ('some', 48), ('Op.binOp', 'BinOp.lss', 3, ('Operand.tmp', 47), ('Operand.tmp', 46), 3), 0, '"law.go:252"', ('L',), 'none')), 
    obtain ⟨s0, hs0⟩ : ∃ s0, Snd.next ({ (⟨1, 1, A38, c38, rs38, true, true, 0, 0, 1, 1, false, .nilIface⟩ : Snd).put1 67 with crc := (67 : Int) == 67 } : Snd) = s0 := ⟨_, rfl⟩
    obtain ⟨X, hX⟩ : ∃ X, (Chunk.sl (.slice A38 rs38.length c38) 2 rs38.length (bCells 0 rs38) :: (rs38.reverse.map pCh ++ HQ)) = X := ⟨_, rfl⟩
    have hrowX : Shows (WH w w.heap.size X) A24 qs.length 2 (bCells 0 qs) := hrowQ.mono fun w h => h.sub (by rw [← hX]; repeat (first | exact List.Sublist.refl _ | exact List.sublist_append_right _ _ | apply List.Sublist.cons))
    have hallX : ShowsAll (WH w w.heap.size X) qs := hallQ.mono fun w h => h.sub (by rw [← hX]; repeat (first | exact List.Sublist.refl _ | exact List.sublist_append_right _ _ | apply List.Sublist.cons))
    have hB0 : s0.Blk (WH w w.heap.size X) := by
      rw [← hs0]
      refine Snd.Blk.next ⟨?_, ?_, hrc38, hcopy rs38 hrs38⟩
      · rw [← hX]; exact Shows.mem (c := c38) (by first | exact List.mem_cons_self | simp)
      · rw [← hX]; exact ShowsAll.mem hrl38 (fun p hp => by first | exact List.mem_cons_of_mem _ (List.mem_append_left _ (List.mem_map_of_mem (f := pCh) (List.mem_reverse.2 hp))) | simp [hp])
    have hF0 : s0.Fit := by
      rw [← hs0]
      exact Snd.Fit0.next ⟨by show rs38.length ≤ 65535; omega, by show (1 : Int) ≤ 1 ∧ (1 : Int) ≤ 9; decide, by show (1 : Int) ≤ 1 ∧ (1 : Int) ≤ 99; decide, by show (0 : Int) ≤ 0 ∧ (0 : Int) ≤ 3; decide, Nat.zero_le _, by show (1 : Int) ≤ 1 ∧ (1 : Int) ≤ 9; decide, Or.inr (by show (1 : Int) ≤ 1 ∧ (1 : Int) ≤ 99; decide)⟩
    obtain ⟨f1, f2, f3, f4, f5⟩ : s0.at_ = 0 ∧ s0.qs = rs38 ∧ s0.crc = true ∧ s0.close = true ∧ s0.phase = (if 0 < n then 1 else 2) := by
      have := Snd.next_facts ({ (⟨1, 1, A38, c38, rs38, true, true, 0, 0, 1, 1, false, .nilIface⟩ : Snd).put1 67 with crc := (67 : Int) == 67 } : Snd) rfl (by show (0 : Int) ≠ 2; decide)
      rw [hs0] at this
      refine ⟨this.1, this.2.1, this.2.2.1, this.2.2.2.1, ?_⟩
      rw [this.2.2.2.2]
      show (if 0 < rs38.length then (1 : Int) else 2) = _
      rw [hlen rs38 hrs38]
    have hlenRS := hrn38
    have hcRS := hrs38
    rw [hs0] at heq
    have hkx : s0.now.length ≤ k35 := by rw [heq]; exact hk35
    rw [hs0]
    refine T.drop (H' := sndC g38 s0 :: X38) (List.Sublist.cons _ (List.Sublist.refl _)) ?_
    rw [← hX38]
    refine T.perm ((List.perm_middle (l₁ := Chunk.sl (.slice A38 rs38.length c38) 2 rs38.length (bCells 0 rs38) :: rs38.reverse.map pCh)).cons _) ?_
    rw [List.cons_append, hX, ← heq]
    refine T.weaken (fr' := [(3, .bool true), (9, .slice A24 qs.length c24), (10, .pointer (some ⟨g38, 0, none⟩)), (11, .slice A35 s0.now.length k35), (45, .slice A24 qs.length c24), (46, .int .i64 (qs.length : Int)), (47, .int .i64 0)]) (FrSub.cons rfl (FrSub.cons rfl (FrSub.cons rfl (FrSub.cons rfl (FrSub.cons rfl (FrSub.cons rfl (FrSub.cons rfl (FrSub.nil _)))))))) ?_
    refine T_loop (fun m f h => ∃ (i : Nat) (s : Snd) (Ax : Option Addr) (kx : Nat), m = qs.length - i ∧ i ≤ n ∧ s.Fit ∧ s.Blk (WH w w.heap.size X) ∧ s.at_ = i ∧ s.qs = s0.qs ∧ s.crc = true ∧ s.close = true ∧ s.phase = (if i < n then 1 else 2) ∧ s.now.length ≤ kx ∧ f = [(3, .bool true), (9, .slice A24 qs.length c24), (10, .pointer (some ⟨g38, 0, none⟩)), (11, .slice Ax s.now.length kx), (45, .slice A24 qs.length c24), (46, .int .i64 (qs.length : Int)), (47, .int .i64 ((i : Nat) : Int))] ∧ h = sndC g38 s :: .sl (.slice Ax s.now.length kx) 1 s.now.length (nums .u8 s.now) :: X) (qs.length) ?_ ?_
    · exact ⟨0, s0, _, _, rfl, Nat.zero_le _, hF0, hB0, f1, rfl, f3, f4, f5, hkx, rfl, rfl⟩
    · rintro m f h ⟨i, s, Ax, kx, rfl, hi, hF, hB, e1, e2, e3, e4, e5, hkx, rfl, rfl⟩
      refine T_seq ?_
      refine T_region ?_
      refine TL_pure (d := (some 48)) rfl rfl rfl (PV_bin rfl rfl bin_lss) ?_
      refine TL_nil ?_
      refine T_seq ?_
      -- IF t48
      refine T_cond rfl (fun hbi => ?_) (fun hbi => ?_)
      · skip
        have hin : i < n := by have := of_decide_eq_true hbi; omega
        rw [if_pos hin] at e5
        have hupX : ∀ w', WH w w.heap.size (sndC g38 s :: .sl (.slice Ax s.now.length kx) 1 s.now.length (nums .u8 s.now) :: X) w' → WH w w.heap.size X w' := fun w' h => h.tl.tl
        refine T_shows (hrowX.mono hupX) (by rw [bCells_len]; omega) fun gr off hA hrd => ?_
        subst hA
        obtain ⟨q, hq⟩ : ∃ q, qs[i]? = some q := ⟨qs[i], List.getElem?_eq_getElem (by omega)⟩
        have hqm := List.mem_of_getElem? hq
        obtain ⟨p, hp⟩ : ∃ p, s.qs[s.at_]? = some p := ⟨s.qs[s.at_]'(by rw [e1, e2, f2, hlenRS]; omega), List.getElem?_eq_getElem _⟩
        have hxx : p.2.2 = q.2.2 := by
          have := congrArg (fun x : List (List Int) => x[i]?) hcRS
          rw [e1, e2, f2] at hp
          simpa [List.getElem?_map, hp, hq] using this
        have hnow : s.now = blockL (leadOf q.2.2.length) (((0 + i + 1) % 256 : Nat) : Int) q.2.2 true := by
          unfold Snd.now Snd.bytes
          rw [if_pos e5, hp]
          simp only [hxx, e1, e3]
        have hbc := bCells_get 0 qs i q hq
        have hqS := ((hallX q hqm).1).mono hupX
        have hqC := (hallX q hqm).2
        have hqU := hqx q hqm
        obtain ⟨Aq, cq, xs⟩ := q
        have hg0 := hrd _ _ hbc.1
        have hg1 := hrd _ _ hbc.2
        have hds : RdsK (WH w w.heap.size (sndC g38 s :: .sl (.slice Ax s.now.length kx) 1 s.now.length (nums .u8 s.now) :: X)) gr (off + i * 2) 2 [.int .u8 (((0 + i + 1) % 256 : Nat) : Int), .slice Aq xs.length cq] := by
          refine ⟨rfl, fun j v hj => ?_⟩
          rw [add_plain']
          match j, hj with
          | 0, hj => cases hj; exact hg0
          | 1, hj => cases hj; exact hg1
        refine T_skip ?_
        refine T_seq ?_
        refine T_block ?_
        refine T_seq ?_
        refine T_region ?_
        refine TL_pure (d := (some 49)) rfl rfl rfl (PV_move rfl) ?_
        refine TL_pure (d := (some 50)) rfl rfl rfl (PV_indexAddr Try.underlying69 sz58 rfl rfl rfl (by first | omega | decide | assumption)) ?_
        refine TL_pure (d := (some 51)) rfl rfl rfl (PV_loadAt Try.underlying58 rfl sz58 rfl hds) ?_
        refine TL_cons rfl (TO_alloc rfl zr58 fun g13 => ?_)
        refine TL_pure (d := (some 12)) rfl rfl rfl (PV_assign rfl) ?_
        first | (refine TL_cons rfl (TO_store 0 rfl rfl rfl sz58 rfl rfl rfl (by simp [Value.cells, Value.oneCell']) (by first | exact Nat.le_of_ble_eq_true rfl | (simp; done) | (simp; omega) | omega) ?_)) | (refine TL_cons rfl (TO_store 1 rfl rfl rfl sz58 rfl rfl rfl (by simp [Value.cells, Value.oneCell']) (by first | exact Nat.le_of_ble_eq_true rfl | (simp; done) | (simp; omega) | omega) ?_)) | (refine TL_cons rfl (TO_store 2 rfl rfl rfl sz58 rfl rfl rfl (by simp [Value.cells, Value.oneCell']) (by first | exact Nat.le_of_ble_eq_true rfl | (simp; done) | (simp; omega) | omega) ?_)) | (refine TL_cons rfl (TO_store 3 rfl rfl rfl sz58 rfl rfl rfl (by simp [Value.cells, Value.oneCell']) (by first | exact Nat.le_of_ble_eq_true rfl | (simp; done) | (simp; omega) | omega) ?_)) | (refine TL_cons rfl (TO_store 4 rfl rfl rfl sz58 rfl rfl rfl (by simp [Value.cells, Value.oneCell']) (by first | exact Nat.le_of_ble_eq_true rfl | (simp; done) | (simp; omega) | omega) ?_)) | (refine TL_cons rfl (TO_store 5 rfl rfl rfl sz58 rfl rfl rfl (by simp [Value.cells, Value.oneCell']) (by first | exact Nat.le_of_ble_eq_true rfl | (simp; done) | (simp; omega) | omega) ?_)) | (refine TL_cons rfl (TO_store 6 rfl rfl rfl sz58 rfl rfl rfl (by simp [Value.cells, Value.oneCell']) (by first | exact Nat.le_of_ble_eq_true rfl | (simp; done) | (simp; omega) | omega) ?_)) | (refine TL_cons rfl (TO_store 7 rfl rfl rfl sz58 rfl rfl rfl (by simp [Value.cells, Value.oneCell']) (by first | exact Nat.le_of_ble_eq_true rfl | (simp; done) | (simp; omega) | omega) ?_)) | (refine TL_cons rfl (TO_store 8 rfl rfl rfl sz58 rfl rfl rfl (by simp [Value.cells, Value.oneCell']) (by first | exact Nat.le_of_ble_eq_true rfl | (simp; done) | (simp; omega) | omega) ?_))
        refine TL_nil ?_
        refine T_seq ?_
        refine T_region ?_
        refine TL_pure (d := (some 53)) rfl rfl rfl (PV_loadAt Try.underlying58 rfl sz58 rfl (by first | exact Rds.take 0 rfl rfl rfl | exact Rds.take 1 rfl rfl rfl | exact Rds.take 2 rfl rfl rfl | exact Rds.take 3 rfl rfl rfl | exact Rds.take 4 rfl rfl rfl | exact Rds.take 5 rfl rfl rfl | exact Rds.take 6 rfl rfl rfl | exact Rds.take 7 rfl rfl rfl | exact Rds.take 8 rfl rfl rfl)) ?_
        refine TL_pure (d := (some 54)) rfl rfl rfl (PV_move rfl) ?_
        -- op 55 call F49(t53, t54)
        refine TL_cons rfl (TO_call0 call49 rfl rfl (t49 true (hqS.mono fun w h => h.tl) hqU.2 hqC hqU.1 (by omega)) ?_)
        rintro v55 H55 ⟨A55, k55, rfl, hk55, rfl⟩
        refine TL_pure (d := (some 52)) rfl rfl rfl (PV_move rfl) ?_
        refine TL_pure (d := (some 56)) rfl rfl rfl (PV_extract rfl rfl) ?_
        refine TL_pure (d := (some 57)) rfl rfl rfl (PV_extract rfl rfl) ?_
        refine TL_pure (d := (some 14)) rfl rfl rfl (PV_assign rfl) ?_
        refine TL_pure (d := (some 15)) rfl rfl rfl (PV_assign rfl) ?_
        refine TL_nil ?_
        refine T_seq ?_
        refine T_seq ?_
        refine T_region ?_
        refine TL_pure (d := (some 58)) rfl rfl rfl (PV_move rfl) ?_
        refine TL_pure (d := (some 59)) rfl rfl rfl (PV_not rfl) ?_
        refine TL_pure (d := (some 60)) rfl rfl rfl (PV_move rfl) ?_
        -- guard 61 move t11
        refine TL_yes rfl rfl rfl (TO_pure rfl (PV_move rfl) ?_)
        refine TL_yes rfl rfl rfl (TO_pure rfl (PV_b2s Try.underlying23 Try.underlying5 Try.underlying9 rfl (by first | assumption | exact Shows.at 0 rfl | exact Shows.at 1 rfl | exact Shows.at 2 rfl | exact Shows.at 3 rfl | exact Shows.at 4 rfl | exact Shows.at 5 rfl | exact Shows.at 6 rfl | exact Shows.at 7 rfl | exact Shows.at 8 rfl | exact Shows.mono hO35 (by intro w h; first | exact h | exact h.tl | exact h.tl.tl | exact h.tl.tl.tl | exact h.tl.tl.tl.tl | exact h.tl.tl.tl.tl.tl | exact h.tl.tl.tl.tl.tl.tl | exact h.tl.tl.tl.tl.tl.tl.tl | exact h.tl.tl.tl.tl.tl.tl.tl.tl))) ?_)
        refine TL_yes rfl rfl rfl (TO_pure rfl (PV_move rfl) ?_)
        refine TL_yes rfl rfl rfl (TO_pure rfl (PV_b2s Try.underlying23 Try.underlying5 Try.underlying9 rfl (by first | assumption | exact Shows.at 0 rfl | exact Shows.at 1 rfl | exact Shows.at 2 rfl | exact Shows.at 3 rfl | exact Shows.at 4 rfl | exact Shows.at 5 rfl | exact Shows.at 6 rfl | exact Shows.at 7 rfl | exact Shows.at 8 rfl | exact Shows.mono hO35 (by intro w h; first | exact h | exact h.tl | exact h.tl.tl | exact h.tl.tl.tl | exact h.tl.tl.tl.tl | exact h.tl.tl.tl.tl.tl | exact h.tl.tl.tl.tl.tl.tl | exact h.tl.tl.tl.tl.tl.tl.tl | exact h.tl.tl.tl.tl.tl.tl.tl.tl))) ?_)
        refine TL_yes rfl rfl rfl (TO_pure rfl (PV.cast (PV_bin rfl rfl bin_str_neq) (congrArg Value.bool (show _ = false by exact congrArg Bool.not (decide_eq_true (congrArg strOfNums hnow))))) ?_)
        first | (refine TL_pure (d := (some 66)) rfl rfl rfl (PV_pickOr rfl rfl rfl) ?_) | (refine TL_pure (d := (some 66)) rfl rfl rfl (PV_pickT rfl (by first | assumption | rfl | (simp; done) | (simp; omega)) rfl rfl) ?_)
        refine TL_pure (d := (some 67)) rfl rfl rfl (PV_move rfl) ?_
        refine TL_yes rfl rfl rfl (TO_pure rfl (PV_move rfl) ?_)
        -- guard 69 call F60(t68)
        refine TL_perm (perm_pick (i := 2) rfl) ?_
        refine TL_yes rfl rfl rfl (TO_call0 call60 rfl rfl (t60 s) ?_)
        rintro v69 H69 ⟨rfl, rfl⟩
        -- guard 70 move t12
        refine TL_yes rfl rfl rfl (TO_pure rfl (PV_move rfl) ?_)
        refine TL_yes rfl rfl rfl (TO_pure rfl (PV.cast (PV_bin rfl rfl bin_neq) (congrArg Value.bool (show _ = false by rw [e1]; simp))) ?_)
        first | (refine TL_pure (d := (some 72)) rfl rfl rfl (PV_pickOr rfl rfl rfl) ?_) | (refine TL_pure (d := (some 72)) rfl rfl rfl (PV_pickT rfl (by first | assumption | rfl | (simp; done) | (simp; omega)) rfl rfl) ?_)
        refine TL_nil ?_
        -- IF t72
        refine T_else rfl (by rfl) ?_
        refine T_skip ?_
        refine T_region ?_
        refine TL_pure (d := (some 73)) rfl rfl rfl (PV_move rfl) ?_
        -- op 74 call F59(t73, cu8:6)
        refine TL_cons rfl (TO_call0 call59 rfl rfl (t59ack1 s hF (hB.mono fun w h => h.tl.tl.tl) e5) ?_)
        rintro v74 H74 ⟨A74, k74, rfl, hk74, rfl⟩
        refine TL_pure (d := (some 11)) rfl rfl rfl (PV_assign rfl) ?_
        refine TL_nil ?_
        refine T_region ?_
        -- op 75 binOp add 3 t47 ci64:1 3
        refine TL_perm (List.Perm.swap _ _ _) ?_
        refine TL_cons rfl (TO_pure rfl (PV.cast (PV_bin rfl rfl bin_add) (wr64n (i + 1) (by omega) (by omega))) ?_)
        refine TL_pure (d := (some 47)) rfl rfl rfl (PV_move rfl) ?_
        refine TL_nil ?_
        -- ('loopend',)
        have hnf := Snd.next_facts { s.put1 6 with at_ := s.at_ + 1 } e4 (by show s.phase ≠ 2; omega)
        refine round_end (qs.length - (i + 1)) _ _ (by omega) (FrSub.cons rfl (FrSub.cons rfl (FrSub.cons rfl (FrSub.cons rfl (FrSub.cons rfl (FrSub.cons rfl (FrSub.cons rfl (FrSub.nil _)))))))) (List.Sublist.cons_cons _ (List.Sublist.cons_cons _ (List.Sublist.cons _ (List.Sublist.cons _ (List.Sublist.cons _ (List.Sublist.refl _)))))) ⟨i + 1, _, A74, k74, rfl, by omega, ?_, ?_, ?_, ?_, ?_, ?_, ?_, hk74, rfl, rfl⟩
        · exact Snd.Fit0.next ⟨hF.many, hF.ct1, hF.cw1, hF.ph, by show s.at_ + 1 ≤ s.qs.length; have := hF.dat e5; omega, hF.tr, hF.lf⟩
        · exact Snd.Blk.next ⟨hB.row, hB.all, hB.cap, hB.num⟩
        · rw [hnf.1]; show s.at_ + 1 = i + 1; omega
        · rw [hnf.2.1]; exact e2
        · rw [hnf.2.2.1]; exact e3
        · exact hnf.2.2.2.1
        · rw [hnf.2.2.2.2]
          show (if s.at_ + 1 < s.qs.length then (1 : Int) else 2) = _
          rw [e1, e2, f2, hlenRS]
      · skip
        have hin : i = n := by have := of_decide_eq_false hbi; omega
        rw [if_neg (by omega)] at e5
        have hnow : s.now = [4] := by
          unfold Snd.now
          rw [if_neg (by omega), if_pos e5]
        have hov := Snd.next_over (s.put1 6) (by show ¬ s.at_ < s.qs.length; rw [e1, e2, f2, hlenRS]; omega) e5
        refine T_exit ?_
        refine T_seq ?_
        refine T_seq ?_
        refine T_region ?_
        refine TL_pure (d := (some 76)) rfl rfl rfl (PV_move rfl) ?_
        refine TL_pure (d := (some 77)) rfl rfl rfl (PV_b2s Try.underlying23 Try.underlying5 Try.underlying9 rfl (by first | assumption | exact Shows.at 0 rfl | exact Shows.at 1 rfl | exact Shows.at 2 rfl | exact Shows.at 3 rfl | exact Shows.at 4 rfl | exact Shows.at 5 rfl | exact Shows.at 6 rfl | exact Shows.at 7 rfl | exact Shows.at 8 rfl | exact Shows.mono hO35 (by intro w h; first | exact h | exact h.tl | exact h.tl.tl | exact h.tl.tl.tl | exact h.tl.tl.tl.tl | exact h.tl.tl.tl.tl.tl | exact h.tl.tl.tl.tl.tl.tl | exact h.tl.tl.tl.tl.tl.tl.tl | exact h.tl.tl.tl.tl.tl.tl.tl.tl))) ?_
        refine TL_pure (d := (some 78)) rfl rfl rfl (PV.cast (PV_bin rfl rfl bin_str_neq) (congrArg Value.bool (show _ = false by exact congrArg Bool.not (decide_eq_true (by rw [hnow]; rfl))))) ?_
        refine TL_nil ?_
        -- IF t78
        refine T_else rfl (by rfl) ?_
        refine T_skip ?_
        refine T_seq ?_
        refine T_region ?_
        refine TL_pure (d := (some 79)) rfl rfl rfl (PV_move rfl) ?_
        -- op 80 call F59(t79, cu8:6)
        refine TL_cons rfl (TO_call0 call59 rfl rfl (t59ack2 s hF (hB.mono fun w h => h.tl) e5) ?_)
        rintro v80 H80 ⟨A80, k80, rfl, hk80, rfl⟩
        refine TL_pure (d := (some 16)) rfl rfl rfl (PV_assign rfl) ?_
        refine TL_nil ?_
        refine T_seq ?_
        refine T_region ?_
        refine TL_pure (d := (some 82)) rfl rfl rfl (PV_move rfl) ?_
        -- op 83 call F61(t82)
        refine TL_perm (List.Perm.swap _ _ _) ?_
        refine TL_cons rfl (TO_call0 call61 rfl rfl (t61 (s.put1 6).next) ?_)
        rintro v83 H83 ⟨rfl, rfl⟩
        rw [hov.1, hov.2.1, hov.2.2.2]
        refine TL_pure (d := (some 81)) rfl rfl rfl (PV_move rfl) ?_
        refine TL_pure (d := (some 84)) rfl rfl rfl (PV_extract rfl rfl) ?_
        refine TL_pure (d := (some 85)) rfl rfl rfl (PV_extract rfl rfl) ?_
        refine TL_pure (d := (some 17)) rfl rfl rfl (PV_assign rfl) ?_
        refine TL_pure (d := (some 18)) rfl rfl rfl (PV_assign rfl) ?_
        refine TL_nil ?_
        refine T_seq ?_
        refine T_region ?_
        refine TL_pure (d := (some 86)) rfl rfl rfl (PV_move rfl) ?_
        refine TL_pure (d := (some 87)) rfl rfl rfl (PV_len_slice Try.underlying23 rfl) ?_
        refine TL_pure (d := (some 88)) rfl rfl rfl (PV_bin rfl rfl bin_eql) ?_
        refine TL_pure (d := (some 89)) rfl rfl rfl (PV_move rfl) ?_
        -- guard 90 move t17
        refine TL_yes rfl rfl rfl (TO_pure rfl (PV_move rfl) ?_)
        first | (refine TL_pure (d := (some 91)) rfl rfl rfl (PV_pickAnd rfl rfl rfl) ?_) | (refine TL_pure (d := (some 91)) rfl rfl rfl (PV_pickF rfl (by first | assumption | rfl | (simp; done) | (simp; omega)) rfl rfl) ?_)
        refine TL_pure (d := (some 92)) rfl rfl rfl (PV_move rfl) ?_
        refine TL_yes rfl rfl rfl (TO_pure rfl (PV_move rfl) ?_)
        first | (refine TL_yes rfl rfl rfl (TO_pure rfl (PV_bin rfl rfl (bin_nil_nil Try.underlying83)) ?_)) | (refine TL_yes rfl rfl rfl (TO_pure rfl (PV_bin rfl rfl (bin_if_nil Try.underlying83)) ?_)) | (refine TL_yes rfl rfl rfl (TO_pure rfl (PV_bin rfl rfl (bin_nil_if Try.underlying83)) ?_)) | (refine TL_yes rfl rfl rfl (TO_pure rfl (PV_bin rfl rfl (bin_if_if Try.underlying83 (by first | exact Try.underlying135 | exact Try.underlying83) (by kernel_rfl))) ?_))
        first | (refine TL_pure (d := (some 95)) rfl rfl rfl (PV_pickAnd rfl rfl rfl) ?_) | (refine TL_pure (d := (some 95)) rfl rfl rfl (PV_pickF rfl (by first | assumption | rfl | (simp; done) | (simp; omega)) rfl rfl) ?_)
        refine TL_pure (d := (some 96)) rfl rfl rfl (PV_move rfl) ?_
        refine TL_yes rfl rfl rfl (TO_pure rfl (PV_move rfl) ?_)
        refine TL_yes rfl rfl rfl (TO_call0 call60 rfl rfl (t60 (s.put1 6).next) ?_)
        rintro v98 H98 ⟨rfl, rfl⟩
        refine TL_yes rfl rfl rfl (TO_pure rfl (PV_move rfl) ?_)
        refine TL_yes rfl rfl rfl (TO_pure rfl (PV_len_slice Try.underlying69 rfl) ?_)
        refine TL_yes rfl rfl rfl (TO_pure rfl (PV.cast (PV_bin rfl rfl bin_eql) (congrArg Value.bool (show _ = true by rw [hov.2.2.1]; show (((s.at_ : Nat) : Int) == (qs.length : Int)) = true; rw [e1, hin, hqn]; exact beq_self_eq_true _))) ?_)
        first | (refine TL_pure (d := (some 102)) rfl rfl rfl (PV_pickAnd rfl rfl rfl) ?_) | (refine TL_pure (d := (some 102)) rfl rfl rfl (PV_pickF rfl (by first | assumption | rfl | (simp; done) | (simp; omega)) rfl rfl) ?_)
        refine TL_pure (d := (some 8)) rfl rfl rfl (PV_assign rfl) ?_
        refine TL_nil ?_
        refine T_ret ?_
        -- ('ret',)
        refine ⟨_, ?hh2, ?sb2, ResV_one rfl rfl, rfl⟩
        case sb2 => repeat (first | exact List.Sublist.refl _ | apply List.Sublist.cons_cons | apply List.Sublist.cons)
end Go.Proofs.Ythdkmgeigdoglaa.SL
namespace Go.Proofs.Ythdkmgeigdoglaa.Hand
open Go Go.RowKit Go.Proofs.YthdkmgeigdoglaaW.PrintWords H
theorem u8_of_wf {n : Int} (h : (Lit.int .u8 n).wf = true) : 0 ≤ n ∧ n ≤ 255 := U8s.of_wf (l := [n]) (by simpa using h) n (by simp)
theorem SenderWhole_walk (a0 : Option Addr) (c0 : Nat) (l0 : List Int) (a1 : Int) (a2 a3 : Bool) (w : World)
    (hr0 : ReadsInt w .u8 a0 l0.length l0) (hc0 : l0.length ≤ c0) (y0 : l0.length * 1 ≤ 140737488351232) (hw0 : ∀ x ∈ l0, (Lit.int .u8 x).wf = true) (w1 : (Lit.int .u8 a1).wf = true) :
    Calls Try.prog 20 #[.slice a0 l0.length c0, .int .u8 a1, .bool a2, .bool a3] w fun e w' => e = .returned (.bool true) ∧ Below w.heap.size w w' := by
  have h1 := u8_of_wf w1
  obtain ⟨k, rfl⟩ := Int.eq_ofNat_of_zero_le h1.1
  exact SL.law_of (SL.SenderWhole_t hr0 hc0 (U8s.of_wf hw0) (by omega))
end Go.Proofs.Ythdkmgeigdoglaa.Hand
