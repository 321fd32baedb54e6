import Derived.Test.YthdkmgeigdoglaaSLSplit
/- Blocks: Number, and rows of rows compared. No statement is proved here. -/
set_option linter.unusedVariables false
namespace Go.Proofs.Ythdkmgeigdoglaa.SL
open Go Go.RowKit Go.Proofs.YthdkmgeigdoglaaW.PrintWords H Hand
section
variable {w0 : World} {B : Nat} {H : List Chunk}
/-- the cells of a row of blocks -/
def bCells : Nat → List Part → List Value
  | _, [] => []
  | k, p :: ps => .int .u8 (((k + 1) % 256 : Nat) : Int) :: pVal p :: bCells (k + 1) ps
theorem bCells_app : ∀ (k : Nat) (ps : List Part) (p : Part), bCells k (ps ++ [p]) = bCells k ps ++ [.int .u8 (((k + ps.length + 1) % 256 : Nat) : Int), pVal p]
  | k, [], p => rfl
  | k, q :: ps, p => by
    simp only [List.cons_append, bCells, bCells_app (k + 1) ps p, List.length_cons]
    rw [show k + 1 + ps.length + 1 = k + (ps.length + 1) + 1 by omega]
theorem bCells_len : ∀ (k : Nat) (ps : List Part), (bCells k ps).length = ps.length * 2
  | k, [] => rfl
  | k, q :: ps => by simp only [bCells, List.length_cons, bCells_len (k + 1) ps]; omega
theorem bCells_get : ∀ (k : Nat) (ps : List Part) (i : Nat) (p : Part), ps[i]? = some p → (bCells k ps)[i * 2]? = some (.int .u8 (((k + i + 1) % 256 : Nat) : Int)) ∧ (bCells k ps)[i * 2 + 1]? = some (pVal p)
  | k, [], i, p, h => by simp at h
  | k, q :: ps, 0, p, h => by
    simp only [List.getElem?_cons_zero, Option.some.injEq] at h
    subst h
    exact ⟨rfl, rfl⟩
  | k, q :: ps, i + 1, p, h => by
    rw [List.getElem?_cons_succ] at h
    have := bCells_get (k + 1) ps i p h
    rw [show k + 1 + i + 1 = k + (i + 1) + 1 by omega] at this
    rw [show (i + 1) * 2 = i * 2 + 1 + 1 by omega]
    exact this
theorem bCells_one : ∀ (k : Nat) (ps : List Part), ∀ u ∈ bCells k ps, u.oneCell' = true
  | k, [], u, h => by cases h
  | k, q :: ps, u, h => by
    rcases List.mem_cons.1 h with rfl | h
    · rfl
    · rcases List.mem_cons.1 h with rfl | h
      · rfl
      · exact bCells_one _ _ u h
theorem split_len' (large : Bool) : ∀ (n : Nat) (l : List Int), l.length ≤ n → ∀ p ∈ splitL large l, p.length = 128 ∨ p.length = 1024
  | n, l, h, p, hp => by
    by_cases h0 : l.length = 0
    · rw [splitL_nil large h0] at hp; cases hp
    match n with
    | 0 => omega
    | n + 1 =>
      have h2 := partN_two large l
      rw [splitL_step large h0] at hp
      rcases List.mem_cons.1 hp with rfl | hp
      · rw [partL_len]; omega
      · exact split_len' large n _ (by rw [List.length_drop]; omega) p hp
theorem tmod_nat' (a b : Nat) : Int.tmod (a : Int) (b : Int) = ((a % b : Nat) : Int) := rfl
theorem nums_set' (k : IntKind) (xs : List Int) (off i : Nat) (v : Int) (h : off = i) : (nums k xs).set off (.int k v) = nums k (xs.set i v) := by
  subst h; simp [nums, List.map_set]
theorem wrapu8 (i : Nat) : Value.int .u8 (IntKind.u8.wrap ((i : Nat) : Int)) = Value.int .u8 (((i % 256 : Nat)) : Int) := by rw [IntKind.wrap_u8]; congr 1
/-- rows that can be read -/
def ShowsAll (W : World → Prop) (ps : List Part) : Prop := ∀ p ∈ ps, Shows W p.1 p.2.2.length 1 (nums .u8 p.2.2) ∧ p.2.2.length ≤ p.2.1
theorem ShowsAll.mono {W W' : World → Prop} {ps : List Part} (h : ShowsAll W ps) (hw : ∀ w, W' w → W w) : ShowsAll W' ps := fun p hp => ⟨(h p hp).1.mono hw, (h p hp).2⟩
theorem ShowsAll.mem {ps : List Part} (hc : ∀ p ∈ ps, p.2.2.length ≤ p.2.1) (hm : ∀ p ∈ ps, pCh p ∈ H) : ShowsAll (WH w0 B H) ps := fun p hp => ⟨Shows.mem (c := p.2.1) (hm p hp), hc p hp⟩
set_option maxRecDepth 100000 in
theorem t53 {A : Option Addr} {m c : Nat} {ps : List Part} (hS : Shows (WH w0 B H) A m 1 (ps.map pVal)) (hP : ShowsAll (WH w0 B H) ps) (hm : ps.length = m) (hm2 : m ≤ 4398046511104) (hb : ∀ p ∈ ps, p.2.2.length ≤ 140737488355328) (hc : m ≤ c) :
    TCall Try.prog w0 B 53 #[.slice A m c] (fun r H' => ∃ (A : Option Addr) (c : Nat) (qs : List Part), qs.map (·.2.2) = ps.map (·.2.2) ∧ (∀ p ∈ qs, p.2.2.length ≤ p.2.1) ∧ r = .slice A qs.length c ∧ qs.length ≤ c ∧ H' = .sl (.slice A qs.length c) 2 qs.length (bCells 0 qs) :: (qs.reverse.map pCh ++ H)) H := by
  subst hm
  refine TCall_intro (args := [_]) Try.func53 rfl Try.ntmps53 (Nat.le_of_ble_eq_true rfl) ?_
  refine T_seq ?_
  refine T_region ?_
  refine TL_pure (d := (some 2)) rfl rfl rfl (PV_assign rfl) ?_
  refine TL_nil ?_
  refine T_seq ?_
  refine T_region ?_
  refine TL_pure (d := (some 3)) rfl rfl rfl (PV_assign rfl) ?_
  refine TL_nil ?_
  refine T_seq ?_
  refine T_seq ?_
  refine T_region ?_
  refine TL_pure (d := (some 6)) rfl rfl rfl (PV_move rfl) ?_
  refine TL_pure (d := (some 7)) rfl rfl rfl (PV_len_slice Try.underlying68 rfl) ?_
  refine TL_pure (d := (some 8)) rfl rfl rfl (PV_move rfl) ?_
  refine TL_nil ?_
  refine T_block ?_
  -- ('loop', ('Code.loop', ('Code.seq', ('Code.region', 3, ('L', ('Oper.mk', ('some', 9), ('Op.binOp', 'BinOp.lss', 3, ('Operand.tmp', 8), ('Operand.tmp', 7), 3), 0, '"block.go:108"', ('L',), 'none')), 'B
  refine T_addNil 2 ?_
  refine T.weaken (fr' := [(3, .slice none 0 0), (6, .slice A ps.length c), (7, .int .i64 (ps.length : Int)), (8, .int .i64 0)]) (FrSub.cons rfl (FrSub.cons rfl (FrSub.cons rfl (FrSub.cons rfl (FrSub.nil _))))) ?_
  refine T_loop (fun m f h => ∃ (i : Nat) (Ao : Option Addr) (co : Nat) (qs : List Part), m = ps.length - i ∧ i ≤ ps.length ∧ qs.length = i ∧ qs.length ≤ co ∧ qs.map (·.2.2) = (ps.take i).map (·.2.2) ∧ (∀ p ∈ qs, p.2.2.length ≤ p.2.1) ∧ f = [(3, .slice Ao qs.length co), (6, .slice A ps.length c), (7, .int .i64 (ps.length : Int)), (8, .int .i64 ((i : Nat) : Int))] ∧ h = .sl (.slice Ao qs.length co) 2 qs.length (bCells 0 qs) :: (qs.reverse.map pCh ++ H)) (ps.length) ?_ ?_
  · exact ⟨0, none, 0, [], rfl, Nat.zero_le _, rfl, Nat.le_refl _, rfl, by simp, rfl, rfl⟩
  · rintro m f h ⟨i, Ao, co, qs, rfl, hi, hqi, hqc, hqs, hql, rfl, rfl⟩
    have hup : ∀ w, WH w0 B (.sl (.slice Ao qs.length co) 2 qs.length (bCells 0 qs) :: (qs.reverse.map pCh ++ H)) w → WH w0 B H w := fun w h => h.sub ((List.sublist_append_right _ _).cons _)
    refine T_seq ?_
    refine T_region ?_
    refine TL_pure (d := (some 9)) rfl rfl rfl (PV_bin rfl rfl bin_lss) ?_
    refine TL_nil ?_
    refine T_seq ?_
    -- IF t9
    refine T_cond rfl (fun hbi => ?_) (fun hbi => ?_)
    · skip
      have hip : i < ps.length := by have := of_decide_eq_true hbi; omega
      refine T_shows (hS.mono hup) (by rw [List.length_map]; omega) fun g off hA hrd => ?_
      subst hA
      obtain ⟨p, hp⟩ : ∃ p, ps[i]? = some p := ⟨ps[i], List.getElem?_eq_getElem hip⟩
      have hpm : p ∈ ps := List.mem_of_getElem? hp
      have hpS := ((hP p hpm).1).mono hup
      have hpc := (hP p hpm).2
      have hpb := hb p hpm
      have htk : ps.take (i + 1) = ps.take i ++ [p] := by rw [List.take_add_one, hp]; rfl
      obtain ⟨Ap, cp, xs⟩ := p
      replace hpb : xs.length ≤ 140737488355328 := hpb
      have hget := hrd i (.slice Ap xs.length cp) (by rw [List.getElem?_map, hp]; rfl)
      rw [show off + i = off + i * 1 by omega] at hget
      refine T_skip ?_
      refine T_seq ?_
      refine T_block ?_
      refine T_seq ?_
      refine T_region ?_
      refine TL_pure (d := (some 10)) rfl rfl rfl (PV_move rfl) ?_
      refine TL_pure (d := (some 11)) rfl rfl rfl (PV_indexAddr Try.underlying68 sz23 rfl rfl rfl (by first | omega | decide | assumption)) ?_
      refine TL_pure (d := (some 12)) rfl rfl rfl (PV_load Try.underlying23 rfl rfl hget) ?_
      refine TL_pure (d := (some 4)) rfl rfl rfl (PV_assign rfl) ?_
      refine TL_pure (d := (some 5)) rfl rfl rfl (PV_assign rfl) ?_
      refine TL_nil ?_
      refine T_region ?_
      -- op 13 move t3
      refine TL_cons rfl (TO_pure rfl (PV_move rfl) ?_)
      refine TL_pure (d := (some 14)) rfl rfl rfl (PV_move rfl) ?_
      refine TL_pure (d := (some 15)) rfl rfl rfl (PV.cast (PV_bin rfl rfl bin_add) (wr64n (i + 1) (by omega) (by omega))) ?_
      refine TL_pure (d := (some 16)) rfl rfl rfl (PV.cast (PV_conv (by rw [Try.underlying3]; rfl) Try.underlying5 rfl) (wrapu8 (i + 1))) ?_
      refine TL_pure (d := (some 17)) rfl rfl rfl (PV_move rfl) ?_
      -- op 18 append(cnilslice, t17) [23, 23]
      refine TL_cons rfl (TO_appendNil Try.underlying23 zb5 rfl (by decide) rfl rfl rfl hpS nums_one (by omega) (by omega) fun A18 c18 hc18 => ?_)
      refine TL_pure (d := (some 19)) rfl rfl rfl (PV_build (ps := _) (cells := #[_, _]) Try.underlying58 pl58 zr58 rfl rfl) ?_
      -- op 20 buildSlice 69 1 [(0 t19)]
      refine TL_perm (List.Perm.swap _ _ _) ?_
      refine TL_cons rfl (TO_buildSlice (cells := #[.int .u8 (((i + 1) % 256 : Nat) : Int), .slice A18 xs.length c18]) Try.underlying69 zs58 (by decide) rfl rfl rfl (by kernel_rfl) rfl fun g20 => ?_)
      refine TL_cons rfl (TO_append 1 rfl Try.underlying69 zb58 rfl (by decide) rfl rfl rfl (Shows.at 0 rfl) (by simp [Value.oneCell']) (by omega) (by omega) fun A21 c21 hc21 => ?_)
      refine TL_pure (d := (some 3)) rfl rfl rfl (PV_assign rfl) ?_
      refine TL_nil ?_
      refine T_region ?_
      refine TL_pure (d := (some 22)) rfl rfl rfl (PV.cast (PV_bin rfl rfl bin_add) (wr64n (i + 1) (by omega) (by omega))) ?_
      refine TL_pure (d := (some 8)) rfl rfl rfl (PV_move rfl) ?_
      refine TL_nil ?_
      -- ('loopend',)
      refine round_end (ps.length - (i + 1)) _ _ (by omega) (FrSub.cons (v := .slice A21 (qs ++ [((A18, c18, xs) : Part)]).length c21) (by rw [List.length_append]; rfl) (FrSub.cons rfl (FrSub.cons rfl (FrSub.cons rfl (FrSub.nil _))))) (List.Sublist.cons _ (List.Sublist.refl _)) ⟨i + 1, A21, c21, qs ++ [(A18, c18, xs)], rfl, by omega, by rw [List.length_append, hqi]; rfl, by rw [List.length_append]; exact hc21, ?_, ?_, rfl, ?_⟩
      · rw [htk, List.map_append, List.map_append, hqs]
        rfl
      · intro p hp
        rcases List.mem_append.1 hp with hp | hp
        · exact hql p hp
        · rw [List.mem_singleton.1 hp]; exact hc18
      · rw [bCells_app]
        simp [pCh, pVal, hqi]
    · skip
      have hip : i = ps.length := by have := of_decide_eq_false hbi; omega
      subst hip
      refine T_exit ?_
      refine T_seq ?_
      refine T_region ?_
      refine TL_pure (d := (some 23)) rfl rfl rfl (PV_move rfl) ?_
      refine TL_pure (d := (some 2)) rfl rfl rfl (PV_assign rfl) ?_
      refine TL_nil ?_
      refine T_ret ?_
      -- ('ret',)
      rw [List.take_length] at hqs
      refine ⟨_, _, ?_, ResV_one rfl rfl, ⟨Ao, co, qs, hqs, hql, rfl, hqc, rfl⟩⟩
      repeat (first | exact List.Sublist.refl _ | apply List.Sublist.cons_cons | apply List.Sublist.cons)
set_option maxRecDepth 100000 in
theorem t55 {A A' : Option Addr} {m c m' c' : Nat} {ps qs : List Part} (hS : Shows (WH w0 B H) A m 1 (ps.map pVal)) (hP : ShowsAll (WH w0 B H) ps) (hS' : Shows (WH w0 B H) A' m' 1 (qs.map pVal)) (hP' : ShowsAll (WH w0 B H) qs) (hm : ps.length = m) (hm' : qs.length = m') (he : ps.map (·.2.2) = qs.map (·.2.2)) (hm2 : m ≤ 9223372036854775807) :
    TCall Try.prog w0 B 55 #[.slice A m c, .slice A' m' c'] (fun r H' => r = .bool true ∧ H' = H) H := by
  have hmm : m = m' := by rw [← hm, ← hm']; have := congrArg List.length he; simpa using this
  subst hmm
  subst hm
  refine TCall_intro (args := [_, _]) Try.func55 rfl Try.ntmps55 (Nat.le_of_ble_eq_true rfl) ?_
  refine T_seq ?_
  refine T_region ?_
  refine TL_pure (d := (some 4)) rfl rfl rfl (PV_assign rfl) ?_
  refine TL_nil ?_
  refine T_seq ?_
  refine T_seq ?_
  refine T_region ?_
  refine TL_pure (d := (some 6)) rfl rfl rfl (PV_move rfl) ?_
  refine TL_pure (d := (some 7)) rfl rfl rfl (PV_len_slice Try.underlying68 rfl) ?_
  refine TL_pure (d := (some 8)) rfl rfl rfl (PV_move rfl) ?_
  refine TL_pure (d := (some 9)) rfl rfl rfl (PV_len_slice Try.underlying68 rfl) ?_
  refine TL_pure (d := (some 10)) rfl rfl rfl (PV_bin rfl rfl bin_neq) ?_
  refine TL_nil ?_
  -- IF t10
  refine T_else rfl (by simp) ?_
  refine T_skip ?_
  refine T_seq ?_
  refine T_seq ?_
  refine T_region ?_
  refine TL_pure (d := (some 11)) rfl rfl rfl (PV_move rfl) ?_
  refine TL_pure (d := (some 12)) rfl rfl rfl (PV_len_slice Try.underlying68 rfl) ?_
  refine TL_pure (d := (some 13)) rfl rfl rfl (PV_move rfl) ?_
  refine TL_nil ?_
  refine T_block ?_
  -- ('loop', ('Code.loop', ('Code.seq', ('Code.region', 4, ('L', ('Oper.mk', ('some', 14), ('Op.binOp', 'BinOp.lss', 3, ('Operand.tmp', 13), ('Operand.tmp', 12), 3), 0, '"law.go:51"', ('L',), 'none')), 'B
  refine T.weaken (fr' := [(0, .slice A ps.length c), (1, .slice A' ps.length c'), (12, .int .i64 (ps.length : Int)), (13, .int .i64 0)]) (FrSub.cons rfl (FrSub.cons rfl (FrSub.cons rfl (FrSub.cons rfl (FrSub.nil _))))) ?_
  refine T_loop (fun m f h => ∃ i : Nat, m = ps.length - i ∧ i ≤ ps.length ∧ f = [(0, .slice A ps.length c), (1, .slice A' ps.length c'), (12, .int .i64 (ps.length : Int)), (13, .int .i64 ((i : Nat) : Int))] ∧ h = H) (ps.length) ?_ ?_
  · exact ⟨0, rfl, Nat.zero_le _, rfl, rfl⟩
  · rintro m f h ⟨i, rfl, hi, rfl, rfl⟩
    refine T_seq ?_
    refine T_region ?_
    refine TL_pure (d := (some 14)) rfl rfl rfl (PV_bin rfl rfl bin_lss) ?_
    refine TL_nil ?_
    refine T_seq ?_
    -- IF t14
    refine T_cond rfl (fun hbi => ?_) (fun hbi => ?_)
    · skip
      have hip : i < ps.length := by have := of_decide_eq_true hbi; omega
      refine T_shows hS (by rw [List.length_map]; omega) fun g off hA hrd => ?_
      subst hA
      refine T_shows hS' (by rw [List.length_map]; omega) fun g' off' hA' hrd' => ?_
      subst hA'
      obtain ⟨p, hp⟩ : ∃ p, ps[i]? = some p := ⟨ps[i], List.getElem?_eq_getElem hip⟩
      obtain ⟨q, hq⟩ : ∃ q, qs[i]? = some q := ⟨qs[i], List.getElem?_eq_getElem (by omega)⟩
      have hxx : p.2.2 = q.2.2 := by
        have := congrArg (fun x : List (List Int) => x[i]?) he
        simpa [List.getElem?_map, hp, hq] using this
      have hpS := (hP p (List.mem_of_getElem? hp)).1
      have hqS := (hP' q (List.mem_of_getElem? hq)).1
      obtain ⟨Ap, cp, xs⟩ := p
      obtain ⟨Aq, cq, ys⟩ := q
      replace hxx : xs = ys := hxx
      subst hxx
      have hget := hrd i (.slice Ap xs.length cp) (by rw [List.getElem?_map, hp]; rfl)
      rw [show off + i = off + i * 1 by omega] at hget
      have hget' := hrd' i (.slice Aq xs.length cq) (by rw [List.getElem?_map, hq]; rfl)
      rw [show off' + i = off' + i * 1 by omega] at hget'
      refine T_skip ?_
      refine T_seq ?_
      refine T_block ?_
      refine T_seq ?_
      refine T_region ?_
      refine TL_pure (d := (some 15)) rfl rfl rfl (PV_move rfl) ?_
      refine TL_pure (d := (some 5)) rfl rfl rfl (PV_assign rfl) ?_
      refine TL_nil ?_
      refine T_seq ?_
      refine T_drawn (WH _ _ _) mixed (by intro w h; exact h) ?_
      refine TA_take (dd := (some 16)) 0 rfl (by kernel_rfl) (by kernel_rfl) (by kernel_rfl) rfl rfl rfl (PV_move rfl) ?_
      refine TA_take (dd := (some 17)) 1 rfl (by kernel_rfl) (by kernel_rfl) (by kernel_rfl) rfl rfl rfl (PV_move rfl) ?_
      refine TA_take (dd := (some 18)) 2 rfl (by kernel_rfl) (by kernel_rfl) (by kernel_rfl) rfl rfl rfl (PV_indexAddr Try.underlying68 sz23 rfl rfl rfl (by first | omega | decide | assumption)) ?_
      first | (refine TA_take (dd := (some 19)) 3 rfl (by kernel_rfl) (by kernel_rfl) (by kernel_rfl) rfl rfl rfl (PV_load Try.underlying23 rfl rfl hget) ?_) | (refine TA_pure1 (dd := (some 19)) 3 (by kernel_rfl) rfl rfl rfl rfl (PV_load Try.underlying23 rfl rfl hget) ?_)
      first | (refine TA_take (dd := (some 20)) 4 rfl (by kernel_rfl) (by kernel_rfl) (by kernel_rfl) rfl rfl rfl (PV_b2s Try.underlying23 Try.underlying5 Try.underlying9 rfl hpS) ?_) | (refine TA_pure1 (dd := (some 20)) 4 (by kernel_rfl) rfl rfl rfl rfl (PV_b2s Try.underlying23 Try.underlying5 Try.underlying9 rfl hpS) ?_)
      refine TA_take (dd := (some 21)) 5 rfl (by kernel_rfl) (by kernel_rfl) (by kernel_rfl) rfl rfl rfl (PV_move rfl) ?_
      refine TA_take (dd := (some 22)) 6 rfl (by kernel_rfl) (by kernel_rfl) (by kernel_rfl) rfl rfl rfl (PV_move rfl) ?_
      refine TA_take (dd := (some 23)) 7 rfl (by kernel_rfl) (by kernel_rfl) (by kernel_rfl) rfl rfl rfl (PV_indexAddr Try.underlying68 sz23 rfl rfl rfl (by first | omega | decide | assumption)) ?_
      first | (refine TA_take (dd := (some 24)) 8 rfl (by kernel_rfl) (by kernel_rfl) (by kernel_rfl) rfl rfl rfl (PV_load Try.underlying23 rfl rfl hget') ?_) | (refine TA_pure1 (dd := (some 24)) 8 (by kernel_rfl) rfl rfl rfl rfl (PV_load Try.underlying23 rfl rfl hget') ?_)
      first | (refine TA_take (dd := (some 25)) 9 rfl (by kernel_rfl) (by kernel_rfl) (by kernel_rfl) rfl rfl rfl (PV_b2s Try.underlying23 Try.underlying5 Try.underlying9 rfl hqS) ?_) | (refine TA_pure1 (dd := (some 25)) 9 (by kernel_rfl) rfl rfl rfl rfl (PV_b2s Try.underlying23 Try.underlying5 Try.underlying9 rfl hqS) ?_)
      refine TA_take (dd := (some 26)) 10 rfl (by kernel_rfl) (by kernel_rfl) (by kernel_rfl) rfl rfl rfl (PV.cast (PV_bin rfl rfl bin_str_neq) (congrArg Value.bool (show _ = false by exact congrArg Bool.not (decide_eq_true rfl)))) ?_
      refine TA_done (by kernel_rfl) ?_
      -- IF t26
      refine T_else rfl (by rfl) ?_
      refine T_skip ?_
      refine T_region ?_
      refine TL_pure (d := (some 27)) rfl rfl rfl (PV.cast (PV_bin rfl rfl bin_add) (wr64n (i + 1) (by omega) (by omega))) ?_
      refine TL_pure (d := (some 13)) rfl rfl rfl (PV_move rfl) ?_
      refine TL_nil ?_
      -- ('loopend',)
      exact round_end (ps.length - (i + 1)) _ _ (by omega) (FrSub.cons rfl (FrSub.cons rfl (FrSub.cons rfl (FrSub.cons rfl (FrSub.nil _))))) (List.Sublist.refl _) ⟨i + 1, rfl, by omega, rfl, rfl⟩
    · skip
      refine T_exit ?_
      refine T_seq ?_
      refine T_region ?_
      refine TL_pure (d := (some 4)) rfl rfl rfl (PV_assign rfl) ?_
      refine TL_nil ?_
      refine T_ret ?_
      -- ('ret',)
      refine ⟨_, _, ?_, ResV_one rfl rfl, ⟨rfl, rfl⟩⟩
      repeat (first | exact List.Sublist.refl _ | apply List.Sublist.cons_cons | apply List.Sublist.cons)
end
end Go.Proofs.Ythdkmgeigdoglaa.SL
