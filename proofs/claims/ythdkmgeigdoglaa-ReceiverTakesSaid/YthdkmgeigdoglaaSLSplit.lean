import Derived.Test.YthdkmgeigdoglaaSLAwake04
/- Blocks: Split and Number. No statement is proved here. -/
set_option linter.unusedVariables false
namespace Go.Proofs.Ythdkmgeigdoglaa.SL
open Go Go.RowKit Go.Proofs.YthdkmgeigdoglaaW.PrintWords H Hand
section
variable {w0 : World} {B : Nat} {H : List Chunk} {P : Program} {n : Nat} {Q : Exit → Fr → List Chunk → Prop} {fr : Fr}
theorem TL_perm {ops : Array Oper} {rest : List Oper} {H' : List Chunk} (hp : H.Perm H') (h : TL P w0 B n ops rest Q fr H') : TL P w0 B n ops rest Q fr H :=
  fun HX a w hf hr => h HX a w hf (hr.perm (hp.append_right HX))
theorem round_end {I : Nat → Fr → List Chunk → Prop} {m : Nat} (m' : Nat) (f' : Fr) (h' : List Chunk) (hlt : m' < m) (hs : FrSub f' fr) (hh : h'.Sublist H) (hI : I m' f' h') : ∃ m' f' h', m' < m ∧ FrSub f' fr ∧ List.Sublist h' H ∧ I m' f' h' := ⟨m', f', h', hlt, hs, hh, hI⟩
theorem Shows.mem {A : Option Addr} {m c es : Nat} {cs : List Value} (hm : Chunk.sl (.slice A m c) es m cs ∈ H) : Shows (WH w0 B H) A m es cs := by
  obtain ⟨i, hi, e⟩ := List.getElem_of_mem hm
  exact Shows.at i (by rw [List.getElem?_eq_getElem hi, e])
theorem nums_at' {k : IntKind} {xs : List Int} {off : Nat} (i : Nat) (h : off = i) (hi : i < xs.length) : (nums k xs)[off]? = some (.int k (rd xs i)) := by
  subst h; exact nums_at off hi
theorem Shows.takeN {W : World → Prop} {A : Option Addr} {m : Nat} {k : IntKind} {xs : List Int} (h : Shows W A m 1 (nums k xs)) (j : Nat) (hj : j ≤ m) : Shows W A j 1 (nums k (xs.take j)) := by
  have := h.upto j hj
  rw [Nat.mul_one] at this
  unfold nums at *
  rw [List.map_take]
  exact this
/-- a row of rows -/
abbrev Part := Option Addr × Nat × List Int
def pCh (p : Part) : Chunk := .sl (.slice p.1 p.2.2.length p.2.1) 1 p.2.2.length (nums .u8 p.2.2)
def pVal (p : Part) : Value := .slice p.1 p.2.2.length p.2.1
theorem pVal_one {ps : List Part} : ∀ u ∈ ps.map pVal, u.oneCell' = true := fun u hu => by
  obtain ⟨p, _, rfl⟩ := List.mem_map.1 hu
  rfl
def partN (large : Bool) (l : List Int) : Nat := if large = true ∧ 1024 ≤ l.length then 1024 else 128
def partL (large : Bool) (l : List Int) : List Int := l.take (min (partN large l) l.length) ++ List.replicate (partN large l - min (partN large l) l.length) 26
def splitF : Nat → Bool → List Int → List (List Int)
  | 0, _, _ => []
  | k + 1, large, l => if l.length = 0 then [] else partL large l :: splitF k large (l.drop (min (partN large l) l.length))
def splitL (large : Bool) (l : List Int) : List (List Int) := splitF l.length large l
theorem partN_two (large : Bool) (l : List Int) : partN large l = 128 ∨ (partN large l = 1024 ∧ 1024 ≤ l.length) := by
  unfold partN
  split
  · rename_i h; exact Or.inr ⟨rfl, h.2⟩
  · exact Or.inl rfl
theorem splitF_fuel (large : Bool) : ∀ (k j : Nat) (l : List Int), l.length ≤ k → l.length ≤ j → splitF k large l = splitF j large l
  | 0, 0, _, _, _ => rfl
  | 0, j + 1, l, h, _ => by simp only [splitF]; rw [if_pos (by omega)]
  | k + 1, 0, l, _, h => by simp only [splitF]; rw [if_pos (by omega)]
  | k + 1, j + 1, l, h, h2 => by
    simp only [splitF]
    by_cases h0 : l.length = 0
    · rw [if_pos h0, if_pos h0]
    · rw [if_neg h0, if_neg h0]
      have := partN_two large l
      rw [splitF_fuel large k j _ (by rw [List.length_drop]; omega) (by rw [List.length_drop]; omega)]
theorem splitL_nil (large : Bool) {l : List Int} (h : l.length = 0) : splitL large l = [] := by unfold splitL; rw [h]; rfl
theorem splitL_step (large : Bool) {l : List Int} (h : l.length ≠ 0) : splitL large l = partL large l :: splitL large (l.drop (min (partN large l) l.length)) := by
  unfold splitL
  obtain ⟨k, hk⟩ : ∃ k, l.length = k + 1 := ⟨l.length - 1, by omega⟩
  have := partN_two large l
  rw [splitF_fuel large l.length (k + 1) l (by omega) (by omega)]
  simp only [splitF]
  rw [if_neg h, splitF_fuel large k (l.drop (min (partN large l) l.length)).length _ (by rw [List.length_drop]; omega) (Nat.le_refl _)]
theorem partL_len (large : Bool) (l : List Int) : (partL large l).length = partN large l := by
  unfold partL
  rw [List.length_append, List.length_take, List.length_replicate]
  omega
theorem nums_snoc (k : IntKind) (xs : List Int) (j : Nat) (v : Int) : nums k (xs ++ List.replicate j v) ++ [.int k v] = nums k (xs ++ List.replicate (j + 1) v) := by
  rw [List.replicate_succ', ← List.append_assoc]
  simp [nums]
set_option maxRecDepth 100000 in
theorem t54 {A : Option Addr} {m c : Nat} {l : List Int} (large : Bool) (hS : Shows (WH w0 B H) A m 1 (nums .u8 l)) (hlm : l.length = m) (hm : m ≤ 140737488351232) (hc : m ≤ c) :
    TCall Try.prog w0 B 54 #[.slice A m c, .bool large] (fun r H' => ∃ (A : Option Addr) (c : Nat) (ps : List Part), ps.map (·.2.2) = splitL large l ∧ (∀ p ∈ ps, p.2.2.length ≤ p.2.1) ∧ r = .slice A ps.length c ∧ ps.length ≤ c ∧ 128 * ps.length ≤ l.length + 127 ∧ H' = .sl (.slice A ps.length c) 1 ps.length (ps.map pVal) :: (ps.reverse.map pCh ++ H)) H := by
  subst hlm
  refine TCall_intro (args := [_, _]) Try.func54 rfl Try.ntmps54 (Nat.le_of_ble_eq_true rfl) ?_
  refine T_seq ?_
  refine T_region ?_
  refine TL_pure (d := (some 4)) rfl rfl rfl (PV_assign rfl) ?_
  refine TL_nil ?_
  refine T_seq ?_
  refine T_region ?_
  refine TL_pure (d := (some 5)) rfl rfl rfl (PV_assign rfl) ?_
  refine TL_nil ?_
  refine T_seq ?_
  refine T_block ?_
  -- ('loop', ('Code.loop', ('Code.seq', ('Code.seq', ('Code.region', 2, ('L', ('Oper.mk', ('some', 8), ('Op.move', ('Operand.tmp', 0)), 23, '"block.go:90"', ('L',), 'none'), ('Oper.mk', ('some', 9), ('Op.
  refine T_addNil 1 ?_
  refine T.weaken (fr' := [(0, .slice A l.length c), (1, .bool large), (5, .slice none 0 0)]) (FrSub.cons rfl (FrSub.cons rfl (FrSub.cons rfl (FrSub.nil _)))) ?_
  refine T_loop (fun m f h => ∃ (Ad : Option Addr) (cd : Nat) (rest : List Int) (Ao : Option Addr) (co : Nat) (ps : List Part), m = rest.length ∧ f = [(0, .slice Ad rest.length cd), (1, .bool large), (5, .slice Ao ps.length co)] ∧ rest.length ≤ cd ∧ Shows (WH w0 B H) Ad rest.length 1 (nums .u8 rest) ∧ ps.map (·.2.2) ++ splitL large rest = splitL large l ∧ (∀ p ∈ ps, p.2.2.length ≤ p.2.1) ∧ h = .sl (.slice Ao ps.length co) 1 ps.length (ps.map pVal) :: (ps.reverse.map pCh ++ H) ∧ ps.length ≤ co ∧ 128 * ps.length ≤ l.length + 127 ∧ (rest.length = 0 ∨ 128 * ps.length + rest.length ≤ l.length) ∧ rest.length ≤ l.length) (l.length) ?_ ?_
  · exact ⟨A, c, l, none, 0, [], rfl, rfl, hc, hS, rfl, by simp, rfl, Nat.le_refl _, by simp, by simp, Nat.le_refl _⟩
  · rintro m f h ⟨Ad, cd, rest, Ao, co, ps, rfl, rfl, hcd, hSd, hps, hpl, rfl, hco, hb1, hb2, hb3⟩
    have hpn := partN_two large rest
    have hSd' : Shows (WH w0 B (.sl (.slice Ao ps.length co) 1 ps.length (ps.map pVal) :: (ps.reverse.map pCh ++ H))) Ad rest.length 1 (nums .u8 rest) := hSd.mono fun w h => h.sub ((List.sublist_append_right _ _).cons _)
    refine T_seq ?_
    refine T_seq ?_
    refine T_region ?_
    refine TL_pure (d := (some 8)) rfl rfl rfl (PV_move rfl) ?_
    refine TL_pure (d := (some 9)) rfl rfl rfl (PV_len_slice Try.underlying23 rfl) ?_
    refine TL_pure (d := (some 10)) rfl rfl rfl (PV_bin rfl rfl bin_gtr) ?_
    refine TL_nil ?_
    -- IF t10
    refine T_cond rfl (fun hb => ?_) (fun hb => ?_)
    · skip
      have hr0 : 0 < rest.length := by simpa using hb
      refine T_shows hSd' (by simp [nums]; omega) fun g off hA hrd => ?_
      subst hA
      have hst := splitL_step large (l := rest) (by omega)
      by_cases hlg : large = true ∧ 1024 ≤ rest.length
      · have hN : partN large rest = 1024 := by unfold partN; rw [if_pos hlg]
        obtain ⟨hl1, hl2⟩ := hlg
        subst hl1
        refine T_skip ?_
        refine T_block ?_
        refine T_seq ?_
        refine T_region ?_
        refine TL_pure (d := (some 6)) rfl rfl rfl (PV_assign rfl) ?_
        refine TL_nil ?_
        refine T_seq ?_
        refine T_seq ?_
        refine T_region ?_
        refine TL_pure (d := (some 11)) rfl rfl rfl (PV_move rfl) ?_
        refine TL_pure (d := (some 12)) rfl rfl rfl (PV_move rfl) ?_
        -- guard 13 move t0
        refine TL_yes rfl rfl rfl (TO_pure rfl (PV_move rfl) ?_)
        refine TL_yes rfl rfl rfl (TO_pure rfl (PV_len_slice Try.underlying23 rfl) ?_)
        refine TL_yes rfl rfl rfl (TO_pure rfl (PV.cast (PV_bin rfl rfl bin_geq) (congrArg Value.bool (show _ = true by exact decide_eq_true (by omega)))) ?_)
        first | (refine TL_pure (d := (some 16)) rfl rfl rfl (PV_pickAnd rfl rfl rfl) ?_) | (refine TL_pure (d := (some 16)) rfl rfl rfl (PV_pickF rfl (by first | assumption | rfl | (simp; done) | (simp; omega)) rfl rfl) ?_)
        refine TL_nil ?_
        -- IF t16
        refine T_then rfl (by rfl) ?_
        obtain ⟨q, hq⟩ : ∃ q, min 1024 rest.length = q := ⟨_, rfl⟩
        have hqr : q ≤ rest.length := by omega
        have hqn : q ≤ 1024 := by omega
        rw [hN, hq] at hst
        refine T_region ?_
        refine TL_pure (d := (some 6)) rfl rfl rfl (PV_assign rfl) ?_
        refine TL_nil ?_
        refine T_seq ?_
        refine T_region ?_
        refine TL_pure (d := (some 17)) rfl rfl rfl (PV_move rfl) ?_
        refine TL_pure (d := (some 18)) rfl rfl rfl (PV_move rfl) ?_
        refine TL_pure (d := (some 19)) rfl rfl rfl (PV_move rfl) ?_
        refine TL_pure (d := (some 20)) rfl rfl rfl (PV_len_slice Try.underlying23 rfl) ?_
        refine TL_pure (d := (some 21)) rfl rfl rfl (PV.cast (PV_min rfl rfl) (show _ = Value.int .i64 ((q : Nat) : Int) by congr 1; omega)) ?_
        refine TL_pure (d := (some 22)) rfl rfl rfl (PV_sliceTo (h := q) Try.underlying23 sz5 rfl hcd ⟨_, rfl⟩ hqr) ?_
        -- op 23 append(cnilslice, t22) [23, 23]
        refine TL_cons rfl (TO_appendNil Try.underlying23 zb5 rfl (by decide) rfl rfl rfl (hSd'.takeN q hqr) nums_one (by omega) (by omega) fun A23 c23 hc23 => ?_)
        refine TL_pure (d := (some 7)) rfl rfl rfl (PV_assign rfl) ?_
        refine TL_nil ?_
        refine T_seq ?_
        refine T_region ?_
        refine TL_pure (d := (some 24)) rfl rfl rfl (PV_move rfl) ?_
        refine TL_pure (d := (some 25)) rfl rfl rfl (PV_move rfl) ?_
        refine TL_pure (d := (some 26)) rfl rfl rfl (PV_len_slice Try.underlying23 rfl) ?_
        refine TL_pure (d := (some 27)) rfl rfl rfl (PV.cast (PV_slice (l := q) (h := rest.length) Try.underlying23 sz5 rfl hcd ⟨_, rfl⟩ rfl hqr (Nat.le_refl _)) (by rw [← List.length_drop])) ?_
        refine TL_pure (d := (some 0)) rfl rfl rfl (PV_assign rfl) ?_
        refine TL_nil ?_
        refine T_seq ?_
        refine T_block ?_
        -- ('loop', ('Code.loop', ('Code.seq', ('Code.seq', ('Code.region', 8, ('L', ('Oper.mk', ('some', 28), ('Op.move', ('Operand.tmp', 7)), 23, '"block.go:97"', ('L',), 'none'), ('Oper.mk', ('some', 29), ('O
        refine T.weaken (fr' := [(0, .slice (some ⟨g, if cd = q then off else off + q * 1, none⟩) (rest.drop q).length (cd - q)), (1, .bool true), (5, .slice Ao ps.length co), (6, .int .i64 1024), (7, .slice A23 q c23)]) (FrSub.cons rfl (FrSub.cons rfl (FrSub.cons rfl (FrSub.cons rfl (FrSub.cons rfl (FrSub.nil _)))))) ?_
        refine T_loop (fun m f h => ∃ (A7 : Option Addr) (c7 j : Nat), m = 1024 - (q + j) ∧ q + j ≤ 1024 ∧ q + j ≤ c7 ∧ f = [(0, .slice (some ⟨g, if cd = q then off else off + q * 1, none⟩) (rest.drop q).length (cd - q)), (1, .bool true), (5, .slice Ao ps.length co), (6, .int .i64 1024), (7, .slice A7 (q + j) c7)] ∧ h = .sl (.slice A7 (q + j) c7) 1 (q + j) (nums .u8 (rest.take q ++ List.replicate j 26)) :: .sl (.slice Ao ps.length co) 1 ps.length (ps.map pVal) :: (ps.reverse.map pCh ++ H)) (1024 - q) ?_ ?_
        · exact ⟨A23, c23, 0, rfl, hqn, hc23, rfl, by simp⟩
        · rintro m f h ⟨A7, c7, j, rfl, hqj, hc7, rfl, rfl⟩
          refine T_seq ?_
          refine T_seq ?_
          refine T_region ?_
          refine TL_pure (d := (some 28)) rfl rfl rfl (PV_move rfl) ?_
          refine TL_pure (d := (some 29)) rfl rfl rfl (PV_len_slice Try.underlying23 rfl) ?_
          refine TL_pure (d := (some 30)) rfl rfl rfl (PV_move rfl) ?_
          refine TL_pure (d := (some 31)) rfl rfl rfl (PV_bin rfl rfl bin_lss) ?_
          refine TL_nil ?_
          -- IF t31
          refine T_cond rfl (fun hbi => ?_) (fun hbi => ?_)
          · skip
            have hlt : q + j < 1024 := by have := of_decide_eq_true hbi; omega
            refine T_skip ?_
            refine T_block ?_
            refine T_region ?_
            refine TL_pure (d := (some 32)) rfl rfl rfl (PV_move rfl) ?_
            -- op 33 buildSlice 23 1 [(0 cu8:26)]
            refine TL_cons rfl (TO_buildSlice (cells := #[.int .u8 26]) Try.underlying23 zs5 (by decide) rfl rfl rfl (by kernel_rfl) rfl fun g33 => ?_)
            -- op 34 append(t32, t33) [23, 23]
            refine TL_cons rfl (TO_append 1 rfl Try.underlying23 zb5 rfl (by decide) rfl rfl rfl (Shows.at 0 rfl) (by simp [Value.oneCell']) (by omega) (by omega) fun A34 c34 hc34 => ?_)
            refine TL_pure (d := (some 7)) rfl rfl rfl (PV_assign rfl) ?_
            refine TL_nil ?_
            -- ('loopend',)
            refine round_end (1024 - (q + (j + 1))) _ _ (by omega) (FrSub.cons rfl (FrSub.cons rfl (FrSub.cons rfl (FrSub.cons rfl (FrSub.cons rfl (FrSub.nil _)))))) (List.Sublist.cons _ (List.Sublist.refl _)) ⟨A34, c34, j + 1, rfl, by omega, hc34, rfl, ?_⟩
            show Chunk.sl _ _ _ _ :: _ = _
            exact congrArg (fun x => Chunk.sl (.slice A34 (q + j + 1) c34) 1 (q + j + 1) x :: _) (nums_snoc .u8 _ j 26)
          · skip
            have hge : q + j = 1024 := by have := of_decide_eq_false hbi; omega
            refine T_exit ?_
            refine T_region ?_
            -- op 35 move t5
            refine TL_perm (List.Perm.swap _ _ _) ?_
            refine TL_cons rfl (TO_pure rfl (PV_move rfl) ?_)
            refine TL_pure (d := (some 36)) rfl rfl rfl (PV_move rfl) ?_
            -- op 37 buildSlice 68 1 [(0 t36)]
            refine TL_cons rfl (TO_buildSlice (cells := #[.slice A7 (q + j) c7]) Try.underlying68 zs23 (by decide) rfl rfl rfl (by kernel_rfl) rfl fun g37 => ?_)
            -- op 38 append(t35, t37) [68, 68]
            refine TL_cons rfl (TO_append 1 rfl Try.underlying68 zb23 rfl (by decide) rfl rfl rfl (Shows.at 0 rfl) (by simp [Value.oneCell']) (by omega) (by omega) fun A38 c38 hc38 => ?_)
            refine TL_pure (d := (some 5)) rfl rfl rfl (PV_assign rfl) ?_
            refine TL_nil ?_
            -- ('loopend',)
            have hlen : (rest.take q ++ List.replicate j (26 : Int)).length = q + j := by rw [List.length_append, List.length_take, List.length_replicate]; omega
            have hpl2 : partL true rest = rest.take q ++ List.replicate j 26 := by unfold partL; rw [hN, hq]; congr 2; omega
            refine round_end (rest.drop q).length _ _ (by rw [List.length_drop]; omega) (FrSub.cons rfl (FrSub.cons rfl (FrSub.cons (v := .slice A38 (ps ++ [((A7, c7, rest.take q ++ List.replicate j 26) : Part)]).length c38) (by rw [List.length_append]; rfl) (FrSub.nil _)))) (List.Sublist.cons _ (List.Sublist.refl _)) ⟨_, cd - q, rest.drop q, A38, c38, ps ++ [(A7, c7, rest.take q ++ List.replicate j 26)], rfl, rfl, by rw [List.length_drop]; omega, ?_, ?_, ?_, ?_, ?_, ?_, ?_, ?_⟩
            · have := hSd.cut (l := q) (h := rest.length) (c := cd) hqr (Nat.le_refl _) hcd
              rw [List.take_of_length_le (by simp [nums])] at this
              rw [List.length_drop]
              simpa [nums, List.map_drop] using this
            · rw [← hps, hst, hpl2]; simp
            · intro p hp
              rcases List.mem_append.1 hp with hp | hp
              · exact hpl p hp
              · rw [List.mem_singleton.1 hp]
                show (rest.take q ++ List.replicate j (26 : Int)).length ≤ c7
                omega
            · simp [pCh, pVal, hlen]
            · rw [List.length_append]; exact hc38
            · rw [List.length_append]; simp only [List.length_cons, List.length_nil]; omega
            · rw [List.length_append, List.length_drop]; simp only [List.length_cons, List.length_nil]; omega
            · rw [List.length_drop]; omega
      have hN : partN large rest = 128 := by unfold partN; rw [if_neg hlg]
      cases large with
      | true =>
        have hl2 : ¬ 1024 ≤ rest.length := fun h => hlg ⟨rfl, h⟩
        refine T_skip ?_
        refine T_block ?_
        refine T_seq ?_
        refine T_region ?_
        refine TL_pure (d := (some 6)) rfl rfl rfl (PV_assign rfl) ?_
        refine TL_nil ?_
        refine T_seq ?_
        refine T_seq ?_
        refine T_region ?_
        refine TL_pure (d := (some 11)) rfl rfl rfl (PV_move rfl) ?_
        refine TL_pure (d := (some 12)) rfl rfl rfl (PV_move rfl) ?_
        -- guard 13 move t0
        refine TL_yes rfl rfl rfl (TO_pure rfl (PV_move rfl) ?_)
        refine TL_yes rfl rfl rfl (TO_pure rfl (PV_len_slice Try.underlying23 rfl) ?_)
        refine TL_yes rfl rfl rfl (TO_pure rfl (PV.cast (PV_bin rfl rfl bin_geq) (congrArg Value.bool (show _ = false by exact decide_eq_false (by omega)))) ?_)
        first | (refine TL_pure (d := (some 16)) rfl rfl rfl (PV_pickAnd rfl rfl rfl) ?_) | (refine TL_pure (d := (some 16)) rfl rfl rfl (PV_pickF rfl (by first | assumption | rfl | (simp; done) | (simp; omega)) rfl rfl) ?_)
        refine TL_nil ?_
        -- IF t16
        refine T_else rfl (by rfl) ?_
        obtain ⟨q, hq⟩ : ∃ q, min 128 rest.length = q := ⟨_, rfl⟩
        have hqr : q ≤ rest.length := by omega
        have hqn : q ≤ 128 := by omega
        rw [hN, hq] at hst
        refine T_skip ?_
        refine T_seq ?_
        refine T_region ?_
        refine TL_pure (d := (some 17)) rfl rfl rfl (PV_move rfl) ?_
        refine TL_pure (d := (some 18)) rfl rfl rfl (PV_move rfl) ?_
        refine TL_pure (d := (some 19)) rfl rfl rfl (PV_move rfl) ?_
        refine TL_pure (d := (some 20)) rfl rfl rfl (PV_len_slice Try.underlying23 rfl) ?_
        refine TL_pure (d := (some 21)) rfl rfl rfl (PV.cast (PV_min rfl rfl) (show _ = Value.int .i64 ((q : Nat) : Int) by congr 1; omega)) ?_
        refine TL_pure (d := (some 22)) rfl rfl rfl (PV_sliceTo (h := q) Try.underlying23 sz5 rfl hcd ⟨_, rfl⟩ hqr) ?_
        -- op 23 append(cnilslice, t22) [23, 23]
        refine TL_cons rfl (TO_appendNil Try.underlying23 zb5 rfl (by decide) rfl rfl rfl (hSd'.takeN q hqr) nums_one (by omega) (by omega) fun A23 c23 hc23 => ?_)
        refine TL_pure (d := (some 7)) rfl rfl rfl (PV_assign rfl) ?_
        refine TL_nil ?_
        refine T_seq ?_
        refine T_region ?_
        refine TL_pure (d := (some 24)) rfl rfl rfl (PV_move rfl) ?_
        refine TL_pure (d := (some 25)) rfl rfl rfl (PV_move rfl) ?_
        refine TL_pure (d := (some 26)) rfl rfl rfl (PV_len_slice Try.underlying23 rfl) ?_
        refine TL_pure (d := (some 27)) rfl rfl rfl (PV.cast (PV_slice (l := q) (h := rest.length) Try.underlying23 sz5 rfl hcd ⟨_, rfl⟩ rfl hqr (Nat.le_refl _)) (by rw [← List.length_drop])) ?_
        refine TL_pure (d := (some 0)) rfl rfl rfl (PV_assign rfl) ?_
        refine TL_nil ?_
        refine T_seq ?_
        refine T_block ?_
        -- ('loop', ('Code.loop', ('Code.seq', ('Code.seq', ('Code.region', 8, ('L', ('Oper.mk', ('some', 28), ('Op.move', ('Operand.tmp', 7)), 23, '"block.go:97"', ('L',), 'none'), ('Oper.mk', ('some', 29), ('O
        refine T.weaken (fr' := [(0, .slice (some ⟨g, if cd = q then off else off + q * 1, none⟩) (rest.drop q).length (cd - q)), (1, .bool true), (5, .slice Ao ps.length co), (6, .int .i64 128), (7, .slice A23 q c23)]) (FrSub.cons rfl (FrSub.cons rfl (FrSub.cons rfl (FrSub.cons rfl (FrSub.cons rfl (FrSub.nil _)))))) ?_
        refine T_loop (fun m f h => ∃ (A7 : Option Addr) (c7 j : Nat), m = 128 - (q + j) ∧ q + j ≤ 128 ∧ q + j ≤ c7 ∧ f = [(0, .slice (some ⟨g, if cd = q then off else off + q * 1, none⟩) (rest.drop q).length (cd - q)), (1, .bool true), (5, .slice Ao ps.length co), (6, .int .i64 128), (7, .slice A7 (q + j) c7)] ∧ h = .sl (.slice A7 (q + j) c7) 1 (q + j) (nums .u8 (rest.take q ++ List.replicate j 26)) :: .sl (.slice Ao ps.length co) 1 ps.length (ps.map pVal) :: (ps.reverse.map pCh ++ H)) (128 - q) ?_ ?_
        · exact ⟨A23, c23, 0, rfl, hqn, hc23, rfl, by simp⟩
        · rintro m f h ⟨A7, c7, j, rfl, hqj, hc7, rfl, rfl⟩
          refine T_seq ?_
          refine T_seq ?_
          refine T_region ?_
          refine TL_pure (d := (some 28)) rfl rfl rfl (PV_move rfl) ?_
          refine TL_pure (d := (some 29)) rfl rfl rfl (PV_len_slice Try.underlying23 rfl) ?_
          refine TL_pure (d := (some 30)) rfl rfl rfl (PV_move rfl) ?_
          refine TL_pure (d := (some 31)) rfl rfl rfl (PV_bin rfl rfl bin_lss) ?_
          refine TL_nil ?_
          -- IF t31
          refine T_cond rfl (fun hbi => ?_) (fun hbi => ?_)
          · skip
            have hlt : q + j < 128 := by have := of_decide_eq_true hbi; omega
            refine T_skip ?_
            refine T_block ?_
            refine T_region ?_
            refine TL_pure (d := (some 32)) rfl rfl rfl (PV_move rfl) ?_
            -- op 33 buildSlice 23 1 [(0 cu8:26)]
            refine TL_cons rfl (TO_buildSlice (cells := #[.int .u8 26]) Try.underlying23 zs5 (by decide) rfl rfl rfl (by kernel_rfl) rfl fun g33 => ?_)
            -- op 34 append(t32, t33) [23, 23]
            refine TL_cons rfl (TO_append 1 rfl Try.underlying23 zb5 rfl (by decide) rfl rfl rfl (Shows.at 0 rfl) (by simp [Value.oneCell']) (by omega) (by omega) fun A34 c34 hc34 => ?_)
            refine TL_pure (d := (some 7)) rfl rfl rfl (PV_assign rfl) ?_
            refine TL_nil ?_
            -- ('loopend',)
            refine round_end (128 - (q + (j + 1))) _ _ (by omega) (FrSub.cons rfl (FrSub.cons rfl (FrSub.cons rfl (FrSub.cons rfl (FrSub.cons rfl (FrSub.nil _)))))) (List.Sublist.cons _ (List.Sublist.refl _)) ⟨A34, c34, j + 1, rfl, by omega, hc34, rfl, ?_⟩
            show Chunk.sl _ _ _ _ :: _ = _
            exact congrArg (fun x => Chunk.sl (.slice A34 (q + j + 1) c34) 1 (q + j + 1) x :: _) (nums_snoc .u8 _ j 26)
          · skip
            have hge : q + j = 128 := by have := of_decide_eq_false hbi; omega
            refine T_exit ?_
            refine T_region ?_
            -- op 35 move t5
            refine TL_perm (List.Perm.swap _ _ _) ?_
            refine TL_cons rfl (TO_pure rfl (PV_move rfl) ?_)
            refine TL_pure (d := (some 36)) rfl rfl rfl (PV_move rfl) ?_
            -- op 37 buildSlice 68 1 [(0 t36)]
            refine TL_cons rfl (TO_buildSlice (cells := #[.slice A7 (q + j) c7]) Try.underlying68 zs23 (by decide) rfl rfl rfl (by kernel_rfl) rfl fun g37 => ?_)
            -- op 38 append(t35, t37) [68, 68]
            refine TL_cons rfl (TO_append 1 rfl Try.underlying68 zb23 rfl (by decide) rfl rfl rfl (Shows.at 0 rfl) (by simp [Value.oneCell']) (by omega) (by omega) fun A38 c38 hc38 => ?_)
            refine TL_pure (d := (some 5)) rfl rfl rfl (PV_assign rfl) ?_
            refine TL_nil ?_
            -- ('loopend',)
            have hlen : (rest.take q ++ List.replicate j (26 : Int)).length = q + j := by rw [List.length_append, List.length_take, List.length_replicate]; omega
            have hpl2 : partL true rest = rest.take q ++ List.replicate j 26 := by unfold partL; rw [hN, hq]; congr 2; omega
            refine round_end (rest.drop q).length _ _ (by rw [List.length_drop]; omega) (FrSub.cons rfl (FrSub.cons rfl (FrSub.cons (v := .slice A38 (ps ++ [((A7, c7, rest.take q ++ List.replicate j 26) : Part)]).length c38) (by rw [List.length_append]; rfl) (FrSub.nil _)))) (List.Sublist.cons _ (List.Sublist.refl _)) ⟨_, cd - q, rest.drop q, A38, c38, ps ++ [(A7, c7, rest.take q ++ List.replicate j 26)], rfl, rfl, by rw [List.length_drop]; omega, ?_, ?_, ?_, ?_, ?_, ?_, ?_, ?_⟩
            · have := hSd.cut (l := q) (h := rest.length) (c := cd) hqr (Nat.le_refl _) hcd
              rw [List.take_of_length_le (by simp [nums])] at this
              rw [List.length_drop]
              simpa [nums, List.map_drop] using this
            · rw [← hps, hst, hpl2]; simp
            · intro p hp
              rcases List.mem_append.1 hp with hp | hp
              · exact hpl p hp
              · rw [List.mem_singleton.1 hp]
                show (rest.take q ++ List.replicate j (26 : Int)).length ≤ c7
                omega
            · simp [pCh, pVal, hlen]
            · rw [List.length_append]; exact hc38
            · rw [List.length_append]; simp only [List.length_cons, List.length_nil]; omega
            · rw [List.length_append, List.length_drop]; simp only [List.length_cons, List.length_nil]; omega
            · rw [List.length_drop]; omega
      | false =>
        refine T_skip ?_
        refine T_block ?_
        refine T_seq ?_
        refine T_region ?_
        refine TL_pure (d := (some 6)) rfl rfl rfl (PV_assign rfl) ?_
        refine TL_nil ?_
        refine T_seq ?_
        refine T_seq ?_
        refine T_region ?_
        refine TL_pure (d := (some 11)) rfl rfl rfl (PV_move rfl) ?_
        refine TL_pure (d := (some 12)) rfl rfl rfl (PV_move rfl) ?_
        -- guard 13 move t0
        refine TL_no (b := false) rfl rfl rfl rfl ?_
        refine TL_no (b := false) rfl rfl rfl rfl ?_
        refine TL_no (b := false) rfl rfl rfl rfl ?_
        first | (refine TL_pure (d := (some 16)) rfl rfl rfl (PV_pickAnd rfl rfl rfl) ?_) | (refine TL_pure (d := (some 16)) rfl rfl rfl (PV_pickF rfl (by first | assumption | rfl | (simp; done) | (simp; omega)) rfl rfl) ?_)
        refine TL_nil ?_
        -- IF t16
        refine T_else rfl (by rfl) ?_
        obtain ⟨q, hq⟩ : ∃ q, min 128 rest.length = q := ⟨_, rfl⟩
        have hqr : q ≤ rest.length := by omega
        have hqn : q ≤ 128 := by omega
        rw [hN, hq] at hst
        refine T_skip ?_
        refine T_seq ?_
        refine T_region ?_
        refine TL_pure (d := (some 17)) rfl rfl rfl (PV_move rfl) ?_
        refine TL_pure (d := (some 18)) rfl rfl rfl (PV_move rfl) ?_
        refine TL_pure (d := (some 19)) rfl rfl rfl (PV_move rfl) ?_
        refine TL_pure (d := (some 20)) rfl rfl rfl (PV_len_slice Try.underlying23 rfl) ?_
        refine TL_pure (d := (some 21)) rfl rfl rfl (PV.cast (PV_min rfl rfl) (show _ = Value.int .i64 ((q : Nat) : Int) by congr 1; omega)) ?_
        refine TL_pure (d := (some 22)) rfl rfl rfl (PV_sliceTo (h := q) Try.underlying23 sz5 rfl hcd ⟨_, rfl⟩ hqr) ?_
        -- op 23 append(cnilslice, t22) [23, 23]
        refine TL_cons rfl (TO_appendNil Try.underlying23 zb5 rfl (by decide) rfl rfl rfl (hSd'.takeN q hqr) nums_one (by omega) (by omega) fun A23 c23 hc23 => ?_)
        refine TL_pure (d := (some 7)) rfl rfl rfl (PV_assign rfl) ?_
        refine TL_nil ?_
        refine T_seq ?_
        refine T_region ?_
        refine TL_pure (d := (some 24)) rfl rfl rfl (PV_move rfl) ?_
        refine TL_pure (d := (some 25)) rfl rfl rfl (PV_move rfl) ?_
        refine TL_pure (d := (some 26)) rfl rfl rfl (PV_len_slice Try.underlying23 rfl) ?_
        refine TL_pure (d := (some 27)) rfl rfl rfl (PV.cast (PV_slice (l := q) (h := rest.length) Try.underlying23 sz5 rfl hcd ⟨_, rfl⟩ rfl hqr (Nat.le_refl _)) (by rw [← List.length_drop])) ?_
        refine TL_pure (d := (some 0)) rfl rfl rfl (PV_assign rfl) ?_
        refine TL_nil ?_
        refine T_seq ?_
        refine T_block ?_
        -- ('loop', ('Code.loop', ('Code.seq', ('Code.seq', ('Code.region', 8, ('L', ('Oper.mk', ('some', 28), ('Op.move', ('Operand.tmp', 7)), 23, '"block.go:97"', ('L',), 'none'), ('Oper.mk', ('some', 29), ('O
        refine T.weaken (fr' := [(0, .slice (some ⟨g, if cd = q then off else off + q * 1, none⟩) (rest.drop q).length (cd - q)), (1, .bool false), (5, .slice Ao ps.length co), (6, .int .i64 128), (7, .slice A23 q c23)]) (FrSub.cons rfl (FrSub.cons rfl (FrSub.cons rfl (FrSub.cons rfl (FrSub.cons rfl (FrSub.nil _)))))) ?_
        refine T_loop (fun m f h => ∃ (A7 : Option Addr) (c7 j : Nat), m = 128 - (q + j) ∧ q + j ≤ 128 ∧ q + j ≤ c7 ∧ f = [(0, .slice (some ⟨g, if cd = q then off else off + q * 1, none⟩) (rest.drop q).length (cd - q)), (1, .bool false), (5, .slice Ao ps.length co), (6, .int .i64 128), (7, .slice A7 (q + j) c7)] ∧ h = .sl (.slice A7 (q + j) c7) 1 (q + j) (nums .u8 (rest.take q ++ List.replicate j 26)) :: .sl (.slice Ao ps.length co) 1 ps.length (ps.map pVal) :: (ps.reverse.map pCh ++ H)) (128 - q) ?_ ?_
        · exact ⟨A23, c23, 0, rfl, hqn, hc23, rfl, by simp⟩
        · rintro m f h ⟨A7, c7, j, rfl, hqj, hc7, rfl, rfl⟩
          refine T_seq ?_
          refine T_seq ?_
          refine T_region ?_
          refine TL_pure (d := (some 28)) rfl rfl rfl (PV_move rfl) ?_
          refine TL_pure (d := (some 29)) rfl rfl rfl (PV_len_slice Try.underlying23 rfl) ?_
          refine TL_pure (d := (some 30)) rfl rfl rfl (PV_move rfl) ?_
          refine TL_pure (d := (some 31)) rfl rfl rfl (PV_bin rfl rfl bin_lss) ?_
          refine TL_nil ?_
          -- IF t31
          refine T_cond rfl (fun hbi => ?_) (fun hbi => ?_)
          · skip
            have hlt : q + j < 128 := by have := of_decide_eq_true hbi; omega
            refine T_skip ?_
            refine T_block ?_
            refine T_region ?_
            refine TL_pure (d := (some 32)) rfl rfl rfl (PV_move rfl) ?_
            -- op 33 buildSlice 23 1 [(0 cu8:26)]
            refine TL_cons rfl (TO_buildSlice (cells := #[.int .u8 26]) Try.underlying23 zs5 (by decide) rfl rfl rfl (by kernel_rfl) rfl fun g33 => ?_)
            -- op 34 append(t32, t33) [23, 23]
            refine TL_cons rfl (TO_append 1 rfl Try.underlying23 zb5 rfl (by decide) rfl rfl rfl (Shows.at 0 rfl) (by simp [Value.oneCell']) (by omega) (by omega) fun A34 c34 hc34 => ?_)
            refine TL_pure (d := (some 7)) rfl rfl rfl (PV_assign rfl) ?_
            refine TL_nil ?_
            -- ('loopend',)
            refine round_end (128 - (q + (j + 1))) _ _ (by omega) (FrSub.cons rfl (FrSub.cons rfl (FrSub.cons rfl (FrSub.cons rfl (FrSub.cons rfl (FrSub.nil _)))))) (List.Sublist.cons _ (List.Sublist.refl _)) ⟨A34, c34, j + 1, rfl, by omega, hc34, rfl, ?_⟩
            show Chunk.sl _ _ _ _ :: _ = _
            exact congrArg (fun x => Chunk.sl (.slice A34 (q + j + 1) c34) 1 (q + j + 1) x :: _) (nums_snoc .u8 _ j 26)
          · skip
            have hge : q + j = 128 := by have := of_decide_eq_false hbi; omega
            refine T_exit ?_
            refine T_region ?_
            -- op 35 move t5
            refine TL_perm (List.Perm.swap _ _ _) ?_
            refine TL_cons rfl (TO_pure rfl (PV_move rfl) ?_)
            refine TL_pure (d := (some 36)) rfl rfl rfl (PV_move rfl) ?_
            -- op 37 buildSlice 68 1 [(0 t36)]
            refine TL_cons rfl (TO_buildSlice (cells := #[.slice A7 (q + j) c7]) Try.underlying68 zs23 (by decide) rfl rfl rfl (by kernel_rfl) rfl fun g37 => ?_)
            -- op 38 append(t35, t37) [68, 68]
            refine TL_cons rfl (TO_append 1 rfl Try.underlying68 zb23 rfl (by decide) rfl rfl rfl (Shows.at 0 rfl) (by simp [Value.oneCell']) (by omega) (by omega) fun A38 c38 hc38 => ?_)
            refine TL_pure (d := (some 5)) rfl rfl rfl (PV_assign rfl) ?_
            refine TL_nil ?_
            -- ('loopend',)
            have hlen : (rest.take q ++ List.replicate j (26 : Int)).length = q + j := by rw [List.length_append, List.length_take, List.length_replicate]; omega
            have hpl2 : partL false rest = rest.take q ++ List.replicate j 26 := by unfold partL; rw [hN, hq]; congr 2; omega
            refine round_end (rest.drop q).length _ _ (by rw [List.length_drop]; omega) (FrSub.cons rfl (FrSub.cons rfl (FrSub.cons (v := .slice A38 (ps ++ [((A7, c7, rest.take q ++ List.replicate j 26) : Part)]).length c38) (by rw [List.length_append]; rfl) (FrSub.nil _)))) (List.Sublist.cons _ (List.Sublist.refl _)) ⟨_, cd - q, rest.drop q, A38, c38, ps ++ [(A7, c7, rest.take q ++ List.replicate j 26)], rfl, rfl, by rw [List.length_drop]; omega, ?_, ?_, ?_, ?_, ?_, ?_, ?_, ?_⟩
            · have := hSd.cut (l := q) (h := rest.length) (c := cd) hqr (Nat.le_refl _) hcd
              rw [List.take_of_length_le (by simp [nums])] at this
              rw [List.length_drop]
              simpa [nums, List.map_drop] using this
            · rw [← hps, hst, hpl2]; simp
            · intro p hp
              rcases List.mem_append.1 hp with hp | hp
              · exact hpl p hp
              · rw [List.mem_singleton.1 hp]
                show (rest.take q ++ List.replicate j (26 : Int)).length ≤ c7
                omega
            · simp [pCh, pVal, hlen]
            · rw [List.length_append]; exact hc38
            · rw [List.length_append]; simp only [List.length_cons, List.length_nil]; omega
            · rw [List.length_append, List.length_drop]; simp only [List.length_cons, List.length_nil]; omega
            · rw [List.length_drop]; omega
    · skip
      have hr0 : rest.length = 0 := by have := of_decide_eq_false hb; omega
      refine T_exit ?_
      refine T_seq ?_
      refine T_region ?_
      refine TL_pure (d := (some 39)) rfl rfl rfl (PV_move rfl) ?_
      refine TL_pure (d := (some 4)) rfl rfl rfl (PV_assign rfl) ?_
      refine TL_nil ?_
      refine T_ret ?_
      -- ('ret',)
      rw [splitL_nil large hr0, List.append_nil] at hps
      refine ⟨_, _, ?_, ResV_one rfl rfl, ⟨Ao, co, ps, hps, hpl, rfl, hco, hb1, rfl⟩⟩
      repeat (first | exact List.Sublist.refl _ | apply List.Sublist.cons_cons | apply List.Sublist.cons)
end
end Go.Proofs.Ythdkmgeigdoglaa.SL
