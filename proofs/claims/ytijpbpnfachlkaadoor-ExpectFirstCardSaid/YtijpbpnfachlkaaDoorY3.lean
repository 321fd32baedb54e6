import Derived.Test.YtijpbpnfachlkaaDoorY2
/- The first pattern that ends, and where: the law. No statement is proved here. -/
set_option linter.unusedVariables false
set_option linter.unusedSimpArgs false
set_option maxRecDepth 100000
set_option maxHeartbeats 8000000
namespace Go.Proofs.YtijpbpnfachlkaaDoor.SL
open Go Go.RowKit
theorem first_no (p : Nat → Bool) : ∀ m, (∀ i, i < m → p i = false) ∨ ∃ k, k < m ∧ (∀ i, i < k → p i = false) ∧ p k = true
  | 0 => .inl fun i hi => absurd hi (Nat.not_lt_zero i)
  | m + 1 => by
    rcases first_no p m with h | ⟨k, h1, h2, h3⟩
    · by_cases hm : p m = true
      · exact .inr ⟨m, by omega, h, hm⟩
      · refine .inl fun i hi => ?_
        rcases Nat.lt_or_ge i m with h' | h'
        · exact h i h'
        · obtain rfl : i = m := by omega
          simpa using hm
    · exact .inr ⟨k, by omega, h2, h3⟩
theorem mk_txt8 : ∀ (d : Nat) (l : List Int), U8s l → U8s (mk d l).1
  | d, [], h => by rw [mk_nil]; exact u8_small _ (by decide)
  | 0, n :: l, h => fun x hx => by
    have hx : x = 97 + n.tmod 3 := by simpa [mk] using hx
    obtain ⟨k, hk⟩ := Int.eq_ofNat_of_zero_le (h n (by simp)).1
    have : n.tmod 3 = ((k % 3 : Nat) : Int) := by rw [hk]; rfl
    omega
  | d + 1, n :: l, h => by
    have hl : U8s l := fun x hx => h x (List.mem_cons_of_mem _ hx)
    have h1 := mk_txt8 d l hl
    have h2 := mk_txt8 d _ (mk_rest d l hl)
    unfold mk
    repeat' split
    all_goals
      intro x hx
      simp only [List.mem_append, List.mem_cons, List.not_mem_nil, or_false] at hx
      rcases hx with hx
      first
        | (rcases hx with (((hx | hx) | hx) | hx) | hx <;> first | exact h1 x hx | exact h2 x hx | omega)
        | (rcases hx with (hx | hx) | hx <;> first | exact h1 x hx | exact h2 x hx | omega)
        | omega
abbrev Row3 : Type := Option Addr × Nat × List Int
def rVal (p : Row3) : Value := .slice p.1 p.2.2.length p.2.1
def rlOf (rows : List Row3) : List (List Int) := rows.map fun p => p.2.2
structure RowsOk (W : World → Prop) (A : Option Addr) (rows : List Row3) : Prop where
  row : Shows W A rows.length 1 (rows.map rVal)
  all : ∀ p ∈ rows, Shows W p.1 p.2.2.length 1 (nums .u8 p.2.2) ∧ p.2.2.length ≤ p.2.1 ∧ p.2.2.length ≤ 4611686018427387904 ∧ U8s p.2.2
theorem rowVal_at {rows : List Row3} {j : Nat} (h : j < rows.length) : (rows.map rVal)[j * 1]? = some (rVal rows[j]) := by
  rw [Nat.mul_one]
  simp [h]
/-- the nodes of the trees -/
def Nodes (W : World → Prop) (ts : List Rx) (vs : List Nv) : Prop := vs.length = ts.length ∧ ∀ j, j < ts.length → Tr W (ts.getD j .nothing) (vs.getD j nv0)
theorem Nodes.mono {W W' : World → Prop} {ts : List Rx} {vs : List Nv} (h : Nodes W ts vs) (hw : ∀ w, W' w → W w) : Nodes W' ts vs := ⟨h.1, fun j hj => (h.2 j hj).mono hw⟩
theorem Nodes.snoc {W W1 W2 : World → Prop} {ts : List Rx} {vs : List Nv} {t : Rx} {v : Nv} (h : Nodes W1 ts vs) (hv : Tr W2 t v) (h1 : ∀ w, W w → W1 w) (h2 : ∀ w, W w → W2 w) : Nodes W (ts ++ [t]) (vs ++ [v]) := by
  refine ⟨by simp [h.1], fun j hj => ?_⟩
  rcases Nat.lt_or_ge j ts.length with hl | hl
  · rw [show (ts ++ [t]).getD j .nothing = ts.getD j .nothing by simp [List.getD_eq_getElem?_getD, List.getElem?_append_left hl], show (vs ++ [v]).getD j nv0 = vs.getD j nv0 by simp [List.getD_eq_getElem?_getD, List.getElem?_append_left (show j < vs.length by rw [h.1]; exact hl)]]
    exact (h.2 j hl).mono h1
  · obtain rfl : j = ts.length := by simp at hj; omega
    rw [show (ts ++ [t]).getD ts.length .nothing = t by simp [List.getD_eq_getElem?_getD], show (vs ++ [v]).getD ts.length nv0 = v by rw [← h.1]; simp [List.getD_eq_getElem?_getD]]
    exact hv.mono h2
section
variable {w0 : World} {B n : Nat} {H HR : List Chunk}
theorem ExpectFirst_t (hL : Laid w0) (hB0 : 0 < B) {A A1 : Option Addr} {c m1 c1 : Nat} {rows : List Row3} {l1 : List Int} (hR : RowsOk (WH w0 B H) A rows) (hc : rows.length ≤ c) (hm : rows.length ≤ 4611686018427387904)
    (hS1 : Shows (WH w0 B H) A1 m1 1 (nums .u8 l1)) (hm1 : l1.length = m1) (hl1 : m1 ≤ 4611686018427387904) (hc1 : m1 ≤ c1) (hu1 : U8s l1) :
    TCall Tryd.prog w0 B 9 #[.slice A rows.length c, .slice A1 m1 c1] (fun r H' => r = .bool true ∧ H' = H) H := by
  refine TCall_intro (args := [_, _]) Tryd.func9 rfl Tryd.ntmps9 (Nat.le_of_ble_eq_true rfl) ?_
  refine T_seq ?_
  refine T_region ?_
  refine TL_p (PV_assign rfl) ?_
  refine TL_nil ?_
  refine T_seq ?_
  refine T_seq ?_
  refine T_region ?_
  refine TL_cons rfl (TO_call0 call22 rfl rfl (awake09s) ?_)
  rintro v25_3 H25_3 ⟨rfl, rfl⟩
  refine TL_p (PV_not rfl) ?_
  refine TL_nil ?_
  refine T_else rfl (by rfl) ?_
  refine T_skip ?_
  refine T_seq ?_
  refine T_region ?_
  refine TL_p (PV_assign rfl) ?_
  refine TL_nil ?_
  refine T_seq ?_
  refine T_region ?_
  refine TL_p (PV_assign rfl) ?_
  refine TL_nil ?_
  refine T_seq ?_
  refine T_seq ?_
  refine T_region ?_
  refine TL_p (PV_move rfl) ?_
  refine TL_p (PV_len_slice Tryd.underlying60 rfl) ?_
  refine TL_p (PV_move rfl) ?_
  refine TL_nil ?_
  refine T_block ?_
  refine ?L1
  case L1 =>
    refine T_addNil 6 ?_
    refine T_addNil 1 ?_
    refine T_loopP7 (fun (i : Nat) (Ap : Option Addr) (cp : Nat) (An : Option Addr) (cn : Nat) (vs : List Nv) (Z : List Chunk) => i ≤ rows.length ∧ (picks (rlOf rows) i).length ≤ cp ∧ (picks (rlOf rows) i).length ≤ cn ∧ H.Sublist Z ∧ Nodes (WH w0 B Z) (trees (picks (rlOf rows) i)) vs) (fun i _ _ _ _ _ _ => rows.length - i) (fun i Ap cp An cn vs Z => [(1, .slice A1 m1 c1), (5, .slice Ap (picks (rlOf rows) i).length cp), (6, .slice An (picks (rlOf rows) i).length cn), (27, .slice A rows.length c), (28, .int .i64 (rows.length : Int)), (29, .int .i64 (i : Int))]) (fun i Ap cp An cn vs Z => .sl (.slice Ap (picks (rlOf rows) i).length cp) 1 (picks (rlOf rows) i).length (strs (txts (picks (rlOf rows) i))) :: .sl (.slice An (picks (rlOf rows) i).length cn) 6 (picks (rlOf rows) i).length (ndC vs) :: Z) 0 none 0 none 0 [] H ⟨Nat.zero_le _, Nat.le_refl _, Nat.le_refl _, List.Sublist.refl _, rfl, fun j hj => absurd hj (Nat.not_lt_zero j)⟩ (by repeat (first | exact FrSub.nil _ | refine FrSub.cons rfl ?_)) (Has.of_sub (by repeat (first | exact Sb.r | exact Sb.ar | exact Sb.al | apply Sb.c | apply Sb.d | refine Sb.t ?_))) ?_
    rintro i Ap cp An cn vs Z ⟨hi, hcp, hcn, hZ, hN⟩
    obtain ⟨rs, hrs⟩ : ∃ rs, picks (rlOf rows) i = rs := ⟨_, rfl⟩
    rw [hrs] at hcp hcn hN ⊢
    have hkl := picks_len (rlOf rows) i
    rw [hrs] at hkl
    have hvl : vs.length = rs.length := hN.1.trans (by simp [trees])
    have hsl : (strs (txts rs)).length = rs.length := by simp [strs, txts]
    have hnl : (ndC vs).length = rs.length * 6 := by rw [ndC_len, hvl]
    by_cases him : i < rows.length
    · have e54 : Value.int .i64 (IntKind.i64.wrap ((i : Int) + 1)) = .int .i64 ((i + 1 : Nat) : Int) := wr64n _ (by push_cast; rfl) (by omega)
      refine T_shows (hR.row.mono fun w h => h.sub (hZ.trans (by repeat (first | exact Sb.r | exact Sb.ar | exact Sb.al | apply Sb.d | refine Sb.t ?_)))) (by simp; omega) fun ga oa hA hr1 => ?_
      subst hA
      have hri : (rlOf rows).getD i [] = (rows[i]).2.2 := by simp [rlOf, List.getD_eq_getElem?_getD, him]
      obtain ⟨p, hp⟩ : ∃ p, rows[i] = p := ⟨_, rfl⟩
      rw [hp] at hri
      obtain ⟨hpS, hpc, hpm, hpu⟩ := hR.all p (hp ▸ List.getElem_mem _)
      have hR1 : Rd _ ⟨ga, oa + i * 1, none⟩ (.slice p.1 p.2.2.length p.2.1) := hr1 (i * 1) _ (by rw [rowVal_at him, hp]; rfl)
      obtain ⟨q, hq⟩ : ∃ q, (mk 2 p.2.2).1 = q := ⟨_, rfl⟩
      have eq_ : Value.int .i64 (((strOfNums (mk 2 p.2.2).1).size : Nat) : Int) = .int .i64 ((q.length : Nat) : Int) := by rw [hq, str_len]
      have hql := mk_len (d := 2) (by omega) p.2.2
      rw [hq] at hql
      by_cases h4 : i < 4 ∧ q.length ≤ 64
      · have hst : picks (rlOf rows) (i + 1) = rs ++ [p.2.2] := by
          conv => lhs; unfold picks
          rw [if_pos ⟨h4.1, by rw [hri, hq]; exact h4.2⟩, hrs, hri]
        have e40 : Value.bool (decide ((i : Int) < 4)) = .bool true := congrArg Value.bool (decide_eq_true (by omega))
        have e44 : Value.bool (decide (((q.length : Nat) : Int) ≤ 64)) = .bool true := congrArg Value.bool (decide_eq_true (by omega))
        refine T_seq ?_
        refine T_region ?_
        refine TL_p (PV_bin rfl rfl bin_lss) ?_
        refine TL_nil ?_
        refine T_seq ?_
        refine T_then rfl (by exact decide_eq_true (by omega)) ?_
        refine T_skip ?_
        refine T_seq ?_
        refine T_block ?_
        refine T_seq ?_
        refine T_region ?_
        refine TL_p (PV_move rfl) ?_
        refine TL_p (PV_indexAddr Tryd.underlying60 sz22 rfl rfl rfl (by first | omega | decide | assumption)) ?_
        refine TL_p (PV_load Tryd.underlying22 rfl rfl hR1) ?_
        refine TL_p (PV_assign rfl) ?_
        refine TL_p (PV_assign rfl) ?_
        refine TL_nil ?_
        refine T_seq ?_
        refine T_region ?_
        refine TL_p (PV_move rfl) ?_
        refine TL_cons rfl (TO_mk (d := 2) (by omega) (hpS.mono fun w h => h.sub (hZ.trans (by repeat (first | exact Sb.r | exact Sb.ar | exact Sb.al | apply Sb.d | refine Sb.t ?_)))) rfl hpc hpm hpu rfl rfl fun v36 N36 hv36 => ?_)
        refine TL_p (PV_move rfl) ?_
        refine TL_p (PV_extract rfl rfl) ?_
        refine TL_p (PV_extract rfl rfl) ?_
        refine TL_cons rfl (TO_alloc rfl zr30 fun g1002 => ?_)
        refine TL_p (PV_assign rfl) ?_
        refine TL_cons rfl (TO_store 0 rfl rfl rfl sz30 rfl rfl rfl (all_one rfl) (by first | exact Nat.le_of_ble_eq_true rfl | (simp; done) | (simp; omega) | omega) ?_)
        refine TL_nil ?_
        refine T_seq ?_
        refine T_region ?_
        refine TL_p (PV_move rfl) ?_
        refine TL_p (PV.cast (PV_bin rfl rfl bin_lss) e40) ?_
        refine TL_p (PV_move rfl) ?_
        refine TL_yes rfl rfl rfl (TO_pure rfl (PV_move rfl) ?_)
        refine TL_yes rfl rfl rfl (TO_pure rfl (PV.cast (PV_len_string Tryd.underlying9 rfl) eq_) ?_)
        refine TL_yes rfl rfl rfl (TO_pure rfl (PV.cast (PV_bin rfl rfl bin_leq) e44) ?_)
        refine TL_p (PV_pickAnd rfl rfl rfl) ?_
        refine TL_nil ?_
        refine T_then rfl (by rfl) ?_
        refine T_drawnE2 1 2 mixed ?_
        refine TA_p 0 rfl (by kernel_rfl) (PV_move rfl) ?_
        refine TA_p 1 rfl (by kernel_rfl) (PV_move rfl) ?_
        refine TA_p 4 rfl (by kernel_rfl) (PV_move rfl) ?_
        refine TA_p 5 rfl (by kernel_rfl) (PV_loadAt Tryd.underlying30 rfl sz30 rfl (Rds.take 0 rfl rfl rfl)) ?_
        refine TA_hardG (rs := [2, 6]) (by kernel_rfl) (by decide) ?_
        refine List.forall_mem_cons.2 ⟨?w1004q100_2, List.forall_mem_cons.2 ⟨?w1004q100_6, by simp⟩⟩
        refine ⟨_, rfl, Or.inl rfl, (TO_bs (cs := [_]) Tryd.underlying52 zs9 (by decide) rfl rfl rfl rfl rfl rfl fun g1005 => ?_)⟩
        refine ⟨fun _ h => h.sub (by (repeat (first | exact Sb.r | exact Sb.ar | exact Sb.al | apply Sb.c | apply Sb.d | refine Sb.t ?_)); done), ?_⟩
        refine TA_hardG (rs := [3, 6]) (by kernel_rfl) (by decide) ?_
        refine List.forall_mem_cons.2 ⟨?w1007q100_3, List.forall_mem_cons.2 ⟨?w1007q100_6, by simp⟩⟩
        refine ⟨_, rfl, Or.inl rfl, (TO_append 2 rfl Tryd.underlying52 zb9 rfl (by decide) rfl rfl rfl (Shows.at 0 rfl) ?oc1008q100 ?bb1008q100 ?bc1008q100 fun A1008 c1008 hc1008 => ?_)⟩
        case oc1008q100 => (simp [Value.oneCell', wv])
        case bb1008q100 => omega
        case bc1008q100 => omega
        refine ⟨fun _ h => h.sub (by (repeat (first | exact Sb.r | exact Sb.ar | exact Sb.al | apply Sb.c | apply Sb.d | refine Sb.t ?_)); done), ?_⟩
        refine TA_one 6 (by kernel_rfl) rfl rfl (TO_bs (cs := [_, _, _, _, _, _]) Tryd.underlying28 zs30 (by decide) rfl rfl rfl rfl rfl rfl fun g1010 => ?_)
        refine ⟨fun _ h => h.sub (by (repeat (first | exact Sb.r | exact Sb.ar | exact Sb.al | apply Sb.c | apply Sb.d | refine Sb.t ?_)); done), ?_⟩
        refine TA_one 7 (by kernel_rfl) rfl rfl (TO_append 4 rfl Tryd.underlying28 zb30 rfl (by decide) rfl rfl rfl (Shows.at 0 rfl) ?oc1011q100 ?bb1011q100 ?bc1011q100 fun A1011 c1011 hc1011 => ?_)
        case oc1011q100 => (simp [Value.oneCell', wv])
        case bb1011q100 => omega
        case bc1011q100 => omega
        refine ⟨fun _ h => h.sub (by (repeat (first | exact Sb.r | exact Sb.ar | exact Sb.al | apply Sb.c | apply Sb.d | refine Sb.t ?_)); done), ?_⟩
        refine TA_p 8 rfl (by kernel_rfl) (PV_assign rfl) ?_
        refine TA_p 9 rfl (by kernel_rfl) (PV_assign rfl) ?_
        refine TA_done (by kernel_rfl) ?_
        refine T_region ?_
        refine TL_p (PV.cast (PV_bin rfl rfl bin_add) e54) ?_
        refine TL_p (PV_move rfl) ?_
        refine TL_nil ?_
        refine ?L11
        rotate_left 1
        refine ⟨_, rfl, Or.inl rfl, (TO_bs (cs := [_, _, _, _, _, _]) Tryd.underlying28 zs30 (by decide) rfl rfl rfl rfl rfl rfl fun g1009 => ?_)⟩
        refine ⟨fun _ h => h.sub (by (repeat (first | exact Sb.r | exact Sb.ar | exact Sb.al | apply Sb.c | apply Sb.d | refine Sb.t ?_)); done), ?_⟩
        refine TA_one 3 (by kernel_rfl) rfl rfl (TO_append 3 rfl Tryd.underlying52 zb9 rfl (by decide) rfl rfl rfl (Shows.at 1 rfl) ?oc1012q100 ?bb1012q100 ?bc1012q100 fun A1012 c1012 hc1012 => ?_)
        case oc1012q100 => (simp [Value.oneCell', wv])
        case bb1012q100 => omega
        case bc1012q100 => omega
        refine ⟨fun _ h => h.sub (by (repeat (first | exact Sb.r | exact Sb.ar | exact Sb.al | apply Sb.c | apply Sb.d | refine Sb.t ?_)); done), ?_⟩
        refine TA_one 7 (by kernel_rfl) rfl rfl (TO_append 4 rfl Tryd.underlying28 zb30 rfl (by decide) rfl rfl rfl (Shows.at 0 rfl) ?oc1013q100 ?bb1013q100 ?bc1013q100 fun A1013 c1013 hc1013 => ?_)
        case oc1013q100 => (simp [Value.oneCell', wv])
        case bb1013q100 => omega
        case bc1013q100 => omega
        refine ⟨fun _ h => h.sub (by (repeat (first | exact Sb.r | exact Sb.ar | exact Sb.al | apply Sb.c | apply Sb.d | refine Sb.t ?_)); done), ?_⟩
        refine TA_p 8 rfl (by kernel_rfl) (PV_assign rfl) ?_
        refine TA_p 9 rfl (by kernel_rfl) (PV_assign rfl) ?_
        refine TA_done (by kernel_rfl) ?_
        refine T_region ?_
        refine TL_p (PV.cast (PV_bin rfl rfl bin_add) e54) ?_
        refine TL_p (PV_move rfl) ?_
        refine TL_nil ?_
        refine ?L12
        rotate_left 1
        refine ⟨_, rfl, Or.inl rfl, (TO_bs (cs := [_, _, _, _, _, _]) Tryd.underlying28 zs30 (by decide) rfl rfl rfl rfl rfl rfl fun g1006 => ?_)⟩
        refine ⟨fun _ h => h.sub (by (repeat (first | exact Sb.r | exact Sb.ar | exact Sb.al | apply Sb.c | apply Sb.d | refine Sb.t ?_)); done), ?_⟩
        refine TA_one 2 (by kernel_rfl) rfl rfl (TO_bs (cs := [_]) Tryd.underlying52 zs9 (by decide) rfl rfl rfl rfl rfl rfl fun g1014 => ?_)
        refine ⟨fun _ h => h.sub (by (repeat (first | exact Sb.r | exact Sb.ar | exact Sb.al | apply Sb.c | apply Sb.d | refine Sb.t ?_)); done), ?_⟩
        refine TA_one 3 (by kernel_rfl) rfl rfl (TO_append 3 rfl Tryd.underlying52 zb9 rfl (by decide) rfl rfl rfl (Shows.at 0 rfl) ?oc1015q100 ?bb1015q100 ?bc1015q100 fun A1015 c1015 hc1015 => ?_)
        case oc1015q100 => (simp [Value.oneCell', wv])
        case bb1015q100 => omega
        case bc1015q100 => omega
        refine ⟨fun _ h => h.sub (by (repeat (first | exact Sb.r | exact Sb.ar | exact Sb.al | apply Sb.c | apply Sb.d | refine Sb.t ?_)); done), ?_⟩
        refine TA_one 7 (by kernel_rfl) rfl rfl (TO_append 4 rfl Tryd.underlying28 zb30 rfl (by decide) rfl rfl rfl (Shows.at 1 rfl) ?oc1016q100 ?bb1016q100 ?bc1016q100 fun A1016 c1016 hc1016 => ?_)
        case oc1016q100 => (simp [Value.oneCell', wv])
        case bb1016q100 => omega
        case bc1016q100 => omega
        refine ⟨fun _ h => h.sub (by (repeat (first | exact Sb.r | exact Sb.ar | exact Sb.al | apply Sb.c | apply Sb.d | refine Sb.t ?_)); done), ?_⟩
        refine TA_p 8 rfl (by kernel_rfl) (PV_assign rfl) ?_
        refine TA_p 9 rfl (by kernel_rfl) (PV_assign rfl) ?_
        refine TA_done (by kernel_rfl) ?_
        refine T_region ?_
        refine TL_p (PV.cast (PV_bin rfl rfl bin_add) e54) ?_
        refine TL_p (PV_move rfl) ?_
        refine TL_nil ?_
        refine ?L13
        all_goals
          have ht : trees (rs ++ [p.2.2]) = trees rs ++ [(mk 2 p.2.2).2.1] := by simp [trees]
          have hnd : Nodes (WH w0 B (Z ++ N36)) (trees (picks (rlOf rows) (i + 1))) (vs ++ [v36]) := by
            rw [hst, ht]
            exact hN.snoc hv36 (fun w h => h.sub (List.sublist_append_left _ _)) (fun w h => h.sub (List.sublist_append_right _ _))
          have hlen : (picks (rlOf rows) (i + 1)).length = rs.length + 1 := by rw [hst]; simp
          have hds : strs (txts (rs ++ [p.2.2])) = strs (txts rs) ++ [.string (strOfNums (mk 2 p.2.2).1)] := by simp [strs, txts]
          have hdn := ndC_snoc vs v36
          first
            | refine ⟨i + 1, A1008, c1008, A1011, c1011, vs ++ [v36], Z ++ N36, ⟨?_, ?_, ?_, ?_, hnd⟩, ?_, ?_, ?_⟩
            | refine ⟨i + 1, A1012, c1012, A1013, c1013, vs ++ [v36], Z ++ N36, ⟨?_, ?_, ?_, ?_, hnd⟩, ?_, ?_, ?_⟩
            | refine ⟨i + 1, A1015, c1015, A1016, c1016, vs ++ [v36], Z ++ N36, ⟨?_, ?_, ?_, ?_, hnd⟩, ?_, ?_, ?_⟩
          · omega
          · rw [hlen]; assumption
          · rw [hlen]; assumption
          · exact hZ.trans (List.sublist_append_left _ _)
          · omega
          · rw [hlen]; exact (by repeat (first | exact FrSub.nil _ | refine FrSub.cons rfl ?_))
          · rw [hlen, hst, hds, hdn]; exact Has.of_perm ((perm_pick (i := 3) rfl).trans (List.Perm.cons _ ((perm_pick (i := 3) rfl).trans (List.Perm.cons _ (List.Perm.refl _))))) (by repeat (first | exact Sb.r | exact Sb.ar | exact Sb.al | apply Sb.c | apply Sb.d | refine Sb.t ?_))
      · have hst : picks (rlOf rows) (i + 1) = rs := by
          conv => lhs; unfold picks
          rw [if_neg (by rw [hri, hq]; exact h4), hrs]
        by_cases h5 : i < 4
        · have e40 : Value.bool (decide ((i : Int) < 4)) = .bool true := congrArg Value.bool (decide_eq_true (by omega))
          have e44 : Value.bool (decide (((q.length : Nat) : Int) ≤ 64)) = .bool false := congrArg Value.bool (decide_eq_false (by omega))
          refine T_seq ?_
          refine T_region ?_
          refine TL_p (PV_bin rfl rfl bin_lss) ?_
          refine TL_nil ?_
          refine T_seq ?_
          refine T_then rfl (by exact decide_eq_true (by omega)) ?_
          refine T_skip ?_
          refine T_seq ?_
          refine T_block ?_
          refine T_seq ?_
          refine T_region ?_
          refine TL_p (PV_move rfl) ?_
          refine TL_p (PV_indexAddr Tryd.underlying60 sz22 rfl rfl rfl (by first | omega | decide | assumption)) ?_
          refine TL_p (PV_load Tryd.underlying22 rfl rfl hR1) ?_
          refine TL_p (PV_assign rfl) ?_
          refine TL_p (PV_assign rfl) ?_
          refine TL_nil ?_
          refine T_seq ?_
          refine T_region ?_
          refine TL_p (PV_move rfl) ?_
          refine TL_cons rfl (TO_mk (d := 2) (by omega) (hpS.mono fun w h => h.sub (hZ.trans (by repeat (first | exact Sb.r | exact Sb.ar | exact Sb.al | apply Sb.d | refine Sb.t ?_)))) rfl hpc hpm hpu rfl rfl fun v36 N36 hv36 => ?_)
          refine TL_p (PV_move rfl) ?_
          refine TL_p (PV_extract rfl rfl) ?_
          refine TL_p (PV_extract rfl rfl) ?_
          refine TL_cons rfl (TO_alloc rfl zr30 fun g3002 => ?_)
          refine TL_p (PV_assign rfl) ?_
          refine TL_cons rfl (TO_store 0 rfl rfl rfl sz30 rfl rfl rfl (all_one rfl) (by first | exact Nat.le_of_ble_eq_true rfl | (simp; done) | (simp; omega) | omega) ?_)
          refine TL_nil ?_
          refine T_seq ?_
          refine T_region ?_
          refine TL_p (PV_move rfl) ?_
          refine TL_p (PV.cast (PV_bin rfl rfl bin_lss) e40) ?_
          refine TL_p (PV_move rfl) ?_
          refine TL_yes rfl rfl rfl (TO_pure rfl (PV_move rfl) ?_)
          refine TL_yes rfl rfl rfl (TO_pure rfl (PV.cast (PV_len_string Tryd.underlying9 rfl) eq_) ?_)
          refine TL_yes rfl rfl rfl (TO_pure rfl (PV.cast (PV_bin rfl rfl bin_leq) e44) ?_)
          refine TL_p (PV_pickAnd rfl rfl rfl) ?_
          refine TL_nil ?_
          refine T_else rfl (by rfl) ?_
          refine T_skip ?_
          refine T_region ?_
          refine TL_p (PV.cast (PV_bin rfl rfl bin_add) e54) ?_
          refine TL_p (PV_move rfl) ?_
          refine TL_nil ?_
          refine ?L31
          all_goals exact ⟨i + 1, Ap, cp, An, cn, vs, Z, ⟨by omega, by rw [hst]; exact hcp, by rw [hst]; exact hcn, hZ, by rw [hst]; exact hN⟩, by omega, by rw [hst]; exact (by repeat (first | exact FrSub.nil _ | refine FrSub.cons rfl ?_)), by rw [hst]; exact Has.of_sub (by repeat (first | exact Sb.r | exact Sb.ar | exact Sb.al | apply Sb.c | apply Sb.d | refine Sb.t ?_))⟩
        · have e40 : Value.bool (decide ((i : Int) < 4)) = .bool false := congrArg Value.bool (decide_eq_false (by omega))
          refine T_seq ?_
          refine T_region ?_
          refine TL_p (PV_bin rfl rfl bin_lss) ?_
          refine TL_nil ?_
          refine T_seq ?_
          refine T_then rfl (by exact decide_eq_true (by omega)) ?_
          refine T_skip ?_
          refine T_seq ?_
          refine T_block ?_
          refine T_seq ?_
          refine T_region ?_
          refine TL_p (PV_move rfl) ?_
          refine TL_p (PV_indexAddr Tryd.underlying60 sz22 rfl rfl rfl (by first | omega | decide | assumption)) ?_
          refine TL_p (PV_load Tryd.underlying22 rfl rfl hR1) ?_
          refine TL_p (PV_assign rfl) ?_
          refine TL_p (PV_assign rfl) ?_
          refine TL_nil ?_
          refine T_seq ?_
          refine T_region ?_
          refine TL_p (PV_move rfl) ?_
          refine TL_cons rfl (TO_mk (d := 2) (by omega) (hpS.mono fun w h => h.sub (hZ.trans (by repeat (first | exact Sb.r | exact Sb.ar | exact Sb.al | apply Sb.d | refine Sb.t ?_)))) rfl hpc hpm hpu rfl rfl fun v36 N36 hv36 => ?_)
          refine TL_p (PV_move rfl) ?_
          refine TL_p (PV_extract rfl rfl) ?_
          refine TL_p (PV_extract rfl rfl) ?_
          refine TL_cons rfl (TO_alloc rfl zr30 fun g5002 => ?_)
          refine TL_p (PV_assign rfl) ?_
          refine TL_cons rfl (TO_store 0 rfl rfl rfl sz30 rfl rfl rfl (all_one rfl) (by first | exact Nat.le_of_ble_eq_true rfl | (simp; done) | (simp; omega) | omega) ?_)
          refine TL_nil ?_
          refine T_seq ?_
          refine T_region ?_
          refine TL_p (PV_move rfl) ?_
          refine TL_p (PV.cast (PV_bin rfl rfl bin_lss) e40) ?_
          refine TL_p (PV_move rfl) ?_
          refine TL_no (b := false) rfl rfl rfl rfl ?_
          refine TL_no (b := false) rfl rfl rfl rfl ?_
          refine TL_no (b := false) rfl rfl rfl rfl ?_
          refine TL_p (PV_pickF rfl (by first | assumption | rfl | (simp; done) | (simp; omega) | (simp [*]; done) | (simp [*]; omega)) rfl rfl) ?_
          refine TL_nil ?_
          refine T_else rfl (by rfl) ?_
          refine T_skip ?_
          refine T_region ?_
          refine TL_p (PV.cast (PV_bin rfl rfl bin_add) e54) ?_
          refine TL_p (PV_move rfl) ?_
          refine TL_nil ?_
          refine ?L51
          all_goals exact ⟨i + 1, Ap, cp, An, cn, vs, Z, ⟨by omega, by rw [hst]; exact hcp, by rw [hst]; exact hcn, hZ, by rw [hst]; exact hN⟩, by omega, by rw [hst]; exact (by repeat (first | exact FrSub.nil _ | refine FrSub.cons rfl ?_)), by rw [hst]; exact Has.of_sub (by repeat (first | exact Sb.r | exact Sb.ar | exact Sb.al | apply Sb.c | apply Sb.d | refine Sb.t ?_))⟩
    · obtain rfl : i = rows.length := by omega
      refine T_seq ?_
      refine T_region ?_
      refine TL_p (PV_bin rfl rfl bin_lss) ?_
      refine TL_nil ?_
      refine T_seq ?_
      refine T_else rfl (by (simp; done)) ?_
      refine T_exit ?_
      refine T_seq ?_
      refine T_region ?_
      refine TL_p (PV_move rfl) ?_
      refine ?L71
      case L71 =>
        have hps := picks_ok (rows := rlOf rows) (fun r hr => by obtain ⟨p, hp, rfl⟩ := List.mem_map.1 hr; exact (hR.all p hp).2.2.2) rows.length
        rw [hrs] at hps
        have hqm : (txts rs).length = rs.length := by simp [txts]
        have htl : (trees rs).length = rs.length := by simp [trees]
        have hget : ∀ i, (hi : i < rs.length) → (txts rs).getD i [] = (mk 2 rs[i]).1 ∧ (trees rs).getD i .nothing = (mk 2 rs[i]).2.1 := fun i hi => by simp [txts, trees, List.getD_eq_getElem?_getD, hi]
        have hNul : ∀ i, i < rs.length → NulOk ((txts rs).getD i []) ((trees rs).getD i .nothing) := fun i hi => by
          obtain ⟨h1, h2⟩ := hget i hi
          obtain ⟨h3, h4⟩ := hps rs[i] (List.getElem_mem _)
          have hsm := mk_small (d := 2) (by omega) rs[i]
          rw [h1, h2]
          exact ⟨mk_txt8 2 _ h3, h4, ⟨_, mk_parse (by omega) h3⟩, by omega, by omega⟩
        have e84 : True := trivial
        have hzz : rs.length = 0 ∨ 1 ≤ rs.length := by omega
        rcases hzz with hz | hz
        · obtain rfl : rs = [] := List.eq_nil_of_length_eq_zero hz
          have e62 : Value.bool ((((([] : List (List Int)).length : Nat)) : Int) == 0) = .bool true := rfl
          refine TL_cons rfl (TO_eqD call23 Of0_t rfl rfl _ (List.Sublist.refl _) ?_)
          refine TL_p (PV_move rfl) ?_
          refine TL_p (PV_extract rfl rfl) ?_
          refine TL_p (PV_extract rfl rfl) ?_
          refine TL_p (PV_assign rfl) ?_
          refine TL_p (PV_assign rfl) ?_
          refine TL_nil ?_
          refine T_seq ?_
          refine T_seq ?_
          refine T_region ?_
          refine TL_p (PV_move rfl) ?_
          refine TL_p (PV_len_slice Tryd.underlying52 rfl) ?_
          refine TL_p (PV.cast (PV_bin rfl rfl bin_eql) e62) ?_
          refine TL_nil ?_
          refine T_then rfl (by rfl) ?_
          refine T_seq ?_
          refine T_region ?_
          refine TL_p (PV_move rfl) ?_
          refine TL_cons rfl (TO_call0 call13 rfl rfl (number_t ?sd8003q166_0 ?sd8003q166_1 _) ?_)
          case sd8003q166_0 => exact hL
          case sd8003q166_1 => exact hB0
          rintro v64_8004 H64_8004 ⟨rfl, rfl⟩
          refine TL_p (PV_bin rfl rfl bin_eql) ?_
          refine TL_p (PV_assign rfl) ?_
          refine TL_nil ?_
          refine ?L81
          all_goals exact T_ret (ret_ret (ResV_one rfl rfl) ⟨H, hZ.trans (List.Sublist.cons _ (List.Sublist.cons _ (List.Sublist.refl _))), rfl, rfl⟩)
        · have e62 : Value.bool (((rs.length : Nat) : Int) == 0) = .bool false := congrArg Value.bool (by rw [beq_eq_false_iff_ne]; omega)
          have hall : (∀ i, i < rs.length → nul ((trees rs).getD i .nothing) = false) ∨ ∃ k, k < rs.length ∧ (∀ i, i < k → nul ((trees rs).getD i .nothing) = false) ∧ nul ((trees rs).getD k .nothing) = true := by
            rcases first_no (fun i => nul ((trees rs).getD i .nothing)) rs.length with h | h
            · exact .inl h
            · exact .inr h
          rcases hall with hall | ⟨k, hk, hno, hy⟩
          · have hpats : ∀ i, i < rs.length → PatOk ((txts rs).getD i []) ((trees rs).getD i .nothing) := fun i hi => by
              obtain ⟨h1, h2, h3, h4, h5⟩ := hNul i hi
              exact ⟨h1, h2, h3, hall i hi, h4, h5⟩
            refine TL_cons rfl (TO_OfWR (Hf := [.sl (.slice Ap rs.length cp) 1 rs.length (strs (txts rs))]) (HR := .sl (.slice An rs.length cn) 6 rs.length (ndC vs) :: Z) (qs := txts rs) (ts := trees rs) (m := rs.length) (c := cp) (A := Ap) (List.Perm.refl _) (Shows.at 0 rfl) hqm (by omega) (by omega) hcp htl hpats rfl rfl fun gw gT gA cT cA gs vs0 Z0 hW0 => ?_)
            refine TL_p (PV_move rfl) ?_
            refine TL_p (PV_extract rfl rfl) ?_
            refine TL_p (PV_extract rfl rfl) ?_
            refine TL_p (PV_assign rfl) ?_
            refine TL_p (PV_assign rfl) ?_
            refine TL_nil ?_
            refine T_seq ?_
            refine T_seq ?_
            refine T_region ?_
            refine TL_p (PV_move rfl) ?_
            refine TL_p (PV_len_slice Tryd.underlying52 rfl) ?_
            refine TL_p (PV.cast (PV_bin rfl rfl bin_eql) e62) ?_
            refine TL_nil ?_
            refine T_else rfl (by rfl) ?_
            refine T_skip ?_
            refine T_seq ?_
            refine T_seq ?_
            refine T_region ?_
            refine TL_p (PV_move rfl) ?_
            refine TL_p (PV_len_slice Tryd.underlying28 rfl) ?_
            refine TL_p (PV_move rfl) ?_
            refine TL_nil ?_
            refine T_block ?_
            refine ?L101
            case L101 =>
              refine T_loopP1 (fun (j : Nat) => j ≤ rs.length) (fun j => rs.length - j) (fun j => [(1, .slice A1 m1 c1), (6, .slice An rs.length cn), (11, .pointer (some ⟨gw, 0, none⟩)), (12, .nilIface), (66, .slice An rs.length cn), (67, .int .i64 (rs.length : Int)), (68, .int .i64 (j : Int))]) (fun j => .sl (.slice An rs.length cn) 6 rs.length (ndC vs) :: (Z ++ wB gw gT gA rs.length cT cA 0 false gs vs0 Z0)) 0 (Nat.zero_le _) (by repeat (first | exact FrSub.nil _ | refine FrSub.cons rfl ?_)) (Has.of_sub (by repeat (first | exact Sb.r | exact Sb.ar | exact Sb.al | apply Sb.c | apply Sb.d | refine Sb.t ?_))) ?_
              rintro j hj
              by_cases hjm : j < rs.length
              · have e82 : Value.int .i64 (IntKind.i64.wrap ((j : Int) + 1)) = .int .i64 ((j + 1 : Nat) : Int) := wr64n _ (by push_cast; rfl) (by omega)
                refine T_shows (Shows.at 0 rfl) (by rw [ndC_len]; omega) fun ga oa hA hr1 => ?_
                subst hA
                have hk0 := nd_rds hr1 (j := j) (by omega)
                have htr := hN.2 j (by omega)
                have hn0 := hall j hjm
                obtain ⟨hx1, hx2, hx3, hx4, hx5⟩ := hNul j hjm
                have hem := fun {X : List Chunk} {g : Nat} (hT : Tab (WH w0 B X) g ((trees rs).getD j .nothing)) => (Empty_t (w0 := w0) (B := B) (H := X) hT).mono (R' := fun r H' => r = .bool false ∧ H' = X) fun r h q => ⟨by rw [← hn0]; exact q.1, q.2⟩
                refine T_seq ?_
                refine T_region ?_
                refine TL_p (PV_bin rfl rfl bin_lss) ?_
                refine TL_nil ?_
                refine T_seq ?_
                refine T_then rfl (by exact decide_eq_true (by omega)) ?_
                refine T_skip ?_
                refine T_seq ?_
                refine T_block ?_
                refine T_seq ?_
                refine T_region ?_
                refine TL_p (PV_indexAddr Tryd.underlying28 sz30 rfl rfl rfl (by first | omega | decide | assumption)) ?_
                refine TL_p (PV_loadAt Tryd.underlying30 rfl sz30 rfl hk0) ?_
                refine TL_cons rfl (TO_alloc rfl zr30 fun g11001 => ?_)
                refine TL_cons rfl (TO_store 0 rfl rfl rfl sz30 rfl rfl rfl (all_one rfl) (by first | exact Nat.le_of_ble_eq_true rfl | (simp; done) | (simp; omega) | omega) ?_)
                refine TL_nil ?_
                refine T_seq ?_
                refine T_region ?_
                refine TL_p (PV_loadAt Tryd.underlying30 rfl sz30 rfl (Rds.take 0 rfl rfl rfl)) ?_
                refine TL_cons rfl (TO_Of (htr.mono fun w h => h.sub ((List.sublist_append_left Z _).trans (by repeat (first | exact Sb.r | exact Sb.ar | exact Sb.al | apply Sb.d | refine Sb.t ?_)))) (by omega) (by omega) rfl rfl fun g73 N73 hT73 => ?_)
                refine TL_cons rfl (TO_eqD call25 (hem (hT73.mono fun w h => h.sub (by repeat (first | exact Sb.r | exact Sb.ar | exact Sb.al | apply Sb.d | refine Sb.t ?_)))) rfl rfl _ (List.Sublist.refl _) ?_)
                refine TL_nil ?_
                refine T_else rfl (by rfl) ?_
                refine T_skip ?_
                refine T_region ?_
                refine TL_p (PV.cast (PV_bin rfl rfl bin_add) e82) ?_
                refine TL_p (PV_move rfl) ?_
                refine TL_nil ?_
                refine ?L111
                all_goals exact ⟨j + 1, by omega, by omega, (by repeat (first | exact FrSub.nil _ | refine FrSub.cons rfl ?_)), Has.of_sub (by repeat (first | exact Sb.r | exact Sb.ar | exact Sb.al | apply Sb.c | apply Sb.d | refine Sb.t ?_))⟩
              · obtain rfl : j = rs.length := by omega
                obtain ⟨s, hs⟩ : ∃ s, txt l1 m1 = s := ⟨_, rfl⟩
                have hls := txt_len l1 m1
                have hms := txt_mem hu1 m1
                rw [hs] at hms hls
                have hus : U8s s := fun x hx => by have := hms x hx; omega
                have es : Value.int .i64 (((strOfNums s).size : Nat) : Int) = .int .i64 ((s.length : Nat) : Int) := by rw [str_len]
                have e89 : Value.int .i64 (IntKind.i64.wrap (((s.length : Nat) : Int) + 1)) = .int .i64 ((s.length + 1 : Nat) : Int) := wr64n _ (by push_cast; rfl) (by omega)
                refine T_seq ?_
                refine T_region ?_
                refine TL_p (PV_bin rfl rfl bin_lss) ?_
                refine TL_nil ?_
                refine T_seq ?_
                refine T_else rfl (by (simp; done)) ?_
                refine T_exit ?_
                refine T_seq ?_
                refine T_seq ?_
                refine T_region ?_
                refine TL_p (PV_move rfl) ?_
                refine TL_p (PV_bin rfl rfl (bin_nil_nnil Tryd.underlying34)) ?_
                refine TL_nil ?_
                refine T_else rfl (by rfl) ?_
                refine T_skip ?_
                refine T_seq ?_
                refine T_region ?_
                refine TL_p (PV_move rfl) ?_
                refine TL_cons rfl (TO_eqD call28 (Text_v hs (hS1.mono fun w h => h.sub (hZ.trans ((List.sublist_append_left Z _).trans (by repeat (first | exact Sb.r | exact Sb.ar | exact Sb.al | apply Sb.d | refine Sb.t ?_))))) hm1 hl1 hc1 hu1) rfl rfl _ (List.Sublist.refl _) ?_)
                refine TL_p (PV_assign rfl) ?_
                refine TL_nil ?_
                refine T_seq ?_
                refine T_region ?_
                refine TL_p (PV_move rfl) ?_
                refine TL_p (PV.cast (PV_len_string Tryd.underlying9 rfl) es) ?_
                refine TL_p (PV.cast (PV_bin rfl rfl bin_add) e89) ?_
                refine TL_p (PV_assign rfl) ?_
                refine TL_p (PV_assign rfl) ?_
                refine TL_nil ?_
                refine T_seq ?_
                refine T_seq ?_
                refine T_region ?_
                refine TL_p (PV_move rfl) ?_
                refine TL_p (PV_len_slice Tryd.underlying28 rfl) ?_
                refine TL_p (PV_move rfl) ?_
                refine TL_nil ?_
                refine T_block ?_
                refine ?L121
                case L121 =>
                  refine T_loopP1 (fun (j : Nat) => j ≤ rs.length) (fun j => rs.length - j) (fun j => [(11, .pointer (some ⟨gw, 0, none⟩)), (15, .string (strOfNums s)), (16, .int .i64 (bestV (bat (trees rs) s j).1)), (17, .int .i64 ((bat (trees rs) s j).2 : Int)), (90, .slice An rs.length cn), (91, .int .i64 (rs.length : Int)), (92, .int .i64 (j : Int))]) (fun j => .sl (.slice An rs.length cn) 6 rs.length (ndC vs) :: (Z ++ wB gw gT gA rs.length cT cA 0 false gs vs0 Z0)) 0 (Nat.zero_le _) (by repeat (first | exact FrSub.nil _ | refine FrSub.cons rfl ?_)) (Has.of_sub (by repeat (first | exact Sb.r | exact Sb.ar | exact Sb.al | apply Sb.c | apply Sb.d | refine Sb.t ?_))) ?_
                  clear hj hjm
                  rintro j hj
                  by_cases hjm : j < rs.length
                  · have e111 : Value.int .i64 (IntKind.i64.wrap ((j : Int) + 1)) = .int .i64 ((j + 1 : Nat) : Int) := wr64n _ (by push_cast; rfl) (by omega)
                    refine T_shows (Shows.at 0 rfl) (by rw [ndC_len]; omega) fun ga oa hA hr1 => ?_
                    subst hA
                    have hk0 := nd_rds hr1 (j := j) (by omega)
                    have htr := hN.2 j (by omega)
                    obtain ⟨bp, hbp⟩ : ∃ bp, bat (trees rs) s j = bp := ⟨_, rfl⟩
                    have hbi := (bat_inv (trees rs) s j).2.1
                    rw [hbp] at hbi ⊢
                    cases hf : fo ((trees rs).getD j .nothing) s with
                    | none =>
                      have hb2 : bat (trees rs) s (j + 1) = bp := (bat_none hf).trans hbp
                      refine T_seq ?_
                      refine T_region ?_
                      refine TL_p (PV_bin rfl rfl bin_lss) ?_
                      refine TL_nil ?_
                      refine T_seq ?_
                      refine T_then rfl (by exact decide_eq_true (by omega)) ?_
                      refine T_skip ?_
                      refine T_seq ?_
                      refine T_block ?_
                      refine T_seq ?_
                      refine T_region ?_
                      refine TL_p (PV_move rfl) ?_
                      refine TL_p (PV_indexAddr Tryd.underlying28 sz30 rfl rfl rfl (by first | omega | decide | assumption)) ?_
                      refine TL_p (PV_loadAt Tryd.underlying30 rfl sz30 rfl hk0) ?_
                      refine TL_cons rfl (TO_alloc rfl zr30 fun g13001 => ?_)
                      refine TL_p (PV_assign rfl) ?_
                      refine TL_cons rfl (TO_store 0 rfl rfl rfl sz30 rfl rfl rfl (all_one rfl) (by first | exact Nat.le_of_ble_eq_true rfl | (simp; done) | (simp; omega) | omega) ?_)
                      refine TL_nil ?_
                      refine T_seq ?_
                      refine T_region ?_
                      refine TL_p (PV_loadAt Tryd.underlying30 rfl sz30 rfl (Rds.take 0 rfl rfl rfl)) ?_
                      refine TL_p (PV_move rfl) ?_
                      refine TL_cons rfl (TO_eqD call29 (First_gen (htr.mono fun w h => h.sub ((List.sublist_append_left Z _).trans (by repeat (first | exact Sb.r | exact Sb.ar | exact Sb.al | apply Sb.d | refine Sb.t ?_)))) hus (by omega) hf rfl) rfl rfl _ (List.Sublist.refl _) ?_)
                      refine TL_p (PV_move rfl) ?_
                      refine TL_p (PV_extract rfl rfl) ?_
                      refine TL_p (PV_extract rfl rfl) ?_
                      refine TL_p (PV_assign rfl) ?_
                      refine TL_p (PV_assign rfl) ?_
                      refine TL_nil ?_
                      refine T_seq ?_
                      refine T_region ?_
                      refine TL_p (PV_move rfl) ?_
                      refine TL_p (PV_move rfl) ?_
                      refine TL_no (b := false) rfl rfl rfl rfl ?_
                      refine TL_no (b := false) rfl rfl rfl rfl ?_
                      refine TL_no (b := false) rfl rfl rfl rfl ?_
                      refine TL_p (PV_pickF rfl (by first | assumption | rfl | (simp; done) | (simp; omega) | (simp [*]; done) | (simp [*]; omega)) rfl rfl) ?_
                      refine TL_nil ?_
                      refine T_else rfl (by rfl) ?_
                      refine T_skip ?_
                      refine T_region ?_
                      refine TL_p (PV.cast (PV_bin rfl rfl bin_add) e111) ?_
                      refine TL_p (PV_move rfl) ?_
                      refine TL_nil ?_
                      refine ?L131
                      all_goals exact ⟨j + 1, by omega, by omega, by rw [hb2]; exact (by repeat (first | exact FrSub.nil _ | refine FrSub.cons rfl ?_)), Has.of_sub (by repeat (first | exact Sb.r | exact Sb.ar | exact Sb.al | apply Sb.c | apply Sb.d | refine Sb.t ?_))⟩
                    | some kk =>
                      by_cases hlt : kk < bp.2
                      · have hb2 : bat (trees rs) s (j + 1) = (some j, kk) := bat_lt hf (by rw [hbp]; exact hlt)
                        have e107 : Value.bool (decide ((kk : Int) < (bp.2 : Int))) = .bool true := congrArg Value.bool (decide_eq_true (by omega))
                        refine T_seq ?_
                        refine T_region ?_
                        refine TL_p (PV_bin rfl rfl bin_lss) ?_
                        refine TL_nil ?_
                        refine T_seq ?_
                        refine T_then rfl (by exact decide_eq_true (by omega)) ?_
                        refine T_skip ?_
                        refine T_seq ?_
                        refine T_block ?_
                        refine T_seq ?_
                        refine T_region ?_
                        refine TL_p (PV_move rfl) ?_
                        refine TL_p (PV_indexAddr Tryd.underlying28 sz30 rfl rfl rfl (by first | omega | decide | assumption)) ?_
                        refine TL_p (PV_loadAt Tryd.underlying30 rfl sz30 rfl hk0) ?_
                        refine TL_cons rfl (TO_alloc rfl zr30 fun g14001 => ?_)
                        refine TL_p (PV_assign rfl) ?_
                        refine TL_cons rfl (TO_store 0 rfl rfl rfl sz30 rfl rfl rfl (all_one rfl) (by first | exact Nat.le_of_ble_eq_true rfl | (simp; done) | (simp; omega) | omega) ?_)
                        refine TL_nil ?_
                        refine T_seq ?_
                        refine T_region ?_
                        refine TL_p (PV_loadAt Tryd.underlying30 rfl sz30 rfl (Rds.take 0 rfl rfl rfl)) ?_
                        refine TL_p (PV_move rfl) ?_
                        refine TL_cons rfl (TO_eqD call29 (First_gen (htr.mono fun w h => h.sub ((List.sublist_append_left Z _).trans (by repeat (first | exact Sb.r | exact Sb.ar | exact Sb.al | apply Sb.d | refine Sb.t ?_)))) hus (by omega) hf rfl) rfl rfl _ (List.Sublist.refl _) ?_)
                        refine TL_p (PV_move rfl) ?_
                        refine TL_p (PV_extract rfl rfl) ?_
                        refine TL_p (PV_extract rfl rfl) ?_
                        refine TL_p (PV_assign rfl) ?_
                        refine TL_p (PV_assign rfl) ?_
                        refine TL_nil ?_
                        refine T_seq ?_
                        refine T_region ?_
                        refine TL_p (PV_move rfl) ?_
                        refine TL_p (PV_move rfl) ?_
                        refine TL_yes rfl rfl rfl (TO_pure rfl (PV_move rfl) ?_)
                        refine TL_yes rfl rfl rfl (TO_pure rfl (PV_move rfl) ?_)
                        refine TL_yes rfl rfl rfl (TO_pure rfl (PV.cast (PV_bin rfl rfl bin_lss) e107) ?_)
                        refine TL_p (PV_pickAnd rfl rfl rfl) ?_
                        refine TL_nil ?_
                        refine T_then rfl (by rfl) ?_
                        refine T_region ?_
                        refine TL_p (PV_move rfl) ?_
                        refine TL_p (PV_move rfl) ?_
                        refine TL_p (PV_assign rfl) ?_
                        refine TL_p (PV_assign rfl) ?_
                        refine TL_nil ?_
                        refine T_region ?_
                        refine TL_p (PV.cast (PV_bin rfl rfl bin_add) e111) ?_
                        refine TL_p (PV_move rfl) ?_
                        refine TL_nil ?_
                        refine ?L141
                        all_goals exact ⟨j + 1, by omega, by omega, by rw [hb2]; exact (by repeat (first | exact FrSub.nil _ | refine FrSub.cons rfl ?_)), Has.of_sub (by repeat (first | exact Sb.r | exact Sb.ar | exact Sb.al | apply Sb.c | apply Sb.d | refine Sb.t ?_))⟩
                      · have hb2 : bat (trees rs) s (j + 1) = bp := (bat_ge hf (by rw [hbp]; exact hlt)).trans hbp
                        have e107 : Value.bool (decide ((kk : Int) < (bp.2 : Int))) = .bool false := congrArg Value.bool (decide_eq_false (by omega))
                        refine T_seq ?_
                        refine T_region ?_
                        refine TL_p (PV_bin rfl rfl bin_lss) ?_
                        refine TL_nil ?_
                        refine T_seq ?_
                        refine T_then rfl (by exact decide_eq_true (by omega)) ?_
                        refine T_skip ?_
                        refine T_seq ?_
                        refine T_block ?_
                        refine T_seq ?_
                        refine T_region ?_
                        refine TL_p (PV_move rfl) ?_
                        refine TL_p (PV_indexAddr Tryd.underlying28 sz30 rfl rfl rfl (by first | omega | decide | assumption)) ?_
                        refine TL_p (PV_loadAt Tryd.underlying30 rfl sz30 rfl hk0) ?_
                        refine TL_cons rfl (TO_alloc rfl zr30 fun g15001 => ?_)
                        refine TL_p (PV_assign rfl) ?_
                        refine TL_cons rfl (TO_store 0 rfl rfl rfl sz30 rfl rfl rfl (all_one rfl) (by first | exact Nat.le_of_ble_eq_true rfl | (simp; done) | (simp; omega) | omega) ?_)
                        refine TL_nil ?_
                        refine T_seq ?_
                        refine T_region ?_
                        refine TL_p (PV_loadAt Tryd.underlying30 rfl sz30 rfl (Rds.take 0 rfl rfl rfl)) ?_
                        refine TL_p (PV_move rfl) ?_
                        refine TL_cons rfl (TO_eqD call29 (First_gen (htr.mono fun w h => h.sub ((List.sublist_append_left Z _).trans (by repeat (first | exact Sb.r | exact Sb.ar | exact Sb.al | apply Sb.d | refine Sb.t ?_)))) hus (by omega) hf rfl) rfl rfl _ (List.Sublist.refl _) ?_)
                        refine TL_p (PV_move rfl) ?_
                        refine TL_p (PV_extract rfl rfl) ?_
                        refine TL_p (PV_extract rfl rfl) ?_
                        refine TL_p (PV_assign rfl) ?_
                        refine TL_p (PV_assign rfl) ?_
                        refine TL_nil ?_
                        refine T_seq ?_
                        refine T_region ?_
                        refine TL_p (PV_move rfl) ?_
                        refine TL_p (PV_move rfl) ?_
                        refine TL_yes rfl rfl rfl (TO_pure rfl (PV_move rfl) ?_)
                        refine TL_yes rfl rfl rfl (TO_pure rfl (PV_move rfl) ?_)
                        refine TL_yes rfl rfl rfl (TO_pure rfl (PV.cast (PV_bin rfl rfl bin_lss) e107) ?_)
                        refine TL_p (PV_pickAnd rfl rfl rfl) ?_
                        refine TL_nil ?_
                        refine T_else rfl (by rfl) ?_
                        refine T_skip ?_
                        refine T_region ?_
                        refine TL_p (PV.cast (PV_bin rfl rfl bin_add) e111) ?_
                        refine TL_p (PV_move rfl) ?_
                        refine TL_nil ?_
                        refine ?L151
                        all_goals exact ⟨j + 1, by omega, by omega, by rw [hb2]; exact (by repeat (first | exact FrSub.nil _ | refine FrSub.cons rfl ?_)), Has.of_sub (by repeat (first | exact Sb.r | exact Sb.ar | exact Sb.al | apply Sb.c | apply Sb.d | refine Sb.t ?_))⟩
                  · obtain rfl : j = rs.length := by omega
                    obtain ⟨hb1, hb2, hb3, hb4⟩ := bat_inv (trees rs) s rs.length
                    obtain ⟨bo, hbo⟩ : ∃ bo, (bat (trees rs) s rs.length).1 = bo := ⟨_, rfl⟩
                    obtain ⟨ap, hap⟩ : ∃ ap, (bat (trees rs) s rs.length).2 = ap := ⟨_, rfl⟩
                    rw [hbo, hap] at hb4 ⊢
                    rw [hap] at hb1 hb2 hb3
                    rw [hbo] at hb3
                    have hpos : 0 < ap := by
                      cases bo with
                      | none => have := hb3 rfl; omega
                      | some b =>
                        obtain ⟨q1, q2, q3, q4⟩ := hb4 b rfl
                        rcases Nat.eq_zero_or_pos ap with h | h
                        · rw [h, ends_0 (hall b q1)] at q3
                          cases q3
                        · exact h
                    refine T_seq ?_
                    refine T_region ?_
                    refine TL_p (PV_bin rfl rfl bin_lss) ?_
                    refine TL_nil ?_
                    refine T_seq ?_
                    refine T_else rfl (by (simp; done)) ?_
                    refine T_exit ?_
                    refine T_seq ?_
                    refine T_seq ?_
                    refine T_region ?_
                    refine TL_p (PV_assign rfl) ?_
                    refine TL_nil ?_
                    refine T_block ?_
                    refine ?L161
                    case L161 =>
                      refine T_loopP5 (fun (k : Nat) (ov : Bool) (seen : Nat) (vs1 : List Value) (Z1 : List Chunk) => k ≤ s.length ∧ (ov = false → seen = k ∧ k < ap ∧ Wk (WH w0 B Z1) (trees rs) gs (seqs (trees rs) s k) vs1 rs.length) ∧ (ov = true → ap ≤ k ∧ seen = ap)) (fun k _ _ _ _ => s.length - k) (fun k ov seen vs1 Z1 => [(11, .pointer (some ⟨gw, 0, none⟩)), (15, .string (strOfNums s)), (16, .int .i64 (bestV bo)), (17, .int .i64 (ap : Int)), (22, .int .i64 (k : Int))]) (fun k ov seen vs1 Z1 => wB gw gT gA rs.length cT cA seen ov gs vs1 Z1 ++ Z) 0 false 0 vs0 Z0 ⟨Nat.zero_le _, fun _ => ⟨rfl, hpos, by rw [seqs_0, htl]; exact hW0⟩, (fun h => nomatch h)⟩ (by repeat (first | exact FrSub.nil _ | refine FrSub.cons rfl ?_)) ⟨_, List.Perm.cons _ List.perm_append_comm, List.Sublist.cons _ (List.Sublist.refl _)⟩ ?_
                      rintro k ov seen vs1 Z1 ⟨hk, hov, hot⟩
                      by_cases hku : k < s.length
                      · have e117 : Value.int .i64 (IntKind.i64.wrap ((k : Int) + 1)) = .int .i64 ((k + 1 : Nat) : Int) := wr64n _ (by push_cast; rfl) (by omega)
                        have hrd := hus.at_ (k : Int)
                        obtain ⟨cb, hcb⟩ : ∃ cb : Nat, rd s (k : Int) = (cb : Int) := Int.eq_ofNat_of_zero_le hrd.1
                        have e122 : Value.int .u8 (rd s (k : Int)) = .int .u8 (cb : Int) := by rw [hcb]
                        have hE : ∀ j, j < rs.length → endsT ((trees rs).getD j .nothing) (stepL ((trees rs).getD j .nothing) ((seqs (trees rs) s k).getD j []) cb true) = eB ((trees rs).getD j .nothing) s (k + 1) := fun j hj => by
                          rw [seqs_get (by rw [htl]; exact hj), ← ends_seq (hall j hj) hku]
                          show _ = endsT _ (stepL _ _ (rd s (k : Int)).toNat true)
                          rw [hcb, Int.toNat_natCast]
                        have hput := fun i => seqs_put (ts := trees rs) (s := s) (k := k) hcb i
                        rw [htl] at hput
                        cases ov with
                        | true =>
                          obtain ⟨hak, rfl⟩ := hot rfl
                          cases bo with
                          | none => have := hb3 rfl; omega
                          | some b =>
                            have e128 : Value.bool (decide (bestV (some b) ≥ 0)) = .bool true := congrArg Value.bool (decide_eq_true (Int.natCast_nonneg b))
                            have e133 : Value.bool (((k + 1 : Nat) : Int) == (seen : Int)) = .bool false := congrArg Value.bool (by rw [beq_eq_false_iff_ne]; omega)
                            have e141 : True := trivial
                            have e158 : Value.int .i64 (min ((k + 1 : Nat) : Int) (seen : Int)) = .int .i64 (seen : Int) := by congr 1; omega
                            have e159 : Value.bool ((seen : Int) != (seen : Int)) = .bool false := by simp
                            have e167 : Value.bool (decide (((k + 1 : Nat) : Int) ≥ (seen : Int))) = .bool true := congrArg Value.bool (decide_eq_true (by omega))
                            refine T_seq ?_
                            refine T_seq ?_
                            refine T_region ?_
                            refine TL_p (PV_move rfl) ?_
                            refine TL_p (PV_move rfl) ?_
                            refine TL_p (PV.cast (PV_len_string Tryd.underlying9 rfl) es) ?_
                            refine TL_p (PV_bin rfl rfl bin_lss) ?_
                            refine TL_nil ?_
                            refine T_then rfl (by exact decide_eq_true (by omega)) ?_
                            refine T_skip ?_
                            refine T_seq ?_
                            refine T_block ?_
                            refine T_seq ?_
                            refine T_region ?_
                            refine TL_p (PV_move rfl) ?_
                            refine TL_p (PV_move rfl) ?_
                            refine TL_p (PV_move rfl) ?_
                            refine TL_p (PV.cast (PV_indexNums Tryd.underlying9 rfl rfl rfl hus hku) e122) ?_
                            refine TL_cons rfl (TO_PutOver (cb := cb) (List.Perm.refl _) rfl rfl ?_)
                            refine TL_p (PV_move rfl) ?_
                            refine TL_p (PV_extract rfl rfl) ?_
                            refine TL_p (PV_extract rfl rfl) ?_
                            refine TL_p (PV_assign rfl) ?_
                            refine TL_p (PV_assign rfl) ?_
                            refine TL_nil ?_
                            refine T_seq ?_
                            refine T_region ?_
                            refine TL_p (PV_move rfl) ?_
                            refine TL_p (PV_move rfl) ?_
                            refine TL_p (PV.cast (PV_bin rfl rfl bin_geq) e128) ?_
                            refine TL_p (PV_move rfl) ?_
                            refine TL_yes rfl rfl rfl (TO_pure rfl (PV_move rfl) ?_)
                            refine TL_yes rfl rfl rfl (TO_pure rfl (PV.cast (PV_bin rfl rfl bin_add) e117) ?_)
                            refine TL_yes rfl rfl rfl (TO_pure rfl (PV_move rfl) ?_)
                            refine TL_yes rfl rfl rfl (TO_pure rfl (PV.cast (PV_bin rfl rfl bin_eql) e133) ?_)
                            refine TL_p (PV_pickAnd rfl rfl rfl) ?_
                            refine TL_p (PV.cast (PV_bin rfl rfl (bin_bool_neq Tryd.underlying4)) (rfl : _ = Value.bool false)) ?_
                            refine TL_p (PV_move rfl) ?_
                            refine TL_yes rfl rfl rfl (TO_pure rfl (PV_move rfl) ?_)
                            refine TL_yes rfl rfl rfl (TO_pure rfl (PV_move rfl) ?_)
                            refine TL_no (b := false) rfl rfl rfl rfl ?_
                            refine TL_no (b := false) rfl rfl rfl rfl ?_
                            refine TL_no (b := false) rfl rfl rfl rfl ?_
                            refine TL_yes rfl rfl rfl (TO_pure rfl (PV_pickF rfl (by first | assumption | rfl | (simp; done) | (simp; omega) | (simp [*]; done) | (simp [*]; omega)) rfl rfl) ?_)
                            refine TL_p (PV_pickOr rfl rfl rfl) ?_
                            refine TL_p (PV_move rfl) ?_
                            refine TL_yes rfl rfl rfl (TO_pure rfl (PV_move rfl) ?_)
                            refine TL_yes rfl rfl rfl (TO_pure rfl (PV_not rfl) ?_)
                            refine TL_yes rfl rfl rfl (TO_pure rfl (PV_move rfl) ?_)
                            refine TL_yes rfl rfl rfl (TO_pure rfl (PV_move rfl) ?_)
                            refine TL_yes rfl rfl rfl (TO_pure rfl (PV.cast (PV_bin rfl rfl bin_neq) (rfl : _ = Value.bool false)) ?_)
                            refine TL_yes rfl rfl rfl (TO_pure rfl (PV_pickAnd rfl rfl rfl) ?_)
                            refine TL_p (PV_pickOr rfl rfl rfl) ?_
                            refine TL_p (PV_move rfl) ?_
                            refine TL_yes rfl rfl rfl (TO_pure rfl (PV_move rfl) ?_)
                            refine TL_yes rfl rfl rfl (TO_SeenF (gs := gs) (vs := vs1) (N := Z1) (HR := Z) (List.Perm.refl _) rfl rfl ?_)
                            refine TL_yes rfl rfl rfl (TO_pure rfl (PV_move rfl) ?_)
                            refine TL_yes rfl rfl rfl (TO_pure rfl (PV.cast (PV_bin rfl rfl bin_add) e117) ?_)
                            refine TL_yes rfl rfl rfl (TO_pure rfl (PV_move rfl) ?_)
                            refine TL_yes rfl rfl rfl (TO_pure rfl (PV.cast (PV_min rfl rfl) e158) ?_)
                            refine TL_yes rfl rfl rfl (TO_pure rfl (PV.cast (PV_bin rfl rfl bin_neq) e159) ?_)
                            refine TL_p (PV_pickOr rfl rfl rfl) ?_
                            refine TL_p (PV_move rfl) ?_
                            refine TL_yes rfl rfl rfl (TO_pure rfl (PV_move rfl) ?_)
                            refine TL_yes rfl rfl rfl (TO_OverF (gs := gs) (vs := vs1) (N := Z1) (HR := Z) (List.Perm.refl _) rfl rfl ?_)
                            refine TL_yes rfl rfl rfl (TO_pure rfl (PV_move rfl) ?_)
                            refine TL_yes rfl rfl rfl (TO_pure rfl (PV.cast (PV_bin rfl rfl bin_add) e117) ?_)
                            refine TL_yes rfl rfl rfl (TO_pure rfl (PV_move rfl) ?_)
                            refine TL_yes rfl rfl rfl (TO_pure rfl (PV.cast (PV_bin rfl rfl bin_geq) e167) ?_)
                            refine TL_yes rfl rfl rfl (TO_pure rfl (PV.cast (PV_bin rfl rfl (bin_bool_neq Tryd.underlying4)) (rfl : _ = Value.bool false)) ?_)
                            refine TL_p (PV_pickOr rfl rfl rfl) ?_
                            refine TL_nil ?_
                            refine T_else rfl (by rfl) ?_
                            refine T_skip ?_
                            refine T_region ?_
                            refine TL_p (PV_move rfl) ?_
                            refine TL_p (PV.cast (PV_bin rfl rfl bin_add) e117) ?_
                            refine TL_p (PV_assign rfl) ?_
                            refine TL_nil ?_
                            refine ?L171
                            all_goals exact ⟨k + 1, true, seen, vs1, Z1, ⟨by omega, (fun h => nomatch h), fun _ => ⟨by omega, rfl⟩⟩, by omega, (by repeat (first | exact FrSub.nil _ | refine FrSub.cons rfl ?_)), Has.of_sub (by repeat (first | exact Sb.r | exact Sb.ar | exact Sb.al | apply Sb.c | apply Sb.d | refine Sb.t ?_))⟩
                        | false =>
                          obtain ⟨rfl, hka, hW⟩ := hov rfl
                          by_cases hlt : seen + 1 < ap
                          · have ho : bestT (trees rs) (seqs (trees rs) s seen) cb rs.length = none := best_none fun j hj => by rw [hE j hj]; exact hb1 j hj _ hlt (by omega)
                            have e133 : Value.bool (((seen + 1 : Nat) : Int) == (ap : Int)) = .bool false := congrArg Value.bool (by rw [beq_eq_false_iff_ne]; omega)
                            have e141 : True := trivial
                            have e158 : Value.int .i64 (min ((seen + 1 : Nat) : Int) (ap : Int)) = .int .i64 ((seen + 1 : Nat) : Int) := by congr 1; omega
                            have e159 : Value.bool (((seen + 1 : Nat) : Int) != ((seen + 1 : Nat) : Int)) = .bool false := by simp
                            have e167 : Value.bool (decide (((seen + 1 : Nat) : Int) ≥ (ap : Int))) = .bool false := congrArg Value.bool (decide_eq_false (by omega))
                            cases bo with
                            | none =>
                              have e128 : Value.bool (decide (bestV none ≥ 0)) = .bool false := rfl
                              refine T_seq ?_
                              refine T_seq ?_
                              refine T_region ?_
                              refine TL_p (PV_move rfl) ?_
                              refine TL_p (PV_move rfl) ?_
                              refine TL_p (PV.cast (PV_len_string Tryd.underlying9 rfl) es) ?_
                              refine TL_p (PV_bin rfl rfl bin_lss) ?_
                              refine TL_nil ?_
                              refine T_then rfl (by exact decide_eq_true (by omega)) ?_
                              refine T_skip ?_
                              refine T_seq ?_
                              refine T_block ?_
                              refine T_seq ?_
                              refine T_region ?_
                              refine TL_p (PV_move rfl) ?_
                              refine TL_p (PV_move rfl) ?_
                              refine TL_p (PV_move rfl) ?_
                              refine TL_p (PV.cast (PV_indexNums Tryd.underlying9 rfl rfl rfl hus hku) e122) ?_
                              refine TL_cons rfl (TO_PutF (cb := cb) (HR := Z) (V := .tuple #[.int .i64 0, .bool false]) (List.Perm.refl _) (by omega) (by omega) (by omega) hW ho rfl rfl rfl fun vs2 Z2 hW2 => ?_)
                              refine TL_p (PV_move rfl) ?_
                              refine TL_p (PV_extract rfl rfl) ?_
                              refine TL_p (PV_extract rfl rfl) ?_
                              refine TL_p (PV_assign rfl) ?_
                              refine TL_p (PV_assign rfl) ?_
                              refine TL_nil ?_
                              refine T_seq ?_
                              refine T_region ?_
                              refine TL_p (PV_move rfl) ?_
                              refine TL_p (PV_move rfl) ?_
                              refine TL_p (PV.cast (PV_bin rfl rfl bin_geq) e128) ?_
                              refine TL_p (PV_move rfl) ?_
                              refine TL_no (b := false) rfl rfl rfl rfl ?_
                              refine TL_no (b := false) rfl rfl rfl rfl ?_
                              refine TL_no (b := false) rfl rfl rfl rfl ?_
                              refine TL_no (b := false) rfl rfl rfl rfl ?_
                              refine TL_p (PV_pickF rfl (by first | assumption | rfl | (simp; done) | (simp; omega) | (simp [*]; done) | (simp [*]; omega)) rfl rfl) ?_
                              refine TL_p (PV.cast (PV_bin rfl rfl (bin_bool_neq Tryd.underlying4)) (rfl : _ = Value.bool false)) ?_
                              refine TL_p (PV_move rfl) ?_
                              refine TL_yes rfl rfl rfl (TO_pure rfl (PV_move rfl) ?_)
                              refine TL_yes rfl rfl rfl (TO_pure rfl (PV_move rfl) ?_)
                              refine TL_no (b := false) rfl rfl rfl rfl ?_
                              refine TL_no (b := false) rfl rfl rfl rfl ?_
                              refine TL_no (b := false) rfl rfl rfl rfl ?_
                              refine TL_yes rfl rfl rfl (TO_pure rfl (PV_pickF rfl (by first | assumption | rfl | (simp; done) | (simp; omega) | (simp [*]; done) | (simp [*]; omega)) rfl rfl) ?_)
                              refine TL_p (PV_pickOr rfl rfl rfl) ?_
                              refine TL_p (PV_move rfl) ?_
                              refine TL_yes rfl rfl rfl (TO_pure rfl (PV_move rfl) ?_)
                              refine TL_yes rfl rfl rfl (TO_pure rfl (PV_not rfl) ?_)
                              refine TL_yes rfl rfl rfl (TO_pure rfl (PV_move rfl) ?_)
                              refine TL_yes rfl rfl rfl (TO_pure rfl (PV_move rfl) ?_)
                              refine TL_yes rfl rfl rfl (TO_pure rfl (PV.cast (PV_bin rfl rfl bin_neq) (rfl : _ = Value.bool false)) ?_)
                              refine TL_yes rfl rfl rfl (TO_pure rfl (PV_pickAnd rfl rfl rfl) ?_)
                              refine TL_p (PV_pickOr rfl rfl rfl) ?_
                              refine TL_p (PV_move rfl) ?_
                              refine TL_yes rfl rfl rfl (TO_pure rfl (PV_move rfl) ?_)
                              refine TL_yes rfl rfl rfl (TO_SeenF (gs := gs) (vs := vs2) (N := Z2) (HR := Z) (List.Perm.refl _) rfl rfl ?_)
                              refine TL_yes rfl rfl rfl (TO_pure rfl (PV_move rfl) ?_)
                              refine TL_yes rfl rfl rfl (TO_pure rfl (PV.cast (PV_bin rfl rfl bin_add) e117) ?_)
                              refine TL_yes rfl rfl rfl (TO_pure rfl (PV_move rfl) ?_)
                              refine TL_yes rfl rfl rfl (TO_pure rfl (PV.cast (PV_min rfl rfl) e158) ?_)
                              refine TL_yes rfl rfl rfl (TO_pure rfl (PV.cast (PV_bin rfl rfl bin_neq) e159) ?_)
                              refine TL_p (PV_pickOr rfl rfl rfl) ?_
                              refine TL_p (PV_move rfl) ?_
                              refine TL_yes rfl rfl rfl (TO_pure rfl (PV_move rfl) ?_)
                              refine TL_yes rfl rfl rfl (TO_OverF (gs := gs) (vs := vs2) (N := Z2) (HR := Z) (List.Perm.refl _) rfl rfl ?_)
                              refine TL_yes rfl rfl rfl (TO_pure rfl (PV_move rfl) ?_)
                              refine TL_yes rfl rfl rfl (TO_pure rfl (PV.cast (PV_bin rfl rfl bin_add) e117) ?_)
                              refine TL_yes rfl rfl rfl (TO_pure rfl (PV_move rfl) ?_)
                              refine TL_yes rfl rfl rfl (TO_pure rfl (PV.cast (PV_bin rfl rfl bin_geq) e167) ?_)
                              refine TL_yes rfl rfl rfl (TO_pure rfl (PV.cast (PV_bin rfl rfl (bin_bool_neq Tryd.underlying4)) (rfl : _ = Value.bool false)) ?_)
                              refine TL_p (PV_pickOr rfl rfl rfl) ?_
                              refine TL_nil ?_
                              refine T_else rfl (by rfl) ?_
                              refine T_skip ?_
                              refine T_region ?_
                              refine TL_p (PV_move rfl) ?_
                              refine TL_p (PV.cast (PV_bin rfl rfl bin_add) e117) ?_
                              refine TL_p (PV_assign rfl) ?_
                              refine TL_nil ?_
                              refine ?L191
                              all_goals exact ⟨seen + 1, false, seen + 1, vs2, Z2, ⟨by omega, fun _ => ⟨rfl, hlt, hW2.get (by rw [putL_len]; simp [seqs]) hput⟩, (fun h => nomatch h)⟩, by omega, (by repeat (first | exact FrSub.nil _ | refine FrSub.cons rfl ?_)), Has.of_sub (by repeat (first | exact Sb.r | exact Sb.ar | exact Sb.al | apply Sb.c | apply Sb.d | refine Sb.t ?_))⟩
                            | some b =>
                              have e128 : Value.bool (decide (bestV (some b) ≥ 0)) = .bool true := congrArg Value.bool (decide_eq_true (Int.natCast_nonneg b))
                              refine T_seq ?_
                              refine T_seq ?_
                              refine T_region ?_
                              refine TL_p (PV_move rfl) ?_
                              refine TL_p (PV_move rfl) ?_
                              refine TL_p (PV.cast (PV_len_string Tryd.underlying9 rfl) es) ?_
                              refine TL_p (PV_bin rfl rfl bin_lss) ?_
                              refine TL_nil ?_
                              refine T_then rfl (by exact decide_eq_true (by omega)) ?_
                              refine T_skip ?_
                              refine T_seq ?_
                              refine T_block ?_
                              refine T_seq ?_
                              refine T_region ?_
                              refine TL_p (PV_move rfl) ?_
                              refine TL_p (PV_move rfl) ?_
                              refine TL_p (PV_move rfl) ?_
                              refine TL_p (PV.cast (PV_indexNums Tryd.underlying9 rfl rfl rfl hus hku) e122) ?_
                              refine TL_cons rfl (TO_PutF (cb := cb) (HR := Z) (V := .tuple #[.int .i64 0, .bool false]) (List.Perm.refl _) (by omega) (by omega) (by omega) hW ho rfl rfl rfl fun vs2 Z2 hW2 => ?_)
                              refine TL_p (PV_move rfl) ?_
                              refine TL_p (PV_extract rfl rfl) ?_
                              refine TL_p (PV_extract rfl rfl) ?_
                              refine TL_p (PV_assign rfl) ?_
                              refine TL_p (PV_assign rfl) ?_
                              refine TL_nil ?_
                              refine T_seq ?_
                              refine T_region ?_
                              refine TL_p (PV_move rfl) ?_
                              refine TL_p (PV_move rfl) ?_
                              refine TL_p (PV.cast (PV_bin rfl rfl bin_geq) e128) ?_
                              refine TL_p (PV_move rfl) ?_
                              refine TL_yes rfl rfl rfl (TO_pure rfl (PV_move rfl) ?_)
                              refine TL_yes rfl rfl rfl (TO_pure rfl (PV.cast (PV_bin rfl rfl bin_add) e117) ?_)
                              refine TL_yes rfl rfl rfl (TO_pure rfl (PV_move rfl) ?_)
                              refine TL_yes rfl rfl rfl (TO_pure rfl (PV.cast (PV_bin rfl rfl bin_eql) e133) ?_)
                              refine TL_p (PV_pickAnd rfl rfl rfl) ?_
                              refine TL_p (PV.cast (PV_bin rfl rfl (bin_bool_neq Tryd.underlying4)) (rfl : _ = Value.bool false)) ?_
                              refine TL_p (PV_move rfl) ?_
                              refine TL_yes rfl rfl rfl (TO_pure rfl (PV_move rfl) ?_)
                              refine TL_yes rfl rfl rfl (TO_pure rfl (PV_move rfl) ?_)
                              refine TL_no (b := false) rfl rfl rfl rfl ?_
                              refine TL_no (b := false) rfl rfl rfl rfl ?_
                              refine TL_no (b := false) rfl rfl rfl rfl ?_
                              refine TL_yes rfl rfl rfl (TO_pure rfl (PV_pickF rfl (by first | assumption | rfl | (simp; done) | (simp; omega) | (simp [*]; done) | (simp [*]; omega)) rfl rfl) ?_)
                              refine TL_p (PV_pickOr rfl rfl rfl) ?_
                              refine TL_p (PV_move rfl) ?_
                              refine TL_yes rfl rfl rfl (TO_pure rfl (PV_move rfl) ?_)
                              refine TL_yes rfl rfl rfl (TO_pure rfl (PV_not rfl) ?_)
                              refine TL_yes rfl rfl rfl (TO_pure rfl (PV_move rfl) ?_)
                              refine TL_yes rfl rfl rfl (TO_pure rfl (PV_move rfl) ?_)
                              refine TL_yes rfl rfl rfl (TO_pure rfl (PV.cast (PV_bin rfl rfl bin_neq) (rfl : _ = Value.bool false)) ?_)
                              refine TL_yes rfl rfl rfl (TO_pure rfl (PV_pickAnd rfl rfl rfl) ?_)
                              refine TL_p (PV_pickOr rfl rfl rfl) ?_
                              refine TL_p (PV_move rfl) ?_
                              refine TL_yes rfl rfl rfl (TO_pure rfl (PV_move rfl) ?_)
                              refine TL_yes rfl rfl rfl (TO_SeenF (gs := gs) (vs := vs2) (N := Z2) (HR := Z) (List.Perm.refl _) rfl rfl ?_)
                              refine TL_yes rfl rfl rfl (TO_pure rfl (PV_move rfl) ?_)
                              refine TL_yes rfl rfl rfl (TO_pure rfl (PV.cast (PV_bin rfl rfl bin_add) e117) ?_)
                              refine TL_yes rfl rfl rfl (TO_pure rfl (PV_move rfl) ?_)
                              refine TL_yes rfl rfl rfl (TO_pure rfl (PV.cast (PV_min rfl rfl) e158) ?_)
                              refine TL_yes rfl rfl rfl (TO_pure rfl (PV.cast (PV_bin rfl rfl bin_neq) e159) ?_)
                              refine TL_p (PV_pickOr rfl rfl rfl) ?_
                              refine TL_p (PV_move rfl) ?_
                              refine TL_yes rfl rfl rfl (TO_pure rfl (PV_move rfl) ?_)
                              refine TL_yes rfl rfl rfl (TO_OverF (gs := gs) (vs := vs2) (N := Z2) (HR := Z) (List.Perm.refl _) rfl rfl ?_)
                              refine TL_yes rfl rfl rfl (TO_pure rfl (PV_move rfl) ?_)
                              refine TL_yes rfl rfl rfl (TO_pure rfl (PV.cast (PV_bin rfl rfl bin_add) e117) ?_)
                              refine TL_yes rfl rfl rfl (TO_pure rfl (PV_move rfl) ?_)
                              refine TL_yes rfl rfl rfl (TO_pure rfl (PV.cast (PV_bin rfl rfl bin_geq) e167) ?_)
                              refine TL_yes rfl rfl rfl (TO_pure rfl (PV.cast (PV_bin rfl rfl (bin_bool_neq Tryd.underlying4)) (rfl : _ = Value.bool false)) ?_)
                              refine TL_p (PV_pickOr rfl rfl rfl) ?_
                              refine TL_nil ?_
                              refine T_else rfl (by rfl) ?_
                              refine T_skip ?_
                              refine T_region ?_
                              refine TL_p (PV_move rfl) ?_
                              refine TL_p (PV.cast (PV_bin rfl rfl bin_add) e117) ?_
                              refine TL_p (PV_assign rfl) ?_
                              refine TL_nil ?_
                              refine ?L211
                              all_goals exact ⟨seen + 1, false, seen + 1, vs2, Z2, ⟨by omega, fun _ => ⟨rfl, hlt, hW2.get (by rw [putL_len]; simp [seqs]) hput⟩, (fun h => nomatch h)⟩, by omega, (by repeat (first | exact FrSub.nil _ | refine FrSub.cons rfl ?_)), Has.of_sub (by repeat (first | exact Sb.r | exact Sb.ar | exact Sb.al | apply Sb.c | apply Sb.d | refine Sb.t ?_))⟩
                          · obtain rfl : ap = seen + 1 := by omega
                            cases bo with
                            | none => have := hb3 rfl; omega
                            | some b =>
                              obtain ⟨q1, q2, q3, q4⟩ := hb4 b rfl
                              have ho : bestT (trees rs) (seqs (trees rs) s seen) cb rs.length = some b := best_some (by rw [hE b q1]; exact q3) (fun j hj => by rw [hE j (by omega)]; exact q4 j hj) q1
                              have e128 : Value.bool (decide (bestV (some b) ≥ 0)) = .bool true := congrArg Value.bool (decide_eq_true (Int.natCast_nonneg b))
                              have e133 : Value.bool (((seen + 1 : Nat) : Int) == ((seen + 1 : Nat) : Int)) = .bool true := by simp
                              have e141 : Value.bool (((b : Nat) : Int) != bestV (some b)) = .bool false := by simp [bestV]
                              have e158 : Value.int .i64 (min ((seen + 1 : Nat) : Int) ((seen + 1 : Nat) : Int)) = .int .i64 ((seen + 1 : Nat) : Int) := by simp
                              have e159 : Value.bool (((seen + 1 : Nat) : Int) != ((seen + 1 : Nat) : Int)) = .bool false := by simp
                              have e167 : Value.bool (decide (((seen + 1 : Nat) : Int) ≥ ((seen + 1 : Nat) : Int))) = .bool true := congrArg Value.bool (decide_eq_true (by omega))
                              refine T_seq ?_
                              refine T_seq ?_
                              refine T_region ?_
                              refine TL_p (PV_move rfl) ?_
                              refine TL_p (PV_move rfl) ?_
                              refine TL_p (PV.cast (PV_len_string Tryd.underlying9 rfl) es) ?_
                              refine TL_p (PV_bin rfl rfl bin_lss) ?_
                              refine TL_nil ?_
                              refine T_then rfl (by exact decide_eq_true (by omega)) ?_
                              refine T_skip ?_
                              refine T_seq ?_
                              refine T_block ?_
                              refine T_seq ?_
                              refine T_region ?_
                              refine TL_p (PV_move rfl) ?_
                              refine TL_p (PV_move rfl) ?_
                              refine TL_p (PV_move rfl) ?_
                              refine TL_p (PV.cast (PV_indexNums Tryd.underlying9 rfl rfl rfl hus hku) e122) ?_
                              refine TL_cons rfl (TO_PutF (cb := cb) (HR := Z) (V := .tuple #[.int .i64 (b : Int), .bool true]) (List.Perm.refl _) (by omega) (by omega) (by omega) hW ho rfl rfl rfl fun vs2 Z2 hW2 => ?_)
                              refine TL_p (PV_move rfl) ?_
                              refine TL_p (PV_extract rfl rfl) ?_
                              refine TL_p (PV_extract rfl rfl) ?_
                              refine TL_p (PV_assign rfl) ?_
                              refine TL_p (PV_assign rfl) ?_
                              refine TL_nil ?_
                              refine T_seq ?_
                              refine T_region ?_
                              refine TL_p (PV_move rfl) ?_
                              refine TL_p (PV_move rfl) ?_
                              refine TL_p (PV.cast (PV_bin rfl rfl bin_geq) e128) ?_
                              refine TL_p (PV_move rfl) ?_
                              refine TL_yes rfl rfl rfl (TO_pure rfl (PV_move rfl) ?_)
                              refine TL_yes rfl rfl rfl (TO_pure rfl (PV.cast (PV_bin rfl rfl bin_add) e117) ?_)
                              refine TL_yes rfl rfl rfl (TO_pure rfl (PV_move rfl) ?_)
                              refine TL_yes rfl rfl rfl (TO_pure rfl (PV.cast (PV_bin rfl rfl bin_eql) e133) ?_)
                              refine TL_p (PV_pickAnd rfl rfl rfl) ?_
                              refine TL_p (PV.cast (PV_bin rfl rfl (bin_bool_neq Tryd.underlying4)) (rfl : _ = Value.bool false)) ?_
                              refine TL_p (PV_move rfl) ?_
                              refine TL_yes rfl rfl rfl (TO_pure rfl (PV_move rfl) ?_)
                              refine TL_yes rfl rfl rfl (TO_pure rfl (PV_move rfl) ?_)
                              refine TL_yes rfl rfl rfl (TO_pure rfl (PV_move rfl) ?_)
                              refine TL_yes rfl rfl rfl (TO_pure rfl (PV_move rfl) ?_)
                              refine TL_yes rfl rfl rfl (TO_pure rfl (PV.cast (PV_bin rfl rfl bin_neq) e141) ?_)
                              refine TL_yes rfl rfl rfl (TO_pure rfl (PV_pickAnd rfl rfl rfl) ?_)
                              refine TL_p (PV_pickOr rfl rfl rfl) ?_
                              refine TL_p (PV_move rfl) ?_
                              refine TL_yes rfl rfl rfl (TO_pure rfl (PV_move rfl) ?_)
                              refine TL_yes rfl rfl rfl (TO_pure rfl (PV_not rfl) ?_)
                              refine TL_yes rfl rfl rfl (TO_pure rfl (PV_move rfl) ?_)
                              refine TL_no (b := false) rfl rfl rfl rfl ?_
                              refine TL_no (b := false) rfl rfl rfl rfl ?_
                              refine TL_yes rfl rfl rfl (TO_pure rfl (PV_pickF rfl (by first | assumption | rfl | (simp; done) | (simp; omega) | (simp [*]; done) | (simp [*]; omega)) rfl rfl) ?_)
                              refine TL_p (PV_pickOr rfl rfl rfl) ?_
                              refine TL_p (PV_move rfl) ?_
                              refine TL_yes rfl rfl rfl (TO_pure rfl (PV_move rfl) ?_)
                              refine TL_yes rfl rfl rfl (TO_SeenF (gs := gs) (vs := vs2) (N := Z2) (HR := Z) (List.Perm.refl _) rfl rfl ?_)
                              refine TL_yes rfl rfl rfl (TO_pure rfl (PV_move rfl) ?_)
                              refine TL_yes rfl rfl rfl (TO_pure rfl (PV.cast (PV_bin rfl rfl bin_add) e117) ?_)
                              refine TL_yes rfl rfl rfl (TO_pure rfl (PV_move rfl) ?_)
                              refine TL_yes rfl rfl rfl (TO_pure rfl (PV.cast (PV_min rfl rfl) e158) ?_)
                              refine TL_yes rfl rfl rfl (TO_pure rfl (PV.cast (PV_bin rfl rfl bin_neq) e159) ?_)
                              refine TL_p (PV_pickOr rfl rfl rfl) ?_
                              refine TL_p (PV_move rfl) ?_
                              refine TL_yes rfl rfl rfl (TO_pure rfl (PV_move rfl) ?_)
                              refine TL_yes rfl rfl rfl (TO_OverF (gs := gs) (vs := vs2) (N := Z2) (HR := Z) (List.Perm.refl _) rfl rfl ?_)
                              refine TL_yes rfl rfl rfl (TO_pure rfl (PV_move rfl) ?_)
                              refine TL_yes rfl rfl rfl (TO_pure rfl (PV.cast (PV_bin rfl rfl bin_add) e117) ?_)
                              refine TL_yes rfl rfl rfl (TO_pure rfl (PV_move rfl) ?_)
                              refine TL_yes rfl rfl rfl (TO_pure rfl (PV.cast (PV_bin rfl rfl bin_geq) e167) ?_)
                              refine TL_yes rfl rfl rfl (TO_pure rfl (PV.cast (PV_bin rfl rfl (bin_bool_neq Tryd.underlying4)) (rfl : _ = Value.bool false)) ?_)
                              refine TL_p (PV_pickOr rfl rfl rfl) ?_
                              refine TL_nil ?_
                              refine T_else rfl (by rfl) ?_
                              refine T_skip ?_
                              refine T_region ?_
                              refine TL_p (PV_move rfl) ?_
                              refine TL_p (PV.cast (PV_bin rfl rfl bin_add) e117) ?_
                              refine TL_p (PV_assign rfl) ?_
                              refine TL_nil ?_
                              refine ?L231
                              all_goals exact ⟨seen + 1, true, seen + 1, vs2, Z2, ⟨by omega, (fun h => nomatch h), fun _ => ⟨Nat.le_refl _, rfl⟩⟩, by omega, (by repeat (first | exact FrSub.nil _ | refine FrSub.cons rfl ?_)), Has.of_sub (by repeat (first | exact Sb.r | exact Sb.ar | exact Sb.al | apply Sb.c | apply Sb.d | refine Sb.t ?_))⟩
                      · obtain rfl : k = s.length := by omega
                        refine T_seq ?_
                        refine T_seq ?_
                        refine T_region ?_
                        refine TL_p (PV_move rfl) ?_
                        refine TL_p (PV_move rfl) ?_
                        refine TL_p (PV.cast (PV_len_string Tryd.underlying9 rfl) es) ?_
                        refine TL_p (PV_bin rfl rfl bin_lss) ?_
                        refine TL_nil ?_
                        refine T_else rfl (by (simp; done)) ?_
                        refine T_exit ?_
                        refine T_seq ?_
                        refine T_region ?_
                        refine TL_p (PV_assign rfl) ?_
                        refine TL_nil ?_
                        refine ?L251
                        all_goals exact T_ret (ret_ret (ResV_one rfl rfl) ⟨H, hZ.trans (List.sublist_append_right _ Z), rfl, rfl⟩)
          · refine TL_cons rfl (TO_eqD call23 (OfU_t (Shows.at 0 rfl) hqm hk (by omega) hcp hNul hno hy) rfl rfl _ (List.Sublist.refl _) ?_)
            refine TL_p (PV_move rfl) ?_
            refine TL_p (PV_extract rfl rfl) ?_
            refine TL_p (PV_extract rfl rfl) ?_
            refine TL_p (PV_assign rfl) ?_
            refine TL_p (PV_assign rfl) ?_
            refine TL_nil ?_
            refine T_seq ?_
            refine T_seq ?_
            refine T_region ?_
            refine TL_p (PV_move rfl) ?_
            refine TL_p (PV_len_slice Tryd.underlying52 rfl) ?_
            refine TL_p (PV.cast (PV_bin rfl rfl bin_eql) e62) ?_
            refine TL_nil ?_
            refine T_else rfl (by rfl) ?_
            refine T_skip ?_
            refine T_seq ?_
            refine T_seq ?_
            refine T_region ?_
            refine TL_p (PV_move rfl) ?_
            refine TL_p (PV_len_slice Tryd.underlying28 rfl) ?_
            refine TL_p (PV_move rfl) ?_
            refine TL_nil ?_
            refine T_block ?_
            refine ?L401
            case L401 =>
              refine T_loopP1 (fun (j : Nat) => j ≤ k) (fun j => k - j) (fun j => [(11, .pointer none), (12, errE2 8), (66, .slice An rs.length cn), (67, .int .i64 (rs.length : Int)), (68, .int .i64 (j : Int))]) (fun j => .sl (.slice An rs.length cn) 6 rs.length (ndC vs) :: Z) 0 (Nat.zero_le _) (by repeat (first | exact FrSub.nil _ | refine FrSub.cons rfl ?_)) (Has.of_sub (by repeat (first | exact Sb.r | exact Sb.ar | exact Sb.al | apply Sb.c | apply Sb.d | refine Sb.t ?_))) ?_
              rintro j hj
              have hjm : j < rs.length := by omega
              have e82 : Value.int .i64 (IntKind.i64.wrap ((j : Int) + 1)) = .int .i64 ((j + 1 : Nat) : Int) := wr64n _ (by push_cast; rfl) (by omega)
              refine T_shows (Shows.at 0 rfl) (by rw [ndC_len]; omega) fun ga oa hA hr1 => ?_
              subst hA
              have hk0 := nd_rds hr1 (j := j) (by omega)
              have htr := hN.2 j (by omega)
              obtain ⟨hx1, hx2, hx3, hx4, hx5⟩ := hNul j hjm
              have hem := fun {X : List Chunk} {g : Nat} {b : Bool} (hb : nul ((trees rs).getD j .nothing) = b) (hT : Tab (WH w0 B X) g ((trees rs).getD j .nothing)) => (Empty_t (w0 := w0) (B := B) (H := X) hT).mono (R' := fun r H' => r = .bool b ∧ H' = X) fun r h q => ⟨by rw [← hb]; exact q.1, q.2⟩
              by_cases hjk : j < k
              · refine T_seq ?_
                refine T_region ?_
                refine TL_p (PV_bin rfl rfl bin_lss) ?_
                refine TL_nil ?_
                refine T_seq ?_
                refine T_then rfl (by exact decide_eq_true (by omega)) ?_
                refine T_skip ?_
                refine T_seq ?_
                refine T_block ?_
                refine T_seq ?_
                refine T_region ?_
                refine TL_p (PV_indexAddr Tryd.underlying28 sz30 rfl rfl rfl (by first | omega | decide | assumption)) ?_
                refine TL_p (PV_loadAt Tryd.underlying30 rfl sz30 rfl hk0) ?_
                refine TL_cons rfl (TO_alloc rfl zr30 fun g41001 => ?_)
                refine TL_cons rfl (TO_store 0 rfl rfl rfl sz30 rfl rfl rfl (all_one rfl) (by first | exact Nat.le_of_ble_eq_true rfl | (simp; done) | (simp; omega) | omega) ?_)
                refine TL_nil ?_
                refine T_seq ?_
                refine T_region ?_
                refine TL_p (PV_loadAt Tryd.underlying30 rfl sz30 rfl (Rds.take 0 rfl rfl rfl)) ?_
                refine TL_cons rfl (TO_Of (htr.mono fun w h => h.sub (by repeat (first | exact Sb.r | exact Sb.ar | exact Sb.al | apply Sb.d | refine Sb.t ?_))) (by omega) (by omega) rfl rfl fun g73 N73 hT73 => ?_)
                refine TL_cons rfl (TO_eqD call25 (hem (hno j hjk) (hT73.mono fun w h => h.sub (by repeat (first | exact Sb.r | exact Sb.ar | exact Sb.al | apply Sb.d | refine Sb.t ?_)))) rfl rfl _ (List.Sublist.refl _) ?_)
                refine TL_nil ?_
                refine T_else rfl (by rfl) ?_
                refine T_skip ?_
                refine T_region ?_
                refine TL_p (PV.cast (PV_bin rfl rfl bin_add) e82) ?_
                refine TL_p (PV_move rfl) ?_
                refine TL_nil ?_
                refine ?L411
                all_goals exact ⟨j + 1, by omega, by omega, (by repeat (first | exact FrSub.nil _ | refine FrSub.cons rfl ?_)), Has.of_sub (by repeat (first | exact Sb.r | exact Sb.ar | exact Sb.al | apply Sb.c | apply Sb.d | refine Sb.t ?_))⟩
              · obtain rfl : j = k := by omega
                unfold errE2
                refine T_seq ?_
                refine T_region ?_
                refine TL_p (PV_bin rfl rfl bin_lss) ?_
                refine TL_nil ?_
                refine T_seq ?_
                refine T_then rfl (by exact decide_eq_true (by omega)) ?_
                refine T_skip ?_
                refine T_seq ?_
                refine T_block ?_
                refine T_seq ?_
                refine T_region ?_
                refine TL_p (PV_indexAddr Tryd.underlying28 sz30 rfl rfl rfl (by first | omega | decide | assumption)) ?_
                refine TL_p (PV_loadAt Tryd.underlying30 rfl sz30 rfl hk0) ?_
                refine TL_cons rfl (TO_alloc rfl zr30 fun g42001 => ?_)
                refine TL_cons rfl (TO_store 0 rfl rfl rfl sz30 rfl rfl rfl (all_one rfl) (by first | exact Nat.le_of_ble_eq_true rfl | (simp; done) | (simp; omega) | omega) ?_)
                refine TL_nil ?_
                refine T_seq ?_
                refine T_region ?_
                refine TL_p (PV_loadAt Tryd.underlying30 rfl sz30 rfl (Rds.take 0 rfl rfl rfl)) ?_
                refine TL_cons rfl (TO_Of (htr.mono fun w h => h.sub (by repeat (first | exact Sb.r | exact Sb.ar | exact Sb.al | apply Sb.d | refine Sb.t ?_))) (by omega) (by omega) rfl rfl fun g73 N73 hT73 => ?_)
                refine TL_cons rfl (TO_eqD call25 (hem hy (hT73.mono fun w h => h.sub (by repeat (first | exact Sb.r | exact Sb.ar | exact Sb.al | apply Sb.d | refine Sb.t ?_)))) rfl rfl _ (List.Sublist.refl _) ?_)
                refine TL_nil ?_
                refine T_then rfl (by rfl) ?_
                refine T_seq ?_
                refine T_region ?_
                refine TL_p (PV_move rfl) ?_
                refine TL_p (PV_bin rfl rfl (bin_nilptr_nil Tryd.underlying53)) ?_
                refine TL_p (PV_move rfl) ?_
                refine TL_yes rfl rfl rfl (TO_pure rfl (PV_move rfl) ?_)
                refine TL_yes rfl rfl rfl (TO_call0 call13 rfl rfl (number_t ?sd42006q423_0 ?sd42006q423_1 _) ?_)
                case sd42006q423_0 => exact hL
                case sd42006q423_1 => exact hB0
                rintro v79_42007 H79_42007 ⟨rfl, rfl⟩
                refine TL_yes rfl rfl rfl (TO_pure rfl (PV_bin rfl rfl bin_eql) ?_)
                refine TL_p (PV_pickAnd rfl rfl rfl) ?_
                refine TL_p (PV_assign rfl) ?_
                refine TL_nil ?_
                refine ?L421
                all_goals exact T_ret (ret_ret (ResV_one rfl rfl) ⟨H, hZ.trans (by repeat (first | exact Sb.r | exact Sb.ar | exact Sb.al | apply Sb.d | refine Sb.t ?_)), rfl, rfl⟩)
end
end Go.Proofs.YtijpbpnfachlkaaDoor.SL
