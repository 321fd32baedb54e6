import Derived.Test.YtijpbpnfachlkaaDoorE3
import Derived.Test.YtijpbpnfachlkaaDoorErrAs
import Derived.Test.YtijpbpnfachlkaaDoorY1
/- What can't be waited for: none at all, and a pattern that the empty text fits; rules. No statement is proved here. -/
set_option linter.unusedVariables false
set_option linter.unusedSimpArgs false
set_option maxRecDepth 100000
set_option maxHeartbeats 8000000
namespace Go.Proofs.YtijpbpnfachlkaaDoor.SL
open Go Go.RowKit
def wB (gw gT gA k cT cA seen : Nat) (over : Bool) (gs : List Nat) (vs : List Value) (Z : List Chunk) : List Chunk := wC gw gT gA k cT cA seen over :: tC gT k cT gs :: aC gA k cA vs :: Z
def errE2 (no : Int) : Value := .iface 37 (.int .i64 no)
section
variable {w0 : World} {B n : Nat} {H HR : List Chunk}
theorem Of0_t {A : Option Addr} {c : Nat} : TCall Tryd.prog w0 B 23 #[.slice A 0 c] (fun r H' => r = .tuple #[.pointer none, errE2 7] ∧ H' = H) H := by
  refine TCall_intro (args := [_]) Tryd.func23 rfl Tryd.ntmps23 (Nat.le_of_ble_eq_true rfl) ?_
  refine T_seq ?_
  refine T_region ?_
  refine TL_p (PV_assign rfl) ?_
  refine TL_p (PV_assign rfl) ?_
  refine TL_nil ?_
  refine T_seq ?_
  refine T_seq ?_
  refine T_region ?_
  refine TL_p (PV_move rfl) ?_
  refine TL_p (PV_len_slice Tryd.underlying52 rfl) ?_
  refine TL_p (PV_bin rfl rfl bin_eql) ?_
  refine TL_p (PV_move rfl) ?_
  refine TL_no (b := true) rfl rfl rfl rfl ?_
  refine TL_no (b := true) rfl rfl rfl rfl ?_
  refine TL_no (b := true) rfl rfl rfl rfl ?_
  refine TL_p (PV_pickT rfl (by first | assumption | rfl | (simp; done) | (simp; omega) | (simp [*]; done) | (simp [*]; omega)) rfl rfl) ?_
  refine TL_nil ?_
  refine T_then rfl (by rfl) ?_
  refine T_seq ?_
  refine T_region ?_
  refine TL_p (PV_makeInterface (by kernel_rfl) rfl) ?_
  refine TL_p (PV_assign rfl) ?_
  refine TL_p (PV_assign rfl) ?_
  refine TL_nil ?_
  refine T_ret ?_
  refine ret_ret (ResV_two rfl rfl rfl) ⟨_, List.Sublist.refl _, ⟨rfl, rfl⟩⟩
/-- a text that the empty text fits -/
structure NulOk (q : List Int) (t : Rx) : Prop where
  u8 : U8s q
  len : q.length ≤ 64
  ok : ∃ e, pParse q = .ok t e
  pl : pl t ≤ 1000000
  nx : nx t ≤ 900000000
theorem OfU_t {A : Option Addr} {m c k : Nat} {qs : List (List Int)} {ts : List Rx} (hS : Shows (WH w0 B H) A m 1 (strs qs)) (hqm : qs.length = m) (hk : k < m) (h8 : m ≤ 8) (hc : m ≤ c) (hq : ∀ i, i < m → NulOk (qs.getD i []) (ts.getD i .nothing)) (hno : ∀ i, i < k → nul (ts.getD i .nothing) = false) (hy : nul (ts.getD k .nothing) = true) :
    TCall Tryd.prog w0 B 23 #[.slice A m c] (fun r H' => r = .tuple #[.pointer none, errE2 8] ∧ H' = H) H := by
  have e12b : Value.bool ((m : Int) == 0) = .bool false := congrArg Value.bool (by simp; omega)
  have e16 : Value.bool (decide ((m : Int) > 8)) = .bool false := congrArg Value.bool (decide_eq_false (by omega))
  refine TCall_intro (args := [_]) Tryd.func23 rfl Tryd.ntmps23 (Nat.le_of_ble_eq_true rfl) ?_
  refine T_seq ?_
  refine T_region ?_
  refine TL_p (PV_assign rfl) ?_
  refine TL_p (PV_assign rfl) ?_
  refine TL_nil ?_
  refine T_seq ?_
  refine T_seq ?_
  refine T_region ?_
  refine TL_p (PV_move rfl) ?_
  refine TL_p (PV_len_slice Tryd.underlying52 rfl) ?_
  refine TL_p (PV.cast (PV_bin rfl rfl bin_eql) e12b) ?_
  refine TL_p (PV_move rfl) ?_
  refine TL_yes rfl rfl rfl (TO_pure rfl (PV_move rfl) ?_)
  refine TL_yes rfl rfl rfl (TO_pure rfl (PV_len_slice Tryd.underlying52 rfl) ?_)
  refine TL_yes rfl rfl rfl (TO_pure rfl (PV.cast (PV_bin rfl rfl bin_gtr) e16) ?_)
  refine TL_p (PV_pickOr rfl rfl rfl) ?_
  refine TL_nil ?_
  refine T_else rfl (by rfl) ?_
  refine T_skip ?_
  refine T_seq ?_
  refine T_region ?_
  refine TL_p (PV_move rfl) ?_
  refine TL_p (PV_len_slice Tryd.underlying52 rfl) ?_
  refine TL_cons rfl (TO_make Tryd.underlying86 zb99 rfl (by omega) (by omega) rfl ⟨_, rfl⟩ ⟨_, rfl⟩ fun g1 => ?_)
  refine TL_p (PV_bld (cs := [_, _, _, _]) Tryd.underlying89 pl89 zr89 rfl rfl) ?_
  refine TL_cons rfl (TO_box rfl rfl fun g2 => ?_)
  refine TL_p (PV_assign rfl) ?_
  refine TL_nil ?_
  refine T_seq ?_
  refine T_seq ?_
  refine T_region ?_
  refine TL_p (PV_move rfl) ?_
  refine TL_p (PV_len_slice Tryd.underlying52 rfl) ?_
  refine TL_p (PV_move rfl) ?_
  refine TL_nil ?_
  refine T_block ?_
  refine ?L1
  case L1 =>
    refine T_addNil 1 ?_
    refine T_loopP5 (fun (j : Nat) (Aj : Option Addr) (cj : Nat) (gs : List Nat) (Z : List Chunk) => j ≤ k ∧ gs.length = j ∧ j ≤ cj ∧ H.Sublist Z ∧ ∀ i, i < j → Tab (WH w0 B Z) (gs.getD i 0) (ts.getD i .nothing)) (fun j _ _ _ _ => k - j) (fun j Aj cj gs Z => [(4, .pointer (some ⟨g2, 0, none⟩)), (24, .slice A m c), (25, .int .i64 (m : Int)), (26, .int .i64 (j : Int))]) (fun j Aj cj gs Z => .own g2 4 [.slice Aj j cj, .slice (some ⟨g1, 0, none⟩) m m, .int .i64 0, .bool false] :: .sl (.slice Aj j cj) 1 j (ptrs gs) :: .sl (.slice (some ⟨g1, 0, none⟩) m m) 1 m (List.replicate m (.slice none 0 0)) :: Z) 0 none 0 [] H ⟨Nat.zero_le _, rfl, Nat.le_refl _, List.Sublist.refl _, fun i hi => absurd hi (Nat.not_lt_zero i)⟩ (by repeat (first | exact FrSub.nil _ | refine FrSub.cons rfl ?_)) (Has.of_perm (List.Perm.swap _ _ _) (by repeat (first | exact Sb.r | exact Sb.ar | exact Sb.al | apply Sb.c | apply Sb.d | refine Sb.t ?_))) ?_
    rintro j Aj cj gs Z ⟨hj, hgl, hcj, hZ, hT⟩
    have hpl : (ptrs gs).length = j := by simp [ptrs, hgl]
    have hjm : j < m := by omega
    have e53 : Value.int .i64 (IntKind.i64.wrap ((j : Int) + 1)) = .int .i64 ((j + 1 : Nat) : Int) := wr64n _ (by push_cast; rfl) (by omega)
    refine T_shows (hS.mono fun w h => h.sub (hZ.trans (by repeat (first | exact Sb.r | exact Sb.ar | exact Sb.al | apply Sb.d | refine Sb.t ?_)))) (by simp [strs, hqm]; omega) fun ga oa hA hr1 => ?_
    subst hA
    obtain ⟨hu2, hlen2, ⟨e, hpar⟩, hplt, hnxt⟩ := hq j hjm
    obtain ⟨t, ht⟩ : ∃ t, ts.getD j .nothing = t := ⟨_, rfl⟩
    obtain ⟨q, hqe⟩ : ∃ q, qs.getD j [] = q := ⟨_, rfl⟩
    rw [ht] at hpar hplt hnxt
    rw [hqe] at hpar hu2 hlen2
    have hR1 : Rd _ ⟨ga, oa + j * 1, none⟩ (.string (strOfNums q)) := hr1 (j * 1) _ (by rw [← hqe]; exact strs_at (by rw [hqm]; exact hjm))
    have hem := fun {X : List Chunk} {g : Nat} {b : Bool} (hb : nul t = b) (hT : Tab (WH w0 B X) g t) => (Empty_t (w0 := w0) (B := B) (H := X) hT).mono (R' := fun r H' => r = .bool b ∧ H' = X) fun r h q => ⟨by rw [← hb]; exact q.1, q.2⟩
    by_cases hjk : j < k
    · have hnul := hno j hjk
      rw [ht] at hnul
      refine T_seq ?_
      refine T_region ?_
      refine TL_p (PV_bin rfl rfl bin_lss) ?_
      refine TL_nil ?_
      refine T_seq ?_
      refine T_then rfl (by exact decide_eq_true (by omega)) ?_
      refine T_skip ?_
      refine T_seq ?_
      refine T_block ?_
      refine T_seq ?_
      refine T_region ?_
      refine TL_p (PV_indexAddr Tryd.underlying52 sz9 rfl rfl rfl (by first | omega | decide | assumption)) ?_
      refine TL_p (PV_load Tryd.underlying9 rfl rfl hR1) ?_
      refine TL_p (PV_assign rfl) ?_
      refine TL_nil ?_
      refine T_seq ?_
      refine T_region ?_
      refine TL_p (PV_move rfl) ?_
      refine TL_cons rfl (TO_parse hpar hu2 hlen2 rfl rfl rfl fun v32 N32 hv32 => ?_)
      refine TL_p (PV_move rfl) ?_
      refine TL_p (PV_extract rfl rfl) ?_
      refine TL_p (PV_extract rfl rfl) ?_
      refine TL_cons rfl (TO_alloc rfl zr30 fun g1002 => ?_)
      refine TL_cons rfl (TO_store 0 rfl rfl rfl sz30 rfl rfl rfl (all_one rfl) (by first | exact Nat.le_of_ble_eq_true rfl | (simp; done) | (simp; omega) | omega) ?_)
      refine TL_p (PV_assign rfl) ?_
      refine TL_nil ?_
      refine T_seq ?_
      refine T_seq ?_
      refine T_region ?_
      refine TL_p (PV_move rfl) ?_
      refine TL_p (PV_bin rfl rfl (bin_nil_nnil Tryd.underlying34)) ?_
      refine TL_nil ?_
      refine T_else rfl (by rfl) ?_
      refine T_skip ?_
      refine T_seq ?_
      refine T_region ?_
      refine TL_p (PV_loadAt Tryd.underlying30 rfl sz30 rfl (Rds.take 0 rfl rfl rfl)) ?_
      refine TL_cons rfl (TO_Of (hv32.mono fun w h => h.sub ((List.sublist_append_right _ N32).trans (by repeat (first | exact Sb.r | exact Sb.ar | exact Sb.al | apply Sb.d | refine Sb.t ?_)))) (by omega) (by omega) rfl rfl fun g39 N39 hT39 => ?_)
      refine TL_p (PV_assign rfl) ?_
      refine TL_nil ?_
      refine T_seq ?_
      refine T_seq ?_
      refine T_region ?_
      refine TL_p (PV_move rfl) ?_
      refine TL_cons rfl (TO_eqD call25 (hem hnul (hT39.mono fun w h => h.sub (by repeat (first | exact Sb.r | exact Sb.ar | exact Sb.al | apply Sb.d | refine Sb.t ?_)))) rfl rfl _ (List.Sublist.refl _) ?_)
      refine TL_nil ?_
      refine T_else rfl (by rfl) ?_
      refine T_skip ?_
      refine T_region ?_
      refine TL_p (PV_move rfl) ?_
      refine TL_p (PV_move rfl) ?_
      refine TL_p (PV_nilCheck rfl) ?_
      refine TL_p (PV_fieldAddr (D := 0) Tryd.underlying89 rfl sz87 (by decide) rfl rfl) ?_
      refine TL_p (PV_load Tryd.underlying87 rfl rfl (Rd.at 1 rfl rfl)) ?_
      refine TL_p (PV_move rfl) ?_
      refine TL_cons rfl (TO_bs (cs := [_]) Tryd.underlying87 zs56 (by decide) rfl rfl rfl rfl rfl rfl fun g1006 => ?_)
      refine TL_cons rfl (TO_append 3 rfl Tryd.underlying87 zb56 rfl (by decide) rfl rfl rfl (Shows.at 0 rfl) ?oc1007q50 ?bb1007q50 ?bc1007q50 fun A1007 c1007 hc1007 => ?_)
      case oc1007q50 => (simp [Value.oneCell'])
      case bb1007q50 => omega
      case bc1007q50 => omega
      refine TL_p (PV_nilCheck rfl) ?_
      refine TL_p (PV_fieldAddr (D := 0) Tryd.underlying89 rfl sz87 (by decide) rfl rfl) ?_
      refine TL_cons rfl (TO_store1 2 rfl rfl rfl sz87 rfl rfl rfl (by first | exact Nat.le_of_ble_eq_true rfl | (simp; done) | (simp; omega) | omega) ?_)
      refine TL_nil ?_
      refine T_region ?_
      refine TL_p (PV.cast (PV_bin rfl rfl bin_add) e53) ?_
      refine TL_p (PV_move rfl) ?_
      refine TL_nil ?_
      refine ?L11
      case L11 =>
        have hpp : ptrs (gs ++ [g39]) = ptrs gs ++ [.pointer (some ⟨g39, 0, none⟩)] := by simp [ptrs]
        refine ⟨j + 1, A1007, c1007, gs ++ [g39], (Z ++ N32) ++ N39, ⟨by omega, by simp [hgl], by omega, hZ.trans ((List.sublist_append_left _ _).trans (List.sublist_append_left _ _)), fun i hi => ?_⟩, by omega, (by repeat (first | exact FrSub.nil _ | refine FrSub.cons rfl ?_)), ?_⟩
        · rcases Nat.lt_or_ge i j with h | h
          · rw [show (gs ++ [g39]).getD i 0 = gs.getD i 0 by simp [List.getD_eq_getElem?_getD, List.getElem?_append_left (show i < gs.length by omega)]]
            exact (hT i h).mono fun w h => h.sub ((List.sublist_append_left _ _).trans (List.sublist_append_left _ _))
          · obtain rfl : i = j := by omega
            rw [show (gs ++ [g39]).getD i 0 = g39 by simp [List.getD_eq_getElem?_getD, ← hgl], ht]
            exact hT39.mono fun w h => h.sub (List.sublist_append_right _ _)
        · rw [hpp]
          exact Has.of_sub (by repeat (first | exact Sb.r | exact Sb.ar | exact Sb.al | apply Sb.c | apply Sb.d | refine Sb.t ?_))
    · obtain rfl : j = k := by omega
      rw [ht] at hy
      refine T_seq ?_
      refine T_region ?_
      refine TL_p (PV_bin rfl rfl bin_lss) ?_
      refine TL_nil ?_
      refine T_seq ?_
      refine T_then rfl (by exact decide_eq_true (by omega)) ?_
      refine T_skip ?_
      refine T_seq ?_
      refine T_block ?_
      refine T_seq ?_
      refine T_region ?_
      refine TL_p (PV_indexAddr Tryd.underlying52 sz9 rfl rfl rfl (by first | omega | decide | assumption)) ?_
      refine TL_p (PV_load Tryd.underlying9 rfl rfl hR1) ?_
      refine TL_p (PV_assign rfl) ?_
      refine TL_nil ?_
      refine T_seq ?_
      refine T_region ?_
      refine TL_p (PV_move rfl) ?_
      refine TL_cons rfl (TO_parse hpar hu2 hlen2 rfl rfl rfl fun v32 N32 hv32 => ?_)
      refine TL_p (PV_move rfl) ?_
      refine TL_p (PV_extract rfl rfl) ?_
      refine TL_p (PV_extract rfl rfl) ?_
      refine TL_cons rfl (TO_alloc rfl zr30 fun g4002 => ?_)
      refine TL_cons rfl (TO_store 0 rfl rfl rfl sz30 rfl rfl rfl (all_one rfl) (by first | exact Nat.le_of_ble_eq_true rfl | (simp; done) | (simp; omega) | omega) ?_)
      refine TL_p (PV_assign rfl) ?_
      refine TL_nil ?_
      refine T_seq ?_
      refine T_seq ?_
      refine T_region ?_
      refine TL_p (PV_move rfl) ?_
      refine TL_p (PV_bin rfl rfl (bin_nil_nnil Tryd.underlying34)) ?_
      refine TL_nil ?_
      refine T_else rfl (by rfl) ?_
      refine T_skip ?_
      refine T_seq ?_
      refine T_region ?_
      refine TL_p (PV_loadAt Tryd.underlying30 rfl sz30 rfl (Rds.take 0 rfl rfl rfl)) ?_
      refine TL_cons rfl (TO_Of (hv32.mono fun w h => h.sub ((List.sublist_append_right _ N32).trans (by repeat (first | exact Sb.r | exact Sb.ar | exact Sb.al | apply Sb.d | refine Sb.t ?_)))) (by omega) (by omega) rfl rfl fun g39 N39 hT39 => ?_)
      refine TL_p (PV_assign rfl) ?_
      refine TL_nil ?_
      refine T_seq ?_
      refine T_seq ?_
      refine T_region ?_
      refine TL_p (PV_move rfl) ?_
      refine TL_cons rfl (TO_eqD call25 (hem hy (hT39.mono fun w h => h.sub (by repeat (first | exact Sb.r | exact Sb.ar | exact Sb.al | apply Sb.d | refine Sb.t ?_)))) rfl rfl _ (List.Sublist.refl _) ?_)
      refine TL_nil ?_
      refine T_then rfl (by rfl) ?_
      refine T_seq ?_
      refine T_region ?_
      refine TL_p (PV_makeInterface (by kernel_rfl) rfl) ?_
      refine TL_p (PV_assign rfl) ?_
      refine TL_p (PV_assign rfl) ?_
      refine TL_nil ?_
      refine ?L41
      all_goals exact T_ret (ret_ret (ResV_two rfl rfl rfl) ⟨H, hZ.trans (by repeat (first | exact Sb.r | exact Sb.ar | exact Sb.al | apply Sb.d | refine Sb.t ?_)), rfl, rfl⟩)
/-- as TO_OfWF, what stood there ahead -/
theorem TO_OfWR {fr : Fr} {dst : Option Tmp} {ty : TypeId} {pos : String} {aft : Array Edge} {gd : Option (Nat × Bool)} {K : Fr → List Chunk → Prop} {xs : Array Operand} {ats : Array TypeId} {Hf : List Chunk} {A : Option Addr} {m c : Nat} {qs : List (List Int)} {ts : List Rx} (hH : H.Perm (Hf ++ HR)) (hS : Shows (WH w0 B Hf) A m 1 (strs qs)) (hqm : qs.length = m) (h1 : 1 ≤ m) (h8 : m ≤ 8) (hc : m ≤ c) (htl : ts.length = m) (hq : ∀ i, i < m → PatOk (qs.getD i []) (ts.getD i .nothing)) (hd : dOk n dst = true) (hx : evs fr xs.toList = some [.slice A m c])
    (h : ∀ gw gT gA cT cA gs vs Z, Wk (WH w0 B Z) ts gs (List.replicate m []) vs m → K (frPut dst (.tuple #[.pointer (some ⟨gw, 0, none⟩), .nilIface]) fr) (HR ++ wB gw gT gA m cT cA 0 false gs vs Z)) :
    TO Tryd.prog w0 B n ⟨dst, .call { callee := .value (.func 23), args := xs, argTypes := ats }, ty, pos, aft, gd⟩ K fr H := by
  intro HX a w Q hf hr
  have hm : xs.map a.eval = #[.slice A m c] := by
    have : xs.map a.eval = [Value.slice A m c].toArray := by rw [← hf.evs hx, ← List.map_toArray, Array.toArray_toList]
    exact this
  have he : execOp a.eval ⟨dst, .call { callee := .value (.func 23), args := xs, argTypes := ats }, ty, pos, aft, gd⟩ = callFunc 23 (#[] ++ xs.map a.eval ++ #[]) := rfl
  simp only [Oper.wp, he, hm, Array.empty_append, Array.append_empty]
  rw [call23]
  simp only [Oper.upon]
  have hr2 : Rep w0 B (Hf ++ (HR ++ HX)) w := by
    rw [← List.append_assoc]; exact hr.perm (hH.append_right HX)
  refine (OfW_t hS hqm h1 h8 hc htl hq (HR ++ HX) w hr2).mono ?_
  rintro e w' ⟨v, H', rfl, ⟨gw, gT, gA, cT, cA, gs, vs, Z, rfl, hZ, hW, rfl⟩, hr'⟩
  refine ⟨_, _, h gw gT gA cT cA gs vs Z hW, hf.put hd _, ?_⟩
  rw [List.append_assoc]
  exact hr'.perm (List.perm_append_comm_assoc _ HR HX)
end
section
variable {w0 : World} {B n : Nat} {H HR : List Chunk} {fr : Fr} {dst : Option Tmp} {ty : TypeId} {pos : String} {aft : Array Edge} {gd : Option (Nat × Bool)} {K : Fr → List Chunk → Prop} {xs : Array Operand} {ats : Array TypeId}
theorem TO_PutF {gw gT gA k cT cA seen cb : Nat} {N : List Chunk} {ts : List Rx} {gs : List Nat} {ps : List (List Bool)} {vs : List Value} {o : Option Nat} {V : Value} (hH : H.Perm (wB gw gT gA k cT cA seen false gs vs N ++ HR)) (hcb : cb ≤ 255) (hsn : seen < 4611686018427387904) (hk : k ≤ 1000) (hW : Wk (WH w0 B N) ts gs ps vs k) (ho : bestT ts ps cb k = o) (hV : .tuple #[.int .i64 ((o.getD 0 : Nat) : Int), .bool o.isSome] = V) (hd : dOk n dst = true) (hx : evs fr xs.toList = some [.pointer (some ⟨gw, 0, none⟩), .int .u8 (cb : Int)])
    (h : ∀ vs' N', Wk (WH w0 B N') ts gs (putL ts ps cb k) vs' k → K (frPut dst V fr) (wB gw gT gA k cT cA (seen + 1) o.isSome gs vs' N' ++ HR)) :
    TO Tryd.prog w0 B n ⟨dst, .call { callee := .value (.func 30), args := xs, argTypes := ats }, ty, pos, aft, gd⟩ K fr H := by
  refine TO_call (HR := HR) call30 hd hx hH (Put_t hcb hsn hk hW) ?_
  rintro v' H' ⟨vs', N', rfl, hN, hW', rfl⟩
  rw [ho]
  rw [← hV] at h
  exact h vs' N' hW'
theorem TO_OverF {gw gT gA k cT cA seen : Nat} {over : Bool} {N : List Chunk} {gs : List Nat} {vs : List Value} (hH : H.Perm (wB gw gT gA k cT cA seen over gs vs N ++ HR)) (hd : dOk n dst = true) (hx : evs fr xs.toList = some [.pointer (some ⟨gw, 0, none⟩)])
    (h : K (frPut dst (.bool over) fr) (wB gw gT gA k cT cA seen over gs vs N ++ HR)) :
    TO Tryd.prog w0 B n ⟨dst, .call { callee := .value (.func 27), args := xs, argTypes := ats }, ty, pos, aft, gd⟩ K fr H := by
  refine TO_call (HR := HR) call27 hd hx hH (Over_t (N := tC gT k cT gs :: aC gA k cA vs :: N)) ?_
  rintro v' H' ⟨rfl, rfl⟩
  exact h
theorem TO_SeenF {gw gT gA k cT cA seen : Nat} {over : Bool} {N : List Chunk} {gs : List Nat} {vs : List Value} (hH : H.Perm (wB gw gT gA k cT cA seen over gs vs N ++ HR)) (hd : dOk n dst = true) (hx : evs fr xs.toList = some [.pointer (some ⟨gw, 0, none⟩)])
    (h : K (frPut dst (.int .i64 (seen : Int)) fr) (wB gw gT gA k cT cA seen over gs vs N ++ HR)) :
    TO Tryd.prog w0 B n ⟨dst, .call { callee := .value (.func 26), args := xs, argTypes := ats }, ty, pos, aft, gd⟩ K fr H := by
  refine TO_call (HR := HR) call26 hd hx hH (Seen_t (N := tC gT k cT gs :: aC gA k cA vs :: N)) ?_
  rintro v' H' ⟨rfl, rfl⟩
  exact h
end
end Go.Proofs.YtijpbpnfachlkaaDoor.SL
