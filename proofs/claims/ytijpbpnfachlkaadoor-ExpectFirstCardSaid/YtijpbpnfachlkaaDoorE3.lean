import Derived.Test.YtijpbpnfachlkaaDoorE2
import Derived.Test.YtijpbpnfachlkaaDoorG3
import Derived.Test.YtijpbpnfachlkaaDoorN17
/- What waits for patterns: rules, and the examples. No statement is proved here. -/
set_option linter.unusedVariables false
set_option linter.unusedSimpArgs false
set_option maxRecDepth 100000
set_option maxHeartbeats 8000000
namespace Go.Proofs.YtijpbpnfachlkaaDoor.SL
open Go Go.RowKit
section
variable {w0 : World} {B n : Nat} {H : List Chunk} {fr : Fr} {dst : Option Tmp} {ty : TypeId} {pos : String} {aft : Array Edge} {gd : Option (Nat × Bool)} {K : Fr → List Chunk → Prop} {xs : Array Operand} {ats : Array TypeId}
theorem TO_OfW {A : Option Addr} {m c : Nat} {qs : List (List Int)} {ts : List Rx} (hS : Shows (WH w0 B H) A m 1 (strs qs)) (hqm : qs.length = m) (h1 : 1 ≤ m) (h8 : m ≤ 8) (hc : m ≤ c) (htl : ts.length = m) (hq : ∀ i, i < m → PatOk (qs.getD i []) (ts.getD i .nothing)) (hd : dOk n dst = true) (hx : evs fr xs.toList = some [.slice A m c])
    (h : ∀ gw gT gA cT cA gs vs Z, H.Sublist Z → Wk (WH w0 B Z) ts gs (List.replicate m []) vs m → K (frPut dst (.tuple #[.pointer (some ⟨gw, 0, none⟩), .nilIface]) fr) (wC gw gT gA m cT cA 0 false :: tC gT m cT gs :: aC gA m cA vs :: Z)) :
    TO Tryd.prog w0 B n ⟨dst, .call { callee := .value (.func 23), args := xs, argTypes := ats }, ty, pos, aft, gd⟩ K fr H := by
  refine TO_call (HR := []) call23 hd hx (by rw [List.append_nil]) (OfW_t hS hqm h1 h8 hc htl hq) ?_
  rintro v' H' ⟨gw, gT, gA, cT, cA, gs, vs, Z, rfl, hZ, hW, rfl⟩
  rw [List.append_nil]
  exact h gw gT gA cT cA gs vs Z hZ hW
theorem TO_Put {gw gT gA k cT cA seen cb : Nat} {N : List Chunk} {ts : List Rx} {gs : List Nat} {ps : List (List Bool)} {vs : List Value} {o : Option Nat} {V : Value} (hH : H.Perm (wC gw gT gA k cT cA seen false :: tC gT k cT gs :: aC gA k cA vs :: N)) (hcb : cb ≤ 255) (hsn : seen < 4611686018427387904) (hk : k ≤ 1000) (hW : Wk (WH w0 B N) ts gs ps vs k) (ho : bestT ts ps cb k = o) (hV : .tuple #[.int .i64 ((o.getD 0 : Nat) : Int), .bool o.isSome] = V) (hd : dOk n dst = true) (hx : evs fr xs.toList = some [.pointer (some ⟨gw, 0, none⟩), .int .u8 (cb : Int)])
    (h : ∀ vs' N', N.Sublist N' → Wk (WH w0 B N') ts gs (putL ts ps cb k) vs' k → K (frPut dst V fr) (wC gw gT gA k cT cA (seen + 1) o.isSome :: tC gT k cT gs :: aC gA k cA vs' :: N')) :
    TO Tryd.prog w0 B n ⟨dst, .call { callee := .value (.func 30), args := xs, argTypes := ats }, ty, pos, aft, gd⟩ K fr H := by
  refine TO_call (HR := []) call30 hd hx (by rw [List.append_nil]; exact hH) (Put_t hcb hsn hk hW) ?_
  rintro v' H' ⟨vs', N', rfl, hN, hW', rfl⟩
  rw [List.append_nil, ho]
  rw [← hV] at h
  exact h vs' N' hN hW'
theorem TO_PutOver {gw gT gA k cT cA seen cb : Nat} {N : List Chunk} (hH : H.Perm (wC gw gT gA k cT cA seen true :: N)) (hd : dOk n dst = true) (hx : evs fr xs.toList = some [.pointer (some ⟨gw, 0, none⟩), .int .u8 (cb : Int)])
    (h : K (frPut dst (.tuple #[.int .i64 0, .bool false]) fr) (wC gw gT gA k cT cA seen true :: N)) :
    TO Tryd.prog w0 B n ⟨dst, .call { callee := .value (.func 30), args := xs, argTypes := ats }, ty, pos, aft, gd⟩ K fr H := by
  refine TO_call (HR := []) call30 hd hx (by rw [List.append_nil]; exact hH) (Put_over) ?_
  rintro v' H' ⟨rfl, rfl⟩
  rw [List.append_nil]
  exact h
theorem pab_b : ∃ t1 t2, PatOk [97, 98] t1 ∧ PatOk [98] t2 ∧ bestT [t1, t2] [[], []] 97 2 = none ∧ bestT [t1, t2] (putL [t1, t2] [[], []] 97 2) 98 2 = some 0 := by
  have h1 : PatOk [97, 98] (chainT [97, 98]) := ⟨u8_small _ (by decide), by decide, ⟨2, parse_quote (s := [97, 98])⟩, by decide, by decide, by decide⟩
  have h2 : PatOk [98] (chainT [98]) := ⟨u8_small _ (by decide), by decide, ⟨1, parse_quote (s := [98])⟩, by decide, by decide, by decide⟩
  exact ⟨_, _, h1, h2, by decide +kernel, by decide +kernel⟩
theorem awake09_t : TCall Tryd.prog w0 B 22 #[] (fun r H' => r = .bool true ∧ H' = H) H := by
  obtain ⟨t1, t2, h1, h2, hb1, hb2⟩ := pab_b
  have hs1 : strOfNums [97, 98] = ⟨#[97, 98]⟩ := by kernel_rfl
  have hs2 : strOfNums [98] = ⟨#[98]⟩ := by kernel_rfl
  have hst : strs [[97, 98], [98]] = [.string ⟨#[97, 98]⟩, .string ⟨#[98]⟩] := by unfold strs; simp only [List.map_cons, List.map_nil]; rw [hs1, hs2]
  have hq : ∀ i, i < 2 → PatOk (([[97, 98], [98]] : List (List Int)).getD i []) ([t1, t2].getD i .nothing) := fun i hi => by
    rcases (by omega : i = 0 ∨ i = 1) with rfl | rfl
    · exact h1
    · exact h2
  refine TCall_intro (args := []) Tryd.func22 rfl Tryd.ntmps22 (Nat.le_of_ble_eq_true rfl) ?_
  refine T_seq ?_
  refine T_region ?_
  refine TL_p (PV_assign rfl) ?_
  refine TL_nil ?_
  refine T_seq ?_
  refine T_region ?_
  refine TL_cons rfl (TO_bs (cs := [_, _]) Tryd.underlying52 zs9 (by decide) rfl rfl rfl rfl rfl rfl fun g1 => ?_)
  refine ?L1
  case L1 =>
    refine TL_cons rfl (TO_OfW (qs := [[97, 98], [98]]) (ts := [t1, t2]) (m := 2) (c := 2) (A := some ⟨g1, 0, none⟩) (by rw [hst]; exact Shows.at 0 rfl) rfl (by omega) (by omega) (by omega) rfl hq rfl rfl fun gw gT gA cT cA gs vs Z hZ hW => ?_)
    refine TL_p (PV_move rfl) ?_
    refine TL_p (PV_extract rfl rfl) ?_
    refine TL_p (PV_extract rfl rfl) ?_
    refine TL_p (PV_assign rfl) ?_
    refine TL_p (PV_assign rfl) ?_
    refine TL_nil ?_
    refine T_seq ?_
    refine T_seq ?_
    refine T_region ?_
    refine TL_p (PV_move rfl) ?_
    refine TL_p (PV_bin rfl rfl (bin_ptr_nil Tryd.underlying53)) ?_
    refine TL_nil ?_
    refine T_else rfl (by rfl) ?_
    refine T_skip ?_
    refine T_seq ?_
    refine T_region ?_
    refine TL_p (PV_move rfl) ?_
    refine TL_cons rfl (TO_Put (cb := 97) (List.Perm.refl _) (by omega) (by omega) (by omega) hW hb1 (V := .tuple #[.int .i64 0, .bool false]) rfl rfl rfl fun vs2 N2 hN2 hW2 => ?_)
    refine TL_p (PV_move rfl) ?_
    refine TL_p (PV_extract rfl rfl) ?_
    refine TL_p (PV_extract rfl rfl) ?_
    refine TL_p (PV_assign rfl) ?_
    refine TL_p (PV_assign rfl) ?_
    refine TL_nil ?_
    refine T_seq ?_
    refine T_region ?_
    refine TL_p (PV_move rfl) ?_
    refine TL_cons rfl (TO_Put (cb := 98) (List.Perm.refl _) (by omega) (by omega) (by omega) hW2 hb2 (V := .tuple #[.int .i64 0, .bool true]) rfl rfl rfl fun vs3 N3 hN3 hW3 => ?_)
    refine TL_p (PV_move rfl) ?_
    refine TL_p (PV_extract rfl rfl) ?_
    refine TL_p (PV_extract rfl rfl) ?_
    refine TL_p (PV_assign rfl) ?_
    refine TL_p (PV_assign rfl) ?_
    refine TL_nil ?_
    refine T_seq ?_
    refine T_region ?_
    refine TL_p (PV_move rfl) ?_
    refine TL_p (PV_bin rfl rfl (bin_nil_nil Tryd.underlying34)) ?_
    refine TL_p (PV_move rfl) ?_
    refine TL_yes rfl rfl rfl (TO_pure rfl (PV_move rfl) ?_)
    refine TL_yes rfl rfl rfl (TO_pure rfl (PV_not rfl) ?_)
    refine TL_p (PV_pickAnd rfl rfl rfl) ?_
    refine TL_p (PV_move rfl) ?_
    refine TL_yes rfl rfl rfl (TO_pure rfl (PV_move rfl) ?_)
    refine TL_p (PV_pickAnd rfl rfl rfl) ?_
    refine TL_p (PV_move rfl) ?_
    refine TL_yes rfl rfl rfl (TO_pure rfl (PV_move rfl) ?_)
    refine TL_yes rfl rfl rfl (TO_pure rfl (PV_bin rfl rfl bin_eql) ?_)
    refine TL_p (PV_pickAnd rfl rfl rfl) ?_
    refine TL_p (PV_move rfl) ?_
    refine TL_yes rfl rfl rfl (TO_pure rfl (PV_move rfl) ?_)
    refine TL_yes rfl rfl rfl (TO_call0 call26 rfl rfl (Seen_t) ?_)
    rintro v39_1005 H39_1005 ⟨rfl, rfl⟩
    refine TL_yes rfl rfl rfl (TO_pure rfl (PV_bin rfl rfl bin_eql) ?_)
    refine TL_p (PV_pickAnd rfl rfl rfl) ?_
    refine TL_p (PV_move rfl) ?_
    refine TL_yes rfl rfl rfl (TO_pure rfl (PV_move rfl) ?_)
    refine TL_yes rfl rfl rfl (TO_call0 call27 rfl rfl (Over_t) ?_)
    rintro v44_1008 H44_1008 ⟨rfl, rfl⟩
    refine TL_p (PV_pickAnd rfl rfl rfl) ?_
    refine TL_p (PV_assign rfl) ?_
    refine TL_nil ?_
    refine ?L11
    all_goals exact T_ret (ret_ret (ResV_one rfl rfl) ⟨H, (List.sublist_cons_self _ _).trans (hZ.trans (hN2.trans (hN3.trans (by repeat (first | exact Sb.r | exact Sb.ar | exact Sb.al | apply Sb.c | apply Sb.d | refine Sb.t ?_))))), rfl, rfl⟩)
theorem awake09s : TCall Tryd.prog w0 B 22 #[] (fun r H' => r = .bool true ∧ H = H') H := awake09_t.mono fun v h q => ⟨q.1, q.2.symm⟩
end
end Go.Proofs.YtijpbpnfachlkaaDoor.SL
