import Derived.Test.YtijpbpnfachlkaaDoorP4
/- Patterns: one, and how often it comes. No statement is proved here. -/
set_option linter.unusedVariables false
set_option linter.unusedSimpArgs false
set_option maxRecDepth 100000
set_option maxHeartbeats 8000000
namespace Go.Proofs.YtijpbpnfachlkaaDoor.SL
open Go Go.RowKit
section
variable {w0 : World} {B : Nat} {H X : List Chunk}
/-- one, by how what is in brackets is read -/
def pOne (pE : Nat → Res Rx) (top : Bool) (s : List Int) (i : Nat) : Res Rx :=
  if rd s i = 40 then (if top = true then .bad i i else match pE (i + 1) with
    | .bad p e => .bad p e
    | .ok t j => if isB s j 41 = true then .ok t (j + 1) else .bad j j)
  else if rd s i = 91 then pClass s i
  else if rd s i = 46 then .ok (.one S4.zero.not_) (i + 1)
  else if rd s i = 42 ∨ rd s i = 43 ∨ rd s i = 63 ∨ rd s i = 93 then .bad i i
  else match pPlain s i with
    | .bad p e => .bad p e
    | .ok c j => .ok (.one (S4.zero.with_ c.toNat)) j
def pAgain (pE : Nat → Res Rx) (top : Bool) (s : List Int) (i : Nat) : Res Rx := match pOne pE top s i with
  | .bad p e => .bad p e
  | .ok t j => if j < s.length then (if rd s j = 42 then .ok (.star t) (j + 1) else if rd s j = 43 then .ok (.then_ t (.star t)) (j + 1) else if rd s j = 63 then .ok (.either t .nothing) (j + 1) else .ok t j) else .ok t j
/-- what a function that reads a node is to do -/
def ReadsOk (f : FuncId) (w0 : World) (B : Nat) (args : Array Value) (g : Nat) (s : List Int) (i : Nat) (t : Rx) (j : Nat) : Prop :=
  ∀ X, TCall Tryd.prog w0 B f args (fun r H' => ∃ (v : Nv) (N : List Chunk), r = .tuple #[v.val, .nilIface] ∧ Tr (WH w0 B N) t v ∧ H' = rdC g s j :: (X ++ N)) (rdC g s i :: X)
def ReadsBad (f : FuncId) (w0 : World) (B : Nat) (args : Array Value) (g : Nat) (s : List Int) (i p j : Nat) : Prop :=
  ∀ X, TCall Tryd.prog w0 B f args (fun r H' => r = .tuple #[nv0.val, faultV (p : Int)] ∧ H' = rdC g s j :: X) (rdC g s i :: X)
structure EitherC (w0 : World) (B : Nat) (g : Nat) (s : List Int) (deep : Nat) (pE : Nat → Res Rx) : Prop where
  ok : ∀ i t j, i ≤ s.length → pE i = .ok t j → ReadsOk 33 w0 B #[.pointer (some ⟨g, 0, none⟩), .int .i64 (deep : Int)] g s i t j
  bad : ∀ i p j, i ≤ s.length → pE i = .bad p j → ReadsBad 33 w0 B #[.pointer (some ⟨g, 0, none⟩), .int .i64 (deep : Int)] g s i p j
  lt : ∀ i t j, i ≤ s.length → pE i = .ok t j → i ≤ j ∧ j ≤ s.length
theorem class_res_ok {g : Nat} {s : List Int} {i j : Nat} {t : Rx} (hu : U8s s) (hs : s.length ≤ 64) (hi : i < s.length) (h : pClass s i = .ok t j) : ∃ st, t = .one st ∧ ∀ {X : List Chunk}, TCall Tryd.prog w0 B 63 #[.pointer (some ⟨g, 0, none⟩)] (fun r H' => r = .tuple #[(⟨1, st, none, 0, 0⟩ : Nv).val, .nilIface] ∧ H' = rdC g s j :: X) (rdC g s i :: X) := by
  unfold pClass at h
  split at h
  · cases h
  · rename_i st k hk
    cases h
    exact ⟨_, rfl, class_ok hu hs hi rfl hk⟩
theorem class_res_bad {g : Nat} {s : List Int} {i p j : Nat} (hu : U8s s) (hs : s.length ≤ 64) (hi : i < s.length) (h : pClass s i = .bad p j) : TCall Tryd.prog w0 B 63 #[.pointer (some ⟨g, 0, none⟩)] (fun r H' => r = .tuple #[nv0.val, faultV (p : Int)] ∧ H' = rdC g s j :: X) (rdC g s i :: X) := by
  unfold pClass at h
  split at h
  · rename_i q e hk
    cases h
    have := pClassL_from hk
    subst this
    exact class_bad hu hs hi rfl hk
  · cases h
theorem one_bad {g : Nat} {s : List Int} {i p j deep : Nat} {pE : Nat → Res Rx} {top : Bool} (hu : U8s s) (hs : s.length ≤ 64) (hi : i < s.length) (hd : deep ≤ 6) (htop : top = decide (deep = 6)) (hE : deep < 6 → EitherC w0 B g s (deep + 1) pE) (h : pOne pE top s i = .bad p j) :
    TCall Tryd.prog w0 B 62 #[.pointer (some ⟨g, 0, none⟩), .int .i64 (deep : Int)] (fun r H' => r = .tuple #[nv0.val, faultV (p : Int)] ∧ H' = rdC g s j :: X) (rdC g s i :: X) := by
  unfold pOne at h
  by_cases h40 : rd s i = 40
  · rw [if_pos h40] at h
    by_cases h6 : deep = 6
    · rw [if_pos (by rw [htop]; exact decide_eq_true h6)] at h
      cases h
      refine TCall_intro (args := [_, _]) Tryd.func62 rfl Tryd.ntmps62 (Nat.le_of_ble_eq_true rfl) ?_
      refine T_seq ?_
      refine T_region ?_
      refine TL_cons rfl (TO_alloc rfl zr30 fun g101 => ?_)
      refine TL_p (PV_assign rfl) ?_
      refine TL_nil ?_
      refine T_seq ?_
      refine T_seq ?_
      refine T_drawn (WH _ _ _) mixed (fun w h => h) ?_
      refine TA_p 0 rfl (by kernel_rfl) (PV_move rfl) ?_
      refine TA_p 1 rfl (by kernel_rfl) (PV_nilCheck rfl) ?_
      refine TA_p 2 rfl (by kernel_rfl) (PV_fieldAddr (D := 0) Tryd.underlying71 rfl sz9 (by decide) rfl rfl) ?_
      refine TA_p 3 rfl (by kernel_rfl) (PV_load Tryd.underlying9 rfl rfl (Rd.at 1 rfl rfl)) ?_
      refine TA_p 4 rfl (by kernel_rfl) (PV_move rfl) ?_
      refine TA_p 5 rfl (by kernel_rfl) (PV_nilCheck rfl) ?_
      refine TA_p 6 rfl (by kernel_rfl) (PV_fieldAddr (D := 1) Tryd.underlying71 rfl sz3 (by decide) rfl rfl) ?_
      refine TA_p 7 rfl (by kernel_rfl) (PV_load Tryd.underlying3 rfl rfl (Rd.at 1 rfl rfl)) ?_
      refine TA_p 8 rfl (by kernel_rfl) (PV_indexNums Tryd.underlying9 rfl rfl rfl hu hi) ?_
      refine TA_p 9 rfl (by kernel_rfl) (PV_assign rfl) ?_
      refine TA_done (by kernel_rfl) ?_
      refine T_seq ?_
      refine T_region ?_
      refine TL_p (PV_move rfl) ?_
      refine TL_nil ?_
      refine T_block ?_
      refine T_seq ?_
      refine T_region ?_
      refine TL_p (PV_bin rfl rfl bin_eql) ?_
      refine TL_p (PV_assign rfl) ?_
      refine TL_nil ?_
      refine T_then rfl (by exact decide_eq_true (by omega)) ?_
      refine T_seq ?_
      refine T_seq ?_
      refine T_region ?_
      refine TL_p (PV_move rfl) ?_
      refine TL_p (PV_bin rfl rfl bin_eql) ?_
      refine TL_nil ?_
      refine T_then rfl (by exact decide_eq_true (by omega)) ?_
      refine T_seq ?_
      refine T_region ?_
      refine TL_p (PV_bld (cs := [_, _, _, _, _, _]) Tryd.underlying30 pl30 zr30 rfl rfl) ?_
      refine TL_p (PV_move rfl) ?_
      refine TL_perm ((perm_pick (i := 1) rfl).trans (List.Perm.cons _ (List.Perm.refl _))) ?_
      refine TL_cons rfl (TO_call0 call35 rfl rfl (bad_t) ?_)
      rintro v27_104 H27_104 ⟨rfl, rfl⟩
      refine TL_cons rfl (TO_store 1 rfl rfl rfl sz30 rfl rfl rfl (all_one rfl) (by first | exact Nat.le_of_ble_eq_true rfl | (simp; done) | (simp; omega) | omega) ?_)
      refine TL_p (PV_assign rfl) ?_
      refine TL_nil ?_
      refine T_ret ?_
      refine ret_ret (ResV_ct rfl Tryd.underlying30 rfl sz30 rfl (Rds.take 1 rfl rfl rfl) rfl) ⟨_, ?zb106q59, ⟨rfl, rfl⟩⟩
      case zb106q59 => exact (by (repeat (first | exact Sb.r | exact Sb.ar | exact Sb.al | apply Sb.c | apply Sb.d | refine Sb.t ?_)); done)
    · rw [if_neg (by rw [htop]; simp [h6])] at h
      have hE2 := hE (by omega)
      have e38 : Value.int .i64 (IntKind.i64.wrap ((deep : Int) + 1)) = .int .i64 ((deep + 1 : Nat) : Int) := wr64n _ (by push_cast; rfl) (by omega)
      cases hp : pE (i + 1) with
      | bad q e =>
        rw [hp] at h
        cases h
        have hb := fun {X : List Chunk} => hE2.bad (i + 1) p j (by omega) hp X
        refine TCall_intro (args := [_, _]) Tryd.func62 rfl Tryd.ntmps62 (Nat.le_of_ble_eq_true rfl) ?_
        refine T_seq ?_
        refine T_region ?_
        refine TL_cons rfl (TO_alloc rfl zr30 fun g1001 => ?_)
        refine TL_p (PV_assign rfl) ?_
        refine TL_nil ?_
        refine T_seq ?_
        refine T_seq ?_
        refine T_drawn (WH _ _ _) mixed (fun w h => h) ?_
        refine TA_p 0 rfl (by kernel_rfl) (PV_move rfl) ?_
        refine TA_p 1 rfl (by kernel_rfl) (PV_nilCheck rfl) ?_
        refine TA_p 2 rfl (by kernel_rfl) (PV_fieldAddr (D := 0) Tryd.underlying71 rfl sz9 (by decide) rfl rfl) ?_
        refine TA_p 3 rfl (by kernel_rfl) (PV_load Tryd.underlying9 rfl rfl (Rd.at 1 rfl rfl)) ?_
        refine TA_p 4 rfl (by kernel_rfl) (PV_move rfl) ?_
        refine TA_p 5 rfl (by kernel_rfl) (PV_nilCheck rfl) ?_
        refine TA_p 6 rfl (by kernel_rfl) (PV_fieldAddr (D := 1) Tryd.underlying71 rfl sz3 (by decide) rfl rfl) ?_
        refine TA_p 7 rfl (by kernel_rfl) (PV_load Tryd.underlying3 rfl rfl (Rd.at 1 rfl rfl)) ?_
        refine TA_p 8 rfl (by kernel_rfl) (PV_indexNums Tryd.underlying9 rfl rfl rfl hu hi) ?_
        refine TA_p 9 rfl (by kernel_rfl) (PV_assign rfl) ?_
        refine TA_done (by kernel_rfl) ?_
        refine T_seq ?_
        refine T_region ?_
        refine TL_p (PV_move rfl) ?_
        refine TL_nil ?_
        refine T_block ?_
        refine T_seq ?_
        refine T_region ?_
        refine TL_p (PV_bin rfl rfl bin_eql) ?_
        refine TL_p (PV_assign rfl) ?_
        refine TL_nil ?_
        refine T_then rfl (by exact decide_eq_true (by omega)) ?_
        refine T_seq ?_
        refine T_seq ?_
        refine T_region ?_
        refine TL_p (PV_move rfl) ?_
        refine TL_p (PV_bin rfl rfl bin_eql) ?_
        refine TL_nil ?_
        refine T_else rfl (by exact decide_eq_false (by omega)) ?_
        refine T_skip ?_
        refine T_seq ?_
        refine T_region ?_
        refine TL_p (PV_move rfl) ?_
        refine TL_p (PV_nilCheck rfl) ?_
        refine TL_p (PV_fieldAddr (D := 1) Tryd.underlying71 rfl sz3 (by decide) rfl rfl) ?_
        refine TL_p (PV_load Tryd.underlying3 rfl rfl (Rd.at 1 rfl rfl)) ?_
        refine TL_p (PV.cast (PV_bin rfl rfl bin_add) (wr64 (by omega))) ?_
        refine TL_p (PV_nilCheck rfl) ?_
        refine TL_p (PV_fieldAddr (D := 1) Tryd.underlying71 rfl sz3 (by decide) rfl rfl) ?_
        refine TL_cons rfl (TO_store1 1 rfl rfl rfl sz3 rfl rfl rfl (by first | exact Nat.le_of_ble_eq_true rfl | (simp; done) | (simp; omega) | omega) ?_)
        refine TL_nil ?_
        refine T_seq ?_
        refine T_region ?_
        refine TL_p (PV_move rfl) ?_
        refine TL_p (PV_move rfl) ?_
        refine TL_p (PV.cast (PV_bin rfl rfl bin_add) e38) ?_
        refine TL_perm ((perm_pick (i := 1) rfl).trans (List.Perm.cons _ (List.Perm.refl _))) ?_
        refine TL_cons rfl (TO_call0 call33 rfl rfl (hb) ?_)
        rintro v39_1005 H39_1005 ⟨rfl, rfl⟩
        refine TL_p (PV_move rfl) ?_
        refine TL_p (PV_extract rfl rfl) ?_
        refine TL_p (PV_extract rfl rfl) ?_
        refine TL_cons rfl (TO_alloc rfl zr30 fun g1006 => ?_)
        refine TL_cons rfl (TO_store 0 rfl rfl rfl sz30 rfl rfl rfl (all_one rfl) (by first | exact Nat.le_of_ble_eq_true rfl | (simp; done) | (simp; omega) | omega) ?_)
        refine TL_p (PV_assign rfl) ?_
        refine TL_nil ?_
        refine T_seq ?_
        refine T_seq ?_
        refine T_region ?_
        refine TL_p (PV_move rfl) ?_
        refine TL_p (PV_bin rfl rfl (bin_if_nil Tryd.underlying34)) ?_
        refine TL_p (PV_move rfl) ?_
        refine TL_no (b := false) rfl rfl rfl rfl ?_
        refine TL_no (b := false) rfl rfl rfl rfl ?_
        refine TL_no (b := false) rfl rfl rfl rfl ?_
        refine TL_p (PV_pickF rfl (by first | assumption | rfl | (simp; done) | (simp; omega) | (simp [*]; done) | (simp [*]; omega)) rfl rfl) ?_
        refine TL_nil ?_
        refine T_else rfl (by rfl) ?_
        refine T_skip ?_
        refine T_seq ?_
        refine T_seq ?_
        refine T_region ?_
        refine TL_p (PV_move rfl) ?_
        refine TL_p (PV_bin rfl rfl (bin_if_nnil Tryd.underlying34)) ?_
        refine TL_nil ?_
        refine T_then rfl (by rfl) ?_
        refine T_seq ?_
        refine T_region ?_
        refine TL_p (PV_bld (cs := [_, _, _, _, _, _]) Tryd.underlying30 pl30 zr30 rfl rfl) ?_
        refine TL_p (PV_move rfl) ?_
        refine TL_cons rfl (TO_store 2 rfl rfl rfl sz30 rfl rfl rfl (all_one rfl) (by first | exact Nat.le_of_ble_eq_true rfl | (simp; done) | (simp; omega) | omega) ?_)
        refine TL_p (PV_assign rfl) ?_
        refine TL_nil ?_
        refine T_ret ?_
        refine ret_ret (ResV_ct rfl Tryd.underlying30 rfl sz30 rfl (Rds.take 2 rfl rfl rfl) rfl) ⟨_, ?zb1009q70, ⟨rfl, rfl⟩⟩
        case zb1009q70 => exact (by (repeat (first | exact Sb.r | exact Sb.ar | exact Sb.al | apply Sb.c | apply Sb.d | refine Sb.t ?_)); done)
      | ok t k =>
        rw [hp] at h
        have hk := hE2.lt (i + 1) t k (by omega) hp
        have ho := fun {X : List Chunk} => hE2.ok (i + 1) t k (by omega) hp X
        simp only at h
        by_cases h41 : isB s k 41 = true
        · rw [if_pos h41] at h; cases h
        · have h41f : isB s k 41 = false := by simpa using h41
          rw [if_neg h41] at h
          cases h
          refine TCall_intro (args := [_, _]) Tryd.func62 rfl Tryd.ntmps62 (Nat.le_of_ble_eq_true rfl) ?_
          refine T_seq ?_
          refine T_region ?_
          refine TL_cons rfl (TO_alloc rfl zr30 fun g2001 => ?_)
          refine TL_p (PV_assign rfl) ?_
          refine TL_nil ?_
          refine T_seq ?_
          refine T_seq ?_
          refine T_drawn (WH _ _ _) mixed (fun w h => h) ?_
          refine TA_p 0 rfl (by kernel_rfl) (PV_move rfl) ?_
          refine TA_p 1 rfl (by kernel_rfl) (PV_nilCheck rfl) ?_
          refine TA_p 2 rfl (by kernel_rfl) (PV_fieldAddr (D := 0) Tryd.underlying71 rfl sz9 (by decide) rfl rfl) ?_
          refine TA_p 3 rfl (by kernel_rfl) (PV_load Tryd.underlying9 rfl rfl (Rd.at 1 rfl rfl)) ?_
          refine TA_p 4 rfl (by kernel_rfl) (PV_move rfl) ?_
          refine TA_p 5 rfl (by kernel_rfl) (PV_nilCheck rfl) ?_
          refine TA_p 6 rfl (by kernel_rfl) (PV_fieldAddr (D := 1) Tryd.underlying71 rfl sz3 (by decide) rfl rfl) ?_
          refine TA_p 7 rfl (by kernel_rfl) (PV_load Tryd.underlying3 rfl rfl (Rd.at 1 rfl rfl)) ?_
          refine TA_p 8 rfl (by kernel_rfl) (PV_indexNums Tryd.underlying9 rfl rfl rfl hu hi) ?_
          refine TA_p 9 rfl (by kernel_rfl) (PV_assign rfl) ?_
          refine TA_done (by kernel_rfl) ?_
          refine T_seq ?_
          refine T_region ?_
          refine TL_p (PV_move rfl) ?_
          refine TL_nil ?_
          refine T_block ?_
          refine T_seq ?_
          refine T_region ?_
          refine TL_p (PV_bin rfl rfl bin_eql) ?_
          refine TL_p (PV_assign rfl) ?_
          refine TL_nil ?_
          refine T_then rfl (by exact decide_eq_true (by omega)) ?_
          refine T_seq ?_
          refine T_seq ?_
          refine T_region ?_
          refine TL_p (PV_move rfl) ?_
          refine TL_p (PV_bin rfl rfl bin_eql) ?_
          refine TL_nil ?_
          refine T_else rfl (by exact decide_eq_false (by omega)) ?_
          refine T_skip ?_
          refine T_seq ?_
          refine T_region ?_
          refine TL_p (PV_move rfl) ?_
          refine TL_p (PV_nilCheck rfl) ?_
          refine TL_p (PV_fieldAddr (D := 1) Tryd.underlying71 rfl sz3 (by decide) rfl rfl) ?_
          refine TL_p (PV_load Tryd.underlying3 rfl rfl (Rd.at 1 rfl rfl)) ?_
          refine TL_p (PV.cast (PV_bin rfl rfl bin_add) (wr64 (by omega))) ?_
          refine TL_p (PV_nilCheck rfl) ?_
          refine TL_p (PV_fieldAddr (D := 1) Tryd.underlying71 rfl sz3 (by decide) rfl rfl) ?_
          refine TL_cons rfl (TO_store1 1 rfl rfl rfl sz3 rfl rfl rfl (by first | exact Nat.le_of_ble_eq_true rfl | (simp; done) | (simp; omega) | omega) ?_)
          refine TL_nil ?_
          refine T_seq ?_
          refine T_region ?_
          refine TL_p (PV_move rfl) ?_
          refine TL_p (PV_move rfl) ?_
          refine TL_p (PV.cast (PV_bin rfl rfl bin_add) e38) ?_
          refine TL_perm ((perm_pick (i := 1) rfl).trans (List.Perm.cons _ (List.Perm.refl _))) ?_
          refine TL_cons rfl (TO_call0 call33 rfl rfl (ho) ?_)
          rintro v39_2005 H39_2005 ⟨v_2005, N_2005, rfl, h_2005_0, rfl⟩
          refine TL_p (PV_move rfl) ?_
          refine TL_p (PV_extract rfl rfl) ?_
          refine TL_p (PV_extract rfl rfl) ?_
          refine TL_cons rfl (TO_alloc rfl zr30 fun g2006 => ?_)
          refine TL_cons rfl (TO_store 0 rfl rfl rfl sz30 rfl rfl rfl (all_one rfl) (by first | exact Nat.le_of_ble_eq_true rfl | (simp; done) | (simp; omega) | omega) ?_)
          refine TL_p (PV_assign rfl) ?_
          refine TL_nil ?_
          refine T_seq ?_
          refine T_seq ?_
          refine T_region ?_
          refine TL_p (PV_move rfl) ?_
          refine TL_p (PV_bin rfl rfl (bin_nil_nil Tryd.underlying34)) ?_
          refine TL_p (PV_move rfl) ?_
          refine TL_yes rfl rfl rfl (TO_pure rfl (PV_move rfl) ?_)
          refine TL_perm ((perm_pick (i := 1) rfl).trans (List.Perm.cons _ (List.Perm.refl _))) ?_
          refine TL_yes rfl rfl rfl (TO_call0 call45 rfl rfl (is_b 41 false hu h41f) ?_)
          rintro v46_2010 H46_2010 ⟨rfl, rfl⟩
          refine TL_yes rfl rfl rfl (TO_pure rfl (PV_not rfl) ?_)
          refine TL_p (PV_pickAnd rfl rfl rfl) ?_
          refine TL_nil ?_
          refine T_then rfl (by rfl) ?_
          refine T_region ?_
          refine TL_p (PV_move rfl) ?_
          refine TL_cons rfl (TO_call0 call35 rfl rfl (bad_t) ?_)
          rintro v50_2013 H50_2013 ⟨rfl, rfl⟩
          refine TL_p (PV_assign rfl) ?_
          refine TL_nil ?_
          refine T_seq ?_
          refine T_seq ?_
          refine T_region ?_
          refine TL_p (PV_move rfl) ?_
          refine TL_p (PV_bin rfl rfl (bin_if_nnil Tryd.underlying34)) ?_
          refine TL_nil ?_
          refine T_then rfl (by rfl) ?_
          refine T_seq ?_
          refine T_region ?_
          refine TL_p (PV_bld (cs := [_, _, _, _, _, _]) Tryd.underlying30 pl30 zr30 rfl rfl) ?_
          refine TL_p (PV_move rfl) ?_
          refine TL_cons rfl (TO_store 2 rfl rfl rfl sz30 rfl rfl rfl (all_one rfl) (by first | exact Nat.le_of_ble_eq_true rfl | (simp; done) | (simp; omega) | omega) ?_)
          refine TL_p (PV_assign rfl) ?_
          refine TL_nil ?_
          refine T_ret ?_
          refine ret_ret (ResV_ct rfl Tryd.underlying30 rfl sz30 rfl (Rds.take 2 rfl rfl rfl) rfl) ⟨_, ?zb2015q84, ⟨rfl, rfl⟩⟩
          case zb2015q84 => exact (by (repeat (first | exact Sb.r | exact Sb.ar | exact Sb.al | apply Sb.c | apply Sb.d | refine Sb.t ?_)); done)
  · rw [if_neg h40] at h
    by_cases h91 : rd s i = 91
    · rw [if_pos h91] at h
      have hc := fun {X : List Chunk} => class_res_bad (w0 := w0) (B := B) (X := X) (g := g) hu hs hi h
      refine TCall_intro (args := [_, _]) Tryd.func62 rfl Tryd.ntmps62 (Nat.le_of_ble_eq_true rfl) ?_
      refine T_seq ?_
      refine T_region ?_
      refine TL_cons rfl (TO_alloc rfl zr30 fun g3001 => ?_)
      refine TL_p (PV_assign rfl) ?_
      refine TL_nil ?_
      refine T_seq ?_
      refine T_seq ?_
      refine T_drawn (WH _ _ _) mixed (fun w h => h) ?_
      refine TA_p 0 rfl (by kernel_rfl) (PV_move rfl) ?_
      refine TA_p 1 rfl (by kernel_rfl) (PV_nilCheck rfl) ?_
      refine TA_p 2 rfl (by kernel_rfl) (PV_fieldAddr (D := 0) Tryd.underlying71 rfl sz9 (by decide) rfl rfl) ?_
      refine TA_p 3 rfl (by kernel_rfl) (PV_load Tryd.underlying9 rfl rfl (Rd.at 1 rfl rfl)) ?_
      refine TA_p 4 rfl (by kernel_rfl) (PV_move rfl) ?_
      refine TA_p 5 rfl (by kernel_rfl) (PV_nilCheck rfl) ?_
      refine TA_p 6 rfl (by kernel_rfl) (PV_fieldAddr (D := 1) Tryd.underlying71 rfl sz3 (by decide) rfl rfl) ?_
      refine TA_p 7 rfl (by kernel_rfl) (PV_load Tryd.underlying3 rfl rfl (Rd.at 1 rfl rfl)) ?_
      refine TA_p 8 rfl (by kernel_rfl) (PV_indexNums Tryd.underlying9 rfl rfl rfl hu hi) ?_
      refine TA_p 9 rfl (by kernel_rfl) (PV_assign rfl) ?_
      refine TA_done (by kernel_rfl) ?_
      refine T_seq ?_
      refine T_region ?_
      refine TL_p (PV_move rfl) ?_
      refine TL_nil ?_
      refine T_block ?_
      refine T_seq ?_
      refine T_region ?_
      refine TL_p (PV_bin rfl rfl bin_eql) ?_
      refine TL_p (PV_assign rfl) ?_
      refine TL_nil ?_
      refine T_else rfl (by exact decide_eq_false (by omega)) ?_
      refine T_seq ?_
      refine T_region ?_
      refine TL_p (PV_bin rfl rfl bin_eql) ?_
      refine TL_p (PV_assign rfl) ?_
      refine TL_nil ?_
      refine T_then rfl (by exact decide_eq_true (by omega)) ?_
      refine T_seq ?_
      refine T_region ?_
      refine TL_p (PV_move rfl) ?_
      refine TL_perm ((perm_pick (i := 1) rfl).trans (List.Perm.cons _ (List.Perm.refl _))) ?_
      refine TL_cons rfl (TO_call0 call63 rfl rfl (hc) ?_)
      rintro v66_3004 H66_3004 ⟨rfl, rfl⟩
      refine TL_p (PV_extract rfl rfl) ?_
      refine TL_p (PV_extract rfl rfl) ?_
      refine TL_cons rfl (TO_store 1 rfl rfl rfl sz30 rfl rfl rfl (all_one rfl) (by first | exact Nat.le_of_ble_eq_true rfl | (simp; done) | (simp; omega) | omega) ?_)
      refine TL_p (PV_assign rfl) ?_
      refine TL_nil ?_
      refine T_ret ?_
      refine ret_ret (ResV_ct rfl Tryd.underlying30 rfl sz30 rfl (Rds.take 1 rfl rfl rfl) rfl) ⟨_, ?zb3006q94, ⟨rfl, rfl⟩⟩
      case zb3006q94 => exact (by (repeat (first | exact Sb.r | exact Sb.ar | exact Sb.al | apply Sb.c | apply Sb.d | refine Sb.t ?_)); done)
    · rw [if_neg h91] at h
      by_cases h46 : rd s i = 46
      · rw [if_pos h46] at h; cases h
      · rw [if_neg h46] at h
        by_cases h4 : rd s i = 42 ∨ rd s i = 43 ∨ rd s i = 63 ∨ rd s i = 93
        · rw [if_pos h4] at h
          cases h
          rcases h4 with h4 | h4 | h4 | h4
          · refine TCall_intro (args := [_, _]) Tryd.func62 rfl Tryd.ntmps62 (Nat.le_of_ble_eq_true rfl) ?_
            refine T_seq ?_
            refine T_region ?_
            refine TL_cons rfl (TO_alloc rfl zr30 fun g4001 => ?_)
            refine TL_p (PV_assign rfl) ?_
            refine TL_nil ?_
            refine T_seq ?_
            refine T_seq ?_
            refine T_drawn (WH _ _ _) mixed (fun w h => h) ?_
            refine TA_p 0 rfl (by kernel_rfl) (PV_move rfl) ?_
            refine TA_p 1 rfl (by kernel_rfl) (PV_nilCheck rfl) ?_
            refine TA_p 2 rfl (by kernel_rfl) (PV_fieldAddr (D := 0) Tryd.underlying71 rfl sz9 (by decide) rfl rfl) ?_
            refine TA_p 3 rfl (by kernel_rfl) (PV_load Tryd.underlying9 rfl rfl (Rd.at 1 rfl rfl)) ?_
            refine TA_p 4 rfl (by kernel_rfl) (PV_move rfl) ?_
            refine TA_p 5 rfl (by kernel_rfl) (PV_nilCheck rfl) ?_
            refine TA_p 6 rfl (by kernel_rfl) (PV_fieldAddr (D := 1) Tryd.underlying71 rfl sz3 (by decide) rfl rfl) ?_
            refine TA_p 7 rfl (by kernel_rfl) (PV_load Tryd.underlying3 rfl rfl (Rd.at 1 rfl rfl)) ?_
            refine TA_p 8 rfl (by kernel_rfl) (PV_indexNums Tryd.underlying9 rfl rfl rfl hu hi) ?_
            refine TA_p 9 rfl (by kernel_rfl) (PV_assign rfl) ?_
            refine TA_done (by kernel_rfl) ?_
            refine T_seq ?_
            refine T_region ?_
            refine TL_p (PV_move rfl) ?_
            refine TL_nil ?_
            refine T_block ?_
            refine T_seq ?_
            refine T_region ?_
            refine TL_p (PV_bin rfl rfl bin_eql) ?_
            refine TL_p (PV_assign rfl) ?_
            refine TL_nil ?_
            refine T_else rfl (by exact decide_eq_false (by omega)) ?_
            refine T_seq ?_
            refine T_region ?_
            refine TL_p (PV_bin rfl rfl bin_eql) ?_
            refine TL_p (PV_assign rfl) ?_
            refine TL_nil ?_
            refine T_else rfl (by exact decide_eq_false (by omega)) ?_
            refine T_seq ?_
            refine T_region ?_
            refine TL_p (PV_bin rfl rfl bin_eql) ?_
            refine TL_p (PV_assign rfl) ?_
            refine TL_nil ?_
            refine T_else rfl (by exact decide_eq_false (by omega)) ?_
            refine T_seq ?_
            refine T_seq ?_
            refine T_region ?_
            refine TL_p (PV_bin rfl rfl bin_eql) ?_
            refine TL_p (PV_assign rfl) ?_
            refine TL_nil ?_
            refine T_then rfl (by exact decide_eq_true (by omega)) ?_
            refine T_skip ?_
            refine T_then rfl (by exact decide_eq_true (by omega)) ?_
            refine T_seq ?_
            refine T_region ?_
            refine TL_p (PV_bld (cs := [_, _, _, _, _, _]) Tryd.underlying30 pl30 zr30 rfl rfl) ?_
            refine TL_p (PV_move rfl) ?_
            refine TL_perm ((perm_pick (i := 1) rfl).trans (List.Perm.cons _ (List.Perm.refl _))) ?_
            refine TL_cons rfl (TO_call0 call35 rfl rfl (bad_t) ?_)
            rintro v88_4004 H88_4004 ⟨rfl, rfl⟩
            refine TL_cons rfl (TO_store 1 rfl rfl rfl sz30 rfl rfl rfl (all_one rfl) (by first | exact Nat.le_of_ble_eq_true rfl | (simp; done) | (simp; omega) | omega) ?_)
            refine TL_p (PV_assign rfl) ?_
            refine TL_nil ?_
            refine T_ret ?_
            refine ret_ret (ResV_ct rfl Tryd.underlying30 rfl sz30 rfl (Rds.take 1 rfl rfl rfl) rfl) ⟨_, ?zb4006q105, ⟨rfl, rfl⟩⟩
            case zb4006q105 => exact (by (repeat (first | exact Sb.r | exact Sb.ar | exact Sb.al | apply Sb.c | apply Sb.d | refine Sb.t ?_)); done)
          · refine TCall_intro (args := [_, _]) Tryd.func62 rfl Tryd.ntmps62 (Nat.le_of_ble_eq_true rfl) ?_
            refine T_seq ?_
            refine T_region ?_
            refine TL_cons rfl (TO_alloc rfl zr30 fun g4301 => ?_)
            refine TL_p (PV_assign rfl) ?_
            refine TL_nil ?_
            refine T_seq ?_
            refine T_seq ?_
            refine T_drawn (WH _ _ _) mixed (fun w h => h) ?_
            refine TA_p 0 rfl (by kernel_rfl) (PV_move rfl) ?_
            refine TA_p 1 rfl (by kernel_rfl) (PV_nilCheck rfl) ?_
            refine TA_p 2 rfl (by kernel_rfl) (PV_fieldAddr (D := 0) Tryd.underlying71 rfl sz9 (by decide) rfl rfl) ?_
            refine TA_p 3 rfl (by kernel_rfl) (PV_load Tryd.underlying9 rfl rfl (Rd.at 1 rfl rfl)) ?_
            refine TA_p 4 rfl (by kernel_rfl) (PV_move rfl) ?_
            refine TA_p 5 rfl (by kernel_rfl) (PV_nilCheck rfl) ?_
            refine TA_p 6 rfl (by kernel_rfl) (PV_fieldAddr (D := 1) Tryd.underlying71 rfl sz3 (by decide) rfl rfl) ?_
            refine TA_p 7 rfl (by kernel_rfl) (PV_load Tryd.underlying3 rfl rfl (Rd.at 1 rfl rfl)) ?_
            refine TA_p 8 rfl (by kernel_rfl) (PV_indexNums Tryd.underlying9 rfl rfl rfl hu hi) ?_
            refine TA_p 9 rfl (by kernel_rfl) (PV_assign rfl) ?_
            refine TA_done (by kernel_rfl) ?_
            refine T_seq ?_
            refine T_region ?_
            refine TL_p (PV_move rfl) ?_
            refine TL_nil ?_
            refine T_block ?_
            refine T_seq ?_
            refine T_region ?_
            refine TL_p (PV_bin rfl rfl bin_eql) ?_
            refine TL_p (PV_assign rfl) ?_
            refine TL_nil ?_
            refine T_else rfl (by exact decide_eq_false (by omega)) ?_
            refine T_seq ?_
            refine T_region ?_
            refine TL_p (PV_bin rfl rfl bin_eql) ?_
            refine TL_p (PV_assign rfl) ?_
            refine TL_nil ?_
            refine T_else rfl (by exact decide_eq_false (by omega)) ?_
            refine T_seq ?_
            refine T_region ?_
            refine TL_p (PV_bin rfl rfl bin_eql) ?_
            refine TL_p (PV_assign rfl) ?_
            refine TL_nil ?_
            refine T_else rfl (by exact decide_eq_false (by omega)) ?_
            refine T_seq ?_
            refine T_seq ?_
            refine T_region ?_
            refine TL_p (PV_bin rfl rfl bin_eql) ?_
            refine TL_p (PV_assign rfl) ?_
            refine TL_nil ?_
            refine T_else rfl (by exact decide_eq_false (by omega)) ?_
            refine T_seq ?_
            refine T_region ?_
            refine TL_p (PV_bin rfl rfl bin_eql) ?_
            refine TL_p (PV_assign rfl) ?_
            refine TL_nil ?_
            refine T_then rfl (by exact decide_eq_true (by omega)) ?_
            refine T_skip ?_
            refine T_then rfl (by exact decide_eq_true (by omega)) ?_
            refine T_seq ?_
            refine T_region ?_
            refine TL_p (PV_bld (cs := [_, _, _, _, _, _]) Tryd.underlying30 pl30 zr30 rfl rfl) ?_
            refine TL_p (PV_move rfl) ?_
            refine TL_perm ((perm_pick (i := 1) rfl).trans (List.Perm.cons _ (List.Perm.refl _))) ?_
            refine TL_cons rfl (TO_call0 call35 rfl rfl (bad_t) ?_)
            rintro v88_4304 H88_4304 ⟨rfl, rfl⟩
            refine TL_cons rfl (TO_store 1 rfl rfl rfl sz30 rfl rfl rfl (all_one rfl) (by first | exact Nat.le_of_ble_eq_true rfl | (simp; done) | (simp; omega) | omega) ?_)
            refine TL_p (PV_assign rfl) ?_
            refine TL_nil ?_
            refine T_ret ?_
            refine ret_ret (ResV_ct rfl Tryd.underlying30 rfl sz30 rfl (Rds.take 1 rfl rfl rfl) rfl) ⟨_, ?zb4306q108, ⟨rfl, rfl⟩⟩
            case zb4306q108 => exact (by (repeat (first | exact Sb.r | exact Sb.ar | exact Sb.al | apply Sb.c | apply Sb.d | refine Sb.t ?_)); done)
          · refine TCall_intro (args := [_, _]) Tryd.func62 rfl Tryd.ntmps62 (Nat.le_of_ble_eq_true rfl) ?_
            refine T_seq ?_
            refine T_region ?_
            refine TL_cons rfl (TO_alloc rfl zr30 fun g4601 => ?_)
            refine TL_p (PV_assign rfl) ?_
            refine TL_nil ?_
            refine T_seq ?_
            refine T_seq ?_
            refine T_drawn (WH _ _ _) mixed (fun w h => h) ?_
            refine TA_p 0 rfl (by kernel_rfl) (PV_move rfl) ?_
            refine TA_p 1 rfl (by kernel_rfl) (PV_nilCheck rfl) ?_
            refine TA_p 2 rfl (by kernel_rfl) (PV_fieldAddr (D := 0) Tryd.underlying71 rfl sz9 (by decide) rfl rfl) ?_
            refine TA_p 3 rfl (by kernel_rfl) (PV_load Tryd.underlying9 rfl rfl (Rd.at 1 rfl rfl)) ?_
            refine TA_p 4 rfl (by kernel_rfl) (PV_move rfl) ?_
            refine TA_p 5 rfl (by kernel_rfl) (PV_nilCheck rfl) ?_
            refine TA_p 6 rfl (by kernel_rfl) (PV_fieldAddr (D := 1) Tryd.underlying71 rfl sz3 (by decide) rfl rfl) ?_
            refine TA_p 7 rfl (by kernel_rfl) (PV_load Tryd.underlying3 rfl rfl (Rd.at 1 rfl rfl)) ?_
            refine TA_p 8 rfl (by kernel_rfl) (PV_indexNums Tryd.underlying9 rfl rfl rfl hu hi) ?_
            refine TA_p 9 rfl (by kernel_rfl) (PV_assign rfl) ?_
            refine TA_done (by kernel_rfl) ?_
            refine T_seq ?_
            refine T_region ?_
            refine TL_p (PV_move rfl) ?_
            refine TL_nil ?_
            refine T_block ?_
            refine T_seq ?_
            refine T_region ?_
            refine TL_p (PV_bin rfl rfl bin_eql) ?_
            refine TL_p (PV_assign rfl) ?_
            refine TL_nil ?_
            refine T_else rfl (by exact decide_eq_false (by omega)) ?_
            refine T_seq ?_
            refine T_region ?_
            refine TL_p (PV_bin rfl rfl bin_eql) ?_
            refine TL_p (PV_assign rfl) ?_
            refine TL_nil ?_
            refine T_else rfl (by exact decide_eq_false (by omega)) ?_
            refine T_seq ?_
            refine T_region ?_
            refine TL_p (PV_bin rfl rfl bin_eql) ?_
            refine TL_p (PV_assign rfl) ?_
            refine TL_nil ?_
            refine T_else rfl (by exact decide_eq_false (by omega)) ?_
            refine T_seq ?_
            refine T_seq ?_
            refine T_region ?_
            refine TL_p (PV_bin rfl rfl bin_eql) ?_
            refine TL_p (PV_assign rfl) ?_
            refine TL_nil ?_
            refine T_else rfl (by exact decide_eq_false (by omega)) ?_
            refine T_seq ?_
            refine T_region ?_
            refine TL_p (PV_bin rfl rfl bin_eql) ?_
            refine TL_p (PV_assign rfl) ?_
            refine TL_nil ?_
            refine T_else rfl (by exact decide_eq_false (by omega)) ?_
            refine T_seq ?_
            refine T_region ?_
            refine TL_p (PV_bin rfl rfl bin_eql) ?_
            refine TL_p (PV_assign rfl) ?_
            refine TL_nil ?_
            refine T_then rfl (by exact decide_eq_true (by omega)) ?_
            refine T_skip ?_
            refine T_then rfl (by exact decide_eq_true (by omega)) ?_
            refine T_seq ?_
            refine T_region ?_
            refine TL_p (PV_bld (cs := [_, _, _, _, _, _]) Tryd.underlying30 pl30 zr30 rfl rfl) ?_
            refine TL_p (PV_move rfl) ?_
            refine TL_perm ((perm_pick (i := 1) rfl).trans (List.Perm.cons _ (List.Perm.refl _))) ?_
            refine TL_cons rfl (TO_call0 call35 rfl rfl (bad_t) ?_)
            rintro v88_4604 H88_4604 ⟨rfl, rfl⟩
            refine TL_cons rfl (TO_store 1 rfl rfl rfl sz30 rfl rfl rfl (all_one rfl) (by first | exact Nat.le_of_ble_eq_true rfl | (simp; done) | (simp; omega) | omega) ?_)
            refine TL_p (PV_assign rfl) ?_
            refine TL_nil ?_
            refine T_ret ?_
            refine ret_ret (ResV_ct rfl Tryd.underlying30 rfl sz30 rfl (Rds.take 1 rfl rfl rfl) rfl) ⟨_, ?zb4606q111, ⟨rfl, rfl⟩⟩
            case zb4606q111 => exact (by (repeat (first | exact Sb.r | exact Sb.ar | exact Sb.al | apply Sb.c | apply Sb.d | refine Sb.t ?_)); done)
          · refine TCall_intro (args := [_, _]) Tryd.func62 rfl Tryd.ntmps62 (Nat.le_of_ble_eq_true rfl) ?_
            refine T_seq ?_
            refine T_region ?_
            refine TL_cons rfl (TO_alloc rfl zr30 fun g4901 => ?_)
            refine TL_p (PV_assign rfl) ?_
            refine TL_nil ?_
            refine T_seq ?_
            refine T_seq ?_
            refine T_drawn (WH _ _ _) mixed (fun w h => h) ?_
            refine TA_p 0 rfl (by kernel_rfl) (PV_move rfl) ?_
            refine TA_p 1 rfl (by kernel_rfl) (PV_nilCheck rfl) ?_
            refine TA_p 2 rfl (by kernel_rfl) (PV_fieldAddr (D := 0) Tryd.underlying71 rfl sz9 (by decide) rfl rfl) ?_
            refine TA_p 3 rfl (by kernel_rfl) (PV_load Tryd.underlying9 rfl rfl (Rd.at 1 rfl rfl)) ?_
            refine TA_p 4 rfl (by kernel_rfl) (PV_move rfl) ?_
            refine TA_p 5 rfl (by kernel_rfl) (PV_nilCheck rfl) ?_
            refine TA_p 6 rfl (by kernel_rfl) (PV_fieldAddr (D := 1) Tryd.underlying71 rfl sz3 (by decide) rfl rfl) ?_
            refine TA_p 7 rfl (by kernel_rfl) (PV_load Tryd.underlying3 rfl rfl (Rd.at 1 rfl rfl)) ?_
            refine TA_p 8 rfl (by kernel_rfl) (PV_indexNums Tryd.underlying9 rfl rfl rfl hu hi) ?_
            refine TA_p 9 rfl (by kernel_rfl) (PV_assign rfl) ?_
            refine TA_done (by kernel_rfl) ?_
            refine T_seq ?_
            refine T_region ?_
            refine TL_p (PV_move rfl) ?_
            refine TL_nil ?_
            refine T_block ?_
            refine T_seq ?_
            refine T_region ?_
            refine TL_p (PV_bin rfl rfl bin_eql) ?_
            refine TL_p (PV_assign rfl) ?_
            refine TL_nil ?_
            refine T_else rfl (by exact decide_eq_false (by omega)) ?_
            refine T_seq ?_
            refine T_region ?_
            refine TL_p (PV_bin rfl rfl bin_eql) ?_
            refine TL_p (PV_assign rfl) ?_
            refine TL_nil ?_
            refine T_else rfl (by exact decide_eq_false (by omega)) ?_
            refine T_seq ?_
            refine T_region ?_
            refine TL_p (PV_bin rfl rfl bin_eql) ?_
            refine TL_p (PV_assign rfl) ?_
            refine TL_nil ?_
            refine T_else rfl (by exact decide_eq_false (by omega)) ?_
            refine T_seq ?_
            refine T_seq ?_
            refine T_region ?_
            refine TL_p (PV_bin rfl rfl bin_eql) ?_
            refine TL_p (PV_assign rfl) ?_
            refine TL_nil ?_
            refine T_else rfl (by exact decide_eq_false (by omega)) ?_
            refine T_seq ?_
            refine T_region ?_
            refine TL_p (PV_bin rfl rfl bin_eql) ?_
            refine TL_p (PV_assign rfl) ?_
            refine TL_nil ?_
            refine T_else rfl (by exact decide_eq_false (by omega)) ?_
            refine T_seq ?_
            refine T_region ?_
            refine TL_p (PV_bin rfl rfl bin_eql) ?_
            refine TL_p (PV_assign rfl) ?_
            refine TL_nil ?_
            refine T_else rfl (by exact decide_eq_false (by omega)) ?_
            refine T_region ?_
            refine TL_p (PV_bin rfl rfl bin_eql) ?_
            refine TL_p (PV_assign rfl) ?_
            refine TL_nil ?_
            refine T_then rfl (by exact decide_eq_true (by omega)) ?_
            refine T_seq ?_
            refine T_region ?_
            refine TL_p (PV_bld (cs := [_, _, _, _, _, _]) Tryd.underlying30 pl30 zr30 rfl rfl) ?_
            refine TL_p (PV_move rfl) ?_
            refine TL_perm ((perm_pick (i := 1) rfl).trans (List.Perm.cons _ (List.Perm.refl _))) ?_
            refine TL_cons rfl (TO_call0 call35 rfl rfl (bad_t) ?_)
            rintro v88_4904 H88_4904 ⟨rfl, rfl⟩
            refine TL_cons rfl (TO_store 1 rfl rfl rfl sz30 rfl rfl rfl (all_one rfl) (by first | exact Nat.le_of_ble_eq_true rfl | (simp; done) | (simp; omega) | omega) ?_)
            refine TL_p (PV_assign rfl) ?_
            refine TL_nil ?_
            refine T_ret ?_
            refine ret_ret (ResV_ct rfl Tryd.underlying30 rfl sz30 rfl (Rds.take 1 rfl rfl rfl) rfl) ⟨_, ?zb4906q114, ⟨rfl, rfl⟩⟩
            case zb4906q114 => exact (by (repeat (first | exact Sb.r | exact Sb.ar | exact Sb.al | apply Sb.c | apply Sb.d | refine Sb.t ?_)); done)
        · rw [if_neg h4] at h
          have n42 : rd s i ≠ 42 := fun e => h4 (.inl e)
          have n43 : rd s i ≠ 43 := fun e => h4 (.inr (.inl e))
          have n63 : rd s i ≠ 63 := fun e => h4 (.inr (.inr (.inl e)))
          have n93 : rd s i ≠ 93 := fun e => h4 (.inr (.inr (.inr e)))
          cases hp : pPlain s i with
          | ok c k => rw [hp] at h; cases h
          | bad q e =>
            rw [hp] at h
            cases h
            refine TCall_intro (args := [_, _]) Tryd.func62 rfl Tryd.ntmps62 (Nat.le_of_ble_eq_true rfl) ?_
            refine T_seq ?_
            refine T_region ?_
            refine TL_cons rfl (TO_alloc rfl zr30 fun g6001 => ?_)
            refine TL_p (PV_assign rfl) ?_
            refine TL_nil ?_
            refine T_seq ?_
            refine T_seq ?_
            refine T_drawn (WH _ _ _) mixed (fun w h => h) ?_
            refine TA_p 0 rfl (by kernel_rfl) (PV_move rfl) ?_
            refine TA_p 1 rfl (by kernel_rfl) (PV_nilCheck rfl) ?_
            refine TA_p 2 rfl (by kernel_rfl) (PV_fieldAddr (D := 0) Tryd.underlying71 rfl sz9 (by decide) rfl rfl) ?_
            refine TA_p 3 rfl (by kernel_rfl) (PV_load Tryd.underlying9 rfl rfl (Rd.at 1 rfl rfl)) ?_
            refine TA_p 4 rfl (by kernel_rfl) (PV_move rfl) ?_
            refine TA_p 5 rfl (by kernel_rfl) (PV_nilCheck rfl) ?_
            refine TA_p 6 rfl (by kernel_rfl) (PV_fieldAddr (D := 1) Tryd.underlying71 rfl sz3 (by decide) rfl rfl) ?_
            refine TA_p 7 rfl (by kernel_rfl) (PV_load Tryd.underlying3 rfl rfl (Rd.at 1 rfl rfl)) ?_
            refine TA_p 8 rfl (by kernel_rfl) (PV_indexNums Tryd.underlying9 rfl rfl rfl hu hi) ?_
            refine TA_p 9 rfl (by kernel_rfl) (PV_assign rfl) ?_
            refine TA_done (by kernel_rfl) ?_
            refine T_seq ?_
            refine T_region ?_
            refine TL_p (PV_move rfl) ?_
            refine TL_nil ?_
            refine T_block ?_
            refine T_seq ?_
            refine T_region ?_
            refine TL_p (PV_bin rfl rfl bin_eql) ?_
            refine TL_p (PV_assign rfl) ?_
            refine TL_nil ?_
            refine T_else rfl (by exact decide_eq_false (by omega)) ?_
            refine T_seq ?_
            refine T_region ?_
            refine TL_p (PV_bin rfl rfl bin_eql) ?_
            refine TL_p (PV_assign rfl) ?_
            refine TL_nil ?_
            refine T_else rfl (by exact decide_eq_false (by omega)) ?_
            refine T_seq ?_
            refine T_region ?_
            refine TL_p (PV_bin rfl rfl bin_eql) ?_
            refine TL_p (PV_assign rfl) ?_
            refine TL_nil ?_
            refine T_else rfl (by exact decide_eq_false (by omega)) ?_
            refine T_seq ?_
            refine T_seq ?_
            refine T_region ?_
            refine TL_p (PV_bin rfl rfl bin_eql) ?_
            refine TL_p (PV_assign rfl) ?_
            refine TL_nil ?_
            refine T_else rfl (by exact decide_eq_false (by omega)) ?_
            refine T_seq ?_
            refine T_region ?_
            refine TL_p (PV_bin rfl rfl bin_eql) ?_
            refine TL_p (PV_assign rfl) ?_
            refine TL_nil ?_
            refine T_else rfl (by exact decide_eq_false (by omega)) ?_
            refine T_seq ?_
            refine T_region ?_
            refine TL_p (PV_bin rfl rfl bin_eql) ?_
            refine TL_p (PV_assign rfl) ?_
            refine TL_nil ?_
            refine T_else rfl (by exact decide_eq_false (by omega)) ?_
            refine T_region ?_
            refine TL_p (PV_bin rfl rfl bin_eql) ?_
            refine TL_p (PV_assign rfl) ?_
            refine TL_nil ?_
            refine T_else rfl (by exact decide_eq_false (by omega)) ?_
            refine T_skip ?_
            refine T_seq ?_
            refine T_region ?_
            refine TL_p (PV_move rfl) ?_
            refine TL_perm ((perm_pick (i := 1) rfl).trans (List.Perm.cons _ (List.Perm.refl _))) ?_
            refine TL_cons rfl (TO_call0 call64 rfl rfl (plain_bad hu hs hp) ?_)
            rintro v91_6004 H91_6004 ⟨rfl, rfl⟩
            refine TL_p (PV_move rfl) ?_
            refine TL_p (PV_extract rfl rfl) ?_
            refine TL_p (PV_extract rfl rfl) ?_
            refine TL_p (PV_assign rfl) ?_
            refine TL_p (PV_assign rfl) ?_
            refine TL_nil ?_
            refine T_seq ?_
            refine T_seq ?_
            refine T_region ?_
            refine TL_p (PV_move rfl) ?_
            refine TL_p (PV_bin rfl rfl (bin_if_nnil Tryd.underlying34)) ?_
            refine TL_nil ?_
            refine T_then rfl (by rfl) ?_
            refine T_seq ?_
            refine T_region ?_
            refine TL_p (PV_bld (cs := [_, _, _, _, _, _]) Tryd.underlying30 pl30 zr30 rfl rfl) ?_
            refine TL_p (PV_move rfl) ?_
            refine TL_cons rfl (TO_store 1 rfl rfl rfl sz30 rfl rfl rfl (all_one rfl) (by first | exact Nat.le_of_ble_eq_true rfl | (simp; done) | (simp; omega) | omega) ?_)
            refine TL_p (PV_assign rfl) ?_
            refine TL_nil ?_
            refine T_ret ?_
            refine ret_ret (ResV_ct rfl Tryd.underlying30 rfl sz30 rfl (Rds.take 1 rfl rfl rfl) rfl) ⟨_, ?zb6006q127, ⟨rfl, rfl⟩⟩
            case zb6006q127 => exact (by (repeat (first | exact Sb.r | exact Sb.ar | exact Sb.al | apply Sb.c | apply Sb.d | refine Sb.t ?_)); done)
theorem one_ok {g : Nat} {s : List Int} {i j deep : Nat} {t : Rx} {pE : Nat → Res Rx} {top : Bool} (hu : U8s s) (hs : s.length ≤ 64) (hi : i < s.length) (hd : deep ≤ 6) (htop : top = decide (deep = 6)) (hE : deep < 6 → EitherC w0 B g s (deep + 1) pE) (h : pOne pE top s i = .ok t j) :
    ReadsOk 62 w0 B #[.pointer (some ⟨g, 0, none⟩), .int .i64 (deep : Int)] g s i t j := by
  intro X
  unfold pOne at h
  by_cases h40 : rd s i = 40
  · rw [if_pos h40] at h
    by_cases h6 : deep = 6
    · rw [if_pos (by rw [htop]; exact decide_eq_true h6)] at h
      cases h
    · rw [if_neg (by rw [htop]; simp [h6])] at h
      have hE2 := hE (by omega)
      have e38 : Value.int .i64 (IntKind.i64.wrap ((deep : Int) + 1)) = .int .i64 ((deep + 1 : Nat) : Int) := wr64n _ (by push_cast; rfl) (by omega)
      cases hp : pE (i + 1) with
      | bad q e => rw [hp] at h; cases h
      | ok t2 k =>
        rw [hp] at h
        have hk := hE2.lt (i + 1) t2 k (by omega) hp
        have ho := fun {X : List Chunk} => hE2.ok (i + 1) t2 k (by omega) hp X
        simp only at h
        by_cases h41 : isB s k 41 = true
        · rw [if_pos h41] at h
          cases h
          have hkl := (isB_lt h41).1
          refine TCall_intro (args := [_, _]) Tryd.func62 rfl Tryd.ntmps62 (Nat.le_of_ble_eq_true rfl) ?_
          refine T_seq ?_
          refine T_region ?_
          refine TL_cons rfl (TO_alloc rfl zr30 fun g2001 => ?_)
          refine TL_p (PV_assign rfl) ?_
          refine TL_nil ?_
          refine T_seq ?_
          refine T_seq ?_
          refine T_drawn (WH _ _ _) mixed (fun w h => h) ?_
          refine TA_p 0 rfl (by kernel_rfl) (PV_move rfl) ?_
          refine TA_p 1 rfl (by kernel_rfl) (PV_nilCheck rfl) ?_
          refine TA_p 2 rfl (by kernel_rfl) (PV_fieldAddr (D := 0) Tryd.underlying71 rfl sz9 (by decide) rfl rfl) ?_
          refine TA_p 3 rfl (by kernel_rfl) (PV_load Tryd.underlying9 rfl rfl (Rd.at 1 rfl rfl)) ?_
          refine TA_p 4 rfl (by kernel_rfl) (PV_move rfl) ?_
          refine TA_p 5 rfl (by kernel_rfl) (PV_nilCheck rfl) ?_
          refine TA_p 6 rfl (by kernel_rfl) (PV_fieldAddr (D := 1) Tryd.underlying71 rfl sz3 (by decide) rfl rfl) ?_
          refine TA_p 7 rfl (by kernel_rfl) (PV_load Tryd.underlying3 rfl rfl (Rd.at 1 rfl rfl)) ?_
          refine TA_p 8 rfl (by kernel_rfl) (PV_indexNums Tryd.underlying9 rfl rfl rfl hu hi) ?_
          refine TA_p 9 rfl (by kernel_rfl) (PV_assign rfl) ?_
          refine TA_done (by kernel_rfl) ?_
          refine T_seq ?_
          refine T_region ?_
          refine TL_p (PV_move rfl) ?_
          refine TL_nil ?_
          refine T_block ?_
          refine T_seq ?_
          refine T_region ?_
          refine TL_p (PV_bin rfl rfl bin_eql) ?_
          refine TL_p (PV_assign rfl) ?_
          refine TL_nil ?_
          refine T_then rfl (by exact decide_eq_true (by omega)) ?_
          refine T_seq ?_
          refine T_seq ?_
          refine T_region ?_
          refine TL_p (PV_move rfl) ?_
          refine TL_p (PV_bin rfl rfl bin_eql) ?_
          refine TL_nil ?_
          refine T_else rfl (by exact decide_eq_false (by omega)) ?_
          refine T_skip ?_
          refine T_seq ?_
          refine T_region ?_
          refine TL_p (PV_move rfl) ?_
          refine TL_p (PV_nilCheck rfl) ?_
          refine TL_p (PV_fieldAddr (D := 1) Tryd.underlying71 rfl sz3 (by decide) rfl rfl) ?_
          refine TL_p (PV_load Tryd.underlying3 rfl rfl (Rd.at 1 rfl rfl)) ?_
          refine TL_p (PV.cast (PV_bin rfl rfl bin_add) (wr64 (by omega))) ?_
          refine TL_p (PV_nilCheck rfl) ?_
          refine TL_p (PV_fieldAddr (D := 1) Tryd.underlying71 rfl sz3 (by decide) rfl rfl) ?_
          refine TL_cons rfl (TO_store1 1 rfl rfl rfl sz3 rfl rfl rfl (by first | exact Nat.le_of_ble_eq_true rfl | (simp; done) | (simp; omega) | omega) ?_)
          refine TL_nil ?_
          refine T_seq ?_
          refine T_region ?_
          refine TL_p (PV_move rfl) ?_
          refine TL_p (PV_move rfl) ?_
          refine TL_p (PV.cast (PV_bin rfl rfl bin_add) e38) ?_
          refine TL_perm ((perm_pick (i := 1) rfl).trans (List.Perm.cons _ (List.Perm.refl _))) ?_
          refine TL_cons rfl (TO_call0 call33 rfl rfl (ho) ?_)
          rintro v39_2005 H39_2005 ⟨v_2005, N_2005, rfl, h_2005_0, rfl⟩
          refine TL_p (PV_move rfl) ?_
          refine TL_p (PV_extract rfl rfl) ?_
          refine TL_p (PV_extract rfl rfl) ?_
          refine TL_cons rfl (TO_alloc rfl zr30 fun g2006 => ?_)
          refine TL_cons rfl (TO_store 0 rfl rfl rfl sz30 rfl rfl rfl (all_one rfl) (by first | exact Nat.le_of_ble_eq_true rfl | (simp; done) | (simp; omega) | omega) ?_)
          refine TL_p (PV_assign rfl) ?_
          refine TL_nil ?_
          refine T_seq ?_
          refine T_seq ?_
          refine T_region ?_
          refine TL_p (PV_move rfl) ?_
          refine TL_p (PV_bin rfl rfl (bin_nil_nil Tryd.underlying34)) ?_
          refine TL_p (PV_move rfl) ?_
          refine TL_yes rfl rfl rfl (TO_pure rfl (PV_move rfl) ?_)
          refine TL_perm ((perm_pick (i := 1) rfl).trans (List.Perm.cons _ (List.Perm.refl _))) ?_
          refine TL_yes rfl rfl rfl (TO_call0 call45 rfl rfl (is_b 41 true hu h41) ?_)
          rintro v46_2010 H46_2010 ⟨rfl, rfl⟩
          refine TL_yes rfl rfl rfl (TO_pure rfl (PV_not rfl) ?_)
          refine TL_p (PV_pickAnd rfl rfl rfl) ?_
          refine TL_nil ?_
          refine T_else rfl (by rfl) ?_
          refine T_skip ?_
          refine T_seq ?_
          refine T_seq ?_
          refine T_region ?_
          refine TL_p (PV_move rfl) ?_
          refine TL_p (PV_bin rfl rfl (bin_nil_nnil Tryd.underlying34)) ?_
          refine TL_nil ?_
          refine T_else rfl (by rfl) ?_
          refine T_skip ?_
          refine T_seq ?_
          refine T_region ?_
          refine TL_p (PV_move rfl) ?_
          refine TL_p (PV_nilCheck rfl) ?_
          refine TL_p (PV_fieldAddr (D := 1) Tryd.underlying71 rfl sz3 (by decide) rfl rfl) ?_
          refine TL_p (PV_load Tryd.underlying3 rfl rfl (Rd.at 0 rfl rfl)) ?_
          refine TL_p (PV.cast (PV_bin rfl rfl bin_add) (wr64 (by omega))) ?_
          refine TL_p (PV_nilCheck rfl) ?_
          refine TL_p (PV_fieldAddr (D := 1) Tryd.underlying71 rfl sz3 (by decide) rfl rfl) ?_
          refine TL_cons rfl (TO_store1 0 rfl rfl rfl sz3 rfl rfl rfl (by first | exact Nat.le_of_ble_eq_true rfl | (simp; done) | (simp; omega) | omega) ?_)
          refine TL_nil ?_
          refine T_seq ?_
          refine T_region ?_
          refine TL_p (PV_loadAt Tryd.underlying30 rfl sz30 rfl (Rds.take 1 rfl rfl rfl)) ?_
          refine TL_cons rfl (TO_store 2 rfl rfl rfl sz30 rfl rfl rfl (all_one rfl) (by first | exact Nat.le_of_ble_eq_true rfl | (simp; done) | (simp; omega) | omega) ?_)
          refine TL_p (PV_assign rfl) ?_
          refine TL_nil ?_
          refine ?L21
          case L21 =>
            refine T_ret ?_
            exact ret_ret (ResV_ct rfl Tryd.underlying30 rfl sz30 rfl (Rds.take 2 rfl rfl rfl) rfl) ⟨rdC g s (k + 1) :: (X ++ N_2005), (by repeat (first | exact Sb.r | exact Sb.ar | exact Sb.al | apply Sb.c | apply Sb.d | refine Sb.t ?_)), v_2005, N_2005, rfl, h_2005_0, rfl⟩
        · rw [if_neg h41] at h; cases h
  · rw [if_neg h40] at h
    by_cases h91 : rd s i = 91
    · rw [if_pos h91] at h
      obtain ⟨st, rfl, hc1⟩ := class_res_ok (w0 := w0) (B := B) (g := g) hu hs hi h
      have hc : TCall Tryd.prog w0 B 62 #[.pointer (some ⟨g, 0, none⟩), .int .i64 (deep : Int)] (fun r H' => r = .tuple #[(⟨1, st, none, 0, 0⟩ : Nv).val, .nilIface] ∧ H' = rdC g s j :: X) (rdC g s i :: X) := by
        refine TCall_intro (args := [_, _]) Tryd.func62 rfl Tryd.ntmps62 (Nat.le_of_ble_eq_true rfl) ?_
        refine T_seq ?_
        refine T_region ?_
        refine TL_cons rfl (TO_alloc rfl zr30 fun g3001 => ?_)
        refine TL_p (PV_assign rfl) ?_
        refine TL_nil ?_
        refine T_seq ?_
        refine T_seq ?_
        refine T_drawn (WH _ _ _) mixed (fun w h => h) ?_
        refine TA_p 0 rfl (by kernel_rfl) (PV_move rfl) ?_
        refine TA_p 1 rfl (by kernel_rfl) (PV_nilCheck rfl) ?_
        refine TA_p 2 rfl (by kernel_rfl) (PV_fieldAddr (D := 0) Tryd.underlying71 rfl sz9 (by decide) rfl rfl) ?_
        refine TA_p 3 rfl (by kernel_rfl) (PV_load Tryd.underlying9 rfl rfl (Rd.at 1 rfl rfl)) ?_
        refine TA_p 4 rfl (by kernel_rfl) (PV_move rfl) ?_
        refine TA_p 5 rfl (by kernel_rfl) (PV_nilCheck rfl) ?_
        refine TA_p 6 rfl (by kernel_rfl) (PV_fieldAddr (D := 1) Tryd.underlying71 rfl sz3 (by decide) rfl rfl) ?_
        refine TA_p 7 rfl (by kernel_rfl) (PV_load Tryd.underlying3 rfl rfl (Rd.at 1 rfl rfl)) ?_
        refine TA_p 8 rfl (by kernel_rfl) (PV_indexNums Tryd.underlying9 rfl rfl rfl hu hi) ?_
        refine TA_p 9 rfl (by kernel_rfl) (PV_assign rfl) ?_
        refine TA_done (by kernel_rfl) ?_
        refine T_seq ?_
        refine T_region ?_
        refine TL_p (PV_move rfl) ?_
        refine TL_nil ?_
        refine T_block ?_
        refine T_seq ?_
        refine T_region ?_
        refine TL_p (PV_bin rfl rfl bin_eql) ?_
        refine TL_p (PV_assign rfl) ?_
        refine TL_nil ?_
        refine T_else rfl (by exact decide_eq_false (by omega)) ?_
        refine T_seq ?_
        refine T_region ?_
        refine TL_p (PV_bin rfl rfl bin_eql) ?_
        refine TL_p (PV_assign rfl) ?_
        refine TL_nil ?_
        refine T_then rfl (by exact decide_eq_true (by omega)) ?_
        refine T_seq ?_
        refine T_region ?_
        refine TL_p (PV_move rfl) ?_
        refine TL_perm ((perm_pick (i := 1) rfl).trans (List.Perm.cons _ (List.Perm.refl _))) ?_
        refine TL_cons rfl (TO_call0 call63 rfl rfl (hc1) ?_)
        rintro v66_3004 H66_3004 ⟨rfl, rfl⟩
        refine TL_p (PV_extract rfl rfl) ?_
        refine TL_p (PV_extract rfl rfl) ?_
        refine TL_cons rfl (TO_store 1 rfl rfl rfl sz30 rfl rfl rfl (all_one rfl) (by first | exact Nat.le_of_ble_eq_true rfl | (simp; done) | (simp; omega) | omega) ?_)
        refine TL_p (PV_assign rfl) ?_
        refine TL_nil ?_
        refine T_ret ?_
        refine ret_ret (ResV_ct rfl Tryd.underlying30 rfl sz30 rfl (Rds.take 1 rfl rfl rfl) rfl) ⟨_, ?zb3006q167, ⟨rfl, rfl⟩⟩
        case zb3006q167 => exact (by (repeat (first | exact Sb.r | exact Sb.ar | exact Sb.al | apply Sb.c | apply Sb.d | refine Sb.t ?_)); done)
      exact hc.mono fun v h' q => ⟨_, [], q.1, rfl, by rw [List.append_nil]; exact q.2⟩
    · rw [if_neg h91] at h
      by_cases h46 : rd s i = 46
      · rw [if_pos h46] at h
        cases h
        have hc : TCall Tryd.prog w0 B 62 #[.pointer (some ⟨g, 0, none⟩), .int .i64 (deep : Int)] (fun r H' => r = .tuple #[(⟨1, S4.zero.not_, none, 0, 0⟩ : Nv).val, .nilIface] ∧ H' = rdC g s (i + 1) :: X) (rdC g s i :: X) := by
          refine TCall_intro (args := [_, _]) Tryd.func62 rfl Tryd.ntmps62 (Nat.le_of_ble_eq_true rfl) ?_
          refine T_seq ?_
          refine T_region ?_
          refine TL_cons rfl (TO_alloc rfl zr30 fun g4001 => ?_)
          refine TL_p (PV_assign rfl) ?_
          refine TL_nil ?_
          refine T_seq ?_
          refine T_seq ?_
          refine T_drawn (WH _ _ _) mixed (fun w h => h) ?_
          refine TA_p 0 rfl (by kernel_rfl) (PV_move rfl) ?_
          refine TA_p 1 rfl (by kernel_rfl) (PV_nilCheck rfl) ?_
          refine TA_p 2 rfl (by kernel_rfl) (PV_fieldAddr (D := 0) Tryd.underlying71 rfl sz9 (by decide) rfl rfl) ?_
          refine TA_p 3 rfl (by kernel_rfl) (PV_load Tryd.underlying9 rfl rfl (Rd.at 1 rfl rfl)) ?_
          refine TA_p 4 rfl (by kernel_rfl) (PV_move rfl) ?_
          refine TA_p 5 rfl (by kernel_rfl) (PV_nilCheck rfl) ?_
          refine TA_p 6 rfl (by kernel_rfl) (PV_fieldAddr (D := 1) Tryd.underlying71 rfl sz3 (by decide) rfl rfl) ?_
          refine TA_p 7 rfl (by kernel_rfl) (PV_load Tryd.underlying3 rfl rfl (Rd.at 1 rfl rfl)) ?_
          refine TA_p 8 rfl (by kernel_rfl) (PV_indexNums Tryd.underlying9 rfl rfl rfl hu hi) ?_
          refine TA_p 9 rfl (by kernel_rfl) (PV_assign rfl) ?_
          refine TA_done (by kernel_rfl) ?_
          refine T_seq ?_
          refine T_region ?_
          refine TL_p (PV_move rfl) ?_
          refine TL_nil ?_
          refine T_block ?_
          refine T_seq ?_
          refine T_region ?_
          refine TL_p (PV_bin rfl rfl bin_eql) ?_
          refine TL_p (PV_assign rfl) ?_
          refine TL_nil ?_
          refine T_else rfl (by exact decide_eq_false (by omega)) ?_
          refine T_seq ?_
          refine T_region ?_
          refine TL_p (PV_bin rfl rfl bin_eql) ?_
          refine TL_p (PV_assign rfl) ?_
          refine TL_nil ?_
          refine T_else rfl (by exact decide_eq_false (by omega)) ?_
          refine T_seq ?_
          refine T_region ?_
          refine TL_p (PV_bin rfl rfl bin_eql) ?_
          refine TL_p (PV_assign rfl) ?_
          refine TL_nil ?_
          refine T_then rfl (by exact decide_eq_true (by omega)) ?_
          refine T_seq ?_
          refine T_region ?_
          refine TL_p (PV_move rfl) ?_
          refine TL_p (PV_nilCheck rfl) ?_
          refine TL_p (PV_fieldAddr (D := 1) Tryd.underlying71 rfl sz3 (by decide) rfl rfl) ?_
          refine TL_p (PV_load Tryd.underlying3 rfl rfl (Rd.at 1 rfl rfl)) ?_
          refine TL_p (PV.cast (PV_bin rfl rfl bin_add) (wr64 (by omega))) ?_
          refine TL_p (PV_nilCheck rfl) ?_
          refine TL_p (PV_fieldAddr (D := 1) Tryd.underlying71 rfl sz3 (by decide) rfl rfl) ?_
          refine TL_cons rfl (TO_store1 1 rfl rfl rfl sz3 rfl rfl rfl (by first | exact Nat.le_of_ble_eq_true rfl | (simp; done) | (simp; omega) | omega) ?_)
          refine TL_nil ?_
          refine T_seq ?_
          refine T_region ?_
          refine TL_p (PV_buildArr Tryd.underlying27 sz25 zr27) ?_
          refine TL_cons rfl (TO_call0 call18 rfl rfl (Not_t S4.zero) ?_)
          rintro v79_4005 H79_4005 ⟨rfl, rfl⟩
          refine TL_p (PV_bld (cs := [_, _, _, _, _, _]) Tryd.underlying30 pl30 zr30 rfl rfl) ?_
          refine TL_cons rfl (TO_store 0 rfl rfl rfl sz30 rfl rfl rfl (all_one rfl) (by first | exact Nat.le_of_ble_eq_true rfl | (simp; done) | (simp; omega) | omega) ?_)
          refine TL_p (PV_assign rfl) ?_
          refine TL_nil ?_
          refine T_ret ?_
          refine ret_ret (ResV_ct rfl Tryd.underlying30 rfl sz30 rfl (Rds.take 0 rfl rfl rfl) rfl) ⟨_, ?zb4007q176, ⟨rfl, rfl⟩⟩
          case zb4007q176 => exact (by (repeat (first | exact Sb.r | exact Sb.ar | exact Sb.al | apply Sb.c | apply Sb.d | refine Sb.t ?_)); done)
        exact hc.mono fun v h' q => ⟨_, [], q.1, rfl, by rw [List.append_nil]; exact q.2⟩
      · rw [if_neg h46] at h
        by_cases h4 : rd s i = 42 ∨ rd s i = 43 ∨ rd s i = 63 ∨ rd s i = 93
        · rw [if_pos h4] at h; cases h
        · rw [if_neg h4] at h
          have n42 : rd s i ≠ 42 := fun e => h4 (.inl e)
          have n43 : rd s i ≠ 43 := fun e => h4 (.inr (.inl e))
          have n63 : rd s i ≠ 63 := fun e => h4 (.inr (.inr (.inl e)))
          have n93 : rd s i ≠ 93 := fun e => h4 (.inr (.inr (.inr e)))
          cases hp : pPlain s i with
          | bad q e => rw [hp] at h; cases h
          | ok c k =>
            rw [hp] at h
            cases h
            have hcr := pPlain_u8 hu hp
            have hw := fun {X : List Chunk} => With_t (w0 := w0) (B := B) (H := X) S4.zero c.toNat (by omega)
            have hce : ((c.toNat : Nat) : Int) = c := by omega
            rw [hce] at hw
            have hc : TCall Tryd.prog w0 B 62 #[.pointer (some ⟨g, 0, none⟩), .int .i64 (deep : Int)] (fun r H' => r = .tuple #[(⟨1, S4.zero.with_ c.toNat, none, 0, 0⟩ : Nv).val, .nilIface] ∧ H' = rdC g s j :: X) (rdC g s i :: X) := by
              refine TCall_intro (args := [_, _]) Tryd.func62 rfl Tryd.ntmps62 (Nat.le_of_ble_eq_true rfl) ?_
              refine T_seq ?_
              refine T_region ?_
              refine TL_cons rfl (TO_alloc rfl zr30 fun g6001 => ?_)
              refine TL_p (PV_assign rfl) ?_
              refine TL_nil ?_
              refine T_seq ?_
              refine T_seq ?_
              refine T_drawn (WH _ _ _) mixed (fun w h => h) ?_
              refine TA_p 0 rfl (by kernel_rfl) (PV_move rfl) ?_
              refine TA_p 1 rfl (by kernel_rfl) (PV_nilCheck rfl) ?_
              refine TA_p 2 rfl (by kernel_rfl) (PV_fieldAddr (D := 0) Tryd.underlying71 rfl sz9 (by decide) rfl rfl) ?_
              refine TA_p 3 rfl (by kernel_rfl) (PV_load Tryd.underlying9 rfl rfl (Rd.at 1 rfl rfl)) ?_
              refine TA_p 4 rfl (by kernel_rfl) (PV_move rfl) ?_
              refine TA_p 5 rfl (by kernel_rfl) (PV_nilCheck rfl) ?_
              refine TA_p 6 rfl (by kernel_rfl) (PV_fieldAddr (D := 1) Tryd.underlying71 rfl sz3 (by decide) rfl rfl) ?_
              refine TA_p 7 rfl (by kernel_rfl) (PV_load Tryd.underlying3 rfl rfl (Rd.at 1 rfl rfl)) ?_
              refine TA_p 8 rfl (by kernel_rfl) (PV_indexNums Tryd.underlying9 rfl rfl rfl hu hi) ?_
              refine TA_p 9 rfl (by kernel_rfl) (PV_assign rfl) ?_
              refine TA_done (by kernel_rfl) ?_
              refine T_seq ?_
              refine T_region ?_
              refine TL_p (PV_move rfl) ?_
              refine TL_nil ?_
              refine T_block ?_
              refine T_seq ?_
              refine T_region ?_
              refine TL_p (PV_bin rfl rfl bin_eql) ?_
              refine TL_p (PV_assign rfl) ?_
              refine TL_nil ?_
              refine T_else rfl (by exact decide_eq_false (by omega)) ?_
              refine T_seq ?_
              refine T_region ?_
              refine TL_p (PV_bin rfl rfl bin_eql) ?_
              refine TL_p (PV_assign rfl) ?_
              refine TL_nil ?_
              refine T_else rfl (by exact decide_eq_false (by omega)) ?_
              refine T_seq ?_
              refine T_region ?_
              refine TL_p (PV_bin rfl rfl bin_eql) ?_
              refine TL_p (PV_assign rfl) ?_
              refine TL_nil ?_
              refine T_else rfl (by exact decide_eq_false (by omega)) ?_
              refine T_seq ?_
              refine T_seq ?_
              refine T_region ?_
              refine TL_p (PV_bin rfl rfl bin_eql) ?_
              refine TL_p (PV_assign rfl) ?_
              refine TL_nil ?_
              refine T_else rfl (by exact decide_eq_false (by omega)) ?_
              refine T_seq ?_
              refine T_region ?_
              refine TL_p (PV_bin rfl rfl bin_eql) ?_
              refine TL_p (PV_assign rfl) ?_
              refine TL_nil ?_
              refine T_else rfl (by exact decide_eq_false (by omega)) ?_
              refine T_seq ?_
              refine T_region ?_
              refine TL_p (PV_bin rfl rfl bin_eql) ?_
              refine TL_p (PV_assign rfl) ?_
              refine TL_nil ?_
              refine T_else rfl (by exact decide_eq_false (by omega)) ?_
              refine T_region ?_
              refine TL_p (PV_bin rfl rfl bin_eql) ?_
              refine TL_p (PV_assign rfl) ?_
              refine TL_nil ?_
              refine T_else rfl (by exact decide_eq_false (by omega)) ?_
              refine T_skip ?_
              refine T_seq ?_
              refine T_region ?_
              refine TL_p (PV_move rfl) ?_
              refine TL_perm ((perm_pick (i := 1) rfl).trans (List.Perm.cons _ (List.Perm.refl _))) ?_
              refine TL_cons rfl (TO_call0 call64 rfl rfl (plain_ok hu hs hp) ?_)
              rintro v91_6004 H91_6004 ⟨rfl, rfl⟩
              refine TL_p (PV_move rfl) ?_
              refine TL_p (PV_extract rfl rfl) ?_
              refine TL_p (PV_extract rfl rfl) ?_
              refine TL_p (PV_assign rfl) ?_
              refine TL_p (PV_assign rfl) ?_
              refine TL_nil ?_
              refine T_seq ?_
              refine T_seq ?_
              refine T_region ?_
              refine TL_p (PV_move rfl) ?_
              refine TL_p (PV_bin rfl rfl (bin_nil_nnil Tryd.underlying34)) ?_
              refine TL_nil ?_
              refine T_else rfl (by rfl) ?_
              refine T_skip ?_
              refine T_seq ?_
              refine T_region ?_
              refine TL_p (PV_buildArr Tryd.underlying27 sz25 zr27) ?_
              refine TL_p (PV_move rfl) ?_
              refine TL_cons rfl (TO_call0 call16 rfl rfl (hw) ?_)
              rintro v100_6007 H100_6007 ⟨rfl, rfl⟩
              refine TL_p (PV_bld (cs := [_, _, _, _, _, _]) Tryd.underlying30 pl30 zr30 rfl rfl) ?_
              refine TL_cons rfl (TO_store 1 rfl rfl rfl sz30 rfl rfl rfl (all_one rfl) (by first | exact Nat.le_of_ble_eq_true rfl | (simp; done) | (simp; omega) | omega) ?_)
              refine TL_p (PV_assign rfl) ?_
              refine TL_nil ?_
              refine T_ret ?_
              refine ret_ret (ResV_ct rfl Tryd.underlying30 rfl sz30 rfl (Rds.take 1 rfl rfl rfl) rfl) ⟨_, ?zb6009q199, ⟨rfl, rfl⟩⟩
              case zb6009q199 => exact (by (repeat (first | exact Sb.r | exact Sb.ar | exact Sb.al | apply Sb.c | apply Sb.d | refine Sb.t ?_)); done)
            exact hc.mono fun v h' q => ⟨_, [], q.1, rfl, by rw [List.append_nil]; exact q.2⟩
end
end Go.Proofs.YtijpbpnfachlkaaDoor.SL
