import Derived.Test.YtijpbpnfachlkaaDoorN7
/- What waits for patterns: a byte. No statement is proved here. -/
set_option linter.unusedVariables false
set_option linter.unusedSimpArgs false
set_option maxRecDepth 100000
set_option maxHeartbeats 8000000
namespace Go.Proofs.YtijpbpnfachlkaaDoor.SL
open Go Go.RowKit
/-- the places behind a byte, of the first j patterns -/
def putL (ts : List Rx) (ps : List (List Bool)) (c j : Nat) : List (List Bool) := (List.range ps.length).map fun i => if i < j then stepL (ts.getD i .nothing) (ps.getD i []) c true else ps.getD i []
theorem putL_len (ts : List Rx) (ps : List (List Bool)) (c j : Nat) : (putL ts ps c j).length = ps.length := by simp [putL]
theorem putL_get {ts : List Rx} {ps : List (List Bool)} {c j i : Nat} : (putL ts ps c j).getD i [] = if i < j ∧ i < ps.length then stepL (ts.getD i .nothing) (ps.getD i []) c true else ps.getD i [] := by
  unfold putL
  by_cases hi : i < ps.length
  · simp [List.getD_eq_getElem?_getD, hi]
  · simp [List.getD_eq_getElem?_getD, hi]
/-- the first of the first j patterns that ends with it -/
def bestT (ts : List Rx) (ps : List (List Bool)) (c : Nat) : Nat → Option Nat
  | 0 => none
  | j + 1 => match bestT ts ps c j with
    | some b => some b
    | none => if endsT (ts.getD j .nothing) (stepL (ts.getD j .nothing) (ps.getD j []) c true) = true then some j else none
def bestV : Option Nat → Int
  | none => -1
  | some b => (b : Int)
def ptrs (gs : List Nat) : List Value := gs.map fun g => .pointer (some ⟨g, 0, none⟩)
theorem ptrs_at {gs : List Nat} {j : Nat} (h : j < gs.length) : (ptrs gs)[j * 1]? = some (.pointer (some ⟨gs.getD j 0, 0, none⟩)) := by
  rw [Nat.mul_one]
  simp [ptrs, List.getD_eq_getElem?_getD, List.getElem?_eq_getElem h]
/-- the tables and the places -/
structure Wk (W : World → Prop) (ts : List Rx) (gs : List Nat) (ps : List (List Bool)) (vs : List Value) (k : Nat) : Prop where
  lt : ts.length = k
  lg : gs.length = k
  la : ps.length = k
  lv : vs.length = k
  tab : ∀ j, j < k → Tab W (gs.getD j 0) (ts.getD j .nothing)
  pl : ∀ j, j < k → pl (ts.getD j .nothing) ≤ 1000000
  at_ : ∀ j, j < k → ∃ (A : Option Addr) (m c : Nat), vs[j]? = some (.slice A m c) ∧ (ps.getD j []).length = m ∧ m ≤ c ∧ m ≤ 4611686018427387904 ∧ Shows W A m 1 (bools (ps.getD j []))
theorem Wk.mono {W W' : World → Prop} {ts : List Rx} {gs : List Nat} {ps : List (List Bool)} {vs : List Value} {k : Nat} (h : Wk W ts gs ps vs k) (hw : ∀ w, W' w → W w) : Wk W' ts gs ps vs k :=
  ⟨h.lt, h.lg, h.la, h.lv, fun j hj => (h.tab j hj).mono hw, h.pl, fun j hj => by obtain ⟨A, m, c, h1, h2, h3, h4, h5⟩ := h.at_ j hj; exact ⟨A, m, c, h1, h2, h3, h4, h5.mono hw⟩⟩
theorem Wk.get {W : World → Prop} {ts : List Rx} {gs : List Nat} {ps qs : List (List Bool)} {vs : List Value} {k : Nat} (h : Wk W ts gs ps vs k) (hl : qs.length = ps.length) (hq : ∀ i, qs.getD i [] = ps.getD i []) : Wk W ts gs qs vs k :=
  ⟨h.lt, h.lg, hl.trans h.la, h.lv, h.tab, h.pl, fun j hj => by rw [hq]; exact h.at_ j hj⟩
structure PutS where
  j : Nat
  vs : List Value
  N : List Chunk
abbrev wC (gw gT gA k cT cA seen : Nat) (over : Bool) : Chunk := .own gw 4 [.slice (some ⟨gT, 0, none⟩) k cT, .slice (some ⟨gA, 0, none⟩) k cA, .int .i64 (seen : Int), .bool over]
abbrev tC (gT k cT : Nat) (gs : List Nat) : Chunk := .sl (.slice (some ⟨gT, 0, none⟩) k cT) 1 k (ptrs gs)
abbrev aC (gA k cA : Nat) (vs : List Value) : Chunk := .sl (.slice (some ⟨gA, 0, none⟩) k cA) 1 k vs
section
variable {w0 : World} {B n : Nat} {N : List Chunk}
theorem Put_over {gw gT gA k cT cA seen cb : Nat} : TCall Tryd.prog w0 B 30 #[.pointer (some ⟨gw, 0, none⟩), .int .u8 (cb : Int)] (fun r H' => r = .tuple #[.int .i64 0, .bool false] ∧ H' = wC gw gT gA k cT cA seen true :: N) (wC gw gT gA k cT cA seen true :: N) := by
  refine TCall_intro (args := [_, _]) Tryd.func30 rfl Tryd.ntmps30 (Nat.le_of_ble_eq_true rfl) ?_
  refine T_seq ?_
  refine T_region ?_
  refine TL_p (PV_assign rfl) ?_
  refine TL_p (PV_assign rfl) ?_
  refine TL_nil ?_
  refine T_seq ?_
  refine T_seq ?_
  refine T_region ?_
  refine TL_p (PV_move rfl) ?_
  refine TL_p (PV_nilCheck rfl) ?_
  refine TL_p (PV_fieldAddr (D := 3) Tryd.underlying89 rfl sz4 (by decide) rfl rfl) ?_
  refine TL_p (PV_load Tryd.underlying4 rfl rfl (Rd.at 0 rfl rfl)) ?_
  refine TL_nil ?_
  refine T_then rfl (by rfl) ?_
  refine T_seq ?_
  refine T_region ?_
  refine TL_p (PV_assign rfl) ?_
  refine TL_p (PV_assign rfl) ?_
  refine TL_nil ?_
  refine T_ret ?_
  refine ret_ret (ResV_two rfl rfl rfl) ⟨_, List.Sublist.refl _, ⟨rfl, rfl⟩⟩
theorem Seen_t {gw gT gA k cT cA seen : Nat} {over : Bool} : TCall Tryd.prog w0 B 26 #[.pointer (some ⟨gw, 0, none⟩)] (fun r H' => r = .int .i64 (seen : Int) ∧ H' = wC gw gT gA k cT cA seen over :: N) (wC gw gT gA k cT cA seen over :: N) := by
  refine TCall_intro (args := [_]) Tryd.func26 rfl Tryd.ntmps26 (Nat.le_of_ble_eq_true rfl) ?_
  refine T_seq ?_
  refine T_region ?_
  refine TL_p (PV_assign rfl) ?_
  refine TL_nil ?_
  refine T_seq ?_
  refine T_region ?_
  refine TL_p (PV_move rfl) ?_
  refine TL_p (PV_nilCheck rfl) ?_
  refine TL_p (PV_fieldAddr (D := 2) Tryd.underlying89 rfl sz3 (by decide) rfl rfl) ?_
  refine TL_p (PV_load Tryd.underlying3 rfl rfl (Rd.at 0 rfl rfl)) ?_
  refine TL_p (PV_assign rfl) ?_
  refine TL_nil ?_
  refine T_ret ?_
  refine ret_ret (ResV_one rfl rfl) ⟨_, List.Sublist.refl _, ⟨rfl, rfl⟩⟩
theorem Over_t {gw gT gA k cT cA seen : Nat} {over : Bool} : TCall Tryd.prog w0 B 27 #[.pointer (some ⟨gw, 0, none⟩)] (fun r H' => r = .bool over ∧ H' = wC gw gT gA k cT cA seen over :: N) (wC gw gT gA k cT cA seen over :: N) := by
  refine TCall_intro (args := [_]) Tryd.func27 rfl Tryd.ntmps27 (Nat.le_of_ble_eq_true rfl) ?_
  refine T_seq ?_
  refine T_region ?_
  refine TL_p (PV_assign rfl) ?_
  refine TL_nil ?_
  refine T_seq ?_
  refine T_region ?_
  refine TL_p (PV_move rfl) ?_
  refine TL_p (PV_nilCheck rfl) ?_
  refine TL_p (PV_fieldAddr (D := 3) Tryd.underlying89 rfl sz4 (by decide) rfl rfl) ?_
  refine TL_p (PV_load Tryd.underlying4 rfl rfl (Rd.at 0 rfl rfl)) ?_
  refine TL_p (PV_assign rfl) ?_
  refine TL_nil ?_
  refine T_ret ?_
  refine ret_ret (ResV_one rfl rfl) ⟨_, List.Sublist.refl _, ⟨rfl, rfl⟩⟩
theorem Put_t {gw gT gA k cT cA seen cb : Nat} (hcb : cb ≤ 255) (hsn : seen < 4611686018427387904) (hk : k ≤ 1000) {ts : List Rx} {gs : List Nat} {ps : List (List Bool)} {vs : List Value} (hW : Wk (WH w0 B N) ts gs ps vs k) :
    TCall Tryd.prog w0 B 30 #[.pointer (some ⟨gw, 0, none⟩), .int .u8 (cb : Int)] (fun r H' => ∃ (vs' : List Value) (N' : List Chunk), r = .tuple #[.int .i64 (((bestT ts ps cb k).getD 0 : Nat) : Int), .bool (bestT ts ps cb k).isSome] ∧ N.Sublist N' ∧ Wk (WH w0 B N') ts gs (putL ts ps cb k) vs' k ∧ H' = wC gw gT gA k cT cA (seen + 1) (bestT ts ps cb k).isSome :: tC gT k cT gs :: aC gA k cA vs' :: N')
      (wC gw gT gA k cT cA seen false :: tC gT k cT gs :: aC gA k cA vs :: N) := by
  have e17 : Value.int .i64 (IntKind.i64.wrap ((seen : Int) + 1)) = .int .i64 ((seen + 1 : Nat) : Int) := wr64n _ (by push_cast; rfl) (by omega)
  refine TCall_intro (args := [_, _]) Tryd.func30 rfl Tryd.ntmps30 (Nat.le_of_ble_eq_true rfl) ?_
  refine T_seq ?_
  refine T_region ?_
  refine TL_p (PV_assign rfl) ?_
  refine TL_p (PV_assign rfl) ?_
  refine TL_nil ?_
  refine T_seq ?_
  refine T_seq ?_
  refine T_region ?_
  refine TL_p (PV_move rfl) ?_
  refine TL_p (PV_nilCheck rfl) ?_
  refine TL_p (PV_fieldAddr (D := 3) Tryd.underlying89 rfl sz4 (by decide) rfl rfl) ?_
  refine TL_p (PV_load Tryd.underlying4 rfl rfl (Rd.at 0 rfl rfl)) ?_
  refine TL_nil ?_
  refine T_else rfl (by rfl) ?_
  refine T_skip ?_
  refine T_seq ?_
  refine T_region ?_
  refine TL_p (PV_move rfl) ?_
  refine TL_p (PV_nilCheck rfl) ?_
  refine TL_p (PV_fieldAddr (D := 2) Tryd.underlying89 rfl sz3 (by decide) rfl rfl) ?_
  refine TL_p (PV_load Tryd.underlying3 rfl rfl (Rd.at 0 rfl rfl)) ?_
  refine TL_p (PV.cast (PV_bin rfl rfl bin_add) e17) ?_
  refine TL_p (PV_nilCheck rfl) ?_
  refine TL_p (PV_fieldAddr (D := 2) Tryd.underlying89 rfl sz3 (by decide) rfl rfl) ?_
  refine TL_cons rfl (TO_store1 0 rfl rfl rfl sz3 rfl rfl rfl (by first | exact Nat.le_of_ble_eq_true rfl | (simp; done) | (simp; omega) | omega) ?_)
  refine TL_nil ?_
  refine T_seq ?_
  refine T_region ?_
  refine TL_p (PV_assign rfl) ?_
  refine TL_nil ?_
  refine T_seq ?_
  refine T_seq ?_
  refine T_region ?_
  refine TL_p (PV_move rfl) ?_
  refine TL_p (PV_nilCheck rfl) ?_
  refine TL_p (PV_fieldAddr (D := 0) Tryd.underlying89 rfl sz87 (by decide) rfl rfl) ?_
  refine TL_p (PV_load Tryd.underlying87 rfl rfl (Rd.at 0 rfl rfl)) ?_
  refine TL_p (PV_len_slice Tryd.underlying87 rfl) ?_
  refine TL_p (PV_move rfl) ?_
  refine TL_nil ?_
  refine T_block ?_
  refine ?L1
  case L1 =>
    refine T_loopP3 (fun (j : Nat) (vs : List Value) (N' : List Chunk) => j ≤ k ∧ N.Sublist N' ∧ Wk (WH w0 B N') ts gs (putL ts ps cb j) vs k) (fun j _ _ => k - j) (fun j vs N' => [(0, .pointer (some ⟨gw, 0, none⟩)), (1, .int .u8 (cb : Int)), (6, .int .i64 (bestV (bestT ts ps cb j))), (23, .slice (some ⟨gT, 0, none⟩) k cT), (24, .int .i64 (k : Int)), (25, .int .i64 (j : Int))]) (fun j vs N' => wC gw gT gA k cT cA (seen + 1) false :: tC gT k cT gs :: aC gA k cA vs :: N') 0 vs N ⟨Nat.zero_le _, List.Sublist.refl _, hW.get (putL_len _ _ _ _) fun i => by rw [putL_get, if_neg (by omega)]⟩ (by repeat (first | exact FrSub.nil _ | refine FrSub.cons rfl ?_)) (Has.of_sub (by repeat (first | exact Sb.r | exact Sb.ar | exact Sb.al | apply Sb.c | apply Sb.d | refine Sb.t ?_))) ?_
    clear hW
    rintro j vs N' ⟨hj, hN, hK⟩
    by_cases hjk : j < k
    · have e60 : Value.int .i64 (IntKind.i64.wrap ((j : Int) + 1)) = .int .i64 ((j + 1 : Nat) : Int) := wr64n _ (by push_cast; rfl) (by omega)
      obtain ⟨t, ht⟩ : ∃ t, ts.getD j .nothing = t := ⟨_, rfl⟩
      obtain ⟨g, hg⟩ : ∃ g, gs.getD j 0 = g := ⟨_, rfl⟩
      obtain ⟨p, hp⟩ : ∃ p, ps.getD j [] = p := ⟨_, rfl⟩
      have hTab := hK.tab j hjk
      have hpl := hK.pl j hjk
      obtain ⟨A, m, c, hv, hm, hmc, hm2, hS⟩ := hK.at_ j hjk
      have hpe : (putL ts ps cb j).getD j [] = p := by rw [putL_get, if_neg (by omega), hp]
      rw [hpe] at hm hS
      rw [ht, hg] at hTab
      rw [ht] at hpl
      refine T_shows (Shows.at 1 rfl) (by simp [ptrs, hK.lg]; omega) fun g1 o1 hA1 hr1 => ?_
      cases hA1
      have hR1 : Rd _ ⟨gT, 0 + j * 1, none⟩ (.pointer (some ⟨g, 0, none⟩)) := hr1 (j * 1) _ (by rw [← hg]; exact ptrs_at (by rw [hK.lg]; exact hjk))
      refine T_shows (Shows.at 2 rfl) (by rw [hK.lv]; omega) fun g2 o2 hA2 hr2 => ?_
      cases hA2
      have hR2 : Rd _ ⟨gA, 0 + j * 1, none⟩ (.slice A m c) := hr2 (j * 1) _ (by rw [Nat.mul_one]; exact hv)
      have hlv := hK.lv
      refine T_seq ?_
      refine T_region ?_
      refine TL_p (PV_bin rfl rfl bin_lss) ?_
      refine TL_nil ?_
      refine T_seq ?_
      refine T_then rfl (by exact decide_eq_true (by omega)) ?_
      refine T_skip ?_
      refine T_seq ?_
      refine T_block ?_
      refine T_seq ?_
      refine T_region ?_
      refine TL_p (PV_move rfl) ?_
      refine TL_p (PV_indexAddr Tryd.underlying87 sz56 rfl rfl rfl (by first | omega | decide | assumption)) ?_
      refine TL_p (PV_load Tryd.underlying56 rfl rfl hR1) ?_
      refine TL_p (PV_assign rfl) ?_
      refine TL_p (PV_assign rfl) ?_
      refine TL_nil ?_
      refine T_seq ?_
      refine ?L11
      case L11 =>
        refine T_midR (fun f h => ∃ g' : Nat, FrSub [(0, .pointer (some ⟨gw, 0, none⟩)), (1, .int .u8 (cb : Int)), (6, .int .i64 (bestV (bestT ts ps cb j))), (7, .int .i64 (j : Int)), (8, .pointer (some ⟨g, 0, none⟩)), (23, .slice (some ⟨gT, 0, none⟩) k cT), (24, .int .i64 (k : Int)), (25, .int .i64 (j : Int))] f ∧ Has h (.sl (.slice (some ⟨g', 0, none⟩) (Go.Proofs.YtijpbpnfachlkaaDoor.SL.pl t) (Go.Proofs.YtijpbpnfachlkaaDoor.SL.pl t)) 1 (Go.Proofs.YtijpbpnfachlkaaDoor.SL.pl t) (bools (stepL t p cb true)) :: wC gw gT gA k cT cA (seen + 1) false :: tC gT k cT gs :: aC gA k cA (vs.set (0 + j * 1) (.slice (some ⟨g', 0, none⟩) (Go.Proofs.YtijpbpnfachlkaaDoor.SL.pl t) (Go.Proofs.YtijpbpnfachlkaaDoor.SL.pl t))) :: N')) ?_ ?_
        · refine T_drawnE 2 mixed ?_
          refine TA_p 0 rfl (by kernel_rfl) (PV_move rfl) ?_
          refine TA_p 1 rfl (by kernel_rfl) (PV_nilCheck rfl) ?_
          refine TA_p 2 rfl (by kernel_rfl) (PV_fieldAddr (D := 1) Tryd.underlying89 rfl sz86 (by decide) rfl rfl) ?_
          refine TA_p 3 rfl (by kernel_rfl) (PV_load Tryd.underlying86 rfl rfl (Rd.at 0 rfl rfl)) ?_
          refine TA_p 4 rfl (by kernel_rfl) (PV_move rfl) ?_
          refine TA_p 5 rfl (by kernel_rfl) (PV_move rfl) ?_
          refine TA_p 6 rfl (by kernel_rfl) (PV_move rfl) ?_
          refine TA_p 7 rfl (by kernel_rfl) (PV_nilCheck rfl) ?_
          refine TA_p 8 rfl (by kernel_rfl) (PV_fieldAddr (D := 1) Tryd.underlying89 rfl sz86 (by decide) rfl rfl) ?_
          refine TA_p 9 rfl (by kernel_rfl) (PV_load Tryd.underlying86 rfl rfl (Rd.at 0 rfl rfl)) ?_
          refine TA_p 10 rfl (by kernel_rfl) (PV_move rfl) ?_
          refine TA_p 11 rfl (by kernel_rfl) (PV_indexAddr Tryd.underlying86 sz99 rfl rfl rfl (by first | omega | decide | assumption)) ?_
          refine TA_p 13 rfl (by kernel_rfl) (PV_move rfl) ?_
          refine TA_pure1 (dd := (some 42)) 12 (by kernel_rfl) rfl rfl rfl rfl (PV_load Tryd.underlying99 rfl rfl hR2) ?_
          refine TA_one 14 (by kernel_rfl) rfl rfl (TO_call0 call42 rfl rfl (Step_t (hTab.mono fun w h => h.sub (by repeat (first | exact Sb.r | exact Sb.ar | exact Sb.al | apply Sb.d | refine Sb.t ?_))) hpl (hS.mono fun w h => h.sub (by repeat (first | exact Sb.r | exact Sb.ar | exact Sb.al | apply Sb.d | refine Sb.t ?_))) hm hmc hm2 hcb true) ?_)
          rintro v44_2003 H44_2003 ⟨g'_2003, rfl, rfl⟩
          refine ⟨fun _ h => h.sub (by (repeat (first | exact Sb.r | exact Sb.ar | exact Sb.al | apply Sb.c | apply Sb.d | refine Sb.t ?_)); done), ?_⟩
          refine TA_p 15 rfl (by kernel_rfl) (PV_indexAddr Tryd.underlying86 sz99 rfl rfl rfl (by first | omega | decide | assumption)) ?_
          refine TA_one 16 (by kernel_rfl) rfl rfl (TO_store1 3 rfl rfl rfl sz99 rfl rfl rfl (by first | exact Nat.le_of_ble_eq_true rfl | (simp; done) | (simp; omega) | omega) ?_)
          refine ⟨fun _ h => h.sub (by (repeat (first | exact Sb.r | exact Sb.ar | exact Sb.al | apply Sb.c | apply Sb.d | refine Sb.t ?_)); done), ?_⟩
          refine TA_done (by kernel_rfl) ?_
          refine ?L21
          case L21 => exact ⟨_, (by repeat (first | exact FrSub.nil _ | refine FrSub.cons rfl ?_)), Has.of_sub (by repeat (first | exact Sb.r | exact Sb.ar | exact Sb.al | apply Sb.c | apply Sb.d | refine Sb.t ?_))⟩
        · rintro f h ⟨g', hf, hh2, hp2, hz⟩
          refine T.weaken hf (T.perm hp2 (T.drop hz (T.perm (List.perm_middle (l₁ := [_, _, _])).symm ?_)))
          simp only [List.cons_append, List.nil_append]
          obtain ⟨v', hv'⟩ : ∃ v' : Value, .slice (some ⟨g', 0, none⟩) (Go.Proofs.YtijpbpnfachlkaaDoor.SL.pl t) (Go.Proofs.YtijpbpnfachlkaaDoor.SL.pl t) = v' := ⟨_, rfl⟩
          have hidx : 0 + j * 1 = j := by omega
          rw [hidx]
          obtain ⟨vs2, hvs2⟩ : ∃ vs2, vs.set j v' = vs2 := ⟨_, rfl⟩
          have hvl : vs2.length = k := by rw [← hvs2, List.length_set]; exact hlv
          have hvj : vs2[j]? = some v' := by rw [← hvs2]; exact List.getElem?_set_self (by omega)
          have hK2 : Wk (WH w0 B (.sl v' 1 (Go.Proofs.YtijpbpnfachlkaaDoor.SL.pl t) (bools (stepL t p cb true)) :: N')) ts gs (putL ts ps cb (j + 1)) vs2 k := by
            refine ⟨hK.lt, hK.lg, by rw [putL_len]; have := hK.la; rwa [putL_len] at this, hvl, fun i hi => (hK.tab i hi).mono fun w h => h.sub (List.sublist_cons_self _ _), hK.pl, fun i hi => ?_⟩
            have hpl2 := hK.la
            rw [putL_len] at hpl2
            by_cases hij : i = j
            · subst hij
              refine ⟨some ⟨g', 0, none⟩, Go.Proofs.YtijpbpnfachlkaaDoor.SL.pl t, Go.Proofs.YtijpbpnfachlkaaDoor.SL.pl t, by rw [hv']; exact hvj, ?_, Nat.le_refl _, by omega, ?_⟩
              · rw [putL_get, if_pos ⟨by omega, by omega⟩, ht, hp, stepL_len]
              · rw [putL_get, if_pos ⟨by omega, by omega⟩, ht, hp]
                subst hv'
                exact Shows.at 0 rfl
            · obtain ⟨A2, m2, c2, e1, e2, e3, e4, e5⟩ := hK.at_ i hi
              have e : (putL ts ps cb (j + 1)).getD i [] = (putL ts ps cb j).getD i [] := by
                rw [putL_get, putL_get]
                by_cases h1 : i < j ∧ i < ps.length
                · rw [if_pos h1, if_pos ⟨by omega, h1.2⟩]
                · rw [if_neg h1, if_neg (by omega)]
              rw [e]
              exact ⟨A2, m2, c2, by rw [← hvs2, List.getElem?_set_ne (by omega)]; exact e1, e2, e3, e4, e5.mono fun w h => h.sub (List.sublist_cons_self _ _)⟩
          rw [hv', hvs2]
          refine T_shows (Shows.at 2 rfl) (by rw [hvl]; omega) fun g2 o2 hA2 hr3 => ?_
          cases hA2
          have hR3 : Rd _ ⟨gA, 0 + j * 1, none⟩ v' := hr3 (j * 1) _ (by rw [Nat.mul_one]; exact hvj)
          subst hv'
          have hN2 : N.Sublist (.sl (.slice (some ⟨g', 0, none⟩) (Go.Proofs.YtijpbpnfachlkaaDoor.SL.pl t) (Go.Proofs.YtijpbpnfachlkaaDoor.SL.pl t)) 1 (Go.Proofs.YtijpbpnfachlkaaDoor.SL.pl t) (bools (stepL t p cb true)) :: N') := hN.trans (List.sublist_cons_self _ _)
          have hb1 : bestT ts ps cb (j + 1) = match bestT ts ps cb j with
            | some b => some b
            | none => if endsT (ts.getD j .nothing) (stepL (ts.getD j .nothing) (ps.getD j []) cb true) = true then some j else none := rfl
          rw [ht, hp] at hb1
          cases hbj : bestT ts ps cb j with
          | some b =>
            rw [hbj] at hb1
            have e47 : Value.bool (decide ((b : Int) < 0)) = .bool false := congrArg Value.bool (decide_eq_false (by omega))
            refine T_seq ?_
            refine T_region ?_
            refine TL_p (PV_move rfl) ?_
            refine TL_p (PV.cast (PV_bin rfl rfl bin_lss) e47) ?_
            refine TL_p (PV_move rfl) ?_
            refine TL_no (b := false) rfl rfl rfl rfl ?_
            refine TL_no (b := false) rfl rfl rfl rfl ?_
            refine TL_no (b := false) rfl rfl rfl rfl ?_
            refine TL_no (b := false) rfl rfl rfl rfl ?_
            refine TL_no (b := false) rfl rfl rfl rfl ?_
            refine TL_no (b := false) rfl rfl rfl rfl ?_
            refine TL_no (b := false) rfl rfl rfl rfl ?_
            refine TL_no (b := false) rfl rfl rfl rfl ?_
            refine TL_no (b := false) rfl rfl rfl rfl ?_
            refine TL_p (PV_pickF rfl (by first | assumption | rfl | (simp; done) | (simp; omega) | (simp [*]; done) | (simp [*]; omega)) rfl rfl) ?_
            refine TL_nil ?_
            refine T_else rfl (by rfl) ?_
            refine T_skip ?_
            refine T_region ?_
            refine TL_p (PV.cast (PV_bin rfl rfl bin_add) e60) ?_
            refine TL_p (PV_move rfl) ?_
            refine TL_nil ?_
            refine ?L31
            all_goals
              refine ⟨j + 1, vs2, _, ⟨by omega, hN2, hK2⟩, by omega, ?_, Has.of_sub (by repeat (first | exact Sb.r | exact Sb.ar | exact Sb.al | apply Sb.c | apply Sb.d | refine Sb.t ?_))⟩
              rw [hb1]
              exact (by repeat (first | exact FrSub.nil _ | refine FrSub.cons rfl ?_))
          | none =>
            rw [hbj] at hb1
            have e47 : Value.bool (decide ((-1 : Int) < 0)) = .bool true := rfl
            have hen := fun {X : List Chunk} (hT : Tab (WH w0 B X) g t) (hS : Shows (WH w0 B X) (some ⟨g', 0, none⟩) (Go.Proofs.YtijpbpnfachlkaaDoor.SL.pl t) 1 (bools (stepL t p cb true))) => Ends_t' (w0 := w0) (B := B) (H := X) hT hpl hS (stepL_len _ _ _ _) (Nat.le_refl _) (by omega)
            cases hq : endsT t (stepL t p cb true) with
            | true =>
              rw [hq] at hb1 hen
              refine T_seq ?_
              refine T_region ?_
              refine TL_p (PV_move rfl) ?_
              refine TL_p (PV.cast (PV_bin rfl rfl bin_lss) e47) ?_
              refine TL_p (PV_move rfl) ?_
              refine TL_yes rfl rfl rfl (TO_pure rfl (PV_move rfl) ?_)
              refine TL_yes rfl rfl rfl (TO_pure rfl (PV_move rfl) ?_)
              refine TL_yes rfl rfl rfl (TO_pure rfl (PV_nilCheck rfl) ?_)
              refine TL_yes rfl rfl rfl (TO_pure rfl (PV_fieldAddr (D := 1) Tryd.underlying89 rfl sz86 (by decide) rfl rfl) ?_)
              refine TL_yes rfl rfl rfl (TO_pure rfl (PV_load Tryd.underlying86 rfl rfl (Rd.at 0 rfl rfl)) ?_)
              refine TL_yes rfl rfl rfl (TO_pure rfl (PV_move rfl) ?_)
              refine TL_yes rfl rfl rfl (TO_pure rfl (PV_indexAddr Tryd.underlying86 sz99 rfl rfl rfl (by first | omega | decide | assumption)) ?_)
              refine TL_yes rfl rfl rfl (TO_pure rfl (PV_load Tryd.underlying99 rfl rfl hR3) ?_)
              refine TL_yes rfl rfl rfl (TO_eqD call43 (hen (hTab.mono fun w h => h.sub (by repeat (first | exact Sb.r | exact Sb.ar | exact Sb.al | apply Sb.d | refine Sb.t ?_))) (Shows.at 3 rfl)) rfl rfl _ (List.Sublist.refl _) ?_)
              refine TL_p (PV_pickAnd rfl rfl rfl) ?_
              refine TL_nil ?_
              refine T_then rfl (by rfl) ?_
              refine T_region ?_
              refine TL_p (PV_move rfl) ?_
              refine TL_p (PV_assign rfl) ?_
              refine TL_nil ?_
              refine T_region ?_
              refine TL_p (PV.cast (PV_bin rfl rfl bin_add) e60) ?_
              refine TL_p (PV_move rfl) ?_
              refine TL_nil ?_
              refine ?L41
              all_goals
                refine ⟨j + 1, vs2, _, ⟨by omega, hN2, hK2⟩, by omega, ?_, Has.of_sub (by repeat (first | exact Sb.r | exact Sb.ar | exact Sb.al | apply Sb.c | apply Sb.d | refine Sb.t ?_))⟩
                rw [hb1]
                exact (by repeat (first | exact FrSub.nil _ | refine FrSub.cons rfl ?_))
            | false =>
              rw [hq] at hb1 hen
              refine T_seq ?_
              refine T_region ?_
              refine TL_p (PV_move rfl) ?_
              refine TL_p (PV.cast (PV_bin rfl rfl bin_lss) e47) ?_
              refine TL_p (PV_move rfl) ?_
              refine TL_yes rfl rfl rfl (TO_pure rfl (PV_move rfl) ?_)
              refine TL_yes rfl rfl rfl (TO_pure rfl (PV_move rfl) ?_)
              refine TL_yes rfl rfl rfl (TO_pure rfl (PV_nilCheck rfl) ?_)
              refine TL_yes rfl rfl rfl (TO_pure rfl (PV_fieldAddr (D := 1) Tryd.underlying89 rfl sz86 (by decide) rfl rfl) ?_)
              refine TL_yes rfl rfl rfl (TO_pure rfl (PV_load Tryd.underlying86 rfl rfl (Rd.at 0 rfl rfl)) ?_)
              refine TL_yes rfl rfl rfl (TO_pure rfl (PV_move rfl) ?_)
              refine TL_yes rfl rfl rfl (TO_pure rfl (PV_indexAddr Tryd.underlying86 sz99 rfl rfl rfl (by first | omega | decide | assumption)) ?_)
              refine TL_yes rfl rfl rfl (TO_pure rfl (PV_load Tryd.underlying99 rfl rfl hR3) ?_)
              refine TL_yes rfl rfl rfl (TO_eqD call43 (hen (hTab.mono fun w h => h.sub (by repeat (first | exact Sb.r | exact Sb.ar | exact Sb.al | apply Sb.d | refine Sb.t ?_))) (Shows.at 3 rfl)) rfl rfl _ (List.Sublist.refl _) ?_)
              refine TL_p (PV_pickAnd rfl rfl rfl) ?_
              refine TL_nil ?_
              refine T_else rfl (by rfl) ?_
              refine T_skip ?_
              refine T_region ?_
              refine TL_p (PV.cast (PV_bin rfl rfl bin_add) e60) ?_
              refine TL_p (PV_move rfl) ?_
              refine TL_nil ?_
              refine ?L51
              all_goals
                refine ⟨j + 1, vs2, _, ⟨by omega, hN2, hK2⟩, by omega, ?_, Has.of_sub (by repeat (first | exact Sb.r | exact Sb.ar | exact Sb.al | apply Sb.c | apply Sb.d | refine Sb.t ?_))⟩
                rw [hb1]
                exact (by repeat (first | exact FrSub.nil _ | refine FrSub.cons rfl ?_))
    · obtain rfl : j = k := by omega
      cases hbj : bestT ts ps cb j with
      | none =>
        have e62 : Value.bool (decide ((-1 : Int) < 0)) = .bool true := rfl
        refine T_seq ?_
        refine T_region ?_
        refine TL_p (PV_bin rfl rfl bin_lss) ?_
        refine TL_nil ?_
        refine T_seq ?_
        refine T_else rfl (by (simp; done)) ?_
        refine T_exit ?_
        refine T_seq ?_
        refine T_seq ?_
        refine T_region ?_
        refine TL_p (PV_move rfl) ?_
        refine TL_p (PV.cast (PV_bin rfl rfl bin_lss) e62) ?_
        refine TL_nil ?_
        refine T_then rfl (by rfl) ?_
        refine T_seq ?_
        refine T_region ?_
        refine TL_p (PV_assign rfl) ?_
        refine TL_p (PV_assign rfl) ?_
        refine TL_nil ?_
        refine T_ret ?_
        refine ret_ret (ResV_two rfl rfl rfl) ⟨_, List.Sublist.refl _, ⟨_, _, rfl, ?sd6001q172_0, ?sd6001q172_1, rfl⟩⟩
        case sd6001q172_0 => exact hN
        case sd6001q172_1 => exact hK
        all_goals exact T_ret (ret_ret (ResV_tt rfl rfl) ⟨_, List.Sublist.refl _, vs, N', rfl, hN, hK, rfl⟩)
      | some b =>
        have e62 : Value.bool (decide ((b : Int) < 0)) = .bool false := congrArg Value.bool (decide_eq_false (by omega))
        refine T_seq ?_
        refine T_region ?_
        refine TL_p (PV_bin rfl rfl bin_lss) ?_
        refine TL_nil ?_
        refine T_seq ?_
        refine T_else rfl (by (simp; done)) ?_
        refine T_exit ?_
        refine T_seq ?_
        refine T_seq ?_
        refine T_region ?_
        refine TL_p (PV_move rfl) ?_
        refine TL_p (PV.cast (PV_bin rfl rfl bin_lss) e62) ?_
        refine TL_nil ?_
        refine T_else rfl (by rfl) ?_
        refine T_skip ?_
        refine T_seq ?_
        refine T_region ?_
        refine TL_p (PV_move rfl) ?_
        refine TL_p (PV_nilCheck rfl) ?_
        refine TL_p (PV_fieldAddr (D := 3) Tryd.underlying89 rfl sz4 (by decide) rfl rfl) ?_
        refine TL_cons rfl (TO_store1 0 rfl rfl rfl sz4 rfl rfl rfl (by first | exact Nat.le_of_ble_eq_true rfl | (simp; done) | (simp; omega) | omega) ?_)
        refine TL_nil ?_
        refine T_seq ?_
        refine T_region ?_
        refine TL_p (PV_move rfl) ?_
        refine TL_p (PV_assign rfl) ?_
        refine TL_p (PV_assign rfl) ?_
        refine TL_nil ?_
        refine T_ret ?_
        refine ret_ret (ResV_two rfl rfl rfl) ⟨_, List.Sublist.refl _, ⟨_, _, rfl, ?sd7002q177_0, ?sd7002q177_1, rfl⟩⟩
        case sd7002q177_0 => exact hN
        case sd7002q177_1 => exact hK
        all_goals exact T_ret (ret_ret (ResV_tt rfl rfl) ⟨_, List.Sublist.refl _, vs, N', rfl, hN, hK, rfl⟩)
end
end Go.Proofs.YtijpbpnfachlkaaDoor.SL
