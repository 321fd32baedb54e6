import Derived.Test.YtijpbpnfachlkaaDoorP3
/- Patterns: classes. No statement is proved here. -/
set_option linter.unusedVariables false
set_option linter.unusedSimpArgs false
set_option maxRecDepth 100000
set_option maxHeartbeats 8000000
namespace Go.Proofs.YtijpbpnfachlkaaDoor.SL
open Go Go.RowKit
section
variable {w0 : World} {B : Nat} {H X : List Chunk}
theorem str_take' (l : List Int) (n : Nat) : (strOfNums l).extract 0 n = strOfNums (l.take n) := by
  apply ByteArray.ext
  simp [ByteArray.data_extract, strOfNums, List.map_take]
theorem str_drop' (l : List Int) (n : Nat) : (strOfNums l).extract n (strOfNums l).size = strOfNums (l.drop n) := by
  apply ByteArray.ext
  rw [str_len]
  simp only [ByteArray.data_extract, strOfNums, List.map_drop]
  apply Array.toList_inj.1
  simp
  rw [List.take_of_length_le (by simp)]
theorem T_midS {P : Program} {n : Nat} {Q : Exit → Fr → List Chunk → Prop} {fr : Fr} {c y : Code} (F : Fr) (HH : List Chunk)
    (h1 : T P w0 B n c (Then (fun f h => FrSub F f ∧ Has h HH) Q) fr H) (h2 : T P w0 B n y Q F HH) : T P w0 B n c (Then (fun f h => T P w0 B n y Q f h) Q) fr H := by
  refine h1.mono ?_
  rintro e f h hq
  cases e with
  | normal =>
    obtain ⟨hf, h3, p, s⟩ := hq
    exact T.weaken hf (T.perm p (T.drop s h2))
  | _ => exact hq
def hpB (l : List Int) : Bool := decide (2 ≤ l.length) && decide (strOfNums (l.take 2) = strOfNums [45, 93])
theorem hp1_t (l : List Int) : TCall Tryd.prog w0 B 66 #[.string (strOfNums l), .string (strOfNums [45, 93])] (fun r H' => r = .bool (hpB l) ∧ H' = H) H := by
  have e6 : Value.int .i64 (((strOfNums l).size : Nat) : Int) = .int .i64 ((l.length : Nat) : Int) := by rw [str_len]
  have e8 : Value.int .i64 (((strOfNums [45, 93]).size : Nat) : Int) = .int .i64 2 := rfl
  have e9 : Value.bool (decide ((l.length : Int) ≥ 2)) = .bool (decide (2 ≤ l.length)) := by congr 1; exact decide_eq_decide.2 (by omega)
  unfold hpB
  by_cases h : 2 ≤ l.length
  · rw [decide_eq_true h] at e9 ⊢
    have e14 : Value.string ((strOfNums l).extract 0 2) = .string (strOfNums (l.take 2)) := by rw [str_take']
    refine TCall_intro (args := [_, _]) Tryd.func66 rfl Tryd.ntmps66 (Nat.le_of_ble_eq_true rfl) ?_
    refine T_seq ?_
    refine T_region ?_
    refine TL_p (PV_assign rfl) ?_
    refine TL_nil ?_
    refine T_seq ?_
    refine T_region ?_
    refine TL_p (PV_move rfl) ?_
    refine TL_p (PV.cast (PV_len_string Tryd.underlying9 rfl) e6) ?_
    refine TL_p (PV_move rfl) ?_
    refine TL_p (PV.cast (PV_len_string Tryd.underlying9 rfl) e8) ?_
    refine TL_p (PV.cast (PV_bin rfl rfl bin_geq) e9) ?_
    refine TL_p (PV_move rfl) ?_
    refine TL_yes rfl rfl rfl (TO_pure rfl (PV_move rfl) ?_)
    refine TL_yes rfl rfl rfl (TO_pure rfl (PV_move rfl) ?_)
    refine TL_yes rfl rfl rfl (TO_pure rfl (PV.cast (PV_len_string Tryd.underlying9 rfl) e8) ?_)
    refine TL_yes rfl rfl rfl (TO_pure rfl (PV.cast (PV_sliceStr (l := 0) Tryd.underlying9 rfl rfl ⟨_, rfl⟩ (by omega) (by rw [str_len]; omega)) e14) ?_)
    refine TL_yes rfl rfl rfl (TO_pure rfl (PV_move rfl) ?_)
    refine TL_yes rfl rfl rfl (TO_pure rfl (PV_bin rfl rfl bin_str_eql) ?_)
    refine TL_p (PV_pickAnd rfl rfl rfl) ?_
    refine TL_p (PV_assign rfl) ?_
    refine TL_nil ?_
    refine T_ret ?_
    refine ret_ret (ResV_one rfl rfl) ⟨_, List.Sublist.refl _, ⟨rfl, rfl⟩⟩
  · rw [decide_eq_false h] at e9 ⊢
    refine TCall_intro (args := [_, _]) Tryd.func66 rfl Tryd.ntmps66 (Nat.le_of_ble_eq_true rfl) ?_
    refine T_seq ?_
    refine T_region ?_
    refine TL_p (PV_assign rfl) ?_
    refine TL_nil ?_
    refine T_seq ?_
    refine T_region ?_
    refine TL_p (PV_move rfl) ?_
    refine TL_p (PV.cast (PV_len_string Tryd.underlying9 rfl) e6) ?_
    refine TL_p (PV_move rfl) ?_
    refine TL_p (PV.cast (PV_len_string Tryd.underlying9 rfl) e8) ?_
    refine TL_p (PV.cast (PV_bin rfl rfl bin_geq) e9) ?_
    refine TL_p (PV_move rfl) ?_
    refine TL_no (b := false) rfl rfl rfl rfl ?_
    refine TL_no (b := false) rfl rfl rfl rfl ?_
    refine TL_no (b := false) rfl rfl rfl rfl ?_
    refine TL_no (b := false) rfl rfl rfl rfl ?_
    refine TL_no (b := false) rfl rfl rfl rfl ?_
    refine TL_no (b := false) rfl rfl rfl rfl ?_
    refine TL_p (PV_pickF rfl (by first | assumption | rfl | (simp; done) | (simp; omega) | (simp [*]; done) | (simp [*]; omega)) rfl rfl) ?_
    refine TL_p (PV_assign rfl) ?_
    refine TL_nil ?_
    refine T_ret ?_
    refine ret_ret (ResV_one rfl rfl) ⟨_, List.Sublist.refl _, ⟨rfl, rfl⟩⟩
theorem hp_t (l : List Int) : TCall Tryd.prog w0 B 65 #[.string (strOfNums l), .string (strOfNums [45, 93])] (fun r H' => r = .bool (hpB l) ∧ H' = H) H := by
  refine TCall_intro (args := [_, _]) Tryd.func65 rfl Tryd.ntmps65 (Nat.le_of_ble_eq_true rfl) ?_
  refine T_seq ?_
  refine T_region ?_
  refine TL_p (PV_assign rfl) ?_
  refine TL_nil ?_
  refine T_seq ?_
  refine T_region ?_
  refine TL_p (PV_move rfl) ?_
  refine TL_p (PV_move rfl) ?_
  refine TL_cons rfl (TO_call0 call66 rfl rfl (hp1_t l) ?_)
  rintro v7_3 H7_3 ⟨rfl, rfl⟩
  refine TL_p (PV_assign rfl) ?_
  refine TL_nil ?_
  refine T_ret ?_
  refine ret_ret (ResV_one rfl rfl) ⟨_, List.Sublist.refl _, ⟨rfl, rfl⟩⟩
theorem hp_b {l : List Int} {b : Bool} (h : hpB l = b) : TCall Tryd.prog w0 B 65 #[.string (strOfNums l), .string (strOfNums [45, 93])] (fun r H' => r = .bool b ∧ H' = H) H := by
  subst h
  exact hp_t l
/-- is a range to come? -/
def rngB (s : List Int) (i : Nat) : Bool := isB s i 45 && !hpB (s.drop i)
def addR (st : S4) (lo : Nat) : Nat → S4
  | 0 => st
  | n + 1 => addR (st.with_ lo) (lo + 1) n
def pClassL (s : List Int) (from_ : Nat) : Nat → Nat → S4 → Res S4
  | 0, i, st => .bad from_ i
  | n + 1, i, st => if isB s i 93 = true then .ok st (i + 1) else match pPlain s i with
    | .bad _ e => .bad from_ e
    | .ok lo j => if rngB s j = true then (match pPlain s (j + 1) with
        | .bad _ e => .bad from_ e
        | .ok hi k => if hi < lo then .bad from_ k else pClassL s from_ n k (addR st lo.toNat (hi.toNat + 1 - lo.toNat)))
      else pClassL s from_ n j (addR st lo.toNat (lo.toNat + 1 - lo.toNat))
def pClass (s : List Int) (i : Nat) : Res Rx :=
  match pClassL s i (s.length + 1) (if isB s (i + 1) 94 = true then i + 1 + 1 else i + 1) S4.zero with
  | .bad p e => .bad p e
  | .ok st j => .ok (.one (if isB s (i + 1) 94 = true then st.not_ else st)) j
theorem isB_lt {s : List Int} {i : Nat} {c : Int} (h : isB s i c = true) : i < s.length ∧ rd s i = c := by
  unfold isB at h
  simpa using h
theorem pPlain_lt {s : List Int} {i j : Nat} {c : Int} (h : pPlain s i = .ok c j) : i < j ∧ j ≤ s.length := by
  unfold pPlain at h
  split at h
  · split at h
    · split at h
      · cases h
      · cases h; omega
    · cases h; omega
  · cases h
theorem pPlain_u8 {s : List Int} {i j : Nat} {c : Int} (hu : U8s s) (h : pPlain s i = .ok c j) : 0 ≤ c ∧ c ≤ 255 := by
  unfold pPlain at h
  split at h
  · split at h
    · split at h
      · cases h
      · cases h; exact hu.at_ _
    · cases h; exact hu.at_ _
  · cases h
theorem pClassL_from {s : List Int} {f : Nat} : ∀ {n i p e : Nat} {st : S4}, pClassL s f n i st = .bad p e → p = f
  | 0, i, p, e, st, h => by cases h; rfl
  | n + 1, i, p, e, st, h => by
    unfold pClassL at h
    split at h
    · cases h
    · split at h
      · cases h; rfl
      · split at h
        · split at h
          · cases h; rfl
          · split at h
            · cases h; rfl
            · exact pClassL_from h
        · exact pClassL_from h
theorem pClassL_lt {s : List Int} {f : Nat} : ∀ {n i j : Nat} {st st' : S4}, pClassL s f n i st = .ok st' j → i < j ∧ j ≤ s.length
  | 0, i, j, st, st', h => by cases h
  | n + 1, i, j, st, st', h => by
    unfold pClassL at h
    split at h
    · rename_i h1
      cases h
      have := (isB_lt h1).1
      omega
    · split at h
      · cases h
      · rename_i lo k hk
        have h1 := pPlain_lt hk
        split at h
        · split at h
          · cases h
          · rename_i hi l hl
            have h2 := pPlain_lt hl
            split at h
            · cases h
            · have := pClassL_lt h; omega
        · have := pClassL_lt h; omega
theorem pClass_lt {s : List Int} {i j : Nat} {t : Rx} (h : pClass s i = .ok t j) : i < j ∧ j ≤ s.length := by
  unfold pClass at h
  split at h
  · cases h
  · rename_i st k hk
    cases h
    have := pClassL_lt hk
    split at this <;> omega
theorem class_ok {g : Nat} {s : List Int} {i0 j0 : Nat} {st0 : S4} {nt : Bool} (hu : U8s s) (hs : s.length ≤ 64) (hi0 : i0 < s.length) (hnt : isB s (i0 + 1) 94 = nt) (hcl : pClassL s i0 (s.length + 1) (if nt = true then i0 + 1 + 1 else i0 + 1) S4.zero = Res.ok st0 j0) :
    TCall Tryd.prog w0 B 63 #[.pointer (some ⟨g, 0, none⟩)] (fun r H' => r = .tuple #[(⟨1, if nt = true then st0.not_ else st0, none, 0, 0⟩ : Nv).val, .nilIface] ∧ H' = rdC g s j0 :: X) (rdC g s i0 :: X) := by
  obtain ⟨i1, hi1⟩ : ∃ i1, (if nt = true then i0 + 1 + 1 else i0 + 1) = i1 := ⟨_, rfl⟩
  rw [hi1] at hcl
  have hi1s : i1 ≤ s.length ∧ i1 ≤ i0 + 2 := by
    cases nt with
    | true =>
      have := (isB_lt hnt).1
      rw [if_pos rfl] at hi1
      omega
    | false =>
      rw [if_neg (by decide)] at hi1
      omega
  refine TCall_intro (args := [_]) Tryd.func63 rfl Tryd.ntmps63 (Nat.le_of_ble_eq_true rfl) ?_
  refine T_seq ?_
  refine T_region ?_
  refine TL_cons rfl (TO_alloc rfl zr30 fun g1 => ?_)
  refine TL_p (PV_assign rfl) ?_
  refine TL_nil ?_
  refine T_seq ?_
  refine T_region ?_
  refine TL_p (PV_move rfl) ?_
  refine TL_p (PV_nilCheck rfl) ?_
  refine TL_p (PV_fieldAddr (D := 1) Tryd.underlying71 rfl sz3 (by decide) rfl rfl) ?_
  refine TL_p (PV_load Tryd.underlying3 rfl rfl (Rd.at 1 rfl rfl)) ?_
  refine TL_p (PV_assign rfl) ?_
  refine TL_nil ?_
  refine T_seq ?_
  refine T_region ?_
  refine TL_p (PV_move rfl) ?_
  refine TL_p (PV_nilCheck rfl) ?_
  refine TL_p (PV_fieldAddr (D := 1) Tryd.underlying71 rfl sz3 (by decide) rfl rfl) ?_
  refine TL_p (PV_load Tryd.underlying3 rfl rfl (Rd.at 1 rfl rfl)) ?_
  refine TL_p (PV.cast (PV_bin rfl rfl bin_add) (wr64 (by omega))) ?_
  refine TL_p (PV_nilCheck rfl) ?_
  refine TL_p (PV_fieldAddr (D := 1) Tryd.underlying71 rfl sz3 (by decide) rfl rfl) ?_
  refine TL_cons rfl (TO_store1 1 rfl rfl rfl sz3 rfl rfl rfl (by first | exact Nat.le_of_ble_eq_true rfl | (simp; done) | (simp; omega) | omega) ?_)
  refine TL_nil ?_
  refine T_seq ?_
  refine T_region ?_
  refine TL_p (PV_move rfl) ?_
  refine TL_perm ((perm_pick (i := 1) rfl).trans (List.Perm.cons _ (List.Perm.refl _))) ?_
  refine TL_cons rfl (TO_call0 call45 rfl rfl (is_b 94 nt hu hnt) ?_)
  rintro v23_5 H23_5 ⟨rfl, rfl⟩
  refine TL_p (PV_assign rfl) ?_
  refine TL_nil ?_
  refine T_seq ?_
  refine T_seq ?_
  refine T_region ?_
  refine TL_p (PV_move rfl) ?_
  refine TL_nil ?_
  refine ?L1
  case L1 =>
    refine T_midS [(0, .pointer (some ⟨g, 0, none⟩)), (2, .pointer (some ⟨g1, 0, none⟩)), (4, .int .i64 (i0 : Int)), (5, .bool nt)] (rdC g s i1 :: .own g1 6 nv0.cells :: X) ?_ ?_
    · cases nt with
      | true =>
        subst hi1
        have e29 : Value.int .i64 (IntKind.i64.wrap (((i0 + 1 : Nat) : Int) + 1)) = .int .i64 ((i0 + 1 + 1 : Nat) : Int) := wr64n _ (by push_cast; rfl) (by omega)
        refine T_then rfl (by rfl) ?_
        refine T_region ?_
        refine TL_p (PV_move rfl) ?_
        refine TL_p (PV_nilCheck rfl) ?_
        refine TL_p (PV_fieldAddr (D := 1) Tryd.underlying71 rfl sz3 (by decide) rfl rfl) ?_
        refine TL_p (PV_load Tryd.underlying3 rfl rfl (Rd.at 0 rfl rfl)) ?_
        refine TL_p (PV.cast (PV_bin rfl rfl bin_add) e29) ?_
        refine TL_p (PV_nilCheck rfl) ?_
        refine TL_p (PV_fieldAddr (D := 1) Tryd.underlying71 rfl sz3 (by decide) rfl rfl) ?_
        refine TL_cons rfl (TO_store1 0 rfl rfl rfl sz3 rfl rfl rfl (by first | exact Nat.le_of_ble_eq_true rfl | (simp; done) | (simp; omega) | omega) ?_)
        refine TL_nil ?_
        refine ?L11
        case L11 => exact ⟨(by repeat (first | exact FrSub.nil _ | refine FrSub.cons rfl ?_)), Has.of_sub (by repeat (first | exact Sb.r | exact Sb.ar | exact Sb.al | apply Sb.c | apply Sb.d | refine Sb.t ?_))⟩
      | false =>
        subst hi1
        refine T_else rfl (by rfl) ?_
        refine T_skip ?_
        refine ?L21
        case L21 => exact ⟨(by repeat (first | exact FrSub.nil _ | refine FrSub.cons rfl ?_)), Has.of_sub (by repeat (first | exact Sb.r | exact Sb.ar | exact Sb.al | apply Sb.c | apply Sb.d | refine Sb.t ?_))⟩
    · refine T_seq ?_
      refine T_region ?_
      refine TL_cons rfl (TO_alloc rfl zr27 fun g3001 => ?_)
      refine TL_nil ?_
      refine T_seq ?_
      refine T_block ?_
      refine ?L31
      case L31 =>
        refine T_loopP3 (fun (n : Nat) (i : Nat) (st : S4) => i ≤ s.length ∧ s.length < i + n ∧ pClassL s i0 n i st = Res.ok st0 j0) (fun n _ _ => n) (fun _ _ _ => [(0, .pointer (some ⟨g, 0, none⟩)), (2, .pointer (some ⟨g1, 0, none⟩)), (4, .int .i64 (i0 : Int)), (5, .bool nt), (6, .pointer (some ⟨g3001, 0, none⟩))]) (fun _ i st => .own g3001 4 st.cells :: rdC g s i :: .own g1 6 nv0.cells :: X) (s.length + 1) i1 S4.zero ⟨hi1s.1, by omega, hcl⟩ (by repeat (first | exact FrSub.nil _ | refine FrSub.cons rfl ?_)) (Has.of_sub (by repeat (first | exact Sb.r | exact Sb.ar | exact Sb.al | apply Sb.c | apply Sb.d | refine Sb.t ?_))) ?_
        rintro n i st ⟨hi, hn, h⟩
        obtain ⟨n, rfl⟩ : ∃ k, n = k + 1 := ⟨n - 1, by omega⟩
        unfold pClassL at h
        by_cases h93 : isB s i 93 = true
        · rw [if_pos h93] at h
          cases h
          cases nt with
          | true =>
            refine T_seq ?_
            refine T_seq ?_
            refine T_region ?_
            refine TL_p (PV_move rfl) ?_
            refine TL_perm ((perm_pick (i := 1) rfl).trans (List.Perm.cons _ (List.Perm.refl _))) ?_
            refine TL_cons rfl (TO_call0 call45 rfl rfl (is_b 93 true hu h93) ?_)
            rintro v33_4003 H33_4003 ⟨rfl, rfl⟩
            refine TL_p (PV_not rfl) ?_
            refine TL_nil ?_
            refine T_else rfl (by rfl) ?_
            refine T_exit ?_
            refine T_seq ?_
            refine T_region ?_
            refine TL_p (PV_move rfl) ?_
            refine TL_p (PV_nilCheck rfl) ?_
            refine TL_p (PV_fieldAddr (D := 1) Tryd.underlying71 rfl sz3 (by decide) rfl rfl) ?_
            refine TL_p (PV_load Tryd.underlying3 rfl rfl (Rd.at 0 rfl rfl)) ?_
            refine TL_p (PV.cast (PV_bin rfl rfl bin_add) (wr64 (by omega))) ?_
            refine TL_p (PV_nilCheck rfl) ?_
            refine TL_p (PV_fieldAddr (D := 1) Tryd.underlying71 rfl sz3 (by decide) rfl rfl) ?_
            refine TL_cons rfl (TO_store1 0 rfl rfl rfl sz3 rfl rfl rfl (by first | exact Nat.le_of_ble_eq_true rfl | (simp; done) | (simp; omega) | omega) ?_)
            refine TL_nil ?_
            refine T_seq ?_
            refine T_seq ?_
            refine T_region ?_
            refine TL_p (PV_move rfl) ?_
            refine TL_nil ?_
            refine T_then rfl (by rfl) ?_
            refine T_region ?_
            refine TL_p (PV_loadAt Tryd.underlying27 rfl sz27 rfl (Rds.take 1 rfl rfl rfl)) ?_
            refine TL_cons rfl (TO_call0 call18 rfl rfl (Not_t st0) ?_)
            rintro v104_4007 H104_4007 ⟨rfl, rfl⟩
            refine TL_cons rfl (TO_store 1 rfl rfl rfl sz27 rfl rfl rfl (all_one rfl) (by first | exact Nat.le_of_ble_eq_true rfl | (simp; done) | (simp; omega) | omega) ?_)
            refine TL_nil ?_
            refine T_seq ?_
            refine T_region ?_
            refine TL_p (PV_loadAt Tryd.underlying27 rfl sz27 rfl (Rds.take 1 rfl rfl rfl)) ?_
            refine TL_p (PV_bld (cs := [_, _, _, _, _, _]) Tryd.underlying30 pl30 zr30 rfl rfl) ?_
            refine TL_cons rfl (TO_store 2 rfl rfl rfl sz30 rfl rfl rfl (all_one rfl) (by first | exact Nat.le_of_ble_eq_true rfl | (simp; done) | (simp; omega) | omega) ?_)
            refine TL_p (PV_assign rfl) ?_
            refine TL_nil ?_
            refine T_ret ?_
            refine ret_ret (ResV_ct rfl Tryd.underlying30 rfl sz30 rfl (Rds.take 2 rfl rfl rfl) rfl) ⟨_, ?zb4010q177, ⟨rfl, rfl⟩⟩
            case zb4010q177 => exact (by (repeat (first | exact Sb.r | exact Sb.ar | exact Sb.al | apply Sb.c | apply Sb.d | refine Sb.t ?_)); done)
            all_goals rfl
          | false =>
            refine T_seq ?_
            refine T_seq ?_
            refine T_region ?_
            refine TL_p (PV_move rfl) ?_
            refine TL_perm ((perm_pick (i := 1) rfl).trans (List.Perm.cons _ (List.Perm.refl _))) ?_
            refine TL_cons rfl (TO_call0 call45 rfl rfl (is_b 93 true hu h93) ?_)
            rintro v33_4503 H33_4503 ⟨rfl, rfl⟩
            refine TL_p (PV_not rfl) ?_
            refine TL_nil ?_
            refine T_else rfl (by rfl) ?_
            refine T_exit ?_
            refine T_seq ?_
            refine T_region ?_
            refine TL_p (PV_move rfl) ?_
            refine TL_p (PV_nilCheck rfl) ?_
            refine TL_p (PV_fieldAddr (D := 1) Tryd.underlying71 rfl sz3 (by decide) rfl rfl) ?_
            refine TL_p (PV_load Tryd.underlying3 rfl rfl (Rd.at 0 rfl rfl)) ?_
            refine TL_p (PV.cast (PV_bin rfl rfl bin_add) (wr64 (by omega))) ?_
            refine TL_p (PV_nilCheck rfl) ?_
            refine TL_p (PV_fieldAddr (D := 1) Tryd.underlying71 rfl sz3 (by decide) rfl rfl) ?_
            refine TL_cons rfl (TO_store1 0 rfl rfl rfl sz3 rfl rfl rfl (by first | exact Nat.le_of_ble_eq_true rfl | (simp; done) | (simp; omega) | omega) ?_)
            refine TL_nil ?_
            refine T_seq ?_
            refine T_seq ?_
            refine T_region ?_
            refine TL_p (PV_move rfl) ?_
            refine TL_nil ?_
            refine T_else rfl (by rfl) ?_
            refine T_skip ?_
            refine T_seq ?_
            refine T_region ?_
            refine TL_p (PV_loadAt Tryd.underlying27 rfl sz27 rfl (Rds.take 1 rfl rfl rfl)) ?_
            refine TL_p (PV_bld (cs := [_, _, _, _, _, _]) Tryd.underlying30 pl30 zr30 rfl rfl) ?_
            refine TL_cons rfl (TO_store 2 rfl rfl rfl sz30 rfl rfl rfl (all_one rfl) (by first | exact Nat.le_of_ble_eq_true rfl | (simp; done) | (simp; omega) | omega) ?_)
            refine TL_p (PV_assign rfl) ?_
            refine TL_nil ?_
            refine T_ret ?_
            refine ret_ret (ResV_ct rfl Tryd.underlying30 rfl sz30 rfl (Rds.take 2 rfl rfl rfl) rfl) ⟨_, ?zb4506q182, ⟨rfl, rfl⟩⟩
            case zb4506q182 => exact (by (repeat (first | exact Sb.r | exact Sb.ar | exact Sb.al | apply Sb.c | apply Sb.d | refine Sb.t ?_)); done)
            all_goals rfl
        · have h93f : isB s i 93 = false := by simpa using h93
          rw [if_neg h93] at h
          cases hp : pPlain s i with
          | bad q e =>
            rw [hp] at h
            cases h
          | ok lo j =>
            rw [hp] at h
            simp only at h
            have hj := pPlain_lt hp
            have hlo := pPlain_u8 hu hp
            have e57 : Value.string ((strOfNums s).extract j (strOfNums s).size) = .string (strOfNums (s.drop j)) := by rw [str_drop']
            have e84 : Value.int .i64 (IntKind.i64.wrap lo) = .int .i64 ((lo.toNat : Nat) : Int) := wr64n _ (by omega) (by omega)
            by_cases hr : rngB s j = true
            · rw [if_pos hr] at h
              have hr1 : isB s j 45 = true := by unfold rngB at hr; simp at hr; exact hr.1
              have hr2 : hpB (s.drop j) = false := by unfold rngB at hr; simp at hr; exact hr.2
              have hjl := (isB_lt hr1).1
              cases hp2 : pPlain s (j + 1) with
              | bad q e =>
                rw [hp2] at h
                cases h
              | ok hi2 k =>
                rw [hp2] at h
                simp only at h
                have hk := pPlain_lt hp2
                have hh := pPlain_u8 hu hp2
                by_cases hlt : hi2 < lo
                · rw [if_pos hlt] at h
                  cases h
                · rw [if_neg hlt] at h
                  refine T_seq ?_
                  refine T_seq ?_
                  refine T_region ?_
                  refine TL_p (PV_move rfl) ?_
                  refine TL_perm ((perm_pick (i := 1) rfl).trans (List.Perm.cons _ (List.Perm.refl _))) ?_
                  refine TL_cons rfl (TO_call0 call45 rfl rfl (is_b 93 false hu h93f) ?_)
                  rintro v33_10003 H33_10003 ⟨rfl, rfl⟩
                  refine TL_p (PV_not rfl) ?_
                  refine TL_nil ?_
                  refine T_then rfl (by rfl) ?_
                  refine T_skip ?_
                  refine T_block ?_
                  refine T_seq ?_
                  refine T_region ?_
                  refine TL_p (PV_move rfl) ?_
                  refine TL_cons rfl (TO_call0 call64 rfl rfl (plain_ok hu hs hp) ?_)
                  rintro v37_10006 H37_10006 ⟨rfl, rfl⟩
                  refine TL_p (PV_move rfl) ?_
                  refine TL_p (PV_extract rfl rfl) ?_
                  refine TL_p (PV_extract rfl rfl) ?_
                  refine TL_p (PV_assign rfl) ?_
                  refine TL_p (PV_assign rfl) ?_
                  refine TL_nil ?_
                  refine T_seq ?_
                  refine T_seq ?_
                  refine T_region ?_
                  refine TL_p (PV_move rfl) ?_
                  refine TL_p (PV_bin rfl rfl (bin_nil_nnil Tryd.underlying34)) ?_
                  refine TL_nil ?_
                  refine T_else rfl (by rfl) ?_
                  refine T_skip ?_
                  refine T_seq ?_
                  refine T_region ?_
                  refine TL_p (PV_move rfl) ?_
                  refine TL_p (PV_assign rfl) ?_
                  refine TL_nil ?_
                  refine T_seq ?_
                  refine T_seq ?_
                  refine T_drawn (WH _ _ _) mixed (fun w h => h) ?_
                  refine TA_p 0 rfl (by kernel_rfl) (PV_move rfl) ?_
                  refine TA_one 1 (by kernel_rfl) rfl rfl (TO_call0 call45 rfl rfl (is_b 45 true hu hr1) ?_)
                  rintro v47_10009 H47_10009 ⟨rfl, rfl⟩
                  refine ⟨fun _ h => h, ?_⟩
                  refine TA_p 2 rfl (by kernel_rfl) (PV_move rfl) ?_
                  refine TA_yes (dd := (some 49)) 3 rfl (by kernel_rfl) (by kernel_rfl) (by kernel_rfl) rfl rfl rfl rfl rfl (PV_move rfl) ?_
                  refine TA_yes (dd := (some 50)) 4 rfl (by kernel_rfl) (by kernel_rfl) (by kernel_rfl) rfl rfl rfl rfl rfl (PV_nilCheck rfl) ?_
                  refine TA_yes (dd := (some 51)) 5 rfl (by kernel_rfl) (by kernel_rfl) (by kernel_rfl) rfl rfl rfl rfl rfl (PV_fieldAddr (D := 0) Tryd.underlying71 rfl sz9 (by decide) rfl rfl) ?_
                  refine TA_yes (dd := (some 52)) 6 rfl (by kernel_rfl) (by kernel_rfl) (by kernel_rfl) rfl rfl rfl rfl rfl (PV_load Tryd.underlying9 rfl rfl (Rd.at 0 rfl rfl)) ?_
                  refine TA_yes (dd := (some 53)) 7 rfl (by kernel_rfl) (by kernel_rfl) (by kernel_rfl) rfl rfl rfl rfl rfl (PV_move rfl) ?_
                  refine TA_yes (dd := (some 54)) 8 rfl (by kernel_rfl) (by kernel_rfl) (by kernel_rfl) rfl rfl rfl rfl rfl (PV_nilCheck rfl) ?_
                  refine TA_yes (dd := (some 55)) 9 rfl (by kernel_rfl) (by kernel_rfl) (by kernel_rfl) rfl rfl rfl rfl rfl (PV_fieldAddr (D := 1) Tryd.underlying71 rfl sz3 (by decide) rfl rfl) ?_
                  refine TA_yes (dd := (some 56)) 10 rfl (by kernel_rfl) (by kernel_rfl) (by kernel_rfl) rfl rfl rfl rfl rfl (PV_load Tryd.underlying3 rfl rfl (Rd.at 0 rfl rfl)) ?_
                  refine TA_yes (dd := (some 57)) 11 rfl (by kernel_rfl) (by kernel_rfl) (by kernel_rfl) rfl rfl rfl rfl rfl (PV.cast (PV_sliceStr (l := j) Tryd.underlying9 rfl ⟨_, rfl⟩ rfl (by rw [str_len]; omega) (Nat.le_refl _)) e57) ?_
                  refine TA_oneYes 12 (by kernel_rfl) rfl rfl rfl rfl (TO_call0 call65 rfl rfl (hp_b hr2) ?_)
                  rintro v58_10012 H58_10012 ⟨rfl, rfl⟩
                  refine ⟨fun _ h => h, ?_⟩
                  refine TA_yes (dd := (some 59)) 13 rfl (by kernel_rfl) (by kernel_rfl) (by kernel_rfl) rfl rfl rfl rfl rfl (PV_not rfl) ?_
                  refine TA_p 14 rfl (by kernel_rfl) (PV_pickAnd rfl rfl rfl) ?_
                  refine TA_done (by kernel_rfl) ?_
                  refine T_then rfl (by rfl) ?_
                  refine T_seq ?_
                  refine T_region ?_
                  refine TL_p (PV_move rfl) ?_
                  refine TL_p (PV_nilCheck rfl) ?_
                  refine TL_p (PV_fieldAddr (D := 1) Tryd.underlying71 rfl sz3 (by decide) rfl rfl) ?_
                  refine TL_p (PV_load Tryd.underlying3 rfl rfl (Rd.at 0 rfl rfl)) ?_
                  refine TL_p (PV.cast (PV_bin rfl rfl bin_add) (wr64 (by omega))) ?_
                  refine TL_p (PV_nilCheck rfl) ?_
                  refine TL_p (PV_fieldAddr (D := 1) Tryd.underlying71 rfl sz3 (by decide) rfl rfl) ?_
                  refine TL_cons rfl (TO_store1 0 rfl rfl rfl sz3 rfl rfl rfl (by first | exact Nat.le_of_ble_eq_true rfl | (simp; done) | (simp; omega) | omega) ?_)
                  refine TL_nil ?_
                  refine T_seq ?_
                  refine T_region ?_
                  refine TL_p (PV_move rfl) ?_
                  refine TL_cons rfl (TO_call0 call64 rfl rfl (plain_ok hu hs hp2) ?_)
                  rintro v70_10016 H70_10016 ⟨rfl, rfl⟩
                  refine TL_p (PV_move rfl) ?_
                  refine TL_p (PV_extract rfl rfl) ?_
                  refine TL_p (PV_extract rfl rfl) ?_
                  refine TL_p (PV_assign rfl) ?_
                  refine TL_p (PV_assign rfl) ?_
                  refine TL_nil ?_
                  refine T_seq ?_
                  refine T_region ?_
                  refine TL_p (PV_move rfl) ?_
                  refine TL_p (PV_bin rfl rfl (bin_nil_nnil Tryd.underlying34)) ?_
                  refine TL_p (PV_move rfl) ?_
                  refine TL_yes rfl rfl rfl (TO_pure rfl (PV_move rfl) ?_)
                  refine TL_yes rfl rfl rfl (TO_pure rfl (PV_move rfl) ?_)
                  refine TL_yes rfl rfl rfl (TO_pure rfl (PV_bin rfl rfl bin_lss) ?_)
                  refine TL_p (PV_pickOr rfl rfl rfl) ?_
                  refine TL_nil ?_
                  refine T_else rfl (by exact decide_eq_false (by omega)) ?_
                  refine T_skip ?_
                  refine T_seq ?_
                  refine T_region ?_
                  refine TL_p (PV_move rfl) ?_
                  refine TL_p (PV.cast (PV_conv (by rw [Tryd.underlying5]; rfl) Tryd.underlying3 rfl) e84) ?_
                  refine TL_p (PV_assign rfl) ?_
                  refine TL_nil ?_
                  refine T_block ?_
                  refine ?L101
                  case L101 =>
                    refine T_loopP2 (fun (x : Nat) (st2 : S4) => lo.toNat ≤ x ∧ x ≤ hi2.toNat + 1 ∧ addR st2 x (hi2.toNat + 1 - x) = addR st lo.toNat (hi2.toNat + 1 - lo.toNat)) (fun x _ => hi2.toNat + 1 - x) (fun x _ => [(0, .pointer (some ⟨g, 0, none⟩)), (2, .pointer (some ⟨g1, 0, none⟩)), (4, .int .i64 (i0 : Int)), (5, .bool nt), (6, .pointer (some ⟨g3001, 0, none⟩)), (9, .int .u8 hi2), (10, .int .i64 (x : Int))]) (fun x st2 => rdC g s k :: .own g3001 4 st2.cells :: .own g1 6 nv0.cells :: X) lo.toNat st ⟨Nat.le_refl _, by omega, rfl⟩ (by repeat (first | exact FrSub.nil _ | refine FrSub.cons rfl ?_)) (Has.of_sub (by repeat (first | exact Sb.r | exact Sb.ar | exact Sb.al | apply Sb.c | apply Sb.d | refine Sb.t ?_))) ?_
                    rintro x st2 ⟨hx1, hx2, hx3⟩
                    have e87 : Value.int .i64 (IntKind.i64.wrap hi2) = .int .i64 hi2 := wr64 (by omega)
                    by_cases hx : x < hi2.toNat + 1
                    · have e93 : Value.int .u8 (IntKind.u8.wrap (x : Int)) = .int .u8 (x : Int) := wru8 (by omega)
                      refine T_seq ?_
                      refine T_seq ?_
                      refine T_region ?_
                      refine TL_p (PV_move rfl) ?_
                      refine TL_p (PV_move rfl) ?_
                      refine TL_p (PV.cast (PV_conv (by rw [Tryd.underlying5]; rfl) Tryd.underlying3 rfl) e87) ?_
                      refine TL_p (PV_bin rfl rfl bin_leq) ?_
                      refine TL_nil ?_
                      refine T_then rfl (by exact decide_eq_true (by omega)) ?_
                      refine T_skip ?_
                      refine T_seq ?_
                      refine T_block ?_
                      refine T_region ?_
                      refine TL_p (PV_loadAt Tryd.underlying27 rfl sz27 rfl (Rds.take 1 rfl rfl rfl)) ?_
                      refine TL_p (PV_move rfl) ?_
                      refine TL_p (PV.cast (PV_conv (by rw [Tryd.underlying3]; rfl) Tryd.underlying5 rfl) e93) ?_
                      refine TL_cons rfl (TO_call0 call16 rfl rfl (With_t st2 x (by omega)) ?_)
                      rintro v94_13003 H94_13003 ⟨rfl, rfl⟩
                      refine TL_cons rfl (TO_store 1 rfl rfl rfl sz27 rfl rfl rfl (all_one rfl) (by first | exact Nat.le_of_ble_eq_true rfl | (simp; done) | (simp; omega) | omega) ?_)
                      refine TL_nil ?_
                      refine T_region ?_
                      refine TL_p (PV_move rfl) ?_
                      refine TL_p (PV.cast (PV_bin rfl rfl bin_add) (wr64 (by omega))) ?_
                      refine TL_p (PV_assign rfl) ?_
                      refine TL_nil ?_
                      refine ?L131
                      all_goals (exact ⟨x + 1, st2.with_ x, ⟨by omega, by omega, by rw [← hx3, show hi2.toNat + 1 - x = (hi2.toNat + 1 - (x + 1)) + 1 by omega]; rfl⟩, by omega, (by repeat (first | exact FrSub.nil _ | refine FrSub.cons rfl ?_)), Has.of_sub (by repeat (first | exact Sb.r | exact Sb.ar | exact Sb.al | apply Sb.c | apply Sb.d | refine Sb.t ?_))⟩)
                    · have hxe : x = hi2.toNat + 1 := by omega
                      have hst : st2 = addR st lo.toNat (hi2.toNat + 1 - lo.toNat) := by rw [← hx3, hxe, Nat.sub_self]; rfl
                      refine T_seq ?_
                      refine T_seq ?_
                      refine T_region ?_
                      refine TL_p (PV_move rfl) ?_
                      refine TL_p (PV_move rfl) ?_
                      refine TL_p (PV.cast (PV_conv (by rw [Tryd.underlying5]; rfl) Tryd.underlying3 rfl) e87) ?_
                      refine TL_p (PV_bin rfl rfl bin_leq) ?_
                      refine TL_nil ?_
                      refine T_else rfl (by exact decide_eq_false (by omega)) ?_
                      refine T_exit ?_
                      refine ?L161
                      all_goals (exact ⟨n, k, st2, ⟨by omega, by omega, by rw [hst]; exact h⟩, by omega, (by repeat (first | exact FrSub.nil _ | refine FrSub.cons rfl ?_)), Has.of_perm ((perm_pick (i := 1) rfl).trans (List.Perm.cons _ ((perm_pick (i := 0) rfl).trans (List.Perm.cons _ (List.Perm.refl _))))) (by repeat (first | exact Sb.r | exact Sb.ar | exact Sb.al | apply Sb.c | apply Sb.d | refine Sb.t ?_))⟩)
            · have hrf : rngB s j = false := by simpa using hr
              rw [if_neg hr] at h
              rcases Bool.eq_false_or_eq_true (isB s j 45) with h45 | h45
              · have h46 : hpB (s.drop j) = true := by unfold rngB at hrf; rw [h45] at hrf; simpa using hrf
                have hjl := (isB_lt h45).1
                refine T_seq ?_
                refine T_seq ?_
                refine T_region ?_
                refine TL_p (PV_move rfl) ?_
                refine TL_perm ((perm_pick (i := 1) rfl).trans (List.Perm.cons _ (List.Perm.refl _))) ?_
                refine TL_cons rfl (TO_call0 call45 rfl rfl (is_b 93 false hu h93f) ?_)
                rintro v33_30003 H33_30003 ⟨rfl, rfl⟩
                refine TL_p (PV_not rfl) ?_
                refine TL_nil ?_
                refine T_then rfl (by rfl) ?_
                refine T_skip ?_
                refine T_block ?_
                refine T_seq ?_
                refine T_region ?_
                refine TL_p (PV_move rfl) ?_
                refine TL_cons rfl (TO_call0 call64 rfl rfl (plain_ok hu hs hp) ?_)
                rintro v37_30006 H37_30006 ⟨rfl, rfl⟩
                refine TL_p (PV_move rfl) ?_
                refine TL_p (PV_extract rfl rfl) ?_
                refine TL_p (PV_extract rfl rfl) ?_
                refine TL_p (PV_assign rfl) ?_
                refine TL_p (PV_assign rfl) ?_
                refine TL_nil ?_
                refine T_seq ?_
                refine T_seq ?_
                refine T_region ?_
                refine TL_p (PV_move rfl) ?_
                refine TL_p (PV_bin rfl rfl (bin_nil_nnil Tryd.underlying34)) ?_
                refine TL_nil ?_
                refine T_else rfl (by rfl) ?_
                refine T_skip ?_
                refine T_seq ?_
                refine T_region ?_
                refine TL_p (PV_move rfl) ?_
                refine TL_p (PV_assign rfl) ?_
                refine TL_nil ?_
                refine T_seq ?_
                refine T_seq ?_
                refine T_drawn (WH _ _ _) mixed (fun w h => h) ?_
                refine TA_p 0 rfl (by kernel_rfl) (PV_move rfl) ?_
                refine TA_one 1 (by kernel_rfl) rfl rfl (TO_call0 call45 rfl rfl (is_b 45 true hu h45) ?_)
                rintro v47_30009 H47_30009 ⟨rfl, rfl⟩
                refine ⟨fun _ h => h, ?_⟩
                refine TA_p 2 rfl (by kernel_rfl) (PV_move rfl) ?_
                refine TA_yes (dd := (some 49)) 3 rfl (by kernel_rfl) (by kernel_rfl) (by kernel_rfl) rfl rfl rfl rfl rfl (PV_move rfl) ?_
                refine TA_yes (dd := (some 50)) 4 rfl (by kernel_rfl) (by kernel_rfl) (by kernel_rfl) rfl rfl rfl rfl rfl (PV_nilCheck rfl) ?_
                refine TA_yes (dd := (some 51)) 5 rfl (by kernel_rfl) (by kernel_rfl) (by kernel_rfl) rfl rfl rfl rfl rfl (PV_fieldAddr (D := 0) Tryd.underlying71 rfl sz9 (by decide) rfl rfl) ?_
                refine TA_yes (dd := (some 52)) 6 rfl (by kernel_rfl) (by kernel_rfl) (by kernel_rfl) rfl rfl rfl rfl rfl (PV_load Tryd.underlying9 rfl rfl (Rd.at 0 rfl rfl)) ?_
                refine TA_yes (dd := (some 53)) 7 rfl (by kernel_rfl) (by kernel_rfl) (by kernel_rfl) rfl rfl rfl rfl rfl (PV_move rfl) ?_
                refine TA_yes (dd := (some 54)) 8 rfl (by kernel_rfl) (by kernel_rfl) (by kernel_rfl) rfl rfl rfl rfl rfl (PV_nilCheck rfl) ?_
                refine TA_yes (dd := (some 55)) 9 rfl (by kernel_rfl) (by kernel_rfl) (by kernel_rfl) rfl rfl rfl rfl rfl (PV_fieldAddr (D := 1) Tryd.underlying71 rfl sz3 (by decide) rfl rfl) ?_
                refine TA_yes (dd := (some 56)) 10 rfl (by kernel_rfl) (by kernel_rfl) (by kernel_rfl) rfl rfl rfl rfl rfl (PV_load Tryd.underlying3 rfl rfl (Rd.at 0 rfl rfl)) ?_
                refine TA_yes (dd := (some 57)) 11 rfl (by kernel_rfl) (by kernel_rfl) (by kernel_rfl) rfl rfl rfl rfl rfl (PV.cast (PV_sliceStr (l := j) Tryd.underlying9 rfl ⟨_, rfl⟩ rfl (by rw [str_len]; omega) (Nat.le_refl _)) e57) ?_
                refine TA_oneYes 12 (by kernel_rfl) rfl rfl rfl rfl (TO_call0 call65 rfl rfl (hp_b h46) ?_)
                rintro v58_30012 H58_30012 ⟨rfl, rfl⟩
                refine ⟨fun _ h => h, ?_⟩
                refine TA_yes (dd := (some 59)) 13 rfl (by kernel_rfl) (by kernel_rfl) (by kernel_rfl) rfl rfl rfl rfl rfl (PV_not rfl) ?_
                refine TA_p 14 rfl (by kernel_rfl) (PV_pickAnd rfl rfl rfl) ?_
                refine TA_done (by kernel_rfl) ?_
                refine T_else rfl (by rfl) ?_
                refine T_skip ?_
                refine T_seq ?_
                refine T_region ?_
                refine TL_p (PV_move rfl) ?_
                refine TL_p (PV.cast (PV_conv (by rw [Tryd.underlying5]; rfl) Tryd.underlying3 rfl) e84) ?_
                refine TL_p (PV_assign rfl) ?_
                refine TL_nil ?_
                refine T_block ?_
                refine ?L301
                case L301 =>
                  refine T_loopP2 (fun (x : Nat) (st2 : S4) => lo.toNat ≤ x ∧ x ≤ lo.toNat + 1 ∧ addR st2 x (lo.toNat + 1 - x) = addR st lo.toNat (lo.toNat + 1 - lo.toNat)) (fun x _ => lo.toNat + 1 - x) (fun x _ => [(0, .pointer (some ⟨g, 0, none⟩)), (2, .pointer (some ⟨g1, 0, none⟩)), (4, .int .i64 (i0 : Int)), (5, .bool nt), (6, .pointer (some ⟨g3001, 0, none⟩)), (9, .int .u8 lo), (10, .int .i64 (x : Int))]) (fun x st2 => rdC g s j :: .own g3001 4 st2.cells :: .own g1 6 nv0.cells :: X) lo.toNat st ⟨Nat.le_refl _, by omega, rfl⟩ (by repeat (first | exact FrSub.nil _ | refine FrSub.cons rfl ?_)) (Has.of_sub (by repeat (first | exact Sb.r | exact Sb.ar | exact Sb.al | apply Sb.c | apply Sb.d | refine Sb.t ?_))) ?_
                  rintro x st2 ⟨hx1, hx2, hx3⟩
                  have e87 : Value.int .i64 (IntKind.i64.wrap lo) = .int .i64 lo := wr64 (by omega)
                  by_cases hx : x < lo.toNat + 1
                  · have e93 : Value.int .u8 (IntKind.u8.wrap (x : Int)) = .int .u8 (x : Int) := wru8 (by omega)
                    refine T_seq ?_
                    refine T_seq ?_
                    refine T_region ?_
                    refine TL_p (PV_move rfl) ?_
                    refine TL_p (PV_move rfl) ?_
                    refine TL_p (PV.cast (PV_conv (by rw [Tryd.underlying5]; rfl) Tryd.underlying3 rfl) e87) ?_
                    refine TL_p (PV_bin rfl rfl bin_leq) ?_
                    refine TL_nil ?_
                    refine T_then rfl (by exact decide_eq_true (by omega)) ?_
                    refine T_skip ?_
                    refine T_seq ?_
                    refine T_block ?_
                    refine T_region ?_
                    refine TL_p (PV_loadAt Tryd.underlying27 rfl sz27 rfl (Rds.take 1 rfl rfl rfl)) ?_
                    refine TL_p (PV_move rfl) ?_
                    refine TL_p (PV.cast (PV_conv (by rw [Tryd.underlying3]; rfl) Tryd.underlying5 rfl) e93) ?_
                    refine TL_cons rfl (TO_call0 call16 rfl rfl (With_t st2 x (by omega)) ?_)
                    rintro v94_33003 H94_33003 ⟨rfl, rfl⟩
                    refine TL_cons rfl (TO_store 1 rfl rfl rfl sz27 rfl rfl rfl (all_one rfl) (by first | exact Nat.le_of_ble_eq_true rfl | (simp; done) | (simp; omega) | omega) ?_)
                    refine TL_nil ?_
                    refine T_region ?_
                    refine TL_p (PV_move rfl) ?_
                    refine TL_p (PV.cast (PV_bin rfl rfl bin_add) (wr64 (by omega))) ?_
                    refine TL_p (PV_assign rfl) ?_
                    refine TL_nil ?_
                    refine ?L331
                    all_goals (exact ⟨x + 1, st2.with_ x, ⟨by omega, by omega, by rw [← hx3, show lo.toNat + 1 - x = (lo.toNat + 1 - (x + 1)) + 1 by omega]; rfl⟩, by omega, (by repeat (first | exact FrSub.nil _ | refine FrSub.cons rfl ?_)), Has.of_sub (by repeat (first | exact Sb.r | exact Sb.ar | exact Sb.al | apply Sb.c | apply Sb.d | refine Sb.t ?_))⟩)
                  · have hxe : x = lo.toNat + 1 := by omega
                    have hst : st2 = addR st lo.toNat (lo.toNat + 1 - lo.toNat) := by rw [← hx3, hxe, Nat.sub_self]; rfl
                    refine T_seq ?_
                    refine T_seq ?_
                    refine T_region ?_
                    refine TL_p (PV_move rfl) ?_
                    refine TL_p (PV_move rfl) ?_
                    refine TL_p (PV.cast (PV_conv (by rw [Tryd.underlying5]; rfl) Tryd.underlying3 rfl) e87) ?_
                    refine TL_p (PV_bin rfl rfl bin_leq) ?_
                    refine TL_nil ?_
                    refine T_else rfl (by exact decide_eq_false (by omega)) ?_
                    refine T_exit ?_
                    refine ?L361
                    all_goals (exact ⟨n, j, st2, ⟨by omega, by omega, by rw [hst]; exact h⟩, by omega, (by repeat (first | exact FrSub.nil _ | refine FrSub.cons rfl ?_)), Has.of_perm ((perm_pick (i := 1) rfl).trans (List.Perm.cons _ ((perm_pick (i := 0) rfl).trans (List.Perm.cons _ (List.Perm.refl _))))) (by repeat (first | exact Sb.r | exact Sb.ar | exact Sb.al | apply Sb.c | apply Sb.d | refine Sb.t ?_))⟩)
              · refine T_seq ?_
                refine T_seq ?_
                refine T_region ?_
                refine TL_p (PV_move rfl) ?_
                refine TL_perm ((perm_pick (i := 1) rfl).trans (List.Perm.cons _ (List.Perm.refl _))) ?_
                refine TL_cons rfl (TO_call0 call45 rfl rfl (is_b 93 false hu h93f) ?_)
                rintro v33_50003 H33_50003 ⟨rfl, rfl⟩
                refine TL_p (PV_not rfl) ?_
                refine TL_nil ?_
                refine T_then rfl (by rfl) ?_
                refine T_skip ?_
                refine T_block ?_
                refine T_seq ?_
                refine T_region ?_
                refine TL_p (PV_move rfl) ?_
                refine TL_cons rfl (TO_call0 call64 rfl rfl (plain_ok hu hs hp) ?_)
                rintro v37_50006 H37_50006 ⟨rfl, rfl⟩
                refine TL_p (PV_move rfl) ?_
                refine TL_p (PV_extract rfl rfl) ?_
                refine TL_p (PV_extract rfl rfl) ?_
                refine TL_p (PV_assign rfl) ?_
                refine TL_p (PV_assign rfl) ?_
                refine TL_nil ?_
                refine T_seq ?_
                refine T_seq ?_
                refine T_region ?_
                refine TL_p (PV_move rfl) ?_
                refine TL_p (PV_bin rfl rfl (bin_nil_nnil Tryd.underlying34)) ?_
                refine TL_nil ?_
                refine T_else rfl (by rfl) ?_
                refine T_skip ?_
                refine T_seq ?_
                refine T_region ?_
                refine TL_p (PV_move rfl) ?_
                refine TL_p (PV_assign rfl) ?_
                refine TL_nil ?_
                refine T_seq ?_
                refine T_seq ?_
                refine T_drawn (WH _ _ _) mixed (fun w h => h) ?_
                refine TA_p 0 rfl (by kernel_rfl) (PV_move rfl) ?_
                refine TA_one 1 (by kernel_rfl) rfl rfl (TO_call0 call45 rfl rfl (is_b 45 false hu h45) ?_)
                rintro v47_50009 H47_50009 ⟨rfl, rfl⟩
                refine ⟨fun _ h => h, ?_⟩
                refine TA_p 2 rfl (by kernel_rfl) (PV_move rfl) ?_
                refine TA_no (dd := (some 49)) (b := false) 3 rfl (by kernel_rfl) (by kernel_rfl) (by kernel_rfl) rfl rfl rfl rfl rfl ?_
                refine TA_no (dd := (some 50)) (b := false) 4 rfl (by kernel_rfl) (by kernel_rfl) (by kernel_rfl) rfl rfl rfl rfl rfl ?_
                refine TA_no (dd := (some 51)) (b := false) 5 rfl (by kernel_rfl) (by kernel_rfl) (by kernel_rfl) rfl rfl rfl rfl rfl ?_
                refine TA_no (dd := (some 52)) (b := false) 6 rfl (by kernel_rfl) (by kernel_rfl) (by kernel_rfl) rfl rfl rfl rfl rfl ?_
                refine TA_no (dd := (some 53)) (b := false) 7 rfl (by kernel_rfl) (by kernel_rfl) (by kernel_rfl) rfl rfl rfl rfl rfl ?_
                refine TA_no (dd := (some 54)) (b := false) 8 rfl (by kernel_rfl) (by kernel_rfl) (by kernel_rfl) rfl rfl rfl rfl rfl ?_
                refine TA_no (dd := (some 55)) (b := false) 9 rfl (by kernel_rfl) (by kernel_rfl) (by kernel_rfl) rfl rfl rfl rfl rfl ?_
                refine TA_no (dd := (some 56)) (b := false) 10 rfl (by kernel_rfl) (by kernel_rfl) (by kernel_rfl) rfl rfl rfl rfl rfl ?_
                refine TA_no (dd := (some 57)) (b := false) 11 rfl (by kernel_rfl) (by kernel_rfl) (by kernel_rfl) rfl rfl rfl rfl rfl ?_
                refine TA_no (dd := (some 58)) (b := false) 12 rfl (by kernel_rfl) (by kernel_rfl) (by kernel_rfl) rfl rfl rfl rfl rfl ?_
                refine TA_no (dd := (some 59)) (b := false) 13 rfl (by kernel_rfl) (by kernel_rfl) (by kernel_rfl) rfl rfl rfl rfl rfl ?_
                refine TA_p 14 rfl (by kernel_rfl) (PV_pickF rfl (by first | assumption | rfl | (simp; done) | (simp; omega) | (simp [*]; done) | (simp [*]; omega)) rfl rfl) ?_
                refine TA_done (by kernel_rfl) ?_
                refine T_else rfl (by rfl) ?_
                refine T_skip ?_
                refine T_seq ?_
                refine T_region ?_
                refine TL_p (PV_move rfl) ?_
                refine TL_p (PV.cast (PV_conv (by rw [Tryd.underlying5]; rfl) Tryd.underlying3 rfl) e84) ?_
                refine TL_p (PV_assign rfl) ?_
                refine TL_nil ?_
                refine T_block ?_
                refine ?L501
                case L501 =>
                  refine T_loopP2 (fun (x : Nat) (st2 : S4) => lo.toNat ≤ x ∧ x ≤ lo.toNat + 1 ∧ addR st2 x (lo.toNat + 1 - x) = addR st lo.toNat (lo.toNat + 1 - lo.toNat)) (fun x _ => lo.toNat + 1 - x) (fun x _ => [(0, .pointer (some ⟨g, 0, none⟩)), (2, .pointer (some ⟨g1, 0, none⟩)), (4, .int .i64 (i0 : Int)), (5, .bool nt), (6, .pointer (some ⟨g3001, 0, none⟩)), (9, .int .u8 lo), (10, .int .i64 (x : Int))]) (fun x st2 => rdC g s j :: .own g3001 4 st2.cells :: .own g1 6 nv0.cells :: X) lo.toNat st ⟨Nat.le_refl _, by omega, rfl⟩ (by repeat (first | exact FrSub.nil _ | refine FrSub.cons rfl ?_)) (Has.of_sub (by repeat (first | exact Sb.r | exact Sb.ar | exact Sb.al | apply Sb.c | apply Sb.d | refine Sb.t ?_))) ?_
                  rintro x st2 ⟨hx1, hx2, hx3⟩
                  have e87 : Value.int .i64 (IntKind.i64.wrap lo) = .int .i64 lo := wr64 (by omega)
                  by_cases hx : x < lo.toNat + 1
                  · have e93 : Value.int .u8 (IntKind.u8.wrap (x : Int)) = .int .u8 (x : Int) := wru8 (by omega)
                    refine T_seq ?_
                    refine T_seq ?_
                    refine T_region ?_
                    refine TL_p (PV_move rfl) ?_
                    refine TL_p (PV_move rfl) ?_
                    refine TL_p (PV.cast (PV_conv (by rw [Tryd.underlying5]; rfl) Tryd.underlying3 rfl) e87) ?_
                    refine TL_p (PV_bin rfl rfl bin_leq) ?_
                    refine TL_nil ?_
                    refine T_then rfl (by exact decide_eq_true (by omega)) ?_
                    refine T_skip ?_
                    refine T_seq ?_
                    refine T_block ?_
                    refine T_region ?_
                    refine TL_p (PV_loadAt Tryd.underlying27 rfl sz27 rfl (Rds.take 1 rfl rfl rfl)) ?_
                    refine TL_p (PV_move rfl) ?_
                    refine TL_p (PV.cast (PV_conv (by rw [Tryd.underlying3]; rfl) Tryd.underlying5 rfl) e93) ?_
                    refine TL_cons rfl (TO_call0 call16 rfl rfl (With_t st2 x (by omega)) ?_)
                    rintro v94_53003 H94_53003 ⟨rfl, rfl⟩
                    refine TL_cons rfl (TO_store 1 rfl rfl rfl sz27 rfl rfl rfl (all_one rfl) (by first | exact Nat.le_of_ble_eq_true rfl | (simp; done) | (simp; omega) | omega) ?_)
                    refine TL_nil ?_
                    refine T_region ?_
                    refine TL_p (PV_move rfl) ?_
                    refine TL_p (PV.cast (PV_bin rfl rfl bin_add) (wr64 (by omega))) ?_
                    refine TL_p (PV_assign rfl) ?_
                    refine TL_nil ?_
                    refine ?L531
                    all_goals (exact ⟨x + 1, st2.with_ x, ⟨by omega, by omega, by rw [← hx3, show lo.toNat + 1 - x = (lo.toNat + 1 - (x + 1)) + 1 by omega]; rfl⟩, by omega, (by repeat (first | exact FrSub.nil _ | refine FrSub.cons rfl ?_)), Has.of_sub (by repeat (first | exact Sb.r | exact Sb.ar | exact Sb.al | apply Sb.c | apply Sb.d | refine Sb.t ?_))⟩)
                  · have hxe : x = lo.toNat + 1 := by omega
                    have hst : st2 = addR st lo.toNat (lo.toNat + 1 - lo.toNat) := by rw [← hx3, hxe, Nat.sub_self]; rfl
                    refine T_seq ?_
                    refine T_seq ?_
                    refine T_region ?_
                    refine TL_p (PV_move rfl) ?_
                    refine TL_p (PV_move rfl) ?_
                    refine TL_p (PV.cast (PV_conv (by rw [Tryd.underlying5]; rfl) Tryd.underlying3 rfl) e87) ?_
                    refine TL_p (PV_bin rfl rfl bin_leq) ?_
                    refine TL_nil ?_
                    refine T_else rfl (by exact decide_eq_false (by omega)) ?_
                    refine T_exit ?_
                    refine ?L561
                    all_goals (exact ⟨n, j, st2, ⟨by omega, by omega, by rw [hst]; exact h⟩, by omega, (by repeat (first | exact FrSub.nil _ | refine FrSub.cons rfl ?_)), Has.of_perm ((perm_pick (i := 1) rfl).trans (List.Perm.cons _ ((perm_pick (i := 0) rfl).trans (List.Perm.cons _ (List.Perm.refl _))))) (by repeat (first | exact Sb.r | exact Sb.ar | exact Sb.al | apply Sb.c | apply Sb.d | refine Sb.t ?_))⟩)
theorem class_bad {g : Nat} {s : List Int} {i0 j0 p : Nat} {nt : Bool} (hu : U8s s) (hs : s.length ≤ 64) (hi0 : i0 < s.length) (hnt : isB s (i0 + 1) 94 = nt) (hcl : pClassL s i0 (s.length + 1) (if nt = true then i0 + 1 + 1 else i0 + 1) S4.zero = Res.bad p j0) :
    TCall Tryd.prog w0 B 63 #[.pointer (some ⟨g, 0, none⟩)] (fun r H' => r = .tuple #[nv0.val, faultV (i0 : Int)] ∧ H' = rdC g s j0 :: X) (rdC g s i0 :: X) := by
  obtain ⟨i1, hi1⟩ : ∃ i1, (if nt = true then i0 + 1 + 1 else i0 + 1) = i1 := ⟨_, rfl⟩
  rw [hi1] at hcl
  have hi1s : i1 ≤ s.length ∧ i1 ≤ i0 + 2 := by
    cases nt with
    | true =>
      have := (isB_lt hnt).1
      rw [if_pos rfl] at hi1
      omega
    | false =>
      rw [if_neg (by decide)] at hi1
      omega
  refine TCall_intro (args := [_]) Tryd.func63 rfl Tryd.ntmps63 (Nat.le_of_ble_eq_true rfl) ?_
  refine T_seq ?_
  refine T_region ?_
  refine TL_cons rfl (TO_alloc rfl zr30 fun g1 => ?_)
  refine TL_p (PV_assign rfl) ?_
  refine TL_nil ?_
  refine T_seq ?_
  refine T_region ?_
  refine TL_p (PV_move rfl) ?_
  refine TL_p (PV_nilCheck rfl) ?_
  refine TL_p (PV_fieldAddr (D := 1) Tryd.underlying71 rfl sz3 (by decide) rfl rfl) ?_
  refine TL_p (PV_load Tryd.underlying3 rfl rfl (Rd.at 1 rfl rfl)) ?_
  refine TL_p (PV_assign rfl) ?_
  refine TL_nil ?_
  refine T_seq ?_
  refine T_region ?_
  refine TL_p (PV_move rfl) ?_
  refine TL_p (PV_nilCheck rfl) ?_
  refine TL_p (PV_fieldAddr (D := 1) Tryd.underlying71 rfl sz3 (by decide) rfl rfl) ?_
  refine TL_p (PV_load Tryd.underlying3 rfl rfl (Rd.at 1 rfl rfl)) ?_
  refine TL_p (PV.cast (PV_bin rfl rfl bin_add) (wr64 (by omega))) ?_
  refine TL_p (PV_nilCheck rfl) ?_
  refine TL_p (PV_fieldAddr (D := 1) Tryd.underlying71 rfl sz3 (by decide) rfl rfl) ?_
  refine TL_cons rfl (TO_store1 1 rfl rfl rfl sz3 rfl rfl rfl (by first | exact Nat.le_of_ble_eq_true rfl | (simp; done) | (simp; omega) | omega) ?_)
  refine TL_nil ?_
  refine T_seq ?_
  refine T_region ?_
  refine TL_p (PV_move rfl) ?_
  refine TL_perm ((perm_pick (i := 1) rfl).trans (List.Perm.cons _ (List.Perm.refl _))) ?_
  refine TL_cons rfl (TO_call0 call45 rfl rfl (is_b 94 nt hu hnt) ?_)
  rintro v23_5 H23_5 ⟨rfl, rfl⟩
  refine TL_p (PV_assign rfl) ?_
  refine TL_nil ?_
  refine T_seq ?_
  refine T_seq ?_
  refine T_region ?_
  refine TL_p (PV_move rfl) ?_
  refine TL_nil ?_
  refine ?L1
  case L1 =>
    refine T_midS [(0, .pointer (some ⟨g, 0, none⟩)), (2, .pointer (some ⟨g1, 0, none⟩)), (4, .int .i64 (i0 : Int)), (5, .bool nt)] (rdC g s i1 :: .own g1 6 nv0.cells :: X) ?_ ?_
    · cases nt with
      | true =>
        subst hi1
        have e29 : Value.int .i64 (IntKind.i64.wrap (((i0 + 1 : Nat) : Int) + 1)) = .int .i64 ((i0 + 1 + 1 : Nat) : Int) := wr64n _ (by push_cast; rfl) (by omega)
        refine T_then rfl (by rfl) ?_
        refine T_region ?_
        refine TL_p (PV_move rfl) ?_
        refine TL_p (PV_nilCheck rfl) ?_
        refine TL_p (PV_fieldAddr (D := 1) Tryd.underlying71 rfl sz3 (by decide) rfl rfl) ?_
        refine TL_p (PV_load Tryd.underlying3 rfl rfl (Rd.at 0 rfl rfl)) ?_
        refine TL_p (PV.cast (PV_bin rfl rfl bin_add) e29) ?_
        refine TL_p (PV_nilCheck rfl) ?_
        refine TL_p (PV_fieldAddr (D := 1) Tryd.underlying71 rfl sz3 (by decide) rfl rfl) ?_
        refine TL_cons rfl (TO_store1 0 rfl rfl rfl sz3 rfl rfl rfl (by first | exact Nat.le_of_ble_eq_true rfl | (simp; done) | (simp; omega) | omega) ?_)
        refine TL_nil ?_
        refine ?L11
        case L11 => exact ⟨(by repeat (first | exact FrSub.nil _ | refine FrSub.cons rfl ?_)), Has.of_sub (by repeat (first | exact Sb.r | exact Sb.ar | exact Sb.al | apply Sb.c | apply Sb.d | refine Sb.t ?_))⟩
      | false =>
        subst hi1
        refine T_else rfl (by rfl) ?_
        refine T_skip ?_
        refine ?L21
        case L21 => exact ⟨(by repeat (first | exact FrSub.nil _ | refine FrSub.cons rfl ?_)), Has.of_sub (by repeat (first | exact Sb.r | exact Sb.ar | exact Sb.al | apply Sb.c | apply Sb.d | refine Sb.t ?_))⟩
    · refine T_seq ?_
      refine T_region ?_
      refine TL_cons rfl (TO_alloc rfl zr27 fun g3001 => ?_)
      refine TL_nil ?_
      refine T_seq ?_
      refine T_block ?_
      refine ?L31
      case L31 =>
        refine T_loopP3 (fun (n : Nat) (i : Nat) (st : S4) => i ≤ s.length ∧ s.length < i + n ∧ pClassL s i0 n i st = Res.bad p j0) (fun n _ _ => n) (fun _ _ _ => [(0, .pointer (some ⟨g, 0, none⟩)), (2, .pointer (some ⟨g1, 0, none⟩)), (4, .int .i64 (i0 : Int)), (5, .bool nt), (6, .pointer (some ⟨g3001, 0, none⟩))]) (fun _ i st => .own g3001 4 st.cells :: rdC g s i :: .own g1 6 nv0.cells :: X) (s.length + 1) i1 S4.zero ⟨hi1s.1, by omega, hcl⟩ (by repeat (first | exact FrSub.nil _ | refine FrSub.cons rfl ?_)) (Has.of_sub (by repeat (first | exact Sb.r | exact Sb.ar | exact Sb.al | apply Sb.c | apply Sb.d | refine Sb.t ?_))) ?_
        rintro n i st ⟨hi, hn, h⟩
        obtain ⟨n, rfl⟩ : ∃ k, n = k + 1 := ⟨n - 1, by omega⟩
        unfold pClassL at h
        by_cases h93 : isB s i 93 = true
        · rw [if_pos h93] at h
          cases h
        · have h93f : isB s i 93 = false := by simpa using h93
          rw [if_neg h93] at h
          cases hp : pPlain s i with
          | bad q e =>
            rw [hp] at h
            cases h
            refine T_seq ?_
            refine T_seq ?_
            refine T_region ?_
            refine TL_p (PV_move rfl) ?_
            refine TL_perm ((perm_pick (i := 1) rfl).trans (List.Perm.cons _ (List.Perm.refl _))) ?_
            refine TL_cons rfl (TO_call0 call45 rfl rfl (is_b 93 false hu h93f) ?_)
            rintro v33_4003 H33_4003 ⟨rfl, rfl⟩
            refine TL_p (PV_not rfl) ?_
            refine TL_nil ?_
            refine T_then rfl (by rfl) ?_
            refine T_skip ?_
            refine T_block ?_
            refine T_seq ?_
            refine T_region ?_
            refine TL_p (PV_move rfl) ?_
            refine TL_cons rfl (TO_call0 call64 rfl rfl (plain_bad hu hs hp) ?_)
            rintro v37_4006 H37_4006 ⟨rfl, rfl⟩
            refine TL_p (PV_move rfl) ?_
            refine TL_p (PV_extract rfl rfl) ?_
            refine TL_p (PV_extract rfl rfl) ?_
            refine TL_p (PV_assign rfl) ?_
            refine TL_p (PV_assign rfl) ?_
            refine TL_nil ?_
            refine T_seq ?_
            refine T_seq ?_
            refine T_region ?_
            refine TL_p (PV_move rfl) ?_
            refine TL_p (PV_bin rfl rfl (bin_if_nnil Tryd.underlying34)) ?_
            refine TL_nil ?_
            refine T_then rfl (by rfl) ?_
            refine T_seq ?_
            refine T_region ?_
            refine TL_p (PV_bld (cs := [_, _, _, _, _, _]) Tryd.underlying30 pl30 zr30 rfl rfl) ?_
            refine TL_p (PV_move rfl) ?_
            refine TL_cons rfl (TO_call0 call32 rfl rfl (Wrap_t _ _) ?_)
            rintro v44_4009 H44_4009 ⟨rfl, rfl⟩
            refine TL_cons rfl (TO_store 2 rfl rfl rfl sz30 rfl rfl rfl (all_one rfl) (by first | exact Nat.le_of_ble_eq_true rfl | (simp; done) | (simp; omega) | omega) ?_)
            refine TL_p (PV_assign rfl) ?_
            refine TL_nil ?_
            refine T_ret ?_
            refine ret_ret (ResV_ct rfl Tryd.underlying30 rfl sz30 rfl (Rds.take 2 rfl rfl rfl) rfl) ⟨_, ?zb4011q332, ⟨rfl, rfl⟩⟩
            case zb4011q332 => exact (by (repeat (first | exact Sb.r | exact Sb.ar | exact Sb.al | apply Sb.c | apply Sb.d | refine Sb.t ?_)); done)
            all_goals (exact ⟨_, rfl, rfl⟩)
          | ok lo j =>
            rw [hp] at h
            simp only at h
            have hj := pPlain_lt hp
            have hlo := pPlain_u8 hu hp
            have e57 : Value.string ((strOfNums s).extract j (strOfNums s).size) = .string (strOfNums (s.drop j)) := by rw [str_drop']
            have e84 : Value.int .i64 (IntKind.i64.wrap lo) = .int .i64 ((lo.toNat : Nat) : Int) := wr64n _ (by omega) (by omega)
            by_cases hr : rngB s j = true
            · rw [if_pos hr] at h
              have hr1 : isB s j 45 = true := by unfold rngB at hr; simp at hr; exact hr.1
              have hr2 : hpB (s.drop j) = false := by unfold rngB at hr; simp at hr; exact hr.2
              have hjl := (isB_lt hr1).1
              cases hp2 : pPlain s (j + 1) with
              | bad q e =>
                rw [hp2] at h
                cases h
                refine T_seq ?_
                refine T_seq ?_
                refine T_region ?_
                refine TL_p (PV_move rfl) ?_
                refine TL_perm ((perm_pick (i := 1) rfl).trans (List.Perm.cons _ (List.Perm.refl _))) ?_
                refine TL_cons rfl (TO_call0 call45 rfl rfl (is_b 93 false hu h93f) ?_)
                rintro v33_4503 H33_4503 ⟨rfl, rfl⟩
                refine TL_p (PV_not rfl) ?_
                refine TL_nil ?_
                refine T_then rfl (by rfl) ?_
                refine T_skip ?_
                refine T_block ?_
                refine T_seq ?_
                refine T_region ?_
                refine TL_p (PV_move rfl) ?_
                refine TL_cons rfl (TO_call0 call64 rfl rfl (plain_ok hu hs hp) ?_)
                rintro v37_4506 H37_4506 ⟨rfl, rfl⟩
                refine TL_p (PV_move rfl) ?_
                refine TL_p (PV_extract rfl rfl) ?_
                refine TL_p (PV_extract rfl rfl) ?_
                refine TL_p (PV_assign rfl) ?_
                refine TL_p (PV_assign rfl) ?_
                refine TL_nil ?_
                refine T_seq ?_
                refine T_seq ?_
                refine T_region ?_
                refine TL_p (PV_move rfl) ?_
                refine TL_p (PV_bin rfl rfl (bin_nil_nnil Tryd.underlying34)) ?_
                refine TL_nil ?_
                refine T_else rfl (by rfl) ?_
                refine T_skip ?_
                refine T_seq ?_
                refine T_region ?_
                refine TL_p (PV_move rfl) ?_
                refine TL_p (PV_assign rfl) ?_
                refine TL_nil ?_
                refine T_seq ?_
                refine T_seq ?_
                refine T_drawn (WH _ _ _) mixed (fun w h => h) ?_
                refine TA_p 0 rfl (by kernel_rfl) (PV_move rfl) ?_
                refine TA_one 1 (by kernel_rfl) rfl rfl (TO_call0 call45 rfl rfl (is_b 45 true hu hr1) ?_)
                rintro v47_4509 H47_4509 ⟨rfl, rfl⟩
                refine ⟨fun _ h => h, ?_⟩
                refine TA_p 2 rfl (by kernel_rfl) (PV_move rfl) ?_
                refine TA_yes (dd := (some 49)) 3 rfl (by kernel_rfl) (by kernel_rfl) (by kernel_rfl) rfl rfl rfl rfl rfl (PV_move rfl) ?_
                refine TA_yes (dd := (some 50)) 4 rfl (by kernel_rfl) (by kernel_rfl) (by kernel_rfl) rfl rfl rfl rfl rfl (PV_nilCheck rfl) ?_
                refine TA_yes (dd := (some 51)) 5 rfl (by kernel_rfl) (by kernel_rfl) (by kernel_rfl) rfl rfl rfl rfl rfl (PV_fieldAddr (D := 0) Tryd.underlying71 rfl sz9 (by decide) rfl rfl) ?_
                refine TA_yes (dd := (some 52)) 6 rfl (by kernel_rfl) (by kernel_rfl) (by kernel_rfl) rfl rfl rfl rfl rfl (PV_load Tryd.underlying9 rfl rfl (Rd.at 0 rfl rfl)) ?_
                refine TA_yes (dd := (some 53)) 7 rfl (by kernel_rfl) (by kernel_rfl) (by kernel_rfl) rfl rfl rfl rfl rfl (PV_move rfl) ?_
                refine TA_yes (dd := (some 54)) 8 rfl (by kernel_rfl) (by kernel_rfl) (by kernel_rfl) rfl rfl rfl rfl rfl (PV_nilCheck rfl) ?_
                refine TA_yes (dd := (some 55)) 9 rfl (by kernel_rfl) (by kernel_rfl) (by kernel_rfl) rfl rfl rfl rfl rfl (PV_fieldAddr (D := 1) Tryd.underlying71 rfl sz3 (by decide) rfl rfl) ?_
                refine TA_yes (dd := (some 56)) 10 rfl (by kernel_rfl) (by kernel_rfl) (by kernel_rfl) rfl rfl rfl rfl rfl (PV_load Tryd.underlying3 rfl rfl (Rd.at 0 rfl rfl)) ?_
                refine TA_yes (dd := (some 57)) 11 rfl (by kernel_rfl) (by kernel_rfl) (by kernel_rfl) rfl rfl rfl rfl rfl (PV.cast (PV_sliceStr (l := j) Tryd.underlying9 rfl ⟨_, rfl⟩ rfl (by rw [str_len]; omega) (Nat.le_refl _)) e57) ?_
                refine TA_oneYes 12 (by kernel_rfl) rfl rfl rfl rfl (TO_call0 call65 rfl rfl (hp_b hr2) ?_)
                rintro v58_4512 H58_4512 ⟨rfl, rfl⟩
                refine ⟨fun _ h => h, ?_⟩
                refine TA_yes (dd := (some 59)) 13 rfl (by kernel_rfl) (by kernel_rfl) (by kernel_rfl) rfl rfl rfl rfl rfl (PV_not rfl) ?_
                refine TA_p 14 rfl (by kernel_rfl) (PV_pickAnd rfl rfl rfl) ?_
                refine TA_done (by kernel_rfl) ?_
                refine T_then rfl (by rfl) ?_
                refine T_seq ?_
                refine T_region ?_
                refine TL_p (PV_move rfl) ?_
                refine TL_p (PV_nilCheck rfl) ?_
                refine TL_p (PV_fieldAddr (D := 1) Tryd.underlying71 rfl sz3 (by decide) rfl rfl) ?_
                refine TL_p (PV_load Tryd.underlying3 rfl rfl (Rd.at 0 rfl rfl)) ?_
                refine TL_p (PV.cast (PV_bin rfl rfl bin_add) (wr64 (by omega))) ?_
                refine TL_p (PV_nilCheck rfl) ?_
                refine TL_p (PV_fieldAddr (D := 1) Tryd.underlying71 rfl sz3 (by decide) rfl rfl) ?_
                refine TL_cons rfl (TO_store1 0 rfl rfl rfl sz3 rfl rfl rfl (by first | exact Nat.le_of_ble_eq_true rfl | (simp; done) | (simp; omega) | omega) ?_)
                refine TL_nil ?_
                refine T_seq ?_
                refine T_region ?_
                refine TL_p (PV_move rfl) ?_
                refine TL_cons rfl (TO_call0 call64 rfl rfl (plain_bad hu hs hp2) ?_)
                rintro v70_4516 H70_4516 ⟨rfl, rfl⟩
                refine TL_p (PV_move rfl) ?_
                refine TL_p (PV_extract rfl rfl) ?_
                refine TL_p (PV_extract rfl rfl) ?_
                refine TL_p (PV_assign rfl) ?_
                refine TL_p (PV_assign rfl) ?_
                refine TL_nil ?_
                refine T_seq ?_
                refine T_region ?_
                refine TL_p (PV_move rfl) ?_
                refine TL_p (PV_bin rfl rfl (bin_if_nnil Tryd.underlying34)) ?_
                refine TL_p (PV_move rfl) ?_
                refine TL_no (b := true) rfl rfl rfl rfl ?_
                refine TL_no (b := true) rfl rfl rfl rfl ?_
                refine TL_no (b := true) rfl rfl rfl rfl ?_
                refine TL_p (PV_pickT rfl (by first | assumption | rfl | (simp; done) | (simp; omega) | (simp [*]; done) | (simp [*]; omega)) rfl rfl) ?_
                refine TL_nil ?_
                refine T_then rfl (by rfl) ?_
                refine T_seq ?_
                refine T_region ?_
                refine TL_p (PV_bld (cs := [_, _, _, _, _, _]) Tryd.underlying30 pl30 zr30 rfl rfl) ?_
                refine TL_p (PV_move rfl) ?_
                refine TL_cons rfl (TO_call0 call32 rfl rfl (Wrap_t _ _) ?_)
                rintro v82_4519 H82_4519 ⟨rfl, rfl⟩
                refine TL_cons rfl (TO_store 2 rfl rfl rfl sz30 rfl rfl rfl (all_one rfl) (by first | exact Nat.le_of_ble_eq_true rfl | (simp; done) | (simp; omega) | omega) ?_)
                refine TL_p (PV_assign rfl) ?_
                refine TL_nil ?_
                refine T_ret ?_
                refine ret_ret (ResV_ct rfl Tryd.underlying30 rfl sz30 rfl (Rds.take 2 rfl rfl rfl) rfl) ⟨_, ?zb4521q353, ⟨rfl, rfl⟩⟩
                case zb4521q353 => exact (by (repeat (first | exact Sb.r | exact Sb.ar | exact Sb.al | apply Sb.c | apply Sb.d | refine Sb.t ?_)); done)
                all_goals (exact ⟨_, rfl, rfl⟩)
              | ok hi2 k =>
                rw [hp2] at h
                simp only at h
                have hk := pPlain_lt hp2
                have hh := pPlain_u8 hu hp2
                by_cases hlt : hi2 < lo
                · rw [if_pos hlt] at h
                  cases h
                  refine T_seq ?_
                  refine T_seq ?_
                  refine T_region ?_
                  refine TL_p (PV_move rfl) ?_
                  refine TL_perm ((perm_pick (i := 1) rfl).trans (List.Perm.cons _ (List.Perm.refl _))) ?_
                  refine TL_cons rfl (TO_call0 call45 rfl rfl (is_b 93 false hu h93f) ?_)
                  rintro v33_5003 H33_5003 ⟨rfl, rfl⟩
                  refine TL_p (PV_not rfl) ?_
                  refine TL_nil ?_
                  refine T_then rfl (by rfl) ?_
                  refine T_skip ?_
                  refine T_block ?_
                  refine T_seq ?_
                  refine T_region ?_
                  refine TL_p (PV_move rfl) ?_
                  refine TL_cons rfl (TO_call0 call64 rfl rfl (plain_ok hu hs hp) ?_)
                  rintro v37_5006 H37_5006 ⟨rfl, rfl⟩
                  refine TL_p (PV_move rfl) ?_
                  refine TL_p (PV_extract rfl rfl) ?_
                  refine TL_p (PV_extract rfl rfl) ?_
                  refine TL_p (PV_assign rfl) ?_
                  refine TL_p (PV_assign rfl) ?_
                  refine TL_nil ?_
                  refine T_seq ?_
                  refine T_seq ?_
                  refine T_region ?_
                  refine TL_p (PV_move rfl) ?_
                  refine TL_p (PV_bin rfl rfl (bin_nil_nnil Tryd.underlying34)) ?_
                  refine TL_nil ?_
                  refine T_else rfl (by rfl) ?_
                  refine T_skip ?_
                  refine T_seq ?_
                  refine T_region ?_
                  refine TL_p (PV_move rfl) ?_
                  refine TL_p (PV_assign rfl) ?_
                  refine TL_nil ?_
                  refine T_seq ?_
                  refine T_seq ?_
                  refine T_drawn (WH _ _ _) mixed (fun w h => h) ?_
                  refine TA_p 0 rfl (by kernel_rfl) (PV_move rfl) ?_
                  refine TA_one 1 (by kernel_rfl) rfl rfl (TO_call0 call45 rfl rfl (is_b 45 true hu hr1) ?_)
                  rintro v47_5009 H47_5009 ⟨rfl, rfl⟩
                  refine ⟨fun _ h => h, ?_⟩
                  refine TA_p 2 rfl (by kernel_rfl) (PV_move rfl) ?_
                  refine TA_yes (dd := (some 49)) 3 rfl (by kernel_rfl) (by kernel_rfl) (by kernel_rfl) rfl rfl rfl rfl rfl (PV_move rfl) ?_
                  refine TA_yes (dd := (some 50)) 4 rfl (by kernel_rfl) (by kernel_rfl) (by kernel_rfl) rfl rfl rfl rfl rfl (PV_nilCheck rfl) ?_
                  refine TA_yes (dd := (some 51)) 5 rfl (by kernel_rfl) (by kernel_rfl) (by kernel_rfl) rfl rfl rfl rfl rfl (PV_fieldAddr (D := 0) Tryd.underlying71 rfl sz9 (by decide) rfl rfl) ?_
                  refine TA_yes (dd := (some 52)) 6 rfl (by kernel_rfl) (by kernel_rfl) (by kernel_rfl) rfl rfl rfl rfl rfl (PV_load Tryd.underlying9 rfl rfl (Rd.at 0 rfl rfl)) ?_
                  refine TA_yes (dd := (some 53)) 7 rfl (by kernel_rfl) (by kernel_rfl) (by kernel_rfl) rfl rfl rfl rfl rfl (PV_move rfl) ?_
                  refine TA_yes (dd := (some 54)) 8 rfl (by kernel_rfl) (by kernel_rfl) (by kernel_rfl) rfl rfl rfl rfl rfl (PV_nilCheck rfl) ?_
                  refine TA_yes (dd := (some 55)) 9 rfl (by kernel_rfl) (by kernel_rfl) (by kernel_rfl) rfl rfl rfl rfl rfl (PV_fieldAddr (D := 1) Tryd.underlying71 rfl sz3 (by decide) rfl rfl) ?_
                  refine TA_yes (dd := (some 56)) 10 rfl (by kernel_rfl) (by kernel_rfl) (by kernel_rfl) rfl rfl rfl rfl rfl (PV_load Tryd.underlying3 rfl rfl (Rd.at 0 rfl rfl)) ?_
                  refine TA_yes (dd := (some 57)) 11 rfl (by kernel_rfl) (by kernel_rfl) (by kernel_rfl) rfl rfl rfl rfl rfl (PV.cast (PV_sliceStr (l := j) Tryd.underlying9 rfl ⟨_, rfl⟩ rfl (by rw [str_len]; omega) (Nat.le_refl _)) e57) ?_
                  refine TA_oneYes 12 (by kernel_rfl) rfl rfl rfl rfl (TO_call0 call65 rfl rfl (hp_b hr2) ?_)
                  rintro v58_5012 H58_5012 ⟨rfl, rfl⟩
                  refine ⟨fun _ h => h, ?_⟩
                  refine TA_yes (dd := (some 59)) 13 rfl (by kernel_rfl) (by kernel_rfl) (by kernel_rfl) rfl rfl rfl rfl rfl (PV_not rfl) ?_
                  refine TA_p 14 rfl (by kernel_rfl) (PV_pickAnd rfl rfl rfl) ?_
                  refine TA_done (by kernel_rfl) ?_
                  refine T_then rfl (by rfl) ?_
                  refine T_seq ?_
                  refine T_region ?_
                  refine TL_p (PV_move rfl) ?_
                  refine TL_p (PV_nilCheck rfl) ?_
                  refine TL_p (PV_fieldAddr (D := 1) Tryd.underlying71 rfl sz3 (by decide) rfl rfl) ?_
                  refine TL_p (PV_load Tryd.underlying3 rfl rfl (Rd.at 0 rfl rfl)) ?_
                  refine TL_p (PV.cast (PV_bin rfl rfl bin_add) (wr64 (by omega))) ?_
                  refine TL_p (PV_nilCheck rfl) ?_
                  refine TL_p (PV_fieldAddr (D := 1) Tryd.underlying71 rfl sz3 (by decide) rfl rfl) ?_
                  refine TL_cons rfl (TO_store1 0 rfl rfl rfl sz3 rfl rfl rfl (by first | exact Nat.le_of_ble_eq_true rfl | (simp; done) | (simp; omega) | omega) ?_)
                  refine TL_nil ?_
                  refine T_seq ?_
                  refine T_region ?_
                  refine TL_p (PV_move rfl) ?_
                  refine TL_cons rfl (TO_call0 call64 rfl rfl (plain_ok hu hs hp2) ?_)
                  rintro v70_5016 H70_5016 ⟨rfl, rfl⟩
                  refine TL_p (PV_move rfl) ?_
                  refine TL_p (PV_extract rfl rfl) ?_
                  refine TL_p (PV_extract rfl rfl) ?_
                  refine TL_p (PV_assign rfl) ?_
                  refine TL_p (PV_assign rfl) ?_
                  refine TL_nil ?_
                  refine T_seq ?_
                  refine T_region ?_
                  refine TL_p (PV_move rfl) ?_
                  refine TL_p (PV_bin rfl rfl (bin_nil_nnil Tryd.underlying34)) ?_
                  refine TL_p (PV_move rfl) ?_
                  refine TL_yes rfl rfl rfl (TO_pure rfl (PV_move rfl) ?_)
                  refine TL_yes rfl rfl rfl (TO_pure rfl (PV_move rfl) ?_)
                  refine TL_yes rfl rfl rfl (TO_pure rfl (PV_bin rfl rfl bin_lss) ?_)
                  refine TL_p (PV_pickOr rfl rfl rfl) ?_
                  refine TL_nil ?_
                  refine T_then rfl (by exact decide_eq_true (by omega)) ?_
                  refine T_seq ?_
                  refine T_region ?_
                  refine TL_p (PV_bld (cs := [_, _, _, _, _, _]) Tryd.underlying30 pl30 zr30 rfl rfl) ?_
                  refine TL_p (PV_move rfl) ?_
                  refine TL_cons rfl (TO_call0 call32 rfl rfl (Wrap_t _ _) ?_)
                  rintro v82_5019 H82_5019 ⟨rfl, rfl⟩
                  refine TL_cons rfl (TO_store 2 rfl rfl rfl sz30 rfl rfl rfl (all_one rfl) (by first | exact Nat.le_of_ble_eq_true rfl | (simp; done) | (simp; omega) | omega) ?_)
                  refine TL_p (PV_assign rfl) ?_
                  refine TL_nil ?_
                  refine T_ret ?_
                  refine ret_ret (ResV_ct rfl Tryd.underlying30 rfl sz30 rfl (Rds.take 2 rfl rfl rfl) rfl) ⟨_, ?zb5021q370, ⟨rfl, rfl⟩⟩
                  case zb5021q370 => exact (by (repeat (first | exact Sb.r | exact Sb.ar | exact Sb.al | apply Sb.c | apply Sb.d | refine Sb.t ?_)); done)
                  all_goals (exact ⟨_, rfl, rfl⟩)
                · rw [if_neg hlt] at h
                  refine T_seq ?_
                  refine T_seq ?_
                  refine T_region ?_
                  refine TL_p (PV_move rfl) ?_
                  refine TL_perm ((perm_pick (i := 1) rfl).trans (List.Perm.cons _ (List.Perm.refl _))) ?_
                  refine TL_cons rfl (TO_call0 call45 rfl rfl (is_b 93 false hu h93f) ?_)
                  rintro v33_10003 H33_10003 ⟨rfl, rfl⟩
                  refine TL_p (PV_not rfl) ?_
                  refine TL_nil ?_
                  refine T_then rfl (by rfl) ?_
                  refine T_skip ?_
                  refine T_block ?_
                  refine T_seq ?_
                  refine T_region ?_
                  refine TL_p (PV_move rfl) ?_
                  refine TL_cons rfl (TO_call0 call64 rfl rfl (plain_ok hu hs hp) ?_)
                  rintro v37_10006 H37_10006 ⟨rfl, rfl⟩
                  refine TL_p (PV_move rfl) ?_
                  refine TL_p (PV_extract rfl rfl) ?_
                  refine TL_p (PV_extract rfl rfl) ?_
                  refine TL_p (PV_assign rfl) ?_
                  refine TL_p (PV_assign rfl) ?_
                  refine TL_nil ?_
                  refine T_seq ?_
                  refine T_seq ?_
                  refine T_region ?_
                  refine TL_p (PV_move rfl) ?_
                  refine TL_p (PV_bin rfl rfl (bin_nil_nnil Tryd.underlying34)) ?_
                  refine TL_nil ?_
                  refine T_else rfl (by rfl) ?_
                  refine T_skip ?_
                  refine T_seq ?_
                  refine T_region ?_
                  refine TL_p (PV_move rfl) ?_
                  refine TL_p (PV_assign rfl) ?_
                  refine TL_nil ?_
                  refine T_seq ?_
                  refine T_seq ?_
                  refine T_drawn (WH _ _ _) mixed (fun w h => h) ?_
                  refine TA_p 0 rfl (by kernel_rfl) (PV_move rfl) ?_
                  refine TA_one 1 (by kernel_rfl) rfl rfl (TO_call0 call45 rfl rfl (is_b 45 true hu hr1) ?_)
                  rintro v47_10009 H47_10009 ⟨rfl, rfl⟩
                  refine ⟨fun _ h => h, ?_⟩
                  refine TA_p 2 rfl (by kernel_rfl) (PV_move rfl) ?_
                  refine TA_yes (dd := (some 49)) 3 rfl (by kernel_rfl) (by kernel_rfl) (by kernel_rfl) rfl rfl rfl rfl rfl (PV_move rfl) ?_
                  refine TA_yes (dd := (some 50)) 4 rfl (by kernel_rfl) (by kernel_rfl) (by kernel_rfl) rfl rfl rfl rfl rfl (PV_nilCheck rfl) ?_
                  refine TA_yes (dd := (some 51)) 5 rfl (by kernel_rfl) (by kernel_rfl) (by kernel_rfl) rfl rfl rfl rfl rfl (PV_fieldAddr (D := 0) Tryd.underlying71 rfl sz9 (by decide) rfl rfl) ?_
                  refine TA_yes (dd := (some 52)) 6 rfl (by kernel_rfl) (by kernel_rfl) (by kernel_rfl) rfl rfl rfl rfl rfl (PV_load Tryd.underlying9 rfl rfl (Rd.at 0 rfl rfl)) ?_
                  refine TA_yes (dd := (some 53)) 7 rfl (by kernel_rfl) (by kernel_rfl) (by kernel_rfl) rfl rfl rfl rfl rfl (PV_move rfl) ?_
                  refine TA_yes (dd := (some 54)) 8 rfl (by kernel_rfl) (by kernel_rfl) (by kernel_rfl) rfl rfl rfl rfl rfl (PV_nilCheck rfl) ?_
                  refine TA_yes (dd := (some 55)) 9 rfl (by kernel_rfl) (by kernel_rfl) (by kernel_rfl) rfl rfl rfl rfl rfl (PV_fieldAddr (D := 1) Tryd.underlying71 rfl sz3 (by decide) rfl rfl) ?_
                  refine TA_yes (dd := (some 56)) 10 rfl (by kernel_rfl) (by kernel_rfl) (by kernel_rfl) rfl rfl rfl rfl rfl (PV_load Tryd.underlying3 rfl rfl (Rd.at 0 rfl rfl)) ?_
                  refine TA_yes (dd := (some 57)) 11 rfl (by kernel_rfl) (by kernel_rfl) (by kernel_rfl) rfl rfl rfl rfl rfl (PV.cast (PV_sliceStr (l := j) Tryd.underlying9 rfl ⟨_, rfl⟩ rfl (by rw [str_len]; omega) (Nat.le_refl _)) e57) ?_
                  refine TA_oneYes 12 (by kernel_rfl) rfl rfl rfl rfl (TO_call0 call65 rfl rfl (hp_b hr2) ?_)
                  rintro v58_10012 H58_10012 ⟨rfl, rfl⟩
                  refine ⟨fun _ h => h, ?_⟩
                  refine TA_yes (dd := (some 59)) 13 rfl (by kernel_rfl) (by kernel_rfl) (by kernel_rfl) rfl rfl rfl rfl rfl (PV_not rfl) ?_
                  refine TA_p 14 rfl (by kernel_rfl) (PV_pickAnd rfl rfl rfl) ?_
                  refine TA_done (by kernel_rfl) ?_
                  refine T_then rfl (by rfl) ?_
                  refine T_seq ?_
                  refine T_region ?_
                  refine TL_p (PV_move rfl) ?_
                  refine TL_p (PV_nilCheck rfl) ?_
                  refine TL_p (PV_fieldAddr (D := 1) Tryd.underlying71 rfl sz3 (by decide) rfl rfl) ?_
                  refine TL_p (PV_load Tryd.underlying3 rfl rfl (Rd.at 0 rfl rfl)) ?_
                  refine TL_p (PV.cast (PV_bin rfl rfl bin_add) (wr64 (by omega))) ?_
                  refine TL_p (PV_nilCheck rfl) ?_
                  refine TL_p (PV_fieldAddr (D := 1) Tryd.underlying71 rfl sz3 (by decide) rfl rfl) ?_
                  refine TL_cons rfl (TO_store1 0 rfl rfl rfl sz3 rfl rfl rfl (by first | exact Nat.le_of_ble_eq_true rfl | (simp; done) | (simp; omega) | omega) ?_)
                  refine TL_nil ?_
                  refine T_seq ?_
                  refine T_region ?_
                  refine TL_p (PV_move rfl) ?_
                  refine TL_cons rfl (TO_call0 call64 rfl rfl (plain_ok hu hs hp2) ?_)
                  rintro v70_10016 H70_10016 ⟨rfl, rfl⟩
                  refine TL_p (PV_move rfl) ?_
                  refine TL_p (PV_extract rfl rfl) ?_
                  refine TL_p (PV_extract rfl rfl) ?_
                  refine TL_p (PV_assign rfl) ?_
                  refine TL_p (PV_assign rfl) ?_
                  refine TL_nil ?_
                  refine T_seq ?_
                  refine T_region ?_
                  refine TL_p (PV_move rfl) ?_
                  refine TL_p (PV_bin rfl rfl (bin_nil_nnil Tryd.underlying34)) ?_
                  refine TL_p (PV_move rfl) ?_
                  refine TL_yes rfl rfl rfl (TO_pure rfl (PV_move rfl) ?_)
                  refine TL_yes rfl rfl rfl (TO_pure rfl (PV_move rfl) ?_)
                  refine TL_yes rfl rfl rfl (TO_pure rfl (PV_bin rfl rfl bin_lss) ?_)
                  refine TL_p (PV_pickOr rfl rfl rfl) ?_
                  refine TL_nil ?_
                  refine T_else rfl (by exact decide_eq_false (by omega)) ?_
                  refine T_skip ?_
                  refine T_seq ?_
                  refine T_region ?_
                  refine TL_p (PV_move rfl) ?_
                  refine TL_p (PV.cast (PV_conv (by rw [Tryd.underlying5]; rfl) Tryd.underlying3 rfl) e84) ?_
                  refine TL_p (PV_assign rfl) ?_
                  refine TL_nil ?_
                  refine T_block ?_
                  refine ?L101
                  case L101 =>
                    refine T_loopP2 (fun (x : Nat) (st2 : S4) => lo.toNat ≤ x ∧ x ≤ hi2.toNat + 1 ∧ addR st2 x (hi2.toNat + 1 - x) = addR st lo.toNat (hi2.toNat + 1 - lo.toNat)) (fun x _ => hi2.toNat + 1 - x) (fun x _ => [(0, .pointer (some ⟨g, 0, none⟩)), (2, .pointer (some ⟨g1, 0, none⟩)), (4, .int .i64 (i0 : Int)), (5, .bool nt), (6, .pointer (some ⟨g3001, 0, none⟩)), (9, .int .u8 hi2), (10, .int .i64 (x : Int))]) (fun x st2 => rdC g s k :: .own g3001 4 st2.cells :: .own g1 6 nv0.cells :: X) lo.toNat st ⟨Nat.le_refl _, by omega, rfl⟩ (by repeat (first | exact FrSub.nil _ | refine FrSub.cons rfl ?_)) (Has.of_sub (by repeat (first | exact Sb.r | exact Sb.ar | exact Sb.al | apply Sb.c | apply Sb.d | refine Sb.t ?_))) ?_
                    rintro x st2 ⟨hx1, hx2, hx3⟩
                    have e87 : Value.int .i64 (IntKind.i64.wrap hi2) = .int .i64 hi2 := wr64 (by omega)
                    by_cases hx : x < hi2.toNat + 1
                    · have e93 : Value.int .u8 (IntKind.u8.wrap (x : Int)) = .int .u8 (x : Int) := wru8 (by omega)
                      refine T_seq ?_
                      refine T_seq ?_
                      refine T_region ?_
                      refine TL_p (PV_move rfl) ?_
                      refine TL_p (PV_move rfl) ?_
                      refine TL_p (PV.cast (PV_conv (by rw [Tryd.underlying5]; rfl) Tryd.underlying3 rfl) e87) ?_
                      refine TL_p (PV_bin rfl rfl bin_leq) ?_
                      refine TL_nil ?_
                      refine T_then rfl (by exact decide_eq_true (by omega)) ?_
                      refine T_skip ?_
                      refine T_seq ?_
                      refine T_block ?_
                      refine T_region ?_
                      refine TL_p (PV_loadAt Tryd.underlying27 rfl sz27 rfl (Rds.take 1 rfl rfl rfl)) ?_
                      refine TL_p (PV_move rfl) ?_
                      refine TL_p (PV.cast (PV_conv (by rw [Tryd.underlying3]; rfl) Tryd.underlying5 rfl) e93) ?_
                      refine TL_cons rfl (TO_call0 call16 rfl rfl (With_t st2 x (by omega)) ?_)
                      rintro v94_13003 H94_13003 ⟨rfl, rfl⟩
                      refine TL_cons rfl (TO_store 1 rfl rfl rfl sz27 rfl rfl rfl (all_one rfl) (by first | exact Nat.le_of_ble_eq_true rfl | (simp; done) | (simp; omega) | omega) ?_)
                      refine TL_nil ?_
                      refine T_region ?_
                      refine TL_p (PV_move rfl) ?_
                      refine TL_p (PV.cast (PV_bin rfl rfl bin_add) (wr64 (by omega))) ?_
                      refine TL_p (PV_assign rfl) ?_
                      refine TL_nil ?_
                      refine ?L131
                      all_goals (exact ⟨x + 1, st2.with_ x, ⟨by omega, by omega, by rw [← hx3, show hi2.toNat + 1 - x = (hi2.toNat + 1 - (x + 1)) + 1 by omega]; rfl⟩, by omega, (by repeat (first | exact FrSub.nil _ | refine FrSub.cons rfl ?_)), Has.of_sub (by repeat (first | exact Sb.r | exact Sb.ar | exact Sb.al | apply Sb.c | apply Sb.d | refine Sb.t ?_))⟩)
                    · have hxe : x = hi2.toNat + 1 := by omega
                      have hst : st2 = addR st lo.toNat (hi2.toNat + 1 - lo.toNat) := by rw [← hx3, hxe, Nat.sub_self]; rfl
                      refine T_seq ?_
                      refine T_seq ?_
                      refine T_region ?_
                      refine TL_p (PV_move rfl) ?_
                      refine TL_p (PV_move rfl) ?_
                      refine TL_p (PV.cast (PV_conv (by rw [Tryd.underlying5]; rfl) Tryd.underlying3 rfl) e87) ?_
                      refine TL_p (PV_bin rfl rfl bin_leq) ?_
                      refine TL_nil ?_
                      refine T_else rfl (by exact decide_eq_false (by omega)) ?_
                      refine T_exit ?_
                      refine ?L161
                      all_goals (exact ⟨n, k, st2, ⟨by omega, by omega, by rw [hst]; exact h⟩, by omega, (by repeat (first | exact FrSub.nil _ | refine FrSub.cons rfl ?_)), Has.of_perm ((perm_pick (i := 1) rfl).trans (List.Perm.cons _ ((perm_pick (i := 0) rfl).trans (List.Perm.cons _ (List.Perm.refl _))))) (by repeat (first | exact Sb.r | exact Sb.ar | exact Sb.al | apply Sb.c | apply Sb.d | refine Sb.t ?_))⟩)
            · have hrf : rngB s j = false := by simpa using hr
              rw [if_neg hr] at h
              rcases Bool.eq_false_or_eq_true (isB s j 45) with h45 | h45
              · have h46 : hpB (s.drop j) = true := by unfold rngB at hrf; rw [h45] at hrf; simpa using hrf
                have hjl := (isB_lt h45).1
                refine T_seq ?_
                refine T_seq ?_
                refine T_region ?_
                refine TL_p (PV_move rfl) ?_
                refine TL_perm ((perm_pick (i := 1) rfl).trans (List.Perm.cons _ (List.Perm.refl _))) ?_
                refine TL_cons rfl (TO_call0 call45 rfl rfl (is_b 93 false hu h93f) ?_)
                rintro v33_30003 H33_30003 ⟨rfl, rfl⟩
                refine TL_p (PV_not rfl) ?_
                refine TL_nil ?_
                refine T_then rfl (by rfl) ?_
                refine T_skip ?_
                refine T_block ?_
                refine T_seq ?_
                refine T_region ?_
                refine TL_p (PV_move rfl) ?_
                refine TL_cons rfl (TO_call0 call64 rfl rfl (plain_ok hu hs hp) ?_)
                rintro v37_30006 H37_30006 ⟨rfl, rfl⟩
                refine TL_p (PV_move rfl) ?_
                refine TL_p (PV_extract rfl rfl) ?_
                refine TL_p (PV_extract rfl rfl) ?_
                refine TL_p (PV_assign rfl) ?_
                refine TL_p (PV_assign rfl) ?_
                refine TL_nil ?_
                refine T_seq ?_
                refine T_seq ?_
                refine T_region ?_
                refine TL_p (PV_move rfl) ?_
                refine TL_p (PV_bin rfl rfl (bin_nil_nnil Tryd.underlying34)) ?_
                refine TL_nil ?_
                refine T_else rfl (by rfl) ?_
                refine T_skip ?_
                refine T_seq ?_
                refine T_region ?_
                refine TL_p (PV_move rfl) ?_
                refine TL_p (PV_assign rfl) ?_
                refine TL_nil ?_
                refine T_seq ?_
                refine T_seq ?_
                refine T_drawn (WH _ _ _) mixed (fun w h => h) ?_
                refine TA_p 0 rfl (by kernel_rfl) (PV_move rfl) ?_
                refine TA_one 1 (by kernel_rfl) rfl rfl (TO_call0 call45 rfl rfl (is_b 45 true hu h45) ?_)
                rintro v47_30009 H47_30009 ⟨rfl, rfl⟩
                refine ⟨fun _ h => h, ?_⟩
                refine TA_p 2 rfl (by kernel_rfl) (PV_move rfl) ?_
                refine TA_yes (dd := (some 49)) 3 rfl (by kernel_rfl) (by kernel_rfl) (by kernel_rfl) rfl rfl rfl rfl rfl (PV_move rfl) ?_
                refine TA_yes (dd := (some 50)) 4 rfl (by kernel_rfl) (by kernel_rfl) (by kernel_rfl) rfl rfl rfl rfl rfl (PV_nilCheck rfl) ?_
                refine TA_yes (dd := (some 51)) 5 rfl (by kernel_rfl) (by kernel_rfl) (by kernel_rfl) rfl rfl rfl rfl rfl (PV_fieldAddr (D := 0) Tryd.underlying71 rfl sz9 (by decide) rfl rfl) ?_
                refine TA_yes (dd := (some 52)) 6 rfl (by kernel_rfl) (by kernel_rfl) (by kernel_rfl) rfl rfl rfl rfl rfl (PV_load Tryd.underlying9 rfl rfl (Rd.at 0 rfl rfl)) ?_
                refine TA_yes (dd := (some 53)) 7 rfl (by kernel_rfl) (by kernel_rfl) (by kernel_rfl) rfl rfl rfl rfl rfl (PV_move rfl) ?_
                refine TA_yes (dd := (some 54)) 8 rfl (by kernel_rfl) (by kernel_rfl) (by kernel_rfl) rfl rfl rfl rfl rfl (PV_nilCheck rfl) ?_
                refine TA_yes (dd := (some 55)) 9 rfl (by kernel_rfl) (by kernel_rfl) (by kernel_rfl) rfl rfl rfl rfl rfl (PV_fieldAddr (D := 1) Tryd.underlying71 rfl sz3 (by decide) rfl rfl) ?_
                refine TA_yes (dd := (some 56)) 10 rfl (by kernel_rfl) (by kernel_rfl) (by kernel_rfl) rfl rfl rfl rfl rfl (PV_load Tryd.underlying3 rfl rfl (Rd.at 0 rfl rfl)) ?_
                refine TA_yes (dd := (some 57)) 11 rfl (by kernel_rfl) (by kernel_rfl) (by kernel_rfl) rfl rfl rfl rfl rfl (PV.cast (PV_sliceStr (l := j) Tryd.underlying9 rfl ⟨_, rfl⟩ rfl (by rw [str_len]; omega) (Nat.le_refl _)) e57) ?_
                refine TA_oneYes 12 (by kernel_rfl) rfl rfl rfl rfl (TO_call0 call65 rfl rfl (hp_b h46) ?_)
                rintro v58_30012 H58_30012 ⟨rfl, rfl⟩
                refine ⟨fun _ h => h, ?_⟩
                refine TA_yes (dd := (some 59)) 13 rfl (by kernel_rfl) (by kernel_rfl) (by kernel_rfl) rfl rfl rfl rfl rfl (PV_not rfl) ?_
                refine TA_p 14 rfl (by kernel_rfl) (PV_pickAnd rfl rfl rfl) ?_
                refine TA_done (by kernel_rfl) ?_
                refine T_else rfl (by rfl) ?_
                refine T_skip ?_
                refine T_seq ?_
                refine T_region ?_
                refine TL_p (PV_move rfl) ?_
                refine TL_p (PV.cast (PV_conv (by rw [Tryd.underlying5]; rfl) Tryd.underlying3 rfl) e84) ?_
                refine TL_p (PV_assign rfl) ?_
                refine TL_nil ?_
                refine T_block ?_
                refine ?L301
                case L301 =>
                  refine T_loopP2 (fun (x : Nat) (st2 : S4) => lo.toNat ≤ x ∧ x ≤ lo.toNat + 1 ∧ addR st2 x (lo.toNat + 1 - x) = addR st lo.toNat (lo.toNat + 1 - lo.toNat)) (fun x _ => lo.toNat + 1 - x) (fun x _ => [(0, .pointer (some ⟨g, 0, none⟩)), (2, .pointer (some ⟨g1, 0, none⟩)), (4, .int .i64 (i0 : Int)), (5, .bool nt), (6, .pointer (some ⟨g3001, 0, none⟩)), (9, .int .u8 lo), (10, .int .i64 (x : Int))]) (fun x st2 => rdC g s j :: .own g3001 4 st2.cells :: .own g1 6 nv0.cells :: X) lo.toNat st ⟨Nat.le_refl _, by omega, rfl⟩ (by repeat (first | exact FrSub.nil _ | refine FrSub.cons rfl ?_)) (Has.of_sub (by repeat (first | exact Sb.r | exact Sb.ar | exact Sb.al | apply Sb.c | apply Sb.d | refine Sb.t ?_))) ?_
                  rintro x st2 ⟨hx1, hx2, hx3⟩
                  have e87 : Value.int .i64 (IntKind.i64.wrap lo) = .int .i64 lo := wr64 (by omega)
                  by_cases hx : x < lo.toNat + 1
                  · have e93 : Value.int .u8 (IntKind.u8.wrap (x : Int)) = .int .u8 (x : Int) := wru8 (by omega)
                    refine T_seq ?_
                    refine T_seq ?_
                    refine T_region ?_
                    refine TL_p (PV_move rfl) ?_
                    refine TL_p (PV_move rfl) ?_
                    refine TL_p (PV.cast (PV_conv (by rw [Tryd.underlying5]; rfl) Tryd.underlying3 rfl) e87) ?_
                    refine TL_p (PV_bin rfl rfl bin_leq) ?_
                    refine TL_nil ?_
                    refine T_then rfl (by exact decide_eq_true (by omega)) ?_
                    refine T_skip ?_
                    refine T_seq ?_
                    refine T_block ?_
                    refine T_region ?_
                    refine TL_p (PV_loadAt Tryd.underlying27 rfl sz27 rfl (Rds.take 1 rfl rfl rfl)) ?_
                    refine TL_p (PV_move rfl) ?_
                    refine TL_p (PV.cast (PV_conv (by rw [Tryd.underlying3]; rfl) Tryd.underlying5 rfl) e93) ?_
                    refine TL_cons rfl (TO_call0 call16 rfl rfl (With_t st2 x (by omega)) ?_)
                    rintro v94_33003 H94_33003 ⟨rfl, rfl⟩
                    refine TL_cons rfl (TO_store 1 rfl rfl rfl sz27 rfl rfl rfl (all_one rfl) (by first | exact Nat.le_of_ble_eq_true rfl | (simp; done) | (simp; omega) | omega) ?_)
                    refine TL_nil ?_
                    refine T_region ?_
                    refine TL_p (PV_move rfl) ?_
                    refine TL_p (PV.cast (PV_bin rfl rfl bin_add) (wr64 (by omega))) ?_
                    refine TL_p (PV_assign rfl) ?_
                    refine TL_nil ?_
                    refine ?L331
                    all_goals (exact ⟨x + 1, st2.with_ x, ⟨by omega, by omega, by rw [← hx3, show lo.toNat + 1 - x = (lo.toNat + 1 - (x + 1)) + 1 by omega]; rfl⟩, by omega, (by repeat (first | exact FrSub.nil _ | refine FrSub.cons rfl ?_)), Has.of_sub (by repeat (first | exact Sb.r | exact Sb.ar | exact Sb.al | apply Sb.c | apply Sb.d | refine Sb.t ?_))⟩)
                  · have hxe : x = lo.toNat + 1 := by omega
                    have hst : st2 = addR st lo.toNat (lo.toNat + 1 - lo.toNat) := by rw [← hx3, hxe, Nat.sub_self]; rfl
                    refine T_seq ?_
                    refine T_seq ?_
                    refine T_region ?_
                    refine TL_p (PV_move rfl) ?_
                    refine TL_p (PV_move rfl) ?_
                    refine TL_p (PV.cast (PV_conv (by rw [Tryd.underlying5]; rfl) Tryd.underlying3 rfl) e87) ?_
                    refine TL_p (PV_bin rfl rfl bin_leq) ?_
                    refine TL_nil ?_
                    refine T_else rfl (by exact decide_eq_false (by omega)) ?_
                    refine T_exit ?_
                    refine ?L361
                    all_goals (exact ⟨n, j, st2, ⟨by omega, by omega, by rw [hst]; exact h⟩, by omega, (by repeat (first | exact FrSub.nil _ | refine FrSub.cons rfl ?_)), Has.of_perm ((perm_pick (i := 1) rfl).trans (List.Perm.cons _ ((perm_pick (i := 0) rfl).trans (List.Perm.cons _ (List.Perm.refl _))))) (by repeat (first | exact Sb.r | exact Sb.ar | exact Sb.al | apply Sb.c | apply Sb.d | refine Sb.t ?_))⟩)
              · refine T_seq ?_
                refine T_seq ?_
                refine T_region ?_
                refine TL_p (PV_move rfl) ?_
                refine TL_perm ((perm_pick (i := 1) rfl).trans (List.Perm.cons _ (List.Perm.refl _))) ?_
                refine TL_cons rfl (TO_call0 call45 rfl rfl (is_b 93 false hu h93f) ?_)
                rintro v33_50003 H33_50003 ⟨rfl, rfl⟩
                refine TL_p (PV_not rfl) ?_
                refine TL_nil ?_
                refine T_then rfl (by rfl) ?_
                refine T_skip ?_
                refine T_block ?_
                refine T_seq ?_
                refine T_region ?_
                refine TL_p (PV_move rfl) ?_
                refine TL_cons rfl (TO_call0 call64 rfl rfl (plain_ok hu hs hp) ?_)
                rintro v37_50006 H37_50006 ⟨rfl, rfl⟩
                refine TL_p (PV_move rfl) ?_
                refine TL_p (PV_extract rfl rfl) ?_
                refine TL_p (PV_extract rfl rfl) ?_
                refine TL_p (PV_assign rfl) ?_
                refine TL_p (PV_assign rfl) ?_
                refine TL_nil ?_
                refine T_seq ?_
                refine T_seq ?_
                refine T_region ?_
                refine TL_p (PV_move rfl) ?_
                refine TL_p (PV_bin rfl rfl (bin_nil_nnil Tryd.underlying34)) ?_
                refine TL_nil ?_
                refine T_else rfl (by rfl) ?_
                refine T_skip ?_
                refine T_seq ?_
                refine T_region ?_
                refine TL_p (PV_move rfl) ?_
                refine TL_p (PV_assign rfl) ?_
                refine TL_nil ?_
                refine T_seq ?_
                refine T_seq ?_
                refine T_drawn (WH _ _ _) mixed (fun w h => h) ?_
                refine TA_p 0 rfl (by kernel_rfl) (PV_move rfl) ?_
                refine TA_one 1 (by kernel_rfl) rfl rfl (TO_call0 call45 rfl rfl (is_b 45 false hu h45) ?_)
                rintro v47_50009 H47_50009 ⟨rfl, rfl⟩
                refine ⟨fun _ h => h, ?_⟩
                refine TA_p 2 rfl (by kernel_rfl) (PV_move rfl) ?_
                refine TA_no (dd := (some 49)) (b := false) 3 rfl (by kernel_rfl) (by kernel_rfl) (by kernel_rfl) rfl rfl rfl rfl rfl ?_
                refine TA_no (dd := (some 50)) (b := false) 4 rfl (by kernel_rfl) (by kernel_rfl) (by kernel_rfl) rfl rfl rfl rfl rfl ?_
                refine TA_no (dd := (some 51)) (b := false) 5 rfl (by kernel_rfl) (by kernel_rfl) (by kernel_rfl) rfl rfl rfl rfl rfl ?_
                refine TA_no (dd := (some 52)) (b := false) 6 rfl (by kernel_rfl) (by kernel_rfl) (by kernel_rfl) rfl rfl rfl rfl rfl ?_
                refine TA_no (dd := (some 53)) (b := false) 7 rfl (by kernel_rfl) (by kernel_rfl) (by kernel_rfl) rfl rfl rfl rfl rfl ?_
                refine TA_no (dd := (some 54)) (b := false) 8 rfl (by kernel_rfl) (by kernel_rfl) (by kernel_rfl) rfl rfl rfl rfl rfl ?_
                refine TA_no (dd := (some 55)) (b := false) 9 rfl (by kernel_rfl) (by kernel_rfl) (by kernel_rfl) rfl rfl rfl rfl rfl ?_
                refine TA_no (dd := (some 56)) (b := false) 10 rfl (by kernel_rfl) (by kernel_rfl) (by kernel_rfl) rfl rfl rfl rfl rfl ?_
                refine TA_no (dd := (some 57)) (b := false) 11 rfl (by kernel_rfl) (by kernel_rfl) (by kernel_rfl) rfl rfl rfl rfl rfl ?_
                refine TA_no (dd := (some 58)) (b := false) 12 rfl (by kernel_rfl) (by kernel_rfl) (by kernel_rfl) rfl rfl rfl rfl rfl ?_
                refine TA_no (dd := (some 59)) (b := false) 13 rfl (by kernel_rfl) (by kernel_rfl) (by kernel_rfl) rfl rfl rfl rfl rfl ?_
                refine TA_p 14 rfl (by kernel_rfl) (PV_pickF rfl (by first | assumption | rfl | (simp; done) | (simp; omega) | (simp [*]; done) | (simp [*]; omega)) rfl rfl) ?_
                refine TA_done (by kernel_rfl) ?_
                refine T_else rfl (by rfl) ?_
                refine T_skip ?_
                refine T_seq ?_
                refine T_region ?_
                refine TL_p (PV_move rfl) ?_
                refine TL_p (PV.cast (PV_conv (by rw [Tryd.underlying5]; rfl) Tryd.underlying3 rfl) e84) ?_
                refine TL_p (PV_assign rfl) ?_
                refine TL_nil ?_
                refine T_block ?_
                refine ?L501
                case L501 =>
                  refine T_loopP2 (fun (x : Nat) (st2 : S4) => lo.toNat ≤ x ∧ x ≤ lo.toNat + 1 ∧ addR st2 x (lo.toNat + 1 - x) = addR st lo.toNat (lo.toNat + 1 - lo.toNat)) (fun x _ => lo.toNat + 1 - x) (fun x _ => [(0, .pointer (some ⟨g, 0, none⟩)), (2, .pointer (some ⟨g1, 0, none⟩)), (4, .int .i64 (i0 : Int)), (5, .bool nt), (6, .pointer (some ⟨g3001, 0, none⟩)), (9, .int .u8 lo), (10, .int .i64 (x : Int))]) (fun x st2 => rdC g s j :: .own g3001 4 st2.cells :: .own g1 6 nv0.cells :: X) lo.toNat st ⟨Nat.le_refl _, by omega, rfl⟩ (by repeat (first | exact FrSub.nil _ | refine FrSub.cons rfl ?_)) (Has.of_sub (by repeat (first | exact Sb.r | exact Sb.ar | exact Sb.al | apply Sb.c | apply Sb.d | refine Sb.t ?_))) ?_
                  rintro x st2 ⟨hx1, hx2, hx3⟩
                  have e87 : Value.int .i64 (IntKind.i64.wrap lo) = .int .i64 lo := wr64 (by omega)
                  by_cases hx : x < lo.toNat + 1
                  · have e93 : Value.int .u8 (IntKind.u8.wrap (x : Int)) = .int .u8 (x : Int) := wru8 (by omega)
                    refine T_seq ?_
                    refine T_seq ?_
                    refine T_region ?_
                    refine TL_p (PV_move rfl) ?_
                    refine TL_p (PV_move rfl) ?_
                    refine TL_p (PV.cast (PV_conv (by rw [Tryd.underlying5]; rfl) Tryd.underlying3 rfl) e87) ?_
                    refine TL_p (PV_bin rfl rfl bin_leq) ?_
                    refine TL_nil ?_
                    refine T_then rfl (by exact decide_eq_true (by omega)) ?_
                    refine T_skip ?_
                    refine T_seq ?_
                    refine T_block ?_
                    refine T_region ?_
                    refine TL_p (PV_loadAt Tryd.underlying27 rfl sz27 rfl (Rds.take 1 rfl rfl rfl)) ?_
                    refine TL_p (PV_move rfl) ?_
                    refine TL_p (PV.cast (PV_conv (by rw [Tryd.underlying3]; rfl) Tryd.underlying5 rfl) e93) ?_
                    refine TL_cons rfl (TO_call0 call16 rfl rfl (With_t st2 x (by omega)) ?_)
                    rintro v94_53003 H94_53003 ⟨rfl, rfl⟩
                    refine TL_cons rfl (TO_store 1 rfl rfl rfl sz27 rfl rfl rfl (all_one rfl) (by first | exact Nat.le_of_ble_eq_true rfl | (simp; done) | (simp; omega) | omega) ?_)
                    refine TL_nil ?_
                    refine T_region ?_
                    refine TL_p (PV_move rfl) ?_
                    refine TL_p (PV.cast (PV_bin rfl rfl bin_add) (wr64 (by omega))) ?_
                    refine TL_p (PV_assign rfl) ?_
                    refine TL_nil ?_
                    refine ?L531
                    all_goals (exact ⟨x + 1, st2.with_ x, ⟨by omega, by omega, by rw [← hx3, show lo.toNat + 1 - x = (lo.toNat + 1 - (x + 1)) + 1 by omega]; rfl⟩, by omega, (by repeat (first | exact FrSub.nil _ | refine FrSub.cons rfl ?_)), Has.of_sub (by repeat (first | exact Sb.r | exact Sb.ar | exact Sb.al | apply Sb.c | apply Sb.d | refine Sb.t ?_))⟩)
                  · have hxe : x = lo.toNat + 1 := by omega
                    have hst : st2 = addR st lo.toNat (lo.toNat + 1 - lo.toNat) := by rw [← hx3, hxe, Nat.sub_self]; rfl
                    refine T_seq ?_
                    refine T_seq ?_
                    refine T_region ?_
                    refine TL_p (PV_move rfl) ?_
                    refine TL_p (PV_move rfl) ?_
                    refine TL_p (PV.cast (PV_conv (by rw [Tryd.underlying5]; rfl) Tryd.underlying3 rfl) e87) ?_
                    refine TL_p (PV_bin rfl rfl bin_leq) ?_
                    refine TL_nil ?_
                    refine T_else rfl (by exact decide_eq_false (by omega)) ?_
                    refine T_exit ?_
                    refine ?L561
                    all_goals (exact ⟨n, j, st2, ⟨by omega, by omega, by rw [hst]; exact h⟩, by omega, (by repeat (first | exact FrSub.nil _ | refine FrSub.cons rfl ?_)), Has.of_perm ((perm_pick (i := 1) rfl).trans (List.Perm.cons _ ((perm_pick (i := 0) rfl).trans (List.Perm.cons _ (List.Perm.refl _))))) (by repeat (first | exact Sb.r | exact Sb.ar | exact Sb.al | apply Sb.c | apply Sb.d | refine Sb.t ?_))⟩)
end
end Go.Proofs.YtijpbpnfachlkaaDoor.SL
