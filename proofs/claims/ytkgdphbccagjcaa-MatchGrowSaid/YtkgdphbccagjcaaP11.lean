import Derived.Test.YtkgdphbccagjcaaP10
/- Any number of any bytes. No statement is proved here. -/
set_option linter.unusedVariables false
set_option linter.unusedSimpArgs false
set_option maxRecDepth 100000
set_option maxHeartbeats 8000000
namespace Go.Proofs.Ytkgdphbccagjcaa.SL
open Go Go.RowKit
section
variable {w0 : World} {B : Nat} {H X : List Chunk}
theorem pstar : ∃ st j, pParse [46, 42] = .ok (.star (.one st)) j ∧ (∀ c, c < 100 → 97 ≤ c → st.has c = true) := ⟨_, _, rfl, by decide⟩
theorem pplus : ∃ t j, pParse [98, 43] = .ok t j ∧ firstT (endsL [97, 97, 98, 98] t (upto 5 5)) 5 0 = some 3 := ⟨_, _, rfl, by decide +kernel⟩
def shL (n : Nat) (o : List Bool) : List Bool := (List.range (n + 1)).map fun j => match j with
  | 0 => false
  | k + 1 => o.getD k false
theorem all_ends : ∀ n, n < 15 → ∀ f, f < n + 1 → idxT (manyL (shL n) (n + 2) (startL f (n + 1))) (n + 1) = (List.range (n - f + 1)).map fun k => ((f + k : Nat) : Int) := by decide +kernel
theorem all_first : ∀ n, n < 15 → firstT (manyL (shL n) (n + 2) (upto (n + 1) (n + 1))) (n + 1) 0 = some 0 := by decide +kernel
theorem oneL_all {st : S4} {s : List Int} (h : ∀ k, k < s.length → st.has (rd s k).toNat = true) : (fun o => endsL s (.one st) o) = shL s.length := by
  funext o
  show oneL st s o s.length = shL s.length o
  unfold oneL shL
  apply List.map_congr_left
  intro j hj
  have hj := List.mem_range.1 hj
  rw [if_pos (by omega)]
  cases j with
  | zero => rfl
  | succ k => simp [oneAt, h k (by omega)]
theorem star_all {st : S4} {s : List Int} (h : ∀ k, k < s.length → st.has (rd s k).toNat = true) (o : List Bool) : endsL s (.star (.one st)) o = manyL (shL s.length) (s.length + 2) o := by
  show manyL (endsL s (.one st)) (s.length + 2) o = _
  rw [show endsL s (.one st) = shL s.length from oneL_all h]
def txt (l : List Int) : Nat → List Int
  | 0 => []
  | i + 1 => if i < 14 then txt l i ++ [97 + Int.tmod (rd l i) 3] else txt l i
theorem txt_len (l : List Int) : ∀ i, (txt l i).length = min i 14
  | 0 => rfl
  | i + 1 => by
    have := txt_len l i
    unfold txt
    split
    · simp only [List.length_append, List.length_cons, List.length_nil]; omega
    · omega
theorem txt_mem {l : List Int} (hu : U8s l) : ∀ (i : Nat), ∀ x ∈ txt l i, 97 ≤ x ∧ x < 100
  | 0, x, h => by simp [txt] at h
  | i + 1, x, h => by
    have ih := txt_mem hu i
    unfold txt at h
    split at h
    · rcases List.mem_append.1 h with h | h
      · exact ih x h
      · have hx := hu.at_ (i : Int)
        have : x = 97 + Int.tmod (rd l i) 3 := by simpa using h
        have h1 := Int.tmod_nonneg 3 hx.1
        have h2 := Int.tmod_lt_of_pos (rd l i) (show (0 : Int) < 3 by omega)
        omega
    · exact ih x h
theorem Text_t {A : Option Addr} {m c : Nat} {l : List Int} (hS : Shows (WH w0 B H) A m 1 (nums .u8 l)) (hlm : l.length = m) (hl : m ≤ 9223372036854775807) (hc : m ≤ c) (hu : U8s l) : TCall Try.prog w0 B 20 #[.slice A m c] (fun r H' => r = .string (strOfNums (txt l m)) ∧ H' = H) H := by
  subst hlm
  refine TCall_intro (args := [_]) Try.func20 rfl Try.ntmps20 (Nat.le_of_ble_eq_true rfl) ?_
  refine T_seq ?_
  refine T_region ?_
  refine TL_pure (d := (some 2)) rfl rfl rfl (PV_assign rfl) ?_
  refine TL_nil ?_
  refine T_seq ?_
  refine T_region ?_
  refine TL_pure (d := (some 3)) rfl rfl rfl (PV_assign rfl) ?_
  refine TL_nil ?_
  refine T_seq ?_
  refine T_seq ?_
  refine T_region ?_
  refine TL_pure (d := (some 6)) rfl rfl rfl (PV_move rfl) ?_
  refine TL_pure (d := (some 7)) rfl rfl rfl (PV_len_slice Try.underlying22 rfl) ?_
  refine TL_pure (d := (some 8)) rfl rfl rfl (PV_move rfl) ?_
  refine TL_nil ?_
  refine T_block ?_
  refine ?L1
  case L1 =>
    refine T_loopP1 (fun (i : Nat) => i ≤ l.length) (fun i => l.length - i) (fun i => [(3, .string (strOfNums (txt l i))), (6, .slice A l.length c), (7, .int .i64 (l.length : Int)), (8, .int .i64 (i : Int))]) (fun i => H) 0 (Nat.zero_le _) (by repeat (first | exact FrSub.nil _ | refine FrSub.cons rfl ?_)) (Has.of_sub (by repeat (first | exact List.Sublist.refl _ | exact List.sublist_append_right _ _ | exact List.sublist_append_left _ _ | apply List.Sublist.cons_cons | apply List.Sublist.cons | refine List.Sublist.trans ?_ (List.sublist_append_left _ _)))) ?_
    intro i hi
    by_cases hil : i < l.length
    · refine T_shows hS (by simp [nums]; omega) fun g o hA hrd => ?_
      subst hA
      have hr : Rd _ ⟨g, o + i * 1, none⟩ (.int .u8 (rd l i)) := hrd (i * 1) _ (nums_at' i (by omega) hil)
      have e23 : Value.int .i64 (IntKind.i64.wrap ((i : Int) + 1)) = .int .i64 ((i + 1 : Nat) : Int) := wr64n _ (by push_cast; rfl) (by omega)
      have hx := hu.at_ (i : Int)
      have h1 := Int.tmod_nonneg 3 hx.1
      have h2 := Int.tmod_lt_of_pos (rd l i) (show (0 : Int) < 3 by omega)
      obtain ⟨q, hq⟩ : ∃ q, Int.tmod (rd l i) 3 = q := ⟨_, rfl⟩
      rw [hq] at h1 h2
      by_cases h14 : i < 14
      · have hst : txt l (i + 1) = txt l i ++ [97 + q] := by conv => { lhs; unfold txt }; rw [if_pos h14, hq]
        have hor : q = 0 ∨ q = 1 ∨ q = 2 := by omega
        rcases hor with rfl | rfl | rfl
        · have e17 : Value.int .u8 (Int.tmod (rd l i) 3) = .int .u8 0 := by rw [hq]
          have e20 : Value.int .u8 (IntKind.u8.wrap (0 + 1)) = .int .u8 1 := rfl
          have e21 : Value.string ((⟨#[97, 98, 99]⟩ : ByteArray).extract 0 1) = .string (strOfNums [97]) := by kernel_rfl
          have e22 : Value.string (strOfNums (txt l i) ++ strOfNums [97]) = .string (strOfNums (txt l (i + 1))) := by rw [str_app, hst]; rfl
          have hb22 : (strOfNums (txt l i)).size + (strOfNums [97]).size ≤ 9223372036854775807 := by
            rw [str_len, str_len, txt_len]
            show min i 14 + 1 ≤ _
            omega
          refine T_seq ?_
          refine T_region ?_
          refine TL_pure (d := (some 9)) rfl rfl rfl (PV_bin rfl rfl bin_lss) ?_
          refine TL_nil ?_
          refine T_seq ?_
          refine T_then rfl (by exact decide_eq_true (by omega)) ?_
          refine T_skip ?_
          refine T_seq ?_
          refine T_block ?_
          refine T_seq ?_
          refine T_region ?_
          refine TL_pure (d := (some 10)) rfl rfl rfl (PV_move rfl) ?_
          refine TL_pure (d := (some 11)) rfl rfl rfl (PV_indexAddr Try.underlying22 sz5 rfl rfl rfl (by first | omega | decide | assumption)) ?_
          refine TL_pure (d := (some 12)) rfl rfl rfl (PV_load Try.underlying5 rfl rfl hr) ?_
          refine TL_pure (d := (some 4)) rfl rfl rfl (PV_assign rfl) ?_
          refine TL_pure (d := (some 5)) rfl rfl rfl (PV_assign rfl) ?_
          refine TL_nil ?_
          refine T_seq ?_
          refine T_region ?_
          refine TL_pure (d := (some 13)) rfl rfl rfl (PV_move rfl) ?_
          refine TL_pure (d := (some 14)) rfl rfl rfl (PV_bin rfl rfl bin_lss) ?_
          refine TL_nil ?_
          refine T_then rfl (by exact decide_eq_true (by omega)) ?_
          refine T_region ?_
          refine TL_pure (d := (some 15)) rfl rfl rfl (PV_move rfl) ?_
          refine TL_pure (d := (some 16)) rfl rfl rfl (PV_move rfl) ?_
          refine TL_pure (d := (some 17)) rfl rfl rfl (PV.cast (PV_bin rfl rfl (bin_rem (by decide))) e17) ?_
          refine TL_pure (d := (some 18)) rfl rfl rfl (PV_move rfl) ?_
          refine TL_pure (d := (some 19)) rfl rfl rfl (PV.cast (PV_bin rfl rfl (bin_rem (by decide))) e17) ?_
          refine TL_pure (d := (some 20)) rfl rfl rfl (PV.cast (PV_bin rfl rfl bin_add) e20) ?_
          refine TL_pure (d := (some 21)) rfl rfl rfl (PV.cast (PV_sliceStr (l := 0) (h := 1) Try.underlying9 rfl ⟨_, rfl⟩ ⟨_, rfl⟩ (by decide) (by decide)) e21) ?_
          refine TL_pure (d := (some 22)) rfl rfl rfl (PV.cast (PV_bin rfl rfl (bin_str_add hb22)) e22) ?_
          refine TL_pure (d := (some 3)) rfl rfl rfl (PV_assign rfl) ?_
          refine TL_nil ?_
          refine T_region ?_
          refine TL_pure (d := (some 23)) rfl rfl rfl (PV.cast (PV_bin rfl rfl bin_add) e23) ?_
          refine TL_pure (d := (some 8)) rfl rfl rfl (PV_move rfl) ?_
          refine TL_nil ?_
          refine ?L201
          case L201 =>
            exact ⟨i + 1, by omega, by omega, (by repeat (first | exact FrSub.nil _ | refine FrSub.cons rfl ?_)), Has.of_sub (by repeat (first | exact List.Sublist.refl _ | exact List.sublist_append_right _ _ | exact List.sublist_append_left _ _ | apply List.Sublist.cons_cons | apply List.Sublist.cons | refine List.Sublist.trans ?_ (List.sublist_append_left _ _)))⟩
        · have e17 : Value.int .u8 (Int.tmod (rd l i) 3) = .int .u8 1 := by rw [hq]
          have e20 : Value.int .u8 (IntKind.u8.wrap (1 + 1)) = .int .u8 2 := rfl
          have e21 : Value.string ((⟨#[97, 98, 99]⟩ : ByteArray).extract 1 2) = .string (strOfNums [98]) := by kernel_rfl
          have e22 : Value.string (strOfNums (txt l i) ++ strOfNums [98]) = .string (strOfNums (txt l (i + 1))) := by rw [str_app, hst]; rfl
          have hb22 : (strOfNums (txt l i)).size + (strOfNums [98]).size ≤ 9223372036854775807 := by
            rw [str_len, str_len, txt_len]
            show min i 14 + 1 ≤ _
            omega
          refine T_seq ?_
          refine T_region ?_
          refine TL_pure (d := (some 9)) rfl rfl rfl (PV_bin rfl rfl bin_lss) ?_
          refine TL_nil ?_
          refine T_seq ?_
          refine T_then rfl (by exact decide_eq_true (by omega)) ?_
          refine T_skip ?_
          refine T_seq ?_
          refine T_block ?_
          refine T_seq ?_
          refine T_region ?_
          refine TL_pure (d := (some 10)) rfl rfl rfl (PV_move rfl) ?_
          refine TL_pure (d := (some 11)) rfl rfl rfl (PV_indexAddr Try.underlying22 sz5 rfl rfl rfl (by first | omega | decide | assumption)) ?_
          refine TL_pure (d := (some 12)) rfl rfl rfl (PV_load Try.underlying5 rfl rfl hr) ?_
          refine TL_pure (d := (some 4)) rfl rfl rfl (PV_assign rfl) ?_
          refine TL_pure (d := (some 5)) rfl rfl rfl (PV_assign rfl) ?_
          refine TL_nil ?_
          refine T_seq ?_
          refine T_region ?_
          refine TL_pure (d := (some 13)) rfl rfl rfl (PV_move rfl) ?_
          refine TL_pure (d := (some 14)) rfl rfl rfl (PV_bin rfl rfl bin_lss) ?_
          refine TL_nil ?_
          refine T_then rfl (by exact decide_eq_true (by omega)) ?_
          refine T_region ?_
          refine TL_pure (d := (some 15)) rfl rfl rfl (PV_move rfl) ?_
          refine TL_pure (d := (some 16)) rfl rfl rfl (PV_move rfl) ?_
          refine TL_pure (d := (some 17)) rfl rfl rfl (PV.cast (PV_bin rfl rfl (bin_rem (by decide))) e17) ?_
          refine TL_pure (d := (some 18)) rfl rfl rfl (PV_move rfl) ?_
          refine TL_pure (d := (some 19)) rfl rfl rfl (PV.cast (PV_bin rfl rfl (bin_rem (by decide))) e17) ?_
          refine TL_pure (d := (some 20)) rfl rfl rfl (PV.cast (PV_bin rfl rfl bin_add) e20) ?_
          refine TL_pure (d := (some 21)) rfl rfl rfl (PV.cast (PV_sliceStr (l := 1) (h := 2) Try.underlying9 rfl ⟨_, rfl⟩ ⟨_, rfl⟩ (by decide) (by decide)) e21) ?_
          refine TL_pure (d := (some 22)) rfl rfl rfl (PV.cast (PV_bin rfl rfl (bin_str_add hb22)) e22) ?_
          refine TL_pure (d := (some 3)) rfl rfl rfl (PV_assign rfl) ?_
          refine TL_nil ?_
          refine T_region ?_
          refine TL_pure (d := (some 23)) rfl rfl rfl (PV.cast (PV_bin rfl rfl bin_add) e23) ?_
          refine TL_pure (d := (some 8)) rfl rfl rfl (PV_move rfl) ?_
          refine TL_nil ?_
          refine ?L211
          case L211 =>
            exact ⟨i + 1, by omega, by omega, (by repeat (first | exact FrSub.nil _ | refine FrSub.cons rfl ?_)), Has.of_sub (by repeat (first | exact List.Sublist.refl _ | exact List.sublist_append_right _ _ | exact List.sublist_append_left _ _ | apply List.Sublist.cons_cons | apply List.Sublist.cons | refine List.Sublist.trans ?_ (List.sublist_append_left _ _)))⟩
        · have e17 : Value.int .u8 (Int.tmod (rd l i) 3) = .int .u8 2 := by rw [hq]
          have e20 : Value.int .u8 (IntKind.u8.wrap (2 + 1)) = .int .u8 3 := rfl
          have e21 : Value.string ((⟨#[97, 98, 99]⟩ : ByteArray).extract 2 3) = .string (strOfNums [99]) := by kernel_rfl
          have e22 : Value.string (strOfNums (txt l i) ++ strOfNums [99]) = .string (strOfNums (txt l (i + 1))) := by rw [str_app, hst]; rfl
          have hb22 : (strOfNums (txt l i)).size + (strOfNums [99]).size ≤ 9223372036854775807 := by
            rw [str_len, str_len, txt_len]
            show min i 14 + 1 ≤ _
            omega
          refine T_seq ?_
          refine T_region ?_
          refine TL_pure (d := (some 9)) rfl rfl rfl (PV_bin rfl rfl bin_lss) ?_
          refine TL_nil ?_
          refine T_seq ?_
          refine T_then rfl (by exact decide_eq_true (by omega)) ?_
          refine T_skip ?_
          refine T_seq ?_
          refine T_block ?_
          refine T_seq ?_
          refine T_region ?_
          refine TL_pure (d := (some 10)) rfl rfl rfl (PV_move rfl) ?_
          refine TL_pure (d := (some 11)) rfl rfl rfl (PV_indexAddr Try.underlying22 sz5 rfl rfl rfl (by first | omega | decide | assumption)) ?_
          refine TL_pure (d := (some 12)) rfl rfl rfl (PV_load Try.underlying5 rfl rfl hr) ?_
          refine TL_pure (d := (some 4)) rfl rfl rfl (PV_assign rfl) ?_
          refine TL_pure (d := (some 5)) rfl rfl rfl (PV_assign rfl) ?_
          refine TL_nil ?_
          refine T_seq ?_
          refine T_region ?_
          refine TL_pure (d := (some 13)) rfl rfl rfl (PV_move rfl) ?_
          refine TL_pure (d := (some 14)) rfl rfl rfl (PV_bin rfl rfl bin_lss) ?_
          refine TL_nil ?_
          refine T_then rfl (by exact decide_eq_true (by omega)) ?_
          refine T_region ?_
          refine TL_pure (d := (some 15)) rfl rfl rfl (PV_move rfl) ?_
          refine TL_pure (d := (some 16)) rfl rfl rfl (PV_move rfl) ?_
          refine TL_pure (d := (some 17)) rfl rfl rfl (PV.cast (PV_bin rfl rfl (bin_rem (by decide))) e17) ?_
          refine TL_pure (d := (some 18)) rfl rfl rfl (PV_move rfl) ?_
          refine TL_pure (d := (some 19)) rfl rfl rfl (PV.cast (PV_bin rfl rfl (bin_rem (by decide))) e17) ?_
          refine TL_pure (d := (some 20)) rfl rfl rfl (PV.cast (PV_bin rfl rfl bin_add) e20) ?_
          refine TL_pure (d := (some 21)) rfl rfl rfl (PV.cast (PV_sliceStr (l := 2) (h := 3) Try.underlying9 rfl ⟨_, rfl⟩ ⟨_, rfl⟩ (by decide) (by decide)) e21) ?_
          refine TL_pure (d := (some 22)) rfl rfl rfl (PV.cast (PV_bin rfl rfl (bin_str_add hb22)) e22) ?_
          refine TL_pure (d := (some 3)) rfl rfl rfl (PV_assign rfl) ?_
          refine TL_nil ?_
          refine T_region ?_
          refine TL_pure (d := (some 23)) rfl rfl rfl (PV.cast (PV_bin rfl rfl bin_add) e23) ?_
          refine TL_pure (d := (some 8)) rfl rfl rfl (PV_move rfl) ?_
          refine TL_nil ?_
          refine ?L221
          case L221 =>
            exact ⟨i + 1, by omega, by omega, (by repeat (first | exact FrSub.nil _ | refine FrSub.cons rfl ?_)), Has.of_sub (by repeat (first | exact List.Sublist.refl _ | exact List.sublist_append_right _ _ | exact List.sublist_append_left _ _ | apply List.Sublist.cons_cons | apply List.Sublist.cons | refine List.Sublist.trans ?_ (List.sublist_append_left _ _)))⟩
      · have hst : txt l (i + 1) = txt l i := by conv => { lhs; unfold txt }; rw [if_neg h14]
        refine T_seq ?_
        refine T_region ?_
        refine TL_pure (d := (some 9)) rfl rfl rfl (PV_bin rfl rfl bin_lss) ?_
        refine TL_nil ?_
        refine T_seq ?_
        refine T_then rfl (by exact decide_eq_true (by omega)) ?_
        refine T_skip ?_
        refine T_seq ?_
        refine T_block ?_
        refine T_seq ?_
        refine T_region ?_
        refine TL_pure (d := (some 10)) rfl rfl rfl (PV_move rfl) ?_
        refine TL_pure (d := (some 11)) rfl rfl rfl (PV_indexAddr Try.underlying22 sz5 rfl rfl rfl (by first | omega | decide | assumption)) ?_
        refine TL_pure (d := (some 12)) rfl rfl rfl (PV_load Try.underlying5 rfl rfl hr) ?_
        refine TL_pure (d := (some 4)) rfl rfl rfl (PV_assign rfl) ?_
        refine TL_pure (d := (some 5)) rfl rfl rfl (PV_assign rfl) ?_
        refine TL_nil ?_
        refine T_seq ?_
        refine T_region ?_
        refine TL_pure (d := (some 13)) rfl rfl rfl (PV_move rfl) ?_
        refine TL_pure (d := (some 14)) rfl rfl rfl (PV_bin rfl rfl bin_lss) ?_
        refine TL_nil ?_
        refine T_else rfl (by exact decide_eq_false (by omega)) ?_
        refine T_skip ?_
        refine T_region ?_
        refine TL_pure (d := (some 23)) rfl rfl rfl (PV.cast (PV_bin rfl rfl bin_add) e23) ?_
        refine TL_pure (d := (some 8)) rfl rfl rfl (PV_move rfl) ?_
        refine TL_nil ?_
        refine ?L31
        case L31 =>
          refine ⟨i + 1, by omega, by omega, by rw [hst]; exact (by repeat (first | exact FrSub.nil _ | refine FrSub.cons rfl ?_)), Has.of_sub (by repeat (first | exact List.Sublist.refl _ | exact List.sublist_append_right _ _ | exact List.sublist_append_left _ _ | apply List.Sublist.cons_cons | apply List.Sublist.cons | refine List.Sublist.trans ?_ (List.sublist_append_left _ _)))⟩
    · obtain rfl : i = l.length := by omega
      refine T_seq ?_
      refine T_region ?_
      refine TL_pure (d := (some 9)) rfl rfl rfl (PV_bin rfl rfl bin_lss) ?_
      refine TL_nil ?_
      refine T_seq ?_
      refine T_else rfl (by (simp; done)) ?_
      refine T_exit ?_
      refine T_seq ?_
      refine T_region ?_
      refine TL_pure (d := (some 24)) rfl rfl rfl (PV_move rfl) ?_
      refine TL_pure (d := (some 2)) rfl rfl rfl (PV_assign rfl) ?_
      refine TL_nil ?_
      refine T_ret ?_
      refine ret_ret (ResV_one rfl rfl) ⟨_, List.Sublist.refl _, ⟨rfl, rfl⟩⟩
/-- a call whose answer is known, all pieces as they were; some of them may be dropped -/
theorem TO_eqD {n : Nat} {fr : Fr} {dst : Option Tmp} {ty : TypeId} {pos : String} {aft : Array Edge} {gd : Option (Nat × Bool)} {K : Fr → List Chunk → Prop} {xs : Array Operand} {ats : Array TypeId} {f : FuncId} {vs : List Value} {V : Value} (hc : CallOk Try.prog f) (hcall : TCall Try.prog w0 B f vs.toArray (fun r H' => r = V ∧ H' = H) H) (hd : dOk n dst = true) (hx : evs fr xs.toList = some vs) (H2 : List Chunk) (hsub : H2.Sublist H) (h : K (frPut dst V fr) H2) : TO Try.prog w0 B n ⟨dst, .call { callee := .value (.func f), args := xs, argTypes := ats }, ty, pos, aft, gd⟩ K fr H := by
  intro HX a w Q hf hr
  have hm : xs.map a.eval = vs.toArray := by
    rw [← hf.evs hx, ← List.map_toArray, Array.toArray_toList]
  have he : execOp a.eval ⟨dst, .call { callee := .value (.func f), args := xs, argTypes := ats }, ty, pos, aft, gd⟩ = callFunc f (#[] ++ xs.map a.eval ++ #[]) := rfl
  simp only [Oper.wp, he, hm, Array.empty_append, Array.append_empty]
  rw [hc]
  simp only [Oper.upon]
  refine (hcall HX w hr).mono ?_
  rintro e w' ⟨v, H', rfl, ⟨rfl, rfl⟩, hr'⟩
  exact ⟨_, _, h, hf.put hd _, hr'.sub (hsub.append_right HX)⟩
theorem TO_parse {n : Nat} {fr : Fr} {dst : Option Tmp} {ty : TypeId} {pos : String} {aft : Array Edge} {gd : Option (Nat × Bool)} {K : Fr → List Chunk → Prop} {xs : Array Operand} {ats : Array TypeId} {s : List Int} {t : Rx} {j : Nat} {b : ByteArray} (hp : pParse s = .ok t j) (hu : U8s s) (hs : s.length ≤ 64) (hb : strOfNums s = b) (hd : dOk n dst = true) (hx : evs fr xs.toList = some [.string b]) (h : ∀ v N, Tr (WH w0 B N) t v → K (frPut dst (.tuple #[v.val, .nilIface]) fr) (H ++ N)) : TO Try.prog w0 B n ⟨dst, .call { callee := .value (.func 23), args := xs, argTypes := ats }, ty, pos, aft, gd⟩ K fr H := by
  subst hb
  refine TO_call (HR := []) call23 hd hx (by rw [List.append_nil]) (Parse_ok (H := H) hu hs hp) ?_
  rintro v' H' ⟨v, N, rfl, hv, rfl⟩
  rw [List.append_nil]
  exact h v N hv
theorem TO_Ends {n : Nat} {fr : Fr} {dst : Option Tmp} {ty : TypeId} {pos : String} {aft : Array Edge} {gd : Option (Nat × Bool)} {K : Fr → List Chunk → Prop} {xs : Array Operand} {ats : Array TypeId} {s : List Int} {t : Rx} {v : Nv} {f : Nat} {L : List Int} (hv : Tr (WH w0 B H) t v) (hu : U8s s) (hs : s.length ≤ 1000) (hf : f ≤ s.length) (hL : idxT (endsL s t (startL f (s.length + 1))) (s.length + 1) = L) (hd : dOk n dst = true) (hx : evs fr xs.toList = some [v.val, .string (strOfNums s), .int .i64 (f : Int)]) (h : ∀ A c, L.length ≤ c → K (frPut dst (.slice A L.length c) fr) (.sl (.slice A L.length c) 1 L.length (intV L) :: H)) : TO Try.prog w0 B n ⟨dst, .call { callee := .value (.func 21), args := xs, argTypes := ats }, ty, pos, aft, gd⟩ K fr H := by
  refine TO_call (HR := []) call21 hd hx (by rw [List.append_nil]) (Ends_t (H := H) hu hs hf hv) ?_
  rintro v' H' ⟨A, m, c, hm, rfl, hc, rfl⟩
  rw [hL] at hm ⊢
  subst hm
  rw [List.append_nil]
  exact h A c hc
theorem First_some {s : List Int} {t : Rx} {v : Nv} {k : Nat} {b : ByteArray} (hv : Tr (WH w0 B H) t v) (hu : U8s s) (hs : s.length ≤ 1000) (hb : strOfNums s = b) (hk : firstT (endsL s t (upto (s.length + 1) (s.length + 1))) (s.length + 1) 0 = some k) : TCall Try.prog w0 B 22 [v.val, .string b].toArray (fun r H' => r = .tuple #[.int .i64 (k : Int), .bool true] ∧ H' = H) H := by
  subst hb
  have := First_t (w0 := w0) (B := B) (H := H) hu hs hv
  rw [hk] at this
  exact this
theorem u8_small (l : List Int) (h : ∀ x ∈ l, 0 ≤ x ∧ x ≤ 255) : U8s l := h
theorem awake08_t : TCall Try.prog w0 B 18 #[] (fun r H' => r = .bool true ∧ H' = H) H := by
  obtain ⟨t, j, hp, hf⟩ := pplus
  have hu1 : U8s [98, 43] := u8_small _ (by decide)
  have hu2 : U8s [97, 97, 98, 98] := u8_small _ (by decide)
  have hb1 : strOfNums [98, 43] = ⟨#[98, 43]⟩ := by kernel_rfl
  have hb2 : strOfNums [97, 97, 98, 98] = ⟨#[97, 97, 98, 98]⟩ := by kernel_rfl
  refine TCall_intro (args := []) Try.func18 rfl Try.ntmps18 (Nat.le_of_ble_eq_true rfl) ?_
  refine T_seq ?_
  refine T_region ?_
  refine TL_pure (d := (some 0)) rfl rfl rfl (PV_assign rfl) ?_
  refine TL_nil ?_
  refine T_seq ?_
  refine T_region ?_
  refine TL_cons rfl (TO_parse hp hu1 (by decide) hb1 rfl rfl fun v6 N6 hv6 => ?_)
  refine TL_pure (d := (some 5)) rfl rfl rfl (PV_move rfl) ?_
  refine TL_pure (d := (some 7)) rfl rfl rfl (PV_extract rfl rfl) ?_
  refine TL_pure (d := (some 8)) rfl rfl rfl (PV_extract rfl rfl) ?_
  refine TL_cons rfl (TO_alloc rfl zr30 fun g2 => ?_)
  refine TL_cons rfl (TO_store 0 rfl rfl rfl sz30 rfl rfl rfl (List.forall_mem_cons.2 ⟨by first | rfl, List.forall_mem_cons.2 ⟨by first | rfl, List.forall_mem_cons.2 ⟨by first | rfl, List.forall_mem_cons.2 ⟨by first | rfl, List.forall_mem_cons.2 ⟨by first | rfl, List.forall_mem_cons.2 ⟨by first | rfl, by simp⟩⟩⟩⟩⟩⟩) (by first | exact Nat.le_of_ble_eq_true rfl | (simp; done) | (simp; omega) | omega) ?_)
  refine TL_pure (d := (some 2)) rfl rfl rfl (PV_assign rfl) ?_
  refine TL_nil ?_
  refine T_seq ?_
  refine T_region ?_
  refine TL_pure (d := (some 10)) rfl rfl rfl (PV_loadAt Try.underlying30 rfl sz30 rfl (Rds.take 0 rfl rfl rfl)) ?_
  refine TL_cons rfl (TO_eqD call22 (First_some (k := 3) (hv6.mono fun w h => h.sub (List.Sublist.trans (List.sublist_append_right H N6) (by repeat (first | exact List.Sublist.refl _ | exact List.sublist_append_right _ _ | exact List.sublist_append_left _ _ | apply List.Sublist.cons | refine List.Sublist.trans ?_ (List.sublist_append_left _ _))))) hu2 (by decide) hb2 hf) rfl rfl H (List.Sublist.trans (List.sublist_append_left H N6) (by repeat (first | exact List.Sublist.refl _ | exact List.sublist_append_right _ _ | exact List.sublist_append_left _ _ | apply List.Sublist.cons | refine List.Sublist.trans ?_ (List.sublist_append_left _ _)))) ?_)
  refine TL_pure (d := (some 9)) rfl rfl rfl (PV_move rfl) ?_
  refine TL_pure (d := (some 12)) rfl rfl rfl (PV_extract rfl rfl) ?_
  refine TL_pure (d := (some 13)) rfl rfl rfl (PV_extract rfl rfl) ?_
  refine TL_pure (d := (some 3)) rfl rfl rfl (PV_assign rfl) ?_
  refine TL_pure (d := (some 4)) rfl rfl rfl (PV_assign rfl) ?_
  refine TL_nil ?_
  refine T_seq ?_
  refine T_region ?_
  refine TL_pure (d := (some 14)) rfl rfl rfl (PV_move rfl) ?_
  refine TL_pure (d := (some 15)) rfl rfl rfl (PV_move rfl) ?_
  refine TL_yes rfl rfl rfl (TO_pure rfl (PV_move rfl) ?_)
  refine TL_yes rfl rfl rfl (TO_pure rfl (PV_bin rfl rfl bin_eql) ?_)
  refine TL_pure (d := (some 18)) rfl rfl rfl (PV_pickAnd rfl rfl rfl) ?_
  refine TL_pure (d := (some 0)) rfl rfl rfl (PV_assign rfl) ?_
  refine TL_nil ?_
  refine T_ret ?_
  refine ret_ret (ResV_one rfl rfl) ⟨_, List.Sublist.refl _, ⟨rfl, rfl⟩⟩
theorem awake08s : TCall Try.prog w0 B 18 #[] (fun r H' => r = .bool true ∧ H = H') H := awake08_t.mono fun v h q => ⟨q.1, q.2.symm⟩
theorem MatchAll_t {A : Option Addr} {m c : Nat} {l : List Int} (mn : Nat) (hS : Shows (WH w0 B H) A m 1 (nums .u8 l)) (hlm : l.length = m) (hl : m ≤ 9223372036854775807) (hc : m ≤ c) (hu : U8s l) (hmn : mn ≤ 255) : TCall Try.prog w0 B 5 #[.slice A m c, .int .u8 (mn : Int)] (fun r H' => r = .bool true ∧ H' = H) H := by
  obtain ⟨st, j, hp, hst⟩ := pstar
  have hu1 : U8s [46, 42] := u8_small _ (by decide)
  have hb1 : strOfNums [46, 42] = ⟨#[46, 42]⟩ := by kernel_rfl
  have hmem := txt_mem hu m
  have hlen := txt_len l m
  obtain ⟨s, hs⟩ : ∃ s, txt l m = s := ⟨_, rfl⟩
  rw [hs] at hmem hlen
  have hu2 : U8s s := fun x hx => by have := hmem x hx; omega
  have hall : ∀ k : Nat, k < s.length → st.has (rd s k).toNat = true := fun k hk => by
    have hx := hmem (rd s k) (by
      have : rd s (k : Int) = s[k] := by simp [rd, hk]
      rw [this]; exact List.getElem_mem hk)
    exact hst _ (by omega) (by omega)
  obtain ⟨n, hn⟩ : ∃ n, s.length = n := ⟨_, rfl⟩
  have hn14 : n < 15 := by omega
  obtain ⟨f, hf⟩ : ∃ f, mn % (n + 1) = f := ⟨_, rfl⟩
  have hfl : f < n + 1 := by rw [← hf]; exact Nat.mod_lt _ (by omega)
  have hE1 : idxT (endsL s (.star (.one st)) (startL f (s.length + 1))) (s.length + 1) = (List.range (n - f + 1)).map fun k => ((f + k : Nat) : Int) := by
    rw [star_all hall, hn]
    exact all_ends n hn14 f hfl
  have hE2 : firstT (endsL s (.star (.one st)) (upto (s.length + 1) (s.length + 1))) (s.length + 1) 0 = some 0 := by
    rw [star_all hall, hn]
    exact all_first n hn14
  obtain ⟨L, hL⟩ : ∃ L, (List.range (n - f + 1)).map (fun k => ((f + k : Nat) : Int)) = L := ⟨_, rfl⟩
  rw [hL] at hE1
  have hLl : L.length = n - f + 1 := by rw [← hL]; simp
  have e25 : Value.int .i64 (((strOfNums s).size : Nat) : Int) = .int .i64 (n : Int) := by rw [str_len, hn]
  have e26 : Value.int .i64 (IntKind.i64.wrap ((n : Int) + 1)) = .int .i64 ((n + 1 : Nat) : Int) := wr64n _ (by push_cast; rfl) (by omega)
  have e27 : Value.int .i64 (Int.tmod (mn : Int) ((n + 1 : Nat) : Int)) = .int .i64 (f : Int) := by rw [← hf]; rfl
  have e40 : Value.int .i64 (IntKind.i64.wrap ((n : Int) - (f : Int))) = .int .i64 ((n - f : Nat) : Int) := wr64n _ (by omega) (by omega)
  have e41 : Value.int .i64 (IntKind.i64.wrap (((n - f : Nat) : Int) + 1)) = .int .i64 ((n - f + 1 : Nat) : Int) := wr64n _ (by push_cast; rfl) (by omega)
  have hT : ∀ {X : List Chunk}, Shows (WH w0 B X) A m 1 (nums .u8 l) → TCall Try.prog w0 B 20 [.slice A m c].toArray (fun r H' => r = .string (strOfNums s) ∧ H' = X) X := fun {X} hS => by
    rw [← hs]
    exact Text_t hS hlm hl hc hu
  have hHN : ∀ N : List Chunk, H.Sublist (H ++ N) := fun N => List.sublist_append_left H N
  have hNH : ∀ N : List Chunk, N.Sublist (H ++ N) := fun N => List.sublist_append_right H N
  refine TCall_intro (args := [_, _]) Try.func5 rfl Try.ntmps5 (Nat.le_of_ble_eq_true rfl) ?_
  refine T_seq ?_
  refine T_region ?_
  refine TL_pure (d := (some 4)) rfl rfl rfl (PV_assign rfl) ?_
  refine TL_nil ?_
  refine T_seq ?_
  refine T_seq ?_
  refine T_region ?_
  refine TL_cons rfl (TO_call0 call18 rfl rfl (awake08s) ?_)
  rintro v14_30003 H14_30003 ⟨rfl, rfl⟩
  refine TL_pure (d := (some 15)) rfl rfl rfl (PV_not rfl) ?_
  refine TL_nil ?_
  refine T_else rfl (by rfl) ?_
  refine T_skip ?_
  refine T_seq ?_
  refine T_region ?_
  refine TL_cons rfl (TO_parse hp hu1 (by decide) hb1 rfl rfl fun v17 N17 hv17 => ?_)
  refine TL_pure (d := (some 16)) rfl rfl rfl (PV_move rfl) ?_
  refine TL_pure (d := (some 18)) rfl rfl rfl (PV_extract rfl rfl) ?_
  refine TL_pure (d := (some 19)) rfl rfl rfl (PV_extract rfl rfl) ?_
  refine TL_cons rfl (TO_alloc rfl zr30 fun g30005 => ?_)
  refine TL_cons rfl (TO_store 0 rfl rfl rfl sz30 rfl rfl rfl (List.forall_mem_cons.2 ⟨by first | rfl, List.forall_mem_cons.2 ⟨by first | rfl, List.forall_mem_cons.2 ⟨by first | rfl, List.forall_mem_cons.2 ⟨by first | rfl, List.forall_mem_cons.2 ⟨by first | rfl, List.forall_mem_cons.2 ⟨by first | rfl, by simp⟩⟩⟩⟩⟩⟩) (by first | exact Nat.le_of_ble_eq_true rfl | (simp; done) | (simp; omega) | omega) ?_)
  refine TL_pure (d := (some 6)) rfl rfl rfl (PV_assign rfl) ?_
  refine TL_nil ?_
  refine T_seq ?_
  refine T_region ?_
  refine TL_pure (d := (some 20)) rfl rfl rfl (PV_move rfl) ?_
  refine TL_cons rfl (TO_eqD call20 (hT (hS.mono fun w h => h.sub ((hHN N17).trans (by repeat (first | exact List.Sublist.refl _ | exact List.sublist_append_right _ _ | exact List.sublist_append_left _ _ | apply List.Sublist.cons | refine List.Sublist.trans ?_ (List.sublist_append_left _ _)))))) rfl rfl _ (List.Sublist.refl _) ?_)
  refine TL_pure (d := (some 7)) rfl rfl rfl (PV_assign rfl) ?_
  refine TL_nil ?_
  refine T_seq ?_
  refine T_region ?_
  refine TL_pure (d := (some 22)) rfl rfl rfl (PV_move rfl) ?_
  refine TL_pure (d := (some 23)) rfl rfl rfl (PV.cast (PV_conv (by rw [Try.underlying5]; rfl) Try.underlying3 rfl) (wr64 (by omega))) ?_
  refine TL_pure (d := (some 24)) rfl rfl rfl (PV_move rfl) ?_
  refine TL_pure (d := (some 25)) rfl rfl rfl (PV.cast (PV_len_string Try.underlying9 rfl) e25) ?_
  refine TL_pure (d := (some 26)) rfl rfl rfl (PV.cast (PV_bin rfl rfl bin_add) e26) ?_
  refine TL_pure (d := (some 27)) rfl rfl rfl (PV.cast (PV_bin rfl rfl (bin_rem (by omega))) e27) ?_
  refine TL_pure (d := (some 8)) rfl rfl rfl (PV_assign rfl) ?_
  refine TL_nil ?_
  refine T_seq ?_
  refine T_region ?_
  refine TL_pure (d := (some 28)) rfl rfl rfl (PV_loadAt Try.underlying30 rfl sz30 rfl (Rds.take 0 rfl rfl rfl)) ?_
  refine TL_pure (d := (some 29)) rfl rfl rfl (PV_move rfl) ?_
  refine TL_pure (d := (some 30)) rfl rfl rfl (PV_move rfl) ?_
  refine TL_cons rfl (TO_Ends (hv17.mono fun w h => h.sub ((hNH N17).trans (by repeat (first | exact List.Sublist.refl _ | exact List.sublist_append_right _ _ | exact List.sublist_append_left _ _ | apply List.Sublist.cons | refine List.Sublist.trans ?_ (List.sublist_append_left _ _))))) hu2 (by omega) (by omega) hE1 rfl rfl fun A31 c31 hc31 => ?_)
  refine TL_pure (d := (some 9)) rfl rfl rfl (PV_assign rfl) ?_
  refine TL_nil ?_
  refine T_seq ?_
  refine T_seq ?_
  refine T_region ?_
  refine TL_pure (d := (some 32)) rfl rfl rfl (PV_move rfl) ?_
  refine TL_pure (d := (some 33)) rfl rfl rfl (PV_bin rfl rfl (bin_nil_nnil Try.underlying42)) ?_
  refine TL_pure (d := (some 34)) rfl rfl rfl (PV_move rfl) ?_
  refine TL_yes rfl rfl rfl (TO_pure rfl (PV_move rfl) ?_)
  refine TL_yes rfl rfl rfl (TO_pure rfl (PV_len_slice Try.underlying35 rfl) ?_)
  refine TL_yes rfl rfl rfl (TO_pure rfl (PV_move rfl) ?_)
  refine TL_yes rfl rfl rfl (TO_pure rfl (PV.cast (PV_len_string Try.underlying9 rfl) e25) ?_)
  refine TL_yes rfl rfl rfl (TO_pure rfl (PV_move rfl) ?_)
  refine TL_yes rfl rfl rfl (TO_pure rfl (PV.cast (PV_bin rfl rfl bin_sub) e40) ?_)
  refine TL_yes rfl rfl rfl (TO_pure rfl (PV.cast (PV_bin rfl rfl bin_add) e41) ?_)
  refine TL_yes rfl rfl rfl (TO_pure rfl (PV_bin rfl rfl bin_neq) ?_)
  refine TL_pure (d := (some 43)) rfl rfl rfl (PV_pickOr rfl rfl rfl) ?_
  refine TL_nil ?_
  refine T_else rfl (by (simp; omega)) ?_
  refine T_skip ?_
  refine T_seq ?_
  refine T_seq ?_
  refine T_region ?_
  refine TL_pure (d := (some 44)) rfl rfl rfl (PV_move rfl) ?_
  refine TL_pure (d := (some 45)) rfl rfl rfl (PV_len_slice Try.underlying35 rfl) ?_
  refine TL_pure (d := (some 46)) rfl rfl rfl (PV_move rfl) ?_
  refine TL_nil ?_
  refine T_block ?_
  refine ?L301
  case L301 =>
    have hLi : ∀ i : Nat, i < L.length → (intV L)[i * 1]? = some (.int .i64 ((f + i : Nat) : Int)) := fun i hi => by
      rw [hLl] at hi
      rw [← hL, Nat.mul_one]
      simp [intV, List.getElem?_map, List.getElem?_range hi]
    have hz : (intV L).length = L.length := by simp [intV]
    refine T_loopP1 (fun (i : Nat) => i ≤ L.length) (fun i => L.length - i) (fun i => [(4, .bool false), (5, .pointer (some ⟨g30005, 0, none⟩)), (7, .string (strOfNums s)), (8, .int .i64 (f : Int)), (44, .slice A31 L.length c31), (45, .int .i64 (L.length : Int)), (46, .int .i64 (i : Int))]) (fun i => .sl (.slice A31 L.length c31) 1 L.length (intV L) :: .own g30005 6 v17.cells :: (H ++ N17)) 0 (Nat.zero_le _) (by repeat (first | exact FrSub.nil _ | refine FrSub.cons rfl ?_)) (Has.of_sub (by repeat (first | exact List.Sublist.refl _ | exact List.sublist_append_right _ _ | exact List.sublist_append_left _ _ | apply List.Sublist.cons_cons | apply List.Sublist.cons | refine List.Sublist.trans ?_ (List.sublist_append_left _ _)))) ?_
    intro i hi
    by_cases hil : i < L.length
    · have e56 : Value.int .i64 (IntKind.i64.wrap ((i : Int) + 1)) = .int .i64 ((i + 1 : Nat) : Int) := wr64n _ (by push_cast; rfl) (by omega)
      have e54 : Value.int .i64 (IntKind.i64.wrap ((f : Int) + (i : Int))) = .int .i64 ((f + i : Nat) : Int) := wr64n _ (by push_cast; rfl) (by omega)
      refine T_shows (Shows.at 0 rfl) (by omega) fun g31 o31 hA31 hrd31 => ?_
      subst hA31
      have hr31 : Rd _ ⟨g31, o31 + i * 1, none⟩ (.int .i64 ((f + i : Nat) : Int)) := hrd31 (i * 1) _ (hLi i hil)
      refine T_seq ?_
      refine T_region ?_
      refine TL_pure (d := (some 47)) rfl rfl rfl (PV_bin rfl rfl bin_lss) ?_
      refine TL_nil ?_
      refine T_seq ?_
      refine T_then rfl (by exact decide_eq_true (by omega)) ?_
      refine T_skip ?_
      refine T_seq ?_
      refine T_block ?_
      refine T_seq ?_
      refine T_region ?_
      refine TL_pure (d := (some 48)) rfl rfl rfl (PV_move rfl) ?_
      refine TL_pure (d := (some 49)) rfl rfl rfl (PV_indexAddr Try.underlying35 sz3 rfl rfl rfl (by first | omega | decide | assumption)) ?_
      refine TL_pure (d := (some 50)) rfl rfl rfl (PV_load Try.underlying3 rfl rfl hr31) ?_
      refine TL_pure (d := (some 10)) rfl rfl rfl (PV_assign rfl) ?_
      refine TL_pure (d := (some 11)) rfl rfl rfl (PV_assign rfl) ?_
      refine TL_nil ?_
      refine T_seq ?_
      refine T_region ?_
      refine TL_pure (d := (some 51)) rfl rfl rfl (PV_move rfl) ?_
      refine TL_pure (d := (some 52)) rfl rfl rfl (PV_move rfl) ?_
      refine TL_pure (d := (some 53)) rfl rfl rfl (PV_move rfl) ?_
      refine TL_pure (d := (some 54)) rfl rfl rfl (PV.cast (PV_bin rfl rfl bin_add) e54) ?_
      refine TL_pure (d := (some 55)) rfl rfl rfl (PV_bin rfl rfl bin_neq) ?_
      refine TL_nil ?_
      refine T_else rfl (by (simp; done)) ?_
      refine T_skip ?_
      refine T_region ?_
      refine TL_pure (d := (some 56)) rfl rfl rfl (PV.cast (PV_bin rfl rfl bin_add) e56) ?_
      refine TL_pure (d := (some 46)) rfl rfl rfl (PV_move rfl) ?_
      refine TL_nil ?_
      refine ?L401
      case L401 =>
        exact ⟨i + 1, by omega, by omega, (by repeat (first | exact FrSub.nil _ | refine FrSub.cons rfl ?_)), Has.of_sub (by repeat (first | exact List.Sublist.refl _ | exact List.sublist_append_right _ _ | exact List.sublist_append_left _ _ | apply List.Sublist.cons_cons | apply List.Sublist.cons | refine List.Sublist.trans ?_ (List.sublist_append_left _ _)))⟩
    · obtain rfl : i = L.length := by omega
      refine T_seq ?_
      refine T_region ?_
      refine TL_pure (d := (some 47)) rfl rfl rfl (PV_bin rfl rfl bin_lss) ?_
      refine TL_nil ?_
      refine T_seq ?_
      refine T_else rfl (by (simp; done)) ?_
      refine T_exit ?_
      refine T_seq ?_
      refine T_region ?_
      refine TL_pure (d := (some 58)) rfl rfl rfl (PV_loadAt Try.underlying30 rfl sz30 rfl (Rds.take 1 rfl rfl rfl)) ?_
      refine TL_pure (d := (some 59)) rfl rfl rfl (PV_move rfl) ?_
      refine TL_cons rfl (TO_eqD call22 (First_some (k := 0) (hv17.mono fun w h => h.sub ((hNH N17).trans (by repeat (first | exact List.Sublist.refl _ | exact List.sublist_append_right _ _ | exact List.sublist_append_left _ _ | apply List.Sublist.cons | refine List.Sublist.trans ?_ (List.sublist_append_left _ _))))) hu2 (by omega) rfl hE2) rfl rfl H ((hHN N17).trans (by repeat (first | exact List.Sublist.refl _ | exact List.sublist_append_right _ _ | exact List.sublist_append_left _ _ | apply List.Sublist.cons | refine List.Sublist.trans ?_ (List.sublist_append_left _ _)))) ?_)
      refine TL_pure (d := (some 57)) rfl rfl rfl (PV_move rfl) ?_
      refine TL_pure (d := (some 61)) rfl rfl rfl (PV_extract rfl rfl) ?_
      refine TL_pure (d := (some 62)) rfl rfl rfl (PV_extract rfl rfl) ?_
      refine TL_pure (d := (some 12)) rfl rfl rfl (PV_assign rfl) ?_
      refine TL_pure (d := (some 13)) rfl rfl rfl (PV_assign rfl) ?_
      refine TL_nil ?_
      refine T_seq ?_
      refine T_region ?_
      refine TL_pure (d := (some 63)) rfl rfl rfl (PV_move rfl) ?_
      refine TL_pure (d := (some 64)) rfl rfl rfl (PV_move rfl) ?_
      refine TL_yes rfl rfl rfl (TO_pure rfl (PV_move rfl) ?_)
      refine TL_yes rfl rfl rfl (TO_pure rfl (PV_bin rfl rfl bin_eql) ?_)
      refine TL_pure (d := (some 67)) rfl rfl rfl (PV_pickAnd rfl rfl rfl) ?_
      refine TL_pure (d := (some 4)) rfl rfl rfl (PV_assign rfl) ?_
      refine TL_nil ?_
      refine T_ret ?_
      refine ret_ret (ResV_one rfl rfl) ⟨_, List.Sublist.refl _, ⟨rfl, rfl⟩⟩
end
end Go.Proofs.Ytkgdphbccagjcaa.SL
