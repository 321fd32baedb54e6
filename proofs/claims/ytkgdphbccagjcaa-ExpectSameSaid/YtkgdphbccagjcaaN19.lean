import Derived.Test.YtkgdphbccagjcaaE3
import Derived.Test.YtkgdphbccagjcaaN18
import Derived.Test.YtkgdphbccagjcaaP12
/- A quoted text has come when it stands at the end for the first time: the law. No statement is proved here. -/
set_option linter.unusedVariables false
set_option linter.unusedSimpArgs false
set_option maxRecDepth 100000
set_option maxHeartbeats 8000000
namespace Go.Proofs.Ytkgdphbccagjcaa.SL
open Go Go.RowKit
theorem rd_u8 {l : List Int} (hu : U8s l) (i : Int) : 0 ≤ rd l i ∧ rd l i ≤ 255 := by
  unfold rd
  rw [List.getD_eq_getElem?_getD]
  cases h : l[i.toNat]? with
  | none => simp
  | some x => exact hu x (List.mem_of_getElem? h)
theorem pat_quoted {s : List Int} (hs : U8s s) (h0 : 1 ≤ s.length) (h1 : s.length ≤ 32) : PatOk (quoteL s) (chainT s) :=
  ⟨quoteL_u8 hs, by have := (quoteL_len s).2; omega, ⟨_, parse_quote⟩, by rw [nul_chain hs]; exact decide_eq_false fun h => by rw [h] at h0; simp at h0, by rw [pl_chain]; omega, by have := nx_chain (s := s) (by omega); omega⟩
theorem best1 (t : Rx) (p : List Bool) (c : Nat) : bestT [t] [p] c 1 = if endsT t (stepL t p c true) = true then some 0 else none := rfl
theorem put1 (t : Rx) (p : List Bool) (c : Nat) : putL [t] [p] c 1 = [stepL t p c true] := rfl
/-- the text stands at the end behind byte k -/
def standsAt (s u : List Int) (k : Nat) : Bool := decide (s.length ≤ k + 1) && decide (sub u (k + 1 - s.length) (k + 1) = s)
theorem stands_iff {s u : List Int} (hs : U8s s) (hu : U8s u) (h0 : 1 ≤ s.length) {k : Nat} (hk : k < u.length) : endsT (chainT s) (stepL (chainT s) (seqL (chainT s) u k) (rd u (k : Int)).toNat true) = standsAt s u k := by
  rw [Bool.eq_iff_iff]
  unfold standsAt
  rw [Bool.and_eq_true, decide_eq_true_eq, decide_eq_true_eq]
  exact seq_quoted hs hu h0 hk
section
variable {w0 : World} {B n : Nat} {H : List Chunk}
theorem ExpectQuoted_t {sb ub : ByteArray} (hsl : sb.size ≤ 140737488351232) (hul : ub.size ≤ 140737488351232) :
    TCall Try.prog w0 B 14 #[.string sb, .string ub] (fun r H' => r = .bool true ∧ H' = H) H := by
  obtain ⟨s0, hus0, rfl⟩ := str_of sb
  obtain ⟨u0, huu0, rfl⟩ := str_of ub
  rw [str_len] at hsl hul
  obtain ⟨m, hm⟩ : ∃ m, min (s0.length + 1) 20 = m := ⟨_, rfl⟩
  obtain ⟨q, hq⟩ : ∃ q, min u0.length 300 = q := ⟨_, rfl⟩
  obtain ⟨s1, hs1⟩ : ∃ s1, s0 ++ [120] = s1 := ⟨_, rfl⟩
  obtain ⟨s, hs⟩ : ∃ s, sub s1 0 m = s := ⟨_, rfl⟩
  obtain ⟨u, hu⟩ : ∃ u, sub u0 0 q = u := ⟨_, rfl⟩
  have hl1 : s1.length = s0.length + 1 := by rw [← hs1]; simp
  have hus1 : U8s s1 := fun x hx => by
    rw [← hs1] at hx
    rcases List.mem_append.1 hx with h | h
    · exact hus0 x h
    · simp at h; omega
  have hus : U8s s := fun x hx => hus1 x (sub_mem (hs ▸ hx))
  have huu : U8s u := fun x hx => huu0 x (sub_mem (hu ▸ hx))
  have hsl2 : s.length = m := by rw [← hs, sub_len (by omega) (by omega)]; omega
  have hul2 : u.length = q := by rw [← hu, sub_len (by omega) (by omega)]; omega
  have hx1 : strOfNums [120] = ⟨#[120]⟩ := by kernel_rfl
  have e15 : Value.string (strOfNums (s0 ++ [120])) = .string (strOfNums s1) := by rw [hs1]
  have e17 : Value.int .i64 (((strOfNums s0).size : Nat) : Int) = .int .i64 ((s0.length : Nat) : Int) := by rw [str_len]
  have e18 : Value.int .i64 (IntKind.i64.wrap ((s0.length : Int) + 1)) = .int .i64 ((s0.length + 1 : Nat) : Int) := wr64n _ (by push_cast; rfl) (by omega)
  have e19 : Value.int .i64 (min ((s0.length + 1 : Nat) : Int) 20) = .int .i64 ((m : Nat) : Int) := by congr 1; omega
  have e20 : Value.string ((strOfNums s1).extract 0 m) = .string (strOfNums s) := by rw [← hs, str_sub]
  have e23 : Value.int .i64 (((strOfNums u0).size : Nat) : Int) = .int .i64 ((u0.length : Nat) : Int) := by rw [str_len]
  have e24 : Value.int .i64 (min ((u0.length : Nat) : Int) 300) = .int .i64 ((q : Nat) : Int) := by congr 1; omega
  have e25 : Value.string ((strOfNums u0).extract 0 q) = .string (strOfNums u) := by rw [← hu, str_sub]
  have es : Value.int .i64 (((strOfNums s).size : Nat) : Int) = .int .i64 ((s.length : Nat) : Int) := by rw [str_len]
  have eu : Value.int .i64 (((strOfNums u).size : Nat) : Int) = .int .i64 ((u.length : Nat) : Int) := by rw [str_len]
  have hzu := str_len u
  have hzs := str_len s1
  have hpat := pat_quoted hus (by omega) (by omega)
  have hst : strs [quoteL s] = [.string (strOfNums (quoteL s))] := rfl
  have hqp : ∀ i, i < 1 → PatOk ([quoteL s].getD i []) ([chainT s].getD i .nothing) := fun i hi => by
    obtain rfl : i = 0 := by omega
    exact hpat
  refine TCall_intro (args := [_, _]) Try.func14 rfl Try.ntmps14 (Nat.le_of_ble_eq_true rfl) ?_
  refine T_seq ?_
  refine T_region ?_
  refine TL_p (PV_assign rfl) ?_
  refine TL_nil ?_
  refine T_seq ?_
  refine T_seq ?_
  refine T_region ?_
  refine TL_cons rfl (TO_call0 call34 rfl rfl (awake09s) ?_)
  rintro v12_3 H12_3 ⟨rfl, rfl⟩
  refine TL_p (PV_not rfl) ?_
  refine TL_nil ?_
  refine T_else rfl (by rfl) ?_
  refine T_skip ?_
  refine T_seq ?_
  refine T_drawn (WH _ _ _) mixed (fun w h => h) ?_
  refine TA_p 0 rfl (by kernel_rfl) (PV_move rfl) ?_
  refine TA_p 1 rfl (by kernel_rfl) (PV.cast (PV_bin rfl rfl (bin_cat rfl hx1 (by simp; omega))) e15) ?_
  refine TA_p 2 rfl (by kernel_rfl) (PV_move rfl) ?_
  refine TA_p 3 rfl (by kernel_rfl) (PV.cast (PV_len_string Try.underlying9 rfl) e17) ?_
  refine TA_p 4 rfl (by kernel_rfl) (PV.cast (PV_bin rfl rfl bin_add) e18) ?_
  refine TA_p 5 rfl (by kernel_rfl) (PV.cast (PV_min rfl rfl) e19) ?_
  refine TA_p 6 rfl (by kernel_rfl) (PV.cast (PV_sliceStr (l := 0) (h := m) Try.underlying9 rfl rfl ⟨_, rfl⟩ (by omega) (by omega)) e20) ?_
  refine TA_p 7 rfl (by kernel_rfl) (PV_move rfl) ?_
  refine TA_p 8 rfl (by kernel_rfl) (PV_move rfl) ?_
  refine TA_p 9 rfl (by kernel_rfl) (PV.cast (PV_len_string Try.underlying9 rfl) e23) ?_
  refine TA_p 10 rfl (by kernel_rfl) (PV.cast (PV_min rfl rfl) e24) ?_
  refine TA_p 11 rfl (by kernel_rfl) (PV.cast (PV_sliceStr (l := 0) (h := q) Try.underlying9 rfl rfl ⟨_, rfl⟩ (by omega) (by rw [str_len]; omega)) e25) ?_
  refine TA_p 12 rfl (by kernel_rfl) (PV_assign rfl) ?_
  refine TA_p 13 rfl (by kernel_rfl) (PV_assign rfl) ?_
  refine TA_done (by kernel_rfl) ?_
  refine T_seq ?_
  refine T_region ?_
  refine TL_p (PV_move rfl) ?_
  refine TL_cons rfl (TO_eqD call24 (Quote_t hus (by omega)) rfl rfl _ (List.Sublist.refl _) ?_)
  refine TL_cons rfl (TO_bs (cs := [_]) Try.underlying67 zs9 (by decide) rfl rfl rfl rfl rfl rfl fun g5 => ?_)
  refine ?L1
  case L1 =>
    refine TL_cons rfl (TO_OfW (qs := [quoteL s]) (ts := [chainT s]) (m := 1) (c := 1) (A := some ⟨g5, 0, none⟩) (by rw [hst]; exact Shows.at 0 rfl) rfl (by omega) (by omega) (by omega) rfl hqp rfl rfl fun gw gT gA cT cA gs vs0 Z0 hZ0 hW0 => ?_)
    have hHZ : H.Sublist Z0 := (List.sublist_cons_self _ _).trans hZ0
    clear hZ0
    refine TL_p (PV_move rfl) ?_
    refine TL_p (PV_extract rfl rfl) ?_
    refine TL_p (PV_extract rfl rfl) ?_
    refine TL_p (PV_assign rfl) ?_
    refine TL_p (PV_assign rfl) ?_
    refine TL_nil ?_
    refine T_seq ?_
    refine T_seq ?_
    refine T_region ?_
    refine TL_p (PV_move rfl) ?_
    refine TL_p (PV_bin rfl rfl (bin_nil_nnil Try.underlying42)) ?_
    refine TL_p (PV_move rfl) ?_
    refine TL_yes rfl rfl rfl (TO_pure rfl (PV_move rfl) ?_)
    refine TL_yes rfl rfl rfl (TO_pure rfl (PV_bin rfl rfl (bin_ptr_nil Try.underlying62)) ?_)
    refine TL_p (PV_pickOr rfl rfl rfl) ?_
    refine TL_nil ?_
    refine T_else rfl (by rfl) ?_
    refine T_skip ?_
    refine T_seq ?_
    refine T_region ?_
    refine TL_p (PV_assign rfl) ?_
    refine TL_nil ?_
    refine T_seq ?_
    refine T_seq ?_
    refine T_region ?_
    refine TL_p (PV_assign rfl) ?_
    refine TL_nil ?_
    refine T_block ?_
    refine ?L11
    case L11 =>
      refine T_loopP5 (fun (k : Nat) (ov : Bool) (seen : Nat) (vs : List Value) (Z : List Chunk) => k ≤ u.length ∧ H.Sublist Z ∧ (ov = false → seen = k ∧ Wk (WH w0 B Z) [chainT s] gs [seqL (chainT s) u k] vs 1)) (fun k _ _ _ _ => u.length - k) (fun k ov seen vs Z => [(0, .string (strOfNums s)), (1, .string (strOfNums u)), (5, .pointer (some ⟨gw, 0, none⟩)), (7, .bool ov), (8, .int .i64 (k : Int))]) (fun k ov seen vs Z => wC gw gT gA 1 cT cA seen ov :: tC gT 1 cT gs :: aC gA 1 cA vs :: Z) 0 false 0 vs0 Z0 ⟨Nat.zero_le _, hHZ, fun _ => ⟨rfl, hW0⟩⟩ (by repeat (first | exact FrSub.nil _ | refine FrSub.cons rfl ?_)) (Has.of_sub (by repeat (first | exact Sb.r | exact Sb.ar | exact Sb.al | apply Sb.c | apply Sb.d | refine Sb.t ?_))) ?_
      clear hW0 hHZ
      rintro k ov seen vs Z ⟨hk, hZ, hov⟩
      by_cases hku : k < u.length
      · have e44 : Value.int .i64 (IntKind.i64.wrap ((k : Int) + 1)) = .int .i64 ((k + 1 : Nat) : Int) := wr64n _ (by push_cast; rfl) (by omega)
        have hrd := rd_u8 huu (k : Int)
        obtain ⟨cb, hcb⟩ : ∃ cb : Nat, rd u (k : Int) = (cb : Int) := Int.eq_ofNat_of_zero_le hrd.1
        have e49 : Value.int .u8 (rd u (k : Int)) = .int .u8 (cb : Int) := by rw [hcb]
        cases ov with
        | true =>
          refine T_seq ?_
          refine T_seq ?_
          refine T_region ?_
          refine TL_p (PV_move rfl) ?_
          refine TL_p (PV_move rfl) ?_
          refine TL_p (PV.cast (PV_len_string Try.underlying9 rfl) eu) ?_
          refine TL_p (PV_bin rfl rfl bin_lss) ?_
          refine TL_nil ?_
          refine T_then rfl (by exact decide_eq_true (by omega)) ?_
          refine T_skip ?_
          refine T_seq ?_
          refine T_block ?_
          refine T_seq ?_
          refine T_region ?_
          refine TL_p (PV_move rfl) ?_
          refine TL_p (PV_move rfl) ?_
          refine TL_p (PV_move rfl) ?_
          refine TL_p (PV.cast (PV_indexNums Try.underlying9 rfl rfl rfl huu hku) e49) ?_
          refine TL_cons rfl (TO_PutOver (cb := cb) (List.Perm.refl _) rfl rfl ?_)
          refine TL_p (PV_move rfl) ?_
          refine TL_p (PV_extract rfl rfl) ?_
          refine TL_p (PV_extract rfl rfl) ?_
          refine TL_p (PV_assign rfl) ?_
          refine TL_p (PV_assign rfl) ?_
          refine TL_nil ?_
          refine T_seq ?_
          refine T_region ?_
          refine TL_p (PV_move rfl) ?_
          refine TL_p (PV_not rfl) ?_
          refine TL_p (PV_move rfl) ?_
          refine TL_no (b := false) rfl rfl rfl rfl ?_
          refine TL_no (b := false) rfl rfl rfl rfl ?_
          refine TL_no (b := false) rfl rfl rfl rfl ?_
          refine TL_no (b := false) rfl rfl rfl rfl ?_
          refine TL_no (b := false) rfl rfl rfl rfl ?_
          refine TL_p (PV_pickF rfl (by first | assumption | rfl | (simp; done) | (simp; omega) | (simp [*]; done) | (simp [*]; omega)) rfl rfl) ?_
          refine TL_p (PV_move rfl) ?_
          refine TL_no (b := false) rfl rfl rfl rfl ?_
          refine TL_no (b := false) rfl rfl rfl rfl ?_
          refine TL_no (b := false) rfl rfl rfl rfl ?_
          refine TL_no (b := false) rfl rfl rfl rfl ?_
          refine TL_no (b := false) rfl rfl rfl rfl ?_
          refine TL_no (b := false) rfl rfl rfl rfl ?_
          refine TL_no (b := false) rfl rfl rfl rfl ?_
          refine TL_no (b := false) rfl rfl rfl rfl ?_
          refine TL_no (b := false) rfl rfl rfl rfl ?_
          refine TL_no (b := false) rfl rfl rfl rfl ?_
          refine TL_no (b := false) rfl rfl rfl rfl ?_
          refine TL_p (PV_pickF rfl (by first | assumption | rfl | (simp; done) | (simp; omega) | (simp [*]; done) | (simp [*]; omega)) rfl rfl) ?_
          refine TL_p (PV_assign rfl) ?_
          refine TL_nil ?_
          refine T_seq ?_
          refine T_seq ?_
          refine T_region ?_
          refine TL_p (PV_move rfl) ?_
          refine TL_p (PV_move rfl) ?_
          refine TL_p (PV.cast (PV_bin rfl rfl (bin_bool_neq Try.underlying4)) rfl) ?_
          refine TL_nil ?_
          refine T_else rfl (by rfl) ?_
          refine T_skip ?_
          refine T_region ?_
          refine TL_p (PV_move rfl) ?_
          refine TL_p (PV_move rfl) ?_
          refine TL_no (b := true) rfl rfl rfl rfl ?_
          refine TL_p (PV_pickT rfl (by first | assumption | rfl | (simp; done) | (simp; omega) | (simp [*]; done) | (simp [*]; omega)) rfl rfl) ?_
          refine TL_p (PV_assign rfl) ?_
          refine TL_nil ?_
          refine T_region ?_
          refine TL_p (PV_move rfl) ?_
          refine TL_p (PV.cast (PV_bin rfl rfl bin_add) e44) ?_
          refine TL_p (PV_assign rfl) ?_
          refine TL_nil ?_
          refine ?L21
          all_goals exact ⟨k + 1, true, seen, vs, Z, ⟨by omega, hZ, (fun h => nomatch h)⟩, by omega, (by repeat (first | exact FrSub.nil _ | refine FrSub.cons rfl ?_)), Has.of_sub (by repeat (first | exact Sb.r | exact Sb.ar | exact Sb.al | apply Sb.c | apply Sb.d | refine Sb.t ?_))⟩
        | false =>
          obtain ⟨rfl, hW⟩ := hov rfl
          have hb := best1 (chainT s) (seqL (chainT s) u seen) cb
          have hsi := stands_iff hus huu (by omega) hku
          rw [hcb, Int.toNat_natCast] at hsi
          rw [hsi] at hb
          have hseq : [stepL (chainT s) (seqL (chainT s) u seen) cb true] = [seqL (chainT s) u (seen + 1)] := by
            show _ = [stepL (chainT s) (seqL (chainT s) u seen) (rd u (seen : Int)).toNat true]
            rw [hcb, Int.toNat_natCast]
          have hpu := put1 (chainT s) (seqL (chainT s) u seen) cb
          rw [hseq] at hpu
          by_cases hge : s.length ≤ seen + 1
          · have e60 : Value.bool (decide (((seen + 1 : Nat) : Int) ≥ ((s.length : Nat) : Int))) = .bool true := congrArg Value.bool (decide_eq_true (by omega))
            have e68 : Value.int .i64 (IntKind.i64.wrap (((seen + 1 : Nat) : Int) - ((s.length : Nat) : Int))) = .int .i64 ((seen + 1 - s.length : Nat) : Int) := wr64n _ (by omega) (by omega)
            have e71 : Value.string ((strOfNums u).extract (seen + 1 - s.length) (seen + 1)) = .string (strOfNums (sub u (seen + 1 - s.length) (seen + 1))) := by rw [str_sub]
            by_cases he : sub u (seen + 1 - s.length) (seen + 1) = s
            · have hsa : standsAt s u seen = true := by unfold standsAt; rw [decide_eq_true hge, decide_eq_true he]; rfl
              rw [hsa] at hb
              have e73 : Value.bool (decide (strOfNums (sub u (seen + 1 - s.length) (seen + 1)) = strOfNums s)) = .bool true := by rw [he, decide_eq_true rfl]
              refine T_seq ?_
              refine T_seq ?_
              refine T_region ?_
              refine TL_p (PV_move rfl) ?_
              refine TL_p (PV_move rfl) ?_
              refine TL_p (PV.cast (PV_len_string Try.underlying9 rfl) eu) ?_
              refine TL_p (PV_bin rfl rfl bin_lss) ?_
              refine TL_nil ?_
              refine T_then rfl (by exact decide_eq_true (by omega)) ?_
              refine T_skip ?_
              refine T_seq ?_
              refine T_block ?_
              refine T_seq ?_
              refine T_region ?_
              refine TL_p (PV_move rfl) ?_
              refine TL_p (PV_move rfl) ?_
              refine TL_p (PV_move rfl) ?_
              refine TL_p (PV.cast (PV_indexNums Try.underlying9 rfl rfl rfl huu hku) e49) ?_
              refine TL_cons rfl (TO_Put (cb := cb) (V := .tuple #[.int .i64 0, .bool true]) (List.Perm.refl _) (by omega) (by omega) (by omega) hW hb rfl rfl rfl fun vs2 N2 hN2 hW2 => ?_)
              refine TL_p (PV_move rfl) ?_
              refine TL_p (PV_extract rfl rfl) ?_
              refine TL_p (PV_extract rfl rfl) ?_
              refine TL_p (PV_assign rfl) ?_
              refine TL_p (PV_assign rfl) ?_
              refine TL_nil ?_
              refine T_seq ?_
              refine T_region ?_
              refine TL_p (PV_move rfl) ?_
              refine TL_p (PV_not rfl) ?_
              refine TL_p (PV_move rfl) ?_
              refine TL_yes rfl rfl rfl (TO_pure rfl (PV_move rfl) ?_)
              refine TL_yes rfl rfl rfl (TO_pure rfl (PV.cast (PV_bin rfl rfl bin_add) e44) ?_)
              refine TL_yes rfl rfl rfl (TO_pure rfl (PV_move rfl) ?_)
              refine TL_yes rfl rfl rfl (TO_pure rfl (PV.cast (PV_len_string Try.underlying9 rfl) es) ?_)
              refine TL_yes rfl rfl rfl (TO_pure rfl (PV.cast (PV_bin rfl rfl bin_geq) e60) ?_)
              refine TL_p (PV_pickAnd rfl rfl rfl) ?_
              refine TL_p (PV_move rfl) ?_
              refine TL_yes rfl rfl rfl (TO_pure rfl (PV_move rfl) ?_)
              refine TL_yes rfl rfl rfl (TO_pure rfl (PV_move rfl) ?_)
              refine TL_yes rfl rfl rfl (TO_pure rfl (PV.cast (PV_bin rfl rfl bin_add) e44) ?_)
              refine TL_yes rfl rfl rfl (TO_pure rfl (PV_move rfl) ?_)
              refine TL_yes rfl rfl rfl (TO_pure rfl (PV.cast (PV_len_string Try.underlying9 rfl) es) ?_)
              refine TL_yes rfl rfl rfl (TO_pure rfl (PV.cast (PV_bin rfl rfl bin_sub) e68) ?_)
              refine TL_yes rfl rfl rfl (TO_pure rfl (PV_move rfl) ?_)
              refine TL_yes rfl rfl rfl (TO_pure rfl (PV.cast (PV_bin rfl rfl bin_add) e44) ?_)
              refine TL_yes rfl rfl rfl (TO_pure rfl (PV.cast (PV_sliceStr (l := seen + 1 - s.length) (h := seen + 1) Try.underlying9 rfl ⟨_, rfl⟩ ⟨_, rfl⟩ (by omega) (by omega)) e71) ?_)
              refine TL_yes rfl rfl rfl (TO_pure rfl (PV_move rfl) ?_)
              refine TL_yes rfl rfl rfl (TO_pure rfl (PV.cast (PV_bin rfl rfl bin_str_eql) e73) ?_)
              refine TL_p (PV_pickAnd rfl rfl rfl) ?_
              refine TL_p (PV_assign rfl) ?_
              refine TL_nil ?_
              refine T_seq ?_
              refine T_seq ?_
              refine T_region ?_
              refine TL_p (PV_move rfl) ?_
              refine TL_p (PV_move rfl) ?_
              refine TL_p (PV.cast (PV_bin rfl rfl (bin_bool_neq Try.underlying4)) rfl) ?_
              refine TL_nil ?_
              refine T_else rfl (by rfl) ?_
              refine T_skip ?_
              refine T_region ?_
              refine TL_p (PV_move rfl) ?_
              refine TL_p (PV_move rfl) ?_
              refine TL_yes rfl rfl rfl (TO_pure rfl (PV_move rfl) ?_)
              refine TL_p (PV_pickOr rfl rfl rfl) ?_
              refine TL_p (PV_assign rfl) ?_
              refine TL_nil ?_
              refine T_region ?_
              refine TL_p (PV_move rfl) ?_
              refine TL_p (PV.cast (PV_bin rfl rfl bin_add) e44) ?_
              refine TL_p (PV_assign rfl) ?_
              refine TL_nil ?_
              refine ?L31
              all_goals exact ⟨seen + 1, true, seen + 1, vs2, N2, ⟨by omega, hZ.trans hN2, (fun h => nomatch h)⟩, by omega, (by repeat (first | exact FrSub.nil _ | refine FrSub.cons rfl ?_)), Has.of_sub (by repeat (first | exact Sb.r | exact Sb.ar | exact Sb.al | apply Sb.c | apply Sb.d | refine Sb.t ?_))⟩
            · have hsa : standsAt s u seen = false := by unfold standsAt; rw [decide_eq_false he, Bool.and_false]
              rw [hsa] at hb
              have e73 : Value.bool (decide (strOfNums (sub u (seen + 1 - s.length) (seen + 1)) = strOfNums s)) = .bool false := congrArg Value.bool (decide_eq_false fun h => he (str_inj (fun x hx => huu x (sub_mem hx)) hus h))
              refine T_seq ?_
              refine T_seq ?_
              refine T_region ?_
              refine TL_p (PV_move rfl) ?_
              refine TL_p (PV_move rfl) ?_
              refine TL_p (PV.cast (PV_len_string Try.underlying9 rfl) eu) ?_
              refine TL_p (PV_bin rfl rfl bin_lss) ?_
              refine TL_nil ?_
              refine T_then rfl (by exact decide_eq_true (by omega)) ?_
              refine T_skip ?_
              refine T_seq ?_
              refine T_block ?_
              refine T_seq ?_
              refine T_region ?_
              refine TL_p (PV_move rfl) ?_
              refine TL_p (PV_move rfl) ?_
              refine TL_p (PV_move rfl) ?_
              refine TL_p (PV.cast (PV_indexNums Try.underlying9 rfl rfl rfl huu hku) e49) ?_
              refine TL_cons rfl (TO_Put (cb := cb) (V := .tuple #[.int .i64 0, .bool false]) (List.Perm.refl _) (by omega) (by omega) (by omega) hW hb rfl rfl rfl fun vs2 N2 hN2 hW2 => ?_)
              refine TL_p (PV_move rfl) ?_
              refine TL_p (PV_extract rfl rfl) ?_
              refine TL_p (PV_extract rfl rfl) ?_
              refine TL_p (PV_assign rfl) ?_
              refine TL_p (PV_assign rfl) ?_
              refine TL_nil ?_
              refine T_seq ?_
              refine T_region ?_
              refine TL_p (PV_move rfl) ?_
              refine TL_p (PV_not rfl) ?_
              refine TL_p (PV_move rfl) ?_
              refine TL_yes rfl rfl rfl (TO_pure rfl (PV_move rfl) ?_)
              refine TL_yes rfl rfl rfl (TO_pure rfl (PV.cast (PV_bin rfl rfl bin_add) e44) ?_)
              refine TL_yes rfl rfl rfl (TO_pure rfl (PV_move rfl) ?_)
              refine TL_yes rfl rfl rfl (TO_pure rfl (PV.cast (PV_len_string Try.underlying9 rfl) es) ?_)
              refine TL_yes rfl rfl rfl (TO_pure rfl (PV.cast (PV_bin rfl rfl bin_geq) e60) ?_)
              refine TL_p (PV_pickAnd rfl rfl rfl) ?_
              refine TL_p (PV_move rfl) ?_
              refine TL_yes rfl rfl rfl (TO_pure rfl (PV_move rfl) ?_)
              refine TL_yes rfl rfl rfl (TO_pure rfl (PV_move rfl) ?_)
              refine TL_yes rfl rfl rfl (TO_pure rfl (PV.cast (PV_bin rfl rfl bin_add) e44) ?_)
              refine TL_yes rfl rfl rfl (TO_pure rfl (PV_move rfl) ?_)
              refine TL_yes rfl rfl rfl (TO_pure rfl (PV.cast (PV_len_string Try.underlying9 rfl) es) ?_)
              refine TL_yes rfl rfl rfl (TO_pure rfl (PV.cast (PV_bin rfl rfl bin_sub) e68) ?_)
              refine TL_yes rfl rfl rfl (TO_pure rfl (PV_move rfl) ?_)
              refine TL_yes rfl rfl rfl (TO_pure rfl (PV.cast (PV_bin rfl rfl bin_add) e44) ?_)
              refine TL_yes rfl rfl rfl (TO_pure rfl (PV.cast (PV_sliceStr (l := seen + 1 - s.length) (h := seen + 1) Try.underlying9 rfl ⟨_, rfl⟩ ⟨_, rfl⟩ (by omega) (by omega)) e71) ?_)
              refine TL_yes rfl rfl rfl (TO_pure rfl (PV_move rfl) ?_)
              refine TL_yes rfl rfl rfl (TO_pure rfl (PV.cast (PV_bin rfl rfl bin_str_eql) e73) ?_)
              refine TL_p (PV_pickAnd rfl rfl rfl) ?_
              refine TL_p (PV_assign rfl) ?_
              refine TL_nil ?_
              refine T_seq ?_
              refine T_seq ?_
              refine T_region ?_
              refine TL_p (PV_move rfl) ?_
              refine TL_p (PV_move rfl) ?_
              refine TL_p (PV.cast (PV_bin rfl rfl (bin_bool_neq Try.underlying4)) rfl) ?_
              refine TL_nil ?_
              refine T_else rfl (by rfl) ?_
              refine T_skip ?_
              refine T_region ?_
              refine TL_p (PV_move rfl) ?_
              refine TL_p (PV_move rfl) ?_
              refine TL_yes rfl rfl rfl (TO_pure rfl (PV_move rfl) ?_)
              refine TL_p (PV_pickOr rfl rfl rfl) ?_
              refine TL_p (PV_assign rfl) ?_
              refine TL_nil ?_
              refine T_region ?_
              refine TL_p (PV_move rfl) ?_
              refine TL_p (PV.cast (PV_bin rfl rfl bin_add) e44) ?_
              refine TL_p (PV_assign rfl) ?_
              refine TL_nil ?_
              refine ?L41
              all_goals exact ⟨seen + 1, false, seen + 1, vs2, N2, ⟨by omega, hZ.trans hN2, fun _ => ⟨rfl, by rw [← hpu]; exact hW2⟩⟩, by omega, (by repeat (first | exact FrSub.nil _ | refine FrSub.cons rfl ?_)), Has.of_sub (by repeat (first | exact Sb.r | exact Sb.ar | exact Sb.al | apply Sb.c | apply Sb.d | refine Sb.t ?_))⟩
          · have hsa : standsAt s u seen = false := by unfold standsAt; rw [decide_eq_false hge, Bool.false_and]
            rw [hsa] at hb
            have e60 : Value.bool (decide (((seen + 1 : Nat) : Int) ≥ ((s.length : Nat) : Int))) = .bool false := congrArg Value.bool (decide_eq_false (by omega))
            refine T_seq ?_
            refine T_seq ?_
            refine T_region ?_
            refine TL_p (PV_move rfl) ?_
            refine TL_p (PV_move rfl) ?_
            refine TL_p (PV.cast (PV_len_string Try.underlying9 rfl) eu) ?_
            refine TL_p (PV_bin rfl rfl bin_lss) ?_
            refine TL_nil ?_
            refine T_then rfl (by exact decide_eq_true (by omega)) ?_
            refine T_skip ?_
            refine T_seq ?_
            refine T_block ?_
            refine T_seq ?_
            refine T_region ?_
            refine TL_p (PV_move rfl) ?_
            refine TL_p (PV_move rfl) ?_
            refine TL_p (PV_move rfl) ?_
            refine TL_p (PV.cast (PV_indexNums Try.underlying9 rfl rfl rfl huu hku) e49) ?_
            refine TL_cons rfl (TO_Put (cb := cb) (V := .tuple #[.int .i64 0, .bool false]) (List.Perm.refl _) (by omega) (by omega) (by omega) hW hb rfl rfl rfl fun vs2 N2 hN2 hW2 => ?_)
            refine TL_p (PV_move rfl) ?_
            refine TL_p (PV_extract rfl rfl) ?_
            refine TL_p (PV_extract rfl rfl) ?_
            refine TL_p (PV_assign rfl) ?_
            refine TL_p (PV_assign rfl) ?_
            refine TL_nil ?_
            refine T_seq ?_
            refine T_region ?_
            refine TL_p (PV_move rfl) ?_
            refine TL_p (PV_not rfl) ?_
            refine TL_p (PV_move rfl) ?_
            refine TL_yes rfl rfl rfl (TO_pure rfl (PV_move rfl) ?_)
            refine TL_yes rfl rfl rfl (TO_pure rfl (PV.cast (PV_bin rfl rfl bin_add) e44) ?_)
            refine TL_yes rfl rfl rfl (TO_pure rfl (PV_move rfl) ?_)
            refine TL_yes rfl rfl rfl (TO_pure rfl (PV.cast (PV_len_string Try.underlying9 rfl) es) ?_)
            refine TL_yes rfl rfl rfl (TO_pure rfl (PV.cast (PV_bin rfl rfl bin_geq) e60) ?_)
            refine TL_p (PV_pickAnd rfl rfl rfl) ?_
            refine TL_p (PV_move rfl) ?_
            refine TL_no (b := false) rfl rfl rfl rfl ?_
            refine TL_no (b := false) rfl rfl rfl rfl ?_
            refine TL_no (b := false) rfl rfl rfl rfl ?_
            refine TL_no (b := false) rfl rfl rfl rfl ?_
            refine TL_no (b := false) rfl rfl rfl rfl ?_
            refine TL_no (b := false) rfl rfl rfl rfl ?_
            refine TL_no (b := false) rfl rfl rfl rfl ?_
            refine TL_no (b := false) rfl rfl rfl rfl ?_
            refine TL_no (b := false) rfl rfl rfl rfl ?_
            refine TL_no (b := false) rfl rfl rfl rfl ?_
            refine TL_no (b := false) rfl rfl rfl rfl ?_
            refine TL_p (PV_pickF rfl (by first | assumption | rfl | (simp; done) | (simp; omega) | (simp [*]; done) | (simp [*]; omega)) rfl rfl) ?_
            refine TL_p (PV_assign rfl) ?_
            refine TL_nil ?_
            refine T_seq ?_
            refine T_seq ?_
            refine T_region ?_
            refine TL_p (PV_move rfl) ?_
            refine TL_p (PV_move rfl) ?_
            refine TL_p (PV.cast (PV_bin rfl rfl (bin_bool_neq Try.underlying4)) rfl) ?_
            refine TL_nil ?_
            refine T_else rfl (by rfl) ?_
            refine T_skip ?_
            refine T_region ?_
            refine TL_p (PV_move rfl) ?_
            refine TL_p (PV_move rfl) ?_
            refine TL_yes rfl rfl rfl (TO_pure rfl (PV_move rfl) ?_)
            refine TL_p (PV_pickOr rfl rfl rfl) ?_
            refine TL_p (PV_assign rfl) ?_
            refine TL_nil ?_
            refine T_region ?_
            refine TL_p (PV_move rfl) ?_
            refine TL_p (PV.cast (PV_bin rfl rfl bin_add) e44) ?_
            refine TL_p (PV_assign rfl) ?_
            refine TL_nil ?_
            refine ?L51
            all_goals exact ⟨seen + 1, false, seen + 1, vs2, N2, ⟨by omega, hZ.trans hN2, fun _ => ⟨rfl, by rw [← hpu]; exact hW2⟩⟩, by omega, (by repeat (first | exact FrSub.nil _ | refine FrSub.cons rfl ?_)), Has.of_sub (by repeat (first | exact Sb.r | exact Sb.ar | exact Sb.al | apply Sb.c | apply Sb.d | refine Sb.t ?_))⟩
      · obtain rfl : k = u.length := by omega
        refine T_seq ?_
        refine T_seq ?_
        refine T_region ?_
        refine TL_p (PV_move rfl) ?_
        refine TL_p (PV_move rfl) ?_
        refine TL_p (PV.cast (PV_len_string Try.underlying9 rfl) eu) ?_
        refine TL_p (PV_bin rfl rfl bin_lss) ?_
        refine TL_nil ?_
        refine T_else rfl (by (simp; done)) ?_
        refine T_exit ?_
        refine T_seq ?_
        refine T_region ?_
        refine TL_p (PV_move rfl) ?_
        refine TL_cons rfl (TO_call0 call37 rfl rfl (Over_t) ?_)
        rintro v83_6003 H83_6003 ⟨rfl, rfl⟩
        refine TL_p (PV_move rfl) ?_
        refine TL_p (PV.cast (PV_bin rfl rfl (bin_bool_eql Try.underlying4)) (by rw [beq_self_eq_true])) ?_
        refine TL_p (PV_assign rfl) ?_
        refine TL_nil ?_
        refine ?L61
        all_goals exact T_ret (ret_ret (ResV_one rfl rfl) ⟨H, hZ.trans (by repeat (first | exact Sb.r | exact Sb.ar | exact Sb.al | apply Sb.c | apply Sb.d | refine Sb.t ?_)), rfl, rfl⟩)
end
end Go.Proofs.Ytkgdphbccagjcaa.SL
