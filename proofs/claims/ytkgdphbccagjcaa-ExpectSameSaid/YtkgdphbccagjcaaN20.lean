import Derived.Test.YtkgdphbccagjcaaN19
/- Behind a pattern nothing more is seen: the law. No statement is proved here. -/
set_option linter.unusedVariables false
set_option linter.unusedSimpArgs false
set_option maxRecDepth 100000
set_option maxHeartbeats 8000000
namespace Go.Proofs.Ytkgdphbccagjcaa.SL
open Go Go.RowKit
theorem stands_self {s : List Int} (h0 : 1 ≤ s.length) : standsAt s s (s.length - 1) = true := by
  unfold standsAt
  rw [show s.length - 1 + 1 = s.length by omega, Nat.sub_self, sub_zero, List.take_length]
  simp
section
variable {w0 : World} {B n : Nat} {H : List Chunk}
theorem ExpectOver_t {sb ub : ByteArray} (hsl : sb.size ≤ 140737488351232) (hul : ub.size ≤ 140737488351232) :
    TCall Try.prog w0 B 16 #[.string sb, .string ub] (fun r H' => r = .bool true ∧ H' = H) H := by
  obtain ⟨s0, hus0, rfl⟩ := str_of sb
  obtain ⟨u, huu, rfl⟩ := str_of ub
  rw [str_len] at hsl hul
  obtain ⟨m, hm⟩ : ∃ m, min (s0.length + 1) 20 = m := ⟨_, rfl⟩
  obtain ⟨s1, hs1⟩ : ∃ s1, s0 ++ [120] = s1 := ⟨_, rfl⟩
  obtain ⟨s, hs⟩ : ∃ s, sub s1 0 m = s := ⟨_, rfl⟩
  have hl1 : s1.length = s0.length + 1 := by rw [← hs1]; simp
  have hus1 : U8s s1 := fun x hx => by
    rw [← hs1] at hx
    rcases List.mem_append.1 hx with h | h
    · exact hus0 x h
    · simp at h; omega
  have hus : U8s s := fun x hx => hus1 x (sub_mem (hs ▸ hx))
  have hsl2 : s.length = m := by rw [← hs, sub_len (by omega) (by omega)]; omega
  have hx1 : strOfNums [120] = ⟨#[120]⟩ := by kernel_rfl
  have e15 : Value.string (strOfNums (s0 ++ [120])) = .string (strOfNums s1) := by rw [hs1]
  have e17 : Value.int .i64 (((strOfNums s0).size : Nat) : Int) = .int .i64 ((s0.length : Nat) : Int) := by rw [str_len]
  have e18 : Value.int .i64 (IntKind.i64.wrap ((s0.length : Int) + 1)) = .int .i64 ((s0.length + 1 : Nat) : Int) := wr64n _ (by push_cast; rfl) (by omega)
  have e19 : Value.int .i64 (min ((s0.length + 1 : Nat) : Int) 20) = .int .i64 ((m : Nat) : Int) := by congr 1; omega
  have e20 : Value.string ((strOfNums s1).extract 0 m) = .string (strOfNums s) := by rw [← hs, str_sub]
  have es : Value.int .i64 (((strOfNums s).size : Nat) : Int) = .int .i64 ((s.length : Nat) : Int) := by rw [str_len]
  have eu : Value.int .i64 (((strOfNums u).size : Nat) : Int) = .int .i64 ((u.length : Nat) : Int) := by rw [str_len]
  have hzu := str_len u
  have hzs := str_len s1
  have hpat := pat_quoted hus (by omega) (by omega)
  have hst : strs [quoteL s] = [.string (strOfNums (quoteL s))] := rfl
  have hqp : ∀ i, i < 1 → PatOk ([quoteL s].getD i []) ([chainT s].getD i .nothing) := fun i hi => by
    obtain rfl : i = 0 := by omega
    exact hpat
  refine TCall_intro (args := [_, _]) Try.func16 rfl Try.ntmps16 (Nat.le_of_ble_eq_true rfl) ?_
  refine T_seq ?_
  refine T_region ?_
  refine TL_p (PV_assign rfl) ?_
  refine TL_nil ?_
  refine T_seq ?_
  refine T_seq ?_
  refine T_region ?_
  refine TL_cons rfl (TO_call0 call34 rfl rfl (awake09s) ?_)
  rintro v12_3 H12_3 ⟨rfl, rfl⟩
  refine TL_p (PV_not rfl) ?_
  refine TL_nil ?_
  refine T_else rfl (by rfl) ?_
  refine T_skip ?_
  refine T_seq ?_
  refine T_region ?_
  refine TL_p (PV_move rfl) ?_
  refine TL_p (PV.cast (PV_bin rfl rfl (bin_cat rfl hx1 (by simp; omega))) e15) ?_
  refine TL_p (PV_move rfl) ?_
  refine TL_p (PV.cast (PV_len_string Try.underlying9 rfl) e17) ?_
  refine TL_p (PV.cast (PV_bin rfl rfl bin_add) e18) ?_
  refine TL_p (PV.cast (PV_min rfl rfl) e19) ?_
  refine TL_p (PV.cast (PV_sliceStr (l := 0) (h := m) Try.underlying9 rfl rfl ⟨_, rfl⟩ (by omega) (by omega)) e20) ?_
  refine TL_p (PV_assign rfl) ?_
  refine TL_nil ?_
  refine T_seq ?_
  refine T_region ?_
  refine TL_p (PV_move rfl) ?_
  refine TL_cons rfl (TO_eqD call24 (Quote_t hus (by omega)) rfl rfl _ (List.Sublist.refl _) ?_)
  refine TL_cons rfl (TO_bs (cs := [_]) Try.underlying67 zs9 (by decide) rfl rfl rfl rfl rfl rfl fun g5 => ?_)
  refine ?L1
  case L1 =>
    refine TL_cons rfl (TO_OfW (qs := [quoteL s]) (ts := [chainT s]) (m := 1) (c := 1) (A := some ⟨g5, 0, none⟩) (by rw [hst]; exact Shows.at 0 rfl) rfl (by omega) (by omega) (by omega) rfl hqp rfl rfl fun gw gT gA cT cA gs vs0 Z0 hZ0 hW0 => ?_)
    have hHZ : H.Sublist Z0 := (List.sublist_cons_self _ _).trans hZ0
    clear hZ0
    refine TL_p (PV_move rfl) ?_
    refine TL_p (PV_extract rfl rfl) ?_
    refine TL_p (PV_extract rfl rfl) ?_
    refine TL_p (PV_assign rfl) ?_
    refine TL_p (PV_assign rfl) ?_
    refine TL_nil ?_
    refine T_seq ?_
    refine T_seq ?_
    refine T_region ?_
    refine TL_p (PV_move rfl) ?_
    refine TL_p (PV_bin rfl rfl (bin_nil_nnil Try.underlying42)) ?_
    refine TL_p (PV_move rfl) ?_
    refine TL_yes rfl rfl rfl (TO_pure rfl (PV_move rfl) ?_)
    refine TL_yes rfl rfl rfl (TO_pure rfl (PV_bin rfl rfl (bin_ptr_nil Try.underlying62)) ?_)
    refine TL_p (PV_pickOr rfl rfl rfl) ?_
    refine TL_nil ?_
    refine T_else rfl (by rfl) ?_
    refine T_skip ?_
    refine T_seq ?_
    refine T_seq ?_
    refine T_region ?_
    refine TL_p (PV_assign rfl) ?_
    refine TL_nil ?_
    refine T_block ?_
    refine ?L11
    case L11 =>
      refine T_loopP5 (fun (k : Nat) (ov : Bool) (seen : Nat) (vs : List Value) (Z : List Chunk) => k ≤ s.length ∧ H.Sublist Z ∧ (ov = false → seen = k ∧ k < s.length ∧ Wk (WH w0 B Z) [chainT s] gs [seqL (chainT s) s k] vs 1) ∧ (ov = true → 1 ≤ seen ∧ seen ≤ k)) (fun k _ _ _ _ => s.length - k) (fun k ov seen vs Z => [(0, .string (strOfNums s)), (1, .string (strOfNums u)), (5, .pointer (some ⟨gw, 0, none⟩)), (7, .int .i64 (k : Int))]) (fun k ov seen vs Z => wC gw gT gA 1 cT cA seen ov :: tC gT 1 cT gs :: aC gA 1 cA vs :: Z) 0 false 0 vs0 Z0 ⟨Nat.zero_le _, hHZ, fun _ => ⟨rfl, by omega, hW0⟩, (fun h => nomatch h)⟩ (by repeat (first | exact FrSub.nil _ | refine FrSub.cons rfl ?_)) (Has.of_sub (by repeat (first | exact Sb.r | exact Sb.ar | exact Sb.al | apply Sb.c | apply Sb.d | refine Sb.t ?_))) ?_
      clear hW0 hHZ
      rintro k ov seen vs Z ⟨hk, hZ, hov, hot⟩
      by_cases hku : k < s.length
      · have e39 : Value.int .i64 (IntKind.i64.wrap ((k : Int) + 1)) = .int .i64 ((k + 1 : Nat) : Int) := wr64n _ (by push_cast; rfl) (by omega)
        have hrd := rd_u8 hus (k : Int)
        obtain ⟨cb, hcb⟩ : ∃ cb : Nat, rd s (k : Int) = (cb : Int) := Int.eq_ofNat_of_zero_le hrd.1
        have e43 : Value.int .u8 (rd s (k : Int)) = .int .u8 (cb : Int) := by rw [hcb]
        cases ov with
        | true =>
          have hot2 := hot rfl
          refine T_seq ?_
          refine T_seq ?_
          refine T_region ?_
          refine TL_p (PV_move rfl) ?_
          refine TL_p (PV_move rfl) ?_
          refine TL_p (PV.cast (PV_len_string Try.underlying9 rfl) es) ?_
          refine TL_p (PV_bin rfl rfl bin_lss) ?_
          refine TL_nil ?_
          refine T_then rfl (by exact decide_eq_true (by omega)) ?_
          refine T_skip ?_
          refine T_seq ?_
          refine T_block ?_
          refine T_region ?_
          refine TL_p (PV_move rfl) ?_
          refine TL_p (PV_move rfl) ?_
          refine TL_p (PV_move rfl) ?_
          refine TL_p (PV.cast (PV_indexNums Try.underlying9 rfl rfl rfl hus hku) e43) ?_
          refine TL_cons rfl (TO_PutOver (cb := cb) (List.Perm.refl _) rfl rfl ?_)
          refine TL_nil ?_
          refine T_region ?_
          refine TL_p (PV_move rfl) ?_
          refine TL_p (PV.cast (PV_bin rfl rfl bin_add) e39) ?_
          refine TL_p (PV_assign rfl) ?_
          refine TL_nil ?_
          refine ?L21
          all_goals exact ⟨k + 1, true, seen, vs, Z, ⟨by omega, hZ, (fun h => nomatch h), fun _ => ⟨hot2.1, by omega⟩⟩, by omega, (by repeat (first | exact FrSub.nil _ | refine FrSub.cons rfl ?_)), Has.of_sub (by repeat (first | exact Sb.r | exact Sb.ar | exact Sb.al | apply Sb.c | apply Sb.d | refine Sb.t ?_))⟩
        | false =>
          obtain ⟨rfl, -, hW⟩ := hov rfl
          have hb := best1 (chainT s) (seqL (chainT s) s seen) cb
          have hsi := stands_iff hus hus (by omega) hku
          rw [hcb, Int.toNat_natCast] at hsi
          rw [hsi] at hb
          have hseq : [stepL (chainT s) (seqL (chainT s) s seen) cb true] = [seqL (chainT s) s (seen + 1)] := by
            show _ = [stepL (chainT s) (seqL (chainT s) s seen) (rd s (seen : Int)).toNat true]
            rw [hcb, Int.toNat_natCast]
          have hpu := put1 (chainT s) (seqL (chainT s) s seen) cb
          rw [hseq] at hpu
          cases hsa : standsAt s s seen with
          | true =>
            rw [hsa] at hb
            refine T_seq ?_
            refine T_seq ?_
            refine T_region ?_
            refine TL_p (PV_move rfl) ?_
            refine TL_p (PV_move rfl) ?_
            refine TL_p (PV.cast (PV_len_string Try.underlying9 rfl) es) ?_
            refine TL_p (PV_bin rfl rfl bin_lss) ?_
            refine TL_nil ?_
            refine T_then rfl (by exact decide_eq_true (by omega)) ?_
            refine T_skip ?_
            refine T_seq ?_
            refine T_block ?_
            refine T_region ?_
            refine TL_p (PV_move rfl) ?_
            refine TL_p (PV_move rfl) ?_
            refine TL_p (PV_move rfl) ?_
            refine TL_p (PV.cast (PV_indexNums Try.underlying9 rfl rfl rfl hus hku) e43) ?_
            refine TL_cons rfl (TO_Put (cb := cb) (V := .tuple #[.int .i64 0, .bool true]) (List.Perm.refl _) (by omega) (by omega) (by omega) hW hb rfl rfl rfl fun vs2 N2 hN2 hW2 => ?_)
            refine TL_nil ?_
            refine T_region ?_
            refine TL_p (PV_move rfl) ?_
            refine TL_p (PV.cast (PV_bin rfl rfl bin_add) e39) ?_
            refine TL_p (PV_assign rfl) ?_
            refine TL_nil ?_
            refine ?L31
            all_goals exact ⟨seen + 1, true, seen + 1, vs2, N2, ⟨by omega, hZ.trans hN2, (fun h => nomatch h), fun _ => ⟨by omega, by omega⟩⟩, by omega, (by repeat (first | exact FrSub.nil _ | refine FrSub.cons rfl ?_)), Has.of_sub (by repeat (first | exact Sb.r | exact Sb.ar | exact Sb.al | apply Sb.c | apply Sb.d | refine Sb.t ?_))⟩
          | false =>
            rw [hsa] at hb
            have hlt : seen + 1 < s.length := by
              rcases Nat.lt_or_ge (seen + 1) s.length with h | h
              · exact h
              · have := stands_self (s := s) (by omega)
                rw [show s.length - 1 = seen by omega, hsa] at this
                cases this
            refine T_seq ?_
            refine T_seq ?_
            refine T_region ?_
            refine TL_p (PV_move rfl) ?_
            refine TL_p (PV_move rfl) ?_
            refine TL_p (PV.cast (PV_len_string Try.underlying9 rfl) es) ?_
            refine TL_p (PV_bin rfl rfl bin_lss) ?_
            refine TL_nil ?_
            refine T_then rfl (by exact decide_eq_true (by omega)) ?_
            refine T_skip ?_
            refine T_seq ?_
            refine T_block ?_
            refine T_region ?_
            refine TL_p (PV_move rfl) ?_
            refine TL_p (PV_move rfl) ?_
            refine TL_p (PV_move rfl) ?_
            refine TL_p (PV.cast (PV_indexNums Try.underlying9 rfl rfl rfl hus hku) e43) ?_
            refine TL_cons rfl (TO_Put (cb := cb) (V := .tuple #[.int .i64 0, .bool false]) (List.Perm.refl _) (by omega) (by omega) (by omega) hW hb rfl rfl rfl fun vs2 N2 hN2 hW2 => ?_)
            refine TL_nil ?_
            refine T_region ?_
            refine TL_p (PV_move rfl) ?_
            refine TL_p (PV.cast (PV_bin rfl rfl bin_add) e39) ?_
            refine TL_p (PV_assign rfl) ?_
            refine TL_nil ?_
            refine ?L41
            all_goals exact ⟨seen + 1, false, seen + 1, vs2, N2, ⟨by omega, hZ.trans hN2, fun _ => ⟨rfl, hlt, by rw [← hpu]; exact hW2⟩, (fun h => nomatch h)⟩, by omega, (by repeat (first | exact FrSub.nil _ | refine FrSub.cons rfl ?_)), Has.of_sub (by repeat (first | exact Sb.r | exact Sb.ar | exact Sb.al | apply Sb.c | apply Sb.d | refine Sb.t ?_))⟩
      · obtain rfl : k = s.length := by omega
        have hovt : ov = true := by
          cases ov with
          | true => rfl
          | false => have := (hov rfl).2.1; omega
        subst hovt
        obtain ⟨h1, h2⟩ := hot rfl
        have e52 : Value.bool (decide ((seen : Int) < 1)) = .bool false := congrArg Value.bool (decide_eq_false (by omega))
        have e58 : Value.bool (decide ((seen : Int) > ((s.length : Nat) : Int))) = .bool false := congrArg Value.bool (decide_eq_false (by omega))
        refine T_seq ?_
        refine T_seq ?_
        refine T_region ?_
        refine TL_p (PV_move rfl) ?_
        refine TL_p (PV_move rfl) ?_
        refine TL_p (PV.cast (PV_len_string Try.underlying9 rfl) es) ?_
        refine TL_p (PV_bin rfl rfl bin_lss) ?_
        refine TL_nil ?_
        refine T_else rfl (by (simp; done)) ?_
        refine T_exit ?_
        refine T_seq ?_
        refine T_region ?_
        refine TL_p (PV_move rfl) ?_
        refine TL_cons rfl (TO_call0 call38 rfl rfl (Seen_t) ?_)
        rintro v46_5003 H46_5003 ⟨rfl, rfl⟩
        refine TL_p (PV_assign rfl) ?_
        refine TL_nil ?_
        refine T_seq ?_
        refine T_seq ?_
        refine T_region ?_
        refine TL_p (PV_move rfl) ?_
        refine TL_cons rfl (TO_call0 call37 rfl rfl (Over_t) ?_)
        rintro v48_5006 H48_5006 ⟨rfl, rfl⟩
        refine TL_p (PV_not rfl) ?_
        refine TL_p (PV_move rfl) ?_
        refine TL_yes rfl rfl rfl (TO_pure rfl (PV_move rfl) ?_)
        refine TL_yes rfl rfl rfl (TO_pure rfl (PV.cast (PV_bin rfl rfl bin_lss) e52) ?_)
        refine TL_p (PV_pickOr rfl rfl rfl) ?_
        refine TL_p (PV_move rfl) ?_
        refine TL_yes rfl rfl rfl (TO_pure rfl (PV_move rfl) ?_)
        refine TL_yes rfl rfl rfl (TO_pure rfl (PV_move rfl) ?_)
        refine TL_yes rfl rfl rfl (TO_pure rfl (PV.cast (PV_len_string Try.underlying9 rfl) es) ?_)
        refine TL_yes rfl rfl rfl (TO_pure rfl (PV.cast (PV_bin rfl rfl bin_gtr) e58) ?_)
        refine TL_p (PV_pickOr rfl rfl rfl) ?_
        refine TL_nil ?_
        refine T_else rfl (by rfl) ?_
        refine T_skip ?_
        refine T_seq ?_
        refine T_seq ?_
        refine T_region ?_
        refine TL_p (PV_assign rfl) ?_
        refine TL_nil ?_
        refine T_block ?_
        refine ?L51
        case L51 =>
          refine T_loopP1 (fun (i : Nat) => i ≤ u.length) (fun i => u.length - i) (fun i => [(1, .string (strOfNums u)), (5, .pointer (some ⟨gw, 0, none⟩)), (8, .int .i64 (seen : Int)), (9, .int .i64 (i : Int))]) (fun i => wC gw gT gA 1 cT cA seen true :: tC gT 1 cT gs :: aC gA 1 cA vs :: Z) 0 (Nat.zero_le _) (by repeat (first | exact FrSub.nil _ | refine FrSub.cons rfl ?_)) (Has.of_sub (by repeat (first | exact Sb.r | exact Sb.ar | exact Sb.al | apply Sb.c | apply Sb.d | refine Sb.t ?_))) ?_
          intro i hi
          by_cases hiu : i < u.length
          · have e65 : Value.int .i64 (IntKind.i64.wrap ((i : Int) + 1)) = .int .i64 ((i + 1 : Nat) : Int) := wr64n _ (by push_cast; rfl) (by omega)
            have hrd := rd_u8 huu (i : Int)
            obtain ⟨cb, hcb⟩ : ∃ cb : Nat, rd u (i : Int) = (cb : Int) := Int.eq_ofNat_of_zero_le hrd.1
            have e70 : Value.int .u8 (rd u (i : Int)) = .int .u8 (cb : Int) := by rw [hcb]
            refine T_seq ?_
            refine T_seq ?_
            refine T_region ?_
            refine TL_p (PV_move rfl) ?_
            refine TL_p (PV_move rfl) ?_
            refine TL_p (PV.cast (PV_len_string Try.underlying9 rfl) eu) ?_
            refine TL_p (PV_bin rfl rfl bin_lss) ?_
            refine TL_nil ?_
            refine T_then rfl (by exact decide_eq_true (by omega)) ?_
            refine T_skip ?_
            refine T_seq ?_
            refine T_block ?_
            refine T_seq ?_
            refine T_region ?_
            refine TL_p (PV_move rfl) ?_
            refine TL_p (PV_move rfl) ?_
            refine TL_p (PV_move rfl) ?_
            refine TL_p (PV.cast (PV_indexNums Try.underlying9 rfl rfl rfl huu hiu) e70) ?_
            refine TL_cons rfl (TO_PutOver (cb := cb) (List.Perm.refl _) rfl rfl ?_)
            refine TL_p (PV_move rfl) ?_
            refine TL_p (PV_extract rfl rfl) ?_
            refine TL_p (PV_extract rfl rfl) ?_
            refine TL_p (PV_assign rfl) ?_
            refine TL_p (PV_assign rfl) ?_
            refine TL_nil ?_
            refine T_seq ?_
            refine T_region ?_
            refine TL_p (PV_move rfl) ?_
            refine TL_nil ?_
            refine T_else rfl (by rfl) ?_
            refine T_skip ?_
            refine T_region ?_
            refine TL_p (PV_move rfl) ?_
            refine TL_p (PV.cast (PV_bin rfl rfl bin_add) e65) ?_
            refine TL_p (PV_assign rfl) ?_
            refine TL_nil ?_
            refine ?L61
            all_goals exact ⟨i + 1, by omega, by omega, (by repeat (first | exact FrSub.nil _ | refine FrSub.cons rfl ?_)), Has.of_sub (by repeat (first | exact Sb.r | exact Sb.ar | exact Sb.al | apply Sb.c | apply Sb.d | refine Sb.t ?_))⟩
          · obtain rfl : i = u.length := by omega
            refine T_seq ?_
            refine T_seq ?_
            refine T_region ?_
            refine TL_p (PV_move rfl) ?_
            refine TL_p (PV_move rfl) ?_
            refine TL_p (PV.cast (PV_len_string Try.underlying9 rfl) eu) ?_
            refine TL_p (PV_bin rfl rfl bin_lss) ?_
            refine TL_nil ?_
            refine T_else rfl (by (simp; done)) ?_
            refine T_exit ?_
            refine T_seq ?_
            refine T_region ?_
            refine TL_p (PV_move rfl) ?_
            refine TL_cons rfl (TO_call0 call37 rfl rfl (Over_t) ?_)
            rintro v76_7003 H76_7003 ⟨rfl, rfl⟩
            refine TL_p (PV_move rfl) ?_
            refine TL_yes rfl rfl rfl (TO_pure rfl (PV_move rfl) ?_)
            refine TL_yes rfl rfl rfl (TO_call0 call38 rfl rfl (Seen_t) ?_)
            rintro v79_7006 H79_7006 ⟨rfl, rfl⟩
            refine TL_yes rfl rfl rfl (TO_pure rfl (PV_move rfl) ?_)
            refine TL_yes rfl rfl rfl (TO_pure rfl (PV.cast (PV_bin rfl rfl bin_eql) (by rw [beq_self_eq_true])) ?_)
            refine TL_p (PV_pickAnd rfl rfl rfl) ?_
            refine TL_p (PV_assign rfl) ?_
            refine TL_nil ?_
            refine ?L71
            all_goals exact T_ret (ret_ret (ResV_one rfl rfl) ⟨H, hZ.trans (by repeat (first | exact Sb.r | exact Sb.ar | exact Sb.al | apply Sb.c | apply Sb.d | refine Sb.t ?_)), rfl, rfl⟩)
end
end Go.Proofs.Ytkgdphbccagjcaa.SL
