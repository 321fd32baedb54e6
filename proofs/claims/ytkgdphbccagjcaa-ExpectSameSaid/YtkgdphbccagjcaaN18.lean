import Derived.Test.YtkgdphbccagjcaaN9
import Derived.Test.YtkgdphbccagjcaaN11
import Derived.Test.YtkgdphbccagjcaaN17
/- A quoted text ends first where it first stands: the law. No statement is proved here. -/
set_option linter.unusedVariables false
set_option linter.unusedSimpArgs false
set_option maxRecDepth 100000
set_option maxHeartbeats 8000000
namespace Go.Proofs.Ytkgdphbccagjcaa.SL
open Go Go.RowKit
section
variable {w0 : World} {B n : Nat} {H X : List Chunk}
theorem quoted_ends {s u : List Int} (hs : U8s s) (hu : U8s u) {k : Nat} (hk : k ≤ u.length) : (endsL u (chainT s) (upto (u.length + 1) (u.length + 1))).getD k false = true ↔ s.length ≤ k ∧ sub u (k - s.length) k = s := by
  rw [any_fits hk]
  constructor
  · rintro ⟨i, h1, h2⟩
    rw [fits_chain hs (fun x hx => hu x (sub_mem hx)), decide_eq_true_eq] at h2
    have := sub_len (s := u) h1 hk
    rw [h2] at this
    refine ⟨by omega, ?_⟩
    rw [show k - s.length = i by omega]
    exact h2
  · rintro ⟨h1, h2⟩
    refine ⟨k - s.length, by omega, ?_⟩
    rw [fits_chain hs (fun x hx => hu x (sub_mem hx)), decide_eq_true_eq]
    exact h2
theorem MatchQuoted_t {sb ub : ByteArray} (hsl : sb.size ≤ 140737488351232) (hul : ub.size ≤ 140737488351232) :
    TCall Try.prog w0 B 6 #[.string sb, .string ub] (fun r H' => r = .bool true ∧ H' = H) H := by
  obtain ⟨s0, hus0, rfl⟩ := str_of sb
  obtain ⟨u0, huu0, rfl⟩ := str_of ub
  rw [str_len] at hsl hul
  obtain ⟨m, hm⟩ : ∃ m, min s0.length 20 = m := ⟨_, rfl⟩
  obtain ⟨q, hq⟩ : ∃ q, min u0.length 300 = q := ⟨_, rfl⟩
  obtain ⟨s, hs⟩ : ∃ s, sub s0 0 m = s := ⟨_, rfl⟩
  obtain ⟨u, hu⟩ : ∃ u, sub u0 0 q = u := ⟨_, rfl⟩
  have hus : U8s s := fun x hx => hus0 x (sub_mem (hs ▸ hx))
  have huu : U8s u := fun x hx => huu0 x (sub_mem (hu ▸ hx))
  have hsl2 : s.length = m := by rw [← hs, sub_len (by omega) (by omega)]; omega
  have hul2 : u.length = q := by rw [← hu, sub_len (by omega) (by omega)]; omega
  have hqq := quoteL_len s
  have e16 : Value.int .i64 (((strOfNums s0).size : Nat) : Int) = .int .i64 ((s0.length : Nat) : Int) := by rw [str_len]
  have e21 : Value.int .i64 (((strOfNums u0).size : Nat) : Int) = .int .i64 ((u0.length : Nat) : Int) := by rw [str_len]
  have e17 : Value.int .i64 (min ((s0.length : Nat) : Int) 20) = .int .i64 ((m : Nat) : Int) := by congr 1; omega
  have e22 : Value.int .i64 (min ((u0.length : Nat) : Int) 300) = .int .i64 ((q : Nat) : Int) := by congr 1; omega
  have e18 : Value.string ((strOfNums s0).extract 0 m) = .string (strOfNums s) := by rw [← hs, str_sub]
  have e23 : Value.string ((strOfNums u0).extract 0 q) = .string (strOfNums u) := by rw [← hu, str_sub]
  have es : Value.int .i64 (((strOfNums s).size : Nat) : Int) = .int .i64 ((s.length : Nat) : Int) := by rw [str_len]
  have eu : Value.int .i64 (((strOfNums u).size : Nat) : Int) = .int .i64 ((u.length : Nat) : Int) := by rw [str_len]
  have hz := str_len u
  obtain ⟨R, hR⟩ : ∃ R, endsL u (chainT s) (upto (u.length + 1) (u.length + 1)) = R := ⟨_, rfl⟩
  have hRk := fun k (hk : k ≤ u.length) => quoted_ends (s := s) (u := u) hus huu (k := k) hk
  rw [hR] at hRk
  obtain ⟨kk, ok, hfv, hy, hn⟩ : ∃ (kk : Nat) (ok : Bool), firstV (firstT R (u.length + 1) 0) = .tuple #[.int .i64 (kk : Int), .bool ok] ∧ (ok = true → kk ≤ u.length ∧ R.getD kk false = true ∧ ∀ j, j < kk → R.getD j false = false) ∧ (ok = false → kk = 0 ∧ ∀ j, j ≤ u.length → R.getD j false = false) := by
    cases ho : firstT R (u.length + 1) 0 with
    | some k =>
      have := firstT_iff.1 ho
      exact ⟨k, true, rfl, fun _ => ⟨by omega, this.2.2.1, fun j hj => this.2.2.2 j (Nat.zero_le _) hj⟩, (fun h => nomatch h)⟩
    | none =>
      have := firstT_none.1 ho
      exact ⟨0, false, rfl, (fun h => nomatch h), fun _ => ⟨rfl, fun j hj => this j (Nat.zero_le _) (by omega)⟩⟩
  have hfv2 : firstV (firstT (endsL u (chainT s) (upto (u.length + 1) (u.length + 1))) (u.length + 1) 0) = .tuple #[.int .i64 (kk : Int), .bool ok] := by rw [hR]; exact hfv
  refine TCall_intro (args := [_, _]) Try.func6 rfl Try.ntmps6 (Nat.le_of_ble_eq_true rfl) ?_
  refine T_seq ?_
  refine T_region ?_
  refine TL_p (PV_assign rfl) ?_
  refine TL_nil ?_
  refine T_seq ?_
  refine T_seq ?_
  refine T_region ?_
  refine TL_cons rfl (TO_call0 call18 rfl rfl (awake08s) ?_)
  rintro v12_3 H12_3 ⟨rfl, rfl⟩
  refine TL_p (PV_not rfl) ?_
  refine TL_nil ?_
  refine T_else rfl (by rfl) ?_
  refine T_skip ?_
  refine T_seq ?_
  refine T_drawn (WH _ _ _) mixed (fun w h => h) ?_
  refine TA_p 0 rfl (by kernel_rfl) (PV_move rfl) ?_
  refine TA_p 1 rfl (by kernel_rfl) (PV_move rfl) ?_
  refine TA_p 2 rfl (by kernel_rfl) (PV.cast (PV_len_string Try.underlying9 rfl) e16) ?_
  refine TA_p 3 rfl (by kernel_rfl) (PV.cast (PV_min rfl rfl) e17) ?_
  refine TA_p 4 rfl (by kernel_rfl) (PV.cast (PV_sliceStr (l := 0) (h := m) Try.underlying9 rfl rfl ⟨_, rfl⟩ (by omega) (by rw [str_len]; omega)) e18) ?_
  refine TA_p 5 rfl (by kernel_rfl) (PV_move rfl) ?_
  refine TA_p 6 rfl (by kernel_rfl) (PV_move rfl) ?_
  refine TA_p 7 rfl (by kernel_rfl) (PV.cast (PV_len_string Try.underlying9 rfl) e21) ?_
  refine TA_p 8 rfl (by kernel_rfl) (PV.cast (PV_min rfl rfl) e22) ?_
  refine TA_p 9 rfl (by kernel_rfl) (PV.cast (PV_sliceStr (l := 0) (h := q) Try.underlying9 rfl rfl ⟨_, rfl⟩ (by omega) (by rw [str_len]; omega)) e23) ?_
  refine TA_p 10 rfl (by kernel_rfl) (PV_assign rfl) ?_
  refine TA_p 11 rfl (by kernel_rfl) (PV_assign rfl) ?_
  refine TA_done (by kernel_rfl) ?_
  refine T_seq ?_
  refine T_region ?_
  refine TL_p (PV_move rfl) ?_
  refine TL_cons rfl (TO_eqD call24 (Quote_t hus (by omega)) rfl rfl _ (List.Sublist.refl _) ?_)
  refine TL_cons rfl (TO_parse parse_quote (quoteL_u8 hus) (by omega) rfl rfl rfl fun v27 N27 hv27 => ?_)
  refine TL_p (PV_move rfl) ?_
  refine TL_p (PV_extract rfl rfl) ?_
  refine TL_p (PV_extract rfl rfl) ?_
  refine TL_cons rfl (TO_alloc rfl zr30 fun g6 => ?_)
  refine TL_cons rfl (TO_store 0 rfl rfl rfl sz30 rfl rfl rfl (all_one rfl) (by first | exact Nat.le_of_ble_eq_true rfl | (simp; done) | (simp; omega) | omega) ?_)
  refine TL_p (PV_assign rfl) ?_
  refine TL_nil ?_
  refine T_seq ?_
  refine T_region ?_
  refine TL_p (PV_loadAt Try.underlying30 rfl sz30 rfl (Rds.take 0 rfl rfl rfl)) ?_
  refine TL_p (PV_move rfl) ?_
  refine TL_cons rfl (TO_eqD call22 (First_gen (hv27.mono fun w h => h.sub ((List.sublist_append_right H N27).trans (by repeat (first | exact Sb.r | exact Sb.ar | exact Sb.al | apply Sb.d | refine Sb.t ?_)))) huu (by omega) rfl hfv2) rfl rfl _ (List.Sublist.refl _) ?_)
  refine TL_p (PV_move rfl) ?_
  refine TL_p (PV_extract rfl rfl) ?_
  refine TL_p (PV_extract rfl rfl) ?_
  refine TL_p (PV_assign rfl) ?_
  refine TL_p (PV_assign rfl) ?_
  refine TL_nil ?_
  refine T_seq ?_
  refine T_region ?_
  refine TL_p (PV_assign rfl) ?_
  refine TL_p (PV_assign rfl) ?_
  refine TL_nil ?_
  refine T_seq ?_
  refine T_seq ?_
  refine T_region ?_
  refine TL_p (PV_assign rfl) ?_
  refine TL_nil ?_
  refine T_block ?_
  refine ?L1
  case L1 =>
    refine T_loopP3 (fun (i want : Nat) (is : Bool) => i ≤ u.length + 1 ∧ (is = false → want = 0 ∧ ∀ j, j < i → j + s.length ≤ u.length → sub u j (j + s.length) ≠ s) ∧ (is = true → ∃ i0, i0 + 1 = i ∧ want = i0 + s.length ∧ want ≤ u.length ∧ sub u i0 (i0 + s.length) = s ∧ ∀ j, j < i0 → j + s.length ≤ u.length → sub u j (j + s.length) ≠ s)) (fun i want is => u.length + 1 - i) (fun i want is => [(0, .string (strOfNums s)), (1, .string (strOfNums u)), (6, .nilIface), (7, .int .i64 (kk : Int)), (8, .bool ok), (9, .int .i64 (want : Int)), (10, .bool is), (11, .int .i64 (i : Int))]) (fun i want is => H) 0 0 false ⟨Nat.zero_le _, fun _ => ⟨rfl, fun j hj => absurd hj (Nat.not_lt_zero j)⟩, (fun h => nomatch h)⟩ (by repeat (first | exact FrSub.nil _ | refine FrSub.cons rfl ?_)) (Has.of_sub (by repeat (first | exact Sb.r | exact Sb.ar | exact Sb.al | apply Sb.c | apply Sb.d | refine Sb.t ?_))) ?_
    rintro i want is ⟨hi, hf, ht⟩
    have e39 : Value.int .i64 (IntKind.i64.wrap ((i : Int) + (s.length : Int))) = .int .i64 ((i + s.length : Nat) : Int) := wr64n _ (by push_cast; rfl) (by omega)
    cases his : is with
    | true =>
      subst his
      obtain ⟨i0, hi0, hw, hwu, hsu, hno⟩ := ht rfl
      have hk : ok = true ∧ kk = want := by
        have hRw : R.getD want false = true := (hRk want hwu).2 ⟨by omega, by rw [show want - s.length = i0 by omega, hw]; exact hsu⟩
        cases hok : ok with
        | false =>
          have := (hn hok).2 want hwu
          rw [hRw] at this
          cases this
        | true =>
          refine ⟨rfl, ?_⟩
          obtain ⟨h1, h2, h3⟩ := hy hok
          rcases Nat.lt_trichotomy kk want with h | h | h
          · obtain ⟨h4, h5⟩ := (hRk kk h1).1 h2
            exact absurd (by rw [show kk - s.length + s.length = kk by omega]; exact h5) (hno (kk - s.length) (by omega) (by omega))
          · exact h
          · have := h3 want h
            rw [hRw] at this
            cases this
      obtain ⟨rfl, rfl⟩ := hk
      by_cases hle : i + s.length ≤ u.length
      · have e42 : Value.bool (decide (((i + s.length : Nat) : Int) ≤ ((u.length : Nat) : Int))) = .bool true := by congr 1; exact decide_eq_true (by omega)
        refine T_seq ?_
        refine T_seq ?_
        refine T_region ?_
        refine TL_p (PV_move rfl) ?_
        refine TL_p (PV_move rfl) ?_
        refine TL_p (PV.cast (PV_len_string Try.underlying9 rfl) es) ?_
        refine TL_p (PV.cast (PV_bin rfl rfl bin_add) e39) ?_
        refine TL_p (PV_move rfl) ?_
        refine TL_p (PV.cast (PV_len_string Try.underlying9 rfl) eu) ?_
        refine TL_p (PV.cast (PV_bin rfl rfl bin_leq) e42) ?_
        refine TL_p (PV_move rfl) ?_
        refine TL_yes rfl rfl rfl (TO_pure rfl (PV_move rfl) ?_)
        refine TL_yes rfl rfl rfl (TO_pure rfl (PV_not rfl) ?_)
        refine TL_p (PV_pickAnd rfl rfl rfl) ?_
        refine TL_nil ?_
        refine T_else rfl (by rfl) ?_
        refine T_exit ?_
        refine T_seq ?_
        refine T_region ?_
        refine TL_p (PV_move rfl) ?_
        refine TL_p (PV_bin rfl rfl (bin_nil_nil Try.underlying42)) ?_
        refine TL_p (PV_move rfl) ?_
        refine TL_yes rfl rfl rfl (TO_pure rfl (PV_move rfl) ?_)
        refine TL_yes rfl rfl rfl (TO_pure rfl (PV_move rfl) ?_)
        refine TL_yes rfl rfl rfl (TO_pure rfl (PV.cast (PV_bin rfl rfl bin_eql) (by rw [beq_self_eq_true])) ?_)
        refine TL_p (PV_pickAnd rfl rfl rfl) ?_
        refine TL_p (PV_move rfl) ?_
        refine TL_yes rfl rfl rfl (TO_pure rfl (PV_move rfl) ?_)
        refine TL_yes rfl rfl rfl (TO_pure rfl (PV_move rfl) ?_)
        refine TL_yes rfl rfl rfl (TO_pure rfl (PV.cast (PV_bin rfl rfl (bin_bool_eql Try.underlying4)) (by rw [beq_self_eq_true])) ?_)
        refine TL_p (PV_pickAnd rfl rfl rfl) ?_
        refine TL_p (PV_assign rfl) ?_
        refine TL_nil ?_
        refine T_ret ?_
        refine ret_ret (ResV_one rfl rfl) ⟨_, List.Sublist.refl _, ⟨rfl, rfl⟩⟩
      · have e42 : Value.bool (decide (((i + s.length : Nat) : Int) ≤ ((u.length : Nat) : Int))) = .bool false := by congr 1; exact decide_eq_false (by omega)
        refine T_seq ?_
        refine T_seq ?_
        refine T_region ?_
        refine TL_p (PV_move rfl) ?_
        refine TL_p (PV_move rfl) ?_
        refine TL_p (PV.cast (PV_len_string Try.underlying9 rfl) es) ?_
        refine TL_p (PV.cast (PV_bin rfl rfl bin_add) e39) ?_
        refine TL_p (PV_move rfl) ?_
        refine TL_p (PV.cast (PV_len_string Try.underlying9 rfl) eu) ?_
        refine TL_p (PV.cast (PV_bin rfl rfl bin_leq) e42) ?_
        refine TL_p (PV_move rfl) ?_
        refine TL_no (b := false) rfl rfl rfl rfl ?_
        refine TL_no (b := false) rfl rfl rfl rfl ?_
        refine TL_p (PV_pickF rfl (by first | assumption | rfl | (simp; done) | (simp; omega) | (simp [*]; done) | (simp [*]; omega)) rfl rfl) ?_
        refine TL_nil ?_
        refine T_else rfl (by rfl) ?_
        refine T_exit ?_
        refine T_seq ?_
        refine T_region ?_
        refine TL_p (PV_move rfl) ?_
        refine TL_p (PV_bin rfl rfl (bin_nil_nil Try.underlying42)) ?_
        refine TL_p (PV_move rfl) ?_
        refine TL_yes rfl rfl rfl (TO_pure rfl (PV_move rfl) ?_)
        refine TL_yes rfl rfl rfl (TO_pure rfl (PV_move rfl) ?_)
        refine TL_yes rfl rfl rfl (TO_pure rfl (PV.cast (PV_bin rfl rfl bin_eql) (by rw [beq_self_eq_true])) ?_)
        refine TL_p (PV_pickAnd rfl rfl rfl) ?_
        refine TL_p (PV_move rfl) ?_
        refine TL_yes rfl rfl rfl (TO_pure rfl (PV_move rfl) ?_)
        refine TL_yes rfl rfl rfl (TO_pure rfl (PV_move rfl) ?_)
        refine TL_yes rfl rfl rfl (TO_pure rfl (PV.cast (PV_bin rfl rfl (bin_bool_eql Try.underlying4)) (by rw [beq_self_eq_true])) ?_)
        refine TL_p (PV_pickAnd rfl rfl rfl) ?_
        refine TL_p (PV_assign rfl) ?_
        refine TL_nil ?_
        refine T_ret ?_
        refine ret_ret (ResV_one rfl rfl) ⟨_, List.Sublist.refl _, ⟨rfl, rfl⟩⟩
    | false =>
      subst his
      obtain ⟨rfl, hno⟩ := hf rfl
      by_cases hle : i + s.length ≤ u.length
      · have e42 : Value.bool (decide (((i + s.length : Nat) : Int) ≤ ((u.length : Nat) : Int))) = .bool true := by congr 1; exact decide_eq_true (by omega)
        have e48 : Value.int .i64 (IntKind.i64.wrap ((i : Int) + 1)) = .int .i64 ((i + 1 : Nat) : Int) := wr64n _ (by push_cast; rfl) (by omega)
        have e55 : Value.string ((strOfNums u).extract i (i + s.length)) = .string (strOfNums (sub u i (i + s.length))) := by rw [str_sub]
        by_cases he : sub u i (i + s.length) = s
        · have e57 : Value.bool (decide (strOfNums (sub u i (i + s.length)) = strOfNums s)) = .bool true := by rw [he, decide_eq_true rfl]
          refine T_seq ?_
          refine T_seq ?_
          refine T_region ?_
          refine TL_p (PV_move rfl) ?_
          refine TL_p (PV_move rfl) ?_
          refine TL_p (PV.cast (PV_len_string Try.underlying9 rfl) es) ?_
          refine TL_p (PV.cast (PV_bin rfl rfl bin_add) e39) ?_
          refine TL_p (PV_move rfl) ?_
          refine TL_p (PV.cast (PV_len_string Try.underlying9 rfl) eu) ?_
          refine TL_p (PV.cast (PV_bin rfl rfl bin_leq) e42) ?_
          refine TL_p (PV_move rfl) ?_
          refine TL_yes rfl rfl rfl (TO_pure rfl (PV_move rfl) ?_)
          refine TL_yes rfl rfl rfl (TO_pure rfl (PV_not rfl) ?_)
          refine TL_p (PV_pickAnd rfl rfl rfl) ?_
          refine TL_nil ?_
          refine T_then rfl (by rfl) ?_
          refine T_skip ?_
          refine T_seq ?_
          refine T_block ?_
          refine T_seq ?_
          refine T_region ?_
          refine TL_p (PV_move rfl) ?_
          refine TL_p (PV_move rfl) ?_
          refine TL_p (PV_move rfl) ?_
          refine TL_p (PV_move rfl) ?_
          refine TL_p (PV.cast (PV_len_string Try.underlying9 rfl) es) ?_
          refine TL_p (PV.cast (PV_bin rfl rfl bin_add) e39) ?_
          refine TL_p (PV.cast (PV_sliceStr (l := i) (h := i + s.length) Try.underlying9 rfl ⟨_, rfl⟩ ⟨_, rfl⟩ (by omega) (by omega)) e55) ?_
          refine TL_p (PV_move rfl) ?_
          refine TL_p (PV.cast (PV_bin rfl rfl bin_str_eql) e57) ?_
          refine TL_nil ?_
          refine T_then rfl (by rfl) ?_
          refine T_region ?_
          refine TL_p (PV_move rfl) ?_
          refine TL_p (PV_move rfl) ?_
          refine TL_p (PV.cast (PV_len_string Try.underlying9 rfl) es) ?_
          refine TL_p (PV.cast (PV_bin rfl rfl bin_add) e39) ?_
          refine TL_p (PV_assign rfl) ?_
          refine TL_p (PV_assign rfl) ?_
          refine TL_nil ?_
          refine T_region ?_
          refine TL_p (PV_move rfl) ?_
          refine TL_p (PV.cast (PV_bin rfl rfl bin_add) e48) ?_
          refine TL_p (PV_assign rfl) ?_
          refine TL_nil ?_
          refine ?L31
          case L31 => exact ⟨i + 1, i + s.length, true, ⟨by omega, (fun h => nomatch h), fun _ => ⟨i, rfl, rfl, hle, he, hno⟩⟩, by omega, (by repeat (first | exact FrSub.nil _ | refine FrSub.cons rfl ?_)), Has.of_sub (by repeat (first | exact Sb.r | exact Sb.ar | exact Sb.al | apply Sb.c | apply Sb.d | refine Sb.t ?_))⟩
        · have e57 : Value.bool (decide (strOfNums (sub u i (i + s.length)) = strOfNums s)) = .bool false := by
            congr 1
            exact decide_eq_false fun h => he (str_inj (fun x hx => huu x (sub_mem hx)) hus h)
          refine T_seq ?_
          refine T_seq ?_
          refine T_region ?_
          refine TL_p (PV_move rfl) ?_
          refine TL_p (PV_move rfl) ?_
          refine TL_p (PV.cast (PV_len_string Try.underlying9 rfl) es) ?_
          refine TL_p (PV.cast (PV_bin rfl rfl bin_add) e39) ?_
          refine TL_p (PV_move rfl) ?_
          refine TL_p (PV.cast (PV_len_string Try.underlying9 rfl) eu) ?_
          refine TL_p (PV.cast (PV_bin rfl rfl bin_leq) e42) ?_
          refine TL_p (PV_move rfl) ?_
          refine TL_yes rfl rfl rfl (TO_pure rfl (PV_move rfl) ?_)
          refine TL_yes rfl rfl rfl (TO_pure rfl (PV_not rfl) ?_)
          refine TL_p (PV_pickAnd rfl rfl rfl) ?_
          refine TL_nil ?_
          refine T_then rfl (by rfl) ?_
          refine T_skip ?_
          refine T_seq ?_
          refine T_block ?_
          refine T_seq ?_
          refine T_region ?_
          refine TL_p (PV_move rfl) ?_
          refine TL_p (PV_move rfl) ?_
          refine TL_p (PV_move rfl) ?_
          refine TL_p (PV_move rfl) ?_
          refine TL_p (PV.cast (PV_len_string Try.underlying9 rfl) es) ?_
          refine TL_p (PV.cast (PV_bin rfl rfl bin_add) e39) ?_
          refine TL_p (PV.cast (PV_sliceStr (l := i) (h := i + s.length) Try.underlying9 rfl ⟨_, rfl⟩ ⟨_, rfl⟩ (by omega) (by omega)) e55) ?_
          refine TL_p (PV_move rfl) ?_
          refine TL_p (PV.cast (PV_bin rfl rfl bin_str_eql) e57) ?_
          refine TL_nil ?_
          refine T_else rfl (by rfl) ?_
          refine T_skip ?_
          refine T_region ?_
          refine TL_p (PV_move rfl) ?_
          refine TL_p (PV.cast (PV_bin rfl rfl bin_add) e48) ?_
          refine TL_p (PV_assign rfl) ?_
          refine TL_nil ?_
          refine ?L41
          case L41 =>
            refine ⟨i + 1, 0, false, ⟨by omega, fun _ => ⟨rfl, fun j hj hju => ?_⟩, (fun h => nomatch h)⟩, by omega, (by repeat (first | exact FrSub.nil _ | refine FrSub.cons rfl ?_)), Has.of_sub (by repeat (first | exact Sb.r | exact Sb.ar | exact Sb.al | apply Sb.c | apply Sb.d | refine Sb.t ?_))⟩
            rcases Nat.lt_or_ge j i with h | h
            · exact hno j h hju
            · obtain rfl : j = i := by omega
              exact he
      · have e42 : Value.bool (decide (((i + s.length : Nat) : Int) ≤ ((u.length : Nat) : Int))) = .bool false := by congr 1; exact decide_eq_false (by omega)
        have hk : ok = false := by
          cases hok : ok with
          | false => rfl
          | true =>
            obtain ⟨h1, h2, h3⟩ := hy hok
            obtain ⟨h4, h5⟩ := (hRk kk h1).1 h2
            exact absurd (by rw [show kk - s.length + s.length = kk by omega]; exact h5) (hno (kk - s.length) (by omega) (by omega))
        obtain ⟨rfl, -⟩ := hn hk
        subst hk
        refine T_seq ?_
        refine T_seq ?_
        refine T_region ?_
        refine TL_p (PV_move rfl) ?_
        refine TL_p (PV_move rfl) ?_
        refine TL_p (PV.cast (PV_len_string Try.underlying9 rfl) es) ?_
        refine TL_p (PV.cast (PV_bin rfl rfl bin_add) e39) ?_
        refine TL_p (PV_move rfl) ?_
        refine TL_p (PV.cast (PV_len_string Try.underlying9 rfl) eu) ?_
        refine TL_p (PV.cast (PV_bin rfl rfl bin_leq) e42) ?_
        refine TL_p (PV_move rfl) ?_
        refine TL_no (b := false) rfl rfl rfl rfl ?_
        refine TL_no (b := false) rfl rfl rfl rfl ?_
        refine TL_p (PV_pickF rfl (by first | assumption | rfl | (simp; done) | (simp; omega) | (simp [*]; done) | (simp [*]; omega)) rfl rfl) ?_
        refine TL_nil ?_
        refine T_else rfl (by rfl) ?_
        refine T_exit ?_
        refine T_seq ?_
        refine T_region ?_
        refine TL_p (PV_move rfl) ?_
        refine TL_p (PV_bin rfl rfl (bin_nil_nil Try.underlying42)) ?_
        refine TL_p (PV_move rfl) ?_
        refine TL_yes rfl rfl rfl (TO_pure rfl (PV_move rfl) ?_)
        refine TL_yes rfl rfl rfl (TO_pure rfl (PV_move rfl) ?_)
        refine TL_yes rfl rfl rfl (TO_pure rfl (PV.cast (PV_bin rfl rfl bin_eql) (by rfl)) ?_)
        refine TL_p (PV_pickAnd rfl rfl rfl) ?_
        refine TL_p (PV_move rfl) ?_
        refine TL_yes rfl rfl rfl (TO_pure rfl (PV_move rfl) ?_)
        refine TL_yes rfl rfl rfl (TO_pure rfl (PV_move rfl) ?_)
        refine TL_yes rfl rfl rfl (TO_pure rfl (PV.cast (PV_bin rfl rfl (bin_bool_eql Try.underlying4)) (by rw [beq_self_eq_true])) ?_)
        refine TL_p (PV_pickAnd rfl rfl rfl) ?_
        refine TL_p (PV_assign rfl) ?_
        refine TL_nil ?_
        refine T_ret ?_
        refine ret_ret (ResV_one rfl rfl) ⟨_, List.Sublist.refl _, ⟨rfl, rfl⟩⟩
end
end Go.Proofs.Ytkgdphbccagjcaa.SL
