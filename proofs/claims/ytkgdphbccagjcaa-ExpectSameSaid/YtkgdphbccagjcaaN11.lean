import Derived.Test.YtkgdphbccagjcaaN9
/- The first place at which a pattern ends is the least of all: the law. No statement is proved here. -/
set_option linter.unusedVariables false
set_option linter.unusedSimpArgs false
set_option maxRecDepth 100000
set_option maxHeartbeats 8000000
namespace Go.Proofs.Ytkgdphbccagjcaa.SL
open Go Go.RowKit
section
variable {w0 : World} {B : Nat} {H X : List Chunk}
theorem any_fits {s : List Int} {t : Rx} {k : Nat} (hk : k ≤ s.length) : (endsL s t (upto (s.length + 1) (s.length + 1))).getD k false = true ↔ ∃ i, i ≤ k ∧ fitsT t (sub s i k) = true := by
  rw [ends_any]
  constructor
  · rintro ⟨i, h1, h2, h3⟩; exact ⟨i, h1, fitsT_iff.2 h3⟩
  · rintro ⟨i, h1, h2⟩; exact ⟨i, h1, hk, fitsT_iff.1 h2⟩
theorem MatchFirst_t {A0 A1 : Option Addr} {m0 m1 c0 c1 : Nat} {l0 l1 : List Int} (hS0 : Shows (WH w0 B H) A0 m0 1 (nums .u8 l0)) (hm0 : l0.length = m0) (hl0 : m0 ≤ 4611686018427387904) (hc0 : m0 ≤ c0) (hu0 : U8s l0) (hS1 : Shows (WH w0 B H) A1 m1 1 (nums .u8 l1)) (hm1 : l1.length = m1) (hl1 : m1 ≤ 4611686018427387904) (hc1 : m1 ≤ c1) (hu1 : U8s l1) :
    TCall Try.prog w0 B 12 #[.slice A0 m0 c0, .slice A1 m1 c1] (fun r H' => r = .bool true ∧ H' = H) H := by
  obtain ⟨t, ht⟩ : ∃ t, (mk 3 l0).2.1 = t := ⟨_, rfl⟩
  obtain ⟨s, hs⟩ : ∃ s, txt l1 m1 = s := ⟨_, rfl⟩
  have hms := txt_mem hu1 m1
  have hls := txt_len l1 m1
  have hsm := mk_small (Nat.le_refl 3) l0
  rw [hs] at hms hls
  rw [ht] at hsm
  have hus : U8s s := fun x hx => by have := hms x hx; omega
  have hvt : ∀ {W : World → Prop} {v : Nv}, Tr W (mk 3 l0).2.1 v → Tr W t v := fun h => ht ▸ h
  have hHN : ∀ N : List Chunk, H.Sublist (H ++ N) := fun N => List.sublist_append_left H N
  have el : Value.int .i64 (((strOfNums s).size : Nat) : Int) = .int .i64 ((s.length : Nat) : Int) := by rw [str_len]
  have hz := str_len s
  obtain ⟨R, hR⟩ : ∃ R, endsL s t (upto (s.length + 1) (s.length + 1)) = R := ⟨_, rfl⟩
  have hRk := fun k (hk : k ≤ s.length) => any_fits (s := s) (t := t) (k := k) hk
  rw [hR] at hRk
  refine TCall_intro (args := [_, _]) Try.func12 rfl Try.ntmps12 (Nat.le_of_ble_eq_true rfl) ?_
  refine T_seq ?_
  refine T_region ?_
  refine TL_p (PV_assign rfl) ?_
  refine TL_nil ?_
  refine T_seq ?_
  refine T_seq ?_
  refine T_region ?_
  refine TL_cons rfl (TO_call0 call18 rfl rfl (awake08s) ?_)
  rintro v15_3 H15_3 ⟨rfl, rfl⟩
  refine TL_p (PV_not rfl) ?_
  refine TL_nil ?_
  refine T_else rfl (by rfl) ?_
  refine T_skip ?_
  refine T_seq ?_
  refine T_region ?_
  refine TL_p (PV_move rfl) ?_
  refine TL_cons rfl (TO_mk (d := 3) (by omega) hS0 hm0 hc0 hl0 hu0 rfl rfl fun v19 N19 hv19 => ?_)
  refine TL_p (PV_move rfl) ?_
  refine TL_p (PV_extract rfl rfl) ?_
  refine TL_p (PV_extract rfl rfl) ?_
  refine TL_cons rfl (TO_alloc rfl zr30 fun g5 => ?_)
  refine TL_p (PV_assign rfl) ?_
  refine TL_cons rfl (TO_store 0 rfl rfl rfl sz30 rfl rfl rfl (all_one rfl) (by first | exact Nat.le_of_ble_eq_true rfl | (simp; done) | (simp; omega) | omega) ?_)
  refine TL_nil ?_
  refine T_seq ?_
  refine T_region ?_
  refine TL_p (PV_move rfl) ?_
  refine TL_cons rfl (TO_eqD call20 (Text_v hs (hS1.mono fun w h => h.sub ((hHN N19).trans (by repeat (first | exact Sb.r | exact Sb.ar | exact Sb.al | apply Sb.d | refine Sb.t ?_)))) hm1 hl1 hc1 hu1) rfl rfl _ (List.Sublist.refl _) ?_)
  refine TL_p (PV_assign rfl) ?_
  refine TL_nil ?_
  refine T_seq ?_
  refine T_region ?_
  refine TL_p (PV_loadAt Try.underlying30 rfl sz30 rfl (Rds.take 0 rfl rfl rfl)) ?_
  refine TL_cons rfl (TO_Of ((hvt hv19).mono fun w h => h.sub (by repeat (first | exact Sb.r | exact Sb.ar | exact Sb.al | apply Sb.d | refine Sb.t ?_))) (by omega) (by omega) rfl rfl fun g25 N25 hT25 => ?_)
  refine TL_p (PV_assign rfl) ?_
  refine TL_nil ?_
  refine T_seq ?_
  refine T_region ?_
  refine TL_p (PV_assign rfl) ?_
  refine TL_p (PV_assign rfl) ?_
  refine TL_nil ?_
  refine T_seq ?_
  refine T_seq ?_
  refine T_region ?_
  refine TL_p (PV_assign rfl) ?_
  refine TL_nil ?_
  refine T_block ?_
  refine ?L1
  case L1 =>
    -- k places are looked through; is: it was found, at w
    refine T_loopP3 (fun (k w : Nat) (is : Bool) => k ≤ s.length + 1 ∧ (is = false → w = 0 ∧ ∀ j, j < k → R.getD j false = false) ∧ (is = true → w + 1 = k ∧ R.getD w false = true ∧ ∀ j, j < w → R.getD j false = false)) (fun k w is => s.length + 1 - k) (fun k w is => [(6, .pointer (some ⟨g5, 0, none⟩)), (7, .string (strOfNums s)), (8, .pointer (some ⟨g25, 0, none⟩)), (9, .int .i64 (w : Int)), (10, .bool is), (11, .int .i64 (k : Int))]) (fun k w is => .own g5 6 v19.cells :: ((H ++ N19) ++ N25)) 0 0 false ⟨Nat.zero_le _, fun _ => ⟨rfl, fun j hj => absurd hj (by omega)⟩, (fun h => nomatch h)⟩ (by repeat (first | exact FrSub.nil _ | refine FrSub.cons rfl ?_)) (Has.of_sub (by repeat (first | exact Sb.r | exact Sb.ar | exact Sb.al | apply Sb.c | apply Sb.d | refine Sb.t ?_))) ?_
    rintro k w is ⟨hk, hf, ht2⟩
    have hend : ∀ o, firstT R (s.length + 1) 0 = o → True := fun _ _ => trivial
    cases his : is with
    | true =>
      subst his
      obtain ⟨h1, h2, h3⟩ := ht2 rfl
      have hfi : firstT (endsL s t (upto (s.length + 1) (s.length + 1))) (s.length + 1) 0 = some w := by
        rw [hR]
        exact firstT_iff.2 ⟨by omega, by omega, h2, fun m _ hm => h3 m hm⟩
      refine T_seq ?_
      refine T_seq ?_
      refine T_region ?_
      refine TL_p (PV_move rfl) ?_
      refine TL_p (PV_move rfl) ?_
      refine TL_p (PV.cast (PV_len_string Try.underlying9 rfl) el) ?_
      refine TL_p (PV_bin rfl rfl bin_leq) ?_
      refine TL_p (PV_move rfl) ?_
      refine TL_split (d := 30) rfl (fun c1001 => ?w1001q50y) (fun c1001 => ?w1001q50n)
      try simp only [decide_eq_true_eq, decide_eq_false_iff_not, beq_iff_eq, beq_eq_false_iff_ne, bne_iff_ne, bne_eq_false_iff_eq, ne_eq, Bool.not_eq_true', Bool.not_eq_false', Bool.not_not, Bool.not_true, Bool.not_false, Bool.and_eq_true, Bool.or_eq_true, Bool.and_eq_false_iff, Bool.or_eq_false_iff, Int.not_lt, Int.not_le, gt_iff_lt, ge_iff_le] at c1001
      refine TL_yes rfl rfl (gtrue (by exact decide_eq_true (by omega))) (TO_pure rfl (PV_move rfl) ?_)
      refine TL_yes rfl rfl (gtrue (by exact decide_eq_true (by omega))) (TO_pure rfl (PV_not rfl) ?_)
      refine TL_p (PV_pickAnd rfl rfl rfl) ?_
      refine TL_nil ?_
      refine T_else rfl (by (simp; done)) ?_
      refine T_exit ?_
      refine T_seq ?_
      refine T_region ?_
      refine TL_p (PV_loadAt Try.underlying30 rfl sz30 rfl (Rds.take 0 rfl rfl rfl)) ?_
      refine TL_p (PV_move rfl) ?_
      refine TL_cons rfl (TO_eqD call22 (First_gen (V := .tuple #[.int .i64 (w : Int), .bool true]) ((hvt hv19).mono fun w h => h.sub (by repeat (first | exact Sb.r | exact Sb.ar | exact Sb.al | apply Sb.d | refine Sb.t ?_))) hus (by omega) hfi rfl) rfl rfl _ (List.Sublist.refl _) ?_)
      refine TL_p (PV_move rfl) ?_
      refine TL_p (PV_extract rfl rfl) ?_
      refine TL_p (PV_extract rfl rfl) ?_
      refine TL_p (PV_assign rfl) ?_
      refine TL_p (PV_assign rfl) ?_
      refine TL_nil ?_
      refine T_seq ?_
      refine T_region ?_
      refine TL_p (PV_move rfl) ?_
      refine TL_p (PV_move rfl) ?_
      refine TL_p (PV_bin rfl rfl bin_eql) ?_
      refine TL_p (PV_move rfl) ?_
      refine TL_yes rfl rfl (gtrue (by (simp; done))) (TO_pure rfl (PV_move rfl) ?_)
      refine TL_yes rfl rfl (gtrue (by (simp; done))) (TO_pure rfl (PV_move rfl) ?_)
      refine TL_yes rfl rfl (gtrue (by (simp; done))) (TO_pure rfl (PV_bin rfl rfl (bin_bool_eql Try.underlying4)) ?_)
      refine TL_p (PV_pickAnd rfl rfl rfl) ?_
      refine TL_p (PV_assign rfl) ?_
      refine TL_nil ?_
      refine T_ret ?_
      refine ret_ret (ResV_one rfl rfl) ⟨_, ?zb1003q50, ⟨?L11, rfl⟩⟩
      case zb1003q50 => exact (by (repeat (first | exact Sb.r | exact Sb.ar | exact Sb.al | apply Sb.c | apply Sb.d | refine Sb.t ?_)); done)
      rotate_left 1
      try simp only [decide_eq_true_eq, decide_eq_false_iff_not, beq_iff_eq, beq_eq_false_iff_ne, bne_iff_ne, bne_eq_false_iff_eq, ne_eq, Bool.not_eq_true', Bool.not_eq_false', Bool.not_not, Bool.not_true, Bool.not_false, Bool.and_eq_true, Bool.or_eq_true, Bool.and_eq_false_iff, Bool.or_eq_false_iff, Int.not_lt, Int.not_le, gt_iff_lt, ge_iff_le] at c1001
      refine TL_no (b := false) rfl rfl (gfalse (by exact decide_eq_false (by omega))) rfl ?_
      refine TL_no (b := false) rfl rfl (gfalse (by exact decide_eq_false (by omega))) rfl ?_
      refine TL_p (PV_pickF rfl (by first | assumption | rfl | (simp; done) | (simp; omega) | (simp [*]; done) | (simp [*]; omega)) rfl rfl) ?_
      refine TL_nil ?_
      refine T_else rfl (by rfl) ?_
      refine T_exit ?_
      refine T_seq ?_
      refine T_region ?_
      refine TL_p (PV_loadAt Try.underlying30 rfl sz30 rfl (Rds.take 0 rfl rfl rfl)) ?_
      refine TL_p (PV_move rfl) ?_
      refine TL_cons rfl (TO_eqD call22 (First_gen (V := .tuple #[.int .i64 (w : Int), .bool true]) ((hvt hv19).mono fun w h => h.sub (by repeat (first | exact Sb.r | exact Sb.ar | exact Sb.al | apply Sb.d | refine Sb.t ?_))) hus (by omega) hfi rfl) rfl rfl _ (List.Sublist.refl _) ?_)
      refine TL_p (PV_move rfl) ?_
      refine TL_p (PV_extract rfl rfl) ?_
      refine TL_p (PV_extract rfl rfl) ?_
      refine TL_p (PV_assign rfl) ?_
      refine TL_p (PV_assign rfl) ?_
      refine TL_nil ?_
      refine T_seq ?_
      refine T_region ?_
      refine TL_p (PV_move rfl) ?_
      refine TL_p (PV_move rfl) ?_
      refine TL_p (PV_bin rfl rfl bin_eql) ?_
      refine TL_p (PV_move rfl) ?_
      refine TL_yes rfl rfl (gtrue (by (simp; done))) (TO_pure rfl (PV_move rfl) ?_)
      refine TL_yes rfl rfl (gtrue (by (simp; done))) (TO_pure rfl (PV_move rfl) ?_)
      refine TL_yes rfl rfl (gtrue (by (simp; done))) (TO_pure rfl (PV_bin rfl rfl (bin_bool_eql Try.underlying4)) ?_)
      refine TL_p (PV_pickAnd rfl rfl rfl) ?_
      refine TL_p (PV_assign rfl) ?_
      refine TL_nil ?_
      refine T_ret ?_
      refine ret_ret (ResV_one rfl rfl) ⟨_, ?zb1005q50, ⟨?L12, rfl⟩⟩
      case zb1005q50 => exact (by (repeat (first | exact Sb.r | exact Sb.ar | exact Sb.al | apply Sb.c | apply Sb.d | refine Sb.t ?_)); done)
      all_goals simp
    | false =>
      subst his
      obtain ⟨rfl, h2⟩ := hf rfl
      by_cases hkl : k < s.length + 1
      · have e35 : Value.int .i64 (IntKind.i64.wrap ((k : Int) + 1)) = .int .i64 ((k + 1 : Nat) : Int) := wr64n _ (by push_cast; rfl) (by omega)
        refine T_seq ?_
        refine T_seq ?_
        refine T_region ?_
        refine TL_p (PV_move rfl) ?_
        refine TL_p (PV_move rfl) ?_
        refine TL_p (PV.cast (PV_len_string Try.underlying9 rfl) el) ?_
        refine TL_p (PV_bin rfl rfl bin_leq) ?_
        refine TL_p (PV_move rfl) ?_
        refine TL_yes rfl rfl (gtrue (by exact decide_eq_true (by omega))) (TO_pure rfl (PV_move rfl) ?_)
        refine TL_yes rfl rfl (gtrue (by exact decide_eq_true (by omega))) (TO_pure rfl (PV_not rfl) ?_)
        refine TL_p (PV_pickAnd rfl rfl rfl) ?_
        refine TL_nil ?_
        refine T_then rfl (by (simp; omega)) ?_
        refine T_skip ?_
        refine T_seq ?_
        refine T_block ?_
        refine T_seq ?_
        refine T_region ?_
        refine TL_p (PV_assign rfl) ?_
        refine TL_nil ?_
        refine T_block ?_
        refine ?L31
        case L31 =>
          refine T_loopP3 (fun (i w : Nat) (is : Bool) => i ≤ k + 1 ∧ (is = false → w = 0 ∧ ∀ j, j < i → fitsT t (sub s j k) = false) ∧ (is = true → w = k ∧ R.getD k false = true)) (fun i w is => k + 1 - i) (fun i w is => [(6, .pointer (some ⟨g5, 0, none⟩)), (7, .string (strOfNums s)), (8, .pointer (some ⟨g25, 0, none⟩)), (9, .int .i64 (w : Int)), (10, .bool is), (11, .int .i64 (k : Int)), (12, .int .i64 (i : Int))]) (fun i w is => .own g5 6 v19.cells :: ((H ++ N19) ++ N25)) 0 0 false ⟨Nat.zero_le _, fun _ => ⟨rfl, fun j hj => absurd hj (by omega)⟩, (fun h => nomatch h)⟩ (by repeat (first | exact FrSub.nil _ | refine FrSub.cons rfl ?_)) (Has.of_sub (by repeat (first | exact Sb.r | exact Sb.ar | exact Sb.al | apply Sb.c | apply Sb.d | refine Sb.t ?_))) ?_
          rintro i w is ⟨hi, hf, ht2⟩
          cases his : is with
          | true =>
            subst his
            obtain ⟨rfl, h4⟩ := ht2 rfl
            refine T_seq ?_
            refine T_seq ?_
            refine T_region ?_
            refine TL_p (PV_move rfl) ?_
            refine TL_p (PV_move rfl) ?_
            refine TL_p (PV_bin rfl rfl bin_leq) ?_
            refine TL_p (PV_move rfl) ?_
            refine TL_split (d := 39) rfl (fun c4001 => ?w4001q68y) (fun c4001 => ?w4001q68n)
            try simp only [decide_eq_true_eq, decide_eq_false_iff_not, beq_iff_eq, beq_eq_false_iff_ne, bne_iff_ne, bne_eq_false_iff_eq, ne_eq, Bool.not_eq_true', Bool.not_eq_false', Bool.not_not, Bool.not_true, Bool.not_false, Bool.and_eq_true, Bool.or_eq_true, Bool.and_eq_false_iff, Bool.or_eq_false_iff, Int.not_lt, Int.not_le, gt_iff_lt, ge_iff_le] at c4001
            refine TL_yes rfl rfl (gtrue (by exact decide_eq_true (by omega))) (TO_pure rfl (PV_move rfl) ?_)
            refine TL_yes rfl rfl (gtrue (by exact decide_eq_true (by omega))) (TO_pure rfl (PV_not rfl) ?_)
            refine TL_p (PV_pickAnd rfl rfl rfl) ?_
            refine TL_nil ?_
            refine T_else rfl (by (simp; done)) ?_
            refine T_exit ?_
            refine T_region ?_
            refine TL_p (PV_move rfl) ?_
            refine TL_p (PV.cast (PV_bin rfl rfl bin_add) e35) ?_
            refine TL_p (PV_assign rfl) ?_
            refine TL_nil ?_
            refine ?L41
            rotate_left 1
            try simp only [decide_eq_true_eq, decide_eq_false_iff_not, beq_iff_eq, beq_eq_false_iff_ne, bne_iff_ne, bne_eq_false_iff_eq, ne_eq, Bool.not_eq_true', Bool.not_eq_false', Bool.not_not, Bool.not_true, Bool.not_false, Bool.and_eq_true, Bool.or_eq_true, Bool.and_eq_false_iff, Bool.or_eq_false_iff, Int.not_lt, Int.not_le, gt_iff_lt, ge_iff_le] at c4001
            refine TL_no (b := false) rfl rfl (gfalse (by exact decide_eq_false (by omega))) rfl ?_
            refine TL_no (b := false) rfl rfl (gfalse (by exact decide_eq_false (by omega))) rfl ?_
            refine TL_p (PV_pickF rfl (by first | assumption | rfl | (simp; done) | (simp; omega) | (simp [*]; done) | (simp [*]; omega)) rfl rfl) ?_
            refine TL_nil ?_
            refine T_else rfl (by rfl) ?_
            refine T_exit ?_
            refine T_region ?_
            refine TL_p (PV_move rfl) ?_
            refine TL_p (PV.cast (PV_bin rfl rfl bin_add) e35) ?_
            refine TL_p (PV_assign rfl) ?_
            refine TL_nil ?_
            refine ?L42
            all_goals
              exact ⟨w + 1, w, true, ⟨by omega, (fun h => nomatch h), fun _ => ⟨rfl, h4, h2⟩⟩, by omega, (by repeat (first | exact FrSub.nil _ | refine FrSub.cons rfl ?_)), Has.of_sub (by repeat (first | exact Sb.r | exact Sb.ar | exact Sb.al | apply Sb.c | apply Sb.d | refine Sb.t ?_))⟩
          | false =>
            subst his
            obtain ⟨rfl, h4⟩ := hf rfl
            by_cases hil : i < k + 1
            · have e44 : Value.int .i64 (IntKind.i64.wrap ((i : Int) + 1)) = .int .i64 ((i + 1 : Nat) : Int) := wr64n _ (by push_cast; rfl) (by omega)
              have e49 : Value.string ((strOfNums s).extract i k) = .string (strOfNums (sub s i k)) := by rw [str_sub]
              have hus2 : U8s (sub s i k) := fun x hx => hus x (sub_mem hx)
              have hsl := sub_len (s := s) (i := i) (j := k) (by omega) (by omega)
              cases hq : fitsT t (sub s i k) with
              | true =>
                have hfi := fun {X : List Chunk} (hT : Tab (WH w0 B X) g25 t) => Fits_v (w0 := w0) (B := B) (H := X) hT (by omega) hus2 (by omega) rfl hq
                have hRt : R.getD k false = true := (hRk k (by omega)).2 ⟨i, by omega, hq⟩
                refine T_seq ?_
                refine T_seq ?_
                refine T_region ?_
                refine TL_p (PV_move rfl) ?_
                refine TL_p (PV_move rfl) ?_
                refine TL_p (PV_bin rfl rfl bin_leq) ?_
                refine TL_p (PV_move rfl) ?_
                refine TL_yes rfl rfl (gtrue (by exact decide_eq_true (by omega))) (TO_pure rfl (PV_move rfl) ?_)
                refine TL_yes rfl rfl (gtrue (by exact decide_eq_true (by omega))) (TO_pure rfl (PV_not rfl) ?_)
                refine TL_p (PV_pickAnd rfl rfl rfl) ?_
                refine TL_nil ?_
                refine T_then rfl (by (simp; omega)) ?_
                refine T_skip ?_
                refine T_seq ?_
                refine T_block ?_
                refine T_seq ?_
                refine T_region ?_
                refine TL_p (PV_move rfl) ?_
                refine TL_p (PV_move rfl) ?_
                refine TL_p (PV_move rfl) ?_
                refine TL_p (PV_move rfl) ?_
                refine TL_p (PV.cast (PV_sliceStr (l := i) (h := k) Try.underlying9 rfl ⟨_, rfl⟩ ⟨_, rfl⟩ (by omega) (by omega)) e49) ?_
                refine TL_cons rfl (TO_eqD call27 (hfi (hT25.mono fun w h => h.sub (by repeat (first | exact Sb.r | exact Sb.ar | exact Sb.al | apply Sb.d | refine Sb.t ?_)))) rfl rfl _ (List.Sublist.refl _) ?_)
                refine TL_nil ?_
                refine T_then rfl (by rfl) ?_
                refine T_region ?_
                refine TL_p (PV_move rfl) ?_
                refine TL_p (PV_assign rfl) ?_
                refine TL_p (PV_assign rfl) ?_
                refine TL_nil ?_
                refine T_region ?_
                refine TL_p (PV_move rfl) ?_
                refine TL_p (PV.cast (PV_bin rfl rfl bin_add) e44) ?_
                refine TL_p (PV_assign rfl) ?_
                refine TL_nil ?_
                refine ?L51
                case L51 =>
                  exact ⟨i + 1, k, true, ⟨by omega, (fun h => nomatch h), fun _ => ⟨rfl, hRt⟩⟩, by omega, (by repeat (first | exact FrSub.nil _ | refine FrSub.cons rfl ?_)), Has.of_sub (by repeat (first | exact Sb.r | exact Sb.ar | exact Sb.al | apply Sb.c | apply Sb.d | refine Sb.t ?_))⟩
              | false =>
                have hfi := fun {X : List Chunk} (hT : Tab (WH w0 B X) g25 t) => Fits_v (w0 := w0) (B := B) (H := X) hT (by omega) hus2 (by omega) rfl hq
                refine T_seq ?_
                refine T_seq ?_
                refine T_region ?_
                refine TL_p (PV_move rfl) ?_
                refine TL_p (PV_move rfl) ?_
                refine TL_p (PV_bin rfl rfl bin_leq) ?_
                refine TL_p (PV_move rfl) ?_
                refine TL_yes rfl rfl (gtrue (by exact decide_eq_true (by omega))) (TO_pure rfl (PV_move rfl) ?_)
                refine TL_yes rfl rfl (gtrue (by exact decide_eq_true (by omega))) (TO_pure rfl (PV_not rfl) ?_)
                refine TL_p (PV_pickAnd rfl rfl rfl) ?_
                refine TL_nil ?_
                refine T_then rfl (by (simp; omega)) ?_
                refine T_skip ?_
                refine T_seq ?_
                refine T_block ?_
                refine T_seq ?_
                refine T_region ?_
                refine TL_p (PV_move rfl) ?_
                refine TL_p (PV_move rfl) ?_
                refine TL_p (PV_move rfl) ?_
                refine TL_p (PV_move rfl) ?_
                refine TL_p (PV.cast (PV_sliceStr (l := i) (h := k) Try.underlying9 rfl ⟨_, rfl⟩ ⟨_, rfl⟩ (by omega) (by omega)) e49) ?_
                refine TL_cons rfl (TO_eqD call27 (hfi (hT25.mono fun w h => h.sub (by repeat (first | exact Sb.r | exact Sb.ar | exact Sb.al | apply Sb.d | refine Sb.t ?_)))) rfl rfl _ (List.Sublist.refl _) ?_)
                refine TL_nil ?_
                refine T_else rfl (by rfl) ?_
                refine T_skip ?_
                refine T_region ?_
                refine TL_p (PV_move rfl) ?_
                refine TL_p (PV.cast (PV_bin rfl rfl bin_add) e44) ?_
                refine TL_p (PV_assign rfl) ?_
                refine TL_nil ?_
                refine ?L61
                case L61 =>
                  refine ⟨i + 1, 0, false, ⟨by omega, fun _ => ⟨rfl, fun j hj => ?_⟩, (fun h => nomatch h)⟩, by omega, (by repeat (first | exact FrSub.nil _ | refine FrSub.cons rfl ?_)), Has.of_sub (by repeat (first | exact Sb.r | exact Sb.ar | exact Sb.al | apply Sb.c | apply Sb.d | refine Sb.t ?_))⟩
                  rcases Nat.lt_or_ge j i with h | h
                  · exact h4 j h
                  · obtain rfl : j = i := by omega
                    exact hq
            · obtain rfl : i = k + 1 := by omega
              have hRf : R.getD k false = false := by
                cases h5 : R.getD k false with
                | false => rfl
                | true =>
                  obtain ⟨i', h6, h7⟩ := (hRk k (by omega)).1 h5
                  rw [h4 i' (by omega)] at h7
                  cases h7
              refine T_seq ?_
              refine T_seq ?_
              refine T_region ?_
              refine TL_p (PV_move rfl) ?_
              refine TL_p (PV_move rfl) ?_
              refine TL_p (PV_bin rfl rfl bin_leq) ?_
              refine TL_p (PV_move rfl) ?_
              refine TL_no (b := false) rfl rfl (gfalse (by exact decide_eq_false (by omega))) rfl ?_
              refine TL_no (b := false) rfl rfl (gfalse (by exact decide_eq_false (by omega))) rfl ?_
              refine TL_p (PV_pickF rfl (by first | assumption | rfl | (simp; done) | (simp; omega) | (simp [*]; done) | (simp [*]; omega)) rfl rfl) ?_
              refine TL_nil ?_
              refine T_else rfl (by rfl) ?_
              refine T_exit ?_
              refine T_region ?_
              refine TL_p (PV_move rfl) ?_
              refine TL_p (PV.cast (PV_bin rfl rfl bin_add) e35) ?_
              refine TL_p (PV_assign rfl) ?_
              refine TL_nil ?_
              refine ?L71
              case L71 =>
                refine ⟨k + 1, 0, false, ⟨by omega, fun _ => ⟨rfl, fun j hj => ?_⟩, (fun h => nomatch h)⟩, by omega, (by repeat (first | exact FrSub.nil _ | refine FrSub.cons rfl ?_)), Has.of_sub (by repeat (first | exact Sb.r | exact Sb.ar | exact Sb.al | apply Sb.c | apply Sb.d | refine Sb.t ?_))⟩
                rcases Nat.lt_or_ge j k with h | h
                · exact h2 j h
                · obtain rfl : j = k := by omega
                  exact hRf
      · obtain rfl : k = s.length + 1 := by omega
        have hfi : firstT (endsL s t (upto (s.length + 1) (s.length + 1))) (s.length + 1) 0 = none := by
          rw [hR]
          exact firstT_none.2 fun m _ hm => h2 m (by omega)
        refine T_seq ?_
        refine T_seq ?_
        refine T_region ?_
        refine TL_p (PV_move rfl) ?_
        refine TL_p (PV_move rfl) ?_
        refine TL_p (PV.cast (PV_len_string Try.underlying9 rfl) el) ?_
        refine TL_p (PV_bin rfl rfl bin_leq) ?_
        refine TL_p (PV_move rfl) ?_
        refine TL_no (b := false) rfl rfl (gfalse (by exact decide_eq_false (by omega))) rfl ?_
        refine TL_no (b := false) rfl rfl (gfalse (by exact decide_eq_false (by omega))) rfl ?_
        refine TL_p (PV_pickF rfl (by first | assumption | rfl | (simp; done) | (simp; omega) | (simp [*]; done) | (simp [*]; omega)) rfl rfl) ?_
        refine TL_nil ?_
        refine T_else rfl (by rfl) ?_
        refine T_exit ?_
        refine T_seq ?_
        refine T_region ?_
        refine TL_p (PV_loadAt Try.underlying30 rfl sz30 rfl (Rds.take 0 rfl rfl rfl)) ?_
        refine TL_p (PV_move rfl) ?_
        refine TL_cons rfl (TO_eqD call22 (First_gen (V := .tuple #[.int .i64 0, .bool false]) ((hvt hv19).mono fun w h => h.sub (by repeat (first | exact Sb.r | exact Sb.ar | exact Sb.al | apply Sb.d | refine Sb.t ?_))) hus (by omega) hfi rfl) rfl rfl _ (List.Sublist.refl _) ?_)
        refine TL_p (PV_move rfl) ?_
        refine TL_p (PV_extract rfl rfl) ?_
        refine TL_p (PV_extract rfl rfl) ?_
        refine TL_p (PV_assign rfl) ?_
        refine TL_p (PV_assign rfl) ?_
        refine TL_nil ?_
        refine T_seq ?_
        refine T_region ?_
        refine TL_p (PV_move rfl) ?_
        refine TL_p (PV_move rfl) ?_
        refine TL_p (PV_bin rfl rfl bin_eql) ?_
        refine TL_p (PV_move rfl) ?_
        refine TL_yes rfl rfl rfl (TO_pure rfl (PV_move rfl) ?_)
        refine TL_yes rfl rfl rfl (TO_pure rfl (PV_move rfl) ?_)
        refine TL_yes rfl rfl rfl (TO_pure rfl (PV_bin rfl rfl (bin_bool_eql Try.underlying4)) ?_)
        refine TL_p (PV_pickAnd rfl rfl rfl) ?_
        refine TL_p (PV_assign rfl) ?_
        refine TL_nil ?_
        refine T_ret ?_
        refine ret_ret (ResV_one rfl rfl) ⟨_, ?zb8002q122, ⟨rfl, rfl⟩⟩
        case zb8002q122 => exact (by (repeat (first | exact Sb.r | exact Sb.ar | exact Sb.al | apply Sb.c | apply Sb.d | refine Sb.t ?_)); done)
end
end Go.Proofs.Ytkgdphbccagjcaa.SL
