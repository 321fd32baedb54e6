import Derived.Test.YtpfcpookdocikaaB1
/- Blocks: Make, Data. No statement is proved here. -/
set_option linter.unusedVariables false
set_option linter.unusedSimpArgs false
set_option maxRecDepth 100000
namespace Go.Proofs.Ytpfcpookdocikaa.SL
open Go Go.RowKit
section
variable {w0 : World} {B : Nat} {H : List Chunk}
theorem com8 (n : Int) (h : 0 ≤ n ∧ n ≤ 255) : Value.int .u8 (bits .xor .u8 (if IntKind.u8.signed = true then -1 else IntKind.u8.max) n) = .int .u8 (255 - n) := by
  rw [if_neg (by decide), bits_xor_max8 n h]
theorem t49 {num : Int} {A : Option Addr} {m c : Nat} {l : List Int} (crc : Bool) (h : Shows (WH w0 B H) A m 1 (nums .u8 l)) (hlm : l.length = m) (hm : m = 128 ∨ m = 1024) (hc : m ≤ c) (hu : U8s l) (hn : 0 ≤ num ∧ num ≤ 255) : TCall Try.prog w0 B 15 #[.agg #[.int .u8 num, .slice A m c], .bool crc] (fun r H' => ∃ (A : Option Addr) (c' : Nat), r = .tuple #[.slice A (blockL (leadOf m) num l crc).length c', .bool true] ∧ (blockL (leadOf m) num l crc).length ≤ c' ∧ H' = .sl (.slice A (blockL (leadOf m) num l crc).length c') 1 (blockL (leadOf m) num l crc).length (nums .u8 (blockL (leadOf m) num l crc)) :: H) H := by
  have htl := trailL_le l crc
  have hcm := com8 num hn
  have key : ∀ ld : Int, leadOf m = ld → nums .u8 (blockL (leadOf m) num l crc) = [.int .u8 ld, .int .u8 num, .int .u8 (255 - num)] ++ nums .u8 l ++ nums .u8 (trailL l crc) := by
    intro ld hl
    rw [hl]
    unfold blockL
    rw [nums_app, nums_app]
    rfl
  have hlen : (blockL (leadOf m) num l crc).length = 3 + m + (trailL l crc).length := by unfold blockL; simp; omega
  rcases hm with hm | hm
  · have hk := key 1 (by rw [hm]; rfl)
    simp only [hk, hlen]
    refine TCall_intro (args := [_, _]) Try.func15 rfl Try.ntmps15 (Nat.le_of_ble_eq_true rfl) ?_
    refine T_seq ?_
    refine T_region ?_
    refine TL_cons rfl (TO_box rfl rfl fun g1 => ?_)
    refine TL_p (PV_assign rfl) ?_
    refine TL_p (PV_assign rfl) ?_
    refine TL_nil ?_
    refine T_seq ?_
    refine T_region ?_
    refine TL_p (PV_assign rfl) ?_
    refine TL_nil ?_
    refine T_seq ?_
    refine T_seq ?_
    refine T_region ?_
    refine TL_p (PV_fieldAddr (D := 1) Try.underlying28 rfl sz26 (by decide) rfl rfl) ?_
    refine TL_p (PV_load Try.underlying26 rfl rfl (Rd.at 0 rfl rfl)) ?_
    refine TL_p (PV_len_slice Try.underlying26 rfl) ?_
    refine TL_nil ?_
    refine T_block ?_
    refine T_seq ?_
    refine T_region ?_
    refine TL_p (PV_bin rfl rfl bin_eql) ?_
    refine TL_p (PV_assign rfl) ?_
    refine TL_nil ?_
    refine T_then rfl (by exact decide_eq_true (by omega)) ?_
    refine T_skip ?_
    refine T_seq ?_
    refine T_region ?_
    refine TL_p (PV_move rfl) ?_
    refine TL_p (PV_fieldAddr (D := 0) Try.underlying28 rfl sz5 (by decide) rfl rfl) ?_
    refine TL_p (PV_load Try.underlying5 rfl rfl (Rd.at 0 rfl rfl)) ?_
    refine TL_p (PV_fieldAddr (D := 0) Try.underlying28 rfl sz5 (by decide) rfl rfl) ?_
    refine TL_p (PV_load Try.underlying5 rfl rfl (Rd.at 0 rfl rfl)) ?_
    refine TL_p (PV.cast (PV_com rfl) hcm) ?_
    refine TL_cons rfl (TO_bs (cs := [_, _, _]) Try.underlying26 zs5 (by decide) rfl rfl rfl rfl rfl rfl fun g2 => ?_)
    refine TL_p (PV_fieldAddr (D := 1) Try.underlying28 rfl sz26 (by decide) rfl rfl) ?_
    refine TL_p (PV_load Try.underlying26 rfl rfl (Rd.at 1 rfl rfl)) ?_
    refine TL_cons rfl (TO_append 0 rfl Try.underlying26 zb5 rfl (by decide) rfl rfl rfl (Shows.mono h (fun w h => h.sub (by (repeat (first | exact Sb.r | exact Sb.ar | exact Sb.al | apply Sb.d | refine Sb.t ?_)); done))) ?oc3q26 ?bb3q26 ?bc3q26 fun A3 c3 hc3 => ?_)
    case oc3q26 => exact nums_one
    case bb3q26 => omega
    case bc3q26 => omega
    refine TL_p (PV_assign rfl) ?_
    refine TL_nil ?_
    refine T_seq ?_
    refine T_region ?_
    refine TL_p (PV_move rfl) ?_
    refine TL_p (PV_fieldAddr (D := 1) Try.underlying28 rfl sz26 (by decide) rfl rfl) ?_
    refine TL_p (PV_load Try.underlying26 rfl rfl (Rd.at 1 rfl rfl)) ?_
    refine TL_p (PV_move rfl) ?_
    refine TL_cons rfl (TO_call0 call23 rfl rfl (t_trailer _ (Shows.mono h (fun w h => h.sub (by (repeat (first | exact Sb.r | exact Sb.ar | exact Sb.al | apply Sb.d | refine Sb.t ?_)); done))) ?sd5q26_2 ?sd5q26_3 ?sd5q26_4 ?sd5q26_5) ?_)
    case sd5q26_2 => omega
    case sd5q26_3 => omega
    case sd5q26_4 => exact hc
    case sd5q26_5 => exact hu
    rintro v29_6 H29_6 ⟨A_6, c_6, rfl, h_6_0, rfl⟩
    refine TL_cons rfl (TO_append 1 rfl Try.underlying26 zb5 rfl (by decide) rfl rfl rfl (Shows.at 0 rfl) ?oc7q26 ?bb7q26 ?bc7q26 fun A7 c7 hc7 => ?_)
    case oc7q26 => exact nums_one
    case bb7q26 => omega
    case bc7q26 => omega
    refine TL_p (PV_assign rfl) ?_
    refine TL_p (PV_assign rfl) ?_
    refine TL_nil ?_
    refine T_ret ?_
    refine ret_ret (ResV_two rfl rfl rfl) ⟨_, ?zb8q26, ⟨_, _, rfl, ?sd8q26_0, rfl⟩⟩
    case sd8q26_0 => exact hc7
    case zb8q26 => exact (by (repeat (first | exact Sb.r | exact Sb.ar | exact Sb.al | apply Sb.c | apply Sb.d | refine Sb.t ?_)); done)
  · have hk := key 2 (by rw [hm]; rfl)
    simp only [hk, hlen]
    refine TCall_intro (args := [_, _]) Try.func15 rfl Try.ntmps15 (Nat.le_of_ble_eq_true rfl) ?_
    refine T_seq ?_
    refine T_region ?_
    refine TL_cons rfl (TO_box rfl rfl fun g1 => ?_)
    refine TL_p (PV_assign rfl) ?_
    refine TL_p (PV_assign rfl) ?_
    refine TL_nil ?_
    refine T_seq ?_
    refine T_region ?_
    refine TL_p (PV_assign rfl) ?_
    refine TL_nil ?_
    refine T_seq ?_
    refine T_seq ?_
    refine T_region ?_
    refine TL_p (PV_fieldAddr (D := 1) Try.underlying28 rfl sz26 (by decide) rfl rfl) ?_
    refine TL_p (PV_load Try.underlying26 rfl rfl (Rd.at 0 rfl rfl)) ?_
    refine TL_p (PV_len_slice Try.underlying26 rfl) ?_
    refine TL_nil ?_
    refine T_block ?_
    refine T_seq ?_
    refine T_region ?_
    refine TL_p (PV_bin rfl rfl bin_eql) ?_
    refine TL_p (PV_assign rfl) ?_
    refine TL_nil ?_
    refine T_else rfl (by exact decide_eq_false (by omega)) ?_
    refine T_seq ?_
    refine T_region ?_
    refine TL_p (PV_bin rfl rfl bin_eql) ?_
    refine TL_p (PV_assign rfl) ?_
    refine TL_nil ?_
    refine T_then rfl (by exact decide_eq_true (by omega)) ?_
    refine T_region ?_
    refine TL_p (PV_assign rfl) ?_
    refine TL_nil ?_
    refine T_seq ?_
    refine T_region ?_
    refine TL_p (PV_move rfl) ?_
    refine TL_p (PV_fieldAddr (D := 0) Try.underlying28 rfl sz5 (by decide) rfl rfl) ?_
    refine TL_p (PV_load Try.underlying5 rfl rfl (Rd.at 0 rfl rfl)) ?_
    refine TL_p (PV_fieldAddr (D := 0) Try.underlying28 rfl sz5 (by decide) rfl rfl) ?_
    refine TL_p (PV_load Try.underlying5 rfl rfl (Rd.at 0 rfl rfl)) ?_
    refine TL_p (PV.cast (PV_com rfl) hcm) ?_
    refine TL_cons rfl (TO_bs (cs := [_, _, _]) Try.underlying26 zs5 (by decide) rfl rfl rfl rfl rfl rfl fun g2 => ?_)
    refine TL_p (PV_fieldAddr (D := 1) Try.underlying28 rfl sz26 (by decide) rfl rfl) ?_
    refine TL_p (PV_load Try.underlying26 rfl rfl (Rd.at 1 rfl rfl)) ?_
    refine TL_cons rfl (TO_append 0 rfl Try.underlying26 zb5 rfl (by decide) rfl rfl rfl (Shows.mono h (fun w h => h.sub (by (repeat (first | exact Sb.r | exact Sb.ar | exact Sb.al | apply Sb.d | refine Sb.t ?_)); done))) ?oc3q30 ?bb3q30 ?bc3q30 fun A3 c3 hc3 => ?_)
    case oc3q30 => exact nums_one
    case bb3q30 => omega
    case bc3q30 => omega
    refine TL_p (PV_assign rfl) ?_
    refine TL_nil ?_
    refine T_seq ?_
    refine T_region ?_
    refine TL_p (PV_move rfl) ?_
    refine TL_p (PV_fieldAddr (D := 1) Try.underlying28 rfl sz26 (by decide) rfl rfl) ?_
    refine TL_p (PV_load Try.underlying26 rfl rfl (Rd.at 1 rfl rfl)) ?_
    refine TL_p (PV_move rfl) ?_
    refine TL_cons rfl (TO_call0 call23 rfl rfl (t_trailer _ (Shows.mono h (fun w h => h.sub (by (repeat (first | exact Sb.r | exact Sb.ar | exact Sb.al | apply Sb.d | refine Sb.t ?_)); done))) ?sd5q30_2 ?sd5q30_3 ?sd5q30_4 ?sd5q30_5) ?_)
    case sd5q30_2 => omega
    case sd5q30_3 => omega
    case sd5q30_4 => exact hc
    case sd5q30_5 => exact hu
    rintro v29_6 H29_6 ⟨A_6, c_6, rfl, h_6_0, rfl⟩
    refine TL_cons rfl (TO_append 1 rfl Try.underlying26 zb5 rfl (by decide) rfl rfl rfl (Shows.at 0 rfl) ?oc7q30 ?bb7q30 ?bc7q30 fun A7 c7 hc7 => ?_)
    case oc7q30 => exact nums_one
    case bb7q30 => omega
    case bc7q30 => omega
    refine TL_p (PV_assign rfl) ?_
    refine TL_p (PV_assign rfl) ?_
    refine TL_nil ?_
    refine T_ret ?_
    refine ret_ret (ResV_two rfl rfl rfl) ⟨_, ?zb8q30, ⟨_, _, rfl, ?sd8q30_0, rfl⟩⟩
    case sd8q30_0 => exact hc7
    case zb8q30 => exact (by (repeat (first | exact Sb.r | exact Sb.ar | exact Sb.al | apply Sb.c | apply Sb.d | refine Sb.t ?_)); done)
theorem t49no {num : Int} {A : Option Addr} {m c : Nat} (crc : Bool) (h1 : m ≠ 128) (h2 : m ≠ 1024) : TCall Try.prog w0 B 15 #[.agg #[.int .u8 num, .slice A m c], .bool crc] (fun r H' => r = .tuple #[.slice none 0 0, .bool false] ∧ H' = H) H := by
  refine TCall_intro (args := [_, _]) Try.func15 rfl Try.ntmps15 (Nat.le_of_ble_eq_true rfl) ?_
  refine T_seq ?_
  refine T_region ?_
  refine TL_cons rfl (TO_box rfl rfl fun g1 => ?_)
  refine TL_p (PV_assign rfl) ?_
  refine TL_p (PV_assign rfl) ?_
  refine TL_nil ?_
  refine T_seq ?_
  refine T_region ?_
  refine TL_p (PV_assign rfl) ?_
  refine TL_nil ?_
  refine T_seq ?_
  refine T_seq ?_
  refine T_region ?_
  refine TL_p (PV_fieldAddr (D := 1) Try.underlying28 rfl sz26 (by decide) rfl rfl) ?_
  refine TL_p (PV_load Try.underlying26 rfl rfl (Rd.at 0 rfl rfl)) ?_
  refine TL_p (PV_len_slice Try.underlying26 rfl) ?_
  refine TL_nil ?_
  refine T_block ?_
  refine T_seq ?_
  refine T_region ?_
  refine TL_p (PV_bin rfl rfl bin_eql) ?_
  refine TL_p (PV_assign rfl) ?_
  refine TL_nil ?_
  refine T_else rfl (by exact decide_eq_false (by omega)) ?_
  refine T_seq ?_
  refine T_region ?_
  refine TL_p (PV_bin rfl rfl bin_eql) ?_
  refine TL_p (PV_assign rfl) ?_
  refine TL_nil ?_
  refine T_else rfl (by exact decide_eq_false (by omega)) ?_
  refine T_seq ?_
  refine T_region ?_
  refine TL_p (PV_assign rfl) ?_
  refine TL_p (PV_assign rfl) ?_
  refine TL_nil ?_
  refine T_ret ?_
  refine ret_ret (ResV_two rfl rfl rfl) ⟨_, ?zb2q33, ⟨rfl, rfl⟩⟩
  case zb2q33 => exact (by (repeat (first | exact Sb.r | exact Sb.ar | exact Sb.al | apply Sb.c | apply Sb.d | refine Sb.t ?_)); done)
theorem data_val {l : List Int} {m i : Nat} (hlm : l.length = m) (hl0 : ¬ l.length = 0) (hi : i ≤ 1024) : IntKind.u8.wrap (rd l ((i % m : Nat) : Int) + IntKind.u8.wrap (IntKind.i64.wrap (Int.tdiv (i : Int) (m : Int)))) = dataAt l i := by
  have e3 : Int.tdiv (i : Int) (m : Int) = ((i / m : Nat) : Int) := rfl
  have hd : i / m ≤ i := Nat.div_le_self _ _
  subst hlm
  unfold dataAt
  rw [if_neg hl0, e3]
  generalize i / l.length = d at *
  generalize rd l ((i % l.length : Nat) : Int) = z
  have e4 : IntKind.i64.wrap (d : Int) = (d : Int) := by rw [IntKind.wrap_i64]; omega
  rw [e4, IntKind.wrap_u8, IntKind.wrap_u8]
  omega
theorem dataP_len (l : List Int) (n k : Nat) (h : k ≤ n) : (dataP l n k).length = n := by simp [dataP]; omega
theorem t48 {A : Option Addr} {m c : Nat} {l : List Int} (long : Bool) (h : Shows (WH w0 B H) A m 1 (nums .u8 l)) (hlm : l.length = m) (hm : m ≤ 9223372036854775807) (hc : m ≤ c) (hu : U8s l) : TCall Try.prog w0 B 17 #[.slice A m c, .bool long] (fun r H' => ∃ (A : Option Addr) (c : Nat), r = .slice A (dataN long) c ∧ dataN long ≤ c ∧ H' = .sl (.slice A (dataN long) c) 1 (dataN long) (nums .u8 (dataL l long)) :: H) H := by
  refine TCall_intro (args := [_, _]) Try.func17 rfl Try.ntmps17 (Nat.le_of_ble_eq_true rfl) ?_
  refine T_seq ?_
  refine T_region ?_
  refine TL_p (PV_assign rfl) ?_
  refine TL_nil ?_
  refine T_seq ?_
  refine T_region ?_
  refine TL_p (PV_assign rfl) ?_
  refine TL_nil ?_
  refine T_seq ?_
  refine T_seq ?_
  refine T_region ?_
  refine TL_p (PV_move rfl) ?_
  refine TL_nil ?_
  refine T_cond rfl (fun c1 => ?w1q47y) (fun c1 => ?w1q47n)
  try simp only [decide_eq_true_eq, decide_eq_false_iff_not, beq_iff_eq, beq_eq_false_iff_ne, bne_iff_ne, bne_eq_false_iff_eq, ne_eq, Bool.not_eq_true', Bool.not_eq_false', Bool.not_not, Bool.not_true, Bool.not_false, Bool.and_eq_true, Bool.or_eq_true, Bool.and_eq_false_iff, Bool.or_eq_false_iff, Int.not_lt, Int.not_le, gt_iff_lt, ge_iff_le] at c1
  refine T_region ?_
  refine TL_p (PV_assign rfl) ?_
  refine TL_nil ?_
  refine T_seq ?_
  refine T_region ?_
  refine TL_p (PV_move rfl) ?_
  refine TL_cons rfl (TO_make (m := 1024) Try.underlying26 zb5 rfl (by omega) (by omega) rfl ⟨_, rfl⟩ ⟨_, rfl⟩ fun g2 => ?_)
  refine TL_p (PV_assign rfl) ?_
  refine TL_nil ?_
  refine T_seq ?_
  refine T_seq ?_
  refine T_region ?_
  refine TL_p (PV_move rfl) ?_
  refine TL_p (PV_len_slice Try.underlying26 rfl) ?_
  refine TL_p (PV_move rfl) ?_
  refine TL_nil ?_
  refine T_block ?_
  refine ?L1
  rotate_left 1
  try simp only [decide_eq_true_eq, decide_eq_false_iff_not, beq_iff_eq, beq_eq_false_iff_ne, bne_iff_ne, bne_eq_false_iff_eq, ne_eq, Bool.not_eq_true', Bool.not_eq_false', Bool.not_not, Bool.not_true, Bool.not_false, Bool.and_eq_true, Bool.or_eq_true, Bool.and_eq_false_iff, Bool.or_eq_false_iff, Int.not_lt, Int.not_le, gt_iff_lt, ge_iff_le] at c1
  refine T_skip ?_
  refine T_seq ?_
  refine T_region ?_
  refine TL_p (PV_move rfl) ?_
  refine TL_cons rfl (TO_make (m := 128) Try.underlying26 zb5 rfl (by omega) (by omega) rfl ⟨_, rfl⟩ ⟨_, rfl⟩ fun g3 => ?_)
  refine TL_p (PV_assign rfl) ?_
  refine TL_nil ?_
  refine T_seq ?_
  refine T_seq ?_
  refine T_region ?_
  refine TL_p (PV_move rfl) ?_
  refine TL_p (PV_len_slice Try.underlying26 rfl) ?_
  refine TL_p (PV_move rfl) ?_
  refine TL_nil ?_
  refine T_block ?_
  refine ?L2
  case L1 =>
    refine T_loop1 (fun (i : Nat) => i ≤ 1024) (fun i => 1024 - i) (fun i => [(0, .slice A m c), (6, .slice (some ⟨g2, 0, none⟩) 1024 1024), (11, .slice (some ⟨g2, 0, none⟩) 1024 1024), (12, .int .i64 ((1024 : Nat) : Int)), (13, .int .i64 (i : Int))]) (fun i => .sl (.slice (some ⟨g2, 0, none⟩) 1024 1024) 1 1024 (nums .u8 (dataP l 1024 i)) :: H) 0 (by omega) (by repeat (first | exact FrSub.nil _ | refine FrSub.cons rfl ?_)) (by rw [dataP_zero, nums, List.map_replicate]; exact Sb.r) ?_
    rintro i hi
    by_cases hin : i < 1024
    · by_cases hl0 : l.length = 0
      · have hp := dataP_nil l 1024 i hin hl0
        refine T_seq ?_
        refine T_region ?_
        refine TL_p (PV_bin rfl rfl bin_lss) ?_
        refine TL_nil ?_
        refine T_seq ?_
        refine T_then rfl (by exact decide_eq_true (by omega)) ?_
        refine T_skip ?_
        refine T_seq ?_
        refine T_block ?_
        refine T_seq ?_
        refine T_region ?_
        refine TL_p (PV_move rfl) ?_
        refine TL_p (PV_assign rfl) ?_
        refine TL_nil ?_
        refine T_seq ?_
        refine T_region ?_
        refine TL_p (PV_move rfl) ?_
        refine TL_p (PV_len_slice Try.underlying26 rfl) ?_
        refine TL_p (PV_bin rfl rfl bin_gtr) ?_
        refine TL_nil ?_
        refine T_else rfl (by exact decide_eq_false (by omega)) ?_
        refine T_skip ?_
        refine T_region ?_
        refine TL_p (PV.cast (PV_bin rfl rfl bin_add) (wr64 (by omega))) ?_
        refine TL_p (PV_move rfl) ?_
        refine TL_nil ?_
        refine ?L11
        case L11 =>
          refine ⟨i + 1, by omega, by omega, (by repeat (first | exact FrSub.nil _ | refine FrSub.cons rfl ?_)), ?_⟩
          show List.Sublist (.sl (.slice (some ⟨g2, 0, none⟩) 1024 1024) 1 1024 (nums .u8 (dataP l 1024 (i + 1))) :: H) _
          rw [hp]
          exact Sb.r
      · have hml : i % m < m := Nat.mod_lt _ (by omega)
        refine T_shows (h.mono fun w h => h.tl) (by rw [nums_length]; omega) fun ga oa hA hrd => ?_
        subst hA
        have hr := hrd _ _ (nums_at' (off := i % m * 1) (i % m) (Nat.mul_one _) (by omega))
        have hv := hu.at_ ((i % m : Nat) : Int)
        have e1 : Value.int .i64 (Int.tmod (i : Int) (m : Int)) = .int .i64 ((i % m : Nat) : Int) := rfl
        have e2 : Value.int .u8 (IntKind.u8.wrap (rd l ((i % m : Nat) : Int) + IntKind.u8.wrap (IntKind.i64.wrap (Int.tdiv (i : Int) (m : Int))))) = .int .u8 (dataAt l i) := congrArg (Value.int .u8) (data_val hlm hl0 (by omega))
        refine T_seq ?_
        refine T_region ?_
        refine TL_p (PV_bin rfl rfl bin_lss) ?_
        refine TL_nil ?_
        refine T_seq ?_
        refine T_then rfl (by exact decide_eq_true (by omega)) ?_
        refine T_skip ?_
        refine T_seq ?_
        refine T_block ?_
        refine T_seq ?_
        refine T_region ?_
        refine TL_p (PV_move rfl) ?_
        refine TL_p (PV_assign rfl) ?_
        refine TL_nil ?_
        refine T_seq ?_
        refine T_region ?_
        refine TL_p (PV_move rfl) ?_
        refine TL_p (PV_len_slice Try.underlying26 rfl) ?_
        refine TL_p (PV_bin rfl rfl bin_gtr) ?_
        refine TL_nil ?_
        refine T_then rfl (by exact decide_eq_true (by omega)) ?_
        refine T_drawnE 0 mixed ?_
        refine TA_p 0 rfl (by kernel_rfl) (PV_move rfl) ?_
        refine TA_p 1 rfl (by kernel_rfl) (PV_move rfl) ?_
        refine TA_p 2 rfl (by kernel_rfl) (PV_move rfl) ?_
        refine TA_p 3 rfl (by kernel_rfl) (PV_move rfl) ?_
        refine TA_p 4 rfl (by kernel_rfl) (PV_move rfl) ?_
        refine TA_p 5 rfl (by kernel_rfl) (PV_len_slice Try.underlying26 rfl) ?_
        refine TA_p 6 rfl (by kernel_rfl) (PV.cast (PV_bin rfl rfl (bin_rem (by omega))) e1) ?_
        refine TA_p 7 rfl (by kernel_rfl) (PV_indexAddr Try.underlying26 sz5 rfl rfl rfl (by first | omega | decide | assumption)) ?_
        refine TA_p 9 rfl (by kernel_rfl) (PV_move rfl) ?_
        refine TA_p 10 rfl (by kernel_rfl) (PV_move rfl) ?_
        refine TA_p 11 rfl (by kernel_rfl) (PV_len_slice Try.underlying26 rfl) ?_
        refine TA_p 12 rfl (by kernel_rfl) (PV_bin rfl rfl (bin_quo (by omega))) ?_
        refine TA_p 13 rfl (by kernel_rfl) (PV_conv (by rw [Try.underlying3]; rfl) Try.underlying5 rfl) ?_
        refine TA_pure1 (dd := (some 27)) 8 (by kernel_rfl) rfl rfl rfl rfl (PV_load Try.underlying5 rfl rfl hr) ?_
        refine TA_p 14 rfl (by kernel_rfl) (PV.cast (PV_bin rfl rfl bin_add) e2) ?_
        refine TA_p 15 rfl (by kernel_rfl) (PV_indexAddr Try.underlying26 sz5 rfl rfl rfl (by first | omega | decide | assumption)) ?_
        refine TA_one 16 (by kernel_rfl) rfl rfl (TO_store1 0 rfl rfl rfl sz5 rfl rfl rfl (by rw [nums_length, dataP_len l 1024 i hi]; omega) ?_)
        refine ⟨fun _ h => h.sub (by (repeat (first | exact Sb.r | exact Sb.ar | exact Sb.al | apply Sb.d | refine Sb.t ?_)); done), ?_⟩
        refine TA_done (by kernel_rfl) ?_
        refine T_region ?_
        refine TL_p (PV.cast (PV_bin rfl rfl bin_add) (wr64 (by omega))) ?_
        refine TL_p (PV_move rfl) ?_
        refine TL_nil ?_
        refine ?L21
        case L21 =>
          refine ⟨i + 1, by omega, by omega, (by repeat (first | exact FrSub.nil _ | refine FrSub.cons rfl ?_)), ?_⟩
          show List.Sublist (.sl (.slice (some ⟨g2, 0, none⟩) 1024 1024) 1 1024 (nums .u8 (dataP l 1024 (i + 1))) :: H) _
          rw [← dataP_succ l 1024 i hin, ← nums_set' .u8 _ (0 + i * 1) i _ (by omega)]
          exact Sb.r
    · obtain rfl : i = 1024 := by omega
      have hd : dataP l 1024 1024 = dataL l true := dataP_full l 1024
      rw [hd]
      subst c1
      refine T_seq ?_
      refine T_region ?_
      refine TL_p (PV_bin rfl rfl bin_lss) ?_
      refine TL_nil ?_
      refine T_seq ?_
      refine T_else rfl (by rfl) ?_
      refine T_exit ?_
      refine T_seq ?_
      refine T_region ?_
      refine TL_p (PV_move rfl) ?_
      refine TL_p (PV_assign rfl) ?_
      refine TL_nil ?_
      refine T_ret ?_
      refine ret_ret (ResV_one rfl rfl) ⟨_, List.Sublist.refl _, ⟨_, _, rfl, ?sd3001q82_0, rfl⟩⟩
      case sd3001q82_0 => exact hi
  case L2 =>
    refine T_loop1 (fun (i : Nat) => i ≤ 128) (fun i => 128 - i) (fun i => [(0, .slice A m c), (6, .slice (some ⟨g3, 0, none⟩) 128 128), (11, .slice (some ⟨g3, 0, none⟩) 128 128), (12, .int .i64 ((128 : Nat) : Int)), (13, .int .i64 (i : Int))]) (fun i => .sl (.slice (some ⟨g3, 0, none⟩) 128 128) 1 128 (nums .u8 (dataP l 128 i)) :: H) 0 (by omega) (by repeat (first | exact FrSub.nil _ | refine FrSub.cons rfl ?_)) (by rw [dataP_zero, nums, List.map_replicate]; exact Sb.r) ?_
    rintro i hi
    by_cases hin : i < 128
    · by_cases hl0 : l.length = 0
      · have hp := dataP_nil l 128 i hin hl0
        refine T_seq ?_
        refine T_region ?_
        refine TL_p (PV_bin rfl rfl bin_lss) ?_
        refine TL_nil ?_
        refine T_seq ?_
        refine T_then rfl (by exact decide_eq_true (by omega)) ?_
        refine T_skip ?_
        refine T_seq ?_
        refine T_block ?_
        refine T_seq ?_
        refine T_region ?_
        refine TL_p (PV_move rfl) ?_
        refine TL_p (PV_assign rfl) ?_
        refine TL_nil ?_
        refine T_seq ?_
        refine T_region ?_
        refine TL_p (PV_move rfl) ?_
        refine TL_p (PV_len_slice Try.underlying26 rfl) ?_
        refine TL_p (PV_bin rfl rfl bin_gtr) ?_
        refine TL_nil ?_
        refine T_else rfl (by exact decide_eq_false (by omega)) ?_
        refine T_skip ?_
        refine T_region ?_
        refine TL_p (PV.cast (PV_bin rfl rfl bin_add) (wr64 (by omega))) ?_
        refine TL_p (PV_move rfl) ?_
        refine TL_nil ?_
        refine ?L51
        case L51 =>
          refine ⟨i + 1, by omega, by omega, (by repeat (first | exact FrSub.nil _ | refine FrSub.cons rfl ?_)), ?_⟩
          show List.Sublist (.sl (.slice (some ⟨g3, 0, none⟩) 128 128) 1 128 (nums .u8 (dataP l 128 (i + 1))) :: H) _
          rw [hp]
          exact Sb.r
      · have hml : i % m < m := Nat.mod_lt _ (by omega)
        refine T_shows (h.mono fun w h => h.tl) (by rw [nums_length]; omega) fun ga oa hA hrd => ?_
        subst hA
        have hr := hrd _ _ (nums_at' (off := i % m * 1) (i % m) (Nat.mul_one _) (by omega))
        have hv := hu.at_ ((i % m : Nat) : Int)
        have e1 : Value.int .i64 (Int.tmod (i : Int) (m : Int)) = .int .i64 ((i % m : Nat) : Int) := rfl
        have e2 : Value.int .u8 (IntKind.u8.wrap (rd l ((i % m : Nat) : Int) + IntKind.u8.wrap (IntKind.i64.wrap (Int.tdiv (i : Int) (m : Int))))) = .int .u8 (dataAt l i) := congrArg (Value.int .u8) (data_val hlm hl0 (by omega))
        refine T_seq ?_
        refine T_region ?_
        refine TL_p (PV_bin rfl rfl bin_lss) ?_
        refine TL_nil ?_
        refine T_seq ?_
        refine T_then rfl (by exact decide_eq_true (by omega)) ?_
        refine T_skip ?_
        refine T_seq ?_
        refine T_block ?_
        refine T_seq ?_
        refine T_region ?_
        refine TL_p (PV_move rfl) ?_
        refine TL_p (PV_assign rfl) ?_
        refine TL_nil ?_
        refine T_seq ?_
        refine T_region ?_
        refine TL_p (PV_move rfl) ?_
        refine TL_p (PV_len_slice Try.underlying26 rfl) ?_
        refine TL_p (PV_bin rfl rfl bin_gtr) ?_
        refine TL_nil ?_
        refine T_then rfl (by exact decide_eq_true (by omega)) ?_
        refine T_drawnE 0 mixed ?_
        refine TA_p 0 rfl (by kernel_rfl) (PV_move rfl) ?_
        refine TA_p 1 rfl (by kernel_rfl) (PV_move rfl) ?_
        refine TA_p 2 rfl (by kernel_rfl) (PV_move rfl) ?_
        refine TA_p 3 rfl (by kernel_rfl) (PV_move rfl) ?_
        refine TA_p 4 rfl (by kernel_rfl) (PV_move rfl) ?_
        refine TA_p 5 rfl (by kernel_rfl) (PV_len_slice Try.underlying26 rfl) ?_
        refine TA_p 6 rfl (by kernel_rfl) (PV.cast (PV_bin rfl rfl (bin_rem (by omega))) e1) ?_
        refine TA_p 7 rfl (by kernel_rfl) (PV_indexAddr Try.underlying26 sz5 rfl rfl rfl (by first | omega | decide | assumption)) ?_
        refine TA_p 9 rfl (by kernel_rfl) (PV_move rfl) ?_
        refine TA_p 10 rfl (by kernel_rfl) (PV_move rfl) ?_
        refine TA_p 11 rfl (by kernel_rfl) (PV_len_slice Try.underlying26 rfl) ?_
        refine TA_p 12 rfl (by kernel_rfl) (PV_bin rfl rfl (bin_quo (by omega))) ?_
        refine TA_p 13 rfl (by kernel_rfl) (PV_conv (by rw [Try.underlying3]; rfl) Try.underlying5 rfl) ?_
        refine TA_pure1 (dd := (some 27)) 8 (by kernel_rfl) rfl rfl rfl rfl (PV_load Try.underlying5 rfl rfl hr) ?_
        refine TA_p 14 rfl (by kernel_rfl) (PV.cast (PV_bin rfl rfl bin_add) e2) ?_
        refine TA_p 15 rfl (by kernel_rfl) (PV_indexAddr Try.underlying26 sz5 rfl rfl rfl (by first | omega | decide | assumption)) ?_
        refine TA_one 16 (by kernel_rfl) rfl rfl (TO_store1 0 rfl rfl rfl sz5 rfl rfl rfl (by rw [nums_length, dataP_len l 128 i hi]; omega) ?_)
        refine ⟨fun _ h => h.sub (by (repeat (first | exact Sb.r | exact Sb.ar | exact Sb.al | apply Sb.d | refine Sb.t ?_)); done), ?_⟩
        refine TA_done (by kernel_rfl) ?_
        refine T_region ?_
        refine TL_p (PV.cast (PV_bin rfl rfl bin_add) (wr64 (by omega))) ?_
        refine TL_p (PV_move rfl) ?_
        refine TL_nil ?_
        refine ?L61
        case L61 =>
          refine ⟨i + 1, by omega, by omega, (by repeat (first | exact FrSub.nil _ | refine FrSub.cons rfl ?_)), ?_⟩
          show List.Sublist (.sl (.slice (some ⟨g3, 0, none⟩) 128 128) 1 128 (nums .u8 (dataP l 128 (i + 1))) :: H) _
          rw [← dataP_succ l 128 i hin, ← nums_set' .u8 _ (0 + i * 1) i _ (by omega)]
          exact Sb.r
    · obtain rfl : i = 128 := by omega
      have hd : dataP l 128 128 = dataL l false := dataP_full l 128
      rw [hd]
      subst c1
      refine T_seq ?_
      refine T_region ?_
      refine TL_p (PV_bin rfl rfl bin_lss) ?_
      refine TL_nil ?_
      refine T_seq ?_
      refine T_else rfl (by rfl) ?_
      refine T_exit ?_
      refine T_seq ?_
      refine T_region ?_
      refine TL_p (PV_move rfl) ?_
      refine TL_p (PV_assign rfl) ?_
      refine TL_nil ?_
      refine T_ret ?_
      refine ret_ret (ResV_one rfl rfl) ⟨_, List.Sublist.refl _, ⟨_, _, rfl, ?sd7001q117_0, rfl⟩⟩
      case sd7001q117_0 => exact hi
end
end Go.Proofs.Ytpfcpookdocikaa.SL
