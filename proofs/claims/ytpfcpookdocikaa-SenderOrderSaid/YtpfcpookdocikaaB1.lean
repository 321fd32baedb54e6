import Derived.Test.YtpfcpookdocikaaSLX
/- Sums and blocks: what the functions do. No statement is proved here. -/
set_option linter.unusedVariables false
set_option linter.unusedSimpArgs false
set_option maxRecDepth 100000
namespace Go.Proofs.Ytpfcpookdocikaa.SL
open Go Go.RowKit
section
variable {w0 : World} {B : Nat} {H : List Chunk}
theorem t_step (a : BitVec 16) : TCall Try.prog w0 B 27 #[.int .u16 (a.toNat : Int)] (fun r H' => r = .int .u16 ((Crc.bvn 8 a).toNat : Int) ∧ H' = H) H := by
  refine TCall_intro (args := [_]) Try.func27 rfl Try.ntmps27 (Nat.le_of_ble_eq_true rfl) ?_
  refine T_seq ?_
  refine T_region ?_
  refine TL_p (PV_assign rfl) ?_
  refine TL_nil ?_
  refine T_seq ?_
  refine T_seq ?_
  refine T_region ?_
  refine TL_p (PV_move rfl) ?_
  refine TL_nil ?_
  refine T_block ?_
  refine ?L1
  case L1 =>
    refine T_loop2 (fun (i : Nat) (b : BitVec 16) => i ≤ 8 ∧ Crc.bvn (8 - i) b = Crc.bvn 8 a) (fun i b => 8 - i) (fun i b => [(0, .int .u16 (b.toNat : Int)), (4, .int .i64 (i : Int))]) (fun _ _ => H) 0 a ⟨by omega, rfl⟩ (by repeat (first | exact FrSub.nil _ | refine FrSub.cons rfl ?_)) (by repeat (first | exact Sb.r | exact Sb.ar | exact Sb.al | apply Sb.c | apply Sb.d | refine Sb.t ?_)) ?_
    rintro i b ⟨hi, hb⟩
    have e2 : ((4129#16).toNat : Int) = 4129 := by decide
    have e1 : ((32768#16).toNat : Int) = 32768 := by decide
    have hm : (bits BinOp.and IntKind.u16 (b.toNat : Int) 32768 = 0) ↔ b.msb = false := by rw [← e1, and16]; exact top16 b
    have hs : Value.int .u16 (IntKind.u16.wrap ((b.toNat : Int) * 2 ^ min (Int.toNat 1) IntKind.u16.bits)) = .int .u16 ((b <<< 1).toNat : Int) := congrArg _ (shl16 b)
    refine T_seq ?_
    refine T_region ?_
    refine TL_p (PV_bin rfl rfl bin_lss) ?_
    refine TL_nil ?_
    refine T_seq ?_
    refine T_cond rfl (fun c101 => ?w101q20y) (fun c101 => ?w101q20n)
    try simp only [decide_eq_true_eq, decide_eq_false_iff_not, beq_iff_eq, beq_eq_false_iff_ne, bne_iff_ne, bne_eq_false_iff_eq, ne_eq, Bool.not_eq_true', Bool.not_eq_false', Bool.not_not, Bool.not_true, Bool.not_false, Bool.and_eq_true, Bool.or_eq_true, Bool.and_eq_false_iff, Bool.or_eq_false_iff, Int.not_lt, Int.not_le, gt_iff_lt, ge_iff_le] at c101
    refine T_skip ?_
    refine T_seq ?_
    refine T_block ?_
    refine T_seq ?_
    refine T_region ?_
    refine TL_p (PV_move rfl) ?_
    refine TL_p (PV_bin rfl rfl bin_and) ?_
    refine TL_p (PV_bin rfl rfl bin_neq) ?_
    refine TL_p (PV_assign rfl) ?_
    refine TL_nil ?_
    refine T_seq ?_
    refine T_region ?_
    refine TL_p (PV_move rfl) ?_
    refine TL_p (PV.cast (PV_bin rfl rfl (bin_shl (by decide))) hs) ?_
    refine TL_p (PV_assign rfl) ?_
    refine TL_nil ?_
    refine T_seq ?_
    refine T_region ?_
    refine TL_p (PV_move rfl) ?_
    refine TL_nil ?_
    refine T_cond rfl (fun c102 => ?w102q20y) (fun c102 => ?w102q20n)
    try simp only [decide_eq_true_eq, decide_eq_false_iff_not, beq_iff_eq, beq_eq_false_iff_ne, bne_iff_ne, bne_eq_false_iff_eq, ne_eq, Bool.not_eq_true', Bool.not_eq_false', Bool.not_not, Bool.not_true, Bool.not_false, Bool.and_eq_true, Bool.or_eq_true, Bool.and_eq_false_iff, Bool.or_eq_false_iff, Int.not_lt, Int.not_le, gt_iff_lt, ge_iff_le] at c102
    refine T_region ?_
    refine TL_p (PV_move rfl) ?_
    refine TL_p (PV_bin rfl rfl bin_xor) ?_
    refine TL_p (PV_assign rfl) ?_
    refine TL_nil ?_
    refine T_region ?_
    refine TL_p (PV.cast (PV_bin rfl rfl bin_add) (wr64 (by omega))) ?_
    refine TL_p (PV_move rfl) ?_
    refine TL_nil ?_
    refine ?L2
    rotate_left 1
    try simp only [decide_eq_true_eq, decide_eq_false_iff_not, beq_iff_eq, beq_eq_false_iff_ne, bne_iff_ne, bne_eq_false_iff_eq, ne_eq, Bool.not_eq_true', Bool.not_eq_false', Bool.not_not, Bool.not_true, Bool.not_false, Bool.and_eq_true, Bool.or_eq_true, Bool.and_eq_false_iff, Bool.or_eq_false_iff, Int.not_lt, Int.not_le, gt_iff_lt, ge_iff_le] at c102
    refine T_skip ?_
    refine T_region ?_
    refine TL_p (PV.cast (PV_bin rfl rfl bin_add) (wr64 (by omega))) ?_
    refine TL_p (PV_move rfl) ?_
    refine TL_nil ?_
    refine ?L3
    rotate_left 1
    try simp only [decide_eq_true_eq, decide_eq_false_iff_not, beq_iff_eq, beq_eq_false_iff_ne, bne_iff_ne, bne_eq_false_iff_eq, ne_eq, Bool.not_eq_true', Bool.not_eq_false', Bool.not_not, Bool.not_true, Bool.not_false, Bool.and_eq_true, Bool.or_eq_true, Bool.and_eq_false_iff, Bool.or_eq_false_iff, Int.not_lt, Int.not_le, gt_iff_lt, ge_iff_le] at c101
    refine T_exit ?_
    refine T_seq ?_
    refine T_region ?_
    refine TL_p (PV_move rfl) ?_
    refine TL_p (PV_assign rfl) ?_
    refine TL_nil ?_
    refine T_ret ?_
    refine ret_ret (ResV_one rfl rfl) ⟨_, List.Sublist.refl _, ⟨?L4, rfl⟩⟩
    case L2 =>
      have hmt : b.msb = true := by cases h : b.msb with
        | true => rfl
        | false => exact absurd (hm.2 h) c102
      refine ⟨i + 1, Crc.bv1 b, ⟨by omega, ?_⟩, by omega, ?_, (by repeat (first | exact Sb.r | exact Sb.ar | exact Sb.al | apply Sb.c | apply Sb.d | refine Sb.t ?_))⟩
      · rw [← hb, show 8 - i = (8 - (i + 1)) + 1 by omega]
        rfl
      · repeat (first | exact FrSub.nil _ | refine FrSub.cons rfl ?_ | refine FrSub.consE rfl ?_ ?_)
        show Value.int .u16 _ = _
        rw [← e2, xor16]
        unfold Crc.bv1
        rw [if_pos hmt]
    case L3 =>
      have hmf : b.msb = false := hm.1 c102
      refine ⟨i + 1, Crc.bv1 b, ⟨by omega, ?_⟩, by omega, ?_, (by repeat (first | exact Sb.r | exact Sb.ar | exact Sb.al | apply Sb.c | apply Sb.d | refine Sb.t ?_))⟩
      · rw [← hb, show 8 - i = (8 - (i + 1)) + 1 by omega]
        rfl
      · repeat (first | exact FrSub.nil _ | refine FrSub.cons rfl ?_ | refine FrSub.consE rfl ?_ ?_)
        unfold Crc.bv1
        simp [hmf]
    case L4 =>
      obtain rfl : i = 8 := by omega
      rw [← hb]
      rfl
theorem t_check {A : Option Addr} {m c : Nat} {l : List Int} (h : Shows (WH w0 B H) A m 1 (nums .u8 l)) (hlm : l.length = m) (hm : m ≤ 9223372036854775807) (hc : m ≤ c) : TCall Try.prog w0 B 25 #[.slice A m c] (fun r H' => r = .int .u8 (sumI l) ∧ H' = H) H := by
  refine TCall_intro (args := [_]) Try.func25 rfl Try.ntmps25 (Nat.le_of_ble_eq_true rfl) ?_
  refine T_seq ?_
  refine T_region ?_
  refine TL_p (PV_assign rfl) ?_
  refine TL_nil ?_
  refine T_seq ?_
  refine T_region ?_
  refine TL_p (PV_assign rfl) ?_
  refine TL_nil ?_
  refine T_seq ?_
  refine T_seq ?_
  refine T_region ?_
  refine TL_p (PV_move rfl) ?_
  refine TL_p (PV_len_slice Try.underlying26 rfl) ?_
  refine TL_p (PV_move rfl) ?_
  refine TL_nil ?_
  refine T_block ?_
  refine ?L1
  case L1 =>
    refine T_loop1 (fun (i : Nat) => i ≤ m) (fun i => m - i) (fun i => [(3, .int .u8 (sumI (l.take i))), (6, .slice A m c), (7, .int .i64 (m : Int)), (8, .int .i64 (i : Int))]) (fun _ => H) 0 (by omega) (by repeat (first | exact FrSub.nil _ | refine FrSub.cons rfl ?_)) (by repeat (first | exact Sb.r | exact Sb.ar | exact Sb.al | apply Sb.c | apply Sb.d | refine Sb.t ?_)) ?_
    rintro i hi
    by_cases him : i < m
    · refine T_shows h (by rw [nums_length]; omega) fun ga oa hA hrd => ?_
      subst hA
      have hr := hrd _ _ (nums_at' (off := i * 1) i (Nat.mul_one _) (by omega))
      refine T_seq ?_
      refine T_region ?_
      refine TL_p (PV_bin rfl rfl bin_lss) ?_
      refine TL_nil ?_
      refine T_seq ?_
      refine T_then rfl (by exact decide_eq_true (by omega)) ?_
      refine T_skip ?_
      refine T_seq ?_
      refine T_block ?_
      refine T_seq ?_
      refine T_region ?_
      refine TL_p (PV_indexAddr Try.underlying26 sz5 rfl rfl rfl (by first | omega | decide | assumption)) ?_
      refine TL_p (PV_load Try.underlying5 rfl rfl hr) ?_
      refine TL_p (PV_assign rfl) ?_
      refine TL_nil ?_
      refine T_region ?_
      refine TL_p (PV_move rfl) ?_
      refine TL_p (PV_move rfl) ?_
      refine TL_p (PV_bin rfl rfl bin_add) ?_
      refine TL_p (PV_assign rfl) ?_
      refine TL_nil ?_
      refine T_region ?_
      refine TL_p (PV.cast (PV_bin rfl rfl bin_add) (wr64 (by omega))) ?_
      refine TL_p (PV_move rfl) ?_
      refine TL_nil ?_
      refine ?L2
      case L2 =>
        refine ⟨i + 1, by omega, by omega, ?_, (by repeat (first | exact Sb.r | exact Sb.ar | exact Sb.al | apply Sb.c | apply Sb.d | refine Sb.t ?_))⟩
        repeat (first | exact FrSub.nil _ | refine FrSub.cons rfl ?_ | refine FrSub.consE rfl ?_ ?_)
        rw [take_snoc_rd l i (by omega)]
        unfold sumI
        rw [List.foldl_append, IntKind.wrap_u8]
        rfl
    · refine T_seq ?_
      refine T_region ?_
      refine TL_p (PV_bin rfl rfl bin_lss) ?_
      refine TL_nil ?_
      refine T_seq ?_
      refine T_else rfl (by exact decide_eq_false (by omega)) ?_
      refine T_exit ?_
      refine T_seq ?_
      refine T_region ?_
      refine TL_p (PV_move rfl) ?_
      refine TL_p (PV_assign rfl) ?_
      refine TL_nil ?_
      refine T_ret ?_
      refine ret_ret (ResV_one rfl rfl) ⟨_, List.Sublist.refl _, ⟨?L3, rfl⟩⟩
      case L3 =>
          rw [List.take_of_length_le (by omega)]
theorem t_crc {A : Option Addr} {m c : Nat} {l : List Int} (h : Shows (WH w0 B H) A m 1 (nums .u8 l)) (hlm : l.length = m) (hm : m ≤ 9223372036854775807) (hc : m ≤ c) (hu : U8s l) : TCall Try.prog w0 B 26 #[.slice A m c] (fun r H' => r = .int .u16 (crcI l) ∧ H' = H) H := by
  refine TCall_intro (args := [_]) Try.func26 rfl Try.ntmps26 (Nat.le_of_ble_eq_true rfl) ?_
  refine T_seq ?_
  refine T_region ?_
  refine TL_p (PV_assign rfl) ?_
  refine TL_nil ?_
  refine T_seq ?_
  refine T_region ?_
  refine TL_p (PV_assign rfl) ?_
  refine TL_nil ?_
  refine T_seq ?_
  refine T_seq ?_
  refine T_region ?_
  refine TL_p (PV_move rfl) ?_
  refine TL_p (PV_len_slice Try.underlying26 rfl) ?_
  refine TL_p (PV_move rfl) ?_
  refine TL_nil ?_
  refine T_block ?_
  refine ?L1
  case L1 =>
    refine T_loop1 (fun (i : Nat) => i ≤ m) (fun i => m - i) (fun i => [(3, .int .u16 (crcI (l.take i))), (6, .slice A m c), (7, .int .i64 (m : Int)), (8, .int .i64 (i : Int))]) (fun _ => H) 0 (by omega) (by repeat (first | exact FrSub.nil _ | refine FrSub.cons rfl ?_)) (by repeat (first | exact Sb.r | exact Sb.ar | exact Sb.al | apply Sb.c | apply Sb.d | refine Sb.t ?_)) ?_
    rintro i hi
    by_cases him : i < m
    · refine T_shows h (by rw [nums_length]; omega) fun ga oa hA hrd => ?_
      subst hA
      have hr := hrd _ _ (nums_at' (off := i * 1) i (Nat.mul_one _) (by omega))
      have hv := hu.at_ i
      obtain ⟨b, hb⟩ : ∃ b, Crc.crc 0#16 (bv (l.take i)) = b := ⟨_, rfl⟩
      obtain ⟨v, hv2⟩ := Int.eq_ofNat_of_zero_le hv.1
      have hx : Value.int .u16 (bits .xor .u16 (crcI (l.take i)) (IntKind.u16.wrap (IntKind.u16.wrap (rd l i) * 2 ^ min (Int.toNat 8) IntKind.u16.bits))) = .int .u16 ((b ^^^ ((BitVec.ofInt 8 (rd l i)).setWidth 16 <<< 8)).toNat : Int) := by
        have e : IntKind.u16.wrap (IntKind.u16.wrap (rd l i) * 2 ^ min (Int.toNat 8) IntKind.u16.bits) = (((BitVec.ofInt 8 (rd l i)).setWidth 16 <<< 8).toNat : Int) := by
          rw [show (2 : Int) ^ min (Int.toNat 8) IntKind.u16.bits = 256 from rfl, wrap_u16, wrap_u16, BitVec.toNat_shiftLeft, Nat.shiftLeft_eq, hv2]
          simp
          omega
        unfold crcI
        rw [e, hb, xor16]
      refine T_seq ?_
      refine T_region ?_
      refine TL_p (PV_bin rfl rfl bin_lss) ?_
      refine TL_nil ?_
      refine T_seq ?_
      refine T_then rfl (by exact decide_eq_true (by omega)) ?_
      refine T_skip ?_
      refine T_seq ?_
      refine T_block ?_
      refine T_seq ?_
      refine T_region ?_
      refine TL_p (PV_indexAddr Try.underlying26 sz5 rfl rfl rfl (by first | omega | decide | assumption)) ?_
      refine TL_p (PV_load Try.underlying5 rfl rfl hr) ?_
      refine TL_p (PV_assign rfl) ?_
      refine TL_nil ?_
      refine T_region ?_
      refine TL_p (PV_move rfl) ?_
      refine TL_p (PV_move rfl) ?_
      refine TL_p (PV_conv (by rw [Try.underlying5]; rfl) Try.underlying59 rfl) ?_
      refine TL_p (PV_bin rfl rfl (bin_shl (by decide))) ?_
      refine TL_p (PV.cast (PV_bin rfl rfl bin_xor) hx) ?_
      refine TL_cons rfl (TO_call0 call27 rfl rfl (t_step _) ?_)
      rintro v17_103 H17_103 ⟨rfl, rfl⟩
      refine TL_p (PV_assign rfl) ?_
      refine TL_nil ?_
      refine T_region ?_
      refine TL_p (PV.cast (PV_bin rfl rfl bin_add) (wr64 (by omega))) ?_
      refine TL_p (PV_move rfl) ?_
      refine TL_nil ?_
      refine ?L2
      case L2 =>
        refine ⟨i + 1, by omega, by omega, ?_, (by repeat (first | exact Sb.r | exact Sb.ar | exact Sb.al | apply Sb.c | apply Sb.d | refine Sb.t ?_))⟩
        repeat (first | exact FrSub.nil _ | refine FrSub.cons rfl ?_ | refine FrSub.consE rfl ?_ ?_)
        rw [take_snoc_rd l i (by omega)]
        unfold crcI bv
        rw [List.map_append]
        unfold Crc.crc
        rw [List.foldl_append]
        unfold Crc.crc bv at hb
        rw [hb]
        rfl
    · refine T_seq ?_
      refine T_region ?_
      refine TL_p (PV_bin rfl rfl bin_lss) ?_
      refine TL_nil ?_
      refine T_seq ?_
      refine T_else rfl (by exact decide_eq_false (by omega)) ?_
      refine T_exit ?_
      refine T_seq ?_
      refine T_region ?_
      refine TL_p (PV_move rfl) ?_
      refine TL_p (PV_assign rfl) ?_
      refine TL_nil ?_
      refine T_ret ?_
      refine ret_ret (ResV_one rfl rfl) ⟨_, List.Sublist.refl _, ⟨?L3, rfl⟩⟩
      case L3 =>
          rw [List.take_of_length_le (by omega)]
theorem t_size (lead : Int) (crc : Bool) : TCall Try.prog w0 B 22 #[.int .u8 lead, .bool crc] (fun r H' => r = .int .i64 ((sizeL lead crc : Nat) : Int) ∧ H' = H) H := by
  refine TCall_intro (args := [_, _]) Try.func22 rfl Try.ntmps22 (Nat.le_of_ble_eq_true rfl) ?_
  refine T_seq ?_
  refine T_region ?_
  refine TL_p (PV_assign rfl) ?_
  refine TL_nil ?_
  refine T_seq ?_
  refine T_region ?_
  refine TL_p (PV_assign rfl) ?_
  refine TL_nil ?_
  refine T_seq ?_
  refine T_seq ?_
  refine T_region ?_
  refine TL_p (PV_move rfl) ?_
  refine TL_nil ?_
  refine T_block ?_
  refine T_seq ?_
  refine T_region ?_
  refine TL_p (PV_bin rfl rfl bin_eql) ?_
  refine TL_p (PV_assign rfl) ?_
  refine TL_nil ?_
  refine T_cond rfl (fun c1 => ?w1q105y) (fun c1 => ?w1q105n)
  try simp only [decide_eq_true_eq, decide_eq_false_iff_not, beq_iff_eq, beq_eq_false_iff_ne, bne_iff_ne, bne_eq_false_iff_eq, ne_eq, Bool.not_eq_true', Bool.not_eq_false', Bool.not_not, Bool.not_true, Bool.not_false, Bool.and_eq_true, Bool.or_eq_true, Bool.and_eq_false_iff, Bool.or_eq_false_iff, Int.not_lt, Int.not_le, gt_iff_lt, ge_iff_le] at c1
  refine T_region ?_
  refine TL_p (PV_assign rfl) ?_
  refine TL_nil ?_
  refine T_seq ?_
  refine T_seq ?_
  refine T_region ?_
  refine TL_p (PV_move rfl) ?_
  refine TL_nil ?_
  refine T_cond rfl (fun c2 => ?w2q105y) (fun c2 => ?w2q105n)
  try simp only [decide_eq_true_eq, decide_eq_false_iff_not, beq_iff_eq, beq_eq_false_iff_ne, bne_iff_ne, bne_eq_false_iff_eq, ne_eq, Bool.not_eq_true', Bool.not_eq_false', Bool.not_not, Bool.not_true, Bool.not_false, Bool.and_eq_true, Bool.or_eq_true, Bool.and_eq_false_iff, Bool.or_eq_false_iff, Int.not_lt, Int.not_le, gt_iff_lt, ge_iff_le] at c2
  refine T_region ?_
  refine TL_p (PV_move rfl) ?_
  refine TL_p (PV.cast (PV_bin rfl rfl bin_add) (wr64 (by omega))) ?_
  refine TL_p (PV_assign rfl) ?_
  refine TL_nil ?_
  refine T_seq ?_
  refine T_region ?_
  refine TL_p (PV_move rfl) ?_
  refine TL_p (PV_assign rfl) ?_
  refine TL_nil ?_
  refine T_ret ?_
  refine ret_ret (ResV_one rfl rfl) ⟨_, List.Sublist.refl _, ⟨?L1, rfl⟩⟩
  rotate_left 1
  try simp only [decide_eq_true_eq, decide_eq_false_iff_not, beq_iff_eq, beq_eq_false_iff_ne, bne_iff_ne, bne_eq_false_iff_eq, ne_eq, Bool.not_eq_true', Bool.not_eq_false', Bool.not_not, Bool.not_true, Bool.not_false, Bool.and_eq_true, Bool.or_eq_true, Bool.and_eq_false_iff, Bool.or_eq_false_iff, Int.not_lt, Int.not_le, gt_iff_lt, ge_iff_le] at c2
  refine T_skip ?_
  refine T_seq ?_
  refine T_region ?_
  refine TL_p (PV_move rfl) ?_
  refine TL_p (PV_assign rfl) ?_
  refine TL_nil ?_
  refine T_ret ?_
  refine ret_ret (ResV_one rfl rfl) ⟨_, List.Sublist.refl _, ⟨?L2, rfl⟩⟩
  rotate_left 1
  try simp only [decide_eq_true_eq, decide_eq_false_iff_not, beq_iff_eq, beq_eq_false_iff_ne, bne_iff_ne, bne_eq_false_iff_eq, ne_eq, Bool.not_eq_true', Bool.not_eq_false', Bool.not_not, Bool.not_true, Bool.not_false, Bool.and_eq_true, Bool.or_eq_true, Bool.and_eq_false_iff, Bool.or_eq_false_iff, Int.not_lt, Int.not_le, gt_iff_lt, ge_iff_le] at c1
  refine T_seq ?_
  refine T_region ?_
  refine TL_p (PV_bin rfl rfl bin_eql) ?_
  refine TL_p (PV_assign rfl) ?_
  refine TL_nil ?_
  refine T_cond rfl (fun c5 => ?w5q105y) (fun c5 => ?w5q105n)
  try simp only [decide_eq_true_eq, decide_eq_false_iff_not, beq_iff_eq, beq_eq_false_iff_ne, bne_iff_ne, bne_eq_false_iff_eq, ne_eq, Bool.not_eq_true', Bool.not_eq_false', Bool.not_not, Bool.not_true, Bool.not_false, Bool.and_eq_true, Bool.or_eq_true, Bool.and_eq_false_iff, Bool.or_eq_false_iff, Int.not_lt, Int.not_le, gt_iff_lt, ge_iff_le] at c5
  refine T_region ?_
  refine TL_p (PV_assign rfl) ?_
  refine TL_nil ?_
  refine T_seq ?_
  refine T_seq ?_
  refine T_region ?_
  refine TL_p (PV_move rfl) ?_
  refine TL_nil ?_
  refine T_cond rfl (fun c6 => ?w6q105y) (fun c6 => ?w6q105n)
  try simp only [decide_eq_true_eq, decide_eq_false_iff_not, beq_iff_eq, beq_eq_false_iff_ne, bne_iff_ne, bne_eq_false_iff_eq, ne_eq, Bool.not_eq_true', Bool.not_eq_false', Bool.not_not, Bool.not_true, Bool.not_false, Bool.and_eq_true, Bool.or_eq_true, Bool.and_eq_false_iff, Bool.or_eq_false_iff, Int.not_lt, Int.not_le, gt_iff_lt, ge_iff_le] at c6
  refine T_region ?_
  refine TL_p (PV_move rfl) ?_
  refine TL_p (PV.cast (PV_bin rfl rfl bin_add) (wr64 (by omega))) ?_
  refine TL_p (PV_assign rfl) ?_
  refine TL_nil ?_
  refine T_seq ?_
  refine T_region ?_
  refine TL_p (PV_move rfl) ?_
  refine TL_p (PV_assign rfl) ?_
  refine TL_nil ?_
  refine T_ret ?_
  refine ret_ret (ResV_one rfl rfl) ⟨_, List.Sublist.refl _, ⟨?L3, rfl⟩⟩
  rotate_left 1
  try simp only [decide_eq_true_eq, decide_eq_false_iff_not, beq_iff_eq, beq_eq_false_iff_ne, bne_iff_ne, bne_eq_false_iff_eq, ne_eq, Bool.not_eq_true', Bool.not_eq_false', Bool.not_not, Bool.not_true, Bool.not_false, Bool.and_eq_true, Bool.or_eq_true, Bool.and_eq_false_iff, Bool.or_eq_false_iff, Int.not_lt, Int.not_le, gt_iff_lt, ge_iff_le] at c6
  refine T_skip ?_
  refine T_seq ?_
  refine T_region ?_
  refine TL_p (PV_move rfl) ?_
  refine TL_p (PV_assign rfl) ?_
  refine TL_nil ?_
  refine T_ret ?_
  refine ret_ret (ResV_one rfl rfl) ⟨_, List.Sublist.refl _, ⟨?L4, rfl⟩⟩
  rotate_left 1
  try simp only [decide_eq_true_eq, decide_eq_false_iff_not, beq_iff_eq, beq_eq_false_iff_ne, bne_iff_ne, bne_eq_false_iff_eq, ne_eq, Bool.not_eq_true', Bool.not_eq_false', Bool.not_not, Bool.not_true, Bool.not_false, Bool.and_eq_true, Bool.or_eq_true, Bool.and_eq_false_iff, Bool.or_eq_false_iff, Int.not_lt, Int.not_le, gt_iff_lt, ge_iff_le] at c5
  refine T_seq ?_
  refine T_region ?_
  refine TL_p (PV_assign rfl) ?_
  refine TL_nil ?_
  refine T_ret ?_
  refine ret_ret (ResV_one rfl rfl) ⟨_, List.Sublist.refl _, ⟨?L5, rfl⟩⟩
  all_goals (unfold sizeL; simp [*])
theorem t_trailer {A : Option Addr} {m c : Nat} {l : List Int} (crc : Bool) (h : Shows (WH w0 B H) A m 1 (nums .u8 l)) (hlm : l.length = m) (hm : m ≤ 9223372036854775807) (hc : m ≤ c) (hu : U8s l) : TCall Try.prog w0 B 23 #[.slice A m c, .bool crc] (fun r H' => ∃ (A : Option Addr) (c : Nat), r = .slice A (trailL l crc).length c ∧ (trailL l crc).length ≤ c ∧ H' = .sl (.slice A (trailL l crc).length c) 1 (trailL l crc).length (nums .u8 (trailL l crc)) :: H) H := by
  have hr := crcI_range l
  have e1 : Value.int .u8 (IntKind.u8.wrap ((crcI l).fdiv (2 ^ min (Int.toNat 8) IntKind.u16.bits))) = .int .u8 (crcI l / 256) := by
    rw [show (2 : Int) ^ min (Int.toNat 8) IntKind.u16.bits = 256 from rfl, IntKind.wrap_u8, Int.fdiv_eq_ediv_of_nonneg _ (by decide)]
    congr 1
    omega
  have e2 : Value.int .u8 (IntKind.u8.wrap (crcI l)) = .int .u8 (crcI l % 256) := by rw [IntKind.wrap_u8]
  cases crc with
  | true =>
    refine TCall_intro (args := [_, _]) Try.func23 rfl Try.ntmps23 (Nat.le_of_ble_eq_true rfl) ?_
    refine T_seq ?_
    refine T_region ?_
    refine TL_p (PV_assign rfl) ?_
    refine TL_nil ?_
    refine T_seq ?_
    refine T_seq ?_
    refine T_region ?_
    refine TL_p (PV_move rfl) ?_
    refine TL_p (PV_not rfl) ?_
    refine TL_nil ?_
    refine T_else rfl (by rfl) ?_
    refine T_skip ?_
    refine T_seq ?_
    refine T_region ?_
    refine TL_p (PV_move rfl) ?_
    refine TL_cons rfl (TO_call0 call26 rfl rfl (t_crc h ?sd2q116_1 ?sd2q116_2 ?sd2q116_3 ?sd2q116_4) ?_)
    case sd2q116_1 => omega
    case sd2q116_2 => exact hm
    case sd2q116_3 => exact hc
    case sd2q116_4 => exact hu
    rintro v12_3 H12_3 ⟨rfl, rfl⟩
    refine TL_p (PV_assign rfl) ?_
    refine TL_nil ?_
    refine T_seq ?_
    refine T_region ?_
    refine TL_p (PV_move rfl) ?_
    refine TL_p (PV_bin rfl rfl (bin_shr (by first | decide | omega | assumption))) ?_
    refine TL_p (PV.cast (PV_conv (by rw [Try.underlying59]; rfl) Try.underlying5 rfl) e1) ?_
    refine TL_p (PV_move rfl) ?_
    refine TL_p (PV.cast (PV_conv (by rw [Try.underlying59]; rfl) Try.underlying5 rfl) e2) ?_
    refine TL_cons rfl (TO_bs (cs := [_, _]) Try.underlying26 zs5 (by decide) rfl rfl rfl rfl rfl rfl fun g4 => ?_)
    refine TL_p (PV_assign rfl) ?_
    refine TL_nil ?_
    refine T_ret ?_
    refine ret_ret (ResV_one rfl rfl) ⟨_, List.Sublist.refl _, ⟨_, _, rfl, ?sd5q116_0, rfl⟩⟩
    case sd5q116_0 => exact Nat.le_refl _
  | false =>
    refine TCall_intro (args := [_, _]) Try.func23 rfl Try.ntmps23 (Nat.le_of_ble_eq_true rfl) ?_
    refine T_seq ?_
    refine T_region ?_
    refine TL_p (PV_assign rfl) ?_
    refine TL_nil ?_
    refine T_seq ?_
    refine T_seq ?_
    refine T_region ?_
    refine TL_p (PV_move rfl) ?_
    refine TL_p (PV_not rfl) ?_
    refine TL_nil ?_
    refine T_then rfl (by rfl) ?_
    refine T_seq ?_
    refine T_region ?_
    refine TL_p (PV_move rfl) ?_
    refine TL_cons rfl (TO_call0 call25 rfl rfl (t_check h ?sd2q121_1 ?sd2q121_2 ?sd2q121_3) ?_)
    case sd2q121_1 => omega
    case sd2q121_2 => exact hm
    case sd2q121_3 => exact hc
    rintro v9_3 H9_3 ⟨rfl, rfl⟩
    refine TL_cons rfl (TO_bs (cs := [_]) Try.underlying26 zs5 (by decide) rfl rfl rfl rfl rfl rfl fun g4 => ?_)
    refine TL_p (PV_assign rfl) ?_
    refine TL_nil ?_
    refine T_ret ?_
    refine ret_ret (ResV_one rfl rfl) ⟨_, List.Sublist.refl _, ⟨_, _, rfl, ?sd5q121_0, rfl⟩⟩
    case sd5q121_0 => exact Nat.le_refl _
end
end Go.Proofs.Ytpfcpookdocikaa.SL
