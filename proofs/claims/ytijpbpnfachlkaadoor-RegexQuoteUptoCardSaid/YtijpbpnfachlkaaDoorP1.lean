import Derived.Test.YtijpbpnfachlkaaDoorSLX
/- Patterns: sets of bytes, and the reader's small functions. No statement is proved here. -/
set_option linter.unusedVariables false
set_option linter.unusedSimpArgs false
set_option maxRecDepth 100000
set_option maxHeartbeats 4000000
namespace Go.Proofs.YtijpbpnfachlkaaDoor.SL
open Go Go.RowKit
section
theorem ofInt_toNat64 (a : BitVec 64) : BitVec.ofInt 64 (a.toNat : Int) = a := by
  apply BitVec.eq_of_toNat_eq
  rw [BitVec.toNat_ofInt]
  have := a.isLt
  omega
theorem or64 (a b : BitVec 64) : Go.bits .or .u64 (a.toNat : Int) (b.toNat : Int) = ((a ||| b).toNat : Int) := by
  unfold Go.bits
  show IntKind.u64.wrap ((BitVec.ofInt 64 (a.toNat : Int) ||| BitVec.ofInt 64 (b.toNat : Int)).toNat : Int) = _
  rw [ofInt_toNat64, ofInt_toNat64, IntKind.wrap_u64]
  have := (a ||| b).isLt
  omega
theorem and64 (a b : BitVec 64) : Go.bits .and .u64 (a.toNat : Int) (b.toNat : Int) = ((a &&& b).toNat : Int) := by
  unfold Go.bits
  show IntKind.u64.wrap ((BitVec.ofInt 64 (a.toNat : Int) &&& BitVec.ofInt 64 (b.toNat : Int)).toNat : Int) = _
  rw [ofInt_toNat64, ofInt_toNat64, IntKind.wrap_u64]
  have := (a &&& b).isLt
  omega
theorem xor64 (a b : BitVec 64) : Go.bits .xor .u64 (a.toNat : Int) (b.toNat : Int) = ((a ^^^ b).toNat : Int) := by
  unfold Go.bits
  show IntKind.u64.wrap ((BitVec.ofInt 64 (a.toNat : Int) ^^^ BitVec.ofInt 64 (b.toNat : Int)).toNat : Int) = _
  rw [ofInt_toNat64, ofInt_toNat64, IntKind.wrap_u64]
  have := (a ^^^ b).isLt
  omega
/-- bytes: a bit for each -/
structure S4 where
  a : BitVec 64
  b : BitVec 64
  c : BitVec 64
  d : BitVec 64
def S4.word (s : S4) : Nat → BitVec 64
  | 0 => s.a
  | 1 => s.b
  | 2 => s.c
  | _ => s.d
def S4.has (s : S4) (x : Nat) : Bool := (s.word (x / 64)).getLsbD (x % 64)
def bitAt (x k : Nat) : BitVec 64 := if x / 64 = k then 1#64 <<< (x % 64) else 0#64
def S4.with_ (s : S4) (x : Nat) : S4 := ⟨s.a ||| bitAt x 0, s.b ||| bitAt x 1, s.c ||| bitAt x 2, s.d ||| bitAt x 3⟩
def S4.not_ (s : S4) : S4 := ⟨~~~s.a, ~~~s.b, ~~~s.c, ~~~s.d⟩
def S4.zero : S4 := ⟨0#64, 0#64, 0#64, 0#64⟩
def wv (a : BitVec 64) : Value := .int .u64 (a.toNat : Int)
def S4.cells (s : S4) : List Value := [wv s.a, wv s.b, wv s.c, wv s.d]
def S4.val (s : S4) : Value := .agg #[wv s.a, wv s.b, wv s.c, wv s.d]
theorem shl64 (x : Nat) (hx : x < 64) : Value.int .u64 (IntKind.u64.wrap ((1 : Int) * 2 ^ min (Int.toNat (x : Int)) IntKind.u64.bits)) = wv (1#64 <<< x) := by
  have e : min (Int.toNat (x : Int)) IntKind.u64.bits = x := by
    show min x 64 = x
    omega
  unfold wv
  rw [e, IntKind.wrap_u64, BitVec.toNat_shiftLeft, Nat.shiftLeft_eq]
  congr 1
theorem shr64 (a : BitVec 64) (x : Nat) (hx : x < 64) : Value.int .u64 ((a.toNat : Int).fdiv (2 ^ min (Int.toNat (x : Int)) IntKind.u64.bits)) = wv (a >>> x) := by
  have e : min (Int.toNat (x : Int)) IntKind.u64.bits = x := by
    show min x 64 = x
    omega
  unfold wv
  rw [e, BitVec.toNat_ushiftRight, Nat.shiftRight_eq_div_pow, Int.fdiv_eq_ediv_of_nonneg _ (by exact Int.le_of_lt (Int.pow_pos (by decide)))]
  congr 1
theorem bit64 (a : BitVec 64) (x : Nat) : ((a >>> x) &&& 1#64 = 1#64) ↔ a.getLsbD x = true := by
  constructor
  · intro h
    have := congrArg (fun y => y.getLsbD 0) h
    simpa using this
  · intro h
    apply BitVec.eq_of_getLsbD_eq
    intro i hi
    rcases i with _ | i
    · simpa using h
    · have : (1#64).getLsbD (i + 1) = false := by simp
      simp
theorem bitAt_get (x k i : Nat) (hx : x < 256) (hi : i < 64) : (bitAt x k).getLsbD i = decide (x / 64 = k ∧ x % 64 = i) := by
  unfold bitAt
  split
  · rename_i h
    rw [BitVec.getLsbD_shiftLeft]
    have hm := Nat.mod_lt x (show 64 > 0 by decide)
    by_cases he : x % 64 = i
    · subst he
      simp [h, hi]
    · simp [h, he]
      intro h1 h2
      omega
  · rename_i h
    simp [h]
theorem S4.has_with (s : S4) (x y : Nat) (hx : x < 256) (hy : y < 256) : (s.with_ x).has y = (s.has y || decide (x = y)) := by
  have hm := Nat.mod_lt y (show 64 > 0 by decide)
  have h4 : y / 64 = 0 ∨ y / 64 = 1 ∨ y / 64 = 2 ∨ y / 64 = 3 := by omega
  unfold S4.has S4.with_
  rcases h4 with h | h | h | h <;> rw [h] <;> simp only [S4.word, BitVec.getLsbD_or, bitAt_get _ _ _ hx hm] <;> congr 1 <;> exact decide_eq_decide.2 (by omega)
theorem S4.has_not (s : S4) (y : Nat) (hy : y < 256) : s.not_.has y = !s.has y := by
  have hm := Nat.mod_lt y (show 64 > 0 by decide)
  have h4 : y / 64 = 0 ∨ y / 64 = 1 ∨ y / 64 = 2 ∨ y / 64 = 3 := by omega
  unfold S4.has S4.not_
  rcases h4 with h | h | h | h <;> rw [h] <;> simp [S4.word, hm]
theorem S4.has_zero (y : Nat) : S4.zero.has y = false := by
  unfold S4.has S4.zero S4.word
  split <;> simp
theorem wv_not (a : BitVec 64) : Value.int .u64 (Go.bits .xor .u64 IntKind.u64.max (a.toNat : Int)) = wv (~~~a) := by
  unfold wv
  have e : IntKind.u64.max = ((BitVec.allOnes 64).toNat : Int) := by decide
  rw [e, xor64]
  congr 2
end
section
variable {w0 : World} {B : Nat} {H X : List Chunk}
theorem S4.word_at (s : S4) (k : Nat) (hk : k < 4) : s.cells[k]? = some (wv (s.word k)) := by
  have : k = 0 ∨ k = 1 ∨ k = 2 ∨ k = 3 := by omega
  rcases this with rfl | rfl | rfl | rfl <;> rfl
theorem With_val (s : S4) (x : Nat) (v0 v1 v2 v3 : BitVec 64) (h0 : s.a ||| bitAt x 0 = v0) (h1 : s.b ||| bitAt x 1 = v1) (h2 : s.c ||| bitAt x 2 = v2) (h3 : s.d ||| bitAt x 3 = v3) : Value.agg #[wv v0, wv v1, wv v2, wv v3] = (s.with_ x).val := by
  unfold S4.with_ S4.val
  rw [h0, h1, h2, h3]
theorem bitAt_yes {x k : Nat} (h : x / 64 = k) (a : BitVec 64) : a ||| bitAt x k = a ||| 1#64 <<< (x % 64) := by unfold bitAt; rw [if_pos h]
theorem bitAt_no {x k : Nat} (h : x / 64 ≠ k) (a : BitVec 64) : a ||| bitAt x k = a := by unfold bitAt; rw [if_neg h]; simp
theorem With_t (s : S4) (x : Nat) (hx : x < 256) : TCall Tryd.prog w0 B 16 #[s.val, .int .u8 (x : Int)] (fun r H' => r = (s.with_ x).val ∧ H' = H) H := by
  have e10 : Value.int .u8 (Int.tmod (x : Int) 64) = .int .u8 ((x % 64 : Nat) : Int) := rfl
  have e11 := shl64 (x % 64) (Nat.mod_lt _ (by decide))
  have hk : x / 64 = 0 ∨ x / 64 = 1 ∨ x / 64 = 2 ∨ x / 64 = 3 := by omega
  rcases hk with hk | hk | hk | hk
  · have e6 : Value.int .u8 (IntKind.u8.wrap (Int.tdiv (x : Int) 64)) = .int .u8 0 := by
      rw [IntKind.wrap_u8]
      congr 1
      rw [Int.tdiv_eq_ediv_of_nonneg (by omega)]
      omega
    have e12 : Value.int .u64 (Go.bits .or .u64 (s.a.toNat : Int) ((1#64 <<< (x % 64)).toNat : Int)) = wv (s.a ||| 1#64 <<< (x % 64)) := congrArg _ (or64 _ _)
    refine TCall_intro (args := [_, _]) Tryd.func16 rfl Tryd.ntmps16 (Nat.le_of_ble_eq_true rfl) ?_
    refine T_seq ?_
    refine T_region ?_
    refine TL_cons rfl (TO_box rfl rfl fun g101 => ?_)
    refine TL_cons rfl (TO_alloc rfl zr27 fun g102 => ?_)
    refine TL_nil ?_
    refine T_seq ?_
    refine T_region ?_
    refine TL_p (PV_move rfl) ?_
    refine TL_p (PV.cast (PV_bin rfl rfl (bin_quo (by decide))) e6) ?_
    refine TL_p (PV_indexAddrArr (i := 0) Tryd.underlying27 sz25 rfl rfl rfl (by first | decide | omega | assumption)) ?_
    refine TL_p (PV_load Tryd.underlying25 rfl rfl (Rd.at 1 rfl rfl)) ?_
    refine TL_p (PV_move rfl) ?_
    refine TL_p (PV.cast (PV_bin rfl rfl (bin_rem (by decide))) e10) ?_
    refine TL_p (PV.cast (PV_bin rfl rfl (bin_shl (by omega))) e11) ?_
    refine TL_p (PV.cast (PV_bin rfl rfl bin_or) e12) ?_
    refine TL_p (PV_indexAddrArr (i := 0) Tryd.underlying27 sz25 rfl rfl rfl (by first | decide | omega | assumption)) ?_
    refine TL_cons rfl (TO_store1 1 rfl rfl rfl sz25 rfl rfl rfl (by first | exact Nat.le_of_ble_eq_true rfl | (simp; done) | (simp; omega) | omega) ?_)
    refine TL_nil ?_
    refine T_seq ?_
    refine T_region ?_
    refine TL_p (PV_loadAt Tryd.underlying27 rfl sz27 rfl (Rds.take 1 rfl rfl rfl)) ?_
    refine TL_cons rfl (TO_store 0 rfl rfl rfl sz27 rfl rfl rfl (all_one rfl) (by first | exact Nat.le_of_ble_eq_true rfl | (simp; done) | (simp; omega) | omega) ?_)
    refine TL_nil ?_
    refine T_ret ?_
    refine ret_ret (ResV_c rfl Tryd.underlying27 rfl sz27 rfl (Rds.take 0 rfl rfl rfl)) ⟨_, ?zb105q133, ⟨?L2, rfl⟩⟩
    case zb105q133 => exact (by (repeat (first | exact Sb.r | exact Sb.ar | exact Sb.al | apply Sb.c | apply Sb.d | refine Sb.t ?_)); done)
    all_goals (first | exact With_val s x _ _ _ _ (bitAt_yes (by omega) _) (bitAt_no (by omega) _) (bitAt_no (by omega) _) (bitAt_no (by omega) _))
  · have e6 : Value.int .u8 (IntKind.u8.wrap (Int.tdiv (x : Int) 64)) = .int .u8 1 := by
      rw [IntKind.wrap_u8]
      congr 1
      rw [Int.tdiv_eq_ediv_of_nonneg (by omega)]
      omega
    have e12 : Value.int .u64 (Go.bits .or .u64 (s.b.toNat : Int) ((1#64 <<< (x % 64)).toNat : Int)) = wv (s.b ||| 1#64 <<< (x % 64)) := congrArg _ (or64 _ _)
    refine TCall_intro (args := [_, _]) Tryd.func16 rfl Tryd.ntmps16 (Nat.le_of_ble_eq_true rfl) ?_
    refine T_seq ?_
    refine T_region ?_
    refine TL_cons rfl (TO_box rfl rfl fun g1101 => ?_)
    refine TL_cons rfl (TO_alloc rfl zr27 fun g1102 => ?_)
    refine TL_nil ?_
    refine T_seq ?_
    refine T_region ?_
    refine TL_p (PV_move rfl) ?_
    refine TL_p (PV.cast (PV_bin rfl rfl (bin_quo (by decide))) e6) ?_
    refine TL_p (PV_indexAddrArr (i := 1) Tryd.underlying27 sz25 rfl rfl rfl (by first | decide | omega | assumption)) ?_
    refine TL_p (PV_load Tryd.underlying25 rfl rfl (Rd.at 1 rfl rfl)) ?_
    refine TL_p (PV_move rfl) ?_
    refine TL_p (PV.cast (PV_bin rfl rfl (bin_rem (by decide))) e10) ?_
    refine TL_p (PV.cast (PV_bin rfl rfl (bin_shl (by omega))) e11) ?_
    refine TL_p (PV.cast (PV_bin rfl rfl bin_or) e12) ?_
    refine TL_p (PV_indexAddrArr (i := 1) Tryd.underlying27 sz25 rfl rfl rfl (by first | decide | omega | assumption)) ?_
    refine TL_cons rfl (TO_store1 1 rfl rfl rfl sz25 rfl rfl rfl (by first | exact Nat.le_of_ble_eq_true rfl | (simp; done) | (simp; omega) | omega) ?_)
    refine TL_nil ?_
    refine T_seq ?_
    refine T_region ?_
    refine TL_p (PV_loadAt Tryd.underlying27 rfl sz27 rfl (Rds.take 1 rfl rfl rfl)) ?_
    refine TL_cons rfl (TO_store 0 rfl rfl rfl sz27 rfl rfl rfl (all_one rfl) (by first | exact Nat.le_of_ble_eq_true rfl | (simp; done) | (simp; omega) | omega) ?_)
    refine TL_nil ?_
    refine T_ret ?_
    refine ret_ret (ResV_c rfl Tryd.underlying27 rfl sz27 rfl (Rds.take 0 rfl rfl rfl)) ⟨_, ?zb1105q145, ⟨?L12, rfl⟩⟩
    case zb1105q145 => exact (by (repeat (first | exact Sb.r | exact Sb.ar | exact Sb.al | apply Sb.c | apply Sb.d | refine Sb.t ?_)); done)
    all_goals (first | exact With_val s x _ _ _ _ (bitAt_no (by omega) _) (bitAt_yes (by omega) _) (bitAt_no (by omega) _) (bitAt_no (by omega) _))
  · have e6 : Value.int .u8 (IntKind.u8.wrap (Int.tdiv (x : Int) 64)) = .int .u8 2 := by
      rw [IntKind.wrap_u8]
      congr 1
      rw [Int.tdiv_eq_ediv_of_nonneg (by omega)]
      omega
    have e12 : Value.int .u64 (Go.bits .or .u64 (s.c.toNat : Int) ((1#64 <<< (x % 64)).toNat : Int)) = wv (s.c ||| 1#64 <<< (x % 64)) := congrArg _ (or64 _ _)
    refine TCall_intro (args := [_, _]) Tryd.func16 rfl Tryd.ntmps16 (Nat.le_of_ble_eq_true rfl) ?_
    refine T_seq ?_
    refine T_region ?_
    refine TL_cons rfl (TO_box rfl rfl fun g2101 => ?_)
    refine TL_cons rfl (TO_alloc rfl zr27 fun g2102 => ?_)
    refine TL_nil ?_
    refine T_seq ?_
    refine T_region ?_
    refine TL_p (PV_move rfl) ?_
    refine TL_p (PV.cast (PV_bin rfl rfl (bin_quo (by decide))) e6) ?_
    refine TL_p (PV_indexAddrArr (i := 2) Tryd.underlying27 sz25 rfl rfl rfl (by first | decide | omega | assumption)) ?_
    refine TL_p (PV_load Tryd.underlying25 rfl rfl (Rd.at 1 rfl rfl)) ?_
    refine TL_p (PV_move rfl) ?_
    refine TL_p (PV.cast (PV_bin rfl rfl (bin_rem (by decide))) e10) ?_
    refine TL_p (PV.cast (PV_bin rfl rfl (bin_shl (by omega))) e11) ?_
    refine TL_p (PV.cast (PV_bin rfl rfl bin_or) e12) ?_
    refine TL_p (PV_indexAddrArr (i := 2) Tryd.underlying27 sz25 rfl rfl rfl (by first | decide | omega | assumption)) ?_
    refine TL_cons rfl (TO_store1 1 rfl rfl rfl sz25 rfl rfl rfl (by first | exact Nat.le_of_ble_eq_true rfl | (simp; done) | (simp; omega) | omega) ?_)
    refine TL_nil ?_
    refine T_seq ?_
    refine T_region ?_
    refine TL_p (PV_loadAt Tryd.underlying27 rfl sz27 rfl (Rds.take 1 rfl rfl rfl)) ?_
    refine TL_cons rfl (TO_store 0 rfl rfl rfl sz27 rfl rfl rfl (all_one rfl) (by first | exact Nat.le_of_ble_eq_true rfl | (simp; done) | (simp; omega) | omega) ?_)
    refine TL_nil ?_
    refine T_ret ?_
    refine ret_ret (ResV_c rfl Tryd.underlying27 rfl sz27 rfl (Rds.take 0 rfl rfl rfl)) ⟨_, ?zb2105q157, ⟨?L22, rfl⟩⟩
    case zb2105q157 => exact (by (repeat (first | exact Sb.r | exact Sb.ar | exact Sb.al | apply Sb.c | apply Sb.d | refine Sb.t ?_)); done)
    all_goals (first | exact With_val s x _ _ _ _ (bitAt_no (by omega) _) (bitAt_no (by omega) _) (bitAt_yes (by omega) _) (bitAt_no (by omega) _))
  · have e6 : Value.int .u8 (IntKind.u8.wrap (Int.tdiv (x : Int) 64)) = .int .u8 3 := by
      rw [IntKind.wrap_u8]
      congr 1
      rw [Int.tdiv_eq_ediv_of_nonneg (by omega)]
      omega
    have e12 : Value.int .u64 (Go.bits .or .u64 (s.d.toNat : Int) ((1#64 <<< (x % 64)).toNat : Int)) = wv (s.d ||| 1#64 <<< (x % 64)) := congrArg _ (or64 _ _)
    refine TCall_intro (args := [_, _]) Tryd.func16 rfl Tryd.ntmps16 (Nat.le_of_ble_eq_true rfl) ?_
    refine T_seq ?_
    refine T_region ?_
    refine TL_cons rfl (TO_box rfl rfl fun g3101 => ?_)
    refine TL_cons rfl (TO_alloc rfl zr27 fun g3102 => ?_)
    refine TL_nil ?_
    refine T_seq ?_
    refine T_region ?_
    refine TL_p (PV_move rfl) ?_
    refine TL_p (PV.cast (PV_bin rfl rfl (bin_quo (by decide))) e6) ?_
    refine TL_p (PV_indexAddrArr (i := 3) Tryd.underlying27 sz25 rfl rfl rfl (by first | decide | omega | assumption)) ?_
    refine TL_p (PV_load Tryd.underlying25 rfl rfl (Rd.at 1 rfl rfl)) ?_
    refine TL_p (PV_move rfl) ?_
    refine TL_p (PV.cast (PV_bin rfl rfl (bin_rem (by decide))) e10) ?_
    refine TL_p (PV.cast (PV_bin rfl rfl (bin_shl (by omega))) e11) ?_
    refine TL_p (PV.cast (PV_bin rfl rfl bin_or) e12) ?_
    refine TL_p (PV_indexAddrArr (i := 3) Tryd.underlying27 sz25 rfl rfl rfl (by first | decide | omega | assumption)) ?_
    refine TL_cons rfl (TO_store1 1 rfl rfl rfl sz25 rfl rfl rfl (by first | exact Nat.le_of_ble_eq_true rfl | (simp; done) | (simp; omega) | omega) ?_)
    refine TL_nil ?_
    refine T_seq ?_
    refine T_region ?_
    refine TL_p (PV_loadAt Tryd.underlying27 rfl sz27 rfl (Rds.take 1 rfl rfl rfl)) ?_
    refine TL_cons rfl (TO_store 0 rfl rfl rfl sz27 rfl rfl rfl (all_one rfl) (by first | exact Nat.le_of_ble_eq_true rfl | (simp; done) | (simp; omega) | omega) ?_)
    refine TL_nil ?_
    refine T_ret ?_
    refine ret_ret (ResV_c rfl Tryd.underlying27 rfl sz27 rfl (Rds.take 0 rfl rfl rfl)) ⟨_, ?zb3105q169, ⟨?L32, rfl⟩⟩
    case zb3105q169 => exact (by (repeat (first | exact Sb.r | exact Sb.ar | exact Sb.al | apply Sb.c | apply Sb.d | refine Sb.t ?_)); done)
    all_goals (first | exact With_val s x _ _ _ _ (bitAt_no (by omega) _) (bitAt_no (by omega) _) (bitAt_no (by omega) _) (bitAt_yes (by omega) _))
theorem has_val (s : S4) (x k : Nat) (w : BitVec 64) (hk : x / 64 = k) (hw : s.word k = w) : Value.bool ((((w >>> (x % 64)) &&& 1#64).toNat : Int) == 1) = .bool (s.has x) := by
  unfold S4.has
  rw [hk, hw]
  congr 1
  by_cases h : w.getLsbD (x % 64) = true
  · rw [(bit64 _ _).2 h, h]
    rfl
  · have h2 : ¬ (w >>> (x % 64)) &&& 1#64 = 1#64 := fun e => h ((bit64 _ _).1 e)
    have h3 : w.getLsbD (x % 64) = false := by simpa using h
    rw [h3]
    have h4 : ¬ ((((w >>> (x % 64)) &&& 1#64).toNat : Int) = 1) := fun e => h2 (BitVec.eq_of_toNat_eq (by rw [show (1#64).toNat = 1 from rfl]; omega))
    simpa using h4
theorem Has_t (s : S4) (x : Nat) (hx : x < 256) : TCall Tryd.prog w0 B 17 #[s.val, .int .u8 (x : Int)] (fun r H' => r = .bool (s.has x) ∧ H' = H) H := by
  have e10 : Value.int .u8 (Int.tmod (x : Int) 64) = .int .u8 ((x % 64 : Nat) : Int) := rfl
  have hk : x / 64 = 0 ∨ x / 64 = 1 ∨ x / 64 = 2 ∨ x / 64 = 3 := by omega
  rcases hk with hk | hk | hk | hk
  · have e6 : Value.int .u8 (IntKind.u8.wrap (Int.tdiv (x : Int) 64)) = .int .u8 0 := by
      rw [IntKind.wrap_u8]
      congr 1
      rw [Int.tdiv_eq_ediv_of_nonneg (by omega)]
      omega
    have e11 := shr64 s.a (x % 64) (Nat.mod_lt _ (by decide))
    have e12 : Value.int .u64 (Go.bits .and .u64 ((s.a >>> (x % 64)).toNat : Int) 1) = .int .u64 (((s.a >>> (x % 64)) &&& 1#64).toNat : Int) := congrArg _ (and64 _ 1#64)
    have e13 := has_val s x 0 s.a hk rfl
    refine TCall_intro (args := [_, _]) Tryd.func17 rfl Tryd.ntmps17 (Nat.le_of_ble_eq_true rfl) ?_
    refine T_seq ?_
    refine T_region ?_
    refine TL_cons rfl (TO_box rfl rfl fun g101 => ?_)
    refine TL_p (PV_assign rfl) ?_
    refine TL_nil ?_
    refine T_seq ?_
    refine T_region ?_
    refine TL_p (PV_move rfl) ?_
    refine TL_p (PV.cast (PV_bin rfl rfl (bin_quo (by decide))) e6) ?_
    refine TL_p (PV_indexAddrArr (i := 0) Tryd.underlying27 sz25 rfl rfl rfl (by first | decide | omega | assumption)) ?_
    refine TL_p (PV_load Tryd.underlying25 rfl rfl (Rd.at 0 rfl rfl)) ?_
    refine TL_p (PV_move rfl) ?_
    refine TL_p (PV.cast (PV_bin rfl rfl (bin_rem (by decide))) e10) ?_
    refine TL_p (PV.cast (PV_bin rfl rfl (bin_shr (by omega))) e11) ?_
    refine TL_p (PV.cast (PV_bin rfl rfl bin_and) e12) ?_
    refine TL_p (PV.cast (PV_bin rfl rfl bin_eql) e13) ?_
    refine TL_p (PV_assign rfl) ?_
    refine TL_nil ?_
    refine T_ret ?_
    refine ret_ret (ResV_one rfl rfl) ⟨_, ?zb102q199, ⟨rfl, rfl⟩⟩
    case zb102q199 => exact (by (repeat (first | exact Sb.r | exact Sb.ar | exact Sb.al | apply Sb.c | apply Sb.d | refine Sb.t ?_)); done)
  · have e6 : Value.int .u8 (IntKind.u8.wrap (Int.tdiv (x : Int) 64)) = .int .u8 1 := by
      rw [IntKind.wrap_u8]
      congr 1
      rw [Int.tdiv_eq_ediv_of_nonneg (by omega)]
      omega
    have e11 := shr64 s.b (x % 64) (Nat.mod_lt _ (by decide))
    have e12 : Value.int .u64 (Go.bits .and .u64 ((s.b >>> (x % 64)).toNat : Int) 1) = .int .u64 (((s.b >>> (x % 64)) &&& 1#64).toNat : Int) := congrArg _ (and64 _ 1#64)
    have e13 := has_val s x 1 s.b hk rfl
    refine TCall_intro (args := [_, _]) Tryd.func17 rfl Tryd.ntmps17 (Nat.le_of_ble_eq_true rfl) ?_
    refine T_seq ?_
    refine T_region ?_
    refine TL_cons rfl (TO_box rfl rfl fun g1101 => ?_)
    refine TL_p (PV_assign rfl) ?_
    refine TL_nil ?_
    refine T_seq ?_
    refine T_region ?_
    refine TL_p (PV_move rfl) ?_
    refine TL_p (PV.cast (PV_bin rfl rfl (bin_quo (by decide))) e6) ?_
    refine TL_p (PV_indexAddrArr (i := 1) Tryd.underlying27 sz25 rfl rfl rfl (by first | decide | omega | assumption)) ?_
    refine TL_p (PV_load Tryd.underlying25 rfl rfl (Rd.at 0 rfl rfl)) ?_
    refine TL_p (PV_move rfl) ?_
    refine TL_p (PV.cast (PV_bin rfl rfl (bin_rem (by decide))) e10) ?_
    refine TL_p (PV.cast (PV_bin rfl rfl (bin_shr (by omega))) e11) ?_
    refine TL_p (PV.cast (PV_bin rfl rfl bin_and) e12) ?_
    refine TL_p (PV.cast (PV_bin rfl rfl bin_eql) e13) ?_
    refine TL_p (PV_assign rfl) ?_
    refine TL_nil ?_
    refine T_ret ?_
    refine ret_ret (ResV_one rfl rfl) ⟨_, ?zb1102q213, ⟨rfl, rfl⟩⟩
    case zb1102q213 => exact (by (repeat (first | exact Sb.r | exact Sb.ar | exact Sb.al | apply Sb.c | apply Sb.d | refine Sb.t ?_)); done)
  · have e6 : Value.int .u8 (IntKind.u8.wrap (Int.tdiv (x : Int) 64)) = .int .u8 2 := by
      rw [IntKind.wrap_u8]
      congr 1
      rw [Int.tdiv_eq_ediv_of_nonneg (by omega)]
      omega
    have e11 := shr64 s.c (x % 64) (Nat.mod_lt _ (by decide))
    have e12 : Value.int .u64 (Go.bits .and .u64 ((s.c >>> (x % 64)).toNat : Int) 1) = .int .u64 (((s.c >>> (x % 64)) &&& 1#64).toNat : Int) := congrArg _ (and64 _ 1#64)
    have e13 := has_val s x 2 s.c hk rfl
    refine TCall_intro (args := [_, _]) Tryd.func17 rfl Tryd.ntmps17 (Nat.le_of_ble_eq_true rfl) ?_
    refine T_seq ?_
    refine T_region ?_
    refine TL_cons rfl (TO_box rfl rfl fun g2101 => ?_)
    refine TL_p (PV_assign rfl) ?_
    refine TL_nil ?_
    refine T_seq ?_
    refine T_region ?_
    refine TL_p (PV_move rfl) ?_
    refine TL_p (PV.cast (PV_bin rfl rfl (bin_quo (by decide))) e6) ?_
    refine TL_p (PV_indexAddrArr (i := 2) Tryd.underlying27 sz25 rfl rfl rfl (by first | decide | omega | assumption)) ?_
    refine TL_p (PV_load Tryd.underlying25 rfl rfl (Rd.at 0 rfl rfl)) ?_
    refine TL_p (PV_move rfl) ?_
    refine TL_p (PV.cast (PV_bin rfl rfl (bin_rem (by decide))) e10) ?_
    refine TL_p (PV.cast (PV_bin rfl rfl (bin_shr (by omega))) e11) ?_
    refine TL_p (PV.cast (PV_bin rfl rfl bin_and) e12) ?_
    refine TL_p (PV.cast (PV_bin rfl rfl bin_eql) e13) ?_
    refine TL_p (PV_assign rfl) ?_
    refine TL_nil ?_
    refine T_ret ?_
    refine ret_ret (ResV_one rfl rfl) ⟨_, ?zb2102q227, ⟨rfl, rfl⟩⟩
    case zb2102q227 => exact (by (repeat (first | exact Sb.r | exact Sb.ar | exact Sb.al | apply Sb.c | apply Sb.d | refine Sb.t ?_)); done)
  · have e6 : Value.int .u8 (IntKind.u8.wrap (Int.tdiv (x : Int) 64)) = .int .u8 3 := by
      rw [IntKind.wrap_u8]
      congr 1
      rw [Int.tdiv_eq_ediv_of_nonneg (by omega)]
      omega
    have e11 := shr64 s.d (x % 64) (Nat.mod_lt _ (by decide))
    have e12 : Value.int .u64 (Go.bits .and .u64 ((s.d >>> (x % 64)).toNat : Int) 1) = .int .u64 (((s.d >>> (x % 64)) &&& 1#64).toNat : Int) := congrArg _ (and64 _ 1#64)
    have e13 := has_val s x 3 s.d hk rfl
    refine TCall_intro (args := [_, _]) Tryd.func17 rfl Tryd.ntmps17 (Nat.le_of_ble_eq_true rfl) ?_
    refine T_seq ?_
    refine T_region ?_
    refine TL_cons rfl (TO_box rfl rfl fun g3101 => ?_)
    refine TL_p (PV_assign rfl) ?_
    refine TL_nil ?_
    refine T_seq ?_
    refine T_region ?_
    refine TL_p (PV_move rfl) ?_
    refine TL_p (PV.cast (PV_bin rfl rfl (bin_quo (by decide))) e6) ?_
    refine TL_p (PV_indexAddrArr (i := 3) Tryd.underlying27 sz25 rfl rfl rfl (by first | decide | omega | assumption)) ?_
    refine TL_p (PV_load Tryd.underlying25 rfl rfl (Rd.at 0 rfl rfl)) ?_
    refine TL_p (PV_move rfl) ?_
    refine TL_p (PV.cast (PV_bin rfl rfl (bin_rem (by decide))) e10) ?_
    refine TL_p (PV.cast (PV_bin rfl rfl (bin_shr (by omega))) e11) ?_
    refine TL_p (PV.cast (PV_bin rfl rfl bin_and) e12) ?_
    refine TL_p (PV.cast (PV_bin rfl rfl bin_eql) e13) ?_
    refine TL_p (PV_assign rfl) ?_
    refine TL_nil ?_
    refine T_ret ?_
    refine ret_ret (ResV_one rfl rfl) ⟨_, ?zb3102q241, ⟨rfl, rfl⟩⟩
    case zb3102q241 => exact (by (repeat (first | exact Sb.r | exact Sb.ar | exact Sb.al | apply Sb.c | apply Sb.d | refine Sb.t ?_)); done)
/-- a set of which the first words are turned -/
def S4.part (s : S4) (i : Nat) : S4 := ⟨if 0 < i then ~~~s.a else s.a, if 1 < i then ~~~s.b else s.b, if 2 < i then ~~~s.c else s.c, if 3 < i then ~~~s.d else s.d⟩
theorem Not_t (s : S4) : TCall Tryd.prog w0 B 18 #[s.val] (fun r H' => r = s.not_.val ∧ H' = H) H := by
  refine TCall_intro (args := [_]) Tryd.func18 rfl Tryd.ntmps18 (Nat.le_of_ble_eq_true rfl) ?_
  refine T_seq ?_
  refine T_region ?_
  refine TL_cons rfl (TO_box rfl rfl fun g1 => ?_)
  refine TL_cons rfl (TO_alloc rfl zr27 fun g2 => ?_)
  refine TL_nil ?_
  refine T_seq ?_
  refine T_seq ?_
  refine T_region ?_
  refine TL_p (PV_move rfl) ?_
  refine TL_nil ?_
  refine T_block ?_
  refine ?L1
  case L1 =>
    refine T_loopP1 (fun (i : Nat) => i ≤ 4) (fun i => 4 - i) (fun i => [(1, .pointer (some ⟨g1, 0, none⟩)), (2, .pointer (some ⟨g2, 0, none⟩)), (4, .int .i64 (i : Int))]) (fun i => .own g2 4 S4.zero.cells :: .own g1 4 (s.part i).cells :: H) 0 (by decide) (by repeat (first | exact FrSub.nil _ | refine FrSub.cons rfl ?_)) (Has.of_sub (by repeat (first | exact Sb.r | exact Sb.ar | exact Sb.al | apply Sb.c | apply Sb.d | refine Sb.t ?_))) ?_
    intro i hi
    have h5 : i = 0 ∨ i = 1 ∨ i = 2 ∨ i = 3 ∨ i = 4 := by omega
    have na := wv_not s.a
    have nb := wv_not s.b
    have nc := wv_not s.c
    have nd := wv_not s.d
    rcases h5 with rfl | rfl | rfl | rfl | rfl
    · refine T_seq ?_
      refine T_region ?_
      refine TL_p (PV_bin rfl rfl bin_lss) ?_
      refine TL_nil ?_
      refine T_seq ?_
      refine T_then rfl (by rfl) ?_
      refine T_skip ?_
      refine T_seq ?_
      refine T_block ?_
      refine T_seq ?_
      refine T_region ?_
      refine TL_p (PV_move rfl) ?_
      refine TL_p (PV_assign rfl) ?_
      refine TL_nil ?_
      refine T_region ?_
      refine TL_p (PV_move rfl) ?_
      refine TL_p (PV_move rfl) ?_
      refine TL_p (PV_indexAddrArr (i := 0) Tryd.underlying27 sz25 rfl rfl rfl (by first | decide | omega | assumption)) ?_
      refine TL_p (PV_load Tryd.underlying25 rfl rfl (Rd.at 1 rfl rfl)) ?_
      refine TL_p (PV.cast (PV_com rfl) na) ?_
      refine TL_p (PV_indexAddrArr (i := 0) Tryd.underlying27 sz25 rfl rfl rfl (by first | decide | omega | assumption)) ?_
      refine TL_cons rfl (TO_store1 1 rfl rfl rfl sz25 rfl rfl rfl (by first | exact Nat.le_of_ble_eq_true rfl | (simp; done) | (simp; omega) | omega) ?_)
      refine TL_nil ?_
      refine T_region ?_
      refine TL_p (PV.cast (PV_bin rfl rfl bin_add) (wr64 (by omega))) ?_
      refine TL_p (PV_move rfl) ?_
      refine TL_nil ?_
      refine ?L11
      all_goals (first | exact ⟨1, by omega, by omega, (by repeat (first | exact FrSub.nil _ | refine FrSub.cons rfl ?_)), Has.of_sub (by repeat (first | exact Sb.r | exact Sb.ar | exact Sb.al | apply Sb.c | apply Sb.d | refine Sb.t ?_))⟩)
    · refine T_seq ?_
      refine T_region ?_
      refine TL_p (PV_bin rfl rfl bin_lss) ?_
      refine TL_nil ?_
      refine T_seq ?_
      refine T_then rfl (by rfl) ?_
      refine T_skip ?_
      refine T_seq ?_
      refine T_block ?_
      refine T_seq ?_
      refine T_region ?_
      refine TL_p (PV_move rfl) ?_
      refine TL_p (PV_assign rfl) ?_
      refine TL_nil ?_
      refine T_region ?_
      refine TL_p (PV_move rfl) ?_
      refine TL_p (PV_move rfl) ?_
      refine TL_p (PV_indexAddrArr (i := 1) Tryd.underlying27 sz25 rfl rfl rfl (by first | decide | omega | assumption)) ?_
      refine TL_p (PV_load Tryd.underlying25 rfl rfl (Rd.at 1 rfl rfl)) ?_
      refine TL_p (PV.cast (PV_com rfl) nb) ?_
      refine TL_p (PV_indexAddrArr (i := 1) Tryd.underlying27 sz25 rfl rfl rfl (by first | decide | omega | assumption)) ?_
      refine TL_cons rfl (TO_store1 1 rfl rfl rfl sz25 rfl rfl rfl (by first | exact Nat.le_of_ble_eq_true rfl | (simp; done) | (simp; omega) | omega) ?_)
      refine TL_nil ?_
      refine T_region ?_
      refine TL_p (PV.cast (PV_bin rfl rfl bin_add) (wr64 (by omega))) ?_
      refine TL_p (PV_move rfl) ?_
      refine TL_nil ?_
      refine ?L21
      all_goals (first | exact ⟨2, by omega, by omega, (by repeat (first | exact FrSub.nil _ | refine FrSub.cons rfl ?_)), Has.of_sub (by repeat (first | exact Sb.r | exact Sb.ar | exact Sb.al | apply Sb.c | apply Sb.d | refine Sb.t ?_))⟩)
    · refine T_seq ?_
      refine T_region ?_
      refine TL_p (PV_bin rfl rfl bin_lss) ?_
      refine TL_nil ?_
      refine T_seq ?_
      refine T_then rfl (by rfl) ?_
      refine T_skip ?_
      refine T_seq ?_
      refine T_block ?_
      refine T_seq ?_
      refine T_region ?_
      refine TL_p (PV_move rfl) ?_
      refine TL_p (PV_assign rfl) ?_
      refine TL_nil ?_
      refine T_region ?_
      refine TL_p (PV_move rfl) ?_
      refine TL_p (PV_move rfl) ?_
      refine TL_p (PV_indexAddrArr (i := 2) Tryd.underlying27 sz25 rfl rfl rfl (by first | decide | omega | assumption)) ?_
      refine TL_p (PV_load Tryd.underlying25 rfl rfl (Rd.at 1 rfl rfl)) ?_
      refine TL_p (PV.cast (PV_com rfl) nc) ?_
      refine TL_p (PV_indexAddrArr (i := 2) Tryd.underlying27 sz25 rfl rfl rfl (by first | decide | omega | assumption)) ?_
      refine TL_cons rfl (TO_store1 1 rfl rfl rfl sz25 rfl rfl rfl (by first | exact Nat.le_of_ble_eq_true rfl | (simp; done) | (simp; omega) | omega) ?_)
      refine TL_nil ?_
      refine T_region ?_
      refine TL_p (PV.cast (PV_bin rfl rfl bin_add) (wr64 (by omega))) ?_
      refine TL_p (PV_move rfl) ?_
      refine TL_nil ?_
      refine ?L31
      all_goals (first | exact ⟨3, by omega, by omega, (by repeat (first | exact FrSub.nil _ | refine FrSub.cons rfl ?_)), Has.of_sub (by repeat (first | exact Sb.r | exact Sb.ar | exact Sb.al | apply Sb.c | apply Sb.d | refine Sb.t ?_))⟩)
    · refine T_seq ?_
      refine T_region ?_
      refine TL_p (PV_bin rfl rfl bin_lss) ?_
      refine TL_nil ?_
      refine T_seq ?_
      refine T_then rfl (by rfl) ?_
      refine T_skip ?_
      refine T_seq ?_
      refine T_block ?_
      refine T_seq ?_
      refine T_region ?_
      refine TL_p (PV_move rfl) ?_
      refine TL_p (PV_assign rfl) ?_
      refine TL_nil ?_
      refine T_region ?_
      refine TL_p (PV_move rfl) ?_
      refine TL_p (PV_move rfl) ?_
      refine TL_p (PV_indexAddrArr (i := 3) Tryd.underlying27 sz25 rfl rfl rfl (by first | decide | omega | assumption)) ?_
      refine TL_p (PV_load Tryd.underlying25 rfl rfl (Rd.at 1 rfl rfl)) ?_
      refine TL_p (PV.cast (PV_com rfl) nd) ?_
      refine TL_p (PV_indexAddrArr (i := 3) Tryd.underlying27 sz25 rfl rfl rfl (by first | decide | omega | assumption)) ?_
      refine TL_cons rfl (TO_store1 1 rfl rfl rfl sz25 rfl rfl rfl (by first | exact Nat.le_of_ble_eq_true rfl | (simp; done) | (simp; omega) | omega) ?_)
      refine TL_nil ?_
      refine T_region ?_
      refine TL_p (PV.cast (PV_bin rfl rfl bin_add) (wr64 (by omega))) ?_
      refine TL_p (PV_move rfl) ?_
      refine TL_nil ?_
      refine ?L41
      all_goals (first | exact ⟨4, by omega, by omega, (by repeat (first | exact FrSub.nil _ | refine FrSub.cons rfl ?_)), Has.of_sub (by repeat (first | exact Sb.r | exact Sb.ar | exact Sb.al | apply Sb.c | apply Sb.d | refine Sb.t ?_))⟩)
    · refine T_seq ?_
      refine T_region ?_
      refine TL_p (PV_bin rfl rfl bin_lss) ?_
      refine TL_nil ?_
      refine T_seq ?_
      refine T_else rfl (by rfl) ?_
      refine T_exit ?_
      refine T_seq ?_
      refine T_region ?_
      refine TL_p (PV_loadAt Tryd.underlying27 rfl sz27 rfl (Rds.take 1 rfl rfl rfl)) ?_
      refine TL_cons rfl (TO_store 0 rfl rfl rfl sz27 rfl rfl rfl (all_one rfl) (by first | exact Nat.le_of_ble_eq_true rfl | (simp; done) | (simp; omega) | omega) ?_)
      refine TL_nil ?_
      refine T_ret ?_
      refine ret_ret (ResV_c rfl Tryd.underlying27 rfl sz27 rfl (Rds.take 0 rfl rfl rfl)) ⟨_, ?zb6002q272, ⟨rfl, rfl⟩⟩
      case zb6002q272 => exact (by (repeat (first | exact Sb.r | exact Sb.ar | exact Sb.al | apply Sb.c | apply Sb.d | refine Sb.t ?_)); done)
end
end Go.Proofs.YtijpbpnfachlkaaDoor.SL
