import Derived.Test.YtcbkcggijejooaaS3
import Derived.Test.YtcbkcggijejooaaR4
/- A sender and a receiver that talk: what they do. No statement is proved here. -/
set_option linter.unusedVariables false
set_option linter.unusedSimpArgs false
set_option maxRecDepth 100000
namespace Go.Proofs.Ytcbkcggijejooaa.SL
open Go Go.RowKit
section
variable {w0 : World} {B : Nat} {H X : List Chunk}
theorem errV_one (e : Int) : (errV e).oneCell' = true := by unfold errV; split <;> rfl
theorem errR_one (e : Int) : (errR e).oneCell' = true := by unfold errR; split <;> rfl
/-- noise -/
structure Nz where
  lost : Bool
  at_ : Int
  by_ : Int
def nzK (a : Int) (n : Nat) : Nat := (Int.tmod (Int.tmod a (n : Int) + (n : Int)) (n : Int)).toNat
def Nz.thru (z : Nz) (b : List Int) : List Int := if z.lost = true ∨ b.length = 0 then [] else b.set (nzK z.at_ b.length) (Go.bits .xor .u8 (rd b (nzK z.at_ b.length : Nat)) z.by_)
theorem nzK_lt (a : Int) {n : Nat} (hn : 0 < n) : nzK a n < n ∧ Int.tmod (Int.tmod a (n : Int) + (n : Int)) (n : Int) = ((nzK a n : Nat) : Int) := by
  unfold nzK
  have h1 := Int.tmod_lt_of_pos a (show (0 : Int) < (n : Int) by omega)
  have h2 : -(n : Int) < Int.tmod a (n : Int) := by
    have := Int.tmod_lt_of_pos (-a) (show (0 : Int) < (n : Int) by omega)
    rw [Int.neg_tmod] at this
    omega
  have h3 : 0 ≤ Int.tmod (Int.tmod a (n : Int) + (n : Int)) (n : Int) := Int.tmod_nonneg _ (by omega)
  have h4 := Int.tmod_lt_of_pos (Int.tmod a (n : Int) + (n : Int)) (show (0 : Int) < (n : Int) by omega)
  omega
theorem tmod_i64 (a : Int) (n : Nat) (hn : 0 < n) (hn2 : n ≤ 1000000000) : Value.int .i64 (IntKind.i64.wrap (Int.tmod a (n : Int) + (n : Int))) = .int .i64 (Int.tmod a (n : Int) + (n : Int)) := by
  have h1 := Int.tmod_lt_of_pos a (show (0 : Int) < (n : Int) by omega)
  have h2 : -(n : Int) < Int.tmod a (n : Int) := by
    have := Int.tmod_lt_of_pos (-a) (show (0 : Int) < (n : Int) by omega)
    rw [Int.neg_tmod] at this
    omega
  exact wr64 (by omega)
theorem thru_len (z : Nz) (b : List Int) : (z.thru b).length ≤ b.length := by unfold Nz.thru; split <;> simp
theorem thru_u8 {z : Nz} {b : List Int} (h : U8s b) : U8s (z.thru b) := by
  unfold Nz.thru
  split
  · exact U8s.nil
  · exact U8s_set h _ _ (xor8_range _ _).1 (xor8_range _ _).2
theorem t100 (z : Nz) {A : Option Addr} {m c : Nat} {b : List Int} (hS : Shows (WH w0 B H) A m 1 (nums .u8 b)) (hm : b.length = m) (hm2 : m ≤ 1000000000) :
    TCall Try.prog w0 B 32 #[.agg #[.bool z.lost, .int .i64 z.at_, .int .u8 z.by_], .slice A m c] (fun r H' => ∃ (A' : Option Addr) (k : Nat), r = .slice A' (z.thru b).length k ∧ (z.thru b).length ≤ k ∧ H' = byC A' k (z.thru b) :: H) H := by
  unfold Nz.thru
  by_cases h0 : z.lost = true ∨ b.length = 0
  · rw [if_pos h0]
    rcases h0 with h0 | h0
    · refine TCall_intro (args := [_, _]) Try.func32 rfl Try.ntmps32 (Nat.le_of_ble_eq_true rfl) ?_
      refine T_addNil 1 ?_
      refine T_seq ?_
      refine T_region ?_
      refine TL_cons rfl (TO_box rfl rfl fun g1 => ?_)
      refine TL_pure (d := (some 4)) rfl rfl rfl (PV_assign rfl) ?_
      refine TL_nil ?_
      refine T_seq ?_
      refine T_seq ?_
      refine T_region ?_
      refine TL_pure (d := (some 7)) rfl rfl rfl (PV_fieldAddr (D := 0) Try.underlying68 rfl sz4 (by decide) rfl rfl) ?_
      refine TL_pure (d := (some 8)) rfl rfl rfl (PV_load Try.underlying4 rfl rfl (Rd.at 0 rfl rfl)) ?_
      refine TL_pure (d := (some 9)) rfl rfl rfl (PV_move rfl) ?_
      refine TL_no (b := true) rfl rfl (gtrue (by with_reducible assumption)) rfl ?_
      refine TL_no (b := true) rfl rfl (gtrue (by with_reducible assumption)) rfl ?_
      refine TL_no (b := true) rfl rfl (gtrue (by with_reducible assumption)) rfl ?_
      refine TL_pure (d := (some 13)) rfl rfl rfl (PV_pickT rfl (by first | assumption | rfl | (simp; done) | (simp; omega) | (simp [*]; done) | (simp [*]; omega)) rfl rfl) ?_
      refine TL_nil ?_
      refine T_then rfl (by rfl) ?_
      refine T_seq ?_
      refine T_region ?_
      refine TL_pure (d := (some 4)) rfl rfl rfl (PV_assign rfl) ?_
      refine TL_nil ?_
      refine T_ret ?_
      refine ret_ret (ResV_one rfl rfl) ⟨_, ?zb2q50, ⟨_, _, rfl, ?sd2q50_0, rfl⟩⟩
      case sd2q50_0 => decide
      case zb2q50 => exact (by (repeat (first | exact List.Sublist.refl _ | exact List.sublist_append_right _ _ | exact List.sublist_append_left _ _ | apply List.Sublist.cons_cons | apply List.Sublist.cons | refine List.Sublist.trans ?_ (List.sublist_append_left _ _))); done)
    · refine TCall_intro (args := [_, _]) Try.func32 rfl Try.ntmps32 (Nat.le_of_ble_eq_true rfl) ?_
      refine T_addNil 1 ?_
      refine T_seq ?_
      refine T_region ?_
      refine TL_cons rfl (TO_box rfl rfl fun g101 => ?_)
      refine TL_pure (d := (some 4)) rfl rfl rfl (PV_assign rfl) ?_
      refine TL_nil ?_
      refine T_seq ?_
      refine T_seq ?_
      refine T_region ?_
      refine TL_pure (d := (some 7)) rfl rfl rfl (PV_fieldAddr (D := 0) Try.underlying68 rfl sz4 (by decide) rfl rfl) ?_
      refine TL_pure (d := (some 8)) rfl rfl rfl (PV_load Try.underlying4 rfl rfl (Rd.at 0 rfl rfl)) ?_
      refine TL_pure (d := (some 9)) rfl rfl rfl (PV_move rfl) ?_
      refine TL_split (d := 9) rfl (fun c102 => ?w102q51y) (fun c102 => ?w102q51n)
      try simp only [decide_eq_true_eq, decide_eq_false_iff_not, beq_iff_eq, beq_eq_false_iff_ne, bne_iff_ne, bne_eq_false_iff_eq, ne_eq, Bool.not_eq_true', Bool.not_eq_false', Bool.not_not, Bool.not_true, Bool.not_false, Bool.and_eq_true, Bool.or_eq_true, Bool.and_eq_false_iff, Bool.or_eq_false_iff, Int.not_lt, Int.not_le, gt_iff_lt, ge_iff_le] at c102
      refine TL_no (b := true) rfl rfl (gtrue (by with_reducible assumption)) rfl ?_
      refine TL_no (b := true) rfl rfl (gtrue (by with_reducible assumption)) rfl ?_
      refine TL_no (b := true) rfl rfl (gtrue (by with_reducible assumption)) rfl ?_
      refine TL_pure (d := (some 13)) rfl rfl rfl (PV_pickT rfl (by first | assumption | rfl | (simp; done) | (simp; omega) | (simp [*]; done) | (simp [*]; omega)) rfl rfl) ?_
      refine TL_nil ?_
      refine T_then rfl (by rfl) ?_
      refine T_seq ?_
      refine T_region ?_
      refine TL_pure (d := (some 4)) rfl rfl rfl (PV_assign rfl) ?_
      refine TL_nil ?_
      refine T_ret ?_
      refine ret_ret (ResV_one rfl rfl) ⟨_, ?zb103q51, ⟨_, _, rfl, ?sd103q51_0, rfl⟩⟩
      case sd103q51_0 => decide
      case zb103q51 => exact (by (repeat (first | exact List.Sublist.refl _ | exact List.sublist_append_right _ _ | exact List.sublist_append_left _ _ | apply List.Sublist.cons_cons | apply List.Sublist.cons | refine List.Sublist.trans ?_ (List.sublist_append_left _ _))); done)
      try simp only [decide_eq_true_eq, decide_eq_false_iff_not, beq_iff_eq, beq_eq_false_iff_ne, bne_iff_ne, bne_eq_false_iff_eq, ne_eq, Bool.not_eq_true', Bool.not_eq_false', Bool.not_not, Bool.not_true, Bool.not_false, Bool.and_eq_true, Bool.or_eq_true, Bool.and_eq_false_iff, Bool.or_eq_false_iff, Int.not_lt, Int.not_le, gt_iff_lt, ge_iff_le] at c102
      refine TL_yes rfl rfl (gfalse (by with_reducible assumption)) (TO_pure rfl (PV_move rfl) ?_)
      refine TL_yes rfl rfl (gfalse (by with_reducible assumption)) (TO_pure rfl (PV_len_slice Try.underlying26 rfl) ?_)
      refine TL_yes rfl rfl (gfalse (by with_reducible assumption)) (TO_pure rfl (PV_bin rfl rfl bin_eql) ?_)
      refine TL_pure (d := (some 13)) rfl rfl rfl (PV_pickOr rfl rfl rfl) ?_
      refine TL_nil ?_
      refine T_then rfl (by (simp; omega)) ?_
      refine T_seq ?_
      refine T_region ?_
      refine TL_pure (d := (some 4)) rfl rfl rfl (PV_assign rfl) ?_
      refine TL_nil ?_
      refine T_ret ?_
      refine ret_ret (ResV_one rfl rfl) ⟨_, ?zb104q51, ⟨_, _, rfl, ?sd104q51_0, rfl⟩⟩
      case sd104q51_0 => decide
      case zb104q51 => exact (by (repeat (first | exact List.Sublist.refl _ | exact List.sublist_append_right _ _ | exact List.sublist_append_left _ _ | apply List.Sublist.cons_cons | apply List.Sublist.cons | refine List.Sublist.trans ?_ (List.sublist_append_left _ _))); done)
  · rw [if_neg h0]
    have hl : z.lost = false := by
      cases h : z.lost
      · rfl
      · exact absurd (Or.inl h) h0
    have hb0 : 0 < b.length := by
      have : ¬ b.length = 0 := fun h => h0 (Or.inr h)
      omega
    obtain ⟨hk1, hk2⟩ := nzK_lt z.at_ hb0
    have e23 := tmod_i64 z.at_ m (by omega) hm2
    have e26 : Value.int .i64 (Int.tmod (Int.tmod z.at_ (m : Int) + (m : Int)) (m : Int)) = .int .i64 ((nzK z.at_ b.length : Nat) : Int) := by rw [← hm]; exact congrArg _ hk2
    simp only [List.length_set]
    refine TCall_intro (args := [_, _]) Try.func32 rfl Try.ntmps32 (Nat.le_of_ble_eq_true rfl) ?_
    refine T_seq ?_
    refine T_region ?_
    refine TL_cons rfl (TO_box rfl rfl fun g1001 => ?_)
    refine TL_pure (d := (some 4)) rfl rfl rfl (PV_assign rfl) ?_
    refine TL_nil ?_
    refine T_seq ?_
    refine T_seq ?_
    refine T_region ?_
    refine TL_pure (d := (some 7)) rfl rfl rfl (PV_fieldAddr (D := 0) Try.underlying68 rfl sz4 (by decide) rfl rfl) ?_
    refine TL_pure (d := (some 8)) rfl rfl rfl (PV_load Try.underlying4 rfl rfl (Rd.at 0 rfl rfl)) ?_
    refine TL_pure (d := (some 9)) rfl rfl rfl (PV_move rfl) ?_
    refine TL_yes rfl rfl (gfalse (by with_reducible assumption)) (TO_pure rfl (PV_move rfl) ?_)
    refine TL_yes rfl rfl (gfalse (by with_reducible assumption)) (TO_pure rfl (PV_len_slice Try.underlying26 rfl) ?_)
    refine TL_yes rfl rfl (gfalse (by with_reducible assumption)) (TO_pure rfl (PV_bin rfl rfl bin_eql) ?_)
    refine TL_pure (d := (some 13)) rfl rfl rfl (PV_pickOr rfl rfl rfl) ?_
    refine TL_nil ?_
    refine T_else rfl (by (simp [*]; omega)) ?_
    refine T_skip ?_
    refine T_seq ?_
    refine T_region ?_
    refine TL_pure (d := (some 14)) rfl rfl rfl (PV_move rfl) ?_
    refine TL_cons rfl (TO_appendNil Try.underlying26 zb5 rfl (by decide) rfl rfl rfl (Shows.mono hS (fun w h => h.sub (by (repeat (first | exact List.Sublist.refl _ | exact List.sublist_append_right _ _ | exact List.sublist_append_left _ _ | apply List.Sublist.cons | refine List.Sublist.trans ?_ (List.sublist_append_left _ _))); done))) ?oc1002q65 ?bb1002q65 ?bc1002q65 fun A1002 c1002 hc1002 => ?_)
    case oc1002q65 => exact nums_one
    case bb1002q65 => omega
    case bc1002q65 => omega
    refine TL_pure (d := (some 5)) rfl rfl rfl (PV_assign rfl) ?_
    refine TL_nil ?_
    refine T_seq ?_
    refine T_region ?_
    refine TL_pure (d := (some 16)) rfl rfl rfl (PV_fieldAddr (D := 1) Try.underlying68 rfl sz3 (by decide) rfl rfl) ?_
    refine TL_pure (d := (some 17)) rfl rfl rfl (PV_load Try.underlying3 rfl rfl (Rd.at 1 rfl rfl)) ?_
    refine TL_pure (d := (some 18)) rfl rfl rfl (PV_move rfl) ?_
    refine TL_pure (d := (some 19)) rfl rfl rfl (PV_len_slice Try.underlying26 rfl) ?_
    refine TL_pure (d := (some 20)) rfl rfl rfl (PV_bin rfl rfl (bin_rem (by omega))) ?_
    refine TL_pure (d := (some 21)) rfl rfl rfl (PV_move rfl) ?_
    refine TL_pure (d := (some 22)) rfl rfl rfl (PV_len_slice Try.underlying26 rfl) ?_
    refine TL_pure (d := (some 23)) rfl rfl rfl (PV.cast (PV_bin rfl rfl bin_add) e23) ?_
    refine TL_pure (d := (some 24)) rfl rfl rfl (PV_move rfl) ?_
    refine TL_pure (d := (some 25)) rfl rfl rfl (PV_len_slice Try.underlying26 rfl) ?_
    refine TL_pure (d := (some 26)) rfl rfl rfl (PV.cast (PV_bin rfl rfl (bin_rem (by omega))) e26) ?_
    refine TL_pure (d := (some 6)) rfl rfl rfl (PV_assign rfl) ?_
    refine TL_nil ?_
    refine T_seq ?_
    refine T_slA 0 rfl (by omega) fun g1003 e1003 => ?_
    subst e1003
    refine T_drawnE 0 mixed ?_
    refine TA_take (dd := (some 27)) 0 rfl (by kernel_rfl) (by kernel_rfl) (by kernel_rfl) rfl rfl rfl (PV_move rfl) ?_
    refine TA_take (dd := (some 28)) 1 rfl (by kernel_rfl) (by kernel_rfl) (by kernel_rfl) rfl rfl rfl (PV_move rfl) ?_
    refine TA_take (dd := (some 29)) 2 rfl (by kernel_rfl) (by kernel_rfl) (by kernel_rfl) rfl rfl rfl (PV_indexAddr Try.underlying26 sz5 rfl rfl rfl (by first | omega | decide | assumption)) ?_
    refine TA_take (dd := (some 31)) 4 rfl (by kernel_rfl) (by kernel_rfl) (by kernel_rfl) rfl rfl rfl (PV_fieldAddr (D := 2) Try.underlying68 rfl sz5 (by decide) rfl rfl) ?_
    refine TA_take (dd := (some 32)) 5 rfl (by kernel_rfl) (by kernel_rfl) (by kernel_rfl) rfl rfl rfl (PV_load Try.underlying5 rfl rfl (Rd.at 0 rfl rfl)) ?_
    refine TA_pure1 (dd := (some 30)) 3 (by kernel_rfl) rfl rfl rfl rfl (PV_load Try.underlying5 rfl rfl (Rd.at 0 rfl (nums_at' _ rfl (by omega)))) ?_
    refine TA_take (dd := (some 33)) 6 rfl (by kernel_rfl) (by kernel_rfl) (by kernel_rfl) rfl rfl rfl (PV_bin rfl rfl bin_xor) ?_
    refine TA_take (dd := (some 34)) 7 rfl (by kernel_rfl) (by kernel_rfl) (by kernel_rfl) rfl rfl rfl (PV_indexAddr Try.underlying26 sz5 rfl rfl rfl (by first | omega | decide | assumption)) ?_
    refine TA_one 8 (by kernel_rfl) rfl rfl (TO_store1 0 rfl rfl rfl sz5 rfl rfl rfl (by rw [nums_length]; omega) ?_)
    refine ⟨by intro w h; first | exact h | exact trivial | (refine WH.sub h ?_; (repeat (first | exact List.Sublist.refl _ | exact List.sublist_append_right _ _ | exact List.sublist_append_left _ _ | apply List.Sublist.cons | refine List.Sublist.trans ?_ (List.sublist_append_left _ _))); done) | (refine WH.sub h ?_; (repeat (first | exact List.Sublist.refl _ | exact List.sublist_append_right _ _ | exact List.sublist_append_left _ _ | apply List.Sublist.cons_cons | apply List.Sublist.cons | refine List.Sublist.trans ?_ (List.sublist_append_left _ _))); done), ?_⟩
    refine TA_done (by kernel_rfl) ?_
    refine T_seq ?_
    refine T_region ?_
    refine TL_pure (d := (some 35)) rfl rfl rfl (PV_move rfl) ?_
    refine TL_pure (d := (some 4)) rfl rfl rfl (PV_assign rfl) ?_
    refine TL_nil ?_
    refine ?L11
    case L11 =>
      have e : nums .u8 (b.set (nzK z.at_ b.length) (Go.bits .xor .u8 (rd b (nzK z.at_ b.length : Nat)) z.by_)) = (nums .u8 b).set (0 + nzK z.at_ b.length * 1) (.int .u8 (Go.bits .xor .u8 (rd b ((0 + nzK z.at_ b.length * 1 : Nat) : Int)) z.by_)) := by
        rw [show 0 + nzK z.at_ b.length * 1 = nzK z.at_ b.length by omega, nums_set' _ _ _ _ _ rfl]
      refine T_ret ?_
      refine ret_ret (ResV_one rfl rfl) ⟨byC (some ⟨g1003, 0, none⟩) c1002 (b.set (nzK z.at_ b.length) (Go.bits .xor .u8 (rd b (nzK z.at_ b.length : Nat)) z.by_)) :: H, ?_, some ⟨g1003, 0, none⟩, c1002, by rw [hm], by omega, rfl⟩
      rw [hm] at e
      unfold byC
      rw [List.length_set, hm, e]
      exact List.Sublist.cons_cons _ (List.Sublist.cons _ (List.Sublist.refl _))
end
end Go.Proofs.Ytcbkcggijejooaa.SL
