import Derived.Test.YtkgdphbccagjcaaN7
/- Where a pattern ends, and what fits. No statement is proved here. -/
set_option linter.unusedVariables false
set_option linter.unusedSimpArgs false
set_option maxRecDepth 100000
set_option maxHeartbeats 8000000
namespace Go.Proofs.Ytkgdphbccagjcaa.SL
open Go Go.RowKit
/-- the places from f on that p has, the first k of them -/
def wantL (p : Nat → Bool) (f : Nat) : Nat → List Int
  | 0 => []
  | k + 1 => if p (f + k) = true then wantL p f k ++ [((f + k : Nat) : Int)] else wantL p f k
theorem wantL_le (p : Nat → Bool) (f : Nat) : ∀ k, (wantL p f k).length ≤ k
  | 0 => Nat.le_refl _
  | k + 1 => by
    have := wantL_le p f k
    unfold wantL
    split
    · simp; omega
    · omega
theorem idxT_none {R : List Bool} : ∀ {f : Nat}, (∀ j, j < f → R.getD j false = false) → idxT R f = []
  | 0, _ => rfl
  | f + 1, h => by
    unfold idxT
    rw [if_neg (by rw [h f (by omega)]; decide), idxT_none fun j hj => h j (by omega)]
theorem idxT_want {R : List Bool} {p : Nat → Bool} {f : Nat} (h0 : ∀ j, j < f → R.getD j false = false) : ∀ {k : Nat}, (∀ j, j < k → R.getD (f + j) false = p (f + j)) → idxT R (f + k) = wantL p f k
  | 0, _ => idxT_none h0
  | k + 1, h => by
    show (if R.getD (f + k) false = true then idxT R (f + k) ++ [((f + k : Nat) : Int)] else idxT R (f + k)) = (if p (f + k) = true then wantL p f k ++ [((f + k : Nat) : Int)] else wantL p f k)
    rw [h k (by omega)]
    have ih := idxT_want h0 (k := k) fun j hj => h j (by omega)
    rw [ih]
section
variable {w0 : World} {B : Nat} {H X : List Chunk}
theorem Ends_out {s : List Int} {v : Nv} {fi : Int} (hs : s.length ≤ 1000) (h : fi < 0 ∨ (s.length : Int) < fi) : TCall Try.prog w0 B 21 #[v.val, .string (strOfNums s), .int .i64 fi] (fun r H' => r = .slice none 0 0 ∧ H' = H) H := by
  have el : Value.int .i64 (((strOfNums s).size : Nat) : Int) = .int .i64 ((s.length : Nat) : Int) := by rw [str_len]
  rcases Int.lt_or_le fi 0 with hf | hf
  · refine TCall_intro (args := [_, _, _]) Try.func21 rfl Try.ntmps21 (Nat.le_of_ble_eq_true rfl) ?_
    refine T_seq ?_
    refine T_region ?_
    refine TL_cons rfl (TO_box rfl rfl fun g1 => ?_)
    refine TL_p (PV_assign rfl) ?_
    refine TL_nil ?_
    refine T_seq ?_
    refine T_seq ?_
    refine T_region ?_
    refine TL_p (PV_move rfl) ?_
    refine TL_p (PV_bin rfl rfl bin_lss) ?_
    refine TL_p (PV_move rfl) ?_
    refine TL_no (b := true) rfl rfl (gtrue (by exact decide_eq_true (by omega))) rfl ?_
    refine TL_no (b := true) rfl rfl (gtrue (by exact decide_eq_true (by omega))) rfl ?_
    refine TL_no (b := true) rfl rfl (gtrue (by exact decide_eq_true (by omega))) rfl ?_
    refine TL_no (b := true) rfl rfl (gtrue (by exact decide_eq_true (by omega))) rfl ?_
    refine TL_p (PV_pickT rfl (by first | assumption | rfl | (simp; done) | (simp; omega) | (simp [*]; done) | (simp [*]; omega)) rfl rfl) ?_
    refine TL_nil ?_
    refine T_then rfl (by rfl) ?_
    refine T_seq ?_
    refine T_region ?_
    refine TL_p (PV_assign rfl) ?_
    refine TL_nil ?_
    refine T_ret ?_
    refine ret_ret (ResV_one rfl rfl) ⟨_, ?zb2q39, ⟨rfl, rfl⟩⟩
    case zb2q39 => exact (by (repeat (first | exact Sb.r | exact Sb.ar | exact Sb.al | apply Sb.c | apply Sb.d | refine Sb.t ?_)); done)
  · have hf2 : (s.length : Int) < fi := by omega
    refine TCall_intro (args := [_, _, _]) Try.func21 rfl Try.ntmps21 (Nat.le_of_ble_eq_true rfl) ?_
    refine T_seq ?_
    refine T_region ?_
    refine TL_cons rfl (TO_box rfl rfl fun g1001 => ?_)
    refine TL_p (PV_assign rfl) ?_
    refine TL_nil ?_
    refine T_seq ?_
    refine T_seq ?_
    refine T_region ?_
    refine TL_p (PV_move rfl) ?_
    refine TL_p (PV_bin rfl rfl bin_lss) ?_
    refine TL_p (PV_move rfl) ?_
    refine TL_yes rfl rfl (gfalse (by exact decide_eq_false (by omega))) (TO_pure rfl (PV_move rfl) ?_)
    refine TL_yes rfl rfl (gfalse (by exact decide_eq_false (by omega))) (TO_pure rfl (PV_move rfl) ?_)
    refine TL_yes rfl rfl (gfalse (by exact decide_eq_false (by omega))) (TO_pure rfl (PV.cast (PV_len_string Try.underlying9 rfl) el) ?_)
    refine TL_yes rfl rfl (gfalse (by exact decide_eq_false (by omega))) (TO_pure rfl (PV_bin rfl rfl bin_gtr) ?_)
    refine TL_p (PV_pickOr rfl rfl rfl) ?_
    refine TL_nil ?_
    refine T_then rfl (by (simp; omega)) ?_
    refine T_seq ?_
    refine T_region ?_
    refine TL_p (PV_assign rfl) ?_
    refine TL_nil ?_
    refine T_ret ?_
    refine ret_ret (ResV_one rfl rfl) ⟨_, ?zb1002q41, ⟨rfl, rfl⟩⟩
    case zb1002q41 => exact (by (repeat (first | exact Sb.r | exact Sb.ar | exact Sb.al | apply Sb.c | apply Sb.d | refine Sb.t ?_)); done)
theorem str_sub (s : List Int) (i j : Nat) : (strOfNums s).extract i j = strOfNums (sub s i j) := by
  apply ByteArray.ext
  simp only [ByteArray.data_extract, strOfNums, sub, List.map_take, List.map_drop]
  apply Array.ext'
  simp
theorem sub_mem {s : List Int} {i j : Nat} {x : Int} (h : x ∈ sub s i j) : x ∈ s := List.mem_of_mem_drop (List.mem_of_mem_take h)
theorem ends_fits {s : List Int} {t : Rx} {f j : Nat} (hf : f ≤ s.length) (hj : j ≤ s.length) : (endsL s t (startL f (s.length + 1))).getD j false = (decide (f ≤ j) && fitsT t (sub s f j)) := by
  rw [Bool.eq_iff_iff, ends_start hf, Bool.and_eq_true, decide_eq_true_eq, fitsT_iff]
  exact ⟨fun h => ⟨h.1, h.2.2⟩, fun h => ⟨h.1, hj, h.2⟩⟩
end
end Go.Proofs.Ytkgdphbccagjcaa.SL
