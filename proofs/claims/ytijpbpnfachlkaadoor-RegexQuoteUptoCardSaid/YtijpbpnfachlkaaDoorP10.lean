import Derived.Test.YtijpbpnfachlkaaDoorP9
/- First and Ends. No statement is proved here. -/
set_option linter.unusedVariables false
set_option linter.unusedSimpArgs false
set_option maxRecDepth 100000
set_option maxHeartbeats 8000000
namespace Go.Proofs.YtijpbpnfachlkaaDoor.SL
open Go Go.RowKit
section
variable {w0 : World} {B : Nat} {H X : List Chunk}
def upto (i n : Nat) : List Bool := (List.range n).map fun j => decide (j < i)
theorem upto_zero (n : Nat) : bools (upto 0 n) = List.replicate n (.bool false) := by
  unfold bools upto
  apply List.ext_getElem
  · simp
  · intro j h1 h2
    simp
theorem upto_len (i n : Nat) : (upto i n).length = n := by simp [upto]
theorem upto_step (i n : Nat) (hi : i < n) : (upto i n).set i true = upto (i + 1) n := by
  apply List.ext_getElem
  · simp [upto]
  · intro j h1 h2
    rw [List.getElem_set]
    simp only [upto, List.getElem_map, List.getElem_range]
    by_cases hj : i = j
    · subst hj; simp
    · rw [if_neg hj]
      congr 1
      exact propext ⟨fun h => by omega, fun h => by omega⟩
/-- the first true one, at i or behind -/
def firstT (l : List Bool) : Nat → Nat → Option Nat
  | 0, i => none
  | n + 1, i => if l.getD i false = true then some i else firstT l n (i + 1)
def firstV (o : Option Nat) : Value := match o with
  | some k => .tuple #[.int .i64 (k : Int), .bool true]
  | none => .tuple #[.int .i64 0, .bool false]
theorem First_t {s : List Int} (hu : U8s s) (hs : s.length ≤ 1000) {t : Rx} {v : Nv} (hv : Tr (WH w0 B H) t v) : TCall Tryd.prog w0 B 29 #[v.val, .string (strOfNums s)] (fun r H' => r = firstV (firstT (endsL s t (upto (s.length + 1) (s.length + 1))) (s.length + 1) 0) ∧ H' = H) H := by
  have hE := ends_t (w0 := w0) (B := B) (H := H) hu hs hv
  obtain ⟨R, hR⟩ : ∃ R, endsL s t (upto (s.length + 1) (s.length + 1)) = R := ⟨_, rfl⟩
  have hRl : R.length = s.length + 1 := by rw [← hR]; exact endsL_len (upto_len _ _)
  rw [hR]
  obtain ⟨FT, hFT⟩ : ∃ x, firstT R (s.length + 1) 0 = x := ⟨_, rfl⟩
  rw [hFT]
  have hRz : (bools R).length = s.length + 1 := by rw [bools_len, hRl]
  have el : Value.int .i64 (((strOfNums s).size : Nat) : Int) = .int .i64 ((s.length : Nat) : Int) := by rw [str_len]
  have ea : Value.int .i64 (IntKind.i64.wrap (((s.length : Nat) : Int) + 1)) = .int .i64 ((s.length + 1 : Nat) : Int) := wr64n _ (by push_cast; rfl) (by omega)
  refine TCall_intro (args := [_, _]) Tryd.func29 rfl Tryd.ntmps29 (Nat.le_of_ble_eq_true rfl) ?_
  refine T_seq ?_
  refine T_region ?_
  refine TL_cons rfl (TO_box rfl rfl fun g1 => ?_)
  refine TL_p (PV_assign rfl) ?_
  refine TL_p (PV_assign rfl) ?_
  refine TL_nil ?_
  refine T_seq ?_
  refine T_region ?_
  refine TL_p (PV_move rfl) ?_
  refine TL_p (PV.cast (PV_len_string Tryd.underlying9 rfl) el) ?_
  refine TL_p (PV.cast (PV_bin rfl rfl bin_add) ea) ?_
  refine TL_cons rfl (TO_make Tryd.underlying99 zb4 rfl (by omega) (by omega) rfl ⟨_, rfl⟩ ⟨_, rfl⟩ fun g2 => ?_)
  refine TL_p (PV_assign rfl) ?_
  refine TL_nil ?_
  refine T_seq ?_
  refine T_seq ?_
  refine T_region ?_
  refine TL_p (PV_move rfl) ?_
  refine TL_p (PV_len_slice Tryd.underlying99 rfl) ?_
  refine TL_p (PV_move rfl) ?_
  refine TL_nil ?_
  refine T_block ?_
  refine ?L1
  case L1 =>
    refine T_loopP1 (fun (i : Nat) => i ≤ s.length + 1) (fun i => s.length + 1 - i) (fun i => [(1, .string (strOfNums s)), (2, .pointer (some ⟨g1, 0, none⟩)), (4, .int .i64 0), (5, .bool false), (6, .slice (some ⟨g2, 0, none⟩) (s.length + 1) (s.length + 1)), (15, .int .i64 ((s.length + 1 : Nat) : Int)), (16, .int .i64 (i : Int))]) (fun i => .sl (.slice (some ⟨g2, 0, none⟩) (s.length + 1) (s.length + 1)) 1 (s.length + 1) (bools (upto i (s.length + 1))) :: .own g1 6 v.cells :: H) 0 (Nat.zero_le _) (by repeat (first | exact FrSub.nil _ | refine FrSub.cons rfl ?_)) (by rw [upto_zero]; exact Has.of_sub (by repeat (first | exact Sb.r | exact Sb.ar | exact Sb.al | apply Sb.c | apply Sb.d | refine Sb.t ?_))) ?_
    intro i hi
    by_cases hil : i < s.length + 1
    · have e22 : Value.int .i64 (IntKind.i64.wrap ((i : Int) + 1)) = .int .i64 ((i + 1 : Nat) : Int) := wr64n _ (by push_cast; rfl) (by omega)
      have hst := upto_step i (s.length + 1) hil
      have hz : (bools (upto i (s.length + 1))).length = s.length + 1 := by rw [bools_len, upto_len]
      refine T_seq ?_
      refine T_region ?_
      refine TL_p (PV_bin rfl rfl bin_lss) ?_
      refine TL_nil ?_
      refine T_seq ?_
      refine T_then rfl (by exact decide_eq_true (by omega)) ?_
      refine T_skip ?_
      refine T_seq ?_
      refine T_block ?_
      refine T_seq ?_
      refine T_region ?_
      refine TL_p (PV_move rfl) ?_
      refine TL_p (PV_assign rfl) ?_
      refine TL_nil ?_
      refine T_region ?_
      refine TL_p (PV_move rfl) ?_
      refine TL_p (PV_move rfl) ?_
      refine TL_p (PV_indexAddr Tryd.underlying99 sz4 rfl rfl rfl (by first | omega | decide | assumption)) ?_
      refine TL_cons rfl (TO_store1 0 rfl rfl rfl sz4 rfl rfl rfl (by first | exact Nat.le_of_ble_eq_true rfl | (simp; done) | (simp; omega) | omega) ?_)
      refine TL_nil ?_
      refine T_region ?_
      refine TL_p (PV.cast (PV_bin rfl rfl bin_add) e22) ?_
      refine TL_p (PV_move rfl) ?_
      refine TL_nil ?_
      refine ?L21
      case L21 =>
        refine ⟨i + 1, by omega, by omega, (by repeat (first | exact FrSub.nil _ | refine FrSub.cons rfl ?_)), ?_⟩
        rw [← hst, ← bools_set, show 0 + i * 1 = i by omega]
        exact Has.of_sub (by repeat (first | exact Sb.r | exact Sb.ar | exact Sb.al | apply Sb.c | apply Sb.d | refine Sb.t ?_))
    · obtain rfl : i = s.length + 1 := by omega
      have hul := upto_len (s.length + 1) (s.length + 1)
      refine T_seq ?_
      refine T_region ?_
      refine TL_p (PV_bin rfl rfl bin_lss) ?_
      refine TL_nil ?_
      refine T_seq ?_
      refine T_else rfl (by (simp; done)) ?_
      refine T_exit ?_
      refine T_seq ?_
      refine T_seq ?_
      refine T_region ?_
      refine TL_p (PV_loadAt Tryd.underlying30 rfl sz30 rfl (Rds.take 1 rfl rfl rfl)) ?_
      refine TL_p (PV_move rfl) ?_
      refine TL_p (PV_move rfl) ?_
      refine TL_cons rfl (TO_ends hR hE rfl rfl (by repeat (first | exact Sb.r | exact Sb.ar | exact Sb.al | apply Sb.d | refine Sb.t ?_)) (Shows.at 0 rfl) hul (Nat.le_refl _) fun A26 c26 hc26 => ?_)
      refine TL_p (PV_len_slice Tryd.underlying99 rfl) ?_
      refine TL_p (PV_move rfl) ?_
      refine TL_nil ?_
      refine T_block ?_
      refine ?L31
      case L31 =>
        refine T_loopP1 (fun (i : Nat) => i ≤ s.length + 1 ∧ FT = firstT R (s.length + 1 - i) i) (fun i => s.length + 1 - i) (fun i => [(4, .int .i64 0), (5, .bool false), (26, .slice A26 (s.length + 1) c26), (27, .int .i64 ((s.length + 1 : Nat) : Int)), (28, .int .i64 (i : Int))]) (fun i => .sl (.slice A26 (s.length + 1) c26) 1 (s.length + 1) (bools R) :: H) 0 ⟨Nat.zero_le _, hFT.symm⟩ (by repeat (first | exact FrSub.nil _ | refine FrSub.cons rfl ?_)) (Has.of_sub (by repeat (first | exact Sb.r | exact Sb.ar | exact Sb.al | apply Sb.c | apply Sb.d | refine Sb.t ?_))) ?_
        rintro i ⟨hi, hf⟩
        by_cases hil : i < s.length + 1
        · have e35 : Value.int .i64 (IntKind.i64.wrap ((i : Int) + 1)) = .int .i64 ((i + 1 : Nat) : Int) := wr64n _ (by push_cast; rfl) (by omega)
          refine T_shows (Shows.at 0 rfl) (by omega) fun g26 o26 hA26 hrd26 => ?_
          subst hA26
          have hr26 : Rd _ ⟨g26, o26 + i * 1, none⟩ (.bool (R.getD i false)) := hrd26 (i * 1) _ (by rw [Nat.mul_one]; exact bools_at (by omega))
          rw [show s.length + 1 - i = (s.length + 1 - (i + 1)) + 1 by omega] at hf
          cases h1 : R.getD i false with
          | true =>
            rw [h1] at hr26
            have hf2 : FT = some i := by rw [hf]; unfold firstT; rw [if_pos h1]
            subst hf2
            refine T_seq ?_
            refine T_region ?_
            refine TL_p (PV_bin rfl rfl bin_lss) ?_
            refine TL_nil ?_
            refine T_seq ?_
            refine T_then rfl (by exact decide_eq_true (by omega)) ?_
            refine T_skip ?_
            refine T_seq ?_
            refine T_block ?_
            refine T_seq ?_
            refine T_region ?_
            refine TL_p (PV_move rfl) ?_
            refine TL_p (PV_indexAddr Tryd.underlying99 sz4 rfl rfl rfl (by first | omega | decide | assumption)) ?_
            refine TL_p (PV_load Tryd.underlying4 rfl rfl hr26) ?_
            refine TL_p (PV_assign rfl) ?_
            refine TL_p (PV_assign rfl) ?_
            refine TL_nil ?_
            refine T_seq ?_
            refine T_region ?_
            refine TL_p (PV_move rfl) ?_
            refine TL_nil ?_
            refine T_then rfl (by rfl) ?_
            refine T_seq ?_
            refine T_region ?_
            refine TL_p (PV_move rfl) ?_
            refine TL_p (PV_assign rfl) ?_
            refine TL_p (PV_assign rfl) ?_
            refine TL_nil ?_
            refine T_ret ?_
            refine ret_ret (ResV_two rfl rfl rfl) ⟨_, ?zb4001q81, ⟨rfl, rfl⟩⟩
            case zb4001q81 => exact (by (repeat (first | exact Sb.r | exact Sb.ar | exact Sb.al | apply Sb.c | apply Sb.d | refine Sb.t ?_)); done)
          | false =>
            rw [h1] at hr26
            have hf2 : FT = firstT R (s.length + 1 - (i + 1)) (i + 1) := by rw [hf]; conv => { lhs; unfold firstT }; rw [if_neg (by rw [h1]; decide)]
            refine T_seq ?_
            refine T_region ?_
            refine TL_p (PV_bin rfl rfl bin_lss) ?_
            refine TL_nil ?_
            refine T_seq ?_
            refine T_then rfl (by exact decide_eq_true (by omega)) ?_
            refine T_skip ?_
            refine T_seq ?_
            refine T_block ?_
            refine T_seq ?_
            refine T_region ?_
            refine TL_p (PV_move rfl) ?_
            refine TL_p (PV_indexAddr Tryd.underlying99 sz4 rfl rfl rfl (by first | omega | decide | assumption)) ?_
            refine TL_p (PV_load Tryd.underlying4 rfl rfl hr26) ?_
            refine TL_p (PV_assign rfl) ?_
            refine TL_p (PV_assign rfl) ?_
            refine TL_nil ?_
            refine T_seq ?_
            refine T_region ?_
            refine TL_p (PV_move rfl) ?_
            refine TL_nil ?_
            refine T_else rfl (by rfl) ?_
            refine T_skip ?_
            refine T_region ?_
            refine TL_p (PV.cast (PV_bin rfl rfl bin_add) e35) ?_
            refine TL_p (PV_move rfl) ?_
            refine TL_nil ?_
            refine ?L51
            case L51 =>
              exact ⟨i + 1, ⟨by omega, hf2⟩, by omega, (by repeat (first | exact FrSub.nil _ | refine FrSub.cons rfl ?_)), Has.of_sub (by repeat (first | exact Sb.r | exact Sb.ar | exact Sb.al | apply Sb.c | apply Sb.d | refine Sb.t ?_))⟩
        · obtain rfl : i = s.length + 1 := by omega
          rw [Nat.sub_self] at hf
          have hf2 : FT = none := hf
          subst hf2
          refine T_seq ?_
          refine T_region ?_
          refine TL_p (PV_bin rfl rfl bin_lss) ?_
          refine TL_nil ?_
          refine T_seq ?_
          refine T_else rfl (by (simp; done)) ?_
          refine T_exit ?_
          refine T_seq ?_
          refine T_region ?_
          refine TL_p (PV_assign rfl) ?_
          refine TL_p (PV_assign rfl) ?_
          refine TL_nil ?_
          refine T_ret ?_
          refine ret_ret (ResV_two rfl rfl rfl) ⟨_, ?zb6001q93, ⟨rfl, rfl⟩⟩
          case zb6001q93 => exact (by (repeat (first | exact Sb.r | exact Sb.ar | exact Sb.al | apply Sb.c | apply Sb.d | refine Sb.t ?_)); done)
def startL (f n : Nat) : List Bool := (List.replicate n false).set f true
theorem Shows.cast {W : World → Prop} {A : Option Addr} {m es : Nat} {ys zs : List Value} (e : ys = zs) (h : Shows W A m es ys) : Shows W A m es zs := e ▸ h
theorem startL_len (f n : Nat) : (startL f n).length = n := by simp [startL]
theorem startL_bools (f n : Nat) : (List.replicate n (Value.bool false)).set f (.bool true) = bools (startL f n) := by
  unfold startL
  rw [← bools_set]
  simp [bools]
/-- the true ones ahead of i -/
def idxT (l : List Bool) : Nat → List Int
  | 0 => []
  | i + 1 => if l.getD i false = true then idxT l i ++ [(i : Int)] else idxT l i
theorem idxT_le (l : List Bool) : ∀ i, (idxT l i).length ≤ i
  | 0 => Nat.le_refl _
  | i + 1 => by
    have := idxT_le l i
    unfold idxT
    split
    · simp; omega
    · omega
def intV (l : List Int) : List Value := l.map (Value.int .i64)
end
end Go.Proofs.YtijpbpnfachlkaaDoor.SL
