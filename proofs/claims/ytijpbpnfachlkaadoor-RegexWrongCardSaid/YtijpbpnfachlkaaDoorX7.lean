import Derived.Test.YtijpbpnfachlkaaDoorX6
import Derived.Test.YtijpbpnfachlkaaDoorN17
/- What is no pattern tells where within it: the law. No statement is proved here. -/
set_option linter.unusedVariables false
set_option linter.unusedSimpArgs false
set_option maxRecDepth 100000
set_option maxHeartbeats 8000000
namespace Go.Proofs.YtijpbpnfachlkaaDoor.SL
open Go Go.RowKit
/-- a place within the text -/
def Fin' (s : List Int) (i : Nat) {α : Type} : Res α → Prop
  | .ok _ j => i ≤ j ∧ j ≤ s.length
  | .bad p _ => p ≤ s.length
theorem pPlain_bad {s : List Int} {i p j : Nat} (h : pPlain s i = .bad p j) : p = i := by
  unfold pPlain at h
  split at h
  · split at h
    · split at h
      · cases h; rfl
      · cases h
    · cases h
  · cases h; rfl
theorem pClass_fin {s : List Int} {i : Nat} (hi : i < s.length) : Fin' s i (pClass s i) := by
  cases hp : pClass s i with
  | ok t j =>
    have := pClass_lt hp
    exact ⟨by omega, this.2⟩
  | bad p j =>
    unfold pClass at hp
    split at hp
    · rename_i hq
      cases hp
      have := pClassL_from hq
      show p ≤ _
      omega
    · cases hp
theorem pOne_fin {s : List Int} {pE : Nat → Res Rx} {top : Bool} (hE : ∀ i, i ≤ s.length → Fin' s i (pE i)) {i : Nat} (hi : i < s.length) : Fin' s i (pOne pE top s i) := by
  unfold pOne
  split
  · split
    · exact Nat.le_of_lt hi
    · have h := hE (i + 1) (by omega)
      cases hp : pE (i + 1) with
      | bad p e => rw [hp] at h; exact h
      | ok t j =>
        rw [hp] at h
        obtain ⟨h1, h2⟩ := h
        show Fin' s i (if isB s j 41 = true then .ok t (j + 1) else .bad j j)
        split
        · rename_i h41
          have := (isB_lt h41).1
          exact ⟨by omega, by omega⟩
        · exact h2
  · split
    · exact pClass_fin hi
    · split
      · exact ⟨by omega, by omega⟩
      · split
        · exact Nat.le_of_lt hi
        · cases hp : pPlain s i with
          | bad p e =>
            have := pPlain_bad hp
            show p ≤ _
            omega
          | ok c j =>
            have := pPlain_lt hp
            exact ⟨by omega, this.2⟩
theorem pAgain_fin {s : List Int} {pE : Nat → Res Rx} {top : Bool} (hE : ∀ i, i ≤ s.length → Fin' s i (pE i)) {i : Nat} (hi : i < s.length) : Fin' s i (pAgain pE top s i) := by
  have h := pOne_fin (top := top) hE hi
  unfold pAgain
  cases hp : pOne pE top s i with
  | bad p e => rw [hp] at h; exact h
  | ok t j =>
    rw [hp] at h
    obtain ⟨h1, h2⟩ := h
    show Fin' s i (if j < s.length then _ else _)
    split
    · split
      · exact ⟨by omega, by omega⟩
      · split
        · exact ⟨by omega, by omega⟩
        · split
          · exact ⟨by omega, by omega⟩
          · exact ⟨h1, h2⟩
    · exact ⟨h1, h2⟩
theorem pThenL_fin {s : List Int} {pE : Nat → Res Rx} {top : Bool} (hE : ∀ i, i ≤ s.length → Fin' s i (pE i)) : ∀ {n i : Nat} {out : Rx} {first : Bool}, i ≤ s.length → Fin' s i (pThenL pE top s n i out first)
  | 0, i, out, first, hi => Nat.zero_le _
  | n + 1, i, out, first, hi => by
    unfold pThenL
    split
    · rename_i hg
      have h := pAgain_fin (top := top) hE (goesOn_lt hg).1
      cases hp : pAgain pE top s i with
      | bad p e => rw [hp] at h; exact h
      | ok t j =>
        rw [hp] at h
        obtain ⟨h1, h2⟩ := h
        have h3 := pThenL_fin (top := top) hE (n := n) (out := if first = true then t else .then_ out t) (first := false) h2
        show Fin' s i (pThenL pE top s n j _ false)
        cases hq : pThenL pE top s n j (if first = true then t else .then_ out t) false with
        | bad p e => rw [hq] at h3; exact h3
        | ok u k => rw [hq] at h3; exact ⟨by have := h3.1; omega, h3.2⟩
    · exact ⟨Nat.le_refl _, hi⟩
theorem pEitherL_fin {s : List Int} {pE : Nat → Res Rx} {top : Bool} (hE : ∀ i, i ≤ s.length → Fin' s i (pE i)) : ∀ {n i : Nat} {x : Rx}, i ≤ s.length → Fin' s i (pEitherL pE top s n i x)
  | 0, i, x, hi => Nat.zero_le _
  | n + 1, i, x, hi => by
    unfold pEitherL
    split
    · rename_i hg
      have hl := (isB_lt hg).1
      have h : Fin' s (i + 1) (pThen pE top s (i + 1)) := pThenL_fin hE (by omega)
      cases hp : pThen pE top s (i + 1) with
      | bad p e => rw [hp] at h; exact h
      | ok y j =>
        rw [hp] at h
        obtain ⟨h1, h2⟩ := h
        have h3 := pEitherL_fin (top := top) hE (n := n) (x := .either x y) h2
        show Fin' s i (pEitherL pE top s n j (.either x y))
        cases hq : pEitherL pE top s n j (.either x y) with
        | bad p e => rw [hq] at h3; exact h3
        | ok u k => rw [hq] at h3; exact ⟨by have := h3.1; omega, h3.2⟩
    · exact ⟨Nat.le_refl _, hi⟩
theorem pEither_fin {s : List Int} {pE : Nat → Res Rx} {top : Bool} (hE : ∀ i, i ≤ s.length → Fin' s i (pE i)) {i : Nat} (hi : i ≤ s.length) : Fin' s i (pEither pE top s i) := by
  have h : Fin' s i (pThen pE top s i) := pThenL_fin hE hi
  unfold pEither
  cases hp : pThen pE top s i with
  | bad p e => rw [hp] at h; exact h
  | ok x j =>
    rw [hp] at h
    obtain ⟨h1, h2⟩ := h
    have h3 := pEitherL_fin (top := top) hE (n := s.length + 1) (x := x) h2
    show Fin' s i (pEitherL pE top s (s.length + 1) j x)
    cases hq : pEitherL pE top s (s.length + 1) j x with
    | bad p e => rw [hq] at h3; exact h3
    | ok u k => rw [hq] at h3; exact ⟨by have := h3.1; omega, h3.2⟩
theorem pE_fin (s : List Int) : ∀ (k i : Nat), i ≤ s.length → Fin' s i (pE s k i)
  | 0, i, hi => pEither_fin (pE := fun _ => .bad 0 0) (fun i _ => Nat.zero_le _) hi
  | k + 1, i, hi => pEither_fin (fun i hi => pE_fin s k i hi) hi
theorem pParse_bad {s : List Int} {p j : Nat} (h : pParse s = .bad p j) : p ≤ s.length := by
  have hf := pE_fin s 6 0 (Nat.zero_le _)
  unfold pParse at h
  cases hp : pE s 6 0 with
  | bad q e => rw [hp] at h hf; cases h; exact hf
  | ok t k =>
    rw [hp] at h hf
    simp only at h
    split at h
    · cases h; exact hf.2
    · cases h
section
variable {w0 : World} {B n : Nat} {H : List Chunk}
theorem RegexWrong_t (hL : Laid w0) (hB0 : 0 < B) {sb : ByteArray} (hsl : sb.size ≤ 140737488351232) :
    TCall Tryd.prog w0 B 5 #[.string sb] (fun r H' => r = .bool true ∧ H' = H) H := by
  obtain ⟨s, hu, rfl⟩ := str_of sb
  rw [str_len] at hsl
  have aw := fun {X : List Chunk} => (awake06s (w0 := w0) (B := B) (H := X) hL hB0)
  have el : Value.int .i64 (((strOfNums s).size : Nat) : Int) = .int .i64 ((s.length : Nat) : Int) := by rw [str_len]
  have hsame := fun {X : List Chunk} => Same_t (w0 := w0) (B := B) (H := X) (t := .nothing) (v := nv0) (u := nv0) rfl rfl
  by_cases hlong : s.length ≤ 64
  · cases hp : pParse s with
    | bad p j =>
      have hpl := pParse_bad hp
      have e21 : Value.bool ((8 : Int) == 8) = .bool true := rfl
      have e24 : Value.bool (decide (((p : Nat) : Int) ≥ 0)) = .bool true := congrArg Value.bool (decide_eq_true (by omega))
      have e30 : Value.bool (decide (((p : Nat) : Int) ≤ ((s.length : Nat) : Int))) = .bool true := congrArg Value.bool (decide_eq_true (by omega))
      refine TCall_intro (args := [_]) Tryd.func5 rfl Tryd.ntmps5 (Nat.le_of_ble_eq_true rfl) ?_
      refine T_seq ?_
      refine T_region ?_
      refine TL_p (PV_assign rfl) ?_
      refine TL_nil ?_
      refine T_seq ?_
      refine T_seq ?_
      refine T_region ?_
      refine TL_cons rfl (TO_call0 call10 rfl rfl (aw) ?_)
      rintro v7_3 H7_3 ⟨rfl, rfl⟩
      refine TL_p (PV_not rfl) ?_
      refine TL_nil ?_
      refine T_else rfl (by rfl) ?_
      refine T_skip ?_
      refine T_seq ?_
      refine T_region ?_
      refine TL_p (PV_move rfl) ?_
      refine TL_cons rfl (TO_parseB hp hu hlong rfl rfl rfl ?_)
      refine TL_p (PV_move rfl) ?_
      refine TL_p (PV_extract rfl rfl) ?_
      refine TL_p (PV_extract rfl rfl) ?_
      refine TL_cons rfl (TO_alloc rfl zr30 fun g5 => ?_)
      refine TL_cons rfl (TO_store 0 rfl rfl rfl sz30 rfl rfl rfl (all_one rfl) (by first | exact Nat.le_of_ble_eq_true rfl | (simp; done) | (simp; omega) | omega) ?_)
      refine TL_p (PV_assign rfl) ?_
      refine TL_nil ?_
      refine T_seq ?_
      refine T_seq ?_
      refine T_region ?_
      refine TL_p (PV_move rfl) ?_
      refine TL_p (PV_bin rfl rfl (bin_if_nnil Tryd.underlying34)) ?_
      refine TL_nil ?_
      refine T_then rfl (by rfl) ?_
      refine T_seq ?_
      refine T_region ?_
      refine TL_p (PV_move rfl) ?_
      refine TL_cons rfl (TO_call0 call13 rfl rfl (numberF_t ?sd8q167_0 ?sd8q167_1 _ _) ?_)
      case sd8q167_0 => exact hL
      case sd8q167_1 => exact hB0
      rintro v17_9 H17_9 ⟨rfl, rfl⟩
      refine TL_p (PV_move rfl) ?_
      refine TL_cons rfl (TO_call0 call14 rfl rfl (placeF_t ?sd11q167_0 ?sd11q167_1 _ _) ?_)
      case sd11q167_0 => exact hL
      case sd11q167_1 => exact hB0
      rintro v19_12 H19_12 ⟨rfl, rfl⟩
      refine TL_p (PV_assign rfl) ?_
      refine TL_p (PV_assign rfl) ?_
      refine TL_nil ?_
      refine T_seq ?_
      refine T_region ?_
      refine TL_p (PV_move rfl) ?_
      refine TL_p (PV.cast (PV_bin rfl rfl bin_eql) e21) ?_
      refine TL_p (PV_move rfl) ?_
      refine TL_yes rfl rfl rfl (TO_pure rfl (PV_move rfl) ?_)
      refine TL_yes rfl rfl rfl (TO_pure rfl (PV.cast (PV_bin rfl rfl bin_geq) e24) ?_)
      refine TL_p (PV_pickAnd rfl rfl rfl) ?_
      refine TL_p (PV_move rfl) ?_
      refine TL_yes rfl rfl rfl (TO_pure rfl (PV_move rfl) ?_)
      refine TL_yes rfl rfl rfl (TO_pure rfl (PV_move rfl) ?_)
      refine TL_yes rfl rfl rfl (TO_pure rfl (PV.cast (PV_len_string Tryd.underlying9 rfl) el) ?_)
      refine TL_yes rfl rfl rfl (TO_pure rfl (PV.cast (PV_bin rfl rfl bin_leq) e30) ?_)
      refine TL_p (PV_pickAnd rfl rfl rfl) ?_
      refine TL_p (PV_move rfl) ?_
      refine TL_no (b := true) rfl rfl rfl rfl ?_
      refine TL_no (b := true) rfl rfl rfl rfl ?_
      refine TL_no (b := true) rfl rfl rfl rfl ?_
      refine TL_noU rfl rfl rfl rfl ?_
      refine TL_noU rfl rfl rfl rfl ?_
      refine TL_noU rfl rfl rfl rfl ?_
      refine TL_no (b := true) rfl rfl rfl rfl ?_
      refine TL_p (PV_pickT rfl (by first | assumption | rfl | (simp; done) | (simp; omega) | (simp [*]; done) | (simp [*]; omega)) rfl rfl) ?_
      refine TL_p (PV_move rfl) ?_
      refine TL_yes rfl rfl rfl (TO_pure rfl (PV_loadAt Tryd.underlying30 rfl sz30 rfl (Rds.take 0 rfl rfl rfl)) ?_)
      refine TL_yes rfl rfl rfl (TO_pure rfl (PV_bld (cs := [_, _, _, _, _, _]) Tryd.underlying30 pl30 zr30 rfl rfl) ?_)
      refine TL_yes rfl rfl rfl (TO_eqD call15 hsame rfl rfl _ (List.Sublist.refl _) ?_)
      refine TL_p (PV_pickAnd rfl rfl rfl) ?_
      refine TL_p (PV_assign rfl) ?_
      refine TL_nil ?_
      refine T_ret ?_
      refine ret_ret (ResV_one rfl rfl) ⟨_, ?zb14q167, ⟨rfl, rfl⟩⟩
      case zb14q167 => exact (by (repeat (first | exact Sb.r | exact Sb.ar | exact Sb.al | apply Sb.c | apply Sb.d | refine Sb.t ?_)); done)
      all_goals exact T_ret (ret_ret (ResV_one rfl rfl) ⟨H, (by repeat (first | exact Sb.r | exact Sb.ar | exact Sb.al | apply Sb.c | apply Sb.d | refine Sb.t ?_)), rfl, rfl⟩)
    | ok t j =>
      have e48 : Value.bool (decide (((s.length : Nat) : Int) ≤ 64)) = .bool true := congrArg Value.bool (decide_eq_true (by omega))
      refine TCall_intro (args := [_]) Tryd.func5 rfl Tryd.ntmps5 (Nat.le_of_ble_eq_true rfl) ?_
      refine T_seq ?_
      refine T_region ?_
      refine TL_p (PV_assign rfl) ?_
      refine TL_nil ?_
      refine T_seq ?_
      refine T_seq ?_
      refine T_region ?_
      refine TL_cons rfl (TO_call0 call10 rfl rfl (aw) ?_)
      rintro v7_5003 H7_5003 ⟨rfl, rfl⟩
      refine TL_p (PV_not rfl) ?_
      refine TL_nil ?_
      refine T_else rfl (by rfl) ?_
      refine T_skip ?_
      refine T_seq ?_
      refine T_region ?_
      refine TL_p (PV_move rfl) ?_
      refine TL_cons rfl (TO_parse hp hu hlong rfl rfl rfl fun v11 N11 hv11 => ?_)
      refine TL_p (PV_move rfl) ?_
      refine TL_p (PV_extract rfl rfl) ?_
      refine TL_p (PV_extract rfl rfl) ?_
      refine TL_cons rfl (TO_alloc rfl zr30 fun g5005 => ?_)
      refine TL_cons rfl (TO_store 0 rfl rfl rfl sz30 rfl rfl rfl (all_one rfl) (by first | exact Nat.le_of_ble_eq_true rfl | (simp; done) | (simp; omega) | omega) ?_)
      refine TL_p (PV_assign rfl) ?_
      refine TL_nil ?_
      refine T_seq ?_
      refine T_seq ?_
      refine T_region ?_
      refine TL_p (PV_move rfl) ?_
      refine TL_p (PV_bin rfl rfl (bin_nil_nnil Tryd.underlying34)) ?_
      refine TL_nil ?_
      refine T_else rfl (by rfl) ?_
      refine T_skip ?_
      refine T_seq ?_
      refine T_region ?_
      refine TL_p (PV_move rfl) ?_
      refine TL_p (PV.cast (PV_len_string Tryd.underlying9 rfl) el) ?_
      refine TL_p (PV.cast (PV_bin rfl rfl bin_leq) e48) ?_
      refine TL_p (PV_move rfl) ?_
      refine TL_yes rfl rfl rfl (TO_pure rfl (PV_loadAt Tryd.underlying30 rfl sz30 rfl (Rds.take 0 rfl rfl rfl)) ?_)
      refine TL_yes rfl rfl rfl (TO_eqD call19 (Right_t (hv11.mono fun w h => h.sub ((List.sublist_append_right H N11).trans (by repeat (first | exact Sb.r | exact Sb.ar | exact Sb.al | apply Sb.d | refine Sb.t ?_))))) rfl rfl _ (List.Sublist.refl _) ?_)
      refine TL_p (PV_pickAnd rfl rfl rfl) ?_
      refine TL_p (PV_assign rfl) ?_
      refine TL_nil ?_
      refine T_ret ?_
      refine ret_ret (ResV_one rfl rfl) ⟨_, ?zb5008q179, ⟨rfl, rfl⟩⟩
      case zb5008q179 => exact (by (repeat (first | exact Sb.r | exact Sb.ar | exact Sb.al | apply Sb.c | apply Sb.d | refine Sb.t ?_)); done)
      all_goals exact T_ret (ret_ret (ResV_one rfl rfl) ⟨H, (by repeat (first | exact Sb.r | exact Sb.ar | exact Sb.al | apply Sb.c | apply Sb.d | refine Sb.t ?_)), rfl, rfl⟩)
  · have e21 : Value.bool ((7 : Int) == 8) = .bool false := rfl
    have e34 : Value.bool ((7 : Int) == 7) = .bool true := rfl
    have e38 : Value.bool (decide (((s.length : Nat) : Int) > 64)) = .bool true := congrArg Value.bool (decide_eq_true (by omega))
    refine TCall_intro (args := [_]) Tryd.func5 rfl Tryd.ntmps5 (Nat.le_of_ble_eq_true rfl) ?_
    refine T_seq ?_
    refine T_region ?_
    refine TL_p (PV_assign rfl) ?_
    refine TL_nil ?_
    refine T_seq ?_
    refine T_seq ?_
    refine T_region ?_
    refine TL_cons rfl (TO_call0 call10 rfl rfl (aw) ?_)
    rintro v7_8003 H7_8003 ⟨rfl, rfl⟩
    refine TL_p (PV_not rfl) ?_
    refine TL_nil ?_
    refine T_else rfl (by rfl) ?_
    refine T_skip ?_
    refine T_seq ?_
    refine T_region ?_
    refine TL_p (PV_move rfl) ?_
    refine TL_cons rfl (TO_parseL hlong (by omega) rfl rfl rfl ?_)
    refine TL_p (PV_move rfl) ?_
    refine TL_p (PV_extract rfl rfl) ?_
    refine TL_p (PV_extract rfl rfl) ?_
    refine TL_cons rfl (TO_alloc rfl zr30 fun g8005 => ?_)
    refine TL_cons rfl (TO_store 0 rfl rfl rfl sz30 rfl rfl rfl (all_one rfl) (by first | exact Nat.le_of_ble_eq_true rfl | (simp; done) | (simp; omega) | omega) ?_)
    refine TL_p (PV_assign rfl) ?_
    refine TL_nil ?_
    refine T_seq ?_
    refine T_seq ?_
    refine T_region ?_
    refine TL_p (PV_move rfl) ?_
    refine TL_p (PV_bin rfl rfl (bin_if_nnil Tryd.underlying34)) ?_
    refine TL_nil ?_
    refine T_then rfl (by rfl) ?_
    refine T_seq ?_
    refine T_region ?_
    refine TL_p (PV_move rfl) ?_
    refine TL_cons rfl (TO_call0 call13 rfl rfl (numberF_t ?sd8008q189_0 ?sd8008q189_1 _ _) ?_)
    case sd8008q189_0 => exact hL
    case sd8008q189_1 => exact hB0
    rintro v17_8009 H17_8009 ⟨rfl, rfl⟩
    refine TL_p (PV_move rfl) ?_
    refine TL_cons rfl (TO_call0 call14 rfl rfl (placeF_t ?sd8011q189_0 ?sd8011q189_1 _ _) ?_)
    case sd8011q189_0 => exact hL
    case sd8011q189_1 => exact hB0
    rintro v19_8012 H19_8012 ⟨rfl, rfl⟩
    refine TL_p (PV_assign rfl) ?_
    refine TL_p (PV_assign rfl) ?_
    refine TL_nil ?_
    refine T_seq ?_
    refine T_region ?_
    refine TL_p (PV_move rfl) ?_
    refine TL_p (PV.cast (PV_bin rfl rfl bin_eql) e21) ?_
    refine TL_p (PV_move rfl) ?_
    refine TL_no (b := false) rfl rfl rfl rfl ?_
    refine TL_no (b := false) rfl rfl rfl rfl ?_
    refine TL_p (PV_pickF rfl (by first | assumption | rfl | (simp; done) | (simp; omega) | (simp [*]; done) | (simp [*]; omega)) rfl rfl) ?_
    refine TL_p (PV_move rfl) ?_
    refine TL_no (b := false) rfl rfl rfl rfl ?_
    refine TL_no (b := false) rfl rfl rfl rfl ?_
    refine TL_no (b := false) rfl rfl rfl rfl ?_
    refine TL_no (b := false) rfl rfl rfl rfl ?_
    refine TL_p (PV_pickF rfl (by first | assumption | rfl | (simp; done) | (simp; omega) | (simp [*]; done) | (simp [*]; omega)) rfl rfl) ?_
    refine TL_p (PV_move rfl) ?_
    refine TL_yes rfl rfl rfl (TO_pure rfl (PV_move rfl) ?_)
    refine TL_yes rfl rfl rfl (TO_pure rfl (PV.cast (PV_bin rfl rfl bin_eql) e34) ?_)
    refine TL_yes rfl rfl rfl (TO_pure rfl (PV_move rfl) ?_)
    refine TL_yes rfl rfl rfl (TO_pure rfl (PV_move rfl) ?_)
    refine TL_yes rfl rfl rfl (TO_pure rfl (PV.cast (PV_len_string Tryd.underlying9 rfl) el) ?_)
    refine TL_yes rfl rfl rfl (TO_pure rfl (PV.cast (PV_bin rfl rfl bin_gtr) e38) ?_)
    refine TL_yes rfl rfl rfl (TO_pure rfl (PV_pickAnd rfl rfl rfl) ?_)
    refine TL_p (PV_pickOr rfl rfl rfl) ?_
    refine TL_p (PV_move rfl) ?_
    refine TL_yes rfl rfl rfl (TO_pure rfl (PV_loadAt Tryd.underlying30 rfl sz30 rfl (Rds.take 0 rfl rfl rfl)) ?_)
    refine TL_yes rfl rfl rfl (TO_pure rfl (PV_bld (cs := [_, _, _, _, _, _]) Tryd.underlying30 pl30 zr30 rfl rfl) ?_)
    refine TL_yes rfl rfl rfl (TO_eqD call15 hsame rfl rfl _ (List.Sublist.refl _) ?_)
    refine TL_p (PV_pickAnd rfl rfl rfl) ?_
    refine TL_p (PV_assign rfl) ?_
    refine TL_nil ?_
    refine T_ret ?_
    refine ret_ret (ResV_one rfl rfl) ⟨_, ?zb8014q189, ⟨rfl, rfl⟩⟩
    case zb8014q189 => exact (by (repeat (first | exact Sb.r | exact Sb.ar | exact Sb.al | apply Sb.c | apply Sb.d | refine Sb.t ?_)); done)
    all_goals exact T_ret (ret_ret (ResV_one rfl rfl) ⟨H, (by repeat (first | exact Sb.r | exact Sb.ar | exact Sb.al | apply Sb.c | apply Sb.d | refine Sb.t ?_)), rfl, rfl⟩)
end
end Go.Proofs.YtijpbpnfachlkaaDoor.SL
