import Derived.Test.YtijpbpnfachlkaaDoorX2
/- A set has the bytes that were put in; turned, all others: the law. No statement is proved here. -/
set_option linter.unusedVariables false
set_option linter.unusedSimpArgs false
set_option maxRecDepth 100000
set_option maxHeartbeats 8000000
namespace Go.Proofs.YtijpbpnfachlkaaDoor.SL
open Go Go.RowKit
def putS (l : List Int) : Nat → S4
  | 0 => S4.zero
  | i + 1 => (putS l i).with_ (rd l i).toNat
def isin (l : List Int) (c : Nat) : Nat → Bool
  | 0 => false
  | i + 1 => isin l c i || (rd l i == (c : Int))
theorem put_has {l : List Int} (hu : U8s l) {c : Nat} (hc : c < 256) : ∀ i, (putS l i).has c = isin l c i
  | 0 => S4.has_zero c
  | i + 1 => by
    have h := hu.at_ (i : Int)
    show ((putS l i).with_ (rd l i).toNat).has c = (isin l c i || (rd l i == (c : Int)))
    rw [S4.has_with _ _ _ (by omega) hc, put_has hu hc i]
    congr 1
    rw [Bool.eq_iff_iff, decide_eq_true_iff, beq_iff_eq]
    omega
theorem not_not4 (s : S4) : s.not_.not_ = s := by
  cases s
  simp [S4.not_]
section
variable {w0 : World} {B n : Nat} {H : List Chunk}
theorem RegexSet_t (hL : Laid w0) (hB0 : 0 < B) {A : Option Addr} {m c : Nat} {l : List Int} (cn : Nat) (hcn : cn ≤ 255) (hS : Shows (WH w0 B H) A m 1 (nums .u8 l)) (hlm : l.length = m) (hl : m ≤ 4611686018427387904) (hc : m ≤ c) (hu : U8s l) :
    TCall Tryd.prog w0 B 4 #[.slice A m c, .int .u8 (cn : Int)] (fun r H' => r = .bool true ∧ H' = H) H := by
  have aw := fun {X : List Chunk} => (awake06s (w0 := w0) (B := B) (H := X) hL hB0)
  refine TCall_intro (args := [_, _]) Tryd.func4 rfl Tryd.ntmps4 (Nat.le_of_ble_eq_true rfl) ?_
  refine T_seq ?_
  refine T_region ?_
  refine TL_p (PV_assign rfl) ?_
  refine TL_nil ?_
  refine T_seq ?_
  refine T_seq ?_
  refine T_region ?_
  refine TL_cons rfl (TO_call0 call10 rfl rfl (aw) ?_)
  rintro v9_3 H9_3 ⟨rfl, rfl⟩
  refine TL_p (PV_not rfl) ?_
  refine TL_nil ?_
  refine T_else rfl (by rfl) ?_
  refine T_skip ?_
  refine T_seq ?_
  refine T_region ?_
  refine TL_cons rfl (TO_alloc rfl zr27 fun g4 => ?_)
  refine TL_nil ?_
  refine T_seq ?_
  refine T_region ?_
  refine TL_p (PV_assign rfl) ?_
  refine TL_nil ?_
  refine T_seq ?_
  refine T_seq ?_
  refine T_region ?_
  refine TL_p (PV_move rfl) ?_
  refine TL_p (PV_len_slice Tryd.underlying22 rfl) ?_
  refine TL_p (PV_move rfl) ?_
  refine TL_nil ?_
  refine T_block ?_
  refine ?L1
  case L1 =>
    refine T_addNil 1 ?_
    refine T_loopP1 (fun (i : Nat) => i ≤ m) (fun i => m - i) (fun i => [(1, .int .u8 (cn : Int)), (5, .pointer (some ⟨g4, 0, none⟩)), (6, .bool (isin l cn i)), (11, .slice A m c), (12, .int .i64 (m : Int)), (13, .int .i64 (i : Int))]) (fun i => .own g4 4 (putS l i).cells :: H) 0 (Nat.zero_le _) (by repeat (first | exact FrSub.nil _ | refine FrSub.cons rfl ?_)) (Has.of_sub (by repeat (first | exact Sb.r | exact Sb.ar | exact Sb.al | apply Sb.c | apply Sb.d | refine Sb.t ?_))) ?_
    rintro i hi
    by_cases him : i < m
    · have e26 : Value.int .i64 (IntKind.i64.wrap ((i : Int) + 1)) = .int .i64 ((i + 1 : Nat) : Int) := wr64n _ (by push_cast; rfl) (by omega)
      refine T_shows (hS.mono fun w h => h.sub (by repeat (first | exact Sb.r | exact Sb.ar | exact Sb.al | apply Sb.d | refine Sb.t ?_))) (by simp [nums]; omega) fun ga oa hA hrd => ?_
      subst hA
      have hr : Rd _ ⟨ga, oa + i * 1, none⟩ (.int .u8 (rd l i)) := hrd (i * 1) _ (nums_at' i (by omega) (by omega))
      have hx := hu.at_ (i : Int)
      have hw := fun {X : List Chunk} => With_t (w0 := w0) (B := B) (H := X) (putS l i) (rd l i).toNat (by omega)
      rw [show (((rd l i).toNat : Nat) : Int) = rd l i by omega] at hw
      cases hb : isin l cn i
      · refine T_seq ?_
        refine T_region ?_
        refine TL_p (PV_bin rfl rfl bin_lss) ?_
        refine TL_nil ?_
        refine T_seq ?_
        refine T_then rfl (by exact decide_eq_true (by omega)) ?_
        refine T_skip ?_
        refine T_seq ?_
        refine T_block ?_
        refine T_seq ?_
        refine T_region ?_
        refine TL_p (PV_indexAddr Tryd.underlying22 sz5 rfl rfl rfl (by first | omega | decide | assumption)) ?_
        refine TL_p (PV_load Tryd.underlying5 rfl rfl hr) ?_
        refine TL_p (PV_assign rfl) ?_
        refine TL_nil ?_
        refine T_seq ?_
        refine T_region ?_
        refine TL_p (PV_loadAt Tryd.underlying27 rfl sz27 rfl (Rds.take 0 rfl rfl rfl)) ?_
        refine TL_p (PV_move rfl) ?_
        refine TL_cons rfl (TO_call0 call16 rfl rfl (hw) ?_)
        rintro v19_1003 H19_1003 ⟨rfl, rfl⟩
        refine TL_cons rfl (TO_store 0 rfl rfl rfl sz27 rfl rfl rfl (all_one rfl) (by first | exact Nat.le_of_ble_eq_true rfl | (simp; done) | (simp; omega) | omega) ?_)
        refine TL_nil ?_
        refine T_region ?_
        refine TL_p (PV_move rfl) ?_
        refine TL_p (PV_move rfl) ?_
        refine TL_yes rfl rfl rfl (TO_pure rfl (PV_move rfl) ?_)
        refine TL_yes rfl rfl rfl (TO_pure rfl (PV_move rfl) ?_)
        refine TL_yes rfl rfl rfl (TO_pure rfl (PV_bin rfl rfl bin_eql) ?_)
        refine TL_p (PV_pickOr rfl rfl rfl) ?_
        refine TL_p (PV_assign rfl) ?_
        refine TL_nil ?_
        refine T_region ?_
        refine TL_p (PV.cast (PV_bin rfl rfl bin_add) e26) ?_
        refine TL_p (PV_move rfl) ?_
        refine TL_nil ?_
        refine ?L11
        all_goals exact ⟨i + 1, by omega, by omega, by rw [show isin l cn (i + 1) = (false || (rd l i == (cn : Int))) by rw [← hb]; rfl]; exact (by repeat (first | exact FrSub.nil _ | refine FrSub.cons rfl ?_)), Has.of_sub (by repeat (first | exact Sb.r | exact Sb.ar | exact Sb.al | apply Sb.c | apply Sb.d | refine Sb.t ?_))⟩
      · refine T_seq ?_
        refine T_region ?_
        refine TL_p (PV_bin rfl rfl bin_lss) ?_
        refine TL_nil ?_
        refine T_seq ?_
        refine T_then rfl (by exact decide_eq_true (by omega)) ?_
        refine T_skip ?_
        refine T_seq ?_
        refine T_block ?_
        refine T_seq ?_
        refine T_region ?_
        refine TL_p (PV_indexAddr Tryd.underlying22 sz5 rfl rfl rfl (by first | omega | decide | assumption)) ?_
        refine TL_p (PV_load Tryd.underlying5 rfl rfl hr) ?_
        refine TL_p (PV_assign rfl) ?_
        refine TL_nil ?_
        refine T_seq ?_
        refine T_region ?_
        refine TL_p (PV_loadAt Tryd.underlying27 rfl sz27 rfl (Rds.take 0 rfl rfl rfl)) ?_
        refine TL_p (PV_move rfl) ?_
        refine TL_cons rfl (TO_call0 call16 rfl rfl (hw) ?_)
        rintro v19_2003 H19_2003 ⟨rfl, rfl⟩
        refine TL_cons rfl (TO_store 0 rfl rfl rfl sz27 rfl rfl rfl (all_one rfl) (by first | exact Nat.le_of_ble_eq_true rfl | (simp; done) | (simp; omega) | omega) ?_)
        refine TL_nil ?_
        refine T_region ?_
        refine TL_p (PV_move rfl) ?_
        refine TL_p (PV_move rfl) ?_
        refine TL_no (b := true) rfl rfl rfl rfl ?_
        refine TL_no (b := true) rfl rfl rfl rfl ?_
        refine TL_no (b := true) rfl rfl rfl rfl ?_
        refine TL_p (PV_pickT rfl (by first | assumption | rfl | (simp; done) | (simp; omega) | (simp [*]; done) | (simp [*]; omega)) rfl rfl) ?_
        refine TL_p (PV_assign rfl) ?_
        refine TL_nil ?_
        refine T_region ?_
        refine TL_p (PV.cast (PV_bin rfl rfl bin_add) e26) ?_
        refine TL_p (PV_move rfl) ?_
        refine TL_nil ?_
        refine ?L21
        all_goals exact ⟨i + 1, by omega, by omega, by rw [show isin l cn (i + 1) = true by show (isin l cn i || _) = true; rw [hb]; rfl]; exact (by repeat (first | exact FrSub.nil _ | refine FrSub.cons rfl ?_)), Has.of_sub (by repeat (first | exact Sb.r | exact Sb.ar | exact Sb.al | apply Sb.c | apply Sb.d | refine Sb.t ?_))⟩
    · obtain rfl : i = m := by omega
      obtain ⟨st, hst⟩ : ∃ st, putS l i = st := ⟨_, rfl⟩
      have hh1 := fun {X : List Chunk} => Has_t (w0 := w0) (B := B) (H := X) st cn (by omega)
      have hh2 := fun {X : List Chunk} => Has_t (w0 := w0) (B := B) (H := X) st.not_ cn (by omega)
      have hh3 := fun {X : List Chunk} => Has_t (w0 := w0) (B := B) (H := X) (st.with_ cn) cn (by omega)
      have hn1 := fun {X : List Chunk} => Not_t (w0 := w0) (B := B) (H := X) st
      have hn2 := fun {X : List Chunk} => Not_t (w0 := w0) (B := B) (H := X) st.not_
      have hw3 := fun {X : List Chunk} => With_t (w0 := w0) (B := B) (H := X) st cn (by omega)
      have hhas := put_has hu (c := cn) (by omega) i
      rw [hst] at hhas ⊢
      rw [S4.has_not _ _ (by omega)] at hh2
      rw [S4.has_with _ _ _ (by omega) (by omega), decide_eq_true rfl, Bool.or_true] at hh3
      rw [not_not4] at hn2
      rw [hhas] at hh1 hh2
      obtain ⟨is, his⟩ : ∃ is, isin l cn i = is := ⟨_, rfl⟩
      rw [his] at hhas hh1 hh2 ⊢
      have e31 : Value.bool (is == is) = .bool true := by simp
      have e39 : Value.bool ((!is) == (!is)) = .bool true := by simp
      have e61 : Value.int .u8 (Int.tmod (cn : Int) 64) = .int .u8 ((cn % 64 : Nat) : Int) := rfl
      have hk : cn / 64 = 0 ∨ cn / 64 = 1 ∨ cn / 64 = 2 ∨ cn / 64 = 3 := by omega
      rcases hk with hk | hk | hk | hk
      · have e57 : Value.int .u8 (IntKind.u8.wrap (Int.tdiv (cn : Int) 64)) = .int .u8 0 := by
          rw [IntKind.wrap_u8]
          congr 1
          rw [Int.tdiv_eq_ediv_of_nonneg (by omega)]
          omega
        have e62 := shr64 st.a (cn % 64) (Nat.mod_lt _ (by decide))
        have e63 : Value.int .u64 (Go.bits .and .u64 ((st.a >>> (cn % 64)).toNat : Int) 1) = .int .u64 (((st.a >>> (cn % 64)) &&& 1#64).toNat : Int) := congrArg _ (and64 _ 1#64)
        have e64 := has_val st cn 0 st.a hk rfl
        rw [hhas] at e64
        refine T_seq ?_
        refine T_region ?_
        refine TL_p (PV_bin rfl rfl bin_lss) ?_
        refine TL_nil ?_
        refine T_seq ?_
        refine T_else rfl (by (simp; done)) ?_
        refine T_exit ?_
        refine T_seq ?_
        refine T_drawn (WH _ _ _) mixed (fun w h => h) ?_
        refine TA_p 0 rfl (by kernel_rfl) (PV_loadAt Tryd.underlying27 rfl sz27 rfl (Rds.take 0 rfl rfl rfl)) ?_
        refine TA_p 1 rfl (by kernel_rfl) (PV_move rfl) ?_
        refine TA_p 3 rfl (by kernel_rfl) (PV_move rfl) ?_
        refine TA_one 2 (by kernel_rfl) rfl rfl (TO_eqD call17 hh1 rfl rfl _ (List.Sublist.refl _) ?_)
        refine ⟨fun _ h => h, ?_⟩
        refine TA_p 4 rfl (by kernel_rfl) (PV.cast (PV_bin rfl rfl (bin_bool_eql Tryd.underlying4)) e31) ?_
        refine TA_p 5 rfl (by kernel_rfl) (PV_move rfl) ?_
        refine TA_yes (dd := (some 33)) 6 rfl (by kernel_rfl) (by kernel_rfl) (by kernel_rfl) rfl rfl rfl rfl rfl (PV_loadAt Tryd.underlying27 rfl sz27 rfl (Rds.take 0 rfl rfl rfl)) ?_
        refine TA_yes (dd := (some 35)) 8 rfl (by kernel_rfl) (by kernel_rfl) (by kernel_rfl) rfl rfl rfl rfl rfl (PV_move rfl) ?_
        refine TA_yes (dd := (some 37)) 10 rfl (by kernel_rfl) (by kernel_rfl) (by kernel_rfl) rfl rfl rfl rfl rfl (PV_move rfl) ?_
        refine TA_yes (dd := (some 38)) 11 rfl (by kernel_rfl) (by kernel_rfl) (by kernel_rfl) rfl rfl rfl rfl rfl (PV_not rfl) ?_
        refine TA_oneYes 7 (by kernel_rfl) rfl rfl rfl rfl (TO_eqD call18 hn1 rfl rfl _ (List.Sublist.refl _) ?_)
        refine ⟨fun _ h => h, ?_⟩
        refine TA_oneYes 9 (by kernel_rfl) rfl rfl rfl rfl (TO_eqD call17 hh2 rfl rfl _ (List.Sublist.refl _) ?_)
        refine ⟨fun _ h => h, ?_⟩
        refine TA_yes (dd := (some 39)) 12 rfl (by kernel_rfl) (by kernel_rfl) (by kernel_rfl) rfl rfl rfl rfl rfl (PV.cast (PV_bin rfl rfl (bin_bool_eql Tryd.underlying4)) e39) ?_
        refine TA_p 13 rfl (by kernel_rfl) (PV_pickAnd rfl rfl rfl) ?_
        refine TA_p 14 rfl (by kernel_rfl) (PV_move rfl) ?_
        refine TA_yes (dd := (some 42)) 15 rfl (by kernel_rfl) (by kernel_rfl) (by kernel_rfl) rfl rfl rfl rfl rfl (PV_loadAt Tryd.underlying27 rfl sz27 rfl (Rds.take 0 rfl rfl rfl)) ?_
        refine TA_yes (dd := (some 45)) 18 rfl (by kernel_rfl) (by kernel_rfl) (by kernel_rfl) rfl rfl rfl rfl rfl (PV_loadAt Tryd.underlying27 rfl sz27 rfl (Rds.take 0 rfl rfl rfl)) ?_
        refine TA_oneYes 16 (by kernel_rfl) rfl rfl rfl rfl (TO_eqD call18 hn1 rfl rfl _ (List.Sublist.refl _) ?_)
        refine ⟨fun _ h => h, ?_⟩
        refine TA_oneYes 17 (by kernel_rfl) rfl rfl rfl rfl (TO_eqD call18 hn2 rfl rfl _ (List.Sublist.refl _) ?_)
        refine ⟨fun _ h => h, ?_⟩
        refine TA_yes (dd := (some 46)) 19 rfl (by kernel_rfl) (by kernel_rfl) (by kernel_rfl) rfl rfl rfl rfl rfl (PV_bin rfl rfl (bin_set_eql st)) ?_
        refine TA_p 20 rfl (by kernel_rfl) (PV_pickAnd rfl rfl rfl) ?_
        refine TA_p 21 rfl (by kernel_rfl) (PV_move rfl) ?_
        refine TA_yes (dd := (some 49)) 22 rfl (by kernel_rfl) (by kernel_rfl) (by kernel_rfl) rfl rfl rfl rfl rfl (PV_loadAt Tryd.underlying27 rfl sz27 rfl (Rds.take 0 rfl rfl rfl)) ?_
        refine TA_yes (dd := (some 50)) 23 rfl (by kernel_rfl) (by kernel_rfl) (by kernel_rfl) rfl rfl rfl rfl rfl (PV_move rfl) ?_
        refine TA_yes (dd := (some 52)) 25 rfl (by kernel_rfl) (by kernel_rfl) (by kernel_rfl) rfl rfl rfl rfl rfl (PV_move rfl) ?_
        refine TA_oneYes 24 (by kernel_rfl) rfl rfl rfl rfl (TO_eqD call16 hw3 rfl rfl _ (List.Sublist.refl _) ?_)
        refine ⟨fun _ h => h, ?_⟩
        refine TA_oneYes 26 (by kernel_rfl) rfl rfl rfl rfl (TO_eqD call17 hh3 rfl rfl _ (List.Sublist.refl _) ?_)
        refine ⟨fun _ h => h, ?_⟩
        refine TA_p 27 rfl (by kernel_rfl) (PV_pickAnd rfl rfl rfl) ?_
        refine TA_p 28 rfl (by kernel_rfl) (PV_move rfl) ?_
        refine TA_yes (dd := (some 56)) 29 rfl (by kernel_rfl) (by kernel_rfl) (by kernel_rfl) rfl rfl rfl rfl rfl (PV_move rfl) ?_
        refine TA_yes (dd := (some 57)) 30 rfl (by kernel_rfl) (by kernel_rfl) (by kernel_rfl) rfl rfl rfl rfl rfl (PV.cast (PV_bin rfl rfl (bin_quo (by decide))) e57) ?_
        refine TA_yes (dd := (some 58)) 31 rfl (by kernel_rfl) (by kernel_rfl) (by kernel_rfl) rfl rfl rfl rfl rfl (PV_indexAddrArr (i := 0) Tryd.underlying27 sz25 rfl rfl rfl (by first | decide | omega | assumption)) ?_
        refine TA_yes (dd := (some 59)) 32 rfl (by kernel_rfl) (by kernel_rfl) (by kernel_rfl) rfl rfl rfl rfl rfl (PV_load Tryd.underlying25 rfl rfl (Rd.at 0 rfl rfl)) ?_
        refine TA_yes (dd := (some 60)) 33 rfl (by kernel_rfl) (by kernel_rfl) (by kernel_rfl) rfl rfl rfl rfl rfl (PV_move rfl) ?_
        refine TA_yes (dd := (some 61)) 34 rfl (by kernel_rfl) (by kernel_rfl) (by kernel_rfl) rfl rfl rfl rfl rfl (PV.cast (PV_bin rfl rfl (bin_rem (by decide))) e61) ?_
        refine TA_yes (dd := (some 62)) 35 rfl (by kernel_rfl) (by kernel_rfl) (by kernel_rfl) rfl rfl rfl rfl rfl (PV.cast (PV_bin rfl rfl (bin_shr (by omega))) e62) ?_
        refine TA_yes (dd := (some 63)) 36 rfl (by kernel_rfl) (by kernel_rfl) (by kernel_rfl) rfl rfl rfl rfl rfl (PV.cast (PV_bin rfl rfl bin_and) e63) ?_
        refine TA_yes (dd := (some 64)) 37 rfl (by kernel_rfl) (by kernel_rfl) (by kernel_rfl) rfl rfl rfl rfl rfl (PV.cast (PV_bin rfl rfl bin_eql) e64) ?_
        refine TA_yes (dd := (some 65)) 38 rfl (by kernel_rfl) (by kernel_rfl) (by kernel_rfl) rfl rfl rfl rfl rfl (PV_move rfl) ?_
        refine TA_yes (dd := (some 66)) 39 rfl (by kernel_rfl) (by kernel_rfl) (by kernel_rfl) rfl rfl rfl rfl rfl (PV.cast (PV_bin rfl rfl (bin_bool_eql Tryd.underlying4)) e31) ?_
        refine TA_p 40 rfl (by kernel_rfl) (PV_pickAnd rfl rfl rfl) ?_
        refine TA_p 41 rfl (by kernel_rfl) (PV_assign rfl) ?_
        refine TA_done (by kernel_rfl) ?_
        refine T_ret ?_
        refine ret_ret (ResV_one rfl rfl) ⟨_, ?zb10008q85, ⟨rfl, rfl⟩⟩
        case zb10008q85 => exact (by (repeat (first | exact Sb.r | exact Sb.ar | exact Sb.al | apply Sb.c | apply Sb.d | refine Sb.t ?_)); done)
        all_goals exact T_ret (ret_ret (ResV_one rfl rfl) ⟨H, (by repeat (first | exact Sb.r | exact Sb.ar | exact Sb.al | apply Sb.c | apply Sb.d | refine Sb.t ?_)), rfl, rfl⟩)
      · have e57 : Value.int .u8 (IntKind.u8.wrap (Int.tdiv (cn : Int) 64)) = .int .u8 1 := by
          rw [IntKind.wrap_u8]
          congr 1
          rw [Int.tdiv_eq_ediv_of_nonneg (by omega)]
          omega
        have e62 := shr64 st.b (cn % 64) (Nat.mod_lt _ (by decide))
        have e63 : Value.int .u64 (Go.bits .and .u64 ((st.b >>> (cn % 64)).toNat : Int) 1) = .int .u64 (((st.b >>> (cn % 64)) &&& 1#64).toNat : Int) := congrArg _ (and64 _ 1#64)
        have e64 := has_val st cn 1 st.b hk rfl
        rw [hhas] at e64
        refine T_seq ?_
        refine T_region ?_
        refine TL_p (PV_bin rfl rfl bin_lss) ?_
        refine TL_nil ?_
        refine T_seq ?_
        refine T_else rfl (by (simp; done)) ?_
        refine T_exit ?_
        refine T_seq ?_
        refine T_drawn (WH _ _ _) mixed (fun w h => h) ?_
        refine TA_p 0 rfl (by kernel_rfl) (PV_loadAt Tryd.underlying27 rfl sz27 rfl (Rds.take 0 rfl rfl rfl)) ?_
        refine TA_p 1 rfl (by kernel_rfl) (PV_move rfl) ?_
        refine TA_p 3 rfl (by kernel_rfl) (PV_move rfl) ?_
        refine TA_one 2 (by kernel_rfl) rfl rfl (TO_eqD call17 hh1 rfl rfl _ (List.Sublist.refl _) ?_)
        refine ⟨fun _ h => h, ?_⟩
        refine TA_p 4 rfl (by kernel_rfl) (PV.cast (PV_bin rfl rfl (bin_bool_eql Tryd.underlying4)) e31) ?_
        refine TA_p 5 rfl (by kernel_rfl) (PV_move rfl) ?_
        refine TA_yes (dd := (some 33)) 6 rfl (by kernel_rfl) (by kernel_rfl) (by kernel_rfl) rfl rfl rfl rfl rfl (PV_loadAt Tryd.underlying27 rfl sz27 rfl (Rds.take 0 rfl rfl rfl)) ?_
        refine TA_yes (dd := (some 35)) 8 rfl (by kernel_rfl) (by kernel_rfl) (by kernel_rfl) rfl rfl rfl rfl rfl (PV_move rfl) ?_
        refine TA_yes (dd := (some 37)) 10 rfl (by kernel_rfl) (by kernel_rfl) (by kernel_rfl) rfl rfl rfl rfl rfl (PV_move rfl) ?_
        refine TA_yes (dd := (some 38)) 11 rfl (by kernel_rfl) (by kernel_rfl) (by kernel_rfl) rfl rfl rfl rfl rfl (PV_not rfl) ?_
        refine TA_oneYes 7 (by kernel_rfl) rfl rfl rfl rfl (TO_eqD call18 hn1 rfl rfl _ (List.Sublist.refl _) ?_)
        refine ⟨fun _ h => h, ?_⟩
        refine TA_oneYes 9 (by kernel_rfl) rfl rfl rfl rfl (TO_eqD call17 hh2 rfl rfl _ (List.Sublist.refl _) ?_)
        refine ⟨fun _ h => h, ?_⟩
        refine TA_yes (dd := (some 39)) 12 rfl (by kernel_rfl) (by kernel_rfl) (by kernel_rfl) rfl rfl rfl rfl rfl (PV.cast (PV_bin rfl rfl (bin_bool_eql Tryd.underlying4)) e39) ?_
        refine TA_p 13 rfl (by kernel_rfl) (PV_pickAnd rfl rfl rfl) ?_
        refine TA_p 14 rfl (by kernel_rfl) (PV_move rfl) ?_
        refine TA_yes (dd := (some 42)) 15 rfl (by kernel_rfl) (by kernel_rfl) (by kernel_rfl) rfl rfl rfl rfl rfl (PV_loadAt Tryd.underlying27 rfl sz27 rfl (Rds.take 0 rfl rfl rfl)) ?_
        refine TA_yes (dd := (some 45)) 18 rfl (by kernel_rfl) (by kernel_rfl) (by kernel_rfl) rfl rfl rfl rfl rfl (PV_loadAt Tryd.underlying27 rfl sz27 rfl (Rds.take 0 rfl rfl rfl)) ?_
        refine TA_oneYes 16 (by kernel_rfl) rfl rfl rfl rfl (TO_eqD call18 hn1 rfl rfl _ (List.Sublist.refl _) ?_)
        refine ⟨fun _ h => h, ?_⟩
        refine TA_oneYes 17 (by kernel_rfl) rfl rfl rfl rfl (TO_eqD call18 hn2 rfl rfl _ (List.Sublist.refl _) ?_)
        refine ⟨fun _ h => h, ?_⟩
        refine TA_yes (dd := (some 46)) 19 rfl (by kernel_rfl) (by kernel_rfl) (by kernel_rfl) rfl rfl rfl rfl rfl (PV_bin rfl rfl (bin_set_eql st)) ?_
        refine TA_p 20 rfl (by kernel_rfl) (PV_pickAnd rfl rfl rfl) ?_
        refine TA_p 21 rfl (by kernel_rfl) (PV_move rfl) ?_
        refine TA_yes (dd := (some 49)) 22 rfl (by kernel_rfl) (by kernel_rfl) (by kernel_rfl) rfl rfl rfl rfl rfl (PV_loadAt Tryd.underlying27 rfl sz27 rfl (Rds.take 0 rfl rfl rfl)) ?_
        refine TA_yes (dd := (some 50)) 23 rfl (by kernel_rfl) (by kernel_rfl) (by kernel_rfl) rfl rfl rfl rfl rfl (PV_move rfl) ?_
        refine TA_yes (dd := (some 52)) 25 rfl (by kernel_rfl) (by kernel_rfl) (by kernel_rfl) rfl rfl rfl rfl rfl (PV_move rfl) ?_
        refine TA_oneYes 24 (by kernel_rfl) rfl rfl rfl rfl (TO_eqD call16 hw3 rfl rfl _ (List.Sublist.refl _) ?_)
        refine ⟨fun _ h => h, ?_⟩
        refine TA_oneYes 26 (by kernel_rfl) rfl rfl rfl rfl (TO_eqD call17 hh3 rfl rfl _ (List.Sublist.refl _) ?_)
        refine ⟨fun _ h => h, ?_⟩
        refine TA_p 27 rfl (by kernel_rfl) (PV_pickAnd rfl rfl rfl) ?_
        refine TA_p 28 rfl (by kernel_rfl) (PV_move rfl) ?_
        refine TA_yes (dd := (some 56)) 29 rfl (by kernel_rfl) (by kernel_rfl) (by kernel_rfl) rfl rfl rfl rfl rfl (PV_move rfl) ?_
        refine TA_yes (dd := (some 57)) 30 rfl (by kernel_rfl) (by kernel_rfl) (by kernel_rfl) rfl rfl rfl rfl rfl (PV.cast (PV_bin rfl rfl (bin_quo (by decide))) e57) ?_
        refine TA_yes (dd := (some 58)) 31 rfl (by kernel_rfl) (by kernel_rfl) (by kernel_rfl) rfl rfl rfl rfl rfl (PV_indexAddrArr (i := 1) Tryd.underlying27 sz25 rfl rfl rfl (by first | decide | omega | assumption)) ?_
        refine TA_yes (dd := (some 59)) 32 rfl (by kernel_rfl) (by kernel_rfl) (by kernel_rfl) rfl rfl rfl rfl rfl (PV_load Tryd.underlying25 rfl rfl (Rd.at 0 rfl rfl)) ?_
        refine TA_yes (dd := (some 60)) 33 rfl (by kernel_rfl) (by kernel_rfl) (by kernel_rfl) rfl rfl rfl rfl rfl (PV_move rfl) ?_
        refine TA_yes (dd := (some 61)) 34 rfl (by kernel_rfl) (by kernel_rfl) (by kernel_rfl) rfl rfl rfl rfl rfl (PV.cast (PV_bin rfl rfl (bin_rem (by decide))) e61) ?_
        refine TA_yes (dd := (some 62)) 35 rfl (by kernel_rfl) (by kernel_rfl) (by kernel_rfl) rfl rfl rfl rfl rfl (PV.cast (PV_bin rfl rfl (bin_shr (by omega))) e62) ?_
        refine TA_yes (dd := (some 63)) 36 rfl (by kernel_rfl) (by kernel_rfl) (by kernel_rfl) rfl rfl rfl rfl rfl (PV.cast (PV_bin rfl rfl bin_and) e63) ?_
        refine TA_yes (dd := (some 64)) 37 rfl (by kernel_rfl) (by kernel_rfl) (by kernel_rfl) rfl rfl rfl rfl rfl (PV.cast (PV_bin rfl rfl bin_eql) e64) ?_
        refine TA_yes (dd := (some 65)) 38 rfl (by kernel_rfl) (by kernel_rfl) (by kernel_rfl) rfl rfl rfl rfl rfl (PV_move rfl) ?_
        refine TA_yes (dd := (some 66)) 39 rfl (by kernel_rfl) (by kernel_rfl) (by kernel_rfl) rfl rfl rfl rfl rfl (PV.cast (PV_bin rfl rfl (bin_bool_eql Tryd.underlying4)) e31) ?_
        refine TA_p 40 rfl (by kernel_rfl) (PV_pickAnd rfl rfl rfl) ?_
        refine TA_p 41 rfl (by kernel_rfl) (PV_assign rfl) ?_
        refine TA_done (by kernel_rfl) ?_
        refine T_ret ?_
        refine ret_ret (ResV_one rfl rfl) ⟨_, ?zb15008q112, ⟨rfl, rfl⟩⟩
        case zb15008q112 => exact (by (repeat (first | exact Sb.r | exact Sb.ar | exact Sb.al | apply Sb.c | apply Sb.d | refine Sb.t ?_)); done)
        all_goals exact T_ret (ret_ret (ResV_one rfl rfl) ⟨H, (by repeat (first | exact Sb.r | exact Sb.ar | exact Sb.al | apply Sb.c | apply Sb.d | refine Sb.t ?_)), rfl, rfl⟩)
      · have e57 : Value.int .u8 (IntKind.u8.wrap (Int.tdiv (cn : Int) 64)) = .int .u8 2 := by
          rw [IntKind.wrap_u8]
          congr 1
          rw [Int.tdiv_eq_ediv_of_nonneg (by omega)]
          omega
        have e62 := shr64 st.c (cn % 64) (Nat.mod_lt _ (by decide))
        have e63 : Value.int .u64 (Go.bits .and .u64 ((st.c >>> (cn % 64)).toNat : Int) 1) = .int .u64 (((st.c >>> (cn % 64)) &&& 1#64).toNat : Int) := congrArg _ (and64 _ 1#64)
        have e64 := has_val st cn 2 st.c hk rfl
        rw [hhas] at e64
        refine T_seq ?_
        refine T_region ?_
        refine TL_p (PV_bin rfl rfl bin_lss) ?_
        refine TL_nil ?_
        refine T_seq ?_
        refine T_else rfl (by (simp; done)) ?_
        refine T_exit ?_
        refine T_seq ?_
        refine T_drawn (WH _ _ _) mixed (fun w h => h) ?_
        refine TA_p 0 rfl (by kernel_rfl) (PV_loadAt Tryd.underlying27 rfl sz27 rfl (Rds.take 0 rfl rfl rfl)) ?_
        refine TA_p 1 rfl (by kernel_rfl) (PV_move rfl) ?_
        refine TA_p 3 rfl (by kernel_rfl) (PV_move rfl) ?_
        refine TA_one 2 (by kernel_rfl) rfl rfl (TO_eqD call17 hh1 rfl rfl _ (List.Sublist.refl _) ?_)
        refine ⟨fun _ h => h, ?_⟩
        refine TA_p 4 rfl (by kernel_rfl) (PV.cast (PV_bin rfl rfl (bin_bool_eql Tryd.underlying4)) e31) ?_
        refine TA_p 5 rfl (by kernel_rfl) (PV_move rfl) ?_
        refine TA_yes (dd := (some 33)) 6 rfl (by kernel_rfl) (by kernel_rfl) (by kernel_rfl) rfl rfl rfl rfl rfl (PV_loadAt Tryd.underlying27 rfl sz27 rfl (Rds.take 0 rfl rfl rfl)) ?_
        refine TA_yes (dd := (some 35)) 8 rfl (by kernel_rfl) (by kernel_rfl) (by kernel_rfl) rfl rfl rfl rfl rfl (PV_move rfl) ?_
        refine TA_yes (dd := (some 37)) 10 rfl (by kernel_rfl) (by kernel_rfl) (by kernel_rfl) rfl rfl rfl rfl rfl (PV_move rfl) ?_
        refine TA_yes (dd := (some 38)) 11 rfl (by kernel_rfl) (by kernel_rfl) (by kernel_rfl) rfl rfl rfl rfl rfl (PV_not rfl) ?_
        refine TA_oneYes 7 (by kernel_rfl) rfl rfl rfl rfl (TO_eqD call18 hn1 rfl rfl _ (List.Sublist.refl _) ?_)
        refine ⟨fun _ h => h, ?_⟩
        refine TA_oneYes 9 (by kernel_rfl) rfl rfl rfl rfl (TO_eqD call17 hh2 rfl rfl _ (List.Sublist.refl _) ?_)
        refine ⟨fun _ h => h, ?_⟩
        refine TA_yes (dd := (some 39)) 12 rfl (by kernel_rfl) (by kernel_rfl) (by kernel_rfl) rfl rfl rfl rfl rfl (PV.cast (PV_bin rfl rfl (bin_bool_eql Tryd.underlying4)) e39) ?_
        refine TA_p 13 rfl (by kernel_rfl) (PV_pickAnd rfl rfl rfl) ?_
        refine TA_p 14 rfl (by kernel_rfl) (PV_move rfl) ?_
        refine TA_yes (dd := (some 42)) 15 rfl (by kernel_rfl) (by kernel_rfl) (by kernel_rfl) rfl rfl rfl rfl rfl (PV_loadAt Tryd.underlying27 rfl sz27 rfl (Rds.take 0 rfl rfl rfl)) ?_
        refine TA_yes (dd := (some 45)) 18 rfl (by kernel_rfl) (by kernel_rfl) (by kernel_rfl) rfl rfl rfl rfl rfl (PV_loadAt Tryd.underlying27 rfl sz27 rfl (Rds.take 0 rfl rfl rfl)) ?_
        refine TA_oneYes 16 (by kernel_rfl) rfl rfl rfl rfl (TO_eqD call18 hn1 rfl rfl _ (List.Sublist.refl _) ?_)
        refine ⟨fun _ h => h, ?_⟩
        refine TA_oneYes 17 (by kernel_rfl) rfl rfl rfl rfl (TO_eqD call18 hn2 rfl rfl _ (List.Sublist.refl _) ?_)
        refine ⟨fun _ h => h, ?_⟩
        refine TA_yes (dd := (some 46)) 19 rfl (by kernel_rfl) (by kernel_rfl) (by kernel_rfl) rfl rfl rfl rfl rfl (PV_bin rfl rfl (bin_set_eql st)) ?_
        refine TA_p 20 rfl (by kernel_rfl) (PV_pickAnd rfl rfl rfl) ?_
        refine TA_p 21 rfl (by kernel_rfl) (PV_move rfl) ?_
        refine TA_yes (dd := (some 49)) 22 rfl (by kernel_rfl) (by kernel_rfl) (by kernel_rfl) rfl rfl rfl rfl rfl (PV_loadAt Tryd.underlying27 rfl sz27 rfl (Rds.take 0 rfl rfl rfl)) ?_
        refine TA_yes (dd := (some 50)) 23 rfl (by kernel_rfl) (by kernel_rfl) (by kernel_rfl) rfl rfl rfl rfl rfl (PV_move rfl) ?_
        refine TA_yes (dd := (some 52)) 25 rfl (by kernel_rfl) (by kernel_rfl) (by kernel_rfl) rfl rfl rfl rfl rfl (PV_move rfl) ?_
        refine TA_oneYes 24 (by kernel_rfl) rfl rfl rfl rfl (TO_eqD call16 hw3 rfl rfl _ (List.Sublist.refl _) ?_)
        refine ⟨fun _ h => h, ?_⟩
        refine TA_oneYes 26 (by kernel_rfl) rfl rfl rfl rfl (TO_eqD call17 hh3 rfl rfl _ (List.Sublist.refl _) ?_)
        refine ⟨fun _ h => h, ?_⟩
        refine TA_p 27 rfl (by kernel_rfl) (PV_pickAnd rfl rfl rfl) ?_
        refine TA_p 28 rfl (by kernel_rfl) (PV_move rfl) ?_
        refine TA_yes (dd := (some 56)) 29 rfl (by kernel_rfl) (by kernel_rfl) (by kernel_rfl) rfl rfl rfl rfl rfl (PV_move rfl) ?_
        refine TA_yes (dd := (some 57)) 30 rfl (by kernel_rfl) (by kernel_rfl) (by kernel_rfl) rfl rfl rfl rfl rfl (PV.cast (PV_bin rfl rfl (bin_quo (by decide))) e57) ?_
        refine TA_yes (dd := (some 58)) 31 rfl (by kernel_rfl) (by kernel_rfl) (by kernel_rfl) rfl rfl rfl rfl rfl (PV_indexAddrArr (i := 2) Tryd.underlying27 sz25 rfl rfl rfl (by first | decide | omega | assumption)) ?_
        refine TA_yes (dd := (some 59)) 32 rfl (by kernel_rfl) (by kernel_rfl) (by kernel_rfl) rfl rfl rfl rfl rfl (PV_load Tryd.underlying25 rfl rfl (Rd.at 0 rfl rfl)) ?_
        refine TA_yes (dd := (some 60)) 33 rfl (by kernel_rfl) (by kernel_rfl) (by kernel_rfl) rfl rfl rfl rfl rfl (PV_move rfl) ?_
        refine TA_yes (dd := (some 61)) 34 rfl (by kernel_rfl) (by kernel_rfl) (by kernel_rfl) rfl rfl rfl rfl rfl (PV.cast (PV_bin rfl rfl (bin_rem (by decide))) e61) ?_
        refine TA_yes (dd := (some 62)) 35 rfl (by kernel_rfl) (by kernel_rfl) (by kernel_rfl) rfl rfl rfl rfl rfl (PV.cast (PV_bin rfl rfl (bin_shr (by omega))) e62) ?_
        refine TA_yes (dd := (some 63)) 36 rfl (by kernel_rfl) (by kernel_rfl) (by kernel_rfl) rfl rfl rfl rfl rfl (PV.cast (PV_bin rfl rfl bin_and) e63) ?_
        refine TA_yes (dd := (some 64)) 37 rfl (by kernel_rfl) (by kernel_rfl) (by kernel_rfl) rfl rfl rfl rfl rfl (PV.cast (PV_bin rfl rfl bin_eql) e64) ?_
        refine TA_yes (dd := (some 65)) 38 rfl (by kernel_rfl) (by kernel_rfl) (by kernel_rfl) rfl rfl rfl rfl rfl (PV_move rfl) ?_
        refine TA_yes (dd := (some 66)) 39 rfl (by kernel_rfl) (by kernel_rfl) (by kernel_rfl) rfl rfl rfl rfl rfl (PV.cast (PV_bin rfl rfl (bin_bool_eql Tryd.underlying4)) e31) ?_
        refine TA_p 40 rfl (by kernel_rfl) (PV_pickAnd rfl rfl rfl) ?_
        refine TA_p 41 rfl (by kernel_rfl) (PV_assign rfl) ?_
        refine TA_done (by kernel_rfl) ?_
        refine T_ret ?_
        refine ret_ret (ResV_one rfl rfl) ⟨_, ?zb20008q139, ⟨rfl, rfl⟩⟩
        case zb20008q139 => exact (by (repeat (first | exact Sb.r | exact Sb.ar | exact Sb.al | apply Sb.c | apply Sb.d | refine Sb.t ?_)); done)
        all_goals exact T_ret (ret_ret (ResV_one rfl rfl) ⟨H, (by repeat (first | exact Sb.r | exact Sb.ar | exact Sb.al | apply Sb.c | apply Sb.d | refine Sb.t ?_)), rfl, rfl⟩)
      · have e57 : Value.int .u8 (IntKind.u8.wrap (Int.tdiv (cn : Int) 64)) = .int .u8 3 := by
          rw [IntKind.wrap_u8]
          congr 1
          rw [Int.tdiv_eq_ediv_of_nonneg (by omega)]
          omega
        have e62 := shr64 st.d (cn % 64) (Nat.mod_lt _ (by decide))
        have e63 : Value.int .u64 (Go.bits .and .u64 ((st.d >>> (cn % 64)).toNat : Int) 1) = .int .u64 (((st.d >>> (cn % 64)) &&& 1#64).toNat : Int) := congrArg _ (and64 _ 1#64)
        have e64 := has_val st cn 3 st.d hk rfl
        rw [hhas] at e64
        refine T_seq ?_
        refine T_region ?_
        refine TL_p (PV_bin rfl rfl bin_lss) ?_
        refine TL_nil ?_
        refine T_seq ?_
        refine T_else rfl (by (simp; done)) ?_
        refine T_exit ?_
        refine T_seq ?_
        refine T_drawn (WH _ _ _) mixed (fun w h => h) ?_
        refine TA_p 0 rfl (by kernel_rfl) (PV_loadAt Tryd.underlying27 rfl sz27 rfl (Rds.take 0 rfl rfl rfl)) ?_
        refine TA_p 1 rfl (by kernel_rfl) (PV_move rfl) ?_
        refine TA_p 3 rfl (by kernel_rfl) (PV_move rfl) ?_
        refine TA_one 2 (by kernel_rfl) rfl rfl (TO_eqD call17 hh1 rfl rfl _ (List.Sublist.refl _) ?_)
        refine ⟨fun _ h => h, ?_⟩
        refine TA_p 4 rfl (by kernel_rfl) (PV.cast (PV_bin rfl rfl (bin_bool_eql Tryd.underlying4)) e31) ?_
        refine TA_p 5 rfl (by kernel_rfl) (PV_move rfl) ?_
        refine TA_yes (dd := (some 33)) 6 rfl (by kernel_rfl) (by kernel_rfl) (by kernel_rfl) rfl rfl rfl rfl rfl (PV_loadAt Tryd.underlying27 rfl sz27 rfl (Rds.take 0 rfl rfl rfl)) ?_
        refine TA_yes (dd := (some 35)) 8 rfl (by kernel_rfl) (by kernel_rfl) (by kernel_rfl) rfl rfl rfl rfl rfl (PV_move rfl) ?_
        refine TA_yes (dd := (some 37)) 10 rfl (by kernel_rfl) (by kernel_rfl) (by kernel_rfl) rfl rfl rfl rfl rfl (PV_move rfl) ?_
        refine TA_yes (dd := (some 38)) 11 rfl (by kernel_rfl) (by kernel_rfl) (by kernel_rfl) rfl rfl rfl rfl rfl (PV_not rfl) ?_
        refine TA_oneYes 7 (by kernel_rfl) rfl rfl rfl rfl (TO_eqD call18 hn1 rfl rfl _ (List.Sublist.refl _) ?_)
        refine ⟨fun _ h => h, ?_⟩
        refine TA_oneYes 9 (by kernel_rfl) rfl rfl rfl rfl (TO_eqD call17 hh2 rfl rfl _ (List.Sublist.refl _) ?_)
        refine ⟨fun _ h => h, ?_⟩
        refine TA_yes (dd := (some 39)) 12 rfl (by kernel_rfl) (by kernel_rfl) (by kernel_rfl) rfl rfl rfl rfl rfl (PV.cast (PV_bin rfl rfl (bin_bool_eql Tryd.underlying4)) e39) ?_
        refine TA_p 13 rfl (by kernel_rfl) (PV_pickAnd rfl rfl rfl) ?_
        refine TA_p 14 rfl (by kernel_rfl) (PV_move rfl) ?_
        refine TA_yes (dd := (some 42)) 15 rfl (by kernel_rfl) (by kernel_rfl) (by kernel_rfl) rfl rfl rfl rfl rfl (PV_loadAt Tryd.underlying27 rfl sz27 rfl (Rds.take 0 rfl rfl rfl)) ?_
        refine TA_yes (dd := (some 45)) 18 rfl (by kernel_rfl) (by kernel_rfl) (by kernel_rfl) rfl rfl rfl rfl rfl (PV_loadAt Tryd.underlying27 rfl sz27 rfl (Rds.take 0 rfl rfl rfl)) ?_
        refine TA_oneYes 16 (by kernel_rfl) rfl rfl rfl rfl (TO_eqD call18 hn1 rfl rfl _ (List.Sublist.refl _) ?_)
        refine ⟨fun _ h => h, ?_⟩
        refine TA_oneYes 17 (by kernel_rfl) rfl rfl rfl rfl (TO_eqD call18 hn2 rfl rfl _ (List.Sublist.refl _) ?_)
        refine ⟨fun _ h => h, ?_⟩
        refine TA_yes (dd := (some 46)) 19 rfl (by kernel_rfl) (by kernel_rfl) (by kernel_rfl) rfl rfl rfl rfl rfl (PV_bin rfl rfl (bin_set_eql st)) ?_
        refine TA_p 20 rfl (by kernel_rfl) (PV_pickAnd rfl rfl rfl) ?_
        refine TA_p 21 rfl (by kernel_rfl) (PV_move rfl) ?_
        refine TA_yes (dd := (some 49)) 22 rfl (by kernel_rfl) (by kernel_rfl) (by kernel_rfl) rfl rfl rfl rfl rfl (PV_loadAt Tryd.underlying27 rfl sz27 rfl (Rds.take 0 rfl rfl rfl)) ?_
        refine TA_yes (dd := (some 50)) 23 rfl (by kernel_rfl) (by kernel_rfl) (by kernel_rfl) rfl rfl rfl rfl rfl (PV_move rfl) ?_
        refine TA_yes (dd := (some 52)) 25 rfl (by kernel_rfl) (by kernel_rfl) (by kernel_rfl) rfl rfl rfl rfl rfl (PV_move rfl) ?_
        refine TA_oneYes 24 (by kernel_rfl) rfl rfl rfl rfl (TO_eqD call16 hw3 rfl rfl _ (List.Sublist.refl _) ?_)
        refine ⟨fun _ h => h, ?_⟩
        refine TA_oneYes 26 (by kernel_rfl) rfl rfl rfl rfl (TO_eqD call17 hh3 rfl rfl _ (List.Sublist.refl _) ?_)
        refine ⟨fun _ h => h, ?_⟩
        refine TA_p 27 rfl (by kernel_rfl) (PV_pickAnd rfl rfl rfl) ?_
        refine TA_p 28 rfl (by kernel_rfl) (PV_move rfl) ?_
        refine TA_yes (dd := (some 56)) 29 rfl (by kernel_rfl) (by kernel_rfl) (by kernel_rfl) rfl rfl rfl rfl rfl (PV_move rfl) ?_
        refine TA_yes (dd := (some 57)) 30 rfl (by kernel_rfl) (by kernel_rfl) (by kernel_rfl) rfl rfl rfl rfl rfl (PV.cast (PV_bin rfl rfl (bin_quo (by decide))) e57) ?_
        refine TA_yes (dd := (some 58)) 31 rfl (by kernel_rfl) (by kernel_rfl) (by kernel_rfl) rfl rfl rfl rfl rfl (PV_indexAddrArr (i := 3) Tryd.underlying27 sz25 rfl rfl rfl (by first | decide | omega | assumption)) ?_
        refine TA_yes (dd := (some 59)) 32 rfl (by kernel_rfl) (by kernel_rfl) (by kernel_rfl) rfl rfl rfl rfl rfl (PV_load Tryd.underlying25 rfl rfl (Rd.at 0 rfl rfl)) ?_
        refine TA_yes (dd := (some 60)) 33 rfl (by kernel_rfl) (by kernel_rfl) (by kernel_rfl) rfl rfl rfl rfl rfl (PV_move rfl) ?_
        refine TA_yes (dd := (some 61)) 34 rfl (by kernel_rfl) (by kernel_rfl) (by kernel_rfl) rfl rfl rfl rfl rfl (PV.cast (PV_bin rfl rfl (bin_rem (by decide))) e61) ?_
        refine TA_yes (dd := (some 62)) 35 rfl (by kernel_rfl) (by kernel_rfl) (by kernel_rfl) rfl rfl rfl rfl rfl (PV.cast (PV_bin rfl rfl (bin_shr (by omega))) e62) ?_
        refine TA_yes (dd := (some 63)) 36 rfl (by kernel_rfl) (by kernel_rfl) (by kernel_rfl) rfl rfl rfl rfl rfl (PV.cast (PV_bin rfl rfl bin_and) e63) ?_
        refine TA_yes (dd := (some 64)) 37 rfl (by kernel_rfl) (by kernel_rfl) (by kernel_rfl) rfl rfl rfl rfl rfl (PV.cast (PV_bin rfl rfl bin_eql) e64) ?_
        refine TA_yes (dd := (some 65)) 38 rfl (by kernel_rfl) (by kernel_rfl) (by kernel_rfl) rfl rfl rfl rfl rfl (PV_move rfl) ?_
        refine TA_yes (dd := (some 66)) 39 rfl (by kernel_rfl) (by kernel_rfl) (by kernel_rfl) rfl rfl rfl rfl rfl (PV.cast (PV_bin rfl rfl (bin_bool_eql Tryd.underlying4)) e31) ?_
        refine TA_p 40 rfl (by kernel_rfl) (PV_pickAnd rfl rfl rfl) ?_
        refine TA_p 41 rfl (by kernel_rfl) (PV_assign rfl) ?_
        refine TA_done (by kernel_rfl) ?_
        refine T_ret ?_
        refine ret_ret (ResV_one rfl rfl) ⟨_, ?zb25008q166, ⟨rfl, rfl⟩⟩
        case zb25008q166 => exact (by (repeat (first | exact Sb.r | exact Sb.ar | exact Sb.al | apply Sb.c | apply Sb.d | refine Sb.t ?_)); done)
        all_goals exact T_ret (ret_ret (ResV_one rfl rfl) ⟨H, (by repeat (first | exact Sb.r | exact Sb.ar | exact Sb.al | apply Sb.c | apply Sb.d | refine Sb.t ?_)), rfl, rfl⟩)
end
end Go.Proofs.YtijpbpnfachlkaaDoor.SL
