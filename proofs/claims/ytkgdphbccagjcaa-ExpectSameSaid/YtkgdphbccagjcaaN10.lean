import Derived.Test.YtkgdphbccagjcaaN9
/- Where a pattern ends is what fits: the law. No statement is proved here. -/
set_option linter.unusedVariables false
set_option linter.unusedSimpArgs false
set_option maxRecDepth 100000
set_option maxHeartbeats 8000000
namespace Go.Proofs.Ytkgdphbccagjcaa.SL
open Go Go.RowKit
section
variable {w0 : World} {B : Nat} {H X : List Chunk}
theorem intV_at' {L : List Int} {j : Nat} (h : j < L.length) : (intV L)[j * 1]? = some (.int .i64 (L.getD j 0)) := by
  rw [Nat.mul_one]
  simp [intV, List.getD_eq_getElem?_getD, List.getElem?_eq_getElem h]
theorem intV_snoc (L : List Int) (z : Int) : intV (L ++ [z]) = intV L ++ [.int .i64 z] := by simp [intV]
theorem MatchEnds_t {A0 A1 : Option Addr} {m0 m1 c0 c1 : Nat} {l0 l1 : List Int} {fi : Int} (hS0 : Shows (WH w0 B H) A0 m0 1 (nums .u8 l0)) (hm0 : l0.length = m0) (hl0 : m0 ≤ 4611686018427387904) (hc0 : m0 ≤ c0) (hu0 : U8s l0) (hS1 : Shows (WH w0 B H) A1 m1 1 (nums .u8 l1)) (hm1 : l1.length = m1) (hl1 : m1 ≤ 4611686018427387904) (hc1 : m1 ≤ c1) (hu1 : U8s l1) (hf1 : -128 ≤ fi) (hf2 : fi ≤ 127) :
    TCall Try.prog w0 B 13 #[.slice A0 m0 c0, .slice A1 m1 c1, .int .i8 fi] (fun r H' => r = .bool true ∧ H' = H) H := by
  obtain ⟨t, ht⟩ : ∃ t, (mk 3 l0).2.1 = t := ⟨_, rfl⟩
  obtain ⟨s, hs⟩ : ∃ s, txt l1 m1 = s := ⟨_, rfl⟩
  have hms := txt_mem hu1 m1
  have hls := txt_len l1 m1
  have hsm := mk_small (Nat.le_refl 3) l0
  rw [hs] at hms hls
  rw [ht] at hsm
  have hus : U8s s := fun x hx => by have := hms x hx; omega
  have hvt : ∀ {W : World → Prop} {v : Nv}, Tr W (mk 3 l0).2.1 v → Tr W t v := fun h => ht ▸ h
  have hHN : ∀ N : List Chunk, H.Sublist (H ++ N) := fun N => List.sublist_append_left H N
  have el : Value.int .i64 (((strOfNums s).size : Nat) : Int) = .int .i64 ((s.length : Nat) : Int) := by rw [str_len]
  have e28 : Value.int .i64 (IntKind.i64.wrap fi) = .int .i64 fi := wr64 (by omega)
  have hz := str_len s
  by_cases hin : 0 ≤ fi ∧ fi ≤ (s.length : Int)
  · obtain ⟨f, rfl⟩ := Int.eq_ofNat_of_zero_le hin.1
    have hfl : f ≤ s.length := by omega
    obtain ⟨p, hp⟩ : ∃ p : Nat → Bool, (fun j => fitsT t (sub s f j)) = p := ⟨_, rfl⟩
    have hpv : ∀ j, fitsT t (sub s f j) = p j := fun j => congrFun hp j
    obtain ⟨L, hL⟩ : ∃ L, idxT (endsL s t (startL f (s.length + 1))) (s.length + 1) = L := ⟨_, rfl⟩
    have hW : wantL p f (s.length + 1 - f) = L := by
      rw [← hL, ← idxT_want (R := endsL s t (startL f (s.length + 1))) (fun j hj => by rw [ends_fits hfl (by omega), decide_eq_false (by omega), Bool.false_and]) (fun j hj => by rw [ends_fits hfl (by omega), decide_eq_true (by omega), Bool.true_and, hpv]), show f + (s.length + 1 - f) = s.length + 1 by omega]
    have hzL : (intV L).length = L.length := by simp [intV]
    have hLb : L.length ≤ s.length + 1 := by rw [← hL]; exact idxT_le _ _
    refine TCall_intro (args := [_, _, _]) Try.func13 rfl Try.ntmps13 (Nat.le_of_ble_eq_true rfl) ?_
    refine T_seq ?_
    refine T_region ?_
    refine TL_p (PV_assign rfl) ?_
    refine TL_nil ?_
    refine T_seq ?_
    refine T_seq ?_
    refine T_region ?_
    refine TL_cons rfl (TO_call0 call18 rfl rfl (awake08s) ?_)
    rintro v16_3 H16_3 ⟨rfl, rfl⟩
    refine TL_p (PV_not rfl) ?_
    refine TL_nil ?_
    refine T_else rfl (by rfl) ?_
    refine T_skip ?_
    refine T_seq ?_
    refine T_region ?_
    refine TL_p (PV_move rfl) ?_
    refine TL_cons rfl (TO_mk (d := 3) (by omega) hS0 hm0 hc0 hl0 hu0 rfl rfl fun v20 N20 hv20 => ?_)
    refine TL_p (PV_move rfl) ?_
    refine TL_p (PV_extract rfl rfl) ?_
    refine TL_p (PV_extract rfl rfl) ?_
    refine TL_cons rfl (TO_alloc rfl zr30 fun g5 => ?_)
    refine TL_p (PV_assign rfl) ?_
    refine TL_cons rfl (TO_store 0 rfl rfl rfl sz30 rfl rfl rfl (all_one rfl) (by first | exact Nat.le_of_ble_eq_true rfl | (simp; done) | (simp; omega) | omega) ?_)
    refine TL_nil ?_
    refine T_seq ?_
    refine T_region ?_
    refine TL_p (PV_move rfl) ?_
    refine TL_cons rfl (TO_eqD call20 (Text_v hs (hS1.mono fun w h => h.sub ((hHN N20).trans (by repeat (first | exact Sb.r | exact Sb.ar | exact Sb.al | apply Sb.d | refine Sb.t ?_)))) hm1 hl1 hc1 hu1) rfl rfl _ (List.Sublist.refl _) ?_)
    refine TL_p (PV_assign rfl) ?_
    refine TL_nil ?_
    refine T_seq ?_
    refine T_region ?_
    refine TL_p (PV_loadAt Try.underlying30 rfl sz30 rfl (Rds.take 0 rfl rfl rfl)) ?_
    refine TL_cons rfl (TO_Of ((hvt hv20).mono fun w h => h.sub (by repeat (first | exact Sb.r | exact Sb.ar | exact Sb.al | apply Sb.d | refine Sb.t ?_))) (by omega) (by omega) rfl rfl fun g26 N26 hT26 => ?_)
    refine TL_p (PV_assign rfl) ?_
    refine TL_nil ?_
    refine T_seq ?_
    refine T_region ?_
    refine TL_p (PV_assign rfl) ?_
    refine TL_nil ?_
    refine T_seq ?_
    refine T_seq ?_
    refine T_region ?_
    refine TL_p (PV_move rfl) ?_
    refine TL_p (PV.cast (PV_conv (by rw [Try.underlying60]; rfl) Try.underlying3 rfl) e28) ?_
    refine TL_p (PV_assign rfl) ?_
    refine TL_nil ?_
    refine T_seq ?_
    refine T_region ?_
    refine TL_p (PV_move rfl) ?_
    refine TL_p (PV_bin rfl rfl bin_geq) ?_
    refine TL_p (PV_move rfl) ?_
    refine TL_yes rfl rfl rfl (TO_pure rfl (PV_move rfl) ?_)
    refine TL_yes rfl rfl rfl (TO_pure rfl (PV_move rfl) ?_)
    refine TL_yes rfl rfl rfl (TO_pure rfl (PV.cast (PV_len_string Try.underlying9 rfl) el) ?_)
    refine TL_yes rfl rfl rfl (TO_pure rfl (PV_bin rfl rfl bin_leq) ?_)
    refine TL_p (PV_pickAnd rfl rfl rfl) ?_
    refine TL_nil ?_
    refine T_then rfl (by exact decide_eq_true (by omega)) ?_
    refine T_seq ?_
    refine T_region ?_
    refine TL_p (PV_move rfl) ?_
    refine TL_p (PV_assign rfl) ?_
    refine TL_nil ?_
    refine T_block ?_
    refine ?L1
    case L1 =>
      refine T_addNil 1 ?_
      refine T_loopP3 (fun (k : Nat) (A : Option Addr) (c : Nat) => k ≤ s.length + 1 - f ∧ (wantL p f k).length ≤ c) (fun k _ _ => s.length + 1 - f - k) (fun k A c => [(2, .int .i8 (f : Int)), (8, .pointer (some ⟨g5, 0, none⟩)), (9, .string (strOfNums s)), (10, .pointer (some ⟨g26, 0, none⟩)), (11, .slice A (wantL p f k).length c), (12, .int .i64 (f : Int)), (13, .int .i64 ((f + k : Nat) : Int))]) (fun k A c => .sl (.slice A (wantL p f k).length c) 1 (wantL p f k).length (intV (wantL p f k)) :: .own g5 6 v20.cells :: ((H ++ N20) ++ N26)) 0 none 0 ⟨Nat.zero_le _, Nat.le_refl _⟩ (by repeat (first | exact FrSub.nil _ | refine FrSub.cons rfl ?_)) (Has.of_sub (by repeat (first | exact Sb.r | exact Sb.ar | exact Sb.al | apply Sb.c | apply Sb.d | refine Sb.t ?_))) ?_
      rintro k A c ⟨hk, hc⟩
      have hwl := wantL_le p f k
      by_cases hkl : k < s.length + 1 - f
      · have e43 : Value.int .i64 (IntKind.i64.wrap (((f + k : Nat) : Int) + 1)) = .int .i64 ((f + (k + 1) : Nat) : Int) := wr64n _ (by push_cast; omega) (by omega)
        have e48 : Value.string ((strOfNums s).extract f (f + k)) = .string (strOfNums (sub s f (f + k))) := by rw [str_sub]
        have hus2 : U8s (sub s f (f + k)) := fun x hx => hus x (sub_mem hx)
        have hsl := sub_len (s := s) (i := f) (j := f + k) (by omega) (by omega)
        have hfi := fun {X : List Chunk} (hT : Tab (WH w0 B X) g26 t) => Fits_v (w0 := w0) (B := B) (H := X) hT (by omega) hus2 (by omega) rfl (hpv (f + k))
        cases hpk : p (f + k) with
        | true =>
          rw [hpk] at hfi
          have hst : wantL p f (k + 1) = wantL p f k ++ [((f + k : Nat) : Int)] := by
            show (if _ then _ else _) = _
            rw [if_pos hpk]
          refine T_seq ?_
          refine T_seq ?_
          refine T_region ?_
          refine TL_p (PV_move rfl) ?_
          refine TL_p (PV_move rfl) ?_
          refine TL_p (PV.cast (PV_len_string Try.underlying9 rfl) el) ?_
          refine TL_p (PV_bin rfl rfl bin_leq) ?_
          refine TL_nil ?_
          refine T_then rfl (by exact decide_eq_true (by omega)) ?_
          refine T_skip ?_
          refine T_seq ?_
          refine T_block ?_
          refine T_seq ?_
          refine T_region ?_
          refine TL_p (PV_move rfl) ?_
          refine TL_p (PV_move rfl) ?_
          refine TL_p (PV_move rfl) ?_
          refine TL_p (PV_move rfl) ?_
          refine TL_p (PV.cast (PV_sliceStr (l := f) (h := f + k) Try.underlying9 rfl ⟨_, rfl⟩ ⟨_, rfl⟩ (by omega) (by omega)) e48) ?_
          refine TL_cons rfl (TO_eqD call27 (hfi (hT26.mono fun w h => h.sub (by repeat (first | exact Sb.r | exact Sb.ar | exact Sb.al | apply Sb.d | refine Sb.t ?_)))) rfl rfl _ (List.Sublist.refl _) ?_)
          refine TL_nil ?_
          refine T_then rfl (by rfl) ?_
          refine T_region ?_
          refine TL_p (PV_move rfl) ?_
          refine TL_p (PV_move rfl) ?_
          refine TL_cons rfl (TO_bs (cs := [_]) Try.underlying35 zs3 (by decide) rfl rfl rfl rfl rfl rfl fun g1002 => ?_)
          refine TL_cons rfl (TO_append 1 rfl Try.underlying35 zb3 rfl (by decide) rfl rfl rfl (Shows.at 0 rfl) ?oc1003q64 ?bb1003q64 ?bc1003q64 fun A1003 c1003 hc1003 => ?_)
          case oc1003q64 => (simp [Value.oneCell'])
          case bb1003q64 => omega
          case bc1003q64 => omega
          refine TL_p (PV_assign rfl) ?_
          refine TL_nil ?_
          refine T_region ?_
          refine TL_p (PV_move rfl) ?_
          refine TL_p (PV.cast (PV_bin rfl rfl bin_add) e43) ?_
          refine TL_p (PV_assign rfl) ?_
          refine TL_nil ?_
          refine ?L11
          case L11 =>
            have hlen : (wantL p f (k + 1)).length = (wantL p f k).length + 1 := by rw [hst]; simp
            refine ⟨k + 1, A1003, c1003, ⟨by omega, by rw [hlen]; exact hc1003⟩, by omega, ?_, ?_⟩
            · rw [hlen]
              exact (by repeat (first | exact FrSub.nil _ | refine FrSub.cons rfl ?_))
            · rw [hlen, hst, intV_snoc]
              exact Has.of_sub (by repeat (first | exact Sb.r | exact Sb.ar | exact Sb.al | apply Sb.c | apply Sb.d | refine Sb.t ?_))
        | false =>
          rw [hpk] at hfi
          have hst : wantL p f (k + 1) = wantL p f k := by
            show (if _ then _ else _) = _
            rw [if_neg (by rw [hpk]; decide)]
          refine T_seq ?_
          refine T_seq ?_
          refine T_region ?_
          refine TL_p (PV_move rfl) ?_
          refine TL_p (PV_move rfl) ?_
          refine TL_p (PV.cast (PV_len_string Try.underlying9 rfl) el) ?_
          refine TL_p (PV_bin rfl rfl bin_leq) ?_
          refine TL_nil ?_
          refine T_then rfl (by exact decide_eq_true (by omega)) ?_
          refine T_skip ?_
          refine T_seq ?_
          refine T_block ?_
          refine T_seq ?_
          refine T_region ?_
          refine TL_p (PV_move rfl) ?_
          refine TL_p (PV_move rfl) ?_
          refine TL_p (PV_move rfl) ?_
          refine TL_p (PV_move rfl) ?_
          refine TL_p (PV.cast (PV_sliceStr (l := f) (h := f + k) Try.underlying9 rfl ⟨_, rfl⟩ ⟨_, rfl⟩ (by omega) (by omega)) e48) ?_
          refine TL_cons rfl (TO_eqD call27 (hfi (hT26.mono fun w h => h.sub (by repeat (first | exact Sb.r | exact Sb.ar | exact Sb.al | apply Sb.d | refine Sb.t ?_)))) rfl rfl _ (List.Sublist.refl _) ?_)
          refine TL_nil ?_
          refine T_else rfl (by rfl) ?_
          refine T_skip ?_
          refine T_region ?_
          refine TL_p (PV_move rfl) ?_
          refine TL_p (PV.cast (PV_bin rfl rfl bin_add) e43) ?_
          refine TL_p (PV_assign rfl) ?_
          refine TL_nil ?_
          refine ?L21
          case L21 => exact ⟨k + 1, A, c, ⟨by omega, by rw [hst]; exact hc⟩, by omega, by rw [hst]; exact (by repeat (first | exact FrSub.nil _ | refine FrSub.cons rfl ?_)), by rw [hst]; exact Has.of_sub (by repeat (first | exact Sb.r | exact Sb.ar | exact Sb.al | apply Sb.c | apply Sb.d | refine Sb.t ?_))⟩
      · obtain rfl : k = s.length + 1 - f := by omega
        rw [hW] at hc ⊢
        refine T_seq ?_
        refine T_seq ?_
        refine T_region ?_
        refine TL_p (PV_move rfl) ?_
        refine TL_p (PV_move rfl) ?_
        refine TL_p (PV.cast (PV_len_string Try.underlying9 rfl) el) ?_
        refine TL_p (PV_bin rfl rfl bin_leq) ?_
        refine TL_nil ?_
        refine T_else rfl (by exact decide_eq_false (by omega)) ?_
        refine T_exit ?_
        refine T_seq ?_
        refine T_region ?_
        refine TL_p (PV_loadAt Try.underlying30 rfl sz30 rfl (Rds.take 1 rfl rfl rfl)) ?_
        refine TL_p (PV_move rfl) ?_
        refine TL_p (PV_move rfl) ?_
        refine TL_p (PV.cast (PV_conv (by rw [Try.underlying60]; rfl) Try.underlying3 rfl) e28) ?_
        refine TL_cons rfl (TO_Ends ((hvt hv20).mono fun w h => h.sub (by repeat (first | exact Sb.r | exact Sb.ar | exact Sb.al | apply Sb.d | refine Sb.t ?_))) hus (by omega) hfl hL rfl rfl fun A58 c58 hc58 => ?_)
        refine TL_p (PV_assign rfl) ?_
        refine TL_nil ?_
        refine T_seq ?_
        refine T_seq ?_
        refine T_region ?_
        refine TL_p (PV_move rfl) ?_
        refine TL_p (PV_len_slice Try.underlying35 rfl) ?_
        refine TL_p (PV_move rfl) ?_
        refine TL_p (PV_len_slice Try.underlying35 rfl) ?_
        refine TL_p (PV_bin rfl rfl bin_neq) ?_
        refine TL_nil ?_
        refine T_else rfl (by (simp; done)) ?_
        refine T_skip ?_
        refine T_seq ?_
        refine T_seq ?_
        refine T_region ?_
        refine TL_p (PV_move rfl) ?_
        refine TL_p (PV_len_slice Try.underlying35 rfl) ?_
        refine TL_p (PV_move rfl) ?_
        refine TL_nil ?_
        refine T_block ?_
        refine ?L31
        case L31 =>
          refine T_loopP1 (fun (i : Nat) => i ≤ L.length) (fun i => L.length - i) (fun i => [(11, .slice A L.length c), (14, .slice A58 L.length c58), (65, .int .i64 (L.length : Int)), (66, .int .i64 (i : Int))]) (fun i => .sl (.slice A58 L.length c58) 1 L.length (intV L) :: .sl (.slice A L.length c) 1 L.length (intV L) :: H) 0 (Nat.zero_le _) (by repeat (first | exact FrSub.nil _ | refine FrSub.cons rfl ?_)) (Has.of_sub (List.Sublist.cons_cons _ (List.Sublist.cons_cons _ (List.Sublist.cons _ ((hHN N20).trans (List.sublist_append_left _ _)))))) ?_
          intro i hi
          by_cases hil : i < L.length
          · have e78 : Value.int .i64 (IntKind.i64.wrap ((i : Int) + 1)) = .int .i64 ((i + 1 : Nat) : Int) := wr64n _ (by push_cast; rfl) (by omega)
            refine T_shows (Shows.at 0 rfl) (by omega) fun ga oa hA hra => ?_
            subst hA
            have ha : Rd _ ⟨ga, oa + i * 1, none⟩ (.int .i64 (L.getD i 0)) := hra (i * 1) _ (intV_at' hil)
            refine T_shows (Shows.at 1 rfl) (by omega) fun gb ob hB hrb => ?_
            subst hB
            have hb : Rd _ ⟨gb, ob + i * 1, none⟩ (.int .i64 (L.getD i 0)) := hrb (i * 1) _ (intV_at' hil)
            refine T_seq ?_
            refine T_region ?_
            refine TL_p (PV_bin rfl rfl bin_lss) ?_
            refine TL_nil ?_
            refine T_seq ?_
            refine T_then rfl (by exact decide_eq_true (by omega)) ?_
            refine T_skip ?_
            refine T_seq ?_
            refine T_block ?_
            refine T_seq ?_
            refine T_region ?_
            refine TL_p (PV_move rfl) ?_
            refine TL_p (PV_assign rfl) ?_
            refine TL_nil ?_
            refine T_seq ?_
            refine T_drawn (WH _ _ _) mixed (fun w h => h) ?_
            refine TA_p 0 rfl (by kernel_rfl) (PV_move rfl) ?_
            refine TA_p 1 rfl (by kernel_rfl) (PV_move rfl) ?_
            refine TA_p 2 rfl (by kernel_rfl) (PV_indexAddr Try.underlying35 sz3 rfl rfl rfl (by first | omega | decide | assumption)) ?_
            refine TA_p 3 rfl (by kernel_rfl) (PV_load Try.underlying3 rfl rfl ha) ?_
            refine TA_p 4 rfl (by kernel_rfl) (PV_move rfl) ?_
            refine TA_p 5 rfl (by kernel_rfl) (PV_move rfl) ?_
            refine TA_p 6 rfl (by kernel_rfl) (PV_indexAddr Try.underlying35 sz3 rfl rfl rfl (by first | omega | decide | assumption)) ?_
            refine TA_p 7 rfl (by kernel_rfl) (PV_load Try.underlying3 rfl rfl hb) ?_
            refine TA_p 8 rfl (by kernel_rfl) (PV_bin rfl rfl bin_neq) ?_
            refine TA_done (by kernel_rfl) ?_
            refine T_else rfl (by (simp; done)) ?_
            refine T_skip ?_
            refine T_region ?_
            refine TL_p (PV.cast (PV_bin rfl rfl bin_add) e78) ?_
            refine TL_p (PV_move rfl) ?_
            refine TL_nil ?_
            refine ?L91
            case L91 => exact ⟨i + 1, by omega, by omega, (by repeat (first | exact FrSub.nil _ | refine FrSub.cons rfl ?_)), Has.of_sub (by repeat (first | exact Sb.r | exact Sb.ar | exact Sb.al | apply Sb.c | apply Sb.d | refine Sb.t ?_))⟩
          · obtain rfl : i = L.length := by omega
            refine T_seq ?_
            refine T_region ?_
            refine TL_p (PV_bin rfl rfl bin_lss) ?_
            refine TL_nil ?_
            refine T_seq ?_
            refine T_else rfl (by (simp; done)) ?_
            refine T_exit ?_
            refine T_seq ?_
            refine T_region ?_
            refine TL_p (PV_assign rfl) ?_
            refine TL_nil ?_
            refine T_ret ?_
            refine ret_ret (ResV_one rfl rfl) ⟨_, ?zb10001q108, ⟨rfl, rfl⟩⟩
            case zb10001q108 => exact (by (repeat (first | exact Sb.r | exact Sb.ar | exact Sb.al | apply Sb.c | apply Sb.d | refine Sb.t ?_)); done)
  · refine TCall_intro (args := [_, _, _]) Try.func13 rfl Try.ntmps13 (Nat.le_of_ble_eq_true rfl) ?_
    refine T_seq ?_
    refine T_region ?_
    refine TL_p (PV_assign rfl) ?_
    refine TL_nil ?_
    refine T_seq ?_
    refine T_seq ?_
    refine T_region ?_
    refine TL_cons rfl (TO_call0 call18 rfl rfl (awake08s) ?_)
    rintro v16_5003 H16_5003 ⟨rfl, rfl⟩
    refine TL_p (PV_not rfl) ?_
    refine TL_nil ?_
    refine T_else rfl (by rfl) ?_
    refine T_skip ?_
    refine T_seq ?_
    refine T_region ?_
    refine TL_p (PV_move rfl) ?_
    refine TL_cons rfl (TO_mk (d := 3) (by omega) hS0 hm0 hc0 hl0 hu0 rfl rfl fun v20 N20 hv20 => ?_)
    refine TL_p (PV_move rfl) ?_
    refine TL_p (PV_extract rfl rfl) ?_
    refine TL_p (PV_extract rfl rfl) ?_
    refine TL_cons rfl (TO_alloc rfl zr30 fun g5005 => ?_)
    refine TL_p (PV_assign rfl) ?_
    refine TL_cons rfl (TO_store 0 rfl rfl rfl sz30 rfl rfl rfl (all_one rfl) (by first | exact Nat.le_of_ble_eq_true rfl | (simp; done) | (simp; omega) | omega) ?_)
    refine TL_nil ?_
    refine T_seq ?_
    refine T_region ?_
    refine TL_p (PV_move rfl) ?_
    refine TL_cons rfl (TO_eqD call20 (Text_v hs (hS1.mono fun w h => h.sub ((hHN N20).trans (by repeat (first | exact Sb.r | exact Sb.ar | exact Sb.al | apply Sb.d | refine Sb.t ?_)))) hm1 hl1 hc1 hu1) rfl rfl _ (List.Sublist.refl _) ?_)
    refine TL_p (PV_assign rfl) ?_
    refine TL_nil ?_
    refine T_seq ?_
    refine T_region ?_
    refine TL_p (PV_loadAt Try.underlying30 rfl sz30 rfl (Rds.take 0 rfl rfl rfl)) ?_
    refine TL_cons rfl (TO_Of ((hvt hv20).mono fun w h => h.sub (by repeat (first | exact Sb.r | exact Sb.ar | exact Sb.al | apply Sb.d | refine Sb.t ?_))) (by omega) (by omega) rfl rfl fun g26 N26 hT26 => ?_)
    refine TL_p (PV_assign rfl) ?_
    refine TL_nil ?_
    refine T_seq ?_
    refine T_region ?_
    refine TL_p (PV_assign rfl) ?_
    refine TL_nil ?_
    refine T_seq ?_
    refine T_seq ?_
    refine T_region ?_
    refine TL_p (PV_move rfl) ?_
    refine TL_p (PV.cast (PV_conv (by rw [Try.underlying60]; rfl) Try.underlying3 rfl) e28) ?_
    refine TL_p (PV_assign rfl) ?_
    refine TL_nil ?_
    refine T_seq ?_
    refine T_region ?_
    refine TL_p (PV_move rfl) ?_
    refine TL_p (PV_bin rfl rfl bin_geq) ?_
    refine TL_p (PV_move rfl) ?_
    refine TL_split (d := 31) rfl (fun c5009 => ?w5009q109y) (fun c5009 => ?w5009q109n)
    try simp only [decide_eq_true_eq, decide_eq_false_iff_not, beq_iff_eq, beq_eq_false_iff_ne, bne_iff_ne, bne_eq_false_iff_eq, ne_eq, Bool.not_eq_true', Bool.not_eq_false', Bool.not_not, Bool.not_true, Bool.not_false, Bool.and_eq_true, Bool.or_eq_true, Bool.and_eq_false_iff, Bool.or_eq_false_iff, Int.not_lt, Int.not_le, gt_iff_lt, ge_iff_le] at c5009
    refine TL_yes rfl rfl (gtrue (by exact decide_eq_true (by omega))) (TO_pure rfl (PV_move rfl) ?_)
    refine TL_yes rfl rfl (gtrue (by exact decide_eq_true (by omega))) (TO_pure rfl (PV_move rfl) ?_)
    refine TL_yes rfl rfl (gtrue (by exact decide_eq_true (by omega))) (TO_pure rfl (PV.cast (PV_len_string Try.underlying9 rfl) el) ?_)
    refine TL_yes rfl rfl (gtrue (by exact decide_eq_true (by omega))) (TO_pure rfl (PV_bin rfl rfl bin_leq) ?_)
    refine TL_p (PV_pickAnd rfl rfl rfl) ?_
    refine TL_nil ?_
    refine T_else rfl (by (simp; omega)) ?_
    refine T_skip ?_
    refine T_seq ?_
    refine T_region ?_
    refine TL_p (PV_loadAt Try.underlying30 rfl sz30 rfl (Rds.take 0 rfl rfl rfl)) ?_
    refine TL_p (PV_move rfl) ?_
    refine TL_p (PV_move rfl) ?_
    refine TL_p (PV.cast (PV_conv (by rw [Try.underlying60]; rfl) Try.underlying3 rfl) e28) ?_
    refine TL_cons rfl (TO_eqD call21 (Ends_out (v := v20) (s := s) (by omega) (by omega)) rfl rfl H ((hHN N20).trans (by repeat (first | exact Sb.r | exact Sb.ar | exact Sb.al | apply Sb.d | refine Sb.t ?_))) ?_)
    refine TL_p (PV_assign rfl) ?_
    refine TL_nil ?_
    refine T_seq ?_
    refine T_seq ?_
    refine T_region ?_
    refine TL_p (PV_move rfl) ?_
    refine TL_p (PV_len_slice Try.underlying35 rfl) ?_
    refine TL_p (PV_move rfl) ?_
    refine TL_p (PV_len_slice Try.underlying35 rfl) ?_
    refine TL_p (PV_bin rfl rfl bin_neq) ?_
    refine TL_nil ?_
    refine T_else rfl (by rfl) ?_
    refine T_skip ?_
    refine T_seq ?_
    refine T_seq ?_
    refine T_region ?_
    refine TL_p (PV_move rfl) ?_
    refine TL_p (PV_len_slice Try.underlying35 rfl) ?_
    refine TL_p (PV_move rfl) ?_
    refine TL_nil ?_
    refine T_block ?_
    refine ?L51
    rotate_left 1
    try simp only [decide_eq_true_eq, decide_eq_false_iff_not, beq_iff_eq, beq_eq_false_iff_ne, bne_iff_ne, bne_eq_false_iff_eq, ne_eq, Bool.not_eq_true', Bool.not_eq_false', Bool.not_not, Bool.not_true, Bool.not_false, Bool.and_eq_true, Bool.or_eq_true, Bool.and_eq_false_iff, Bool.or_eq_false_iff, Int.not_lt, Int.not_le, gt_iff_lt, ge_iff_le] at c5009
    refine TL_no (b := false) rfl rfl (gfalse (by exact decide_eq_false (by omega))) rfl ?_
    refine TL_no (b := false) rfl rfl (gfalse (by exact decide_eq_false (by omega))) rfl ?_
    refine TL_no (b := false) rfl rfl (gfalse (by exact decide_eq_false (by omega))) rfl ?_
    refine TL_no (b := false) rfl rfl (gfalse (by exact decide_eq_false (by omega))) rfl ?_
    refine TL_p (PV_pickF rfl (by first | assumption | rfl | (simp; done) | (simp; omega) | (simp [*]; done) | (simp [*]; omega)) rfl rfl) ?_
    refine TL_nil ?_
    refine T_else rfl (by rfl) ?_
    refine T_skip ?_
    refine T_seq ?_
    refine T_region ?_
    refine TL_p (PV_loadAt Try.underlying30 rfl sz30 rfl (Rds.take 0 rfl rfl rfl)) ?_
    refine TL_p (PV_move rfl) ?_
    refine TL_p (PV_move rfl) ?_
    refine TL_p (PV.cast (PV_conv (by rw [Try.underlying60]; rfl) Try.underlying3 rfl) e28) ?_
    refine TL_cons rfl (TO_eqD call21 (Ends_out (v := v20) (s := s) (by omega) (by omega)) rfl rfl H ((hHN N20).trans (by repeat (first | exact Sb.r | exact Sb.ar | exact Sb.al | apply Sb.d | refine Sb.t ?_))) ?_)
    refine TL_p (PV_assign rfl) ?_
    refine TL_nil ?_
    refine T_seq ?_
    refine T_seq ?_
    refine T_region ?_
    refine TL_p (PV_move rfl) ?_
    refine TL_p (PV_len_slice Try.underlying35 rfl) ?_
    refine TL_p (PV_move rfl) ?_
    refine TL_p (PV_len_slice Try.underlying35 rfl) ?_
    refine TL_p (PV_bin rfl rfl bin_neq) ?_
    refine TL_nil ?_
    refine T_else rfl (by rfl) ?_
    refine T_skip ?_
    refine T_seq ?_
    refine T_seq ?_
    refine T_region ?_
    refine TL_p (PV_move rfl) ?_
    refine TL_p (PV_len_slice Try.underlying35 rfl) ?_
    refine TL_p (PV_move rfl) ?_
    refine TL_nil ?_
    refine T_block ?_
    refine ?L52
    all_goals
      refine T_loopP1 (fun (i : Nat) => i = 0) (fun i => 0) (fun i => [(11, .slice none 0 0), (14, .slice none 0 0), (65, .int .i64 0), (66, .int .i64 0)]) (fun i => H) 0 rfl (by repeat (first | exact FrSub.nil _ | refine FrSub.cons rfl ?_)) (Has.of_sub (by repeat (first | exact Sb.r | exact Sb.ar | exact Sb.al | apply Sb.c | apply Sb.d | refine Sb.t ?_))) ?_
      rintro i rfl
    · refine T_seq ?_
      refine T_region ?_
      refine TL_p (PV_bin rfl rfl bin_lss) ?_
      refine TL_nil ?_
      refine T_seq ?_
      refine T_else rfl (by rfl) ?_
      refine T_exit ?_
      refine T_seq ?_
      refine T_region ?_
      refine TL_p (PV_assign rfl) ?_
      refine TL_nil ?_
      refine T_ret ?_
      refine ret_ret (ResV_one rfl rfl) ⟨_, List.Sublist.refl _, ⟨rfl, rfl⟩⟩
    · refine T_seq ?_
      refine T_region ?_
      refine TL_p (PV_bin rfl rfl bin_lss) ?_
      refine TL_nil ?_
      refine T_seq ?_
      refine T_else rfl (by rfl) ?_
      refine T_exit ?_
      refine T_seq ?_
      refine T_region ?_
      refine TL_p (PV_assign rfl) ?_
      refine TL_nil ?_
      refine T_ret ?_
      refine ret_ret (ResV_one rfl rfl) ⟨_, List.Sublist.refl _, ⟨rfl, rfl⟩⟩
end
end Go.Proofs.Ytkgdphbccagjcaa.SL
