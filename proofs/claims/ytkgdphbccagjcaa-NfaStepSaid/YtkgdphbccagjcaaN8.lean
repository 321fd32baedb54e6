import Derived.Test.YtkgdphbccagjcaaN7
/- A text fits by its last byte. No statement is proved here. -/
set_option linter.unusedVariables false
set_option linter.unusedSimpArgs false
set_option maxRecDepth 100000
set_option maxHeartbeats 8000000
namespace Go.Proofs.Ytkgdphbccagjcaa.SL
open Go Go.RowKit
section
variable {w0 : World} {B : Nat} {H X : List Chunk}
theorem fits_step {t : Rx} {s : List Int} {k : Nat} (hk : k < s.length) : fitsT t (s.take (k + 1)) = endsT t (atL t s (k + 1)) := by
  have hl : (s.take (k + 1)).length = k + 1 := by rw [List.length_take]; omega
  unfold fitsT
  rw [if_neg (by omega), hl, atL_take (Nat.le_refl _) (by omega)]
theorem NfaStep_t {A0 A1 : Option Addr} {m0 m1 c0 c1 : Nat} {l0 l1 : List Int} (hS0 : Shows (WH w0 B H) A0 m0 1 (nums .u8 l0)) (hm0 : l0.length = m0) (hl0 : m0 ≤ 4611686018427387904) (hc0 : m0 ≤ c0) (hu0 : U8s l0) (hS1 : Shows (WH w0 B H) A1 m1 1 (nums .u8 l1)) (hm1 : l1.length = m1) (hl1 : m1 ≤ 4611686018427387904) (hc1 : m1 ≤ c1) (hu1 : U8s l1) :
    TCall Try.prog w0 B 8 #[.slice A0 m0 c0, .slice A1 m1 c1] (fun r H' => r = .bool true ∧ H' = H) H := by
  obtain ⟨t, ht⟩ : ∃ t, (mk 3 l0).2.1 = t := ⟨_, rfl⟩
  obtain ⟨s, hs⟩ : ∃ s, txt l1 m1 = s := ⟨_, rfl⟩
  have hms := txt_mem hu1 m1
  have hls := txt_len l1 m1
  have hsm := mk_small (Nat.le_refl 3) l0
  rw [hs] at hms hls
  rw [ht] at hsm
  have hus : U8s s := fun x hx => by have := hms x hx; omega
  have hvt : ∀ {W : World → Prop} {v : Nv}, Tr W (mk 3 l0).2.1 v → Tr W t v := fun h => ht ▸ h
  have hHN : ∀ N : List Chunk, H.Sublist (H ++ N) := fun N => List.sublist_append_left H N
  have e24 : Value.int .i64 (((strOfNums s).size : Nat) : Int) = .int .i64 ((s.length : Nat) : Int) := by rw [str_len]
  refine TCall_intro (args := [_, _]) Try.func8 rfl Try.ntmps8 (Nat.le_of_ble_eq_true rfl) ?_
  refine T_seq ?_
  refine T_region ?_
  refine TL_p (PV_assign rfl) ?_
  refine TL_nil ?_
  refine T_seq ?_
  refine T_seq ?_
  refine T_region ?_
  refine TL_cons rfl (TO_call0 call25 rfl rfl (awake07s) ?_)
  rintro v11_3 H11_3 ⟨rfl, rfl⟩
  refine TL_p (PV_not rfl) ?_
  refine TL_nil ?_
  refine T_else rfl (by rfl) ?_
  refine T_skip ?_
  refine T_seq ?_
  refine T_region ?_
  refine TL_p (PV_move rfl) ?_
  refine TL_cons rfl (TO_mk (d := 3) (by omega) hS0 hm0 hc0 hl0 hu0 rfl rfl fun v15 N15 hv15 => ?_)
  refine TL_p (PV_move rfl) ?_
  refine TL_p (PV_extract rfl rfl) ?_
  refine TL_p (PV_extract rfl rfl) ?_
  refine TL_cons rfl (TO_alloc rfl zr30 fun g5 => ?_)
  refine TL_p (PV_assign rfl) ?_
  refine TL_cons rfl (TO_store 0 rfl rfl rfl sz30 rfl rfl rfl (all_one rfl) (by first | exact Nat.le_of_ble_eq_true rfl | (simp; done) | (simp; omega) | omega) ?_)
  refine TL_nil ?_
  refine T_seq ?_
  refine T_region ?_
  refine TL_p (PV_move rfl) ?_
  refine TL_cons rfl (TO_eqD call20 (Text_v hs (hS1.mono fun w h => h.sub ((hHN N15).trans (by repeat (first | exact Sb.r | exact Sb.ar | exact Sb.al | apply Sb.d | refine Sb.t ?_)))) hm1 hl1 hc1 hu1) rfl rfl _ (List.Sublist.refl _) ?_)
  refine TL_p (PV_assign rfl) ?_
  refine TL_nil ?_
  refine T_seq ?_
  refine T_region ?_
  refine TL_p (PV_loadAt Try.underlying30 rfl sz30 rfl (Rds.take 0 rfl rfl rfl)) ?_
  refine TL_cons rfl (TO_Of ((hvt hv15).mono fun w h => h.sub (by repeat (first | exact Sb.r | exact Sb.ar | exact Sb.al | apply Sb.d | refine Sb.t ?_))) (by omega) (by omega) rfl rfl fun g21 N21 hT21 => ?_)
  refine TL_p (PV_assign rfl) ?_
  refine TL_nil ?_
  refine T_seq ?_
  refine T_region ?_
  refine TL_p (PV_assign rfl) ?_
  refine TL_nil ?_
  refine T_seq ?_
  refine T_seq ?_
  refine T_region ?_
  refine TL_p (PV_assign rfl) ?_
  refine TL_nil ?_
  refine T_block ?_
  refine ?L1
  case L1 =>
    refine T_addNil 1 ?_
    refine T_loopP3 (fun (k : Nat) (A : Option Addr) (c : Nat) => k ≤ s.length ∧ (atL t s k).length ≤ c) (fun k _ _ => s.length - k) (fun k A c => [(7, .string (strOfNums s)), (8, .pointer (some ⟨g21, 0, none⟩)), (9, .slice A (atL t s k).length c), (10, .int .i64 (k : Int))]) (fun k A c => .sl (.slice A (atL t s k).length c) 1 (atL t s k).length (bools (atL t s k)) :: ((H ++ N15) ++ N21)) 0 none 0 ⟨Nat.zero_le _, Nat.le_refl _⟩ (by repeat (first | exact FrSub.nil _ | refine FrSub.cons rfl ?_)) (Has.of_sub (by repeat (first | exact Sb.r | exact Sb.ar | exact Sb.al | apply Sb.c | apply Sb.d | refine Sb.t ?_))) ?_
    rintro k A c ⟨hk, hc⟩
    have hle := atL_le t s k
    by_cases hkl : k < s.length
    · have e27 : Value.int .i64 (IntKind.i64.wrap ((k : Int) + 1)) = .int .i64 ((k + 1 : Nat) : Int) := wr64n _ (by push_cast; rfl) (by omega)
      have hx := hus.at_ (k : Int)
      have hl := atL_len t s (k + 1) (by omega)
      have hsv : stepL t (atL t s k) (rd s (k : Int)).toNat ((k : Int) == 0) = atL t s (k + 1) := by
        show _ = stepL t (atL t s k) (rd s (k : Int)).toNat (decide (k = 0))
        congr 1
        rw [Bool.eq_iff_iff, beq_iff_eq, decide_eq_true_eq]
        omega
      have hst := fun {X : List Chunk} (hT : Tab (WH w0 B X) g21 t) (hS : Shows (WH w0 B X) A (atL t s k).length 1 (bools (atL t s k))) => Step_t (w0 := w0) (B := B) (H := X) hT (by omega) hS rfl hc (by omega) (cb := (rd s (k : Int)).toNat) (by omega) ((k : Int) == 0)
      rw [hsv, show (((rd s (k : Int)).toNat : Nat) : Int) = rd s (k : Int) by omega] at hst
      have hen := fun {X : List Chunk} {A' : Option Addr} {c' : Nat} (hT : Tab (WH w0 B X) g21 t) (hS : Shows (WH w0 B X) A' (pl t) 1 (bools (atL t s (k + 1)))) (hc : pl t ≤ c') => Ends_t' (w0 := w0) (B := B) (H := X) hT (by omega) hS hl hc (by omega)
      have hfi := fun {X : List Chunk} (hT : Tab (WH w0 B X) g21 t) => Fits_v (w0 := w0) (B := B) (H := X) hT (by omega) (hus.take (k + 1)) (by rw [List.length_take]; omega) rfl (fits_step hkl)
      have e49 : Value.string ((strOfNums s).extract 0 (k + 1)) = .string (strOfNums (s.take (k + 1))) := by rw [str_take']
      have hz := str_len s
      refine T_seq ?_
      refine T_seq ?_
      refine T_region ?_
      refine TL_p (PV_move rfl) ?_
      refine TL_p (PV_move rfl) ?_
      refine TL_p (PV.cast (PV_len_string Try.underlying9 rfl) e24) ?_
      refine TL_p (PV_bin rfl rfl bin_lss) ?_
      refine TL_nil ?_
      refine T_then rfl (by exact decide_eq_true (by omega)) ?_
      refine T_skip ?_
      refine T_seq ?_
      refine T_block ?_
      refine T_seq ?_
      refine T_region ?_
      refine TL_p (PV_move rfl) ?_
      refine TL_p (PV_move rfl) ?_
      refine TL_p (PV_move rfl) ?_
      refine TL_p (PV_move rfl) ?_
      refine TL_p (PV_indexNums Try.underlying9 rfl rfl rfl hus hkl) ?_
      refine TL_p (PV_move rfl) ?_
      refine TL_p (PV_bin rfl rfl bin_eql) ?_
      refine TL_perm ((perm_pick (i := 0) rfl).trans (List.Perm.cons _ (List.Perm.refl _))) ?_
      refine TL_cons rfl (TO_call0 call32 rfl rfl ((hst (hT21.mono fun w h => h.sub (by repeat (first | exact Sb.r | exact Sb.ar | exact Sb.al | apply Sb.d | refine Sb.t ?_))) (Shows.at 0 rfl))) ?_)
      rintro v35_1002 H35_1002 ⟨g'_1002, rfl, rfl⟩
      refine TL_p (PV_assign rfl) ?_
      refine TL_nil ?_
      refine T_seq ?_
      refine T_drawn (WH _ _ _) mixed (fun w h => h) ?_
      refine TA_p 0 rfl (by kernel_rfl) (PV_move rfl) ?_
      refine TA_p 1 rfl (by kernel_rfl) (PV_len_slice Try.underlying55 rfl) ?_
      refine TA_p 2 rfl (by kernel_rfl) (PV_move rfl) ?_
      refine TA_one 3 (by kernel_rfl) rfl rfl (TO_eqD call30 (Len_t (hT21.mono fun w h => h.sub (by repeat (first | exact Sb.r | exact Sb.ar | exact Sb.al | apply Sb.d | refine Sb.t ?_)))) rfl rfl _ (List.Sublist.refl _) ?_)
      refine ⟨fun _ h => h, ?_⟩
      refine TA_p 4 rfl (by kernel_rfl) (PV_bin rfl rfl bin_neq) ?_
      refine TA_p 5 rfl (by kernel_rfl) (PV_move rfl) ?_
      refine TA_yes (dd := (some 42)) 6 rfl (by kernel_rfl) (by kernel_rfl) (by kernel_rfl) rfl rfl (gfalse (by (simp; done))) rfl rfl (PV_move rfl) ?_
      refine TA_yes (dd := (some 43)) 7 rfl (by kernel_rfl) (by kernel_rfl) (by kernel_rfl) rfl rfl (gfalse (by (simp; done))) rfl rfl (PV_move rfl) ?_
      refine TA_yes (dd := (some 45)) 9 rfl (by kernel_rfl) (by kernel_rfl) (by kernel_rfl) rfl rfl (gfalse (by (simp; done))) rfl rfl (PV_move rfl) ?_
      refine TA_yes (dd := (some 46)) 10 rfl (by kernel_rfl) (by kernel_rfl) (by kernel_rfl) rfl rfl (gfalse (by (simp; done))) rfl rfl (PV_move rfl) ?_
      refine TA_yes (dd := (some 47)) 11 rfl (by kernel_rfl) (by kernel_rfl) (by kernel_rfl) rfl rfl (gfalse (by (simp; done))) rfl rfl (PV_move rfl) ?_
      refine TA_yes (dd := (some 48)) 12 rfl (by kernel_rfl) (by kernel_rfl) (by kernel_rfl) rfl rfl (gfalse (by (simp; done))) rfl rfl (PV.cast (PV_bin rfl rfl bin_add) e27) ?_
      refine TA_yes (dd := (some 49)) 13 rfl (by kernel_rfl) (by kernel_rfl) (by kernel_rfl) rfl rfl (gfalse (by (simp; done))) rfl rfl (PV.cast (PV_sliceStr (l := 0) (h := k + 1) Try.underlying9 rfl rfl ⟨_, rfl⟩ (by omega) (by omega)) e49) ?_
      refine TA_oneYes 8 (by kernel_rfl) rfl rfl rfl (gfalse (by (simp; done))) (TO_eqD call33 (hen (hT21.mono fun w h => h.sub (by repeat (first | exact Sb.r | exact Sb.ar | exact Sb.al | apply Sb.d | refine Sb.t ?_))) (Shows.at 0 rfl) (Nat.le_refl _)) rfl rfl _ (List.Sublist.refl _) ?_)
      refine ⟨fun _ h => h, ?_⟩
      refine TA_oneYes 14 (by kernel_rfl) rfl rfl rfl (gfalse (by (simp; done))) (TO_eqD call27 (hfi (hT21.mono fun w h => h.sub (by repeat (first | exact Sb.r | exact Sb.ar | exact Sb.al | apply Sb.d | refine Sb.t ?_)))) rfl rfl _ (List.Sublist.refl _) ?_)
      refine ⟨fun _ h => h, ?_⟩
      refine TA_yes (dd := (some 51)) 15 rfl (by kernel_rfl) (by kernel_rfl) (by kernel_rfl) rfl rfl (gfalse (by (simp; done))) rfl rfl (PV_bin rfl rfl (bin_bool_neq Try.underlying4)) ?_
      refine TA_p 16 rfl (by kernel_rfl) (PV_pickOr rfl rfl rfl) ?_
      refine TA_done (by kernel_rfl) ?_
      refine T_else rfl (by (simp; done)) ?_
      refine T_skip ?_
      refine T_region ?_
      refine TL_p (PV_move rfl) ?_
      refine TL_p (PV.cast (PV_bin rfl rfl bin_add) e27) ?_
      refine TL_p (PV_assign rfl) ?_
      refine TL_nil ?_
      refine ?L11
      case L11 =>
        refine ⟨k + 1, some ⟨g'_1002, 0, none⟩, pl t, ⟨by omega, by rw [hl]; exact Nat.le_refl _⟩, by omega, ?_, ?_⟩
        · rw [hl]
          exact (by repeat (first | exact FrSub.nil _ | refine FrSub.cons rfl ?_))
        · rw [hl]
          exact Has.of_sub (by repeat (first | exact Sb.r | exact Sb.ar | exact Sb.al | apply Sb.c | apply Sb.d | refine Sb.t ?_))
    · obtain rfl : k = s.length := by omega
      have hen := fun {X : List Chunk} (hT : Tab (WH w0 B X) g21 t) => Ends_t' (w0 := w0) (B := B) (H := X) (A := none) (m := 0) (c := 0) (at_ := []) hT (by omega) (fun w hw => ⟨rfl, fun j v hj => by simp [bools] at hj⟩) rfl (Nat.le_refl _) (by omega)
      refine T_seq ?_
      refine T_seq ?_
      refine T_region ?_
      refine TL_p (PV_move rfl) ?_
      refine TL_p (PV_move rfl) ?_
      refine TL_p (PV.cast (PV_len_string Try.underlying9 rfl) e24) ?_
      refine TL_p (PV_bin rfl rfl bin_lss) ?_
      refine TL_nil ?_
      refine T_else rfl (by (simp; done)) ?_
      refine T_exit ?_
      refine T_seq ?_
      refine T_region ?_
      refine TL_p (PV_move rfl) ?_
      refine TL_cons rfl (TO_eqD call33 (hen (hT21.mono fun w h => h.sub (by repeat (first | exact Sb.r | exact Sb.ar | exact Sb.al | apply Sb.d | refine Sb.t ?_)))) rfl rfl _ (List.Sublist.refl _) ?_)
      refine TL_p (PV_not rfl) ?_
      refine TL_p (PV_assign rfl) ?_
      refine TL_nil ?_
      refine T_ret ?_
      refine ret_ret (ResV_one rfl rfl) ⟨_, ?zb2002q71, ⟨rfl, rfl⟩⟩
      case zb2002q71 => exact (by (repeat (first | exact Sb.r | exact Sb.ar | exact Sb.al | apply Sb.c | apply Sb.d | refine Sb.t ?_)); done)
end
end Go.Proofs.Ytkgdphbccagjcaa.SL
