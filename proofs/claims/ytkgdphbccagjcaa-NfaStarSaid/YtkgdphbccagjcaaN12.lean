import Derived.Test.YtkgdphbccagjcaaN7
/- Texts that fit a pattern fit its star: the law. No statement is proved here. -/
set_option linter.unusedVariables false
set_option linter.unusedSimpArgs false
set_option maxRecDepth 100000
set_option maxHeartbeats 8000000
namespace Go.Proofs.Ytkgdphbccagjcaa.SL
open Go Go.RowKit
def reps (s : List Int) : Nat → List Int
  | 0 => []
  | k + 1 => reps s k ++ s
theorem reps_len (s : List Int) : ∀ k, (reps s k).length = k * s.length
  | 0 => by simp [reps]
  | k + 1 => by show (reps s k ++ s).length = _; rw [List.length_append, reps_len s k, Nat.add_mul, Nat.one_mul]
theorem reps_mem {s : List Int} {x : Int} : ∀ {k : Nat}, x ∈ reps s k → x ∈ s
  | 0, h => by simp [reps] at h
  | k + 1, h => by
    rcases List.mem_append.1 h with h | h
    · exact reps_mem h
    · exact h
theorem reps_fits {t : Rx} {s : List Int} (h : fitsT t s = true) : ∀ (k : Nat), fitsT (.star t) (reps s k) = true
  | 0 => rfl
  | k + 1 => fitsT_iff.2 ((fitsT_iff.1 (reps_fits h k)).starApp rfl (fitsT_iff.1 h))
section
variable {w0 : World} {B : Nat} {H X : List Chunk}
theorem NfaStar_t {A0 A1 : Option Addr} {m0 m1 c0 c1 : Nat} {l0 l1 : List Int} (mn : Nat) (hmn : mn ≤ 255) (hS0 : Shows (WH w0 B H) A0 m0 1 (nums .u8 l0)) (hm0 : l0.length = m0) (hl0 : m0 ≤ 4611686018427387904) (hc0 : m0 ≤ c0) (hu0 : U8s l0) (hS1 : Shows (WH w0 B H) A1 m1 1 (nums .u8 l1)) (hm1 : l1.length = m1) (hl1 : m1 ≤ 4611686018427387904) (hc1 : m1 ≤ c1) (hu1 : U8s l1) :
    TCall Try.prog w0 B 10 #[.slice A0 m0 c0, .int .u8 (mn : Int), .slice A1 m1 c1] (fun r H' => r = .bool true ∧ H' = H) H := by
  obtain ⟨t, ht⟩ : ∃ t, (mk 2 l0).2.1 = t := ⟨_, rfl⟩
  obtain ⟨s, hs⟩ : ∃ s, txt l1 m1 = s := ⟨_, rfl⟩
  have hms := txt_mem hu1 m1
  have hls := txt_len l1 m1
  have hsm := mk_small (d := 2) (by omega) l0
  rw [hs] at hms hls
  rw [ht] at hsm
  have hus : U8s s := fun x hx => by have := hms x hx; omega
  have hvt : ∀ {W : World → Prop} {v : Nv}, Tr W (mk 2 l0).2.1 v → Tr W t v := fun h => ht ▸ h
  have hHN : ∀ N : List Chunk, H.Sublist (H ++ N) := fun N => List.sublist_append_left H N
  have hpp : pl t * pl t ≤ 8 * 8 := Nat.mul_le_mul hsm.1 hsm.1
  refine TCall_intro (args := [_, _, _]) Try.func10 rfl Try.ntmps10 (Nat.le_of_ble_eq_true rfl) ?_
  refine T_seq ?_
  refine T_region ?_
  refine TL_p (PV_assign rfl) ?_
  refine TL_nil ?_
  refine T_seq ?_
  refine T_seq ?_
  refine T_region ?_
  refine TL_cons rfl (TO_call0 call25 rfl rfl (awake07s) ?_)
  rintro v14_3 H14_3 ⟨rfl, rfl⟩
  refine TL_p (PV_not rfl) ?_
  refine TL_nil ?_
  refine T_else rfl (by rfl) ?_
  refine T_skip ?_
  refine T_seq ?_
  refine T_region ?_
  refine TL_p (PV_move rfl) ?_
  refine TL_cons rfl (TO_mk (d := 2) (by omega) hS0 hm0 hc0 hl0 hu0 rfl rfl fun v18 N18 hv18 => ?_)
  refine TL_p (PV_move rfl) ?_
  refine TL_p (PV_extract rfl rfl) ?_
  refine TL_p (PV_extract rfl rfl) ?_
  refine TL_cons rfl (TO_alloc rfl zr30 fun g5 => ?_)
  refine TL_p (PV_assign rfl) ?_
  refine TL_cons rfl (TO_store 0 rfl rfl rfl sz30 rfl rfl rfl (all_one rfl) (by first | exact Nat.le_of_ble_eq_true rfl | (simp; done) | (simp; omega) | omega) ?_)
  refine TL_nil ?_
  refine T_seq ?_
  refine T_region ?_
  refine TL_p (PV_move rfl) ?_
  refine TL_cons rfl (TO_eqD call20 (Text_v hs (hS1.mono fun w h => h.sub ((hHN N18).trans (by repeat (first | exact Sb.r | exact Sb.ar | exact Sb.al | apply Sb.d | refine Sb.t ?_)))) hm1 hl1 hc1 hu1) rfl rfl _ (List.Sublist.refl _) ?_)
  refine TL_p (PV_assign rfl) ?_
  refine TL_nil ?_
  refine T_seq ?_
  refine ?L1
  case L1 =>
    have hv2 := hvt hv18
    refine T_midR (fun f h => ∃ (g24 g28 : Nat) (Z : List Chunk), FrSub [(1, .int .u8 (mn : Int)), (9, .string (strOfNums s)), (10, .pointer (some ⟨g24, 0, none⟩)), (11, .pointer (some ⟨g28, 0, none⟩))] f ∧ Has h Z ∧ H.Sublist Z ∧ Tab (WH w0 B Z) g24 t ∧ Tab (WH w0 B Z) g28 (.star t)) ?_ ?_
    · refine T_drawn (WH _ _ _) mixed (fun w h => h) ?_
      refine TA_p 0 rfl (by kernel_rfl) (PV_loadAt Try.underlying30 rfl sz30 rfl (Rds.take 0 rfl rfl rfl)) ?_
      refine TA_p 2 rfl (by kernel_rfl) (PV_loadAt Try.underlying30 rfl sz30 rfl (Rds.take 0 rfl rfl rfl)) ?_
      refine TA_hardG (rs := [1, 3]) (by kernel_rfl) (by decide) ?_
      refine List.forall_mem_cons.2 ⟨?w1001q47_1, List.forall_mem_cons.2 ⟨?w1001q47_3, by simp⟩⟩
      refine ⟨_, rfl, Or.inl rfl, (TO_Of (hv2.mono fun w h => h.sub (by repeat (first | exact Sb.r | exact Sb.ar | exact Sb.al | apply Sb.d | refine Sb.t ?_))) (by omega) (by omega) rfl rfl fun g24 N24 hT24 => ?_)⟩
      refine ⟨fun _ h => h.sub (by (repeat (first | exact Sb.r | exact Sb.ar | exact Sb.al | apply Sb.d | refine Sb.t ?_)); done), ?_⟩
      refine TA_one 3 (by kernel_rfl) rfl rfl (TO_bs (cs := [_, _, _, _, _, _]) Try.underlying28 zs30 (by decide) rfl rfl rfl rfl rfl rfl fun g1004 => ?_)
      refine ⟨fun _ h => h.sub (by (repeat (first | exact Sb.r | exact Sb.ar | exact Sb.al | apply Sb.d | refine Sb.t ?_)); done), ?_⟩
      refine TA_p 4 rfl (by kernel_rfl) (PV_bld (cs := [_, _, _, _, _, _]) Try.underlying30 pl30 zr30 rfl rfl) ?_
      refine TA_one 5 (by kernel_rfl) rfl rfl (TO_Of (t := .star t) (v := ⟨4, S4.zero, some ⟨_, 0, none⟩, 1, 1⟩) ⟨_, _, v18, rfl, Nat.le_refl _, Shows.cast rfl (Shows.at 0 rfl), hv2.mono fun w h => h.sub (by repeat (first | exact Sb.r | exact Sb.ar | exact Sb.al | apply Sb.d | refine Sb.t ?_))⟩ (by simp only [nx]; omega) (by simp only [pl]; omega) rfl rfl fun g28 N28 hT28 => ?_)
      refine ⟨fun _ h => h.sub (by (repeat (first | exact Sb.r | exact Sb.ar | exact Sb.al | apply Sb.c | apply Sb.d | refine Sb.t ?_)); done), ?_⟩
      refine TA_p 6 rfl (by kernel_rfl) (PV_assign rfl) ?_
      refine TA_p 7 rfl (by kernel_rfl) (PV_assign rfl) ?_
      refine TA_done (by kernel_rfl) ?_
      refine ?L11
      rotate_left 1
      refine ⟨_, rfl, Or.inl rfl, (TO_bs (cs := [_, _, _, _, _, _]) Try.underlying28 zs30 (by decide) rfl rfl rfl rfl rfl rfl fun g1003 => ?_)⟩
      refine ⟨fun _ h => h.sub (by (repeat (first | exact Sb.r | exact Sb.ar | exact Sb.al | apply Sb.d | refine Sb.t ?_)); done), ?_⟩
      refine TA_p 4 rfl (by kernel_rfl) (PV_bld (cs := [_, _, _, _, _, _]) Try.underlying30 pl30 zr30 rfl rfl) ?_
      refine TA_one 1 (by kernel_rfl) rfl rfl (TO_Of (hv2.mono fun w h => h.sub (by repeat (first | exact Sb.r | exact Sb.ar | exact Sb.al | apply Sb.d | refine Sb.t ?_))) (by omega) (by omega) rfl rfl fun g24 N24 hT24 => ?_)
      refine ⟨fun _ h => h.sub (by (repeat (first | exact Sb.r | exact Sb.ar | exact Sb.al | apply Sb.d | refine Sb.t ?_)); done), ?_⟩
      refine TA_one 5 (by kernel_rfl) rfl rfl (TO_Of (t := .star t) (v := ⟨4, S4.zero, some ⟨_, 0, none⟩, 1, 1⟩) ⟨_, _, v18, rfl, Nat.le_refl _, Shows.cast rfl (Shows.at 0 rfl), hv2.mono fun w h => h.sub (by repeat (first | exact Sb.r | exact Sb.ar | exact Sb.al | apply Sb.d | refine Sb.t ?_))⟩ (by simp only [nx]; omega) (by simp only [pl]; omega) rfl rfl fun g28 N28 hT28 => ?_)
      refine ⟨fun _ h => h.sub (by (repeat (first | exact Sb.r | exact Sb.ar | exact Sb.al | apply Sb.c | apply Sb.d | refine Sb.t ?_)); done), ?_⟩
      refine TA_p 6 rfl (by kernel_rfl) (PV_assign rfl) ?_
      refine TA_p 7 rfl (by kernel_rfl) (PV_assign rfl) ?_
      refine TA_done (by kernel_rfl) ?_
      refine ?L12
      all_goals exact ⟨_, _, _, (by repeat (first | exact FrSub.nil _ | refine FrSub.cons rfl ?_)), ⟨_, List.Perm.refl _, List.Sublist.refl _⟩, (hHN N18).trans (by repeat (first | exact Sb.r | exact Sb.ar | exact Sb.al | apply Sb.d | refine Sb.t ?_)), hT24.mono fun w h => h.sub (by repeat (first | exact Sb.r | exact Sb.ar | exact Sb.al | apply Sb.d | refine Sb.t ?_)), hT28.mono fun w h => h.sub (by repeat (first | exact Sb.r | exact Sb.ar | exact Sb.al | apply Sb.d | refine Sb.t ?_))⟩
    · rintro f h ⟨g24, g28, Z, hf, ⟨hh, hp, hz⟩, hHZ, hT1, hT2⟩
      refine T.weaken hf (T.perm hp (T.drop hz ?_))
      have hem : TCall Try.prog w0 B 29 [.pointer (some ⟨g28, 0, none⟩)].toArray (fun r H' => r = .bool true ∧ H' = Z) Z := Empty_t (t := .star t) hT2
      have hle : TCall Try.prog w0 B 30 [.pointer (some ⟨g28, 0, none⟩)].toArray (fun r H' => r = .int .i64 ((pl t : Nat) : Int) ∧ H' = Z) Z := Len_t (t := .star t) hT2
      cases hq : fitsT t s with
      | false =>
        have hfi := fun {X : List Chunk} (hT : Tab (WH w0 B X) g24 t) => Fits_v (w0 := w0) (B := B) (H := X) hT (by omega) hus (by omega) rfl hq
        refine T_seq ?_
        refine T_seq ?_
        refine T_region ?_
        refine TL_p (PV_move rfl) ?_
        refine TL_cons rfl (TO_eqD call29 hem rfl rfl Z (List.Sublist.refl _) ?_)
        refine TL_p (PV_not rfl) ?_
        refine TL_p (PV_move rfl) ?_
        refine TL_yes rfl rfl rfl (TO_pure rfl (PV_move rfl) ?_)
        refine TL_yes rfl rfl rfl (TO_eqD call30 (Len_t hT1) rfl rfl Z (List.Sublist.refl _) ?_)
        refine TL_yes rfl rfl rfl (TO_pure rfl (PV_move rfl) ?_)
        refine TL_yes rfl rfl rfl (TO_eqD call30 hle rfl rfl Z (List.Sublist.refl _) ?_)
        refine TL_yes rfl rfl rfl (TO_pure rfl (PV_bin rfl rfl bin_neq) ?_)
        refine TL_p (PV_pickOr rfl rfl rfl) ?_
        refine TL_nil ?_
        refine T_else rfl (by (simp; done)) ?_
        refine T_skip ?_
        refine T_seq ?_
        refine T_seq ?_
        refine T_region ?_
        refine TL_p (PV_move rfl) ?_
        refine TL_p (PV_move rfl) ?_
        refine TL_cons rfl (TO_eqD call27 (hfi hT1) rfl rfl H hHZ ?_)
        refine TL_p (PV_not rfl) ?_
        refine TL_nil ?_
        refine T_then rfl (by rfl) ?_
        refine T_seq ?_
        refine T_region ?_
        refine TL_p (PV_assign rfl) ?_
        refine TL_nil ?_
        refine T_ret ?_
        refine ret_ret (ResV_one rfl rfl) ⟨_, List.Sublist.refl _, ⟨rfl, rfl⟩⟩
      | true =>
        have hfi := fun {X : List Chunk} (hT : Tab (WH w0 B X) g24 t) => Fits_v (w0 := w0) (B := B) (H := X) hT (by omega) hus (by omega) rfl hq
        have e45 : Value.int .u8 ((mn : Int).tmod 5) = .int .u8 ((mn % 5 : Nat) : Int) := rfl
        have e46 : Value.int .i64 (IntKind.i64.wrap ((mn % 5 : Nat) : Int)) = .int .i64 ((mn % 5 : Nat) : Int) := wr64n _ rfl (by omega)
        have h55 : strOfNums (reps s 0) = ⟨#[]⟩ := rfl
        refine T_seq ?_
        refine T_seq ?_
        refine T_region ?_
        refine TL_p (PV_move rfl) ?_
        refine TL_cons rfl (TO_eqD call29 hem rfl rfl Z (List.Sublist.refl _) ?_)
        refine TL_p (PV_not rfl) ?_
        refine TL_p (PV_move rfl) ?_
        refine TL_yes rfl rfl rfl (TO_pure rfl (PV_move rfl) ?_)
        refine TL_yes rfl rfl rfl (TO_eqD call30 (Len_t hT1) rfl rfl Z (List.Sublist.refl _) ?_)
        refine TL_yes rfl rfl rfl (TO_pure rfl (PV_move rfl) ?_)
        refine TL_yes rfl rfl rfl (TO_eqD call30 hle rfl rfl Z (List.Sublist.refl _) ?_)
        refine TL_yes rfl rfl rfl (TO_pure rfl (PV_bin rfl rfl bin_neq) ?_)
        refine TL_p (PV_pickOr rfl rfl rfl) ?_
        refine TL_nil ?_
        refine T_else rfl (by (simp; done)) ?_
        refine T_skip ?_
        refine T_seq ?_
        refine T_seq ?_
        refine T_region ?_
        refine TL_p (PV_move rfl) ?_
        refine TL_p (PV_move rfl) ?_
        refine TL_cons rfl (TO_eqD call27 (hfi hT1) rfl rfl Z (List.Sublist.refl _) ?_)
        refine TL_p (PV_not rfl) ?_
        refine TL_nil ?_
        refine T_else rfl (by rfl) ?_
        refine T_skip ?_
        refine T_seq ?_
        refine T_region ?_
        refine TL_p (PV_assign rfl) ?_
        refine TL_nil ?_
        refine T_seq ?_
        refine T_seq ?_
        refine T_region ?_
        refine TL_p (PV_assign rfl) ?_
        refine TL_nil ?_
        refine T_block ?_
        refine ?L31
        case L31 =>
          refine T_loopP1 (fun (k : Nat) => k ≤ mn % 5) (fun k => mn % 5 - k) (fun k => [(1, .int .u8 (mn : Int)), (9, .string (strOfNums s)), (11, .pointer (some ⟨g28, 0, none⟩)), (12, .string (strOfNums (reps s k))), (13, .int .i64 (k : Int))]) (fun k => Z) 0 (Nat.zero_le _) (by repeat (first | exact FrSub.nil _ | refine FrSub.cons rfl ?_)) (Has.of_sub (by repeat (first | exact Sb.r | exact Sb.ar | exact Sb.al | apply Sb.c | apply Sb.d | refine Sb.t ?_))) ?_
          intro k hk
          have hlr := reps_len s k
          have hlb : k * s.length ≤ 4 * 14 := Nat.mul_le_mul (by omega) (by omega)
          by_cases hkl : k < mn % 5
          · have e49 : Value.int .i64 (IntKind.i64.wrap ((k : Int) + 1)) = .int .i64 ((k + 1 : Nat) : Int) := wr64n _ (by push_cast; rfl) (by omega)
            refine T_seq ?_
            refine T_seq ?_
            refine T_region ?_
            refine TL_p (PV_move rfl) ?_
            refine TL_p (PV_move rfl) ?_
            refine TL_p (PV.cast (PV_bin rfl rfl (bin_rem (by decide))) e45) ?_
            refine TL_p (PV.cast (PV_conv (by rw [Try.underlying5]; rfl) Try.underlying3 rfl) e46) ?_
            refine TL_p (PV_bin rfl rfl bin_lss) ?_
            refine TL_nil ?_
            refine T_then rfl (by exact decide_eq_true (by omega)) ?_
            refine T_skip ?_
            refine T_seq ?_
            refine T_block ?_
            refine T_region ?_
            refine TL_p (PV_move rfl) ?_
            refine TL_p (PV_move rfl) ?_
            refine TL_p (PV_bin rfl rfl (bin_cat rfl rfl (by omega))) ?_
            refine TL_p (PV_assign rfl) ?_
            refine TL_nil ?_
            refine T_region ?_
            refine TL_p (PV_move rfl) ?_
            refine TL_p (PV.cast (PV_bin rfl rfl bin_add) e49) ?_
            refine TL_p (PV_assign rfl) ?_
            refine TL_nil ?_
            refine ?L41
            case L41 => exact ⟨k + 1, by omega, by omega, (by repeat (first | exact FrSub.nil _ | refine FrSub.cons rfl ?_)), Has.of_sub (by repeat (first | exact Sb.r | exact Sb.ar | exact Sb.al | apply Sb.c | apply Sb.d | refine Sb.t ?_))⟩
          · obtain rfl : k = mn % 5 := by omega
            have hfr := fun {X : List Chunk} (hT : Tab (WH w0 B X) g28 (.star t)) => Fits_v (w0 := w0) (B := B) (H := X) hT (by simp only [pl]; omega) (fun x hx => hus x (reps_mem hx)) (by omega) rfl (reps_fits hq (mn % 5))
            refine T_seq ?_
            refine T_seq ?_
            refine T_region ?_
            refine TL_p (PV_move rfl) ?_
            refine TL_p (PV_move rfl) ?_
            refine TL_p (PV.cast (PV_bin rfl rfl (bin_rem (by decide))) e45) ?_
            refine TL_p (PV.cast (PV_conv (by rw [Try.underlying5]; rfl) Try.underlying3 rfl) e46) ?_
            refine TL_p (PV_bin rfl rfl bin_lss) ?_
            refine TL_nil ?_
            refine T_else rfl (by (simp; done)) ?_
            refine T_exit ?_
            refine T_seq ?_
            refine T_region ?_
            refine TL_p (PV_move rfl) ?_
            refine TL_p (PV_move rfl) ?_
            refine TL_cons rfl (TO_eqD call27 (hfr hT2) rfl rfl H hHZ ?_)
            refine TL_p (PV_assign rfl) ?_
            refine TL_nil ?_
            refine T_ret ?_
            refine ret_ret (ResV_one rfl rfl) ⟨_, List.Sublist.refl _, ⟨rfl, rfl⟩⟩
end
end Go.Proofs.Ytkgdphbccagjcaa.SL
