import Derived.Test.YtpfcpookdocikaaS1
/- Blocks numbered; a sender made. No statement is proved here. -/
set_option linter.unusedVariables false
set_option linter.unusedSimpArgs false
set_option maxRecDepth 100000
namespace Go.Proofs.Ytpfcpookdocikaa.SL
open Go Go.RowKit
section
variable {w0 : World} {B : Nat} {H X : List Chunk}
theorem t89 (a b : Int) : TCall Try.prog w0 B 18 #[.agg #[.int .i64 a, .int .i64 b]] (fun r H' => r = .agg #[.int .i64 (max 1 (min a 9)), .int .i64 (max 1 (min b 99))] ∧ H' = H) H := by
  refine TCall_intro (args := [_]) Try.func18 rfl Try.ntmps18 (Nat.le_of_ble_eq_true rfl) ?_
  refine T_seq ?_
  refine T_region ?_
  refine TL_cons rfl (TO_box rfl rfl fun g1 => ?_)
  refine TL_cons rfl (TO_alloc rfl zr31 fun g2 => ?_)
  refine TL_nil ?_
  refine T_seq ?_
  refine T_region ?_
  refine TL_p (PV_fieldAddr (D := 0) Try.underlying31 rfl sz3 (by decide) rfl rfl) ?_
  refine TL_p (PV_load Try.underlying3 rfl rfl (Rd.at 1 rfl rfl)) ?_
  refine TL_p (PV_min rfl rfl) ?_
  refine TL_p (PV_max rfl rfl) ?_
  refine TL_p (PV_fieldAddr (D := 1) Try.underlying31 rfl sz3 (by decide) rfl rfl) ?_
  refine TL_p (PV_load Try.underlying3 rfl rfl (Rd.at 1 rfl rfl)) ?_
  refine TL_p (PV_min rfl rfl) ?_
  refine TL_p (PV_max rfl rfl) ?_
  refine TL_p (PV_bld (cs := [_, _]) Try.underlying31 pl31 zr31 rfl rfl) ?_
  refine TL_cons rfl (TO_store 0 rfl rfl rfl sz31 rfl rfl rfl (all_one rfl) (by first | exact Nat.le_of_ble_eq_true rfl | (simp; done) | (simp; omega) | omega) ?_)
  refine TL_nil ?_
  refine T_ret ?_
  refine ret_ret (ResV_c rfl Try.underlying31 rfl sz31 rfl (Rds.take 0 rfl rfl rfl)) ⟨_, ?zb4q12, ⟨rfl, rfl⟩⟩
  case zb4q12 => exact (by (repeat (first | exact Sb.r | exact Sb.ar | exact Sb.al | apply Sb.c | apply Sb.d | refine Sb.t ?_)); done)
theorem t53 {A : Option Addr} {m c : Nat} {ps : List Part} (hS : Shows (WH w0 B H) A m 1 (ps.map pVal)) (hP : ShowsAll (WH w0 B H) ps) (hm : ps.length = m) (hm2 : m ≤ 4398046511104) (hb : ∀ p ∈ ps, p.2.2.length ≤ 140737488355328) (hc : m ≤ c) :
    TCall Try.prog w0 B 6 #[.slice A m c] (fun r H' => ∃ (A' : Option Addr) (c' : Nat) (N : List Chunk), r = .slice A' m c' ∧ SBlk (WH w0 B (H ++ N)) A' c' (ps.map (·.2.2)) ∧ H' = H ++ N) H := by
  refine TCall_intro (args := [_]) Try.func6 rfl Try.ntmps6 (Nat.le_of_ble_eq_true rfl) ?_
  refine T_addNil 2 ?_
  refine T_seq ?_
  refine T_region ?_
  refine TL_p (PV_assign rfl) ?_
  refine TL_nil ?_
  refine T_seq ?_
  refine T_region ?_
  refine TL_p (PV_assign rfl) ?_
  refine TL_nil ?_
  refine T_seq ?_
  refine T_seq ?_
  refine T_region ?_
  refine TL_p (PV_move rfl) ?_
  refine TL_p (PV_len_slice Try.underlying22 rfl) ?_
  refine TL_p (PV_move rfl) ?_
  refine TL_nil ?_
  refine T_block ?_
  refine ?L1
  case L1 =>
    refine T_loopP5 (fun (i : Nat) (qs : List Part) (A' : Option Addr) (c' : Nat) (N : List Chunk) => i ≤ m ∧ qs.map (·.2.2) = (ps.take i).map (·.2.2) ∧ qs.length = i ∧ (∀ q ∈ qs, pCh q ∈ N ∧ q.2.2.length ≤ q.2.1) ∧ i ≤ c') (fun i _ _ _ _ => m - i) (fun i qs A' c' N => [(3, .slice A' i c'), (6, .slice A m c), (7, .int .i64 (m : Int)), (8, .int .i64 (i : Int))]) (fun i qs A' c' N => .sl (.slice A' i c') 2 i (bCells 0 qs) :: (N ++ H)) 0 [] none 0 [] ⟨by omega, rfl, rfl, by simp, by omega⟩ (by repeat (first | exact FrSub.nil _ | refine FrSub.cons rfl ?_)) (Has.of_sub (by repeat (first | exact Sb.r | exact Sb.ar | exact Sb.al | apply Sb.c | apply Sb.d | refine Sb.t ?_))) ?_
    rintro i qs A' c' N ⟨hi, hq, hql, hqN, hic⟩
    by_cases him : i < m
    · obtain ⟨p, hp⟩ : ∃ p, ps[i]? = some p := ⟨ps[i], List.getElem?_eq_getElem (by omega)⟩
      have hpm := List.mem_of_getElem? hp
      have hpP := hP p hpm
      have hpb := hb p hpm
      have hS2 := hS.mono (W' := WH w0 B (.sl (.slice A' i c') 2 i (bCells 0 qs) :: (N ++ H))) (fun w h => h.sub (by repeat (first | exact Sb.r | exact Sb.ar | exact Sb.al | apply Sb.d | refine Sb.t ?_)))
      refine T_shows hS2 (by rw [List.length_map]; omega) fun ga oa hA hrd => ?_
      subst hA
      obtain ⟨Ap, cp, xs⟩ := p
      have hpS := hpP.1
      have hpC := hpP.2
      dsimp only at hpS hpC hpb
      have hr : Rd _ ⟨ga, oa + i * 1, none⟩ (.slice Ap xs.length cp) := hrd (i * 1) _ (by rw [Nat.mul_one, List.getElem?_map, hp]; rfl)
      have hone := bCells_one 0 qs
      refine T_seq ?_
      refine T_region ?_
      refine TL_p (PV_bin rfl rfl bin_lss) ?_
      refine TL_nil ?_
      refine T_seq ?_
      refine T_then rfl (by exact decide_eq_true (by omega)) ?_
      refine T_skip ?_
      refine T_seq ?_
      refine T_block ?_
      refine T_seq ?_
      refine T_region ?_
      refine TL_p (PV_move rfl) ?_
      refine TL_p (PV_indexAddr Try.underlying22 sz26 rfl rfl rfl (by first | omega | decide | assumption)) ?_
      refine TL_p (PV_load Try.underlying26 rfl rfl hr) ?_
      refine TL_p (PV_assign rfl) ?_
      refine TL_p (PV_assign rfl) ?_
      refine TL_nil ?_
      refine T_region ?_
      refine TL_p (PV_move rfl) ?_
      refine TL_p (PV_move rfl) ?_
      refine TL_p (PV.cast (PV_bin rfl rfl bin_add) (wr64 (by omega))) ?_
      refine TL_p (PV.cast (PV_conv (by rw [Try.underlying3]; rfl) Try.underlying5 rfl) (wrapu8 (i + 1))) ?_
      refine TL_p (PV_move rfl) ?_
      refine TL_cons rfl (TO_appendNil Try.underlying26 zb5 rfl (by decide) rfl rfl rfl (Shows.mono hpS (fun w h => h.sub (by (repeat (first | exact Sb.r | exact Sb.ar | exact Sb.al | apply Sb.d | refine Sb.t ?_)); done))) ?oc101q33 ?bb101q33 ?bc101q33 fun A101 c101 hc101 => ?_)
      case oc101q33 => exact nums_one
      case bb101q33 => omega
      case bc101q33 => omega
      refine TL_p (PV_bld (cs := [_, _]) Try.underlying28 pl28 zr28 rfl rfl) ?_
      refine TL_cons rfl (TO_bs (cs := [_, _]) Try.underlying24 zs28 (by decide) rfl rfl rfl rfl rfl rfl fun g102 => ?_)
      refine TL_cons rfl (TO_append 2 rfl Try.underlying24 zb28 rfl (by decide) rfl rfl rfl (Shows.at 0 rfl) ?oc103q33 ?bb103q33 ?bc103q33 fun A103 c103 hc103 => ?_)
      case oc103q33 => (simp [Value.oneCell'])
      case bb103q33 => omega
      case bc103q33 => omega
      refine TL_p (PV_assign rfl) ?_
      refine TL_nil ?_
      refine T_region ?_
      refine TL_p (PV.cast (PV_bin rfl rfl bin_add) (wr64 (by omega))) ?_
      refine TL_p (PV_move rfl) ?_
      refine TL_nil ?_
      refine ?L2
      case L2 =>
        have hd : bCells 0 (qs ++ [(A101, c101, xs)]) = bCells 0 qs ++ [.int .u8 (((i + 1) % 256 : Nat) : Int), .slice A101 xs.length c101] := by
          rw [bCells_app, hql, show 0 + i + 1 = i + 1 by omega]
          rfl
        refine ⟨i + 1, qs ++ [(A101, c101, xs)], A103, c103, pCh (A101, c101, xs) :: N, ⟨by omega, ?_, by simp [hql], ?_, by omega⟩, by omega, (by repeat (first | exact FrSub.nil _ | refine FrSub.cons rfl ?_)), ?_⟩
        · rw [List.map_append, hq, List.take_succ_eq_append_getElem (by omega), List.map_append]
          have : ps[i] = (Ap, cp, xs) := by rw [List.getElem?_eq_getElem (by omega)] at hp; simpa using hp
          rw [this]
          rfl
        · intro q hqm
          rcases List.mem_append.1 hqm with h1 | h1
          · exact ⟨List.mem_cons_of_mem _ (hqN q h1).1, (hqN q h1).2⟩
          · rw [List.mem_singleton] at h1
            subst h1
            exact ⟨List.mem_cons_self, by omega⟩
        · rw [hd]
          exact Has.of_perm (List.Perm.cons _ (List.Perm.swap _ _ _)) (by repeat (first | exact Sb.r | exact Sb.ar | exact Sb.al | apply Sb.c | apply Sb.d | refine Sb.t ?_))
    · obtain rfl : i = m := by omega
      refine T_seq ?_
      refine T_region ?_
      refine TL_p (PV_bin rfl rfl bin_lss) ?_
      refine TL_nil ?_
      refine T_seq ?_
      refine T_else rfl (by (simp; done)) ?_
      refine T_exit ?_
      refine T_seq ?_
      refine T_region ?_
      refine TL_p (PV_move rfl) ?_
      refine TL_p (PV_assign rfl) ?_
      refine TL_nil ?_
      refine ?L6
      case L6 =>
        refine T_back ?_
        refine T_ret ?_
        refine ret_ret (ResV_one rfl rfl) ⟨_, List.Sublist.refl _, ⟨_, _, _, rfl, ?_, rfl⟩⟩
        have hlen : (ps.map (·.2.2)).length = i := by simp [hm]
        refine ⟨by omega, qs, by rw [hq, List.take_of_length_le (by omega)], ?_, ?_⟩
        · rw [hlen]; exact Shows.mem (c := c') (by simp)
        · exact ShowsAll.mem (fun p hp => (hqN p hp).2) (fun p hp => List.mem_append_right _ (List.mem_cons_of_mem _ (hqN p hp).1))
/-- a part of its cells, as a block's -/
theorem SBlk.at {W : World → Prop} {g off c : Nat} {qs : List (List Int)} (h : SBlk W (some ⟨g, off, none⟩) c qs) {i : Nat} (hi : i < qs.length) : ∃ (A : Option Addr) (k : Nat), RdsK W g (off + i * 2) 2 [.int .u8 (((i + 1) % 256 : Nat) : Int), .slice A (qs[i]).length k] ∧ Shows W A (qs[i]).length 1 (nums .u8 qs[i]) ∧ (qs[i]).length ≤ k ∧ Rd W ⟨g, off + i * 2, none⟩ (.int .u8 (((i + 1) % 256 : Nat) : Int)) ∧ Rd W ⟨g, off + i * 2 + 1, none⟩ (.slice A (qs[i]).length k) := by
  obtain ⟨hc, ps, hps, hrow, hall⟩ := h
  have hlen : ps.length = qs.length := by rw [← hps]; simp
  obtain ⟨p, hp⟩ : ∃ p, ps[i]? = some p := ⟨ps[i], List.getElem?_eq_getElem (by omega)⟩
  have hpm := List.mem_of_getElem? hp
  have hq : qs[i] = p.2.2 := by
    have : qs[i]? = some p.2.2 := by rw [← hps, List.getElem?_map, hp]; rfl
    rw [List.getElem?_eq_getElem hi] at this
    simpa using this
  have hbc := bCells_get 0 ps i p hp
  rw [Nat.zero_add] at hbc
  have r0 := hrow.rd (off := off + i * 2) _ rfl hbc.1
  have r1 := hrow.rd (off := off + i * 2 + 1) (i * 2 + 1) (by omega) hbc.2
  refine ⟨p.1, p.2.1, ⟨rfl, fun j v hj => ?_⟩, by rw [hq]; exact (hall p hpm).1, by rw [hq]; exact (hall p hpm).2, r0, by rw [hq]; exact r1⟩
  rw [add_plain', hq] at *
  match j, hj with
  | 0, hj => cases hj; exact r0
  | 1, hj => cases hj; exact r1
theorem SBlk.some {w0 : World} {B : Nat} {H : List Chunk} {c : Code} {P : Program} {n : Nat} {Q : Exit → Fr → List Chunk → Prop} {fr : Fr} {A : Option Addr} {k : Nat} {qs : List (List Int)} (h : SBlk (WH w0 B H) A k qs) (hn : 0 < qs.length) (hT : ∀ g off, A = some ⟨g, off, none⟩ → T P w0 B n c Q fr H) : T P w0 B n c Q fr H := by
  obtain ⟨hc, ps, hps, hrow, hall⟩ := h
  have hlen : ps.length = qs.length := by rw [← hps]; simp
  exact T_shows hrow (by rw [bCells_len]; omega) fun g off hA _ => hT g off hA
theorem Sn.of_fit {a b : Int} {qs : List (List Int)} {close crc : Bool} (hm : qs.length ≤ 65535) (hn : ∀ q ∈ qs, U8s q ∧ (q.length = 128 ∨ q.length = 1024)) : Sn.Fit ⟨max 1 (min a 9), max 1 (min b 99), qs, close, crc, 0, 0, 1, max 1 (min b 99), false, 0⟩ :=
  ⟨⟨hm, hn, by show 1 ≤ max 1 (min a 9) ∧ max 1 (min a 9) ≤ 9; omega, by show 1 ≤ max 1 (min b 99) ∧ max 1 (min b 99) ≤ 99; omega, by show (0 : Int) ≤ 0 ∧ (0 : Int) ≤ 3; decide, Nat.zero_le _, by show (1 : Int) ≤ 1 ∧ (1 : Int) ≤ 9; decide, Or.inr (by show 1 ≤ max 1 (min b 99) ∧ max 1 (min b 99) ≤ 99; omega)⟩, fun e => by exact absurd (show (0 : Int) = 1 from e) (by decide)⟩
/-- a sender, made -/
def Sn.of (a b : Int) (qs : List (List Int)) (crc close : Bool) : Sn := ⟨max 1 (min a 9), max 1 (min b 99), qs, close, crc, 0, 0, 1, max 1 (min b 99), false, 0⟩
theorem t58 (a b : Int) {A : Option Addr} {m c : Nat} {qs : List (List Int)} (crc close : Bool) (hB : SBlk (WH w0 B H) A c qs) (hml : qs.length = m) (hm : qs.length ≤ 65535) (hn : ∀ q ∈ qs, U8s q ∧ (q.length = 128 ∨ q.length = 1024)) :
    TCall Try.prog w0 B 9 #[.agg #[.int .i64 a, .int .i64 b], .slice A m c, .bool crc, .bool close] (fun r H' => ∃ (g : Nat) (A' : Option Addr) (c' : Nat) (N : List Chunk), r = .pointer (some ⟨g, 0, none⟩) ∧ SBlk (WH w0 B (H ++ N)) A' c' qs ∧ H' = sC g A' c' (Sn.of a b qs crc close) :: (H ++ N)) H := by
  refine TCall_intro (args := [_, _, _, _]) Try.func9 rfl Try.ntmps9 (Nat.le_of_ble_eq_true rfl) ?_
  refine T_addNil 2 ?_
  refine T_seq ?_
  refine T_region ?_
  refine TL_cons rfl (TO_box rfl rfl fun g1 => ?_)
  refine TL_p (PV_assign rfl) ?_
  refine TL_nil ?_
  refine T_seq ?_
  refine T_region ?_
  refine TL_p (PV_loadAt Try.underlying31 rfl sz31 rfl (Rds.take 0 rfl rfl rfl)) ?_
  refine TL_cons rfl (TO_call0 call18 rfl rfl (t89 _ _) ?_)
  rintro v13_4 H13_4 ⟨rfl, rfl⟩
  refine TL_p (PV_move rfl) ?_
  refine TL_p (PV_move rfl) ?_
  refine TL_p (PV_bld (cs := [_, _, _, _, _, _, _, _, _, _, _]) Try.underlying54 pl54 zr54 rfl rfl) ?_
  refine TL_cons rfl (TO_box rfl rfl fun g5 => ?_)
  refine TL_p (PV_assign rfl) ?_
  refine TL_nil ?_
  refine T_seq ?_
  refine T_seq ?_
  refine T_region ?_
  refine TL_p (PV_move rfl) ?_
  refine TL_p (PV_len_slice Try.underlying24 rfl) ?_
  refine TL_p (PV_move rfl) ?_
  refine TL_nil ?_
  refine T_block ?_
  refine ?L1
  case L1 =>
    refine T_loopP5 (fun (i : Nat) (rs : List Part) (A' : Option Addr) (c' : Nat) (N : List Chunk) => i ≤ m ∧ rs.map (·.2.2) = qs.take i ∧ rs.length = i ∧ (∀ q ∈ rs, pCh q ∈ N ∧ q.2.2.length ≤ q.2.1) ∧ i ≤ c') (fun i _ _ _ _ => m - i) (fun i rs A' c' N => [(9, .pointer (some ⟨g5, 0, none⟩)), (18, .slice A m c), (19, .int .i64 (m : Int)), (20, .int .i64 (i : Int))]) (fun i rs A' c' N => .own g5 11 [.int .i64 (max 1 (min a 9)), .int .i64 (max 1 (min b 99)), .slice A' i c', .bool close, .bool crc, .int .i64 0, .int .i64 0, .int .i64 0, .int .i64 0, .bool false, .nilIface] :: .sl (.slice A' i c') 2 i (bCells 0 rs) :: (N ++ H)) 0 [] none 0 [] ⟨by omega, by simp, rfl, by simp, by omega⟩ (by repeat (first | exact FrSub.nil _ | refine FrSub.cons rfl ?_)) (Has.of_sub (by repeat (first | exact Sb.r | exact Sb.ar | exact Sb.al | apply Sb.c | apply Sb.d | refine Sb.t ?_))) ?_
    rintro i rs A' c' N ⟨hi, hrs, hrl, hrN, hic⟩
    by_cases him : i < m
    · have hBm := hB.mono (W' := WH w0 B (.own g5 11 [.int .i64 (max 1 (min a 9)), .int .i64 (max 1 (min b 99)), .slice A' i c', .bool close, .bool crc, .int .i64 0, .int .i64 0, .int .i64 0, .int .i64 0, .bool false, .nilIface] :: .sl (.slice A' i c') 2 i (bCells 0 rs) :: (N ++ H))) (fun w h => h.sub (by repeat (first | exact Sb.r | exact Sb.ar | exact Sb.al | apply Sb.d | refine Sb.t ?_)))
      refine hBm.some (by omega) fun ga oa hA => ?_
      subst hA
      obtain ⟨Ap, cp, hK, hpS, hpC, _, _⟩ := hB.at (i := i) (by omega)
      have hqi := hn _ (List.getElem_mem (show i < qs.length by omega))
      obtain ⟨xs, hxs⟩ : ∃ xs, qs[i]'(by omega) = xs := ⟨_, rfl⟩
      rw [hxs] at hK hpS hpC hqi
      have hxl : xs.length ≤ 1024 := by omega
      refine T_seq ?_
      refine T_region ?_
      refine TL_p (PV_bin rfl rfl bin_lss) ?_
      refine TL_nil ?_
      refine T_seq ?_
      refine T_then rfl (by exact decide_eq_true (by omega)) ?_
      refine T_skip ?_
      refine T_seq ?_
      refine T_block ?_
      refine T_seq ?_
      refine T_region ?_
      refine TL_p (PV_indexAddr Try.underlying24 sz28 rfl rfl rfl (by first | omega | decide | assumption)) ?_
      refine TL_p (PV_loadAt Try.underlying28 rfl sz28 rfl (RdsK.mono hK (fun w h => h.sub (by (repeat (first | exact Sb.r | exact Sb.ar | exact Sb.al | apply Sb.d | refine Sb.t ?_)); done)))) ?_
      refine TL_cons rfl (TO_alloc rfl zr28 fun g101 => ?_)
      refine TL_cons rfl (TO_store 0 rfl rfl rfl sz28 rfl rfl rfl (all_one rfl) (by first | exact Nat.le_of_ble_eq_true rfl | (simp; done) | (simp; omega) | omega) ?_)
      refine TL_nil ?_
      refine T_drawnE2 1 2 mixed ?_
      refine TA_p 0 rfl (by kernel_rfl) (PV_move rfl) ?_
      refine TA_p 1 rfl (by kernel_rfl) (PV_move rfl) ?_
      refine TA_p 2 rfl (by kernel_rfl) (PV_nilCheck rfl) ?_
      refine TA_p 3 rfl (by kernel_rfl) (PV_fieldAddr (D := 2) Try.underlying54 rfl sz24 (by decide) rfl rfl) ?_
      refine TA_p 5 rfl (by kernel_rfl) (PV_fieldAddr (D := 0) Try.underlying28 rfl sz5 (by decide) rfl rfl) ?_
      refine TA_p 6 rfl (by kernel_rfl) (PV_load Try.underlying5 rfl rfl (Rd.at 0 rfl rfl)) ?_
      refine TA_p 7 rfl (by kernel_rfl) (PV_fieldAddr (D := 1) Try.underlying28 rfl sz26 (by decide) rfl rfl) ?_
      refine TA_p 8 rfl (by kernel_rfl) (PV_load Try.underlying26 rfl rfl (Rd.at 0 rfl rfl)) ?_
      refine TA_hardG (rs := [4, 9]) (by kernel_rfl) (by decide) ?_
      refine List.forall_mem_cons.2 ⟨?w103q105_4, List.forall_mem_cons.2 ⟨?w103q105_9, by simp⟩⟩
      refine ⟨_, rfl, Or.inl rfl, (TO_pure rfl (PV_load Try.underlying24 rfl rfl (Rd.at 1 rfl rfl)) ?_)⟩
      refine ⟨fun _ h => h.sub (by (repeat (first | exact Sb.r | exact Sb.ar | exact Sb.al | apply Sb.c | apply Sb.d | refine Sb.t ?_)); done), ?_⟩
      refine TA_one 9 (by kernel_rfl) rfl rfl (TO_appendNil Try.underlying26 zb5 rfl (by decide) rfl rfl rfl (Shows.mono hpS (fun w h => h.sub (by (repeat (first | exact Sb.r | exact Sb.ar | exact Sb.al | apply Sb.d | refine Sb.t ?_)); done))) ?oc106q105 ?bb106q105 ?bc106q105 fun A106 c106 hc106 => ?_)
      case oc106q105 => exact nums_one
      case bb106q105 => omega
      case bc106q105 => omega
      refine ⟨fun _ h => h.sub (by (repeat (first | exact Sb.r | exact Sb.ar | exact Sb.al | apply Sb.c | apply Sb.d | refine Sb.t ?_)); done), ?_⟩
      refine TA_p 10 rfl (by kernel_rfl) (PV_bld (cs := [_, _]) Try.underlying28 pl28 zr28 rfl rfl) ?_
      refine TA_one 11 (by kernel_rfl) rfl rfl (TO_bs (cs := [_, _]) Try.underlying24 zs28 (by decide) rfl rfl rfl rfl rfl rfl fun g107 => ?_)
      refine ⟨fun _ h => h.sub (by (repeat (first | exact Sb.r | exact Sb.ar | exact Sb.al | apply Sb.c | apply Sb.d | refine Sb.t ?_)); done), ?_⟩
      refine TA_one 12 (by kernel_rfl) rfl rfl (TO_append 4 rfl Try.underlying24 zb28 rfl (by decide) rfl rfl rfl (Shows.at 0 rfl) ?oc108q105 ?bb108q105 ?bc108q105 fun A108 c108 hc108 => ?_)
      case oc108q105 => (simp [Value.oneCell'])
      case bb108q105 => omega
      case bc108q105 => omega
      refine ⟨fun _ h => h.sub (by (repeat (first | exact Sb.r | exact Sb.ar | exact Sb.al | apply Sb.c | apply Sb.d | refine Sb.t ?_)); done), ?_⟩
      refine TA_p 13 rfl (by kernel_rfl) (PV_nilCheck rfl) ?_
      refine TA_p 14 rfl (by kernel_rfl) (PV_fieldAddr (D := 2) Try.underlying54 rfl sz24 (by decide) rfl rfl) ?_
      refine TA_one 15 (by kernel_rfl) rfl rfl (TO_store1 3 rfl rfl rfl sz24 rfl rfl rfl (by first | exact Nat.le_of_ble_eq_true rfl | (simp; done) | (simp; omega) | omega) ?_)
      refine ⟨fun _ h => h.sub (by (repeat (first | exact Sb.r | exact Sb.ar | exact Sb.al | apply Sb.c | apply Sb.d | refine Sb.t ?_)); done), ?_⟩
      refine TA_done (by kernel_rfl) ?_
      refine T_region ?_
      refine TL_p (PV.cast (PV_bin rfl rfl bin_add) (wr64 (by omega))) ?_
      refine TL_p (PV_move rfl) ?_
      refine TL_nil ?_
      refine ?L2
      rotate_left 1
      refine ⟨_, rfl, Or.inl rfl, (TO_appendNil Try.underlying26 zb5 rfl (by decide) rfl rfl rfl (Shows.mono hpS (fun w h => h.sub (by (repeat (first | exact Sb.r | exact Sb.ar | exact Sb.al | apply Sb.d | refine Sb.t ?_)); done))) ?oc105q105 ?bb105q105 ?bc105q105 fun A105 c105 hc105 => ?_)⟩
      case oc105q105 => exact nums_one
      case bb105q105 => omega
      case bc105q105 => omega
      refine ⟨fun _ h => h.sub (by (repeat (first | exact Sb.r | exact Sb.ar | exact Sb.al | apply Sb.c | apply Sb.d | refine Sb.t ?_)); done), ?_⟩
      refine TA_p 10 rfl (by kernel_rfl) (PV_bld (cs := [_, _]) Try.underlying28 pl28 zr28 rfl rfl) ?_
      refine TA_hardG (rs := [4, 11]) (by kernel_rfl) (by decide) ?_
      refine List.forall_mem_cons.2 ⟨?w110q105_4, List.forall_mem_cons.2 ⟨?w110q105_11, by simp⟩⟩
      refine ⟨_, rfl, Or.inl rfl, (TO_pure rfl (PV_load Try.underlying24 rfl rfl (Rd.at 2 rfl rfl)) ?_)⟩
      refine ⟨fun _ h => h.sub (by (repeat (first | exact Sb.r | exact Sb.ar | exact Sb.al | apply Sb.c | apply Sb.d | refine Sb.t ?_)); done), ?_⟩
      refine TA_one 11 (by kernel_rfl) rfl rfl (TO_bs (cs := [_, _]) Try.underlying24 zs28 (by decide) rfl rfl rfl rfl rfl rfl fun g113 => ?_)
      refine ⟨fun _ h => h.sub (by (repeat (first | exact Sb.r | exact Sb.ar | exact Sb.al | apply Sb.c | apply Sb.d | refine Sb.t ?_)); done), ?_⟩
      refine TA_one 12 (by kernel_rfl) rfl rfl (TO_append 4 rfl Try.underlying24 zb28 rfl (by decide) rfl rfl rfl (Shows.at 0 rfl) ?oc114q105 ?bb114q105 ?bc114q105 fun A114 c114 hc114 => ?_)
      case oc114q105 => (simp [Value.oneCell'])
      case bb114q105 => omega
      case bc114q105 => omega
      refine ⟨fun _ h => h.sub (by (repeat (first | exact Sb.r | exact Sb.ar | exact Sb.al | apply Sb.c | apply Sb.d | refine Sb.t ?_)); done), ?_⟩
      refine TA_p 13 rfl (by kernel_rfl) (PV_nilCheck rfl) ?_
      refine TA_p 14 rfl (by kernel_rfl) (PV_fieldAddr (D := 2) Try.underlying54 rfl sz24 (by decide) rfl rfl) ?_
      refine TA_one 15 (by kernel_rfl) rfl rfl (TO_store1 3 rfl rfl rfl sz24 rfl rfl rfl (by first | exact Nat.le_of_ble_eq_true rfl | (simp; done) | (simp; omega) | omega) ?_)
      refine ⟨fun _ h => h.sub (by (repeat (first | exact Sb.r | exact Sb.ar | exact Sb.al | apply Sb.c | apply Sb.d | refine Sb.t ?_)); done), ?_⟩
      refine TA_done (by kernel_rfl) ?_
      refine T_region ?_
      refine TL_p (PV.cast (PV_bin rfl rfl bin_add) (wr64 (by omega))) ?_
      refine TL_p (PV_move rfl) ?_
      refine TL_nil ?_
      refine ?L3
      rotate_left 1
      refine ⟨_, rfl, Or.inl rfl, (TO_bs (cs := [_, _]) Try.underlying24 zs28 (by decide) rfl rfl rfl rfl rfl rfl fun g112 => ?_)⟩
      refine ⟨fun _ h => h.sub (by (repeat (first | exact Sb.r | exact Sb.ar | exact Sb.al | apply Sb.c | apply Sb.d | refine Sb.t ?_)); done), ?_⟩
      refine TA_pure1 (dd := (some 28)) 4 (by kernel_rfl) rfl rfl rfl rfl (PV_load Try.underlying24 rfl rfl (Rd.at 3 rfl rfl)) ?_
      refine TA_one 12 (by kernel_rfl) rfl rfl (TO_append 4 rfl Try.underlying24 zb28 rfl (by decide) rfl rfl rfl (Shows.at 0 rfl) ?oc116q105 ?bb116q105 ?bc116q105 fun A116 c116 hc116 => ?_)
      case oc116q105 => (simp [Value.oneCell'])
      case bb116q105 => omega
      case bc116q105 => omega
      refine ⟨fun _ h => h.sub (by (repeat (first | exact Sb.r | exact Sb.ar | exact Sb.al | apply Sb.c | apply Sb.d | refine Sb.t ?_)); done), ?_⟩
      refine TA_p 13 rfl (by kernel_rfl) (PV_nilCheck rfl) ?_
      refine TA_p 14 rfl (by kernel_rfl) (PV_fieldAddr (D := 2) Try.underlying54 rfl sz24 (by decide) rfl rfl) ?_
      refine TA_one 15 (by kernel_rfl) rfl rfl (TO_store1 3 rfl rfl rfl sz24 rfl rfl rfl (by first | exact Nat.le_of_ble_eq_true rfl | (simp; done) | (simp; omega) | omega) ?_)
      refine ⟨fun _ h => h.sub (by (repeat (first | exact Sb.r | exact Sb.ar | exact Sb.al | apply Sb.c | apply Sb.d | refine Sb.t ?_)); done), ?_⟩
      refine TA_done (by kernel_rfl) ?_
      refine T_region ?_
      refine TL_p (PV.cast (PV_bin rfl rfl bin_add) (wr64 (by omega))) ?_
      refine TL_p (PV_move rfl) ?_
      refine TL_nil ?_
      refine ?L4
      case L2 =>
        have hd : bCells 0 (rs ++ [(A106, c106, xs)]) = bCells 0 rs ++ [.int .u8 (((i + 1) % 256 : Nat) : Int), .slice A106 xs.length c106] := by
          rw [bCells_app, hrl, show 0 + i + 1 = i + 1 by omega]
          rfl
        refine ⟨i + 1, rs ++ [(A106, c106, xs)], A108, c108, pCh (A106, c106, xs) :: N, ⟨by omega, ?_, by simp [hrl], ?_, by omega⟩, by omega, (by repeat (first | exact FrSub.nil _ | refine FrSub.cons rfl ?_)), ?_⟩
        · rw [List.map_append, hrs, List.take_succ_eq_append_getElem (by omega), hxs]
          rfl
        · intro q hqm
          rcases List.mem_append.1 hqm with h1 | h1
          · exact ⟨List.mem_cons_of_mem _ (hrN q h1).1, (hrN q h1).2⟩
          · rw [List.mem_singleton] at h1
            subst h1
            exact ⟨List.mem_cons_self, by omega⟩
        · rw [hd]
          exact Has.of_perm ((perm_pick (i := 3) rfl).trans (List.Perm.cons _ ((perm_pick (i := 3) rfl).trans (List.Perm.cons _ ((perm_pick (i := 1) rfl).trans (List.Perm.cons _ (List.Perm.refl _))))))) (by repeat (first | exact Sb.r | exact Sb.ar | exact Sb.al | apply Sb.c | apply Sb.d | refine Sb.t ?_))
      case L3 =>
        have hd : bCells 0 (rs ++ [(A105, c105, xs)]) = bCells 0 rs ++ [.int .u8 (((i + 1) % 256 : Nat) : Int), .slice A105 xs.length c105] := by
          rw [bCells_app, hrl, show 0 + i + 1 = i + 1 by omega]
          rfl
        refine ⟨i + 1, rs ++ [(A105, c105, xs)], A114, c114, pCh (A105, c105, xs) :: N, ⟨by omega, ?_, by simp [hrl], ?_, by omega⟩, by omega, (by repeat (first | exact FrSub.nil _ | refine FrSub.cons rfl ?_)), ?_⟩
        · rw [List.map_append, hrs, List.take_succ_eq_append_getElem (by omega), hxs]
          rfl
        · intro q hqm
          rcases List.mem_append.1 hqm with h1 | h1
          · exact ⟨List.mem_cons_of_mem _ (hrN q h1).1, (hrN q h1).2⟩
          · rw [List.mem_singleton] at h1
            subst h1
            exact ⟨List.mem_cons_self, by omega⟩
        · rw [hd]
          exact Has.of_perm ((perm_pick (i := 3) rfl).trans (List.Perm.cons _ ((perm_pick (i := 3) rfl).trans (List.Perm.cons _ ((perm_pick (i := 1) rfl).trans (List.Perm.cons _ (List.Perm.refl _))))))) (by repeat (first | exact Sb.r | exact Sb.ar | exact Sb.al | apply Sb.c | apply Sb.d | refine Sb.t ?_))
      case L4 =>
        have hd : bCells 0 (rs ++ [(A105, c105, xs)]) = bCells 0 rs ++ [.int .u8 (((i + 1) % 256 : Nat) : Int), .slice A105 xs.length c105] := by
          rw [bCells_app, hrl, show 0 + i + 1 = i + 1 by omega]
          rfl
        refine ⟨i + 1, rs ++ [(A105, c105, xs)], A116, c116, pCh (A105, c105, xs) :: N, ⟨by omega, ?_, by simp [hrl], ?_, by omega⟩, by omega, (by repeat (first | exact FrSub.nil _ | refine FrSub.cons rfl ?_)), ?_⟩
        · rw [List.map_append, hrs, List.take_succ_eq_append_getElem (by omega), hxs]
          rfl
        · intro q hqm
          rcases List.mem_append.1 hqm with h1 | h1
          · exact ⟨List.mem_cons_of_mem _ (hrN q h1).1, (hrN q h1).2⟩
          · rw [List.mem_singleton] at h1
            subst h1
            exact ⟨List.mem_cons_self, by omega⟩
        · rw [hd]
          exact Has.of_perm ((perm_pick (i := 3) rfl).trans (List.Perm.cons _ ((perm_pick (i := 3) rfl).trans (List.Perm.cons _ ((perm_pick (i := 1) rfl).trans (List.Perm.cons _ (List.Perm.refl _))))))) (by repeat (first | exact Sb.r | exact Sb.ar | exact Sb.al | apply Sb.c | apply Sb.d | refine Sb.t ?_))
    · obtain rfl : i = m := by omega
      refine T_seq ?_
      refine T_region ?_
      refine TL_p (PV_bin rfl rfl bin_lss) ?_
      refine TL_nil ?_
      refine T_seq ?_
      refine T_else rfl (by (simp; done)) ?_
      refine T_exit ?_
      refine T_seq ?_
      refine T_region ?_
      refine TL_p (PV_move rfl) ?_
      refine TL_p (PV_move rfl) ?_
      refine TL_p (PV_move rfl) ?_
      refine TL_p (PV_nilCheck rfl) ?_
      refine TL_p (PV_fieldAddr (D := 0) Try.underlying54 rfl sz31 (by decide) rfl rfl) ?_
      refine TL_p (PV_fieldAddr (D := 1) Try.underlying31 rfl sz3 (by decide) rfl rfl) ?_
      refine TL_p (PV_load Try.underlying3 rfl rfl (Rd.at 0 rfl rfl)) ?_
      refine TL_p (PV_nilCheck rfl) ?_
      refine TL_p (PV_fieldAddr (D := 8) Try.underlying54 rfl sz3 (by decide) rfl rfl) ?_
      refine TL_cons rfl (TO_store1 0 rfl rfl rfl sz3 rfl rfl rfl (by first | exact Nat.le_of_ble_eq_true rfl | (simp; done) | (simp; omega) | omega) ?_)
      refine TL_p (PV_nilCheck rfl) ?_
      refine TL_p (PV_fieldAddr (D := 7) Try.underlying54 rfl sz3 (by decide) rfl rfl) ?_
      refine TL_cons rfl (TO_store1 0 rfl rfl rfl sz3 rfl rfl rfl (by first | exact Nat.le_of_ble_eq_true rfl | (simp; done) | (simp; omega) | omega) ?_)
      refine TL_nil ?_
      refine T_seq ?_
      refine T_region ?_
      refine TL_p (PV_move rfl) ?_
      refine TL_p (PV_assign rfl) ?_
      refine TL_nil ?_
      refine ?L6
      case L6 =>
        refine T.perm (show List.Perm (_ :: (_ :: (N ++ H))) (_ :: (H ++ (_ :: N))) from List.Perm.cons _ (List.perm_append_comm (l₁ := _ :: N) (l₂ := H))) ?_
        refine T_ret ?_
        refine ret_ret (ResV_one rfl rfl) ⟨_, List.Sublist.refl _, ⟨g5, A', c', .sl (.slice A' i c') 2 i (bCells 0 rs) :: N, rfl, ?_, ?_⟩⟩
        rotate_left 1
        · subst hml
          exact rfl
        · refine ⟨by omega, rs, by rw [hrs, List.take_of_length_le (by omega)], ?_, ?_⟩
          · rw [hml]; exact Shows.mem (c := c') (by simp)
          · exact ShowsAll.mem (fun p hp => (hrN p hp).2) (fun p hp => List.mem_append_right _ (List.mem_cons_of_mem _ (hrN p hp).1))
end
end Go.Proofs.Ytpfcpookdocikaa.SL
