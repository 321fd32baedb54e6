import Derived.Test.YtpfcpookdocikaaS2
/- Blocks by bytes, and how many. No statement is proved here. -/
set_option linter.unusedVariables false
set_option linter.unusedSimpArgs false
set_option maxRecDepth 100000
namespace Go.Proofs.Ytpfcpookdocikaa.SL
open Go Go.RowKit
section
variable {w0 : World} {B : Nat} {H X : List Chunk}
def lg (long : Bool) (i : Nat) : Bool := long && decide (i % 2 = 0)
def blkL (l : List Int) (long : Bool) (i : Nat) : List Int := (dataL l (lg long i)).set 0 (i : Int)
theorem blkL_len (l : List Int) (long : Bool) (i : Nat) : (blkL l long i).length = dataN (lg long i) := by
  unfold blkL
  rw [List.length_set, dataL_len]
theorem blkL_two (l : List Int) (long : Bool) (i : Nat) : (blkL l long i).length = 128 ∨ (blkL l long i).length = 1024 := by
  rw [blkL_len]
  unfold dataN
  split <;> simp
theorem blkL_u8 (l : List Int) (long : Bool) (i : Nat) (h : i ≤ 255) : U8s (blkL l long i) := U8s_set (dataL_u8 l _) 0 _ (by omega) (by omega)
/-- the blocks of a law -/
def blksL (l : List Int) (long : Bool) (n : Nat) : List (List Int) := (List.range n).map (blkL l long)
theorem blksL_len (l : List Int) (long : Bool) (n : Nat) : (blksL l long n).length = n := by simp [blksL]
theorem blksL_num {l : List Int} {long : Bool} {n : Nat} (hn : n ≤ 255) : ∀ q ∈ blksL l long n, U8s q ∧ (q.length = 128 ∨ q.length = 1024) := fun q hq => by
  obtain ⟨k, hk, rfl⟩ := List.mem_map.1 hq
  exact ⟨blkL_u8 l long k (by have := List.mem_range.1 hk; omega), blkL_two l long k⟩
theorem tmod2 (i : Nat) : (Int.tmod (i : Int) 2 == 0) = decide (i % 2 = 0) := by
  have : Int.tmod (i : Int) 2 = ((i % 2 : Nat) : Int) := rfl
  rw [this]
  by_cases h : i % 2 = 0
  · rw [h]; rfl
  · have h1 : i % 2 = 1 := by omega
    rw [h1]; rfl
theorem t57 {A : Option Addr} {m c : Nat} {l : List Int} (mn : Nat) (long : Bool) (hS : Shows (WH w0 B H) A m 1 (nums .u8 l)) (hlm : l.length = m) (hl : m ≤ 9223372036854775807) (hc : m ≤ c) (hu : U8s l) (hmn : mn ≤ 255) :
    TCall Try.prog w0 B 8 #[.slice A m c, .int .u8 (mn : Int), .bool long] (fun r H' => ∃ (A' : Option Addr) (c' : Nat) (N : List Chunk), r = .slice A' (mn % 5) c' ∧ SBlk (WH w0 B (H ++ N)) A' c' (blksL l long (mn % 5)) ∧ H' = H ++ N) H := by
  obtain ⟨n, hn⟩ : ∃ n, mn % 5 = n := ⟨_, rfl⟩
  rw [hn]
  have hn5 : n < 5 := by omega
  have e12 : Value.int .u8 (Int.tmod (mn : Int) 5) = .int .u8 (n : Int) := by rw [← hn]; rfl
  refine TCall_intro (args := [_, _, _]) Try.func8 rfl Try.ntmps8 (Nat.le_of_ble_eq_true rfl) ?_
  refine T_addNil 1 ?_
  refine T_seq ?_
  refine T_region ?_
  refine TL_p (PV_assign rfl) ?_
  refine TL_nil ?_
  refine T_seq ?_
  refine T_region ?_
  refine TL_p (PV_assign rfl) ?_
  refine TL_nil ?_
  refine T_seq ?_
  refine T_seq ?_
  refine T_region ?_
  refine TL_p (PV_assign rfl) ?_
  refine TL_nil ?_
  refine T_block ?_
  refine ?L1
  case L1 =>
    refine T_loopP5 (fun (i : Nat) (ps : List Part) (A' : Option Addr) (c' : Nat) (N : List Chunk) => i ≤ n ∧ ps.map (·.2.2) = blksL l long i ∧ ps.length = i ∧ (∀ q ∈ ps, pCh q ∈ N ∧ q.2.2.length ≤ q.2.1) ∧ i ≤ c') (fun i _ _ _ _ => n - i) (fun i ps A' c' N => [(0, .slice A m c), (1, .int .u8 (mn : Int)), (2, .bool long), (7, .slice A' i c'), (8, .int .i64 (i : Int))]) (fun i ps A' c' N => .sl (.slice A' i c') 1 i (ps.map pVal) :: (N ++ H)) 0 [] none 0 [] ⟨by omega, rfl, rfl, by simp, by omega⟩ (by repeat (first | exact FrSub.nil _ | refine FrSub.cons rfl ?_)) (Has.of_sub (by repeat (first | exact Sb.r | exact Sb.ar | exact Sb.al | apply Sb.c | apply Sb.d | refine Sb.t ?_))) ?_
    rintro i ps A' c' N ⟨hi, hps, hpl, hpN, hic⟩
    have e13 : Value.int .i64 (IntKind.i64.wrap (n : Int)) = .int .i64 (n : Int) := wr64n n rfl (by omega)
    by_cases him : i < n
    · have e21 : Value.bool (Int.tmod (i : Int) 2 == 0) = .bool (decide (i % 2 = 0)) := congrArg Value.bool (tmod2 i)
      have e27 : Value.int .u8 (IntKind.u8.wrap (i : Int)) = .int .u8 (i : Int) := by rw [IntKind.wrap_u8, show (i : Int) % 256 = i by omega]
      have hN := blkL_len l long i
      have hN2 := blkL_two l long i
      obtain ⟨k, hk⟩ : ∃ k, dataN (lg long i) = k := ⟨_, rfl⟩
      have hpl1 := pVal_one (ps := ps)
      have e23 : Value.bool (long && (Int.tmod (i : Int) 2 == 0)) = .bool (lg long i) := by unfold lg; rw [tmod2]
      have e23b : long = false → Value.bool false = .bool (lg long i) := fun h => by unfold lg; rw [h]; rfl
      have hd0 : 0 < dataN (lg long i) ∧ dataN (lg long i) ≤ 1024 := by unfold dataN; split <;> omega
      obtain ⟨hd1, hd2⟩ := hd0
      refine T_seq ?_
      refine T_seq ?_
      refine T_region ?_
      refine TL_p (PV_move rfl) ?_
      refine TL_p (PV_move rfl) ?_
      refine TL_p (PV.cast (PV_bin rfl rfl (bin_rem (by decide))) e12) ?_
      refine TL_p (PV.cast (PV_conv (by rw [Try.underlying5]; rfl) Try.underlying3 rfl) e13) ?_
      refine TL_p (PV_bin rfl rfl bin_lss) ?_
      refine TL_nil ?_
      refine T_then rfl (by exact decide_eq_true (by omega)) ?_
      refine T_skip ?_
      refine T_seq ?_
      refine T_block ?_
      refine T_seq ?_
      refine T_region ?_
      refine TL_p (PV_move rfl) ?_
      refine TL_p (PV_move rfl) ?_
      refine TL_p (PV_move rfl) ?_
      refine TL_split (d := 19) rfl (fun c101 => ?w101q56y) (fun c101 => ?w101q56n)
      try simp only [decide_eq_true_eq, decide_eq_false_iff_not, beq_iff_eq, beq_eq_false_iff_ne, bne_iff_ne, bne_eq_false_iff_eq, ne_eq, Bool.not_eq_true', Bool.not_eq_false', Bool.not_not, Bool.not_true, Bool.not_false, Bool.and_eq_true, Bool.or_eq_true, Bool.and_eq_false_iff, Bool.or_eq_false_iff, Int.not_lt, Int.not_le, gt_iff_lt, ge_iff_le] at c101
      refine TL_yes rfl rfl (gtrue (by with_reducible assumption)) (TO_pure rfl (PV_move rfl) ?_)
      refine TL_yes rfl rfl (gtrue (by with_reducible assumption)) (TO_pure rfl (PV_bin rfl rfl (bin_rem (by first | decide | omega | assumption))) ?_)
      refine TL_yes rfl rfl (gtrue (by with_reducible assumption)) (TO_pure rfl (PV_bin rfl rfl bin_eql) ?_)
      refine TL_p (PV.cast (PV_pickAnd rfl rfl rfl) e23) ?_
      refine TL_cons rfl (TO_call0 call17 rfl rfl (t48 _ (Shows.mono hS (fun w h => h.sub (by (repeat (first | exact Sb.r | exact Sb.ar | exact Sb.al | apply Sb.d | refine Sb.t ?_)); done))) ?sd103q56_2 ?sd103q56_3 ?sd103q56_4 ?sd103q56_5) ?_)
      case sd103q56_2 => omega
      case sd103q56_3 => exact hl
      case sd103q56_4 => exact hc
      case sd103q56_5 => exact hu
      rintro v24_104 H24_104 ⟨A_104, c_104, rfl, h_104_0, rfl⟩
      refine TL_p (PV_assign rfl) ?_
      refine TL_nil ?_
      refine T_seq ?_
      refine T_region ?_
      refine TL_p (PV_move rfl) ?_
      refine TL_p (PV_move rfl) ?_
      refine TL_p (PV.cast (PV_conv (by rw [Try.underlying3]; rfl) Try.underlying5 rfl) e27) ?_
      refine TL_slA 0 rfl (by omega) fun g106 e106 => ?_
      subst e106
      refine TL_p (PV_indexAddr (i := 0) Try.underlying26 sz5 rfl rfl rfl (by first | omega | decide | assumption)) ?_
      refine TL_cons rfl (TO_store1 0 rfl rfl rfl sz5 rfl rfl rfl (by rw [nums_length, dataL_len]; omega) ?_)
      refine TL_nil ?_
      refine T_region ?_
      refine TL_p (PV_move rfl) ?_
      refine TL_p (PV_move rfl) ?_
      refine TL_cons rfl (TO_bs (cs := [_]) Try.underlying22 zs26 (by decide) rfl rfl rfl rfl rfl rfl fun g108 => ?_)
      refine TL_cons rfl (TO_append 2 rfl Try.underlying22 zb26 rfl (by decide) rfl rfl rfl (Shows.at 0 rfl) ?oc109q56 ?bb109q56 ?bc109q56 fun A109 c109 hc109 => ?_)
      case oc109q56 => (simp [Value.oneCell'])
      case bb109q56 => omega
      case bc109q56 => omega
      refine TL_p (PV_assign rfl) ?_
      refine TL_nil ?_
      refine T_region ?_
      refine TL_p (PV_move rfl) ?_
      refine TL_p (PV.cast (PV_bin rfl rfl bin_add) (wr64 (by omega))) ?_
      refine TL_p (PV_assign rfl) ?_
      refine TL_nil ?_
      refine ?L2
      rotate_left 1
      try simp only [decide_eq_true_eq, decide_eq_false_iff_not, beq_iff_eq, beq_eq_false_iff_ne, bne_iff_ne, bne_eq_false_iff_eq, ne_eq, Bool.not_eq_true', Bool.not_eq_false', Bool.not_not, Bool.not_true, Bool.not_false, Bool.and_eq_true, Bool.or_eq_true, Bool.and_eq_false_iff, Bool.or_eq_false_iff, Int.not_lt, Int.not_le, gt_iff_lt, ge_iff_le] at c101
      refine TL_no (b := false) rfl rfl (gfalse (by with_reducible assumption)) rfl ?_
      refine TL_no (b := false) rfl rfl (gfalse (by with_reducible assumption)) rfl ?_
      refine TL_no (b := false) rfl rfl (gfalse (by with_reducible assumption)) rfl ?_
      refine TL_p (PV.cast (PV_pickF rfl (by assumption) rfl rfl) (e23b (by assumption))) ?_
      refine TL_cons rfl (TO_call0 call17 rfl rfl (t48 _ (Shows.mono hS (fun w h => h.sub (by (repeat (first | exact Sb.r | exact Sb.ar | exact Sb.al | apply Sb.d | refine Sb.t ?_)); done))) ?sd111q56_2 ?sd111q56_3 ?sd111q56_4 ?sd111q56_5) ?_)
      case sd111q56_2 => omega
      case sd111q56_3 => exact hl
      case sd111q56_4 => exact hc
      case sd111q56_5 => exact hu
      rintro v24_112 H24_112 ⟨A_112, c_112, rfl, h_112_0, rfl⟩
      refine TL_p (PV_assign rfl) ?_
      refine TL_nil ?_
      refine T_seq ?_
      refine T_region ?_
      refine TL_p (PV_move rfl) ?_
      refine TL_p (PV_move rfl) ?_
      refine TL_p (PV.cast (PV_conv (by rw [Try.underlying3]; rfl) Try.underlying5 rfl) e27) ?_
      refine TL_slA 0 rfl (by omega) fun g114 e114 => ?_
      subst e114
      refine TL_p (PV_indexAddr (i := 0) Try.underlying26 sz5 rfl rfl rfl (by first | omega | decide | assumption)) ?_
      refine TL_cons rfl (TO_store1 0 rfl rfl rfl sz5 rfl rfl rfl (by rw [nums_length, dataL_len]; omega) ?_)
      refine TL_nil ?_
      refine T_region ?_
      refine TL_p (PV_move rfl) ?_
      refine TL_p (PV_move rfl) ?_
      refine TL_cons rfl (TO_bs (cs := [_]) Try.underlying22 zs26 (by decide) rfl rfl rfl rfl rfl rfl fun g116 => ?_)
      refine TL_cons rfl (TO_append 2 rfl Try.underlying22 zb26 rfl (by decide) rfl rfl rfl (Shows.at 0 rfl) ?oc117q56 ?bb117q56 ?bc117q56 fun A117 c117 hc117 => ?_)
      case oc117q56 => (simp [Value.oneCell'])
      case bb117q56 => omega
      case bc117q56 => omega
      refine TL_p (PV_assign rfl) ?_
      refine TL_nil ?_
      refine T_region ?_
      refine TL_p (PV_move rfl) ?_
      refine TL_p (PV.cast (PV_bin rfl rfl bin_add) (wr64 (by omega))) ?_
      refine TL_p (PV_assign rfl) ?_
      refine TL_nil ?_
      refine ?L3
      case L2 =>
        have hd : pCh (some ⟨g106, 0, none⟩, c_104, blkL l long i) = .sl (.slice (some ⟨g106, 0, none⟩) (dataN (lg long i)) c_104) 1 (dataN (lg long i)) ((nums .u8 (dataL l (lg long i))).set (0 + 0 * 1) (.int .u8 (i : Int))) := by
          unfold pCh
          simp only [blkL_len]
          unfold blkL
          rw [nums_set' _ _ (0 + 0 * 1) 0 _ rfl]
        have hv : (ps ++ [((some ⟨g106, 0, none⟩, c_104, blkL l long i) : Part)]).map pVal = ps.map pVal ++ [.slice (some ⟨g106, 0, none⟩) (dataN (lg long i)) c_104] := by
          rw [List.map_append]
          simp only [List.map_cons, List.map_nil, pVal, blkL_len]
        refine ⟨i + 1, ps ++ [((some ⟨g106, 0, none⟩, c_104, blkL l long i) : Part)], A109, c109, pCh (some ⟨g106, 0, none⟩, c_104, blkL l long i) :: N, ⟨by omega, ?_, by simp [hpl], ?_, by omega⟩, by omega, (by repeat (first | exact FrSub.nil _ | refine FrSub.cons rfl ?_)), ?_⟩
        · rw [List.map_append, hps]
          unfold blksL
          rw [List.range_succ, List.map_append]
          rfl
        · intro q hqm
          rcases List.mem_append.1 hqm with h1 | h1
          · exact ⟨List.mem_cons_of_mem _ (hpN q h1).1, (hpN q h1).2⟩
          · rw [List.mem_singleton] at h1
            subst h1
            exact ⟨List.mem_cons_self, by rw [blkL_len]; omega⟩
        · rw [hv, hd]
          exact Has.of_perm ((perm_pick (i := 2) rfl).trans (List.Perm.cons _ ((perm_pick (i := 1) rfl).trans (List.Perm.cons _ (List.Perm.refl _))))) (by repeat (first | exact Sb.r | exact Sb.ar | exact Sb.al | apply Sb.c | apply Sb.d | refine Sb.t ?_))
      case L3 =>
        have hd : pCh (some ⟨g114, 0, none⟩, c_112, blkL l long i) = .sl (.slice (some ⟨g114, 0, none⟩) (dataN (lg long i)) c_112) 1 (dataN (lg long i)) ((nums .u8 (dataL l (lg long i))).set (0 + 0 * 1) (.int .u8 (i : Int))) := by
          unfold pCh
          simp only [blkL_len]
          unfold blkL
          rw [nums_set' _ _ (0 + 0 * 1) 0 _ rfl]
        have hv : (ps ++ [((some ⟨g114, 0, none⟩, c_112, blkL l long i) : Part)]).map pVal = ps.map pVal ++ [.slice (some ⟨g114, 0, none⟩) (dataN (lg long i)) c_112] := by
          rw [List.map_append]
          simp only [List.map_cons, List.map_nil, pVal, blkL_len]
        refine ⟨i + 1, ps ++ [((some ⟨g114, 0, none⟩, c_112, blkL l long i) : Part)], A117, c117, pCh (some ⟨g114, 0, none⟩, c_112, blkL l long i) :: N, ⟨by omega, ?_, by simp [hpl], ?_, by omega⟩, by omega, (by repeat (first | exact FrSub.nil _ | refine FrSub.cons rfl ?_)), ?_⟩
        · rw [List.map_append, hps]
          unfold blksL
          rw [List.range_succ, List.map_append]
          rfl
        · intro q hqm
          rcases List.mem_append.1 hqm with h1 | h1
          · exact ⟨List.mem_cons_of_mem _ (hpN q h1).1, (hpN q h1).2⟩
          · rw [List.mem_singleton] at h1
            subst h1
            exact ⟨List.mem_cons_self, by rw [blkL_len]; omega⟩
        · rw [hv, hd]
          exact Has.of_perm ((perm_pick (i := 2) rfl).trans (List.Perm.cons _ ((perm_pick (i := 1) rfl).trans (List.Perm.cons _ (List.Perm.refl _))))) (by repeat (first | exact Sb.r | exact Sb.ar | exact Sb.al | apply Sb.c | apply Sb.d | refine Sb.t ?_))
    · obtain rfl : i = n := by omega
      have hPA : ShowsAll (WH w0 B (.sl (.slice A' i c') 1 i (ps.map pVal) :: (N ++ H))) ps := ShowsAll.mem (fun p hp => (hpN p hp).2) (fun p hp => List.mem_cons_of_mem _ (List.mem_append_left _ (hpN p hp).1))
      have hPb : ∀ p ∈ ps, p.2.2.length ≤ 140737488355328 := fun p hp => by
        have h1 : p.2.2 ∈ ps.map (·.2.2) := List.mem_map_of_mem hp
        rw [hps] at h1
        have h2 := (blksL_num (by omega) _ h1).2
        omega
      refine T_seq ?_
      refine T_seq ?_
      refine T_region ?_
      refine TL_p (PV_move rfl) ?_
      refine TL_p (PV_move rfl) ?_
      refine TL_p (PV.cast (PV_bin rfl rfl (bin_rem (by decide))) e12) ?_
      refine TL_p (PV.cast (PV_conv (by rw [Try.underlying5]; rfl) Try.underlying3 rfl) e13) ?_
      refine TL_p (PV_bin rfl rfl bin_lss) ?_
      refine TL_nil ?_
      refine T_else rfl (by (simp; done)) ?_
      refine T_exit ?_
      refine T_seq ?_
      refine T_region ?_
      refine TL_p (PV_move rfl) ?_
      refine TL_cons rfl (TO_call0 call6 rfl rfl (t53 (Shows.at 0 rfl) ?sd2002q115_1 ?sd2002q115_2 ?sd2002q115_3 ?sd2002q115_4 ?sd2002q115_5) ?_)
      case sd2002q115_1 => exact hPA
      case sd2002q115_2 => omega
      case sd2002q115_3 => omega
      case sd2002q115_4 => with_reducible assumption
      case sd2002q115_5 => exact hic
      rintro v34_2003 H34_2003 ⟨A'_2003, c'_2003, N_2003, rfl, h_2003_0, rfl⟩
      refine TL_p (PV_assign rfl) ?_
      refine TL_nil ?_
      refine ?L21
      case L21 =>
        refine T.perm (perm_back2 _ _ _ _) ?_
        refine T_ret ?_
        refine ret_ret (ResV_one rfl rfl) ⟨_, List.Sublist.refl _, ⟨A'_2003, c'_2003, _, rfl, ?_, rfl⟩⟩
        rw [← hps]
        refine SBlk.mono (by assumption) fun w h => h.perm ((perm_back2 _ _ _ _).symm)
theorem SBlk.nil {W : World → Prop} {A : Option Addr} {c : Nat} : SBlk W A c [] := ⟨Nat.zero_le _, [], rfl, fun w hw => ⟨rfl, fun j v h => by simp [bCells] at h⟩, fun p hp => by cases hp⟩
theorem Sn.next_qs (s : Sn) : s.next.qs = s.qs := by unfold Sn.next; split; rfl; split <;> rfl
theorem Sn.again_qs (s : Sn) : s.again.qs = s.qs := by unfold Sn.again; split <;> rfl
theorem Sn.put_qs (s : Sn) (c : Int) : (s.put c).qs = s.qs := by
  unfold Sn.put
  split
  · rfl
  · split
    · rfl
    · split
      · rw [Sn.next_qs]; rfl
      · split
        · rfl
        · split
          · split <;> rw [Sn.next_qs] <;> rfl
          · split
            · rw [Sn.again_qs]; rfl
            · rfl
theorem Sn.tick_qs (s : Sn) : s.tick.qs = s.qs := by
  unfold Sn.tick
  split
  · rfl
  · split
    · rfl
    · rw [Sn.again_qs]
theorem t56 : TCall Try.prog w0 B 7 #[] (fun r H' => r = .bool true ∧ H' = H) H := by
  have f0 : (Sn.of 3 5 [] true true).Fit := Sn.of_fit (by decide) (by simp)
  have f1 := f0.put 67
  have o1 : (Sn.of 3 5 [] true true).putOut 67 = [4] := by decide
  have o2 : ((Sn.of 3 5 [] true true).put 67).putOut 6 = [] := by decide
  have p2 : (((Sn.of 3 5 [] true true).put 67).put 6).phase = 3 := by decide
  have r2 : (((Sn.of 3 5 [] true true).put 67).put 6).err = 0 := by decide
  refine TCall_intro (args := []) Try.func7 rfl Try.ntmps7 (Nat.le_of_ble_eq_true rfl) ?_
  refine T_seq ?_
  refine T_region ?_
  refine TL_p (PV_assign rfl) ?_
  refine TL_nil ?_
  refine T_seq ?_
  refine T_region ?_
  refine TL_p (PV_bld (cs := [_, _]) Try.underlying31 pl31 zr31 rfl rfl) ?_
  refine TL_cons rfl (TO_call0 call9 rfl rfl (t58 (qs := []) _ _ _ _ ?sd2q157_4 ?sd2q157_5 ?sd2q157_6 ?sd2q157_7) ?_)
  case sd2q157_4 => exact SBlk.nil
  case sd2q157_5 => exact rfl
  case sd2q157_6 => decide
  case sd2q157_7 => (simp [Value.oneCell'])
  rintro v7_3 H7_3 ⟨g_3, A'_3, c'_3, N_3, rfl, h_3_0, rfl⟩
  refine TL_p (PV_assign rfl) ?_
  refine TL_nil ?_
  refine T_seq ?_
  refine T_seq ?_
  refine T_region ?_
  refine TL_p (PV_move rfl) ?_
  refine TL_p (PV_bin rfl rfl (bin_ptr_nil Try.underlying33)) ?_
  refine TL_nil ?_
  refine T_else rfl (by rfl) ?_
  refine T_skip ?_
  refine T_seq ?_
  refine T_region ?_
  refine TL_p (PV_move rfl) ?_
  refine TL_cons rfl (TO_call0 call12 rfl rfl (t59 _ _ ?sd5q157_2 ?sd5q157_3) ?_)
  case sd5q157_2 => exact f0
  case sd5q157_3 => exact SBlk.nil
  rintro v11_6 H11_6 ⟨A_6, k_6, rfl, h_6_0, rfl⟩
  refine TL_p (PV_assign rfl) ?_
  refine TL_nil ?_
  refine T_seq ?_
  refine T_region ?_
  refine TL_p (PV_move rfl) ?_
  refine TL_perm ((perm_pick (i := 1) rfl).trans (List.Perm.cons _ (List.Perm.refl _))) ?_
  refine TL_cons rfl (TO_call0 call12 rfl rfl (t59 _ _ ?sd8q157_2 ?sd8q157_3) ?_)
  case sd8q157_2 => exact f1
  case sd8q157_3 => exact SBlk.nil
  rintro v13_9 H13_9 ⟨A_9, k_9, rfl, h_9_0, rfl⟩
  refine TL_p (PV_assign rfl) ?_
  refine TL_nil ?_
  refine T_seq ?_
  refine T_region ?_
  refine TL_p (PV_move rfl) ?_
  refine TL_perm ((perm_pick (i := 1) rfl).trans (List.Perm.cons _ (List.Perm.refl _))) ?_
  refine TL_cons rfl (TO_call0 call16 rfl rfl (t61 _) ?_)
  rintro v16_12 H16_12 ⟨rfl, rfl⟩
  refine TL_p (PV_move rfl) ?_
  refine TL_p (PV_extract rfl rfl) ?_
  refine TL_p (PV_extract rfl rfl) ?_
  refine TL_p (PV_assign rfl) ?_
  refine TL_p (PV_assign rfl) ?_
  refine TL_nil ?_
  refine T_seq ?_
  refine T_region ?_
  refine TL_p (PV_move rfl) ?_
  refine TL_p (PV_b2s Try.underlying26 Try.underlying5 Try.underlying9 rfl (Shows.at 2 rfl)) ?_
  refine TL_p (PV_bin rfl rfl bin_str_eql) ?_
  refine TL_p (PV_move rfl) ?_
  refine TL_yes rfl rfl rfl (TO_pure rfl (PV_move rfl) ?_)
  refine TL_yes rfl rfl rfl (TO_pure rfl (PV_len_slice Try.underlying26 rfl) ?_)
  refine TL_yes rfl rfl rfl (TO_pure rfl (PV_bin rfl rfl bin_eql) ?_)
  refine TL_p (PV_pickAnd rfl rfl rfl) ?_
  refine TL_p (PV_move rfl) ?_
  refine TL_yes rfl rfl rfl (TO_pure rfl (PV_move rfl) ?_)
  refine TL_p (PV_pickAnd rfl rfl rfl) ?_
  refine TL_p (PV_move rfl) ?_
  refine TL_yes rfl rfl rfl (TO_pure rfl (PV_move rfl) ?_)
  refine TL_yes rfl rfl rfl (TO_pure rfl (PV_bin rfl rfl (bin_nil_nil Try.underlying47)) ?_)
  refine TL_p (PV_pickAnd rfl rfl rfl) ?_
  refine TL_p (PV_assign rfl) ?_
  refine TL_nil ?_
  refine T_ret ?_
  refine ret_ret (ResV_one rfl rfl) ⟨_, ?zb13q157, ⟨rfl, rfl⟩⟩
  case zb13q157 => exact (by (repeat (first | exact Sb.r | exact Sb.ar | exact Sb.al | apply Sb.c | apply Sb.d | refine Sb.t ?_)); done)
end
end Go.Proofs.Ytpfcpookdocikaa.SL
