import Derived.Test.YthdkmgeigdoglaaT6
import Derived.Test.YthdkmgeigdoglaaL7
/- LinkSafe, walked. No statement is proved here. -/
set_option linter.unusedVariables false
set_option linter.unusedSimpArgs false
set_option maxRecDepth 100000
set_option maxHeartbeats 8000000
namespace Go.Proofs.Ythdkmgeigdoglaa.SL
open Go Go.RowKit
section
variable {w0 : World} {B : Nat} {H X : List Chunk}
theorem nzCells_app : ∀ (xs ys : List Nz), nzCells (xs ++ ys) = nzCells xs ++ nzCells ys
  | [], ys => rfl
  | z :: xs, ys => by simp only [List.cons_append, nzCells, nzCells_app xs ys]
/-- noise behind the number -/
def adjS (z : Nz) : Nz := ⟨z.lost, 3 + Int.tmod (Int.tmod z.at_ 100 + 100) 100, z.by_⟩
theorem tmod100 (b : Int) : 0 ≤ Int.tmod (Int.tmod b 100 + 100) 100 ∧ Int.tmod (Int.tmod b 100 + 100) 100 < 100 ∧ -100 < Int.tmod b 100 ∧ Int.tmod b 100 < 100 := by
  have h1 := Int.tmod_lt_of_pos b (show (0 : Int) < 100 by decide)
  have h2 : -100 < Int.tmod b 100 := by
    have := Int.tmod_lt_of_pos (-b) (show (0 : Int) < 100 by decide)
    rw [Int.neg_tmod] at this
    omega
  exact ⟨Int.tmod_nonneg _ (by omega), Int.tmod_lt_of_pos _ (by decide), h2, h1⟩
theorem adjS_ok (ns : List Nz) : ∀ z ∈ ns.map adjS, 3 ≤ z.at_ ∧ z.at_ ≤ 102 := fun z hz => by
  obtain ⟨y, _, rfl⟩ := List.mem_map.1 hz
  have := tmod100 y.at_
  show 3 ≤ 3 + Int.tmod (Int.tmod y.at_ 100 + 100) 100 ∧ 3 + Int.tmod (Int.tmod y.at_ 100 + 100) 100 ≤ 102
  omega
theorem str_take (l : List Int) (n : Nat) : (strOfNums l).extract 0 n = strOfNums (l.take n) := by
  apply ByteArray.ext
  simp [ByteArray.data_extract, strOfNums, List.map_take]
theorem flat128 : ∀ (qs : List (List Int)), (∀ q ∈ qs, q.length = 128) → qs.flatten.length = 128 * qs.length
  | [], h => rfl
  | q :: qs, h => by
    have h1 := flat128 qs (fun x hx => h x (List.mem_cons_of_mem _ hx))
    have h2 := h q List.mem_cons_self
    rw [List.flatten_cons, List.length_append, List.length_cons]
    omega
theorem LinkSafe_t {A An : Option Addr} {m c cn mz : Nat} {l : List Int} {ns : List Nz} (a b : Int) (mn : Nat) (crc : Bool) (hS : Shows (WH w0 B H) A m 1 (nums .u8 l)) (hlm : l.length = m) (hl : m ≤ 9223372036854775807) (hc : m ≤ c) (hu : U8s l) (hmn : mn ≤ 255) (hN : Shows (WH w0 B H) An mz 3 (nzCells ns)) (hmz : ns.length = mz) (hy : mz * 24 ≤ 140737488351232) :
    TCall Try.prog w0 B 31 #[.agg #[.int .i64 a, .int .i64 b], .slice A m c, .int .u8 (mn : Int), .bool crc, .slice An mz cn] (fun r H' => r = .bool true ∧ H' = H) H := by
  have hq : ∀ q ∈ blksL l false (mn % 5), U8s q ∧ (q.length = 128 ∨ q.length = 1024) := blksL_num (by omega)
  have hln : (blksL l false (mn % 5)).length = mn % 5 := blksL_len _ _ _
  obtain ⟨t1, t2, t3, t4⟩ := tmod5 b
  have hw : 2 ≤ waitL b := by unfold waitL; omega
  have e22 : Value.int .i64 (IntKind.i64.wrap (Int.tmod b 5 + 5)) = .int .i64 (Int.tmod b 5 + 5) := wr64 (by omega)
  have e24 : Value.int .i64 (IntKind.i64.wrap (2 + Int.tmod (Int.tmod b 5 + 5) 5)) = .int .i64 (waitL b) := wr64 (by omega)
  refine TCall_intro (args := [_, _, _, _, _]) Try.func31 rfl Try.ntmps31 (Nat.le_of_ble_eq_true rfl) ?_
  refine T_seq ?_
  refine T_region ?_
  refine TL_cons rfl (TO_box rfl rfl fun g1 => ?_)
  refine TL_pure (d := (some 10)) rfl rfl rfl (PV_assign rfl) ?_
  refine TL_nil ?_
  refine T_seq ?_
  refine T_seq ?_
  refine T_region ?_
  refine TL_cons rfl (TO_call0 call79 rfl rfl (t79) ?_)
  rintro v17_4 H17_4 ⟨rfl, rfl⟩
  refine TL_pure (d := (some 18)) rfl rfl rfl (PV_not rfl) ?_
  refine TL_nil ?_
  refine T_else rfl (by rfl) ?_
  refine T_skip ?_
  refine T_seq ?_
  refine T_region ?_
  refine TL_pure (d := (some 19)) rfl rfl rfl (PV_fieldAddr (D := 1) Try.underlying79 rfl sz3 (by decide) rfl rfl) ?_
  refine TL_pure (d := (some 20)) rfl rfl rfl (PV_load Try.underlying3 rfl rfl (Rd.at 0 rfl rfl)) ?_
  refine TL_pure (d := (some 21)) rfl rfl rfl (PV_bin rfl rfl (bin_rem (by decide))) ?_
  refine TL_pure (d := (some 22)) rfl rfl rfl (PV.cast (PV_bin rfl rfl bin_add) e22) ?_
  refine TL_pure (d := (some 23)) rfl rfl rfl (PV_bin rfl rfl (bin_rem (by decide))) ?_
  refine TL_pure (d := (some 24)) rfl rfl rfl (PV.cast (PV_bin rfl rfl bin_add) e24) ?_
  refine TL_pure (d := (some 25)) rfl rfl rfl (PV_fieldAddr (D := 1) Try.underlying79 rfl sz3 (by decide) rfl rfl) ?_
  refine TL_cons rfl (TO_store1 0 rfl rfl rfl sz3 rfl rfl rfl (by first | exact Nat.le_of_ble_eq_true rfl | (simp; done) | (simp; omega) | omega) ?_)
  refine TL_nil ?_
  refine T_seq ?_
  refine T_region ?_
  refine TL_pure (d := (some 26)) rfl rfl rfl (PV_move rfl) ?_
  refine TL_pure (d := (some 27)) rfl rfl rfl (PV_move rfl) ?_
  refine TL_cons rfl (TO_call0 call57 rfl rfl (t57 mn false (Shows.mono hS (fun w h => h.sub (by (repeat (first | exact List.Sublist.refl _ | exact List.sublist_append_right _ _ | exact List.sublist_append_left _ _ | apply List.Sublist.cons | refine List.Sublist.trans ?_ (List.sublist_append_left _ _))); done))) ?sd7q48_1 ?sd7q48_2 ?sd7q48_3 ?sd7q48_4 ?sd7q48_5) ?_)
  case sd7q48_1 => omega
  case sd7q48_2 => exact hl
  case sd7q48_3 => exact hc
  case sd7q48_4 => exact hu
  case sd7q48_5 => exact hmn
  rintro v28_8 H28_8 ⟨A'_8, c'_8, N_8, rfl, h_8_0, rfl⟩
  refine TL_pure (d := (some 11)) rfl rfl rfl (PV_assign rfl) ?_
  refine TL_nil ?_
  refine T_seq ?_
  refine T_region ?_
  refine TL_pure (d := (some 12)) rfl rfl rfl (PV_assign rfl) ?_
  refine TL_nil ?_
  refine T_seq ?_
  refine T_seq ?_
  refine T_region ?_
  refine TL_pure (d := (some 29)) rfl rfl rfl (PV_move rfl) ?_
  refine TL_pure (d := (some 30)) rfl rfl rfl (PV_len_slice Try.underlying114 rfl) ?_
  refine TL_pure (d := (some 31)) rfl rfl rfl (PV_move rfl) ?_
  refine TL_nil ?_
  refine T_block ?_
  refine ?L1
  case L1 =>
    refine T_addNil 3 ?_
    refine T_loopP3 (fun (i : Nat) (Ao : Option Addr) (co : Nat) => i ≤ mz ∧ i ≤ co) (fun i _ _ => mz - i) (fun i Ao co => [(3, .bool crc), (5, .pointer (some ⟨g1, 0, none⟩)), (10, .bool false), (11, .slice A'_8 (mn % 5) c'_8), (12, .slice Ao i co), (29, .slice An mz cn), (30, .int .i64 (mz : Int)), (31, .int .i64 (i : Int))]) (fun i Ao co => .sl (.slice Ao i co) 3 i (nzCells ((ns.take i).map adjS)) :: .own g1 2 [.int .i64 a, .int .i64 (waitL b)] :: (H ++ N_8)) 0 none 0 ⟨Nat.zero_le _, Nat.le_refl _⟩ (by repeat (first | exact FrSub.nil _ | refine FrSub.cons rfl ?_)) (Has.of_sub (by repeat (first | exact List.Sublist.refl _ | exact List.sublist_append_right _ _ | exact List.sublist_append_left _ _ | apply List.Sublist.cons_cons | apply List.Sublist.cons | refine List.Sublist.trans ?_ (List.sublist_append_left _ _)))) ?_
    rintro i Ao co ⟨hi, hic⟩
    by_cases him : i < mz
    · obtain ⟨z, hz⟩ : ∃ z, ns[i]? = some z := ⟨ns[i], List.getElem?_eq_getElem (by omega)⟩
      refine T_shows (hN.mono fun w h => h.sub (by repeat (first | exact List.Sublist.refl _ | exact List.sublist_append_right _ _ | exact List.sublist_append_left _ _ | apply List.Sublist.cons | refine List.Sublist.trans ?_ (List.sublist_append_left _ _)))) (by rw [nzCells_len]; omega) fun ga oa hA hrd => ?_
      subst hA
      have hds : RdsK (WH w0 B H) ga (oa + i * 3) 3 [.bool z.lost, .int .i64 z.at_, .int .u8 z.by_] := nz_rds hN i z hz
      have tm := tmod100 z.at_
      have e38 : Value.int .i64 (IntKind.i64.wrap (Int.tmod z.at_ 100 + 100)) = .int .i64 (Int.tmod z.at_ 100 + 100) := wr64 (by omega)
      have e40 : Value.int .i64 (IntKind.i64.wrap (3 + Int.tmod (Int.tmod z.at_ 100 + 100) 100)) = .int .i64 (3 + Int.tmod (Int.tmod z.at_ 100 + 100) 100) := wr64 (by omega)
      have hcell : nzCells ((ns.take (i + 1)).map adjS) = nzCells ((ns.take i).map adjS) ++ [.bool z.lost, .int .i64 (3 + Int.tmod (Int.tmod z.at_ 100 + 100) 100), .int .u8 z.by_] := by
        rw [List.take_add_one (i := i), hz, List.map_append, nzCells_app]
        rfl
      have hlc : (nzCells ((ns.take i).map adjS)).length = i * 3 := by rw [nzCells_len, List.length_map, List.length_take, Nat.min_eq_left (by omega)]
      refine T_seq ?_
      refine T_region ?_
      refine TL_pure (d := (some 32)) rfl rfl rfl (PV_bin rfl rfl bin_lss) ?_
      refine TL_nil ?_
      refine T_seq ?_
      refine T_then rfl (by exact decide_eq_true (by omega)) ?_
      refine T_skip ?_
      refine T_seq ?_
      refine T_block ?_
      refine T_seq ?_
      refine T_region ?_
      refine TL_pure (d := (some 33)) rfl rfl rfl (PV_indexAddr Try.underlying114 sz119 rfl rfl rfl (by first | omega | decide | assumption)) ?_
      refine TL_pure (d := (some 34)) rfl rfl rfl (PV_loadAt Try.underlying119 rfl sz119 rfl (RdsK.mono hds (fun w h => h.sub (by (repeat (first | exact List.Sublist.refl _ | exact List.sublist_append_right _ _ | exact List.sublist_append_left _ _ | apply List.Sublist.cons | refine List.Sublist.trans ?_ (List.sublist_append_left _ _))); done)))) ?_
      refine TL_cons rfl (TO_alloc rfl zr119 fun g101 => ?_)
      refine TL_cons rfl (TO_store 0 rfl rfl rfl sz119 rfl rfl rfl (List.forall_mem_cons.2 ⟨by first | rfl, List.forall_mem_cons.2 ⟨by first | rfl, List.forall_mem_cons.2 ⟨by first | rfl, by simp⟩⟩⟩) (by first | exact Nat.le_of_ble_eq_true rfl | (simp; done) | (simp; omega) | omega) ?_)
      refine TL_nil ?_
      refine T_seq ?_
      refine T_region ?_
      refine TL_pure (d := (some 35)) rfl rfl rfl (PV_fieldAddr (D := 1) Try.underlying119 rfl sz3 (by decide) rfl rfl) ?_
      refine TL_pure (d := (some 36)) rfl rfl rfl (PV_load Try.underlying3 rfl rfl (Rd.at 0 rfl rfl)) ?_
      refine TL_pure (d := (some 37)) rfl rfl rfl (PV_bin rfl rfl (bin_rem (by decide))) ?_
      refine TL_pure (d := (some 38)) rfl rfl rfl (PV.cast (PV_bin rfl rfl bin_add) e38) ?_
      refine TL_pure (d := (some 39)) rfl rfl rfl (PV_bin rfl rfl (bin_rem (by decide))) ?_
      refine TL_pure (d := (some 40)) rfl rfl rfl (PV.cast (PV_bin rfl rfl bin_add) e40) ?_
      refine TL_pure (d := (some 41)) rfl rfl rfl (PV_fieldAddr (D := 1) Try.underlying119 rfl sz3 (by decide) rfl rfl) ?_
      refine TL_cons rfl (TO_store1 0 rfl rfl rfl sz3 rfl rfl rfl (by first | exact Nat.le_of_ble_eq_true rfl | (simp; done) | (simp; omega) | omega) ?_)
      refine TL_nil ?_
      refine T_region ?_
      refine TL_pure (d := (some 42)) rfl rfl rfl (PV_move rfl) ?_
      refine TL_pure (d := (some 43)) rfl rfl rfl (PV_loadAt Try.underlying119 rfl sz119 rfl (Rds.take 0 rfl rfl rfl)) ?_
      refine TL_cons rfl (TO_bs (cs := [_, _, _]) Try.underlying114 zs119 (by decide) rfl rfl rfl rfl rfl rfl fun g104 => ?_)
      refine TL_cons rfl (TO_append 2 rfl Try.underlying114 zb119 rfl (by decide) rfl rfl rfl (Shows.at 0 rfl) ?oc105q70 ?bb105q70 ?bc105q70 fun A105 c105 hc105 => ?_)
      case oc105q70 => (simp [Value.oneCell'])
      case bb105q70 => omega
      case bc105q70 => omega
      refine TL_pure (d := (some 12)) rfl rfl rfl (PV_assign rfl) ?_
      refine TL_nil ?_
      refine T_region ?_
      refine TL_pure (d := (some 46)) rfl rfl rfl (PV.cast (PV_bin rfl rfl bin_add) (wr64 (by omega))) ?_
      refine TL_pure (d := (some 31)) rfl rfl rfl (PV_move rfl) ?_
      refine TL_nil ?_
      refine ?L2
      case L2 =>
        refine ⟨i + 1, A105, c105, ⟨by omega, by omega⟩, by omega, (by repeat (first | exact FrSub.nil _ | refine FrSub.cons rfl ?_)), ?_⟩
        rw [hcell]
        exact Has.of_sub (by repeat (first | exact List.Sublist.refl _ | exact List.sublist_append_right _ _ | exact List.sublist_append_left _ _ | apply List.Sublist.cons_cons | apply List.Sublist.cons | refine List.Sublist.trans ?_ (List.sublist_append_left _ _)))
    · obtain rfl : i = mz := by omega
      have ht : ns.take i = ns := List.take_of_length_le (by omega)
      rw [ht]
      have hqs : ∀ q ∈ blksL l false (mn % 5), U8s q ∧ q.length = 128 := fun q hqm => by
        obtain ⟨j, hj, rfl⟩ := List.mem_map.1 hqm
        exact ⟨(hq _ hqm).1, blkL_len _ _ _⟩
      obtain ⟨fx, hfx⟩ : ∃ x, (Lk.start (Sn.of a (waitL b) (blksL l false (mn % 5)) crc true) (Rc.of a (waitL b) 1 crc true 1)).run (ns.map adjS) 500 = x := ⟨_, rfl⟩
      obtain ⟨k, hk, hdat, hall⟩ := safe_run (a := a) (crc := crc) (adjS_ok ns) hw hqs (by omega) 499
      rw [hfx] at hdat hall
      have hml2 : (ns.map adjS).length = i := by rw [List.length_map]; exact hmz
      refine T_seq ?_
      refine T_region ?_
      refine TL_pure (d := (some 32)) rfl rfl rfl (PV_bin rfl rfl bin_lss) ?_
      refine TL_nil ?_
      refine T_seq ?_
      refine T_else rfl (by (simp; done)) ?_
      refine T_exit ?_
      refine T_seq ?_
      refine ?L201
      case L201 =>
        refine T_mid3 (fun (gx : Nat) (Ax : Option Addr) (kx : Nat) => fx.r.dat.length ≤ kx) (fun gx Ax kx => [(10, .bool false), (11, .slice A'_8 (mn % 5) c'_8), (15, .pointer (some ⟨gx, 0, none⟩))]) (fun gx Ax kx => .own gx 6 [.bool fx.ov, errV fx.e1, errR fx.e2, .slice Ax fx.r.dat.length kx, .int .i64 (fx.ticks : Int), .int .i64 (fx.sent : Int)] :: byC Ax kx fx.r.dat :: .own g1 2 [.int .i64 a, .int .i64 (waitL b)] :: (H ++ N_8)) ?_ ?_
        · refine T_drawn (WH _ _ _) mixed (fun w h => h) ?_
          refine TA_take (dd := (some 47)) 0 rfl (by kernel_rfl) (by kernel_rfl) (by kernel_rfl) rfl rfl rfl (PV_loadAt Try.underlying79 rfl sz79 rfl (Rds.take 1 rfl rfl rfl)) ?_
          refine TA_take (dd := (some 48)) 1 rfl (by kernel_rfl) (by kernel_rfl) (by kernel_rfl) rfl rfl rfl (PV_move rfl) ?_
          refine TA_take (dd := (some 49)) 2 rfl (by kernel_rfl) (by kernel_rfl) (by kernel_rfl) rfl rfl rfl (PV_move rfl) ?_
          refine TA_take (dd := (some 51)) 4 rfl (by kernel_rfl) (by kernel_rfl) (by kernel_rfl) rfl rfl rfl (PV_loadAt Try.underlying79 rfl sz79 rfl (Rds.take 1 rfl rfl rfl)) ?_
          refine TA_take (dd := (some 52)) 5 rfl (by kernel_rfl) (by kernel_rfl) (by kernel_rfl) rfl rfl rfl (PV_move rfl) ?_
          refine TA_take (dd := (some 54)) 7 rfl (by kernel_rfl) (by kernel_rfl) (by kernel_rfl) rfl rfl rfl (PV_move rfl) ?_
          refine TA_hardG (rs := [3, 9]) (by kernel_rfl) (by decide) ?_
          refine List.forall_mem_cons.2 ⟨?w30001q93_3, List.forall_mem_cons.2 ⟨?w30001q93_9, by simp⟩⟩
          refine ⟨_, rfl, Or.inl rfl, (TO_call0 call58 rfl rfl (t58 _ _ _ _ ?sd30004q93_4 hln ?sd30004q93_6 ?sd30004q93_7) ?_)⟩
          case sd30004q93_4 => exact SBlk.mono h_8_0 (fun w h => h.sub (by (repeat (first | exact List.Sublist.refl _ | exact List.sublist_append_right _ _ | exact List.sublist_append_left _ _ | apply List.Sublist.cons | refine List.Sublist.trans ?_ (List.sublist_append_left _ _))); done))
          case sd30004q93_6 => omega
          case sd30004q93_7 => with_reducible assumption
          rintro v50_30005 H50_30005 ⟨g_30005, A'_30005, c'_30005, N_30005, rfl, h_30005_0, rfl⟩
          refine ⟨by intro w h; first | exact h | exact trivial | (refine WH.sub h ?_; (repeat (first | exact List.Sublist.refl _ | exact List.sublist_append_right _ _ | exact List.sublist_append_left _ _ | apply List.Sublist.cons | refine List.Sublist.trans ?_ (List.sublist_append_left _ _))); done) | (refine WH.sub h ?_; (repeat (first | exact List.Sublist.refl _ | exact List.sublist_append_right _ _ | exact List.sublist_append_left _ _ | apply List.Sublist.cons_cons | apply List.Sublist.cons | refine List.Sublist.trans ?_ (List.sublist_append_left _ _))); done), ?_⟩
          refine TA_hardG (rs := [6, 9]) (by kernel_rfl) (by decide) ?_
          refine List.forall_mem_cons.2 ⟨?w30006q93_6, List.forall_mem_cons.2 ⟨?w30006q93_9, by simp⟩⟩
          refine ⟨_, rfl, Or.inl rfl, (TO_call0 call69 rfl rfl (t69 _ _ _ _ _ _) ?_)⟩
          rintro v53_30010 H53_30010 ⟨g_30010, rfl, rfl⟩
          refine ⟨by intro w h; first | exact h | exact trivial | (refine WH.sub h ?_; (repeat (first | exact List.Sublist.refl _ | exact List.sublist_append_right _ _ | exact List.sublist_append_left _ _ | apply List.Sublist.cons | refine List.Sublist.trans ?_ (List.sublist_append_left _ _))); done) | (refine WH.sub h ?_; (repeat (first | exact List.Sublist.refl _ | exact List.sublist_append_right _ _ | exact List.sublist_append_left _ _ | apply List.Sublist.cons_cons | apply List.Sublist.cons | refine List.Sublist.trans ?_ (List.sublist_append_left _ _))); done), ?_⟩
          refine TA_hardG (rs := [8, 9]) (by kernel_rfl) (by decide) ?_
          refine List.forall_mem_cons.2 ⟨?w30011q93_8, List.forall_mem_cons.2 ⟨?w30011q93_9, by simp⟩⟩
          refine ⟨_, rfl, Or.inl rfl, TO_perm ((perm_pick (i := 3) rfl).trans (List.Perm.cons _ ((perm_pick (i := 0) rfl).trans (List.Perm.cons _ ((perm_pick (i := 0) rfl).trans (List.Perm.cons _ ((perm_pick (i := 0) rfl).trans (List.Perm.cons _ (List.Perm.refl _))))))))) (TO_call0 call80 rfl rfl (t80m (ns := ns.map adjS) fx ?sd30014q93_0 ?sd30014q93_1 ?sd30014q93_2 ?sd30014q93_3 ?sd30014q93_4 ?sd30014q93_5 ?sd30014q93_6) ?_)⟩
          case sd30014q93_0 => exact Shows.at 0 rfl
          case sd30014q93_1 => omega
          case sd30014q93_2 => exact h_30005_0
          case sd30014q93_3 => decide
          case sd30014q93_4 => with_reducible assumption
          case sd30014q93_5 => omega
          case sd30014q93_6 => omega
          rintro v55_30015 H55_30015 ⟨A_30015, k_30015, rfl, h_30015_0, rfl⟩
          refine ⟨by intro w h; first | exact h | exact trivial | (refine WH.sub h ?_; (repeat (first | exact List.Sublist.refl _ | exact List.sublist_append_right _ _ | exact List.sublist_append_left _ _ | apply List.Sublist.cons | refine List.Sublist.trans ?_ (List.sublist_append_left _ _))); done) | (refine WH.sub h ?_; (repeat (first | exact List.Sublist.refl _ | exact List.sublist_append_right _ _ | exact List.sublist_append_left _ _ | apply List.Sublist.cons_cons | apply List.Sublist.cons | refine List.Sublist.trans ?_ (List.sublist_append_left _ _))); done), ?_⟩
          refine TA_one 9 (by kernel_rfl) rfl rfl (TO_alloc rfl zr116 fun g30016 => ?_)
          refine ⟨by intro w h; first | exact h | exact trivial | (refine WH.sub h ?_; (repeat (first | exact List.Sublist.refl _ | exact List.sublist_append_right _ _ | exact List.sublist_append_left _ _ | apply List.Sublist.cons | refine List.Sublist.trans ?_ (List.sublist_append_left _ _))); done) | (refine WH.sub h ?_; (repeat (first | exact List.Sublist.refl _ | exact List.sublist_append_right _ _ | exact List.sublist_append_left _ _ | apply List.Sublist.cons_cons | apply List.Sublist.cons | refine List.Sublist.trans ?_ (List.sublist_append_left _ _))); done), ?_⟩
          refine TA_one 10 (by kernel_rfl) rfl rfl (TO_store 0 rfl rfl rfl sz116 rfl rfl rfl (List.forall_mem_cons.2 ⟨by first | rfl | exact errV_one _ | exact errR_one _, List.forall_mem_cons.2 ⟨by first | rfl | exact errV_one _ | exact errR_one _, List.forall_mem_cons.2 ⟨by first | rfl | exact errV_one _ | exact errR_one _, List.forall_mem_cons.2 ⟨by first | rfl | exact errV_one _ | exact errR_one _, List.forall_mem_cons.2 ⟨by first | rfl | exact errV_one _ | exact errR_one _, List.forall_mem_cons.2 ⟨by first | rfl | exact errV_one _ | exact errR_one _, by simp⟩⟩⟩⟩⟩⟩) (by first | exact Nat.le_of_ble_eq_true rfl | (simp; done) | (simp; omega) | omega) ?_)
          refine ⟨by intro w h; first | exact h | exact trivial | (refine WH.sub h ?_; (repeat (first | exact List.Sublist.refl _ | exact List.sublist_append_right _ _ | exact List.sublist_append_left _ _ | apply List.Sublist.cons | refine List.Sublist.trans ?_ (List.sublist_append_left _ _))); done) | (refine WH.sub h ?_; (repeat (first | exact List.Sublist.refl _ | exact List.sublist_append_right _ _ | exact List.sublist_append_left _ _ | apply List.Sublist.cons_cons | apply List.Sublist.cons | refine List.Sublist.trans ?_ (List.sublist_append_left _ _))); done), ?_⟩
          refine TA_done (by kernel_rfl) ?_
          refine ?L301
          rotate_left 1
          refine ⟨_, rfl, Or.inl rfl, (TO_alloc rfl zr116 fun g30013 => ?_)⟩
          refine ⟨by intro w h; first | exact h | exact trivial | (refine WH.sub h ?_; (repeat (first | exact List.Sublist.refl _ | exact List.sublist_append_right _ _ | exact List.sublist_append_left _ _ | apply List.Sublist.cons | refine List.Sublist.trans ?_ (List.sublist_append_left _ _))); done) | (refine WH.sub h ?_; (repeat (first | exact List.Sublist.refl _ | exact List.sublist_append_right _ _ | exact List.sublist_append_left _ _ | apply List.Sublist.cons_cons | apply List.Sublist.cons | refine List.Sublist.trans ?_ (List.sublist_append_left _ _))); done), ?_⟩
          refine TA_perm ((perm_pick (i := 4) rfl).trans (List.Perm.cons _ ((perm_pick (i := 1) rfl).trans (List.Perm.cons _ ((perm_pick (i := 1) rfl).trans (List.Perm.cons _ ((perm_pick (i := 1) rfl).trans (List.Perm.cons _ (List.Perm.refl _))))))))) ?_
          refine TA_one 8 (by kernel_rfl) rfl rfl (TO_call0 call80 rfl rfl (t80m (ns := ns.map adjS) fx (Shows.at 1 rfl) ?sd30019q93_1 ?sd30019q93_2 ?sd30019q93_3 ?sd30019q93_4 ?sd30019q93_5 ?sd30019q93_6) ?_)
          case sd30019q93_1 => omega
          case sd30019q93_2 => exact SBlk.mono h_30005_0 (fun w h => h.sub (by (repeat (first | exact List.Sublist.refl _ | exact List.sublist_append_right _ _ | exact List.sublist_append_left _ _ | apply List.Sublist.cons | refine List.Sublist.trans ?_ (List.sublist_append_left _ _))); done))
          case sd30019q93_3 => decide
          case sd30019q93_4 => with_reducible assumption
          case sd30019q93_5 => omega
          case sd30019q93_6 => omega
          rintro v55_30020 H55_30020 ⟨A_30020, k_30020, rfl, h_30020_0, rfl⟩
          refine ⟨by intro w h; first | exact h | exact trivial | (refine WH.sub h ?_; (repeat (first | exact List.Sublist.refl _ | exact List.sublist_append_right _ _ | exact List.sublist_append_left _ _ | apply List.Sublist.cons | refine List.Sublist.trans ?_ (List.sublist_append_left _ _))); done) | (refine WH.sub h ?_; (repeat (first | exact List.Sublist.refl _ | exact List.sublist_append_right _ _ | exact List.sublist_append_left _ _ | apply List.Sublist.cons_cons | apply List.Sublist.cons | refine List.Sublist.trans ?_ (List.sublist_append_left _ _))); done), ?_⟩
          refine TA_one 10 (by kernel_rfl) rfl rfl (TO_store 1 rfl rfl rfl sz116 rfl rfl rfl (List.forall_mem_cons.2 ⟨by first | rfl | exact errV_one _ | exact errR_one _, List.forall_mem_cons.2 ⟨by first | rfl | exact errV_one _ | exact errR_one _, List.forall_mem_cons.2 ⟨by first | rfl | exact errV_one _ | exact errR_one _, List.forall_mem_cons.2 ⟨by first | rfl | exact errV_one _ | exact errR_one _, List.forall_mem_cons.2 ⟨by first | rfl | exact errV_one _ | exact errR_one _, List.forall_mem_cons.2 ⟨by first | rfl | exact errV_one _ | exact errR_one _, by simp⟩⟩⟩⟩⟩⟩) (by first | exact Nat.le_of_ble_eq_true rfl | (simp; done) | (simp; omega) | omega) ?_)
          refine ⟨by intro w h; first | exact h | exact trivial | (refine WH.sub h ?_; (repeat (first | exact List.Sublist.refl _ | exact List.sublist_append_right _ _ | exact List.sublist_append_left _ _ | apply List.Sublist.cons | refine List.Sublist.trans ?_ (List.sublist_append_left _ _))); done) | (refine WH.sub h ?_; (repeat (first | exact List.Sublist.refl _ | exact List.sublist_append_right _ _ | exact List.sublist_append_left _ _ | apply List.Sublist.cons_cons | apply List.Sublist.cons | refine List.Sublist.trans ?_ (List.sublist_append_left _ _))); done), ?_⟩
          refine TA_done (by kernel_rfl) ?_
          refine ?L302
          rotate_left 1
          refine ⟨_, rfl, Or.inl rfl, (TO_alloc rfl zr116 fun g30008 => ?_)⟩
          refine ⟨by intro w h; first | exact h | exact trivial | (refine WH.sub h ?_; (repeat (first | exact List.Sublist.refl _ | exact List.sublist_append_right _ _ | exact List.sublist_append_left _ _ | apply List.Sublist.cons | refine List.Sublist.trans ?_ (List.sublist_append_left _ _))); done) | (refine WH.sub h ?_; (repeat (first | exact List.Sublist.refl _ | exact List.sublist_append_right _ _ | exact List.sublist_append_left _ _ | apply List.Sublist.cons_cons | apply List.Sublist.cons | refine List.Sublist.trans ?_ (List.sublist_append_left _ _))); done), ?_⟩
          refine TA_one 6 (by kernel_rfl) rfl rfl (TO_call0 call69 rfl rfl (t69 _ _ _ _ _ _) ?_)
          rintro v53_30024 H53_30024 ⟨g_30024, rfl, rfl⟩
          refine ⟨by intro w h; first | exact h | exact trivial | (refine WH.sub h ?_; (repeat (first | exact List.Sublist.refl _ | exact List.sublist_append_right _ _ | exact List.sublist_append_left _ _ | apply List.Sublist.cons | refine List.Sublist.trans ?_ (List.sublist_append_left _ _))); done) | (refine WH.sub h ?_; (repeat (first | exact List.Sublist.refl _ | exact List.sublist_append_right _ _ | exact List.sublist_append_left _ _ | apply List.Sublist.cons_cons | apply List.Sublist.cons | refine List.Sublist.trans ?_ (List.sublist_append_left _ _))); done), ?_⟩
          refine TA_perm ((perm_pick (i := 4) rfl).trans (List.Perm.cons _ ((perm_pick (i := 0) rfl).trans (List.Perm.cons _ ((perm_pick (i := 0) rfl).trans (List.Perm.cons _ ((perm_pick (i := 0) rfl).trans (List.Perm.cons _ (List.Perm.refl _))))))))) ?_
          refine TA_one 8 (by kernel_rfl) rfl rfl (TO_call0 call80 rfl rfl (t80m (ns := ns.map adjS) fx (Shows.at 1 rfl) ?sd30026q93_1 ?sd30026q93_2 ?sd30026q93_3 ?sd30026q93_4 ?sd30026q93_5 ?sd30026q93_6) ?_)
          case sd30026q93_1 => omega
          case sd30026q93_2 => exact SBlk.mono h_30005_0 (fun w h => h.sub (by (repeat (first | exact List.Sublist.refl _ | exact List.sublist_append_right _ _ | exact List.sublist_append_left _ _ | apply List.Sublist.cons | refine List.Sublist.trans ?_ (List.sublist_append_left _ _))); done))
          case sd30026q93_3 => decide
          case sd30026q93_4 => with_reducible assumption
          case sd30026q93_5 => omega
          case sd30026q93_6 => omega
          rintro v55_30027 H55_30027 ⟨A_30027, k_30027, rfl, h_30027_0, rfl⟩
          refine ⟨by intro w h; first | exact h | exact trivial | (refine WH.sub h ?_; (repeat (first | exact List.Sublist.refl _ | exact List.sublist_append_right _ _ | exact List.sublist_append_left _ _ | apply List.Sublist.cons | refine List.Sublist.trans ?_ (List.sublist_append_left _ _))); done) | (refine WH.sub h ?_; (repeat (first | exact List.Sublist.refl _ | exact List.sublist_append_right _ _ | exact List.sublist_append_left _ _ | apply List.Sublist.cons_cons | apply List.Sublist.cons | refine List.Sublist.trans ?_ (List.sublist_append_left _ _))); done), ?_⟩
          refine TA_one 10 (by kernel_rfl) rfl rfl (TO_store 1 rfl rfl rfl sz116 rfl rfl rfl (List.forall_mem_cons.2 ⟨by first | rfl | exact errV_one _ | exact errR_one _, List.forall_mem_cons.2 ⟨by first | rfl | exact errV_one _ | exact errR_one _, List.forall_mem_cons.2 ⟨by first | rfl | exact errV_one _ | exact errR_one _, List.forall_mem_cons.2 ⟨by first | rfl | exact errV_one _ | exact errR_one _, List.forall_mem_cons.2 ⟨by first | rfl | exact errV_one _ | exact errR_one _, List.forall_mem_cons.2 ⟨by first | rfl | exact errV_one _ | exact errR_one _, by simp⟩⟩⟩⟩⟩⟩) (by first | exact Nat.le_of_ble_eq_true rfl | (simp; done) | (simp; omega) | omega) ?_)
          refine ⟨by intro w h; first | exact h | exact trivial | (refine WH.sub h ?_; (repeat (first | exact List.Sublist.refl _ | exact List.sublist_append_right _ _ | exact List.sublist_append_left _ _ | apply List.Sublist.cons | refine List.Sublist.trans ?_ (List.sublist_append_left _ _))); done) | (refine WH.sub h ?_; (repeat (first | exact List.Sublist.refl _ | exact List.sublist_append_right _ _ | exact List.sublist_append_left _ _ | apply List.Sublist.cons_cons | apply List.Sublist.cons | refine List.Sublist.trans ?_ (List.sublist_append_left _ _))); done), ?_⟩
          refine TA_done (by kernel_rfl) ?_
          refine ?L303
          rotate_left 1
          refine ⟨_, rfl, Or.inl rfl, (TO_alloc rfl zr116 fun g30003 => ?_)⟩
          refine ⟨by intro w h; first | exact h | exact trivial | (refine WH.sub h ?_; (repeat (first | exact List.Sublist.refl _ | exact List.sublist_append_right _ _ | exact List.sublist_append_left _ _ | apply List.Sublist.cons | refine List.Sublist.trans ?_ (List.sublist_append_left _ _))); done) | (refine WH.sub h ?_; (repeat (first | exact List.Sublist.refl _ | exact List.sublist_append_right _ _ | exact List.sublist_append_left _ _ | apply List.Sublist.cons_cons | apply List.Sublist.cons | refine List.Sublist.trans ?_ (List.sublist_append_left _ _))); done), ?_⟩
          refine TA_one 3 (by kernel_rfl) rfl rfl (TO_call0 call58 rfl rfl (t58 _ _ _ _ ?sd30030q93_4 hln ?sd30030q93_6 ?sd30030q93_7) ?_)
          case sd30030q93_4 => exact SBlk.mono h_8_0 (fun w h => h.sub (by (repeat (first | exact List.Sublist.refl _ | exact List.sublist_append_right _ _ | exact List.sublist_append_left _ _ | apply List.Sublist.cons | refine List.Sublist.trans ?_ (List.sublist_append_left _ _))); done))
          case sd30030q93_6 => omega
          case sd30030q93_7 => with_reducible assumption
          rintro v50_30031 H50_30031 ⟨g_30031, A'_30031, c'_30031, N_30031, rfl, h_30031_0, rfl⟩
          refine ⟨by intro w h; first | exact h | exact trivial | (refine WH.sub h ?_; (repeat (first | exact List.Sublist.refl _ | exact List.sublist_append_right _ _ | exact List.sublist_append_left _ _ | apply List.Sublist.cons | refine List.Sublist.trans ?_ (List.sublist_append_left _ _))); done) | (refine WH.sub h ?_; (repeat (first | exact List.Sublist.refl _ | exact List.sublist_append_right _ _ | exact List.sublist_append_left _ _ | apply List.Sublist.cons_cons | apply List.Sublist.cons | refine List.Sublist.trans ?_ (List.sublist_append_left _ _))); done), ?_⟩
          refine TA_one 6 (by kernel_rfl) rfl rfl (TO_call0 call69 rfl rfl (t69 _ _ _ _ _ _) ?_)
          rintro v53_30034 H53_30034 ⟨g_30034, rfl, rfl⟩
          refine ⟨by intro w h; first | exact h | exact trivial | (refine WH.sub h ?_; (repeat (first | exact List.Sublist.refl _ | exact List.sublist_append_right _ _ | exact List.sublist_append_left _ _ | apply List.Sublist.cons | refine List.Sublist.trans ?_ (List.sublist_append_left _ _))); done) | (refine WH.sub h ?_; (repeat (first | exact List.Sublist.refl _ | exact List.sublist_append_right _ _ | exact List.sublist_append_left _ _ | apply List.Sublist.cons_cons | apply List.Sublist.cons | refine List.Sublist.trans ?_ (List.sublist_append_left _ _))); done), ?_⟩
          refine TA_perm ((perm_pick (i := 3) rfl).trans (List.Perm.cons _ ((perm_pick (i := 0) rfl).trans (List.Perm.cons _ ((perm_pick (i := 0) rfl).trans (List.Perm.cons _ ((perm_pick (i := 0) rfl).trans (List.Perm.cons _ (List.Perm.refl _))))))))) ?_
          refine TA_one 8 (by kernel_rfl) rfl rfl (TO_call0 call80 rfl rfl (t80m (ns := ns.map adjS) fx (Shows.at 1 rfl) ?sd30036q93_1 ?sd30036q93_2 ?sd30036q93_3 ?sd30036q93_4 ?sd30036q93_5 ?sd30036q93_6) ?_)
          case sd30036q93_1 => omega
          case sd30036q93_2 => exact h_30031_0
          case sd30036q93_3 => decide
          case sd30036q93_4 => with_reducible assumption
          case sd30036q93_5 => omega
          case sd30036q93_6 => omega
          rintro v55_30037 H55_30037 ⟨A_30037, k_30037, rfl, h_30037_0, rfl⟩
          refine ⟨by intro w h; first | exact h | exact trivial | (refine WH.sub h ?_; (repeat (first | exact List.Sublist.refl _ | exact List.sublist_append_right _ _ | exact List.sublist_append_left _ _ | apply List.Sublist.cons | refine List.Sublist.trans ?_ (List.sublist_append_left _ _))); done) | (refine WH.sub h ?_; (repeat (first | exact List.Sublist.refl _ | exact List.sublist_append_right _ _ | exact List.sublist_append_left _ _ | apply List.Sublist.cons_cons | apply List.Sublist.cons | refine List.Sublist.trans ?_ (List.sublist_append_left _ _))); done), ?_⟩
          refine TA_one 10 (by kernel_rfl) rfl rfl (TO_store 1 rfl rfl rfl sz116 rfl rfl rfl (List.forall_mem_cons.2 ⟨by first | rfl | exact errV_one _ | exact errR_one _, List.forall_mem_cons.2 ⟨by first | rfl | exact errV_one _ | exact errR_one _, List.forall_mem_cons.2 ⟨by first | rfl | exact errV_one _ | exact errR_one _, List.forall_mem_cons.2 ⟨by first | rfl | exact errV_one _ | exact errR_one _, List.forall_mem_cons.2 ⟨by first | rfl | exact errV_one _ | exact errR_one _, List.forall_mem_cons.2 ⟨by first | rfl | exact errV_one _ | exact errR_one _, by simp⟩⟩⟩⟩⟩⟩) (by first | exact Nat.le_of_ble_eq_true rfl | (simp; done) | (simp; omega) | omega) ?_)
          refine ⟨by intro w h; first | exact h | exact trivial | (refine WH.sub h ?_; (repeat (first | exact List.Sublist.refl _ | exact List.sublist_append_right _ _ | exact List.sublist_append_left _ _ | apply List.Sublist.cons | refine List.Sublist.trans ?_ (List.sublist_append_left _ _))); done) | (refine WH.sub h ?_; (repeat (first | exact List.Sublist.refl _ | exact List.sublist_append_right _ _ | exact List.sublist_append_left _ _ | apply List.Sublist.cons_cons | apply List.Sublist.cons | refine List.Sublist.trans ?_ (List.sublist_append_left _ _))); done), ?_⟩
          refine TA_done (by kernel_rfl) ?_
          refine ?L304
          case L301 => exact ⟨g30016, A_30015, k_30015, by assumption, (by repeat (first | exact FrSub.nil _ | refine FrSub.cons rfl ?_)), Has.of_sub (by repeat (first | exact List.Sublist.refl _ | exact List.sublist_append_right _ _ | exact List.sublist_append_left _ _ | apply List.Sublist.cons_cons | apply List.Sublist.cons | refine List.Sublist.trans ?_ (List.sublist_append_left _ _)))⟩
          case L302 => exact ⟨g30013, A_30020, k_30020, by assumption, (by repeat (first | exact FrSub.nil _ | refine FrSub.cons rfl ?_)), Has.of_perm ((perm_pick (i := 1) rfl).trans (List.Perm.cons _ ((perm_pick (i := 0) rfl).trans (List.Perm.cons _ (List.Perm.refl _))))) (by repeat (first | exact List.Sublist.refl _ | exact List.sublist_append_right _ _ | exact List.sublist_append_left _ _ | apply List.Sublist.cons_cons | apply List.Sublist.cons | refine List.Sublist.trans ?_ (List.sublist_append_left _ _)))⟩
          case L303 => exact ⟨g30008, A_30027, k_30027, by assumption, (by repeat (first | exact FrSub.nil _ | refine FrSub.cons rfl ?_)), Has.of_perm ((perm_pick (i := 1) rfl).trans (List.Perm.cons _ ((perm_pick (i := 0) rfl).trans (List.Perm.cons _ (List.Perm.refl _))))) (by repeat (first | exact List.Sublist.refl _ | exact List.sublist_append_right _ _ | exact List.sublist_append_left _ _ | apply List.Sublist.cons_cons | apply List.Sublist.cons | refine List.Sublist.trans ?_ (List.sublist_append_left _ _)))⟩
          case L304 => exact ⟨g30003, A_30037, k_30037, by assumption, (by repeat (first | exact FrSub.nil _ | refine FrSub.cons rfl ?_)), Has.of_perm ((perm_pick (i := 1) rfl).trans (List.Perm.cons _ ((perm_pick (i := 0) rfl).trans (List.Perm.cons _ (List.Perm.refl _))))) (by repeat (first | exact List.Sublist.refl _ | exact List.sublist_append_right _ _ | exact List.sublist_append_left _ _ | apply List.Sublist.cons_cons | apply List.Sublist.cons | refine List.Sublist.trans ?_ (List.sublist_append_left _ _)))⟩
        · rintro gx Ax kx hkx
          refine T_seq ?_
          refine T_region ?_
          refine TL_pure (d := (some 56)) rfl rfl rfl (PV_move rfl) ?_
          refine TL_cons rfl (TO_call0 call84 rfl rfl (t84 ?sd40002q104_0 hln ?sd40002q104_2 ?sd40002q104_3) ?_)
          case sd40002q104_0 => exact SBlk.mono h_8_0 (fun w h => h.sub (by (repeat (first | exact List.Sublist.refl _ | exact List.sublist_append_right _ _ | exact List.sublist_append_left _ _ | apply List.Sublist.cons | refine List.Sublist.trans ?_ (List.sublist_append_left _ _))); done))
          case sd40002q104_2 => omega
          case sd40002q104_3 => with_reducible assumption
          rintro v57_40003 H57_40003 ⟨rfl, rfl⟩
          refine TL_pure (d := (some 16)) rfl rfl rfl (PV_assign rfl) ?_
          refine TL_nil ?_
          refine T_seq ?_
          refine T_seq ?_
          refine ?L401
          case L401 =>
            have f1 := flat128 (blksL l false (mn % 5)) (fun q hqm => (hqs q hqm).2)
            have f2 := flat128 ((blksL l false (mn % 5)).take k) (fun q hqm => (hqs q (List.mem_of_mem_take hqm)).2)
            rw [← hdat, List.length_take, Nat.min_eq_left hk] at f2
            have f3 : (blksL l false (mn % 5)).flatten.take fx.r.dat.length = fx.r.dat := by
              have h1 : (blksL l false (mn % 5)).flatten = fx.r.dat ++ ((blksL l false (mn % 5)).drop k).flatten := by
                rw [hdat, ← List.flatten_append, List.take_append_drop]
              rw [h1, List.take_left]
            have e62 : Value.int .i64 (((strOfNums (blksL l false (mn % 5)).flatten).size : Nat) : Int) = .int .i64 (((blksL l false (mn % 5)).flatten.length : Nat) : Int) := by rw [str_len]
            have e68 : Value.int .i64 (Int.tmod (fx.r.dat.length : Int) 128) = .int .i64 0 := by
              rw [f2]
              congr 1
              rw [Int.tmod_eq_emod_of_nonneg (by omega)]
              omega
            have e63 : Value.bool (decide ((fx.r.dat.length : Int) > (((blksL l false (mn % 5)).flatten.length : Nat) : Int))) = .bool false := congrArg Value.bool (decide_eq_false (by omega))
            have e69 : Value.bool ((0 : Int) != 0) = .bool false := rfl
            have hd1 : strOfNums ((blksL l false (mn % 5)).flatten.take fx.r.dat.length) = strOfNums fx.r.dat := by rw [f3]
            have e76 : Value.string ((strOfNums (blksL l false (mn % 5)).flatten).extract 0 fx.r.dat.length) = .string (strOfNums fx.r.dat) := by rw [str_take, f3]
            have v1 : fx.e1 = 0 → errV fx.e1 = .nilIface := fun h => by unfold errV; rw [if_pos h]
            have v2 : fx.e1 ≠ 0 → errV fx.e1 = .iface 135 (.int .i64 fx.e1) := fun h => by unfold errV; rw [if_neg h]
            have v3 : fx.e2 = 0 → errR fx.e2 = .nilIface := fun h => by unfold errR; rw [if_pos h]
            have v4 : fx.e2 ≠ 0 → errR fx.e2 = .iface 135 (.int .i64 fx.e2) := fun h => by unfold errR; rw [if_neg h]
            rcases Bool.eq_false_or_eq_true fx.ov with ho | ho
            · rw [ho]
              by_cases h1 : fx.e1 = 0
              · have hkk := hall ho h1
                rw [hkk, List.take_of_length_le (Nat.le_refl _)] at hdat
                rw [v1 h1]
                by_cases h2 : fx.e2 = 0
                · rw [v3 h2]
                  refine T_drawn (WH _ _ _) mixed (fun w h => h) ?_
                  refine TA_take (dd := (some 58)) 0 rfl (by kernel_rfl) (by kernel_rfl) (by kernel_rfl) rfl rfl rfl (PV_fieldAddr (D := 3) Try.underlying116 rfl sz23 (by decide) rfl rfl) ?_
                  refine TA_take (dd := (some 59)) 1 rfl (by kernel_rfl) (by kernel_rfl) (by kernel_rfl) rfl rfl rfl (PV_load Try.underlying23 rfl rfl (Rd.at 0 rfl rfl)) ?_
                  refine TA_take (dd := (some 60)) 2 rfl (by kernel_rfl) (by kernel_rfl) (by kernel_rfl) rfl rfl rfl (PV_len_slice Try.underlying23 rfl) ?_
                  refine TA_take (dd := (some 61)) 3 rfl (by kernel_rfl) (by kernel_rfl) (by kernel_rfl) rfl rfl rfl (PV_move rfl) ?_
                  refine TA_take (dd := (some 62)) 4 rfl (by kernel_rfl) (by kernel_rfl) (by kernel_rfl) rfl rfl rfl (PV.cast (PV_len_string Try.underlying9 rfl) e62) ?_
                  refine TA_take (dd := (some 63)) 5 rfl (by kernel_rfl) (by kernel_rfl) (by kernel_rfl) rfl rfl rfl (PV.cast (PV_bin rfl rfl bin_gtr) e63) ?_
                  refine TA_take (dd := (some 64)) 6 rfl (by kernel_rfl) (by kernel_rfl) (by kernel_rfl) rfl rfl rfl (PV_move rfl) ?_
                  refine TA_yes (dd := (some 65)) 7 rfl (by kernel_rfl) (by kernel_rfl) (by kernel_rfl) rfl rfl rfl rfl rfl (PV_fieldAddr (D := 3) Try.underlying116 rfl sz23 (by decide) rfl rfl) ?_
                  refine TA_yes (dd := (some 66)) 8 rfl (by kernel_rfl) (by kernel_rfl) (by kernel_rfl) rfl rfl rfl rfl rfl (PV_load Try.underlying23 rfl rfl (Rd.at 0 rfl rfl)) ?_
                  refine TA_yes (dd := (some 67)) 9 rfl (by kernel_rfl) (by kernel_rfl) (by kernel_rfl) rfl rfl rfl rfl rfl (PV_len_slice Try.underlying23 rfl) ?_
                  refine TA_yes (dd := (some 68)) 10 rfl (by kernel_rfl) (by kernel_rfl) (by kernel_rfl) rfl rfl rfl rfl rfl (PV.cast (PV_bin rfl rfl (bin_rem (by decide))) e68) ?_
                  refine TA_yes (dd := (some 69)) 11 rfl (by kernel_rfl) (by kernel_rfl) (by kernel_rfl) rfl rfl rfl rfl rfl (PV.cast (PV_bin rfl rfl bin_neq) e69) ?_
                  refine TA_take (dd := (some 70)) 12 rfl (by kernel_rfl) (by kernel_rfl) (by kernel_rfl) rfl rfl rfl (PV_pickOr rfl rfl rfl) ?_
                  refine TA_take (dd := (some 71)) 13 rfl (by kernel_rfl) (by kernel_rfl) (by kernel_rfl) rfl rfl rfl (PV_move rfl) ?_
                  refine TA_yes (dd := (some 72)) 14 rfl (by kernel_rfl) (by kernel_rfl) (by kernel_rfl) rfl rfl rfl rfl rfl (PV_move rfl) ?_
                  refine TA_yes (dd := (some 73)) 15 rfl (by kernel_rfl) (by kernel_rfl) (by kernel_rfl) rfl rfl rfl rfl rfl (PV_fieldAddr (D := 3) Try.underlying116 rfl sz23 (by decide) rfl rfl) ?_
                  refine TA_yes (dd := (some 74)) 16 rfl (by kernel_rfl) (by kernel_rfl) (by kernel_rfl) rfl rfl rfl rfl rfl (PV_load Try.underlying23 rfl rfl (Rd.at 0 rfl rfl)) ?_
                  refine TA_yes (dd := (some 75)) 17 rfl (by kernel_rfl) (by kernel_rfl) (by kernel_rfl) rfl rfl rfl rfl rfl (PV_len_slice Try.underlying23 rfl) ?_
                  refine TA_yes (dd := (some 76)) 18 rfl (by kernel_rfl) (by kernel_rfl) (by kernel_rfl) rfl rfl rfl rfl rfl (PV.cast (PV_sliceStr (l := 0) Try.underlying9 rfl rfl ⟨_, rfl⟩ (by omega) (by rw [str_len]; omega)) e76) ?_
                  refine TA_yes (dd := (some 77)) 19 rfl (by kernel_rfl) (by kernel_rfl) (by kernel_rfl) rfl rfl rfl rfl rfl (PV_fieldAddr (D := 3) Try.underlying116 rfl sz23 (by decide) rfl rfl) ?_
                  refine TA_yes (dd := (some 78)) 20 rfl (by kernel_rfl) (by kernel_rfl) (by kernel_rfl) rfl rfl rfl rfl rfl (PV_load Try.underlying23 rfl rfl (Rd.at 0 rfl rfl)) ?_
                  refine TA_yes (dd := (some 79)) 21 rfl (by kernel_rfl) (by kernel_rfl) (by kernel_rfl) rfl rfl rfl rfl rfl (PV_b2s Try.underlying23 Try.underlying5 Try.underlying9 rfl (Shows.at 1 rfl)) ?_
                  refine TA_yes (dd := (some 80)) 22 rfl (by kernel_rfl) (by kernel_rfl) (by kernel_rfl) rfl rfl rfl rfl rfl (PV_bin rfl rfl bin_str_neq) ?_
                  refine TA_take (dd := (some 81)) 23 rfl (by kernel_rfl) (by kernel_rfl) (by kernel_rfl) rfl rfl rfl (PV_pickOr rfl rfl rfl) ?_
                  refine TA_done (by kernel_rfl) ?_
                  refine T_else rfl (by (simp [hd1, f3]; done)) ?_
                  refine T_skip ?_
                  refine T_seq ?_
                  refine T_region ?_
                  refine TL_pure (d := (some 82)) rfl rfl rfl (PV_fieldAddr (D := 0) Try.underlying116 rfl sz4 (by decide) rfl rfl) ?_
                  refine TL_pure (d := (some 83)) rfl rfl rfl (PV_load Try.underlying4 rfl rfl (Rd.at 0 rfl rfl)) ?_
                  refine TL_pure (d := (some 84)) rfl rfl rfl (PV_not rfl) ?_
                  refine TL_pure (d := (some 85)) rfl rfl rfl (PV_move rfl) ?_
                  refine TL_yes rfl rfl rfl (TO_pure rfl (PV_fieldAddr (D := 1) Try.underlying116 rfl sz83 (by decide) rfl rfl) ?_)
                  refine TL_yes rfl rfl rfl (TO_pure rfl (PV_load Try.underlying83 rfl rfl (Rd.at 0 rfl rfl)) ?_)
                  refine TL_yes rfl rfl rfl (TO_pure rfl (PV_bin rfl rfl (bin_nil_nnil Try.underlying83)) ?_)
                  refine TL_pure (d := (some 89)) rfl rfl rfl (PV_pickOr rfl rfl rfl) ?_
                  refine TL_pure (d := (some 90)) rfl rfl rfl (PV_move rfl) ?_
                  refine TL_yes rfl rfl rfl (TO_pure rfl (PV_fieldAddr (D := 2) Try.underlying116 rfl sz83 (by decide) rfl rfl) ?_)
                  refine TL_yes rfl rfl rfl (TO_pure rfl (PV_load Try.underlying83 rfl rfl (Rd.at 0 rfl rfl)) ?_)
                  refine TL_yes rfl rfl rfl (TO_pure rfl (PV_bin rfl rfl (bin_nil_nnil Try.underlying83)) ?_)
                  refine TL_pure (d := (some 94)) rfl rfl rfl (PV_pickOr rfl rfl rfl) ?_
                  refine TL_pure (d := (some 95)) rfl rfl rfl (PV_move rfl) ?_
                  refine TL_yes rfl rfl rfl (TO_pure rfl (PV_fieldAddr (D := 3) Try.underlying116 rfl sz23 (by decide) rfl rfl) ?_)
                  refine TL_yes rfl rfl rfl (TO_pure rfl (PV_load Try.underlying23 rfl rfl (Rd.at 0 rfl rfl)) ?_)
                  refine TL_yes rfl rfl rfl (TO_pure rfl (PV_b2s Try.underlying23 Try.underlying5 Try.underlying9 rfl (Shows.at 1 rfl)) ?_)
                  refine TL_yes rfl rfl rfl (TO_pure rfl (PV_move rfl) ?_)
                  refine TL_yes rfl rfl rfl (TO_pure rfl (PV_bin rfl rfl bin_str_eql) ?_)
                  refine TL_pure (d := (some 101)) rfl rfl rfl (PV_pickOr rfl rfl rfl) ?_
                  refine TL_pure (d := (some 10)) rfl rfl rfl (PV_assign rfl) ?_
                  refine TL_nil ?_
                  refine T_ret ?_
                  refine ret_ret (ResV_one rfl rfl) ⟨_, ?zb50001q139, ⟨?L501, rfl⟩⟩
                  case zb50001q139 => exact (by (repeat (first | exact List.Sublist.refl _ | exact List.sublist_append_right _ _ | exact List.sublist_append_left _ _ | apply List.Sublist.cons_cons | apply List.Sublist.cons | refine List.Sublist.trans ?_ (List.sublist_append_left _ _))); done)
                  all_goals (first | (rw [hdat]; simp; done) | (simp; done))
                · rw [v4 h2]
                  refine T_drawn (WH _ _ _) mixed (fun w h => h) ?_
                  refine TA_take (dd := (some 58)) 0 rfl (by kernel_rfl) (by kernel_rfl) (by kernel_rfl) rfl rfl rfl (PV_fieldAddr (D := 3) Try.underlying116 rfl sz23 (by decide) rfl rfl) ?_
                  refine TA_take (dd := (some 59)) 1 rfl (by kernel_rfl) (by kernel_rfl) (by kernel_rfl) rfl rfl rfl (PV_load Try.underlying23 rfl rfl (Rd.at 0 rfl rfl)) ?_
                  refine TA_take (dd := (some 60)) 2 rfl (by kernel_rfl) (by kernel_rfl) (by kernel_rfl) rfl rfl rfl (PV_len_slice Try.underlying23 rfl) ?_
                  refine TA_take (dd := (some 61)) 3 rfl (by kernel_rfl) (by kernel_rfl) (by kernel_rfl) rfl rfl rfl (PV_move rfl) ?_
                  refine TA_take (dd := (some 62)) 4 rfl (by kernel_rfl) (by kernel_rfl) (by kernel_rfl) rfl rfl rfl (PV.cast (PV_len_string Try.underlying9 rfl) e62) ?_
                  refine TA_take (dd := (some 63)) 5 rfl (by kernel_rfl) (by kernel_rfl) (by kernel_rfl) rfl rfl rfl (PV.cast (PV_bin rfl rfl bin_gtr) e63) ?_
                  refine TA_take (dd := (some 64)) 6 rfl (by kernel_rfl) (by kernel_rfl) (by kernel_rfl) rfl rfl rfl (PV_move rfl) ?_
                  refine TA_yes (dd := (some 65)) 7 rfl (by kernel_rfl) (by kernel_rfl) (by kernel_rfl) rfl rfl rfl rfl rfl (PV_fieldAddr (D := 3) Try.underlying116 rfl sz23 (by decide) rfl rfl) ?_
                  refine TA_yes (dd := (some 66)) 8 rfl (by kernel_rfl) (by kernel_rfl) (by kernel_rfl) rfl rfl rfl rfl rfl (PV_load Try.underlying23 rfl rfl (Rd.at 0 rfl rfl)) ?_
                  refine TA_yes (dd := (some 67)) 9 rfl (by kernel_rfl) (by kernel_rfl) (by kernel_rfl) rfl rfl rfl rfl rfl (PV_len_slice Try.underlying23 rfl) ?_
                  refine TA_yes (dd := (some 68)) 10 rfl (by kernel_rfl) (by kernel_rfl) (by kernel_rfl) rfl rfl rfl rfl rfl (PV.cast (PV_bin rfl rfl (bin_rem (by decide))) e68) ?_
                  refine TA_yes (dd := (some 69)) 11 rfl (by kernel_rfl) (by kernel_rfl) (by kernel_rfl) rfl rfl rfl rfl rfl (PV.cast (PV_bin rfl rfl bin_neq) e69) ?_
                  refine TA_take (dd := (some 70)) 12 rfl (by kernel_rfl) (by kernel_rfl) (by kernel_rfl) rfl rfl rfl (PV_pickOr rfl rfl rfl) ?_
                  refine TA_take (dd := (some 71)) 13 rfl (by kernel_rfl) (by kernel_rfl) (by kernel_rfl) rfl rfl rfl (PV_move rfl) ?_
                  refine TA_yes (dd := (some 72)) 14 rfl (by kernel_rfl) (by kernel_rfl) (by kernel_rfl) rfl rfl rfl rfl rfl (PV_move rfl) ?_
                  refine TA_yes (dd := (some 73)) 15 rfl (by kernel_rfl) (by kernel_rfl) (by kernel_rfl) rfl rfl rfl rfl rfl (PV_fieldAddr (D := 3) Try.underlying116 rfl sz23 (by decide) rfl rfl) ?_
                  refine TA_yes (dd := (some 74)) 16 rfl (by kernel_rfl) (by kernel_rfl) (by kernel_rfl) rfl rfl rfl rfl rfl (PV_load Try.underlying23 rfl rfl (Rd.at 0 rfl rfl)) ?_
                  refine TA_yes (dd := (some 75)) 17 rfl (by kernel_rfl) (by kernel_rfl) (by kernel_rfl) rfl rfl rfl rfl rfl (PV_len_slice Try.underlying23 rfl) ?_
                  refine TA_yes (dd := (some 76)) 18 rfl (by kernel_rfl) (by kernel_rfl) (by kernel_rfl) rfl rfl rfl rfl rfl (PV.cast (PV_sliceStr (l := 0) Try.underlying9 rfl rfl ⟨_, rfl⟩ (by omega) (by rw [str_len]; omega)) e76) ?_
                  refine TA_yes (dd := (some 77)) 19 rfl (by kernel_rfl) (by kernel_rfl) (by kernel_rfl) rfl rfl rfl rfl rfl (PV_fieldAddr (D := 3) Try.underlying116 rfl sz23 (by decide) rfl rfl) ?_
                  refine TA_yes (dd := (some 78)) 20 rfl (by kernel_rfl) (by kernel_rfl) (by kernel_rfl) rfl rfl rfl rfl rfl (PV_load Try.underlying23 rfl rfl (Rd.at 0 rfl rfl)) ?_
                  refine TA_yes (dd := (some 79)) 21 rfl (by kernel_rfl) (by kernel_rfl) (by kernel_rfl) rfl rfl rfl rfl rfl (PV_b2s Try.underlying23 Try.underlying5 Try.underlying9 rfl (Shows.at 1 rfl)) ?_
                  refine TA_yes (dd := (some 80)) 22 rfl (by kernel_rfl) (by kernel_rfl) (by kernel_rfl) rfl rfl rfl rfl rfl (PV_bin rfl rfl bin_str_neq) ?_
                  refine TA_take (dd := (some 81)) 23 rfl (by kernel_rfl) (by kernel_rfl) (by kernel_rfl) rfl rfl rfl (PV_pickOr rfl rfl rfl) ?_
                  refine TA_done (by kernel_rfl) ?_
                  refine T_else rfl (by (simp [hd1, f3]; done)) ?_
                  refine T_skip ?_
                  refine T_seq ?_
                  refine T_region ?_
                  refine TL_pure (d := (some 82)) rfl rfl rfl (PV_fieldAddr (D := 0) Try.underlying116 rfl sz4 (by decide) rfl rfl) ?_
                  refine TL_pure (d := (some 83)) rfl rfl rfl (PV_load Try.underlying4 rfl rfl (Rd.at 0 rfl rfl)) ?_
                  refine TL_pure (d := (some 84)) rfl rfl rfl (PV_not rfl) ?_
                  refine TL_pure (d := (some 85)) rfl rfl rfl (PV_move rfl) ?_
                  refine TL_yes rfl rfl rfl (TO_pure rfl (PV_fieldAddr (D := 1) Try.underlying116 rfl sz83 (by decide) rfl rfl) ?_)
                  refine TL_yes rfl rfl rfl (TO_pure rfl (PV_load Try.underlying83 rfl rfl (Rd.at 0 rfl rfl)) ?_)
                  refine TL_yes rfl rfl rfl (TO_pure rfl (PV_bin rfl rfl (bin_nil_nnil Try.underlying83)) ?_)
                  refine TL_pure (d := (some 89)) rfl rfl rfl (PV_pickOr rfl rfl rfl) ?_
                  refine TL_pure (d := (some 90)) rfl rfl rfl (PV_move rfl) ?_
                  refine TL_yes rfl rfl rfl (TO_pure rfl (PV_fieldAddr (D := 2) Try.underlying116 rfl sz83 (by decide) rfl rfl) ?_)
                  refine TL_yes rfl rfl rfl (TO_pure rfl (PV_load Try.underlying83 rfl rfl (Rd.at 0 rfl rfl)) ?_)
                  refine TL_yes rfl rfl rfl (TO_pure rfl (PV_bin rfl rfl (bin_if_nnil Try.underlying83)) ?_)
                  refine TL_pure (d := (some 94)) rfl rfl rfl (PV_pickOr rfl rfl rfl) ?_
                  refine TL_pure (d := (some 95)) rfl rfl rfl (PV_move rfl) ?_
                  refine TL_no (b := true) rfl rfl rfl rfl ?_
                  refine TL_no (b := true) rfl rfl rfl rfl ?_
                  refine TL_no (b := true) rfl rfl rfl rfl ?_
                  refine TL_no (b := true) rfl rfl rfl rfl ?_
                  refine TL_no (b := true) rfl rfl rfl rfl ?_
                  refine TL_pure (d := (some 101)) rfl rfl rfl (PV_pickT rfl (by first | assumption | rfl | (simp; done) | (simp; omega) | (simp [*]; done) | (simp [*]; omega)) rfl rfl) ?_
                  refine TL_pure (d := (some 10)) rfl rfl rfl (PV_assign rfl) ?_
                  refine TL_nil ?_
                  refine T_ret ?_
                  refine ret_ret (ResV_one rfl rfl) ⟨_, ?zb60001q150, ⟨rfl, rfl⟩⟩
                  case zb60001q150 => exact (by (repeat (first | exact List.Sublist.refl _ | exact List.sublist_append_right _ _ | exact List.sublist_append_left _ _ | apply List.Sublist.cons_cons | apply List.Sublist.cons | refine List.Sublist.trans ?_ (List.sublist_append_left _ _))); done)
                  all_goals (first | (rw [hdat]; simp; done) | (simp; done))
              · rw [v2 h1]
                refine T_drawn (WH _ _ _) mixed (fun w h => h) ?_
                refine TA_take (dd := (some 58)) 0 rfl (by kernel_rfl) (by kernel_rfl) (by kernel_rfl) rfl rfl rfl (PV_fieldAddr (D := 3) Try.underlying116 rfl sz23 (by decide) rfl rfl) ?_
                refine TA_take (dd := (some 59)) 1 rfl (by kernel_rfl) (by kernel_rfl) (by kernel_rfl) rfl rfl rfl (PV_load Try.underlying23 rfl rfl (Rd.at 0 rfl rfl)) ?_
                refine TA_take (dd := (some 60)) 2 rfl (by kernel_rfl) (by kernel_rfl) (by kernel_rfl) rfl rfl rfl (PV_len_slice Try.underlying23 rfl) ?_
                refine TA_take (dd := (some 61)) 3 rfl (by kernel_rfl) (by kernel_rfl) (by kernel_rfl) rfl rfl rfl (PV_move rfl) ?_
                refine TA_take (dd := (some 62)) 4 rfl (by kernel_rfl) (by kernel_rfl) (by kernel_rfl) rfl rfl rfl (PV.cast (PV_len_string Try.underlying9 rfl) e62) ?_
                refine TA_take (dd := (some 63)) 5 rfl (by kernel_rfl) (by kernel_rfl) (by kernel_rfl) rfl rfl rfl (PV.cast (PV_bin rfl rfl bin_gtr) e63) ?_
                refine TA_take (dd := (some 64)) 6 rfl (by kernel_rfl) (by kernel_rfl) (by kernel_rfl) rfl rfl rfl (PV_move rfl) ?_
                refine TA_yes (dd := (some 65)) 7 rfl (by kernel_rfl) (by kernel_rfl) (by kernel_rfl) rfl rfl rfl rfl rfl (PV_fieldAddr (D := 3) Try.underlying116 rfl sz23 (by decide) rfl rfl) ?_
                refine TA_yes (dd := (some 66)) 8 rfl (by kernel_rfl) (by kernel_rfl) (by kernel_rfl) rfl rfl rfl rfl rfl (PV_load Try.underlying23 rfl rfl (Rd.at 0 rfl rfl)) ?_
                refine TA_yes (dd := (some 67)) 9 rfl (by kernel_rfl) (by kernel_rfl) (by kernel_rfl) rfl rfl rfl rfl rfl (PV_len_slice Try.underlying23 rfl) ?_
                refine TA_yes (dd := (some 68)) 10 rfl (by kernel_rfl) (by kernel_rfl) (by kernel_rfl) rfl rfl rfl rfl rfl (PV.cast (PV_bin rfl rfl (bin_rem (by decide))) e68) ?_
                refine TA_yes (dd := (some 69)) 11 rfl (by kernel_rfl) (by kernel_rfl) (by kernel_rfl) rfl rfl rfl rfl rfl (PV.cast (PV_bin rfl rfl bin_neq) e69) ?_
                refine TA_take (dd := (some 70)) 12 rfl (by kernel_rfl) (by kernel_rfl) (by kernel_rfl) rfl rfl rfl (PV_pickOr rfl rfl rfl) ?_
                refine TA_take (dd := (some 71)) 13 rfl (by kernel_rfl) (by kernel_rfl) (by kernel_rfl) rfl rfl rfl (PV_move rfl) ?_
                refine TA_yes (dd := (some 72)) 14 rfl (by kernel_rfl) (by kernel_rfl) (by kernel_rfl) rfl rfl rfl rfl rfl (PV_move rfl) ?_
                refine TA_yes (dd := (some 73)) 15 rfl (by kernel_rfl) (by kernel_rfl) (by kernel_rfl) rfl rfl rfl rfl rfl (PV_fieldAddr (D := 3) Try.underlying116 rfl sz23 (by decide) rfl rfl) ?_
                refine TA_yes (dd := (some 74)) 16 rfl (by kernel_rfl) (by kernel_rfl) (by kernel_rfl) rfl rfl rfl rfl rfl (PV_load Try.underlying23 rfl rfl (Rd.at 0 rfl rfl)) ?_
                refine TA_yes (dd := (some 75)) 17 rfl (by kernel_rfl) (by kernel_rfl) (by kernel_rfl) rfl rfl rfl rfl rfl (PV_len_slice Try.underlying23 rfl) ?_
                refine TA_yes (dd := (some 76)) 18 rfl (by kernel_rfl) (by kernel_rfl) (by kernel_rfl) rfl rfl rfl rfl rfl (PV.cast (PV_sliceStr (l := 0) Try.underlying9 rfl rfl ⟨_, rfl⟩ (by omega) (by rw [str_len]; omega)) e76) ?_
                refine TA_yes (dd := (some 77)) 19 rfl (by kernel_rfl) (by kernel_rfl) (by kernel_rfl) rfl rfl rfl rfl rfl (PV_fieldAddr (D := 3) Try.underlying116 rfl sz23 (by decide) rfl rfl) ?_
                refine TA_yes (dd := (some 78)) 20 rfl (by kernel_rfl) (by kernel_rfl) (by kernel_rfl) rfl rfl rfl rfl rfl (PV_load Try.underlying23 rfl rfl (Rd.at 0 rfl rfl)) ?_
                refine TA_yes (dd := (some 79)) 21 rfl (by kernel_rfl) (by kernel_rfl) (by kernel_rfl) rfl rfl rfl rfl rfl (PV_b2s Try.underlying23 Try.underlying5 Try.underlying9 rfl (Shows.at 1 rfl)) ?_
                refine TA_yes (dd := (some 80)) 22 rfl (by kernel_rfl) (by kernel_rfl) (by kernel_rfl) rfl rfl rfl rfl rfl (PV_bin rfl rfl bin_str_neq) ?_
                refine TA_take (dd := (some 81)) 23 rfl (by kernel_rfl) (by kernel_rfl) (by kernel_rfl) rfl rfl rfl (PV_pickOr rfl rfl rfl) ?_
                refine TA_done (by kernel_rfl) ?_
                refine T_else rfl (by (simp [hd1, f3]; done)) ?_
                refine T_skip ?_
                refine T_seq ?_
                refine T_region ?_
                refine TL_pure (d := (some 82)) rfl rfl rfl (PV_fieldAddr (D := 0) Try.underlying116 rfl sz4 (by decide) rfl rfl) ?_
                refine TL_pure (d := (some 83)) rfl rfl rfl (PV_load Try.underlying4 rfl rfl (Rd.at 0 rfl rfl)) ?_
                refine TL_pure (d := (some 84)) rfl rfl rfl (PV_not rfl) ?_
                refine TL_pure (d := (some 85)) rfl rfl rfl (PV_move rfl) ?_
                refine TL_yes rfl rfl rfl (TO_pure rfl (PV_fieldAddr (D := 1) Try.underlying116 rfl sz83 (by decide) rfl rfl) ?_)
                refine TL_yes rfl rfl rfl (TO_pure rfl (PV_load Try.underlying83 rfl rfl (Rd.at 0 rfl rfl)) ?_)
                refine TL_yes rfl rfl rfl (TO_pure rfl (PV_bin rfl rfl (bin_if_nnil Try.underlying83)) ?_)
                refine TL_pure (d := (some 89)) rfl rfl rfl (PV_pickOr rfl rfl rfl) ?_
                refine TL_pure (d := (some 90)) rfl rfl rfl (PV_move rfl) ?_
                refine TL_no (b := true) rfl rfl rfl rfl ?_
                refine TL_no (b := true) rfl rfl rfl rfl ?_
                refine TL_no (b := true) rfl rfl rfl rfl ?_
                refine TL_pure (d := (some 94)) rfl rfl rfl (PV_pickT rfl (by first | assumption | rfl | (simp; done) | (simp; omega) | (simp [*]; done) | (simp [*]; omega)) rfl rfl) ?_
                refine TL_pure (d := (some 95)) rfl rfl rfl (PV_move rfl) ?_
                refine TL_no (b := true) rfl rfl rfl rfl ?_
                refine TL_no (b := true) rfl rfl rfl rfl ?_
                refine TL_no (b := true) rfl rfl rfl rfl ?_
                refine TL_no (b := true) rfl rfl rfl rfl ?_
                refine TL_no (b := true) rfl rfl rfl rfl ?_
                refine TL_pure (d := (some 101)) rfl rfl rfl (PV_pickT rfl (by first | assumption | rfl | (simp; done) | (simp; omega) | (simp [*]; done) | (simp [*]; omega)) rfl rfl) ?_
                refine TL_pure (d := (some 10)) rfl rfl rfl (PV_assign rfl) ?_
                refine TL_nil ?_
                refine T_ret ?_
                refine ret_ret (ResV_one rfl rfl) ⟨_, ?zb70001q161, ⟨rfl, rfl⟩⟩
                case zb70001q161 => exact (by (repeat (first | exact List.Sublist.refl _ | exact List.sublist_append_right _ _ | exact List.sublist_append_left _ _ | apply List.Sublist.cons_cons | apply List.Sublist.cons | refine List.Sublist.trans ?_ (List.sublist_append_left _ _))); done)
                all_goals (first | (simp; done))
            · rw [ho]
              refine T_drawn (WH _ _ _) mixed (fun w h => h) ?_
              refine TA_take (dd := (some 58)) 0 rfl (by kernel_rfl) (by kernel_rfl) (by kernel_rfl) rfl rfl rfl (PV_fieldAddr (D := 3) Try.underlying116 rfl sz23 (by decide) rfl rfl) ?_
              refine TA_take (dd := (some 59)) 1 rfl (by kernel_rfl) (by kernel_rfl) (by kernel_rfl) rfl rfl rfl (PV_load Try.underlying23 rfl rfl (Rd.at 0 rfl rfl)) ?_
              refine TA_take (dd := (some 60)) 2 rfl (by kernel_rfl) (by kernel_rfl) (by kernel_rfl) rfl rfl rfl (PV_len_slice Try.underlying23 rfl) ?_
              refine TA_take (dd := (some 61)) 3 rfl (by kernel_rfl) (by kernel_rfl) (by kernel_rfl) rfl rfl rfl (PV_move rfl) ?_
              refine TA_take (dd := (some 62)) 4 rfl (by kernel_rfl) (by kernel_rfl) (by kernel_rfl) rfl rfl rfl (PV.cast (PV_len_string Try.underlying9 rfl) e62) ?_
              refine TA_take (dd := (some 63)) 5 rfl (by kernel_rfl) (by kernel_rfl) (by kernel_rfl) rfl rfl rfl (PV.cast (PV_bin rfl rfl bin_gtr) e63) ?_
              refine TA_take (dd := (some 64)) 6 rfl (by kernel_rfl) (by kernel_rfl) (by kernel_rfl) rfl rfl rfl (PV_move rfl) ?_
              refine TA_yes (dd := (some 65)) 7 rfl (by kernel_rfl) (by kernel_rfl) (by kernel_rfl) rfl rfl rfl rfl rfl (PV_fieldAddr (D := 3) Try.underlying116 rfl sz23 (by decide) rfl rfl) ?_
              refine TA_yes (dd := (some 66)) 8 rfl (by kernel_rfl) (by kernel_rfl) (by kernel_rfl) rfl rfl rfl rfl rfl (PV_load Try.underlying23 rfl rfl (Rd.at 0 rfl rfl)) ?_
              refine TA_yes (dd := (some 67)) 9 rfl (by kernel_rfl) (by kernel_rfl) (by kernel_rfl) rfl rfl rfl rfl rfl (PV_len_slice Try.underlying23 rfl) ?_
              refine TA_yes (dd := (some 68)) 10 rfl (by kernel_rfl) (by kernel_rfl) (by kernel_rfl) rfl rfl rfl rfl rfl (PV.cast (PV_bin rfl rfl (bin_rem (by decide))) e68) ?_
              refine TA_yes (dd := (some 69)) 11 rfl (by kernel_rfl) (by kernel_rfl) (by kernel_rfl) rfl rfl rfl rfl rfl (PV.cast (PV_bin rfl rfl bin_neq) e69) ?_
              refine TA_take (dd := (some 70)) 12 rfl (by kernel_rfl) (by kernel_rfl) (by kernel_rfl) rfl rfl rfl (PV_pickOr rfl rfl rfl) ?_
              refine TA_take (dd := (some 71)) 13 rfl (by kernel_rfl) (by kernel_rfl) (by kernel_rfl) rfl rfl rfl (PV_move rfl) ?_
              refine TA_yes (dd := (some 72)) 14 rfl (by kernel_rfl) (by kernel_rfl) (by kernel_rfl) rfl rfl rfl rfl rfl (PV_move rfl) ?_
              refine TA_yes (dd := (some 73)) 15 rfl (by kernel_rfl) (by kernel_rfl) (by kernel_rfl) rfl rfl rfl rfl rfl (PV_fieldAddr (D := 3) Try.underlying116 rfl sz23 (by decide) rfl rfl) ?_
              refine TA_yes (dd := (some 74)) 16 rfl (by kernel_rfl) (by kernel_rfl) (by kernel_rfl) rfl rfl rfl rfl rfl (PV_load Try.underlying23 rfl rfl (Rd.at 0 rfl rfl)) ?_
              refine TA_yes (dd := (some 75)) 17 rfl (by kernel_rfl) (by kernel_rfl) (by kernel_rfl) rfl rfl rfl rfl rfl (PV_len_slice Try.underlying23 rfl) ?_
              refine TA_yes (dd := (some 76)) 18 rfl (by kernel_rfl) (by kernel_rfl) (by kernel_rfl) rfl rfl rfl rfl rfl (PV.cast (PV_sliceStr (l := 0) Try.underlying9 rfl rfl ⟨_, rfl⟩ (by omega) (by rw [str_len]; omega)) e76) ?_
              refine TA_yes (dd := (some 77)) 19 rfl (by kernel_rfl) (by kernel_rfl) (by kernel_rfl) rfl rfl rfl rfl rfl (PV_fieldAddr (D := 3) Try.underlying116 rfl sz23 (by decide) rfl rfl) ?_
              refine TA_yes (dd := (some 78)) 20 rfl (by kernel_rfl) (by kernel_rfl) (by kernel_rfl) rfl rfl rfl rfl rfl (PV_load Try.underlying23 rfl rfl (Rd.at 0 rfl rfl)) ?_
              refine TA_yes (dd := (some 79)) 21 rfl (by kernel_rfl) (by kernel_rfl) (by kernel_rfl) rfl rfl rfl rfl rfl (PV_b2s Try.underlying23 Try.underlying5 Try.underlying9 rfl (Shows.at 1 rfl)) ?_
              refine TA_yes (dd := (some 80)) 22 rfl (by kernel_rfl) (by kernel_rfl) (by kernel_rfl) rfl rfl rfl rfl rfl (PV_bin rfl rfl bin_str_neq) ?_
              refine TA_take (dd := (some 81)) 23 rfl (by kernel_rfl) (by kernel_rfl) (by kernel_rfl) rfl rfl rfl (PV_pickOr rfl rfl rfl) ?_
              refine TA_done (by kernel_rfl) ?_
              refine T_else rfl (by (simp [hd1, f3]; done)) ?_
              refine T_skip ?_
              refine T_seq ?_
              refine T_region ?_
              refine TL_pure (d := (some 82)) rfl rfl rfl (PV_fieldAddr (D := 0) Try.underlying116 rfl sz4 (by decide) rfl rfl) ?_
              refine TL_pure (d := (some 83)) rfl rfl rfl (PV_load Try.underlying4 rfl rfl (Rd.at 0 rfl rfl)) ?_
              refine TL_pure (d := (some 84)) rfl rfl rfl (PV_not rfl) ?_
              refine TL_pure (d := (some 85)) rfl rfl rfl (PV_move rfl) ?_
              refine TL_no (b := true) rfl rfl rfl rfl ?_
              refine TL_no (b := true) rfl rfl rfl rfl ?_
              refine TL_no (b := true) rfl rfl rfl rfl ?_
              refine TL_pure (d := (some 89)) rfl rfl rfl (PV_pickT rfl (by first | assumption | rfl | (simp; done) | (simp; omega) | (simp [*]; done) | (simp [*]; omega)) rfl rfl) ?_
              refine TL_pure (d := (some 90)) rfl rfl rfl (PV_move rfl) ?_
              refine TL_no (b := true) rfl rfl rfl rfl ?_
              refine TL_no (b := true) rfl rfl rfl rfl ?_
              refine TL_no (b := true) rfl rfl rfl rfl ?_
              refine TL_pure (d := (some 94)) rfl rfl rfl (PV_pickT rfl (by first | assumption | rfl | (simp; done) | (simp; omega) | (simp [*]; done) | (simp [*]; omega)) rfl rfl) ?_
              refine TL_pure (d := (some 95)) rfl rfl rfl (PV_move rfl) ?_
              refine TL_no (b := true) rfl rfl rfl rfl ?_
              refine TL_no (b := true) rfl rfl rfl rfl ?_
              refine TL_no (b := true) rfl rfl rfl rfl ?_
              refine TL_no (b := true) rfl rfl rfl rfl ?_
              refine TL_no (b := true) rfl rfl rfl rfl ?_
              refine TL_pure (d := (some 101)) rfl rfl rfl (PV_pickT rfl (by first | assumption | rfl | (simp; done) | (simp; omega) | (simp [*]; done) | (simp [*]; omega)) rfl rfl) ?_
              refine TL_pure (d := (some 10)) rfl rfl rfl (PV_assign rfl) ?_
              refine TL_nil ?_
              refine T_ret ?_
              refine ret_ret (ResV_one rfl rfl) ⟨_, ?zb80001q172, ⟨rfl, rfl⟩⟩
              case zb80001q172 => exact (by (repeat (first | exact List.Sublist.refl _ | exact List.sublist_append_right _ _ | exact List.sublist_append_left _ _ | apply List.Sublist.cons_cons | apply List.Sublist.cons | refine List.Sublist.trans ?_ (List.sublist_append_left _ _))); done)
              all_goals (first | (simp; done))
end
end Go.Proofs.Ythdkmgeigdoglaa.SL
