import Derived.Test.YtcbkcggijejooaaDoorR4
import Derived.Test.YtcbkcggijejooaaDoorErrAs
/- ReceiverAsks: as long as nothing comes. No statement is proved here. -/
set_option linter.unusedVariables false
set_option linter.unusedSimpArgs false
set_option maxRecDepth 100000
set_option maxHeartbeats 4000000
namespace Go.Proofs.YtcbkcggijejooaaDoor.SL
open Go Go.RowKit
section
variable {w0 : World} {B : Nat} {H X : List Chunk}
theorem awake11 : TCall Tryd.prog w0 B 14 #[] (fun r H' => r = .bool true ∧ H' = H) H := by
  have o1 : (Rc.of 2 3 1 true true 1).tickOut = [67] := by decide
  have o2 : ((Rc.of 2 3 1 true true 1).tick).putOut [4] = [6] := by decide
  have p2 : (((Rc.of 2 3 1 true true 1).tick).put [4]).over = true := by decide
  have r2 : (((Rc.of 2 3 1 true true 1).tick).put [4]).err = 0 := by decide
  have b1 : (Rc.of 2 3 1 true true 1).tick.buf = [] := by decide
  have d1 : (Rc.of 2 3 1 true true 1).tick.dat = [] := by decide
  have hu : U8s ((Rc.of 2 3 1 true true 1).tick.buf ++ [4]) := by rw [b1]; exact U8s.one (by decide) (by decide)
  refine TCall_intro (args := []) Tryd.func14 rfl Tryd.ntmps14 (Nat.le_of_ble_eq_true rfl) ?_
  refine T_seq ?_
  refine T_region ?_
  refine TL_pure (d := (some 0)) rfl rfl rfl (PV_assign rfl) ?_
  refine TL_nil ?_
  refine T_seq ?_
  refine T_region ?_
  refine TL_pure (d := (some 6)) rfl rfl rfl (PV_bld (cs := [_, _]) Tryd.underlying23 pl23 zr23 rfl rfl) ?_
  refine TL_cons rfl (TO_call0 call15 rfl rfl (t69 _ _ _ _ _ _) ?_)
  rintro v7_3 H7_3 ⟨g_3, rfl, rfl⟩
  refine TL_pure (d := (some 1)) rfl rfl rfl (PV_assign rfl) ?_
  refine TL_nil ?_
  refine T_seq ?_
  refine T_seq ?_
  refine T_region ?_
  refine TL_pure (d := (some 8)) rfl rfl rfl (PV_move rfl) ?_
  refine TL_pure (d := (some 9)) rfl rfl rfl (PV_bin rfl rfl (bin_ptr_nil Tryd.underlying39)) ?_
  refine TL_nil ?_
  refine T_else rfl (by rfl) ?_
  refine T_skip ?_
  refine T_seq ?_
  refine T_region ?_
  refine TL_pure (d := (some 10)) rfl rfl rfl (PV_move rfl) ?_
  refine TL_cons rfl (TO_call0 call16 rfl rfl (t72 _ ?sd5q21_1 ?sd5q21_2 ?sd5q21_3 ?sd5q21_4) ?_)
  case sd5q21_1 => decide
  case sd5q21_2 => decide
  case sd5q21_3 => decide
  case sd5q21_4 => decide
  rintro v11_6 H11_6 ⟨A_6, k_6, bA_6, bc_6, dA_6, dc_6, rfl, h_6_0, rfl⟩
  refine TL_pure (d := (some 2)) rfl rfl rfl (PV_assign rfl) ?_
  refine TL_nil ?_
  refine T_seq ?_
  refine T_region ?_
  refine TL_pure (d := (some 12)) rfl rfl rfl (PV_move rfl) ?_
  refine TL_cons rfl (TO_bs (cs := [_]) Tryd.underlying24 zs5 (by decide) rfl rfl rfl rfl rfl rfl fun g7 => ?_)
  refine TL_perm ((perm_pick (i := 2) rfl).trans (List.Perm.cons _ ((perm_pick (i := 2) rfl).trans (List.Perm.cons _ ((perm_pick (i := 2) rfl).trans (List.Perm.cons _ (List.Perm.refl _))))))) ?_
  refine TL_cons rfl (TO_call0 call21 rfl rfl (t75 (bs := [4]) _ (Shows.at 0 rfl) ?sd9q21_2 ?sd9q21_3 ?sd9q21_4 ?sd9q21_5 ?sd9q21_6 ?sd9q21_7 ?sd9q21_8 ?sd9q21_9) ?_)
  case sd9q21_2 => exact rfl
  case sd9q21_3 => exact hu
  case sd9q21_4 => decide
  case sd9q21_5 => decide
  case sd9q21_6 => decide
  case sd9q21_7 => decide
  case sd9q21_8 => decide
  case sd9q21_9 => decide
  rintro v14_10 H14_10 ⟨A_10, k_10, bA_10, bc_10, dA_10, dc_10, rfl, h_10_0, rfl⟩
  refine TL_pure (d := (some 3)) rfl rfl rfl (PV_assign rfl) ?_
  refine TL_nil ?_
  refine T_seq ?_
  refine T_region ?_
  refine TL_pure (d := (some 16)) rfl rfl rfl (PV_move rfl) ?_
  refine TL_perm ((perm_pick (i := 1) rfl).trans (List.Perm.cons _ (List.Perm.refl _))) ?_
  refine TL_cons rfl (TO_call0 call17 rfl rfl (t78 _) ?_)
  rintro v17_13 H17_13 ⟨rfl, rfl⟩
  refine TL_pure (d := (some 15)) rfl rfl rfl (PV_move rfl) ?_
  refine TL_pure (d := (some 18)) rfl rfl rfl (PV_extract rfl rfl) ?_
  refine TL_pure (d := (some 19)) rfl rfl rfl (PV_extract rfl rfl) ?_
  refine TL_pure (d := (some 4)) rfl rfl rfl (PV_assign rfl) ?_
  refine TL_pure (d := (some 5)) rfl rfl rfl (PV_assign rfl) ?_
  refine TL_nil ?_
  refine T_seq ?_
  refine T_region ?_
  refine TL_pure (d := (some 20)) rfl rfl rfl (PV_move rfl) ?_
  refine TL_pure (d := (some 21)) rfl rfl rfl (PV_b2s Tryd.underlying24 Tryd.underlying5 Tryd.underlying9 rfl (Shows.at 5 rfl)) ?_
  refine TL_pure (d := (some 22)) rfl rfl rfl (PV_bin rfl rfl bin_str_eql) ?_
  refine TL_pure (d := (some 23)) rfl rfl rfl (PV_move rfl) ?_
  refine TL_yes rfl rfl rfl (TO_pure rfl (PV_move rfl) ?_)
  refine TL_yes rfl rfl rfl (TO_pure rfl (PV_b2s Tryd.underlying24 Tryd.underlying5 Tryd.underlying9 rfl (Shows.at 1 rfl)) ?_)
  refine TL_yes rfl rfl rfl (TO_pure rfl (PV_bin rfl rfl bin_str_eql) ?_)
  refine TL_pure (d := (some 27)) rfl rfl rfl (PV_pickAnd rfl rfl rfl) ?_
  refine TL_pure (d := (some 28)) rfl rfl rfl (PV_move rfl) ?_
  refine TL_yes rfl rfl rfl (TO_pure rfl (PV_move rfl) ?_)
  refine TL_pure (d := (some 30)) rfl rfl rfl (PV_pickAnd rfl rfl rfl) ?_
  refine TL_pure (d := (some 31)) rfl rfl rfl (PV_move rfl) ?_
  refine TL_yes rfl rfl rfl (TO_pure rfl (PV_move rfl) ?_)
  refine TL_yes rfl rfl rfl (TO_pure rfl (PV_bin rfl rfl (bin_nil_nil Tryd.underlying31)) ?_)
  refine TL_pure (d := (some 34)) rfl rfl rfl (PV_pickAnd rfl rfl rfl) ?_
  refine TL_pure (d := (some 0)) rfl rfl rfl (PV_assign rfl) ?_
  refine TL_nil ?_
  refine T_ret ?_
  refine ret_ret (ResV_one rfl rfl) ⟨_, ?zb14q21, ⟨rfl, rfl⟩⟩
  case zb14q21 => exact (by (repeat (first | exact List.Sublist.refl _ | exact List.sublist_append_right _ _ | exact List.sublist_append_left _ _ | apply List.Sublist.cons_cons | apply List.Sublist.cons | refine List.Sublist.trans ?_ (List.sublist_append_left _ _))); done)
/-- the receiver ahead of its tick k, where nothing came -/
def rE (T C : Nat) (crc close : Bool) (k : Nat) : Rc := ⟨crc, C, ((T - (k + C - 1) / C : Nat) : Int), ((C - (k + C - 1) % C : Nat) : Int), 1, false, close, [], [], 0, 1, false, 0⟩
def rF (C : Nat) (crc close : Bool) : Rc := ⟨crc, C, 0, C, 1, false, close, [], [], 0, 1, true, 10⟩
def askS (crc : Bool) : List Int := if crc then [67] else [21]
theorem div_of {C u q r : Nat} (h : u = C * q + r) (hr : r < C) : u / C = q ∧ u % C = r := by
  subst h
  exact ⟨by rw [Nat.add_comm, Nat.add_mul_div_left _ _ (by omega), Nat.div_eq_of_lt hr, Nat.zero_add], by rw [Nat.mul_add_mod, Nat.mod_eq_of_lt hr]⟩
theorem rE_at {T C k q r : Nat} {crc close : Bool} (h : k + C - 1 = C * q + r) (hr : r < C) : rE T C crc close k = ⟨crc, C, ((T - q : Nat) : Int), ((C - r : Nat) : Int), 1, false, close, [], [], 0, 1, false, 0⟩ := by
  obtain ⟨h1, h2⟩ := div_of h hr
  unfold rE
  rw [h1, h2]
theorem rtick0 (r : Rc) (ho : r.over = false) (hb : r.begun = false) : (r.left - 1 > 0 → r.tick = { r with left := r.left - 1 } ∧ r.tickOut = []) ∧ (¬ r.left - 1 > 0 → r.tries = 0 → r.tick = { r with left := r.wait, buf := [], over := true, err := 10 } ∧ r.tickOut = [24, 24]) ∧ (¬ r.left - 1 > 0 → r.tries ≠ 0 → r.tick = { r with left := r.wait, buf := [], tries := r.tries - 1 } ∧ r.tickOut = [if r.crc = true then 67 else 21]) := by
  have h0 : ¬ r.over = true := by rw [ho]; decide
  refine ⟨fun h1 => ?_, fun h1 h2 => ?_, fun h1 h2 => ?_⟩
  · unfold Rc.tick Rc.tickOut
    rw [if_neg h0, if_neg h0, if_pos h1, if_pos h1]
    exact ⟨rfl, rfl⟩
  · unfold Rc.tick Rc.tickOut
    rw [if_neg h0, if_neg h0, if_neg h1, if_neg h1, if_pos ⟨hb, h2⟩, if_pos ⟨hb, h2⟩]
    exact ⟨rfl, rfl⟩
  · unfold Rc.tick Rc.tickOut Rc.askB
    rw [if_neg h0, if_neg h0, if_neg h1, if_neg h1, if_neg (show ¬ (r.begun = false ∧ r.tries = 0) from fun h => h2 h.2), if_neg (show ¬ (r.begun = false ∧ r.tries = 0) from fun h => h2 h.2), if_pos hb]
    refine ⟨rfl, ?_⟩
    simp [hb]
/-- one that waits -/
theorem rE_wait {T C k : Nat} {crc close : Bool} (hC : 1 ≤ C) (hk : k % C ≠ 0) : (rE T C crc close k).tick = rE T C crc close (k + 1) ∧ (rE T C crc close k).tickOut = [] := by
  have e := Nat.div_add_mod k C
  have hl := Nat.mod_lt k hC
  have e1 : k + C - 1 = C * (k / C + 1) + (k % C - 1) := by rw [Nat.mul_add]; omega
  have e2 : k + 1 + C - 1 = C * (k / C + 1) + (k % C - 1 + 1) := by rw [Nat.mul_add]; omega
  rw [rE_at e1 (by omega), rE_at e2 (by omega)]
  obtain ⟨a1, a2⟩ := (rtick0 ⟨crc, C, ((T - (k / C + 1) : Nat) : Int), ((C - (k % C - 1) : Nat) : Int), 1, false, close, [], [], 0, 1, false, 0⟩ rfl rfl).1 (show ((C - (k % C - 1) : Nat) : Int) - 1 > 0 by omega)
  rw [a1, a2]
  refine ⟨?_, rfl⟩
  congr 1
  show ((C - (k % C - 1) : Nat) : Int) - 1 = _
  omega
theorem rE_ask {T C k : Nat} {crc close : Bool} (hC : 1 ≤ C) (hk : k % C = 0) (hT : k < T * C) : (rE T C crc close k).tick = rE T C crc close (k + 1) ∧ (rE T C crc close k).tickOut = askS crc := by
  have e := Nat.div_add_mod k C
  have hq : k / C < T := Nat.div_lt_of_lt_mul (by rw [Nat.mul_comm]; exact hT)
  have e1 : k + C - 1 = C * (k / C) + (C - 1) := by omega
  have e2 : k + 1 + C - 1 = C * (k / C + 1) + 0 := by rw [Nat.mul_add]; omega
  rw [rE_at e1 (by omega), rE_at e2 (by omega)]
  generalize k / C = q at *
  obtain ⟨a1, a2⟩ := (rtick0 ⟨crc, C, ((T - q : Nat) : Int), ((C - (C - 1) : Nat) : Int), 1, false, close, [], [], 0, 1, false, 0⟩ rfl rfl).2.2 (show ¬ ((C - (C - 1) : Nat) : Int) - 1 > 0 by omega) (show ((T - q : Nat) : Int) ≠ 0 by omega)
  rw [a1, a2]
  refine ⟨?_, ?_⟩
  · congr 1
    show ((T - q : Nat) : Int) - 1 = _
    omega
  · unfold askS
    cases crc <;> rfl
theorem rE_end {T C : Nat} {crc close : Bool} (hC : 1 ≤ C) : (rE T C crc close (T * C)).tick = rF C crc close ∧ (rE T C crc close (T * C)).tickOut = [24, 24] := by
  have e1 : T * C + C - 1 = C * T + (C - 1) := by rw [Nat.mul_comm]; omega
  rw [rE_at e1 (by omega)]
  obtain ⟨a1, a2⟩ := (rtick0 ⟨crc, C, ((T - T : Nat) : Int), ((C - (C - 1) : Nat) : Int), 1, false, close, [], [], 0, 1, false, 0⟩ rfl rfl).2.1 (show ¬ ((C - (C - 1) : Nat) : Int) - 1 > 0 by omega) (show ((T - T : Nat) : Int) = 0 by omega)
  rw [a1, a2]
  refine ⟨?_, rfl⟩
  unfold rF
  congr 1
  show ((T - T : Nat) : Int) = 0
  omega
theorem t72e {g bc dc : Nat} {bA dA : Option Addr} {T C k : Nat} {crc close : Bool} {r' : Rc} {out : List Int} (hT : T ≤ 9) (hC : C ≤ 99) (h : (rE T C crc close k).tick = r' ∧ (rE T C crc close k).tickOut = out) :
    TCall Tryd.prog w0 B 16 #[.pointer (some ⟨g, 0, none⟩)] (fun v H' => RGives g out r' X v H') (rcC g bA bc dA dc (rE T C crc close k) :: byC bA bc [] :: byC dA dc [] :: X) := by
  have h1 := t72 (w0 := w0) (B := B) (X := X) (g := g) (bA := bA) (bc := bc) (dA := dA) (dc := dc) (rE T C crc close k) (by show 0 ≤ ((C - (k + C - 1) % C : Nat) : Int); omega) (by show ((C - (k + C - 1) % C : Nat) : Int) ≤ 1000; omega) (by show 0 ≤ ((T - (k + C - 1) / C : Nat) : Int); omega) (by show ((T - (k + C - 1) / C : Nat) : Int) ≤ 1000; have := Nat.sub_le T ((k + C - 1) / C); omega)
  rw [h.1, h.2] at h1
  exact h1
theorem t78f {g bc dc : Nat} {bA dA : Option Addr} {C : Nat} {crc close : Bool} : TCall Tryd.prog w0 B 17 #[.pointer (some ⟨g, 0, none⟩)] (fun v H' => v = .tuple #[.bool true, .iface 35 (.int .i64 10)] ∧ H' = rcC g bA bc dA dc (rF C crc close) :: X) (rcC g bA bc dA dc (rF C crc close) :: X) := by
  refine (t78 (w0 := w0) (B := B) (X := X) (g := g) (bA := bA) (bc := bc) (dA := dA) (dc := dc) (rF C crc close)).mono fun v h' q => ⟨?_, q.2⟩
  rw [q.1]
  rfl
theorem ReceiverAsks_t (a b : Int) (crc close : Bool) (hL : Laid w0) (hB0 : 0 < B) :
    TCall Tryd.prog w0 B 4 #[.agg #[.int .i64 a, .int .i64 b], .bool crc, .bool close] (fun r H' => r = .bool true ∧ H' = H) H := by
  obtain ⟨T, hT⟩ := Int.eq_ofNat_of_zero_le (show 0 ≤ max 1 (min a 9) by omega)
  obtain ⟨C, hC⟩ := Int.eq_ofNat_of_zero_le (show 0 ≤ max 1 (min b 99) by omega)
  have hT9 : 1 ≤ T ∧ T ≤ 9 := by omega
  have hC9 : 1 ≤ C ∧ C ≤ 99 := by omega
  have hTC : 1 ≤ T * C ∧ T * C ≤ 891 := ⟨Nat.mul_le_mul hT9.1 hC9.1, Nat.mul_le_mul hT9.2 hC9.2⟩
  have e25 : Value.int .i64 (max 1 (min a 9)) = .int .i64 (T : Int) := by rw [hT]
  have e29 : Value.int .i64 (max 1 (min b 99)) = .int .i64 (C : Int) := by rw [hC]
  have hr0 : Rc.of a b 1 crc close 1 = rE T C crc close 0 := by
    rw [rE_at (show 0 + C - 1 = C * 0 + (C - 1) by omega) (by omega)]
    unfold Rc.of
    rw [hT, hC]
    congr 1
    omega
  cases crc with
  | true =>
    refine TCall_intro (args := [_, _, _]) Tryd.func4 rfl Tryd.ntmps4 (Nat.le_of_ble_eq_true rfl) ?_
    refine T_seq ?_
    refine T_region ?_
    refine TL_cons rfl (TO_box rfl rfl fun g1 => ?_)
    refine TL_pure (d := (some 6)) rfl rfl rfl (PV_assign rfl) ?_
    refine TL_nil ?_
    refine T_seq ?_
    refine T_seq ?_
    refine T_region ?_
    refine TL_cons rfl (TO_call0 call14 rfl rfl (awake11) ?_)
    rintro v16_4 H16_4 ⟨rfl, rfl⟩
    refine TL_pure (d := (some 17)) rfl rfl rfl (PV_not rfl) ?_
    refine TL_nil ?_
    refine T_else rfl (by rfl) ?_
    refine T_skip ?_
    refine T_seq ?_
    refine T_region ?_
    refine TL_pure (d := (some 18)) rfl rfl rfl (PV_loadAt Tryd.underlying23 rfl sz23 rfl (Rds.take 0 rfl rfl rfl)) ?_
    refine TL_pure (d := (some 19)) rfl rfl rfl (PV_move rfl) ?_
    refine TL_pure (d := (some 20)) rfl rfl rfl (PV_move rfl) ?_
    refine TL_cons rfl (TO_call0 call15 rfl rfl (t69 _ _ _ _ _ _) ?_)
    rintro v21_7 H21_7 ⟨g_7, rfl, rfl⟩
    refine TL_pure (d := (some 7)) rfl rfl rfl (PV_assign rfl) ?_
    refine TL_nil ?_
    refine T_seq ?_
    refine T_drawn (WH _ _ _) mixed (fun w h => h) ?_
    refine TA_take (dd := (some 22)) 0 rfl (by kernel_rfl) (by kernel_rfl) (by kernel_rfl) rfl rfl rfl (PV_fieldAddr (D := 0) Tryd.underlying23 rfl sz3 (by decide) rfl rfl) ?_
    refine TA_take (dd := (some 23)) 1 rfl (by kernel_rfl) (by kernel_rfl) (by kernel_rfl) rfl rfl rfl (PV_load Tryd.underlying3 rfl rfl (Rd.at 3 rfl rfl)) ?_
    refine TA_take (dd := (some 24)) 2 rfl (by kernel_rfl) (by kernel_rfl) (by kernel_rfl) rfl rfl rfl (PV_min rfl rfl) ?_
    refine TA_take (dd := (some 25)) 3 rfl (by kernel_rfl) (by kernel_rfl) (by kernel_rfl) rfl rfl rfl (PV.cast (PV_max rfl rfl) e25) ?_
    refine TA_take (dd := (some 26)) 4 rfl (by kernel_rfl) (by kernel_rfl) (by kernel_rfl) rfl rfl rfl (PV_fieldAddr (D := 1) Tryd.underlying23 rfl sz3 (by decide) rfl rfl) ?_
    refine TA_take (dd := (some 27)) 5 rfl (by kernel_rfl) (by kernel_rfl) (by kernel_rfl) rfl rfl rfl (PV_load Tryd.underlying3 rfl rfl (Rd.at 3 rfl rfl)) ?_
    refine TA_take (dd := (some 28)) 6 rfl (by kernel_rfl) (by kernel_rfl) (by kernel_rfl) rfl rfl rfl (PV_min rfl rfl) ?_
    refine TA_take (dd := (some 29)) 7 rfl (by kernel_rfl) (by kernel_rfl) (by kernel_rfl) rfl rfl rfl (PV.cast (PV_max rfl rfl) e29) ?_
    refine TA_take (dd := (some 8)) 8 rfl (by kernel_rfl) (by kernel_rfl) (by kernel_rfl) rfl rfl rfl (PV_assign rfl) ?_
    refine TA_take (dd := (some 9)) 9 rfl (by kernel_rfl) (by kernel_rfl) (by kernel_rfl) rfl rfl rfl (PV_assign rfl) ?_
    refine TA_done (by kernel_rfl) ?_
    refine T_seq ?_
    refine T_region ?_
    refine TL_pure (d := (some 10)) rfl rfl rfl (PV_assign rfl) ?_
    refine TL_nil ?_
    refine T_seq ?_
    refine T_seq ?_
    refine T_region ?_
    refine TL_pure (d := (some 30)) rfl rfl rfl (PV_move rfl) ?_
    refine TL_nil ?_
    refine T_then rfl (by rfl) ?_
    refine T_region ?_
    refine TL_pure (d := (some 10)) rfl rfl rfl (PV_assign rfl) ?_
    refine TL_nil ?_
    refine T_seq ?_
    refine T_seq ?_
    refine T_region ?_
    refine TL_pure (d := (some 11)) rfl rfl rfl (PV_assign rfl) ?_
    refine TL_nil ?_
    refine T_block ?_
    refine ?L1
    case L1 =>
      rw [hr0]
      refine T_loopP6 (fun (k : Nat) (r : Rc) (bA : Option Addr) (bc : Nat) (dA : Option Addr) (dc : Nat) => (k ≤ T * C ∧ r = rE T C true close k) ∨ (k = T * C + 1 ∧ r = rF C true close)) (fun k _ _ _ _ _ => T * C + 1 - k) (fun k _ _ _ _ _ => [(6, .bool false), (7, .pointer (some ⟨g_7, 0, none⟩)), (8, .int .i64 (T : Int)), (9, .int .i64 (C : Int)), (10, .string (strOfNums (askS true))), (11, .int .i64 (k : Int))]) (fun k r bA bc dA dc => rcC g_7 bA bc dA dc r :: byC bA bc [] :: byC dA dc [] :: .own g1 2 [.int .i64 a, .int .i64 b] :: H) 0 _ none 0 none 0 (Or.inl ⟨Nat.zero_le _, rfl⟩) (by repeat (first | exact FrSub.nil _ | refine FrSub.cons rfl ?_)) (Has.of_sub (by repeat (first | exact List.Sublist.refl _ | exact List.sublist_append_right _ _ | exact List.sublist_append_left _ _ | apply List.Sublist.cons_cons | apply List.Sublist.cons | refine List.Sublist.trans ?_ (List.sublist_append_left _ _)))) ?_
      rintro k r bA bc dA dc (⟨hk, rfl⟩ | ⟨rfl, rfl⟩)
      · have e34 : Value.int .i64 (IntKind.i64.wrap ((T : Int) * (C : Int))) = .int .i64 ((T * C : Nat) : Int) := by
          rw [show (T : Int) * (C : Int) = ((T * C : Nat) : Int) from (Int.natCast_mul T C).symm]
          exact wr64 (by omega)
        have e43 : Value.int .i64 (Int.tmod (k : Int) (C : Int)) = .int .i64 ((k % C : Nat) : Int) := rfl
        by_cases hz : k % C = 0
        · by_cases hkl : k < T * C
          · have hst := rE_ask (T := T) (crc := true) (close := close) hC9.1 hz hkl
            refine T_seq ?_
            refine T_seq ?_
            refine T_region ?_
            refine TL_pure (d := (some 31)) rfl rfl rfl (PV_move rfl) ?_
            refine TL_pure (d := (some 32)) rfl rfl rfl (PV_move rfl) ?_
            refine TL_pure (d := (some 33)) rfl rfl rfl (PV_move rfl) ?_
            refine TL_pure (d := (some 34)) rfl rfl rfl (PV.cast (PV_bin rfl rfl bin_mul) e34) ?_
            refine TL_pure (d := (some 35)) rfl rfl rfl (PV_bin rfl rfl bin_leq) ?_
            refine TL_nil ?_
            refine T_then rfl (by exact decide_eq_true (by omega)) ?_
            refine T_skip ?_
            refine T_seq ?_
            refine T_block ?_
            refine T_seq ?_
            refine T_region ?_
            refine TL_pure (d := (some 38)) rfl rfl rfl (PV_move rfl) ?_
            refine TL_cons rfl (TO_call0 call16 rfl rfl (t72e (T := T) (C := C) (k := k) (crc := true) (close := close) (out := askS true) ?sd1102q129_0 ?sd1102q129_1 hst) ?_)
            case sd1102q129_0 => omega
            case sd1102q129_1 => omega
            rintro v39_1103 H39_1103 ⟨A_1103, k_1103, bA_1103, bc_1103, dA_1103, dc_1103, rfl, h_1103_0, rfl⟩
            refine TL_pure (d := (some 40)) rfl rfl rfl (PV_b2s Tryd.underlying24 Tryd.underlying5 Tryd.underlying9 rfl (Shows.at 0 rfl)) ?_
            refine TL_pure (d := (some 12)) rfl rfl rfl (PV_assign rfl) ?_
            refine TL_nil ?_
            refine T_seq ?_
            refine T_region ?_
            refine TL_pure (d := (some 13)) rfl rfl rfl (PV_assign rfl) ?_
            refine TL_nil ?_
            refine T_seq ?_
            refine T_seq ?_
            refine T_region ?_
            refine TL_pure (d := (some 41)) rfl rfl rfl (PV_move rfl) ?_
            refine TL_pure (d := (some 42)) rfl rfl rfl (PV_move rfl) ?_
            refine TL_pure (d := (some 43)) rfl rfl rfl (PV.cast (PV_bin rfl rfl (bin_rem (by omega))) e43) ?_
            refine TL_pure (d := (some 44)) rfl rfl rfl (PV_bin rfl rfl bin_eql) ?_
            refine TL_nil ?_
            refine T_then rfl (by (simp [hz]; done)) ?_
            refine T_region ?_
            refine TL_pure (d := (some 45)) rfl rfl rfl (PV_move rfl) ?_
            refine TL_pure (d := (some 13)) rfl rfl rfl (PV_assign rfl) ?_
            refine TL_nil ?_
            refine T_seq ?_
            refine T_seq ?_
            refine T_region ?_
            refine TL_pure (d := (some 46)) rfl rfl rfl (PV_move rfl) ?_
            refine TL_pure (d := (some 47)) rfl rfl rfl (PV_move rfl) ?_
            refine TL_pure (d := (some 48)) rfl rfl rfl (PV_move rfl) ?_
            refine TL_pure (d := (some 49)) rfl rfl rfl (PV.cast (PV_bin rfl rfl bin_mul) e34) ?_
            refine TL_pure (d := (some 50)) rfl rfl rfl (PV_bin rfl rfl bin_eql) ?_
            refine TL_nil ?_
            refine T_else rfl (by exact decide_eq_false (by omega)) ?_
            refine T_skip ?_
            refine T_seq ?_
            refine T_region ?_
            refine TL_pure (d := (some 51)) rfl rfl rfl (PV_move rfl) ?_
            refine TL_pure (d := (some 52)) rfl rfl rfl (PV_move rfl) ?_
            refine TL_pure (d := (some 53)) rfl rfl rfl (PV_bin rfl rfl bin_str_neq) ?_
            refine TL_nil ?_
            refine T_else rfl (by rfl) ?_
            refine T_skip ?_
            refine T_region ?_
            refine TL_pure (d := (some 36)) rfl rfl rfl (PV_move rfl) ?_
            refine TL_pure (d := (some 37)) rfl rfl rfl (PV.cast (PV_bin rfl rfl bin_add) (wr64 (by omega))) ?_
            refine TL_pure (d := (some 11)) rfl rfl rfl (PV_assign rfl) ?_
            refine TL_nil ?_
            refine ?L12
            all_goals (exact ⟨k + 1, _, _, _, _, _, Or.inl ⟨by omega, rfl⟩, by omega, (by repeat (first | exact FrSub.nil _ | refine FrSub.cons rfl ?_)), Has.of_sub (by repeat (first | exact List.Sublist.refl _ | exact List.sublist_append_right _ _ | exact List.sublist_append_left _ _ | apply List.Sublist.cons_cons | apply List.Sublist.cons | refine List.Sublist.trans ?_ (List.sublist_append_left _ _)))⟩)
          · obtain rfl : k = T * C := by omega
            have hst := rE_end (T := T) (C := C) (crc := true) (close := close) hC9.1
            refine T_seq ?_
            refine T_seq ?_
            refine T_region ?_
            refine TL_pure (d := (some 31)) rfl rfl rfl (PV_move rfl) ?_
            refine TL_pure (d := (some 32)) rfl rfl rfl (PV_move rfl) ?_
            refine TL_pure (d := (some 33)) rfl rfl rfl (PV_move rfl) ?_
            refine TL_pure (d := (some 34)) rfl rfl rfl (PV.cast (PV_bin rfl rfl bin_mul) e34) ?_
            refine TL_pure (d := (some 35)) rfl rfl rfl (PV_bin rfl rfl bin_leq) ?_
            refine TL_nil ?_
            refine T_then rfl (by (simp [hz]; done)) ?_
            refine T_skip ?_
            refine T_seq ?_
            refine T_block ?_
            refine T_seq ?_
            refine T_region ?_
            refine TL_pure (d := (some 38)) rfl rfl rfl (PV_move rfl) ?_
            refine TL_cons rfl (TO_call0 call16 rfl rfl (t72e (T := T) (C := C) (k := T * C) (crc := true) (close := close) (out := [24, 24]) ?sd1202q138_0 ?sd1202q138_1 hst) ?_)
            case sd1202q138_0 => omega
            case sd1202q138_1 => omega
            rintro v39_1203 H39_1203 ⟨A_1203, k_1203, bA_1203, bc_1203, dA_1203, dc_1203, rfl, h_1203_0, rfl⟩
            refine TL_pure (d := (some 40)) rfl rfl rfl (PV_b2s Tryd.underlying24 Tryd.underlying5 Tryd.underlying9 rfl (Shows.at 0 rfl)) ?_
            refine TL_pure (d := (some 12)) rfl rfl rfl (PV_assign rfl) ?_
            refine TL_nil ?_
            refine T_seq ?_
            refine T_region ?_
            refine TL_pure (d := (some 13)) rfl rfl rfl (PV_assign rfl) ?_
            refine TL_nil ?_
            refine T_seq ?_
            refine T_seq ?_
            refine T_region ?_
            refine TL_pure (d := (some 41)) rfl rfl rfl (PV_move rfl) ?_
            refine TL_pure (d := (some 42)) rfl rfl rfl (PV_move rfl) ?_
            refine TL_pure (d := (some 43)) rfl rfl rfl (PV.cast (PV_bin rfl rfl (bin_rem (by omega))) e43) ?_
            refine TL_pure (d := (some 44)) rfl rfl rfl (PV_bin rfl rfl bin_eql) ?_
            refine TL_nil ?_
            refine T_then rfl (by (simp [hz]; done)) ?_
            refine T_region ?_
            refine TL_pure (d := (some 45)) rfl rfl rfl (PV_move rfl) ?_
            refine TL_pure (d := (some 13)) rfl rfl rfl (PV_assign rfl) ?_
            refine TL_nil ?_
            refine T_seq ?_
            refine T_seq ?_
            refine T_region ?_
            refine TL_pure (d := (some 46)) rfl rfl rfl (PV_move rfl) ?_
            refine TL_pure (d := (some 47)) rfl rfl rfl (PV_move rfl) ?_
            refine TL_pure (d := (some 48)) rfl rfl rfl (PV_move rfl) ?_
            refine TL_pure (d := (some 49)) rfl rfl rfl (PV.cast (PV_bin rfl rfl bin_mul) e34) ?_
            refine TL_pure (d := (some 50)) rfl rfl rfl (PV_bin rfl rfl bin_eql) ?_
            refine TL_nil ?_
            refine T_then rfl (by (simp [hz]; done)) ?_
            refine T_region ?_
            refine TL_pure (d := (some 13)) rfl rfl rfl (PV_assign rfl) ?_
            refine TL_nil ?_
            refine T_seq ?_
            refine T_region ?_
            refine TL_pure (d := (some 51)) rfl rfl rfl (PV_move rfl) ?_
            refine TL_pure (d := (some 52)) rfl rfl rfl (PV_move rfl) ?_
            refine TL_pure (d := (some 53)) rfl rfl rfl (PV_bin rfl rfl bin_str_neq) ?_
            refine TL_nil ?_
            refine T_else rfl (by rfl) ?_
            refine T_skip ?_
            refine T_region ?_
            refine TL_pure (d := (some 36)) rfl rfl rfl (PV_move rfl) ?_
            refine TL_pure (d := (some 37)) rfl rfl rfl (PV.cast (PV_bin rfl rfl bin_add) (wr64 (by omega))) ?_
            refine TL_pure (d := (some 11)) rfl rfl rfl (PV_assign rfl) ?_
            refine TL_nil ?_
            refine ?L13
            all_goals (exact ⟨T * C + 1, _, _, _, _, _, Or.inr ⟨rfl, rfl⟩, by omega, (by repeat (first | exact FrSub.nil _ | refine FrSub.cons rfl ?_)), Has.of_sub (by repeat (first | exact List.Sublist.refl _ | exact List.sublist_append_right _ _ | exact List.sublist_append_left _ _ | apply List.Sublist.cons_cons | apply List.Sublist.cons | refine List.Sublist.trans ?_ (List.sublist_append_left _ _)))⟩)
        · have hst := rE_wait (T := T) (crc := true) (close := close) hC9.1 hz
          have hkl : k < T * C := by
            rcases Nat.lt_or_ge k (T * C) with h | h
            · exact h
            · exact absurd (by rw [show k = T * C by omega, Nat.mul_mod_left]) hz
          refine T_seq ?_
          refine T_seq ?_
          refine T_region ?_
          refine TL_pure (d := (some 31)) rfl rfl rfl (PV_move rfl) ?_
          refine TL_pure (d := (some 32)) rfl rfl rfl (PV_move rfl) ?_
          refine TL_pure (d := (some 33)) rfl rfl rfl (PV_move rfl) ?_
          refine TL_pure (d := (some 34)) rfl rfl rfl (PV.cast (PV_bin rfl rfl bin_mul) e34) ?_
          refine TL_pure (d := (some 35)) rfl rfl rfl (PV_bin rfl rfl bin_leq) ?_
          refine TL_nil ?_
          refine T_then rfl (by exact decide_eq_true (by omega)) ?_
          refine T_skip ?_
          refine T_seq ?_
          refine T_block ?_
          refine T_seq ?_
          refine T_region ?_
          refine TL_pure (d := (some 38)) rfl rfl rfl (PV_move rfl) ?_
          refine TL_cons rfl (TO_call0 call16 rfl rfl (t72e (T := T) (C := C) (k := k) (crc := true) (close := close) (out := []) ?sd1302q150_0 ?sd1302q150_1 hst) ?_)
          case sd1302q150_0 => omega
          case sd1302q150_1 => omega
          rintro v39_1303 H39_1303 ⟨A_1303, k_1303, bA_1303, bc_1303, dA_1303, dc_1303, rfl, h_1303_0, rfl⟩
          refine TL_pure (d := (some 40)) rfl rfl rfl (PV_b2s Tryd.underlying24 Tryd.underlying5 Tryd.underlying9 rfl (Shows.at 0 rfl)) ?_
          refine TL_pure (d := (some 12)) rfl rfl rfl (PV_assign rfl) ?_
          refine TL_nil ?_
          refine T_seq ?_
          refine T_region ?_
          refine TL_pure (d := (some 13)) rfl rfl rfl (PV_assign rfl) ?_
          refine TL_nil ?_
          refine T_seq ?_
          refine T_seq ?_
          refine T_region ?_
          refine TL_pure (d := (some 41)) rfl rfl rfl (PV_move rfl) ?_
          refine TL_pure (d := (some 42)) rfl rfl rfl (PV_move rfl) ?_
          refine TL_pure (d := (some 43)) rfl rfl rfl (PV.cast (PV_bin rfl rfl (bin_rem (by omega))) e43) ?_
          refine TL_pure (d := (some 44)) rfl rfl rfl (PV_bin rfl rfl bin_eql) ?_
          refine TL_nil ?_
          refine T_else rfl (by exact decide_eq_false (by omega)) ?_
          refine T_skip ?_
          refine T_seq ?_
          refine T_seq ?_
          refine T_region ?_
          refine TL_pure (d := (some 46)) rfl rfl rfl (PV_move rfl) ?_
          refine TL_pure (d := (some 47)) rfl rfl rfl (PV_move rfl) ?_
          refine TL_pure (d := (some 48)) rfl rfl rfl (PV_move rfl) ?_
          refine TL_pure (d := (some 49)) rfl rfl rfl (PV.cast (PV_bin rfl rfl bin_mul) e34) ?_
          refine TL_pure (d := (some 50)) rfl rfl rfl (PV_bin rfl rfl bin_eql) ?_
          refine TL_nil ?_
          refine T_else rfl (by exact decide_eq_false (by omega)) ?_
          refine T_skip ?_
          refine T_seq ?_
          refine T_region ?_
          refine TL_pure (d := (some 51)) rfl rfl rfl (PV_move rfl) ?_
          refine TL_pure (d := (some 52)) rfl rfl rfl (PV_move rfl) ?_
          refine TL_pure (d := (some 53)) rfl rfl rfl (PV_bin rfl rfl bin_str_neq) ?_
          refine TL_nil ?_
          refine T_else rfl (by rfl) ?_
          refine T_skip ?_
          refine T_region ?_
          refine TL_pure (d := (some 36)) rfl rfl rfl (PV_move rfl) ?_
          refine TL_pure (d := (some 37)) rfl rfl rfl (PV.cast (PV_bin rfl rfl bin_add) (wr64 (by omega))) ?_
          refine TL_pure (d := (some 11)) rfl rfl rfl (PV_assign rfl) ?_
          refine TL_nil ?_
          refine ?L14
          all_goals (exact ⟨k + 1, _, _, _, _, _, Or.inl ⟨by omega, rfl⟩, by omega, (by repeat (first | exact FrSub.nil _ | refine FrSub.cons rfl ?_)), Has.of_sub (by repeat (first | exact List.Sublist.refl _ | exact List.sublist_append_right _ _ | exact List.sublist_append_left _ _ | apply List.Sublist.cons_cons | apply List.Sublist.cons | refine List.Sublist.trans ?_ (List.sublist_append_left _ _)))⟩)
      · have e34 : Value.int .i64 (IntKind.i64.wrap ((T : Int) * (C : Int))) = .int .i64 ((T * C : Nat) : Int) := by
          rw [show (T : Int) * (C : Int) = ((T * C : Nat) : Int) from (Int.natCast_mul T C).symm]
          exact wr64 (by omega)
        refine T_seq ?_
        refine T_seq ?_
        refine T_region ?_
        refine TL_pure (d := (some 31)) rfl rfl rfl (PV_move rfl) ?_
        refine TL_pure (d := (some 32)) rfl rfl rfl (PV_move rfl) ?_
        refine TL_pure (d := (some 33)) rfl rfl rfl (PV_move rfl) ?_
        refine TL_pure (d := (some 34)) rfl rfl rfl (PV.cast (PV_bin rfl rfl bin_mul) e34) ?_
        refine TL_pure (d := (some 35)) rfl rfl rfl (PV_bin rfl rfl bin_leq) ?_
        refine TL_nil ?_
        refine T_else rfl (by exact decide_eq_false (by omega)) ?_
        refine T_exit ?_
        refine T_seq ?_
        refine T_region ?_
        refine TL_pure (d := (some 55)) rfl rfl rfl (PV_move rfl) ?_
        refine TL_cons rfl (TO_call0 call17 rfl rfl (t78f) ?_)
        rintro v56_1403 H56_1403 ⟨rfl, rfl⟩
        refine TL_pure (d := (some 54)) rfl rfl rfl (PV_move rfl) ?_
        refine TL_pure (d := (some 57)) rfl rfl rfl (PV_extract rfl rfl) ?_
        refine TL_pure (d := (some 58)) rfl rfl rfl (PV_extract rfl rfl) ?_
        refine TL_pure (d := (some 14)) rfl rfl rfl (PV_assign rfl) ?_
        refine TL_pure (d := (some 15)) rfl rfl rfl (PV_assign rfl) ?_
        refine TL_nil ?_
        refine T_seq ?_
        refine T_region ?_
        refine TL_pure (d := (some 59)) rfl rfl rfl (PV_move rfl) ?_
        refine TL_pure (d := (some 60)) rfl rfl rfl (PV_move rfl) ?_
        refine TL_yes rfl rfl rfl (TO_pure rfl (PV_move rfl) ?_)
        refine TL_yes rfl rfl rfl (TO_call0 call12 rfl rfl (number_t ?sd1405q160_0 ?sd1405q160_1 _) ?_)
        case sd1405q160_0 => exact hL
        case sd1405q160_1 => exact hB0
        rintro v62_1406 H62_1406 ⟨rfl, rfl⟩
        refine TL_yes rfl rfl rfl (TO_pure rfl (PV_bin rfl rfl bin_eql) ?_)
        refine TL_pure (d := (some 64)) rfl rfl rfl (PV_pickAnd rfl rfl rfl) ?_
        refine TL_pure (d := (some 65)) rfl rfl rfl (PV_move rfl) ?_
        refine TL_yes rfl rfl rfl (TO_pure rfl (PV_move rfl) ?_)
        refine TL_perm ((perm_pick (i := 0) rfl).trans (List.Perm.cons _ ((perm_pick (i := 1) rfl).trans (List.Perm.cons _ (List.Perm.refl _))))) ?_
        refine TL_yes rfl rfl rfl (TO_call0 call18 rfl rfl (t77 (r := rF C true close) ?sd1408q160_0) ?_)
        case sd1408q160_0 => exact Nat.le_of_ble_eq_true rfl
        rintro v67_1409 H67_1409 ⟨A_1409, k_1409, rfl, h_1409_0, rfl⟩
        refine TL_yes rfl rfl rfl (TO_pure rfl (PV_len_slice Tryd.underlying24 rfl) ?_)
        refine TL_yes rfl rfl rfl (TO_pure rfl (PV_bin rfl rfl bin_eql) ?_)
        refine TL_pure (d := (some 70)) rfl rfl rfl (PV_pickAnd rfl rfl rfl) ?_
        refine TL_pure (d := (some 6)) rfl rfl rfl (PV_assign rfl) ?_
        refine TL_nil ?_
        refine T_ret ?_
        refine ret_ret (ResV_one rfl rfl) ⟨_, ?zb1410q160, ⟨rfl, rfl⟩⟩
        case zb1410q160 => exact (by (repeat (first | exact List.Sublist.refl _ | exact List.sublist_append_right _ _ | exact List.sublist_append_left _ _ | apply List.Sublist.cons_cons | apply List.Sublist.cons | refine List.Sublist.trans ?_ (List.sublist_append_left _ _))); done)
  | false =>
    refine TCall_intro (args := [_, _, _]) Tryd.func4 rfl Tryd.ntmps4 (Nat.le_of_ble_eq_true rfl) ?_
    refine T_seq ?_
    refine T_region ?_
    refine TL_cons rfl (TO_box rfl rfl fun g5001 => ?_)
    refine TL_pure (d := (some 6)) rfl rfl rfl (PV_assign rfl) ?_
    refine TL_nil ?_
    refine T_seq ?_
    refine T_seq ?_
    refine T_region ?_
    refine TL_cons rfl (TO_call0 call14 rfl rfl (awake11) ?_)
    rintro v16_5004 H16_5004 ⟨rfl, rfl⟩
    refine TL_pure (d := (some 17)) rfl rfl rfl (PV_not rfl) ?_
    refine TL_nil ?_
    refine T_else rfl (by rfl) ?_
    refine T_skip ?_
    refine T_seq ?_
    refine T_region ?_
    refine TL_pure (d := (some 18)) rfl rfl rfl (PV_loadAt Tryd.underlying23 rfl sz23 rfl (Rds.take 0 rfl rfl rfl)) ?_
    refine TL_pure (d := (some 19)) rfl rfl rfl (PV_move rfl) ?_
    refine TL_pure (d := (some 20)) rfl rfl rfl (PV_move rfl) ?_
    refine TL_cons rfl (TO_call0 call15 rfl rfl (t69 _ _ _ _ _ _) ?_)
    rintro v21_5007 H21_5007 ⟨g_5007, rfl, rfl⟩
    refine TL_pure (d := (some 7)) rfl rfl rfl (PV_assign rfl) ?_
    refine TL_nil ?_
    refine T_seq ?_
    refine T_drawn (WH _ _ _) mixed (fun w h => h) ?_
    refine TA_take (dd := (some 22)) 0 rfl (by kernel_rfl) (by kernel_rfl) (by kernel_rfl) rfl rfl rfl (PV_fieldAddr (D := 0) Tryd.underlying23 rfl sz3 (by decide) rfl rfl) ?_
    refine TA_take (dd := (some 23)) 1 rfl (by kernel_rfl) (by kernel_rfl) (by kernel_rfl) rfl rfl rfl (PV_load Tryd.underlying3 rfl rfl (Rd.at 3 rfl rfl)) ?_
    refine TA_take (dd := (some 24)) 2 rfl (by kernel_rfl) (by kernel_rfl) (by kernel_rfl) rfl rfl rfl (PV_min rfl rfl) ?_
    refine TA_take (dd := (some 25)) 3 rfl (by kernel_rfl) (by kernel_rfl) (by kernel_rfl) rfl rfl rfl (PV.cast (PV_max rfl rfl) e25) ?_
    refine TA_take (dd := (some 26)) 4 rfl (by kernel_rfl) (by kernel_rfl) (by kernel_rfl) rfl rfl rfl (PV_fieldAddr (D := 1) Tryd.underlying23 rfl sz3 (by decide) rfl rfl) ?_
    refine TA_take (dd := (some 27)) 5 rfl (by kernel_rfl) (by kernel_rfl) (by kernel_rfl) rfl rfl rfl (PV_load Tryd.underlying3 rfl rfl (Rd.at 3 rfl rfl)) ?_
    refine TA_take (dd := (some 28)) 6 rfl (by kernel_rfl) (by kernel_rfl) (by kernel_rfl) rfl rfl rfl (PV_min rfl rfl) ?_
    refine TA_take (dd := (some 29)) 7 rfl (by kernel_rfl) (by kernel_rfl) (by kernel_rfl) rfl rfl rfl (PV.cast (PV_max rfl rfl) e29) ?_
    refine TA_take (dd := (some 8)) 8 rfl (by kernel_rfl) (by kernel_rfl) (by kernel_rfl) rfl rfl rfl (PV_assign rfl) ?_
    refine TA_take (dd := (some 9)) 9 rfl (by kernel_rfl) (by kernel_rfl) (by kernel_rfl) rfl rfl rfl (PV_assign rfl) ?_
    refine TA_done (by kernel_rfl) ?_
    refine T_seq ?_
    refine T_region ?_
    refine TL_pure (d := (some 10)) rfl rfl rfl (PV_assign rfl) ?_
    refine TL_nil ?_
    refine T_seq ?_
    refine T_seq ?_
    refine T_region ?_
    refine TL_pure (d := (some 30)) rfl rfl rfl (PV_move rfl) ?_
    refine TL_nil ?_
    refine T_else rfl (by rfl) ?_
    refine T_skip ?_
    refine T_seq ?_
    refine T_seq ?_
    refine T_region ?_
    refine TL_pure (d := (some 11)) rfl rfl rfl (PV_assign rfl) ?_
    refine TL_nil ?_
    refine T_block ?_
    refine ?L51
    case L51 =>
      rw [hr0]
      refine T_loopP6 (fun (k : Nat) (r : Rc) (bA : Option Addr) (bc : Nat) (dA : Option Addr) (dc : Nat) => (k ≤ T * C ∧ r = rE T C false close k) ∨ (k = T * C + 1 ∧ r = rF C false close)) (fun k _ _ _ _ _ => T * C + 1 - k) (fun k _ _ _ _ _ => [(6, .bool false), (7, .pointer (some ⟨g_5007, 0, none⟩)), (8, .int .i64 (T : Int)), (9, .int .i64 (C : Int)), (10, .string (strOfNums (askS false))), (11, .int .i64 (k : Int))]) (fun k r bA bc dA dc => rcC g_5007 bA bc dA dc r :: byC bA bc [] :: byC dA dc [] :: .own g5001 2 [.int .i64 a, .int .i64 b] :: H) 0 _ none 0 none 0 (Or.inl ⟨Nat.zero_le _, rfl⟩) (by repeat (first | exact FrSub.nil _ | refine FrSub.cons rfl ?_)) (Has.of_sub (by repeat (first | exact List.Sublist.refl _ | exact List.sublist_append_right _ _ | exact List.sublist_append_left _ _ | apply List.Sublist.cons_cons | apply List.Sublist.cons | refine List.Sublist.trans ?_ (List.sublist_append_left _ _)))) ?_
      rintro k r bA bc dA dc (⟨hk, rfl⟩ | ⟨rfl, rfl⟩)
      · have e34 : Value.int .i64 (IntKind.i64.wrap ((T : Int) * (C : Int))) = .int .i64 ((T * C : Nat) : Int) := by
          rw [show (T : Int) * (C : Int) = ((T * C : Nat) : Int) from (Int.natCast_mul T C).symm]
          exact wr64 (by omega)
        have e43 : Value.int .i64 (Int.tmod (k : Int) (C : Int)) = .int .i64 ((k % C : Nat) : Int) := rfl
        by_cases hz : k % C = 0
        · by_cases hkl : k < T * C
          · have hst := rE_ask (T := T) (crc := false) (close := close) hC9.1 hz hkl
            refine T_seq ?_
            refine T_seq ?_
            refine T_region ?_
            refine TL_pure (d := (some 31)) rfl rfl rfl (PV_move rfl) ?_
            refine TL_pure (d := (some 32)) rfl rfl rfl (PV_move rfl) ?_
            refine TL_pure (d := (some 33)) rfl rfl rfl (PV_move rfl) ?_
            refine TL_pure (d := (some 34)) rfl rfl rfl (PV.cast (PV_bin rfl rfl bin_mul) e34) ?_
            refine TL_pure (d := (some 35)) rfl rfl rfl (PV_bin rfl rfl bin_leq) ?_
            refine TL_nil ?_
            refine T_then rfl (by exact decide_eq_true (by omega)) ?_
            refine T_skip ?_
            refine T_seq ?_
            refine T_block ?_
            refine T_seq ?_
            refine T_region ?_
            refine TL_pure (d := (some 38)) rfl rfl rfl (PV_move rfl) ?_
            refine TL_cons rfl (TO_call0 call16 rfl rfl (t72e (T := T) (C := C) (k := k) (crc := false) (close := close) (out := askS false) ?sd6102q182_0 ?sd6102q182_1 hst) ?_)
            case sd6102q182_0 => omega
            case sd6102q182_1 => omega
            rintro v39_6103 H39_6103 ⟨A_6103, k_6103, bA_6103, bc_6103, dA_6103, dc_6103, rfl, h_6103_0, rfl⟩
            refine TL_pure (d := (some 40)) rfl rfl rfl (PV_b2s Tryd.underlying24 Tryd.underlying5 Tryd.underlying9 rfl (Shows.at 0 rfl)) ?_
            refine TL_pure (d := (some 12)) rfl rfl rfl (PV_assign rfl) ?_
            refine TL_nil ?_
            refine T_seq ?_
            refine T_region ?_
            refine TL_pure (d := (some 13)) rfl rfl rfl (PV_assign rfl) ?_
            refine TL_nil ?_
            refine T_seq ?_
            refine T_seq ?_
            refine T_region ?_
            refine TL_pure (d := (some 41)) rfl rfl rfl (PV_move rfl) ?_
            refine TL_pure (d := (some 42)) rfl rfl rfl (PV_move rfl) ?_
            refine TL_pure (d := (some 43)) rfl rfl rfl (PV.cast (PV_bin rfl rfl (bin_rem (by omega))) e43) ?_
            refine TL_pure (d := (some 44)) rfl rfl rfl (PV_bin rfl rfl bin_eql) ?_
            refine TL_nil ?_
            refine T_then rfl (by (simp [hz]; done)) ?_
            refine T_region ?_
            refine TL_pure (d := (some 45)) rfl rfl rfl (PV_move rfl) ?_
            refine TL_pure (d := (some 13)) rfl rfl rfl (PV_assign rfl) ?_
            refine TL_nil ?_
            refine T_seq ?_
            refine T_seq ?_
            refine T_region ?_
            refine TL_pure (d := (some 46)) rfl rfl rfl (PV_move rfl) ?_
            refine TL_pure (d := (some 47)) rfl rfl rfl (PV_move rfl) ?_
            refine TL_pure (d := (some 48)) rfl rfl rfl (PV_move rfl) ?_
            refine TL_pure (d := (some 49)) rfl rfl rfl (PV.cast (PV_bin rfl rfl bin_mul) e34) ?_
            refine TL_pure (d := (some 50)) rfl rfl rfl (PV_bin rfl rfl bin_eql) ?_
            refine TL_nil ?_
            refine T_else rfl (by exact decide_eq_false (by omega)) ?_
            refine T_skip ?_
            refine T_seq ?_
            refine T_region ?_
            refine TL_pure (d := (some 51)) rfl rfl rfl (PV_move rfl) ?_
            refine TL_pure (d := (some 52)) rfl rfl rfl (PV_move rfl) ?_
            refine TL_pure (d := (some 53)) rfl rfl rfl (PV_bin rfl rfl bin_str_neq) ?_
            refine TL_nil ?_
            refine T_else rfl (by rfl) ?_
            refine T_skip ?_
            refine T_region ?_
            refine TL_pure (d := (some 36)) rfl rfl rfl (PV_move rfl) ?_
            refine TL_pure (d := (some 37)) rfl rfl rfl (PV.cast (PV_bin rfl rfl bin_add) (wr64 (by omega))) ?_
            refine TL_pure (d := (some 11)) rfl rfl rfl (PV_assign rfl) ?_
            refine TL_nil ?_
            refine ?L62
            all_goals (exact ⟨k + 1, _, _, _, _, _, Or.inl ⟨by omega, rfl⟩, by omega, (by repeat (first | exact FrSub.nil _ | refine FrSub.cons rfl ?_)), Has.of_sub (by repeat (first | exact List.Sublist.refl _ | exact List.sublist_append_right _ _ | exact List.sublist_append_left _ _ | apply List.Sublist.cons_cons | apply List.Sublist.cons | refine List.Sublist.trans ?_ (List.sublist_append_left _ _)))⟩)
          · obtain rfl : k = T * C := by omega
            have hst := rE_end (T := T) (C := C) (crc := false) (close := close) hC9.1
            refine T_seq ?_
            refine T_seq ?_
            refine T_region ?_
            refine TL_pure (d := (some 31)) rfl rfl rfl (PV_move rfl) ?_
            refine TL_pure (d := (some 32)) rfl rfl rfl (PV_move rfl) ?_
            refine TL_pure (d := (some 33)) rfl rfl rfl (PV_move rfl) ?_
            refine TL_pure (d := (some 34)) rfl rfl rfl (PV.cast (PV_bin rfl rfl bin_mul) e34) ?_
            refine TL_pure (d := (some 35)) rfl rfl rfl (PV_bin rfl rfl bin_leq) ?_
            refine TL_nil ?_
            refine T_then rfl (by (simp [hz]; done)) ?_
            refine T_skip ?_
            refine T_seq ?_
            refine T_block ?_
            refine T_seq ?_
            refine T_region ?_
            refine TL_pure (d := (some 38)) rfl rfl rfl (PV_move rfl) ?_
            refine TL_cons rfl (TO_call0 call16 rfl rfl (t72e (T := T) (C := C) (k := T * C) (crc := false) (close := close) (out := [24, 24]) ?sd6202q191_0 ?sd6202q191_1 hst) ?_)
            case sd6202q191_0 => omega
            case sd6202q191_1 => omega
            rintro v39_6203 H39_6203 ⟨A_6203, k_6203, bA_6203, bc_6203, dA_6203, dc_6203, rfl, h_6203_0, rfl⟩
            refine TL_pure (d := (some 40)) rfl rfl rfl (PV_b2s Tryd.underlying24 Tryd.underlying5 Tryd.underlying9 rfl (Shows.at 0 rfl)) ?_
            refine TL_pure (d := (some 12)) rfl rfl rfl (PV_assign rfl) ?_
            refine TL_nil ?_
            refine T_seq ?_
            refine T_region ?_
            refine TL_pure (d := (some 13)) rfl rfl rfl (PV_assign rfl) ?_
            refine TL_nil ?_
            refine T_seq ?_
            refine T_seq ?_
            refine T_region ?_
            refine TL_pure (d := (some 41)) rfl rfl rfl (PV_move rfl) ?_
            refine TL_pure (d := (some 42)) rfl rfl rfl (PV_move rfl) ?_
            refine TL_pure (d := (some 43)) rfl rfl rfl (PV.cast (PV_bin rfl rfl (bin_rem (by omega))) e43) ?_
            refine TL_pure (d := (some 44)) rfl rfl rfl (PV_bin rfl rfl bin_eql) ?_
            refine TL_nil ?_
            refine T_then rfl (by (simp [hz]; done)) ?_
            refine T_region ?_
            refine TL_pure (d := (some 45)) rfl rfl rfl (PV_move rfl) ?_
            refine TL_pure (d := (some 13)) rfl rfl rfl (PV_assign rfl) ?_
            refine TL_nil ?_
            refine T_seq ?_
            refine T_seq ?_
            refine T_region ?_
            refine TL_pure (d := (some 46)) rfl rfl rfl (PV_move rfl) ?_
            refine TL_pure (d := (some 47)) rfl rfl rfl (PV_move rfl) ?_
            refine TL_pure (d := (some 48)) rfl rfl rfl (PV_move rfl) ?_
            refine TL_pure (d := (some 49)) rfl rfl rfl (PV.cast (PV_bin rfl rfl bin_mul) e34) ?_
            refine TL_pure (d := (some 50)) rfl rfl rfl (PV_bin rfl rfl bin_eql) ?_
            refine TL_nil ?_
            refine T_then rfl (by (simp [hz]; done)) ?_
            refine T_region ?_
            refine TL_pure (d := (some 13)) rfl rfl rfl (PV_assign rfl) ?_
            refine TL_nil ?_
            refine T_seq ?_
            refine T_region ?_
            refine TL_pure (d := (some 51)) rfl rfl rfl (PV_move rfl) ?_
            refine TL_pure (d := (some 52)) rfl rfl rfl (PV_move rfl) ?_
            refine TL_pure (d := (some 53)) rfl rfl rfl (PV_bin rfl rfl bin_str_neq) ?_
            refine TL_nil ?_
            refine T_else rfl (by rfl) ?_
            refine T_skip ?_
            refine T_region ?_
            refine TL_pure (d := (some 36)) rfl rfl rfl (PV_move rfl) ?_
            refine TL_pure (d := (some 37)) rfl rfl rfl (PV.cast (PV_bin rfl rfl bin_add) (wr64 (by omega))) ?_
            refine TL_pure (d := (some 11)) rfl rfl rfl (PV_assign rfl) ?_
            refine TL_nil ?_
            refine ?L63
            all_goals (exact ⟨T * C + 1, _, _, _, _, _, Or.inr ⟨rfl, rfl⟩, by omega, (by repeat (first | exact FrSub.nil _ | refine FrSub.cons rfl ?_)), Has.of_sub (by repeat (first | exact List.Sublist.refl _ | exact List.sublist_append_right _ _ | exact List.sublist_append_left _ _ | apply List.Sublist.cons_cons | apply List.Sublist.cons | refine List.Sublist.trans ?_ (List.sublist_append_left _ _)))⟩)
        · have hst := rE_wait (T := T) (crc := false) (close := close) hC9.1 hz
          have hkl : k < T * C := by
            rcases Nat.lt_or_ge k (T * C) with h | h
            · exact h
            · exact absurd (by rw [show k = T * C by omega, Nat.mul_mod_left]) hz
          refine T_seq ?_
          refine T_seq ?_
          refine T_region ?_
          refine TL_pure (d := (some 31)) rfl rfl rfl (PV_move rfl) ?_
          refine TL_pure (d := (some 32)) rfl rfl rfl (PV_move rfl) ?_
          refine TL_pure (d := (some 33)) rfl rfl rfl (PV_move rfl) ?_
          refine TL_pure (d := (some 34)) rfl rfl rfl (PV.cast (PV_bin rfl rfl bin_mul) e34) ?_
          refine TL_pure (d := (some 35)) rfl rfl rfl (PV_bin rfl rfl bin_leq) ?_
          refine TL_nil ?_
          refine T_then rfl (by exact decide_eq_true (by omega)) ?_
          refine T_skip ?_
          refine T_seq ?_
          refine T_block ?_
          refine T_seq ?_
          refine T_region ?_
          refine TL_pure (d := (some 38)) rfl rfl rfl (PV_move rfl) ?_
          refine TL_cons rfl (TO_call0 call16 rfl rfl (t72e (T := T) (C := C) (k := k) (crc := false) (close := close) (out := []) ?sd6302q203_0 ?sd6302q203_1 hst) ?_)
          case sd6302q203_0 => omega
          case sd6302q203_1 => omega
          rintro v39_6303 H39_6303 ⟨A_6303, k_6303, bA_6303, bc_6303, dA_6303, dc_6303, rfl, h_6303_0, rfl⟩
          refine TL_pure (d := (some 40)) rfl rfl rfl (PV_b2s Tryd.underlying24 Tryd.underlying5 Tryd.underlying9 rfl (Shows.at 0 rfl)) ?_
          refine TL_pure (d := (some 12)) rfl rfl rfl (PV_assign rfl) ?_
          refine TL_nil ?_
          refine T_seq ?_
          refine T_region ?_
          refine TL_pure (d := (some 13)) rfl rfl rfl (PV_assign rfl) ?_
          refine TL_nil ?_
          refine T_seq ?_
          refine T_seq ?_
          refine T_region ?_
          refine TL_pure (d := (some 41)) rfl rfl rfl (PV_move rfl) ?_
          refine TL_pure (d := (some 42)) rfl rfl rfl (PV_move rfl) ?_
          refine TL_pure (d := (some 43)) rfl rfl rfl (PV.cast (PV_bin rfl rfl (bin_rem (by omega))) e43) ?_
          refine TL_pure (d := (some 44)) rfl rfl rfl (PV_bin rfl rfl bin_eql) ?_
          refine TL_nil ?_
          refine T_else rfl (by exact decide_eq_false (by omega)) ?_
          refine T_skip ?_
          refine T_seq ?_
          refine T_seq ?_
          refine T_region ?_
          refine TL_pure (d := (some 46)) rfl rfl rfl (PV_move rfl) ?_
          refine TL_pure (d := (some 47)) rfl rfl rfl (PV_move rfl) ?_
          refine TL_pure (d := (some 48)) rfl rfl rfl (PV_move rfl) ?_
          refine TL_pure (d := (some 49)) rfl rfl rfl (PV.cast (PV_bin rfl rfl bin_mul) e34) ?_
          refine TL_pure (d := (some 50)) rfl rfl rfl (PV_bin rfl rfl bin_eql) ?_
          refine TL_nil ?_
          refine T_else rfl (by exact decide_eq_false (by omega)) ?_
          refine T_skip ?_
          refine T_seq ?_
          refine T_region ?_
          refine TL_pure (d := (some 51)) rfl rfl rfl (PV_move rfl) ?_
          refine TL_pure (d := (some 52)) rfl rfl rfl (PV_move rfl) ?_
          refine TL_pure (d := (some 53)) rfl rfl rfl (PV_bin rfl rfl bin_str_neq) ?_
          refine TL_nil ?_
          refine T_else rfl (by rfl) ?_
          refine T_skip ?_
          refine T_region ?_
          refine TL_pure (d := (some 36)) rfl rfl rfl (PV_move rfl) ?_
          refine TL_pure (d := (some 37)) rfl rfl rfl (PV.cast (PV_bin rfl rfl bin_add) (wr64 (by omega))) ?_
          refine TL_pure (d := (some 11)) rfl rfl rfl (PV_assign rfl) ?_
          refine TL_nil ?_
          refine ?L64
          all_goals (exact ⟨k + 1, _, _, _, _, _, Or.inl ⟨by omega, rfl⟩, by omega, (by repeat (first | exact FrSub.nil _ | refine FrSub.cons rfl ?_)), Has.of_sub (by repeat (first | exact List.Sublist.refl _ | exact List.sublist_append_right _ _ | exact List.sublist_append_left _ _ | apply List.Sublist.cons_cons | apply List.Sublist.cons | refine List.Sublist.trans ?_ (List.sublist_append_left _ _)))⟩)
      · have e34 : Value.int .i64 (IntKind.i64.wrap ((T : Int) * (C : Int))) = .int .i64 ((T * C : Nat) : Int) := by
          rw [show (T : Int) * (C : Int) = ((T * C : Nat) : Int) from (Int.natCast_mul T C).symm]
          exact wr64 (by omega)
        refine T_seq ?_
        refine T_seq ?_
        refine T_region ?_
        refine TL_pure (d := (some 31)) rfl rfl rfl (PV_move rfl) ?_
        refine TL_pure (d := (some 32)) rfl rfl rfl (PV_move rfl) ?_
        refine TL_pure (d := (some 33)) rfl rfl rfl (PV_move rfl) ?_
        refine TL_pure (d := (some 34)) rfl rfl rfl (PV.cast (PV_bin rfl rfl bin_mul) e34) ?_
        refine TL_pure (d := (some 35)) rfl rfl rfl (PV_bin rfl rfl bin_leq) ?_
        refine TL_nil ?_
        refine T_else rfl (by exact decide_eq_false (by omega)) ?_
        refine T_exit ?_
        refine T_seq ?_
        refine T_region ?_
        refine TL_pure (d := (some 55)) rfl rfl rfl (PV_move rfl) ?_
        refine TL_cons rfl (TO_call0 call17 rfl rfl (t78f) ?_)
        rintro v56_6403 H56_6403 ⟨rfl, rfl⟩
        refine TL_pure (d := (some 54)) rfl rfl rfl (PV_move rfl) ?_
        refine TL_pure (d := (some 57)) rfl rfl rfl (PV_extract rfl rfl) ?_
        refine TL_pure (d := (some 58)) rfl rfl rfl (PV_extract rfl rfl) ?_
        refine TL_pure (d := (some 14)) rfl rfl rfl (PV_assign rfl) ?_
        refine TL_pure (d := (some 15)) rfl rfl rfl (PV_assign rfl) ?_
        refine TL_nil ?_
        refine T_seq ?_
        refine T_region ?_
        refine TL_pure (d := (some 59)) rfl rfl rfl (PV_move rfl) ?_
        refine TL_pure (d := (some 60)) rfl rfl rfl (PV_move rfl) ?_
        refine TL_yes rfl rfl rfl (TO_pure rfl (PV_move rfl) ?_)
        refine TL_yes rfl rfl rfl (TO_call0 call12 rfl rfl (number_t ?sd6405q213_0 ?sd6405q213_1 _) ?_)
        case sd6405q213_0 => exact hL
        case sd6405q213_1 => exact hB0
        rintro v62_6406 H62_6406 ⟨rfl, rfl⟩
        refine TL_yes rfl rfl rfl (TO_pure rfl (PV_bin rfl rfl bin_eql) ?_)
        refine TL_pure (d := (some 64)) rfl rfl rfl (PV_pickAnd rfl rfl rfl) ?_
        refine TL_pure (d := (some 65)) rfl rfl rfl (PV_move rfl) ?_
        refine TL_yes rfl rfl rfl (TO_pure rfl (PV_move rfl) ?_)
        refine TL_perm ((perm_pick (i := 0) rfl).trans (List.Perm.cons _ ((perm_pick (i := 1) rfl).trans (List.Perm.cons _ (List.Perm.refl _))))) ?_
        refine TL_yes rfl rfl rfl (TO_call0 call18 rfl rfl (t77 (r := rF C false close) ?sd6408q213_0) ?_)
        case sd6408q213_0 => exact Nat.le_of_ble_eq_true rfl
        rintro v67_6409 H67_6409 ⟨A_6409, k_6409, rfl, h_6409_0, rfl⟩
        refine TL_yes rfl rfl rfl (TO_pure rfl (PV_len_slice Tryd.underlying24 rfl) ?_)
        refine TL_yes rfl rfl rfl (TO_pure rfl (PV_bin rfl rfl bin_eql) ?_)
        refine TL_pure (d := (some 70)) rfl rfl rfl (PV_pickAnd rfl rfl rfl) ?_
        refine TL_pure (d := (some 6)) rfl rfl rfl (PV_assign rfl) ?_
        refine TL_nil ?_
        refine T_ret ?_
        refine ret_ret (ResV_one rfl rfl) ⟨_, ?zb6410q213, ⟨rfl, rfl⟩⟩
        case zb6410q213 => exact (by (repeat (first | exact List.Sublist.refl _ | exact List.sublist_append_right _ _ | exact List.sublist_append_left _ _ | apply List.Sublist.cons_cons | apply List.Sublist.cons | refine List.Sublist.trans ?_ (List.sublist_append_left _ _))); done)
end
end Go.Proofs.YtcbkcggijejooaaDoor.SL
