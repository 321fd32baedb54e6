import Derived.Laws.StructEq
import Derived.Test.YtijpbpnfachlkaaDoorP11
import Derived.Test.YtijpbpnfachlkaaDoorErrH
/- The same pattern: what the laws' Same answers. No statement is proved here. -/
set_option linter.unusedVariables false
set_option linter.unusedSimpArgs false
set_option maxRecDepth 100000
set_option maxHeartbeats 8000000
namespace Go.Proofs.YtijpbpnfachlkaaDoor.SL
open Go Go.RowKit
theorem sx_size : (Tryd.prog.info? 25).map (·.size) = some 1 := by kernel_rfl
theorem set_eqIn (a b c d : Int) (w : World) : (Op.equalIn 10000 27 (.agg #[.int .u64 a, .int .u64 b, .int .u64 c, .int .u64 d]) (.agg #[.int .u64 a, .int .u64 b, .int .u64 c, .int .u64 d])).run Tryd.prog w = .ok true w := by
  have u3 := Tryd.underlying25
  obtain ⟨i, hi, hz⟩ := Option.map_eq_some_iff.1 sx_size
  have z3 : ∀ w, (sizeOf 25).run Tryd.prog w = .ok 1 w := fun w => by simp [sizeOf, typeInfo, hi, hz]
  have g3 : ∀ w, (isAgg 25).run Tryd.prog w = .ok false w := fun w => by simp [isAgg, run_underlying u3]
  rw [show (10000 : Nat) = 9999 + 1 from rfl, Op.equalIn]
  simp only [Sem.run_bind, run_underlying Tryd.underlying27, Result.andThen_ok]
  simp only [Std.Legacy.Range.forIn_eq_forIn_range', Std.Legacy.Range.size, Nat.sub_zero, Nat.add_sub_cancel, Nat.div_one, List.range'_succ, List.range'_zero, List.forIn_cons, List.forIn_nil]
  go_simp
theorem set_guard : Tryd.prog.eqGuardType Tryd.prog.depth 27 = false := by kernel_rfl
theorem bin_set_eql {x y : Operand} (s : S4) : BinR Tryd.prog .eql 27 x y (.agg #[wv s.a, wv s.b, wv s.c, wv s.d]) (.agg #[wv s.a, wv s.b, wv s.c, wv s.d]) (.bool true) := fun w => by
  simp only [Sem.run_bind, eqGuard, run_program, set_guard]
  simp [run_eql_struct, wv, set_eqIn, Result.andThen]
theorem bin_set_neq {x y : Operand} (s : S4) : BinR Tryd.prog .neq 27 x y (.agg #[wv s.a, wv s.b, wv s.c, wv s.d]) (.agg #[wv s.a, wv s.b, wv s.c, wv s.d]) (.bool false) := fun w => by
  simp only [Sem.run_bind, eqGuard, run_program, set_guard]
  simp [run_neq_struct, wv, set_eqIn, Result.andThen]
section
variable {w0 : World} {B n : Nat} {H : List Chunk}
theorem same_leaf (k : Int) (st : S4) : TCall Tryd.prog w0 B 15 #[.agg #[.int .i64 k, wv st.a, wv st.b, wv st.c, wv st.d, .slice none 0 0], .agg #[.int .i64 k, wv st.a, wv st.b, wv st.c, wv st.d, .slice none 0 0]] (fun r H' => r = .bool true ∧ H' = H) H := by
  have e10 : Value.bool (k != k) = .bool false := by simp
  refine TCall_intro (args := [_, _]) Tryd.func15 rfl Tryd.ntmps15 (Nat.le_of_ble_eq_true rfl) ?_
  refine T_seq ?_
  refine T_region ?_
  refine TL_cons rfl (TO_box rfl rfl fun g1 => ?_)
  refine TL_cons rfl (TO_box rfl rfl fun g2 => ?_)
  refine TL_p (PV_assign rfl) ?_
  refine TL_nil ?_
  refine T_seq ?_
  refine T_seq ?_
  refine T_region ?_
  refine TL_p (PV_fieldAddr (D := 0) Tryd.underlying30 rfl sz24 (by decide) rfl rfl) ?_
  refine TL_p (PV_load Tryd.underlying24 rfl rfl (Rd.at 1 rfl rfl)) ?_
  refine TL_p (PV_fieldAddr (D := 0) Tryd.underlying30 rfl sz24 (by decide) rfl rfl) ?_
  refine TL_p (PV_load Tryd.underlying24 rfl rfl (Rd.at 0 rfl rfl)) ?_
  refine TL_p (PV.cast (PV_bin rfl rfl bin_neq) e10) ?_
  refine TL_p (PV_move rfl) ?_
  refine TL_yes rfl rfl rfl (TO_pure rfl (PV_fieldAddr (D := 1) Tryd.underlying30 rfl sz27 (by decide) rfl rfl) ?_)
  refine TL_yes rfl rfl rfl (TO_pure rfl (PV_loadAt Tryd.underlying27 rfl sz27 rfl (Rds.take 1 rfl rfl rfl)) ?_)
  refine TL_yes rfl rfl rfl (TO_pure rfl (PV_fieldAddr (D := 1) Tryd.underlying30 rfl sz27 (by decide) rfl rfl) ?_)
  refine TL_yes rfl rfl rfl (TO_pure rfl (PV_loadAt Tryd.underlying27 rfl sz27 rfl (Rds.take 0 rfl rfl rfl)) ?_)
  refine TL_yes rfl rfl rfl (TO_pure rfl (PV_bin rfl rfl (bin_set_neq st)) ?_)
  refine TL_p (PV_pickOr rfl rfl rfl) ?_
  refine TL_p (PV_move rfl) ?_
  refine TL_yes rfl rfl rfl (TO_pure rfl (PV_fieldAddr (D := 5) Tryd.underlying30 rfl sz28 (by decide) rfl rfl) ?_)
  refine TL_yes rfl rfl rfl (TO_pure rfl (PV_load Tryd.underlying28 rfl rfl (Rd.at 1 rfl rfl)) ?_)
  refine TL_yes rfl rfl rfl (TO_pure rfl (PV_len_slice Tryd.underlying28 rfl) ?_)
  refine TL_yes rfl rfl rfl (TO_pure rfl (PV_fieldAddr (D := 5) Tryd.underlying30 rfl sz28 (by decide) rfl rfl) ?_)
  refine TL_yes rfl rfl rfl (TO_pure rfl (PV_load Tryd.underlying28 rfl rfl (Rd.at 0 rfl rfl)) ?_)
  refine TL_yes rfl rfl rfl (TO_pure rfl (PV_len_slice Tryd.underlying28 rfl) ?_)
  refine TL_yes rfl rfl rfl (TO_pure rfl (PV_bin rfl rfl bin_neq) ?_)
  refine TL_p (PV_pickOr rfl rfl rfl) ?_
  refine TL_nil ?_
  refine T_else rfl (by rfl) ?_
  refine T_skip ?_
  refine T_seq ?_
  refine T_seq ?_
  refine T_region ?_
  refine TL_p (PV_fieldAddr (D := 5) Tryd.underlying30 rfl sz28 (by decide) rfl rfl) ?_
  refine TL_p (PV_load Tryd.underlying28 rfl rfl (Rd.at 1 rfl rfl)) ?_
  refine TL_p (PV_len_slice Tryd.underlying28 rfl) ?_
  refine TL_p (PV_move rfl) ?_
  refine TL_nil ?_
  refine T_block ?_
  refine ?L1
  case L1 =>
    refine T_loopP1 (fun (j : Nat) => j = 0) (fun j => 0 - j) (fun j => [(4, .bool false), (28, .slice none 0 0), (29, .int .i64 0), (30, .int .i64 0)]) (fun j => H) 0 rfl (by repeat (first | exact FrSub.nil _ | refine FrSub.cons rfl ?_)) (Has.of_sub (by repeat (first | exact Sb.r | exact Sb.ar | exact Sb.al | apply Sb.c | apply Sb.d | refine Sb.t ?_))) ?_
    rintro j rfl
    refine T_seq ?_
    refine T_region ?_
    refine TL_p (PV_bin rfl rfl bin_lss) ?_
    refine TL_nil ?_
    refine T_seq ?_
    refine T_else rfl (by rfl) ?_
    refine T_exit ?_
    refine T_seq ?_
    refine T_region ?_
    refine TL_p (PV_assign rfl) ?_
    refine TL_nil ?_
    refine T_ret ?_
    refine ret_ret (ResV_one rfl rfl) ⟨_, List.Sublist.refl _, ⟨rfl, rfl⟩⟩
theorem same_node (k : Int) {m : Nat} (hm : m ≤ 2) {ga oa gb ob ca cb : Nat} {xs ys : Nat → Nv} (hA : ∀ j, j < m → RdsK (WH w0 B H) ga (oa + j * 6) 6 (xs j).cells) (hB : ∀ j, j < m → RdsK (WH w0 B H) gb (ob + j * 6) 6 (ys j).cells)
    (hr : ∀ j, j < m → ∀ H' : List Chunk, H.Sublist H' → TCall Tryd.prog w0 B 15 #[(xs j).val, (ys j).val] (fun r H2 => r = .bool true ∧ H2 = H') H') :
    TCall Tryd.prog w0 B 15 #[.agg #[.int .i64 k, wv S4.zero.a, wv S4.zero.b, wv S4.zero.c, wv S4.zero.d, .slice (some ⟨ga, oa, none⟩) m ca], .agg #[.int .i64 k, wv S4.zero.a, wv S4.zero.b, wv S4.zero.c, wv S4.zero.d, .slice (some ⟨gb, ob, none⟩) m cb]] (fun r H' => r = .bool true ∧ H' = H) H := by
  have e10 : Value.bool (k != k) = .bool false := by simp
  have e25 : Value.bool (((m : Nat) : Int) != (m : Int)) = .bool false := by simp
  refine TCall_intro (args := [_, _]) Tryd.func15 rfl Tryd.ntmps15 (Nat.le_of_ble_eq_true rfl) ?_
  refine T_seq ?_
  refine T_region ?_
  refine TL_cons rfl (TO_box rfl rfl fun g1 => ?_)
  refine TL_cons rfl (TO_box rfl rfl fun g2 => ?_)
  refine TL_p (PV_assign rfl) ?_
  refine TL_nil ?_
  refine T_seq ?_
  refine T_seq ?_
  refine T_region ?_
  refine TL_p (PV_fieldAddr (D := 0) Tryd.underlying30 rfl sz24 (by decide) rfl rfl) ?_
  refine TL_p (PV_load Tryd.underlying24 rfl rfl (Rd.at 1 rfl rfl)) ?_
  refine TL_p (PV_fieldAddr (D := 0) Tryd.underlying30 rfl sz24 (by decide) rfl rfl) ?_
  refine TL_p (PV_load Tryd.underlying24 rfl rfl (Rd.at 0 rfl rfl)) ?_
  refine TL_p (PV.cast (PV_bin rfl rfl bin_neq) e10) ?_
  refine TL_p (PV_move rfl) ?_
  refine TL_yes rfl rfl rfl (TO_pure rfl (PV_fieldAddr (D := 1) Tryd.underlying30 rfl sz27 (by decide) rfl rfl) ?_)
  refine TL_yes rfl rfl rfl (TO_pure rfl (PV_loadAt Tryd.underlying27 rfl sz27 rfl (Rds.take 1 rfl rfl rfl)) ?_)
  refine TL_yes rfl rfl rfl (TO_pure rfl (PV_fieldAddr (D := 1) Tryd.underlying30 rfl sz27 (by decide) rfl rfl) ?_)
  refine TL_yes rfl rfl rfl (TO_pure rfl (PV_loadAt Tryd.underlying27 rfl sz27 rfl (Rds.take 0 rfl rfl rfl)) ?_)
  refine TL_yes rfl rfl rfl (TO_pure rfl (PV_bin rfl rfl (bin_set_neq S4.zero)) ?_)
  refine TL_p (PV_pickOr rfl rfl rfl) ?_
  refine TL_p (PV_move rfl) ?_
  refine TL_yes rfl rfl rfl (TO_pure rfl (PV_fieldAddr (D := 5) Tryd.underlying30 rfl sz28 (by decide) rfl rfl) ?_)
  refine TL_yes rfl rfl rfl (TO_pure rfl (PV_load Tryd.underlying28 rfl rfl (Rd.at 1 rfl rfl)) ?_)
  refine TL_yes rfl rfl rfl (TO_pure rfl (PV_len_slice Tryd.underlying28 rfl) ?_)
  refine TL_yes rfl rfl rfl (TO_pure rfl (PV_fieldAddr (D := 5) Tryd.underlying30 rfl sz28 (by decide) rfl rfl) ?_)
  refine TL_yes rfl rfl rfl (TO_pure rfl (PV_load Tryd.underlying28 rfl rfl (Rd.at 0 rfl rfl)) ?_)
  refine TL_yes rfl rfl rfl (TO_pure rfl (PV_len_slice Tryd.underlying28 rfl) ?_)
  refine TL_yes rfl rfl rfl (TO_pure rfl (PV.cast (PV_bin rfl rfl bin_neq) e25) ?_)
  refine TL_p (PV_pickOr rfl rfl rfl) ?_
  refine TL_nil ?_
  refine T_else rfl (by rfl) ?_
  refine T_skip ?_
  refine T_seq ?_
  refine T_seq ?_
  refine T_region ?_
  refine TL_p (PV_fieldAddr (D := 5) Tryd.underlying30 rfl sz28 (by decide) rfl rfl) ?_
  refine TL_p (PV_load Tryd.underlying28 rfl rfl (Rd.at 1 rfl rfl)) ?_
  refine TL_p (PV_len_slice Tryd.underlying28 rfl) ?_
  refine TL_p (PV_move rfl) ?_
  refine TL_nil ?_
  refine T_block ?_
  refine ?L1
  case L1 =>
    refine T_addNil 1 ?_
    refine T_loopP1 (fun (j : Nat) => j ≤ m) (fun j => m - j) (fun j => [(2, .pointer (some ⟨g1, 0, none⟩)), (3, .pointer (some ⟨g2, 0, none⟩)), (4, .bool false), (28, .slice (some ⟨ga, oa, none⟩) m ca), (29, .int .i64 (m : Int)), (30, .int .i64 (j : Int))]) (fun j => .own g2 6 [.int .i64 k, wv S4.zero.a, wv S4.zero.b, wv S4.zero.c, wv S4.zero.d, .slice (some ⟨gb, ob, none⟩) m cb] :: .own g1 6 [.int .i64 k, wv S4.zero.a, wv S4.zero.b, wv S4.zero.c, wv S4.zero.d, .slice (some ⟨ga, oa, none⟩) m ca] :: H) 0 (Nat.zero_le _) (by repeat (first | exact FrSub.nil _ | refine FrSub.cons rfl ?_)) (Has.of_sub (by repeat (first | exact Sb.r | exact Sb.ar | exact Sb.al | apply Sb.c | apply Sb.d | refine Sb.t ?_))) ?_
    rintro j hj
    by_cases hjm : j < m
    · have e45 : Value.int .i64 (IntKind.i64.wrap ((j : Int) + 1)) = .int .i64 ((j + 1 : Nat) : Int) := wr64n _ (by push_cast; rfl) (by omega)
      have hk0 := (hA j hjm).mono (W' := WH w0 B (.own g2 6 [.int .i64 k, wv S4.zero.a, wv S4.zero.b, wv S4.zero.c, wv S4.zero.d, .slice (some ⟨gb, ob, none⟩) m cb] :: .own g1 6 [.int .i64 k, wv S4.zero.a, wv S4.zero.b, wv S4.zero.c, wv S4.zero.d, .slice (some ⟨ga, oa, none⟩) m ca] :: H)) fun w h => h.sub (by repeat (first | exact Sb.r | exact Sb.ar | exact Sb.al | apply Sb.d | refine Sb.t ?_))
      have hk1 := (hB j hjm).mono (W' := WH w0 B (.own g2 6 [.int .i64 k, wv S4.zero.a, wv S4.zero.b, wv S4.zero.c, wv S4.zero.d, .slice (some ⟨gb, ob, none⟩) m cb] :: .own g1 6 [.int .i64 k, wv S4.zero.a, wv S4.zero.b, wv S4.zero.c, wv S4.zero.d, .slice (some ⟨ga, oa, none⟩) m ca] :: H)) fun w h => h.sub (by repeat (first | exact Sb.r | exact Sb.ar | exact Sb.al | apply Sb.d | refine Sb.t ?_))
      have hrj := hr j hjm _ (show H.Sublist (.own g2 6 [.int .i64 k, wv S4.zero.a, wv S4.zero.b, wv S4.zero.c, wv S4.zero.d, .slice (some ⟨gb, ob, none⟩) m cb] :: .own g1 6 [.int .i64 k, wv S4.zero.a, wv S4.zero.b, wv S4.zero.c, wv S4.zero.d, .slice (some ⟨ga, oa, none⟩) m ca] :: H) from (by repeat (first | exact Sb.r | exact Sb.ar | exact Sb.al | apply Sb.d | refine Sb.t ?_)))
      refine T_seq ?_
      refine T_region ?_
      refine TL_p (PV_bin rfl rfl bin_lss) ?_
      refine TL_nil ?_
      refine T_seq ?_
      refine T_then rfl (by exact decide_eq_true (by omega)) ?_
      refine T_skip ?_
      refine T_seq ?_
      refine T_block ?_
      refine T_seq ?_
      refine T_region ?_
      refine TL_p (PV_move rfl) ?_
      refine TL_p (PV_assign rfl) ?_
      refine TL_nil ?_
      refine T_seq ?_
      refine T_drawn (WH _ _ _) mixed (fun w h => h) ?_
      refine TA_p 0 rfl (by kernel_rfl) (PV_fieldAddr (D := 5) Tryd.underlying30 rfl sz28 (by decide) rfl rfl) ?_
      refine TA_p 1 rfl (by kernel_rfl) (PV_load Tryd.underlying28 rfl rfl (Rd.at 1 rfl rfl)) ?_
      refine TA_p 2 rfl (by kernel_rfl) (PV_move rfl) ?_
      refine TA_p 3 rfl (by kernel_rfl) (PV_indexAddr Tryd.underlying28 sz30 rfl rfl rfl (by first | omega | decide | assumption)) ?_
      refine TA_p 4 rfl (by kernel_rfl) (PV_loadAt Tryd.underlying30 rfl sz30 rfl hk0) ?_
      refine TA_p 5 rfl (by kernel_rfl) (PV_fieldAddr (D := 5) Tryd.underlying30 rfl sz28 (by decide) rfl rfl) ?_
      refine TA_p 6 rfl (by kernel_rfl) (PV_load Tryd.underlying28 rfl rfl (Rd.at 0 rfl rfl)) ?_
      refine TA_p 7 rfl (by kernel_rfl) (PV_move rfl) ?_
      refine TA_p 8 rfl (by kernel_rfl) (PV_indexAddr Tryd.underlying28 sz30 rfl rfl rfl (by first | omega | decide | assumption)) ?_
      refine TA_p 9 rfl (by kernel_rfl) (PV_loadAt Tryd.underlying30 rfl sz30 rfl hk1) ?_
      refine TA_one 10 (by kernel_rfl) rfl rfl (TO_eqD call15 hrj rfl rfl _ (List.Sublist.refl _) ?_)
      refine ⟨fun _ h => h, ?_⟩
      refine TA_p 11 rfl (by kernel_rfl) (PV_not rfl) ?_
      refine TA_done (by kernel_rfl) ?_
      refine T_else rfl (by rfl) ?_
      refine T_skip ?_
      refine T_region ?_
      refine TL_p (PV.cast (PV_bin rfl rfl bin_add) e45) ?_
      refine TL_p (PV_move rfl) ?_
      refine TL_nil ?_
      refine ?L11
      all_goals exact ⟨j + 1, by omega, by omega, (by repeat (first | exact FrSub.nil _ | refine FrSub.cons rfl ?_)), Has.of_sub (by repeat (first | exact Sb.r | exact Sb.ar | exact Sb.al | apply Sb.c | apply Sb.d | refine Sb.t ?_))⟩
    · obtain rfl : j = m := by omega
      refine T_seq ?_
      refine T_region ?_
      refine TL_p (PV_bin rfl rfl bin_lss) ?_
      refine TL_nil ?_
      refine T_seq ?_
      refine T_else rfl (by (simp; done)) ?_
      refine T_exit ?_
      refine T_seq ?_
      refine T_region ?_
      refine TL_p (PV_assign rfl) ?_
      refine TL_nil ?_
      refine T_ret ?_
      refine ret_ret (ResV_one rfl rfl) ⟨_, ?zb2001q61, ⟨rfl, rfl⟩⟩
      case zb2001q61 => exact (by (repeat (first | exact Sb.r | exact Sb.ar | exact Sb.al | apply Sb.c | apply Sb.d | refine Sb.t ?_)); done)
theorem rds_kid {W : World → Prop} {g o : Nat} {x : Nv} {r : List Value} (h : ∀ j v, (x.cells ++ r)[j]? = some v → Rd W ⟨g, o + j, none⟩ v) : RdsK W g (o + 0 * 6) 6 x.cells := ⟨rfl, fun j v hj => by
  rw [add_plain']
  refine h (0 * 6 + j) v ?_ |> fun h => by simpa [Nat.add_assoc] using h
  rw [Nat.zero_mul, Nat.zero_add, List.getElem?_append_left (List.getElem?_eq_some_iff.1 hj).1]
  exact hj⟩
theorem rds_kid2 {W : World → Prop} {g o : Nat} {x y : Nv} (h : ∀ j v, (x.cells ++ y.cells)[j]? = some v → Rd W ⟨g, o + j, none⟩ v) : RdsK W g (o + 1 * 6) 6 y.cells := ⟨rfl, fun j v hj => by
  rw [add_plain', Nat.add_assoc]
  refine h (1 * 6 + j) v ?_
  rw [List.getElem?_append_right (by simp [Nv.cells])]
  simpa [Nv.cells] using hj⟩
theorem same_two (k : Int) {A A' : Option Addr} {c c' : Nat} {x y x' y' : Nv} (hS : Shows (WH w0 B H) A 2 6 (x.cells ++ y.cells)) (hS' : Shows (WH w0 B H) A' 2 6 (x'.cells ++ y'.cells))
    (h0 : ∀ H' : List Chunk, H.Sublist H' → TCall Tryd.prog w0 B 15 #[x.val, x'.val] (fun r H2 => r = .bool true ∧ H2 = H') H') (h1 : ∀ H' : List Chunk, H.Sublist H' → TCall Tryd.prog w0 B 15 #[y.val, y'.val] (fun r H2 => r = .bool true ∧ H2 = H') H') :
    TCall Tryd.prog w0 B 15 #[(⟨k, S4.zero, A, 2, c⟩ : Nv).val, (⟨k, S4.zero, A', 2, c'⟩ : Nv).val] (fun r H' => r = .bool true ∧ H' = H) H := by
  refine TCall_shows hS (by simp [Nv.cells]) fun ga oa hA hr => ?_
  refine TCall_shows hS' (by simp [Nv.cells]) fun gb ob hA' hr' => ?_
  subst hA
  subst hA'
  refine same_node k (m := 2) (Nat.le_refl 2) (xs := fun j => if j = 0 then x else y) (ys := fun j => if j = 0 then x' else y') (fun j hj => ?_) (fun j hj => ?_) (fun j hj => ?_)
  all_goals rcases j with _ | _ | j
  · exact rds_kid hr
  · exact rds_kid2 hr
  · omega
  · exact rds_kid hr'
  · exact rds_kid2 hr'
  · omega
  · exact h0
  · exact h1
  · omega
theorem same_one (k : Int) {A A' : Option Addr} {c c' : Nat} {x x' : Nv} (hS : Shows (WH w0 B H) A 1 6 x.cells) (hS' : Shows (WH w0 B H) A' 1 6 x'.cells)
    (h0 : ∀ H' : List Chunk, H.Sublist H' → TCall Tryd.prog w0 B 15 #[x.val, x'.val] (fun r H2 => r = .bool true ∧ H2 = H') H') :
    TCall Tryd.prog w0 B 15 #[(⟨k, S4.zero, A, 1, c⟩ : Nv).val, (⟨k, S4.zero, A', 1, c'⟩ : Nv).val] (fun r H' => r = .bool true ∧ H' = H) H := by
  refine TCall_shows hS (by simp [Nv.cells]) fun ga oa hA hr => ?_
  refine TCall_shows hS' (by simp [Nv.cells]) fun gb ob hA' hr' => ?_
  subst hA
  subst hA'
  refine same_node k (m := 1) (by omega) (xs := fun _ => x) (ys := fun _ => x') (fun j hj => ?_) (fun j hj => ?_) (fun j hj => ?_)
  all_goals obtain rfl : j = 0 := by omega
  · exact rds_kid (r := []) (by rw [List.append_nil]; exact hr)
  · exact rds_kid (r := []) (by rw [List.append_nil]; exact hr')
  · exact h0
theorem Same_t : ∀ {t : Rx} {v u : Nv} {H : List Chunk}, Tr (WH w0 B H) t v → Tr (WH w0 B H) t u → TCall Tryd.prog w0 B 15 #[v.val, u.val] (fun r H' => r = .bool true ∧ H' = H) H
  | .nothing, v, u, H, hv, hu => by
    obtain rfl : v = nv0 := hv
    obtain rfl : u = nv0 := hu
    exact same_leaf 0 S4.zero
  | .one st, v, u, H, hv, hu => by
    obtain rfl : v = ⟨1, st, none, 0, 0⟩ := hv
    obtain rfl : u = ⟨1, st, none, 0, 0⟩ := hu
    exact same_leaf 1 st
  | .then_ a b, v, u, H, ⟨A, c, x, y, hv, _, hS, hx, hy⟩, ⟨A', c', x', y', hu, _, hS', hx', hy'⟩ => by
    subst hv
    subst hu
    exact same_two 2 hS hS' (fun H' hs => Same_t (hx.mono fun w h => h.sub hs) (hx'.mono fun w h => h.sub hs)) (fun H' hs => Same_t (hy.mono fun w h => h.sub hs) (hy'.mono fun w h => h.sub hs))
  | .either a b, v, u, H, ⟨A, c, x, y, hv, _, hS, hx, hy⟩, ⟨A', c', x', y', hu, _, hS', hx', hy'⟩ => by
    subst hv
    subst hu
    exact same_two 3 hS hS' (fun H' hs => Same_t (hx.mono fun w h => h.sub hs) (hx'.mono fun w h => h.sub hs)) (fun H' hs => Same_t (hy.mono fun w h => h.sub hs) (hy'.mono fun w h => h.sub hs))
  | .star a, v, u, H, ⟨A, c, x, hv, _, hS, hx⟩, ⟨A', c', x', hu, _, hS', hx'⟩ => by
    subst hv
    subst hu
    exact same_one 4 hS hS' (fun H' hs => Same_t (hx.mono fun w h => h.sub hs) (hx'.mono fun w h => h.sub hs))
end
end Go.Proofs.YtijpbpnfachlkaaDoor.SL
