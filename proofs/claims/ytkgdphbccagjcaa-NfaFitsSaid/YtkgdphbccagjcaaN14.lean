import Derived.Test.YtkgdphbccagjcaaN13
/- A text fits a table just if it can be parted: the law. No statement is proved here. -/
set_option linter.unusedVariables false
set_option linter.unusedSimpArgs false
set_option maxRecDepth 100000
set_option maxHeartbeats 8000000
namespace Go.Proofs.Ytkgdphbccagjcaa.SL
open Go Go.RowKit
section
variable {w0 : World} {B : Nat} {H X : List Chunk}
def PlC (w0 : World) (B : Nat) (t : Rx) (v : Nv) (H : List Chunk) : Prop := ∀ (H' : List Chunk), H.Sublist H' → pl t ≤ 1000000 →
  TCall Try.prog w0 B 31 #[v.val] (fun r H2 => r = .int .i64 ((pl t : Nat) : Int) ∧ H2 = H') H'
theorem TO_pl {n : Nat} {fr : Fr} {dst : Option Tmp} {ty : TypeId} {pos : String} {aft : Array Edge} {gd : Option (Nat × Bool)} {K : Fr → List Chunk → Prop} {xs : Array Operand} {ats : Array TypeId} {t : Rx} {v : Nv} (hE : PlC w0 B t v X) (hsub : X.Sublist H) (hp : pl t ≤ 1000000) (hd : dOk n dst = true) (hx : evs fr xs.toList = some [v.val])
    (h : K (frPut dst (.int .i64 ((pl t : Nat) : Int)) fr) H) : TO Try.prog w0 B n ⟨dst, .call { callee := .value (.func 31), args := xs, argTypes := ats }, ty, pos, aft, gd⟩ K fr H :=
  TO_eqD call31 (hE H hsub hp) hd hx H (List.Sublist.refl _) h
theorem pl_nothing {v : Nv} (hv : v = nv0) : PlC w0 B .nothing v H := by
  subst hv
  intro H' hsub hp
  show TCall Try.prog w0 B 31 #[.agg #[.int .i64 0, wv S4.zero.a, wv S4.zero.b, wv S4.zero.c, wv S4.zero.d, .slice none 0 0]] _ _
  refine TCall_intro (args := [_]) Try.func31 rfl Try.ntmps31 (Nat.le_of_ble_eq_true rfl) ?_
  refine T_seq ?_
  refine T_region ?_
  refine TL_cons rfl (TO_box rfl rfl fun g1 => ?_)
  refine TL_p (PV_assign rfl) ?_
  refine TL_nil ?_
  refine T_seq ?_
  refine T_seq ?_
  refine T_region ?_
  refine TL_p (PV_fieldAddr (D := 0) Try.underlying30 rfl sz24 (by decide) rfl rfl) ?_
  refine TL_p (PV_load Try.underlying24 rfl rfl (Rd.at 0 rfl rfl)) ?_
  refine TL_p (PV_bin rfl rfl bin_eql) ?_
  refine TL_nil ?_
  refine T_else rfl (by rfl) ?_
  refine T_skip ?_
  refine T_seq ?_
  refine T_region ?_
  refine TL_p (PV_assign rfl) ?_
  refine TL_nil ?_
  refine T_seq ?_
  refine T_seq ?_
  refine T_region ?_
  refine TL_p (PV_fieldAddr (D := 5) Try.underlying30 rfl sz28 (by decide) rfl rfl) ?_
  refine TL_p (PV_load Try.underlying28 rfl rfl (Rd.at 0 rfl rfl)) ?_
  refine TL_p (PV_len_slice Try.underlying28 rfl) ?_
  refine TL_p (PV_move rfl) ?_
  refine TL_nil ?_
  refine T_block ?_
  refine ?L1
  case L1 =>
    refine T_loopP1 (fun (i : Nat) => i = 0) (fun i => 0) (fun i => [(3, .int .i64 0), (10, .slice none 0 0), (11, .int .i64 0), (12, .int .i64 0)]) (fun i => H') 0 rfl (by repeat (first | exact FrSub.nil _ | refine FrSub.cons rfl ?_)) (Has.of_sub (by repeat (first | exact Sb.r | exact Sb.ar | exact Sb.al | apply Sb.c | apply Sb.d | refine Sb.t ?_))) ?_
    rintro i rfl
    refine T_seq ?_
    refine T_region ?_
    refine TL_p (PV_bin rfl rfl bin_lss) ?_
    refine TL_nil ?_
    refine T_seq ?_
    refine T_else rfl (by rfl) ?_
    refine T_exit ?_
    refine T_seq ?_
    refine T_region ?_
    refine TL_p (PV_move rfl) ?_
    refine TL_p (PV_assign rfl) ?_
    refine TL_nil ?_
    refine T_ret ?_
    refine ret_ret (ResV_one rfl rfl) ⟨_, List.Sublist.refl _, ⟨rfl, rfl⟩⟩
theorem pl_one {st : S4} {v : Nv} (hv : v = ⟨1, st, none, 0, 0⟩) : PlC w0 B (.one st) v H := by
  subst hv
  intro H' hsub hp
  show TCall Try.prog w0 B 31 #[.agg #[.int .i64 1, wv st.a, wv st.b, wv st.c, wv st.d, .slice none 0 0]] _ _
  refine TCall_intro (args := [_]) Try.func31 rfl Try.ntmps31 (Nat.le_of_ble_eq_true rfl) ?_
  refine T_seq ?_
  refine T_region ?_
  refine TL_cons rfl (TO_box rfl rfl fun g2001 => ?_)
  refine TL_p (PV_assign rfl) ?_
  refine TL_nil ?_
  refine T_seq ?_
  refine T_seq ?_
  refine T_region ?_
  refine TL_p (PV_fieldAddr (D := 0) Try.underlying30 rfl sz24 (by decide) rfl rfl) ?_
  refine TL_p (PV_load Try.underlying24 rfl rfl (Rd.at 0 rfl rfl)) ?_
  refine TL_p (PV_bin rfl rfl bin_eql) ?_
  refine TL_nil ?_
  refine T_then rfl (by rfl) ?_
  refine T_seq ?_
  refine T_region ?_
  refine TL_p (PV_assign rfl) ?_
  refine TL_nil ?_
  refine T_ret ?_
  refine ret_ret (ResV_one rfl rfl) ⟨_, ?zb2002q30, ⟨rfl, rfl⟩⟩
  case zb2002q30 => exact (by (repeat (first | exact Sb.r | exact Sb.ar | exact Sb.al | apply Sb.c | apply Sb.d | refine Sb.t ?_)); done)
theorem pl_star {a : Rx} {x : Nv} {A0 : Option Addr} {c0 : Nat} (h2 : 1 ≤ c0) (hK : Shows (WH w0 B H) A0 1 6 x.cells) (hEa : PlC w0 B a x H) : PlC w0 B (.star a) ⟨4, S4.zero, A0, 1, c0⟩ H := by
  intro H' hsub hp
  simp only [pl] at hp
  refine TCall_showsN (hK.mono fun w h => h.sub hsub) (by simp [Nv.cells]) fun ga oa hA hrd => ?_
  subst hA
  have hk0 : RdsK (WH w0 B H') ga (oa + 0 * 6) 6 x.cells := ⟨rfl, fun j v hj => by
    rw [add_plain']
    refine hrd (0 * 6 + j) v ?_ |> fun h => by simpa [Nat.add_assoc] using h
    rw [Nat.zero_mul, Nat.zero_add]
    exact hj⟩
  show TCall Try.prog w0 B 31 #[.agg #[.int .i64 4, wv S4.zero.a, wv S4.zero.b, wv S4.zero.c, wv S4.zero.d, .slice (some ⟨ga, oa, none⟩) 1 c0]] _ _
  refine TCall_intro (args := [_]) Try.func31 rfl Try.ntmps31 (Nat.le_of_ble_eq_true rfl) ?_
  refine T_seq ?_
  refine T_region ?_
  refine TL_cons rfl (TO_box rfl rfl fun g3001 => ?_)
  refine TL_p (PV_assign rfl) ?_
  refine TL_nil ?_
  refine T_seq ?_
  refine T_seq ?_
  refine T_region ?_
  refine TL_p (PV_fieldAddr (D := 0) Try.underlying30 rfl sz24 (by decide) rfl rfl) ?_
  refine TL_p (PV_load Try.underlying24 rfl rfl (Rd.at 0 rfl rfl)) ?_
  refine TL_p (PV_bin rfl rfl bin_eql) ?_
  refine TL_nil ?_
  refine T_else rfl (by rfl) ?_
  refine T_skip ?_
  refine T_seq ?_
  refine T_region ?_
  refine TL_p (PV_assign rfl) ?_
  refine TL_nil ?_
  refine T_seq ?_
  refine T_seq ?_
  refine T_region ?_
  refine TL_p (PV_fieldAddr (D := 5) Try.underlying30 rfl sz28 (by decide) rfl rfl) ?_
  refine TL_p (PV_load Try.underlying28 rfl rfl (Rd.at 0 rfl rfl)) ?_
  refine TL_p (PV_len_slice Try.underlying28 rfl) ?_
  refine TL_p (PV_move rfl) ?_
  refine TL_nil ?_
  refine T_block ?_
  refine ?L31
  case L31 =>
    refine T_loopP1 (fun (i : Nat) => i ≤ 1) (fun i => 1 - i) (fun i => [(3, .int .i64 ((if i = 0 then 0 else pl a : Nat) : Int)), (10, .slice (some ⟨ga, oa, none⟩) 1 c0), (11, .int .i64 ((1 : Nat) : Int)), (12, .int .i64 (i : Int))]) (fun i => H') 0 (by omega) (by repeat (first | exact FrSub.nil _ | refine FrSub.cons rfl ?_)) (Has.of_sub (by repeat (first | exact Sb.r | exact Sb.ar | exact Sb.al | apply Sb.c | apply Sb.d | refine Sb.t ?_))) ?_
    intro i hi
    have hor : i = 0 ∨ i = 1 := by omega
    rcases hor with rfl | rfl
    · have e19 : Value.int .i64 (IntKind.i64.wrap (((0 : Nat) : Int) + ((pl a : Nat) : Int))) = .int .i64 ((pl a : Nat) : Int) := wr64n _ (by omega) (by omega)
      have e20 : Value.int .i64 (IntKind.i64.wrap (((0 : Nat) : Int) + 1)) = .int .i64 ((1 : Nat) : Int) := rfl
      refine T_seq ?_
      refine T_region ?_
      refine TL_p (PV_bin rfl rfl bin_lss) ?_
      refine TL_nil ?_
      refine T_seq ?_
      refine T_then rfl (by rfl) ?_
      refine T_skip ?_
      refine T_seq ?_
      refine T_block ?_
      refine T_seq ?_
      refine T_region ?_
      refine TL_p (PV_indexAddr (i := 0) Try.underlying28 sz30 rfl rfl rfl (by first | omega | decide | assumption)) ?_
      refine TL_p (PV_loadAt Try.underlying30 rfl sz30 rfl hk0) ?_
      refine TL_cons rfl (TO_alloc rfl zr30 fun g4001 => ?_)
      refine TL_cons rfl (TO_store 0 rfl rfl rfl sz30 rfl rfl rfl (all_one rfl) (by first | exact Nat.le_of_ble_eq_true rfl | (simp; done) | (simp; omega) | omega) ?_)
      refine TL_nil ?_
      refine T_region ?_
      refine TL_p (PV_move rfl) ?_
      refine TL_p (PV_loadAt Try.underlying30 rfl sz30 rfl (Rds.take 0 rfl rfl rfl)) ?_
      refine TL_cons rfl (TO_pl hEa (hsub.trans (by repeat (first | exact Sb.r | exact Sb.ar | exact Sb.al | apply Sb.d | refine Sb.t ?_))) (by omega) rfl rfl ?_)
      refine TL_p (PV.cast (PV_bin rfl rfl bin_add) e19) ?_
      refine TL_p (PV_assign rfl) ?_
      refine TL_nil ?_
      refine T_region ?_
      refine TL_p (PV.cast (PV_bin rfl rfl bin_add) e20) ?_
      refine TL_p (PV_move rfl) ?_
      refine TL_nil ?_
      refine ?L41
      case L41 => exact ⟨1, by omega, by omega, (by repeat (first | exact FrSub.nil _ | refine FrSub.cons rfl ?_)), Has.of_sub (by repeat (first | exact Sb.r | exact Sb.ar | exact Sb.al | apply Sb.c | apply Sb.d | refine Sb.t ?_))⟩
    · refine T_seq ?_
      refine T_region ?_
      refine TL_p (PV_bin rfl rfl bin_lss) ?_
      refine TL_nil ?_
      refine T_seq ?_
      refine T_else rfl (by rfl) ?_
      refine T_exit ?_
      refine T_seq ?_
      refine T_region ?_
      refine TL_p (PV_move rfl) ?_
      refine TL_p (PV_assign rfl) ?_
      refine TL_nil ?_
      refine T_ret ?_
      refine ret_ret (ResV_one rfl rfl) ⟨_, List.Sublist.refl _, ⟨rfl, rfl⟩⟩
theorem pl_two {k : Int} (hk : k = 2 ∨ k = 3) {t a b : Rx} (ht : pl t = pl a + pl b) {x y : Nv} {A0 : Option Addr} {c0 : Nat} (h2 : 2 ≤ c0) (hK : Shows (WH w0 B H) A0 2 6 (x.cells ++ y.cells)) (hEa : PlC w0 B a x H) (hEb : PlC w0 B b y H) : PlC w0 B t ⟨k, S4.zero, A0, 2, c0⟩ H := by
  intro H' hsub hp
  rw [ht] at hp ⊢
  refine TCall_showsN (hK.mono fun w h => h.sub hsub) (by simp [Nv.cells]) fun ga oa hA hrd => ?_
  subst hA
  have hk0 : RdsK (WH w0 B H') ga (oa + 0 * 6) 6 x.cells := ⟨rfl, fun j v hj => by
    rw [add_plain']
    refine hrd (0 * 6 + j) v ?_ |> fun h => by simpa [Nat.add_assoc] using h
    rw [Nat.zero_mul, Nat.zero_add, List.getElem?_append_left (List.getElem?_eq_some_iff.1 hj).1]
    exact hj⟩
  have hk1 : RdsK (WH w0 B H') ga (oa + 1 * 6) 6 y.cells := ⟨rfl, fun j v hj => by
    rw [add_plain', Nat.add_assoc]
    refine hrd (1 * 6 + j) v ?_
    rw [List.getElem?_append_right (by simp [Nv.cells])]
    simpa [Nv.cells] using hj⟩
  have e8 : Value.bool (k == 1) = .bool false := by
    congr 1
    exact beq_eq_false_iff_ne.2 (by omega)
  show TCall Try.prog w0 B 31 #[.agg #[.int .i64 k, wv S4.zero.a, wv S4.zero.b, wv S4.zero.c, wv S4.zero.d, .slice (some ⟨ga, oa, none⟩) 2 c0]] _ _
  refine TCall_intro (args := [_]) Try.func31 rfl Try.ntmps31 (Nat.le_of_ble_eq_true rfl) ?_
  refine T_seq ?_
  refine T_region ?_
  refine TL_cons rfl (TO_box rfl rfl fun g6001 => ?_)
  refine TL_p (PV_assign rfl) ?_
  refine TL_nil ?_
  refine T_seq ?_
  refine T_seq ?_
  refine T_region ?_
  refine TL_p (PV_fieldAddr (D := 0) Try.underlying30 rfl sz24 (by decide) rfl rfl) ?_
  refine TL_p (PV_load Try.underlying24 rfl rfl (Rd.at 0 rfl rfl)) ?_
  refine TL_p (PV.cast (PV_bin rfl rfl bin_eql) e8) ?_
  refine TL_nil ?_
  refine T_else rfl (by rfl) ?_
  refine T_skip ?_
  refine T_seq ?_
  refine T_region ?_
  refine TL_p (PV_assign rfl) ?_
  refine TL_nil ?_
  refine T_seq ?_
  refine T_seq ?_
  refine T_region ?_
  refine TL_p (PV_fieldAddr (D := 5) Try.underlying30 rfl sz28 (by decide) rfl rfl) ?_
  refine TL_p (PV_load Try.underlying28 rfl rfl (Rd.at 0 rfl rfl)) ?_
  refine TL_p (PV_len_slice Try.underlying28 rfl) ?_
  refine TL_p (PV_move rfl) ?_
  refine TL_nil ?_
  refine T_block ?_
  refine ?L61
  case L61 =>
    refine T_loopP1 (fun (i : Nat) => i ≤ 2) (fun i => 2 - i) (fun i => [(3, .int .i64 ((if i = 0 then 0 else if i = 1 then pl a else pl a + pl b : Nat) : Int)), (10, .slice (some ⟨ga, oa, none⟩) 2 c0), (11, .int .i64 ((2 : Nat) : Int)), (12, .int .i64 (i : Int))]) (fun i => H') 0 (by omega) (by repeat (first | exact FrSub.nil _ | refine FrSub.cons rfl ?_)) (Has.of_sub (by repeat (first | exact Sb.r | exact Sb.ar | exact Sb.al | apply Sb.c | apply Sb.d | refine Sb.t ?_))) ?_
    intro i hi
    have hor : i = 0 ∨ i = 1 ∨ i = 2 := by omega
    rcases hor with rfl | rfl | rfl
    · have e19 : Value.int .i64 (IntKind.i64.wrap (((0 : Nat) : Int) + ((pl a : Nat) : Int))) = .int .i64 ((pl a : Nat) : Int) := wr64n _ (by omega) (by omega)
      have e20 : Value.int .i64 (IntKind.i64.wrap (((0 : Nat) : Int) + 1)) = .int .i64 ((1 : Nat) : Int) := rfl
      refine T_seq ?_
      refine T_region ?_
      refine TL_p (PV_bin rfl rfl bin_lss) ?_
      refine TL_nil ?_
      refine T_seq ?_
      refine T_then rfl (by rfl) ?_
      refine T_skip ?_
      refine T_seq ?_
      refine T_block ?_
      refine T_seq ?_
      refine T_region ?_
      refine TL_p (PV_indexAddr (i := 0) Try.underlying28 sz30 rfl rfl rfl (by first | omega | decide | assumption)) ?_
      refine TL_p (PV_loadAt Try.underlying30 rfl sz30 rfl hk0) ?_
      refine TL_cons rfl (TO_alloc rfl zr30 fun g7001 => ?_)
      refine TL_cons rfl (TO_store 0 rfl rfl rfl sz30 rfl rfl rfl (all_one rfl) (by first | exact Nat.le_of_ble_eq_true rfl | (simp; done) | (simp; omega) | omega) ?_)
      refine TL_nil ?_
      refine T_region ?_
      refine TL_p (PV_move rfl) ?_
      refine TL_p (PV_loadAt Try.underlying30 rfl sz30 rfl (Rds.take 0 rfl rfl rfl)) ?_
      refine TL_cons rfl (TO_pl hEa (hsub.trans (by repeat (first | exact Sb.r | exact Sb.ar | exact Sb.al | apply Sb.d | refine Sb.t ?_))) (by omega) rfl rfl ?_)
      refine TL_p (PV.cast (PV_bin rfl rfl bin_add) e19) ?_
      refine TL_p (PV_assign rfl) ?_
      refine TL_nil ?_
      refine T_region ?_
      refine TL_p (PV.cast (PV_bin rfl rfl bin_add) e20) ?_
      refine TL_p (PV_move rfl) ?_
      refine TL_nil ?_
      refine ?L71
      case L71 => exact ⟨1, by omega, by omega, (by repeat (first | exact FrSub.nil _ | refine FrSub.cons rfl ?_)), Has.of_sub (by repeat (first | exact Sb.r | exact Sb.ar | exact Sb.al | apply Sb.c | apply Sb.d | refine Sb.t ?_))⟩
    · have e19 : Value.int .i64 (IntKind.i64.wrap (((pl a : Nat) : Int) + ((pl b : Nat) : Int))) = .int .i64 ((pl a + pl b : Nat) : Int) := wr64n _ (by omega) (by omega)
      have e20 : Value.int .i64 (IntKind.i64.wrap (((1 : Nat) : Int) + 1)) = .int .i64 ((2 : Nat) : Int) := rfl
      refine T_seq ?_
      refine T_region ?_
      refine TL_p (PV_bin rfl rfl bin_lss) ?_
      refine TL_nil ?_
      refine T_seq ?_
      refine T_then rfl (by rfl) ?_
      refine T_skip ?_
      refine T_seq ?_
      refine T_block ?_
      refine T_seq ?_
      refine T_region ?_
      refine TL_p (PV_indexAddr (i := 1) Try.underlying28 sz30 rfl rfl rfl (by first | omega | decide | assumption)) ?_
      refine TL_p (PV_loadAt Try.underlying30 rfl sz30 rfl hk1) ?_
      refine TL_cons rfl (TO_alloc rfl zr30 fun g8001 => ?_)
      refine TL_cons rfl (TO_store 0 rfl rfl rfl sz30 rfl rfl rfl (all_one rfl) (by first | exact Nat.le_of_ble_eq_true rfl | (simp; done) | (simp; omega) | omega) ?_)
      refine TL_nil ?_
      refine T_region ?_
      refine TL_p (PV_move rfl) ?_
      refine TL_p (PV_loadAt Try.underlying30 rfl sz30 rfl (Rds.take 0 rfl rfl rfl)) ?_
      refine TL_cons rfl (TO_pl hEb (hsub.trans (by repeat (first | exact Sb.r | exact Sb.ar | exact Sb.al | apply Sb.d | refine Sb.t ?_))) (by omega) rfl rfl ?_)
      refine TL_p (PV.cast (PV_bin rfl rfl bin_add) e19) ?_
      refine TL_p (PV_assign rfl) ?_
      refine TL_nil ?_
      refine T_region ?_
      refine TL_p (PV.cast (PV_bin rfl rfl bin_add) e20) ?_
      refine TL_p (PV_move rfl) ?_
      refine TL_nil ?_
      refine ?L81
      case L81 => exact ⟨2, by omega, by omega, (by repeat (first | exact FrSub.nil _ | refine FrSub.cons rfl ?_)), Has.of_sub (by repeat (first | exact Sb.r | exact Sb.ar | exact Sb.al | apply Sb.c | apply Sb.d | refine Sb.t ?_))⟩
    · refine T_seq ?_
      refine T_region ?_
      refine TL_p (PV_bin rfl rfl bin_lss) ?_
      refine TL_nil ?_
      refine T_seq ?_
      refine T_else rfl (by rfl) ?_
      refine T_exit ?_
      refine T_seq ?_
      refine T_region ?_
      refine TL_p (PV_move rfl) ?_
      refine TL_p (PV_assign rfl) ?_
      refine TL_nil ?_
      refine T_ret ?_
      refine ret_ret (ResV_one rfl rfl) ⟨_, List.Sublist.refl _, ⟨rfl, rfl⟩⟩
theorem pl_t : ∀ {t : Rx} {v : Nv}, Tr (WH w0 B H) t v → PlC w0 B t v H
  | .nothing, v, hv => pl_nothing hv
  | .one st, v, hv => pl_one hv
  | .then_ a b, v, ⟨A, c, x, y, h1, h2, h3, h4, h5⟩ => by
    subst h1
    exact pl_two (.inl rfl) rfl h2 h3 (pl_t h4) (pl_t h5)
  | .either a b, v, ⟨A, c, x, y, h1, h2, h3, h4, h5⟩ => by
    subst h1
    exact pl_two (.inr rfl) rfl h2 h3 (pl_t h4) (pl_t h5)
  | .star a, v, ⟨A, c, x, h1, h2, h3, h4⟩ => by
    subst h1
    exact pl_star h2 h3 (pl_t h4)
theorem Shows.pre {W : World → Prop} {A : Option Addr} {m h : Nat} {l : List Int} (hS : Shows W A m 1 (nums .u8 l)) (hh : h ≤ m) : Shows W A h 1 (nums .u8 (l.take h)) := fun w hw => by
  obtain ⟨h1, h2⟩ := hS w hw
  have e : nums .u8 (l.take h) = (nums .u8 l).take h := by simp [nums, List.map_take]
  rw [e]
  refine ⟨by rw [List.length_take]; omega, fun j v hj => h2 j v ?_⟩
  rw [List.getElem?_take] at hj
  split at hj
  · exact hj
  · cases hj
theorem NfaFits_t {A0 A1 : Option Addr} {m0 m1 c0 c1 : Nat} {l0 l1 : List Int} (hS0 : Shows (WH w0 B H) A0 m0 1 (nums .u8 l0)) (hm0 : l0.length = m0) (hl0 : m0 ≤ 4611686018427387904) (hc0 : m0 ≤ c0) (hu0 : U8s l0) (hS1 : Shows (WH w0 B H) A1 m1 1 (nums .u8 l1)) (hm1 : l1.length = m1) (hl1 : m1 ≤ 4611686018427387904) (hc1 : m1 ≤ c1) (hu1 : U8s l1) :
    TCall Try.prog w0 B 7 #[.slice A0 m0 c0, .slice A1 m1 c1] (fun r H' => r = .bool true ∧ H' = H) H := by
  obtain ⟨p, hp⟩ : ∃ p, min m0 7 = p := ⟨_, rfl⟩
  obtain ⟨q, hq⟩ : ∃ q, min m1 8 = q := ⟨_, rfl⟩
  have hS0' := hS0.pre (h := p) (by omega)
  have hS1' := hS1.pre (h := q) (by omega)
  have hu0' := hu0.take p
  have hu1' := hu1.take q
  have hm0' : (l0.take p).length = p := by rw [List.length_take]; omega
  have hm1' : (l1.take q).length = q := by rw [List.length_take]; omega
  obtain ⟨t, ht⟩ : ∃ t, (mk 2 (l0.take p)).2.1 = t := ⟨_, rfl⟩
  obtain ⟨s, hs⟩ : ∃ s, txt (l1.take q) q = s := ⟨_, rfl⟩
  have hms := txt_mem hu1' q
  have hls := txt_len (l1.take q) q
  have hsm := mk_small (d := 2) (by omega) (l0.take p)
  rw [hs] at hms hls
  rw [ht] at hsm
  have hus : U8s s := fun x hx => by have := hms x hx; omega
  have hvt : ∀ {W : World → Prop} {v : Nv}, Tr W (mk 2 (l0.take p)).2.1 v → Tr W t v := fun h => ht ▸ h
  have hHN : ∀ N : List Chunk, H.Sublist (H ++ N) := fun N => List.sublist_append_left H N
  have hHX : ∀ N N2 : List Chunk, H.Sublist ((H ++ N) ++ N2) := fun N N2 => (hHN N).trans (List.sublist_append_left _ _)
  have e15 : Value.int .i64 (min (m0 : Int) 7) = .int .i64 (p : Int) := by congr 1; omega
  have e23 : Value.int .i64 (min (m1 : Int) 8) = .int .i64 (q : Int) := by congr 1; omega
  have hue : U8s [] := fun x hx => by simp at hx
  have hst0 : strOfNums [] = ⟨#[]⟩ := rfl
  have hnf : fitsT t [] = nul t := rfl
  refine TCall_intro (args := [_, _]) Try.func7 rfl Try.ntmps7 (Nat.le_of_ble_eq_true rfl) ?_
  refine T_seq ?_
  refine T_region ?_
  refine TL_p (PV_assign rfl) ?_
  refine TL_nil ?_
  refine T_seq ?_
  refine T_seq ?_
  refine T_region ?_
  refine TL_cons rfl (TO_call0 call25 rfl rfl (awake07s) ?_)
  rintro v9_3 H9_3 ⟨rfl, rfl⟩
  refine TL_p (PV_not rfl) ?_
  refine TL_nil ?_
  refine T_else rfl (by rfl) ?_
  refine T_skip ?_
  refine T_seq ?_
  refine T_region ?_
  refine TL_p (PV_move rfl) ?_
  refine TL_p (PV_move rfl) ?_
  refine TL_p (PV_len_slice Try.underlying22 rfl) ?_
  refine TL_p (PV.cast (PV_min rfl rfl) e15) ?_
  refine TL_p (PV_sliceTo (h := p) Try.underlying22 sz5 rfl hc0 ⟨_, rfl⟩ (by omega)) ?_
  refine TL_cons rfl (TO_mk (d := 2) (by omega) hS0' hm0' (by omega) (by omega) hu0' rfl rfl fun v17 N17 hv17 => ?_)
  refine TL_p (PV_move rfl) ?_
  refine TL_p (PV_extract rfl rfl) ?_
  refine TL_p (PV_extract rfl rfl) ?_
  refine TL_cons rfl (TO_alloc rfl zr30 fun g5 => ?_)
  refine TL_p (PV_assign rfl) ?_
  refine TL_cons rfl (TO_store 0 rfl rfl rfl sz30 rfl rfl rfl (all_one rfl) (by first | exact Nat.le_of_ble_eq_true rfl | (simp; done) | (simp; omega) | omega) ?_)
  refine TL_nil ?_
  refine T_seq ?_
  refine T_region ?_
  refine TL_p (PV_move rfl) ?_
  refine TL_p (PV_move rfl) ?_
  refine TL_p (PV_len_slice Try.underlying22 rfl) ?_
  refine TL_p (PV.cast (PV_min rfl rfl) e23) ?_
  refine TL_p (PV_sliceTo (h := q) Try.underlying22 sz5 rfl hc1 ⟨_, rfl⟩ (by omega)) ?_
  refine TL_cons rfl (TO_eqD call20 (Text_v hs (hS1'.mono fun w h => h.sub ((hHN N17).trans (by repeat (first | exact Sb.r | exact Sb.ar | exact Sb.al | apply Sb.d | refine Sb.t ?_)))) hm1' (by omega) (by omega) hu1') rfl rfl _ (List.Sublist.refl _) ?_)
  refine TL_p (PV_assign rfl) ?_
  refine TL_nil ?_
  refine T_seq ?_
  refine T_region ?_
  refine TL_p (PV_loadAt Try.underlying30 rfl sz30 rfl (Rds.take 0 rfl rfl rfl)) ?_
  refine TL_cons rfl (TO_Of ((hvt hv17).mono fun w h => h.sub (by repeat (first | exact Sb.r | exact Sb.ar | exact Sb.al | apply Sb.d | refine Sb.t ?_))) (by omega) (by omega) rfl rfl fun g27 N27 hT27 => ?_)
  refine TL_p (PV_assign rfl) ?_
  refine TL_nil ?_
  refine T_seq ?_
  refine T_drawn (WH _ _ _) mixed (fun w h => h) ?_
  refine TA_p 0 rfl (by kernel_rfl) (PV_move rfl) ?_
  refine TA_p 1 rfl (by kernel_rfl) (PV_move rfl) ?_
  refine TA_p 3 rfl (by kernel_rfl) (PV_loadAt Try.underlying30 rfl sz30 rfl (Rds.take 0 rfl rfl rfl)) ?_
  refine TA_p 4 rfl (by kernel_rfl) (PV_move rfl) ?_
  refine TA_one 2 (by kernel_rfl) rfl rfl (TO_eqD call27 (Fits_v (hT27.mono fun w h => h.sub (by repeat (first | exact Sb.r | exact Sb.ar | exact Sb.al | apply Sb.d | refine Sb.t ?_))) (by omega) hus (by omega) rfl rfl) rfl rfl _ (List.Sublist.refl _) ?_)
  refine ⟨fun _ h => h, ?_⟩
  refine TA_one 5 (by kernel_rfl) rfl rfl (TO_lf (lf_t (H := N17) (hvt hv17)) (by repeat (first | exact Sb.r | exact Sb.ar | exact Sb.al | apply Sb.d | refine Sb.t ?_)) hus (by omega) rfl rfl rfl ?_)
  refine ⟨fun _ h => h, ?_⟩
  refine TA_p 6 rfl (by kernel_rfl) (PV_bin rfl rfl (bin_bool_eql Try.underlying4)) ?_
  refine TA_p 7 rfl (by kernel_rfl) (PV_move rfl) ?_
  refine TA_yes (dd := (some 36)) 8 rfl (by kernel_rfl) (by kernel_rfl) (by kernel_rfl) rfl rfl (gtrue (by (simp; done))) rfl rfl (PV_move rfl) ?_
  refine TA_yes (dd := (some 38)) 10 rfl (by kernel_rfl) (by kernel_rfl) (by kernel_rfl) rfl rfl (gtrue (by (simp; done))) rfl rfl (PV_loadAt Try.underlying30 rfl sz30 rfl (Rds.take 0 rfl rfl rfl)) ?_
  refine TA_oneYes 9 (by kernel_rfl) rfl rfl rfl (gtrue (by (simp; done))) (TO_eqD call29 (Empty_t (hT27.mono fun w h => h.sub (by repeat (first | exact Sb.r | exact Sb.ar | exact Sb.al | apply Sb.d | refine Sb.t ?_)))) rfl rfl _ (List.Sublist.refl _) ?_)
  refine ⟨fun _ h => h, ?_⟩
  refine TA_oneYes 11 (by kernel_rfl) rfl rfl rfl (gtrue (by (simp; done))) (TO_lf (s := []) (lf_t (H := N17) (hvt hv17)) (by repeat (first | exact Sb.r | exact Sb.ar | exact Sb.al | apply Sb.d | refine Sb.t ?_)) hue (by decide) hnf rfl rfl ?_)
  refine ⟨fun _ h => h, ?_⟩
  refine TA_yes (dd := (some 40)) 12 rfl (by kernel_rfl) (by kernel_rfl) (by kernel_rfl) rfl rfl (gtrue (by (simp; done))) rfl rfl (PV_bin rfl rfl (bin_bool_eql Try.underlying4)) ?_
  refine TA_p 13 rfl (by kernel_rfl) (PV_pickAnd rfl rfl rfl) ?_
  refine TA_p 14 rfl (by kernel_rfl) (PV_move rfl) ?_
  refine TA_yes (dd := (some 43)) 15 rfl (by kernel_rfl) (by kernel_rfl) (by kernel_rfl) rfl rfl (gtrue (by (simp; done))) rfl rfl (PV_move rfl) ?_
  refine TA_yes (dd := (some 45)) 17 rfl (by kernel_rfl) (by kernel_rfl) (by kernel_rfl) rfl rfl (gtrue (by (simp; done))) rfl rfl (PV_loadAt Try.underlying30 rfl sz30 rfl (Rds.take 0 rfl rfl rfl)) ?_
  refine TA_oneYes 16 (by kernel_rfl) rfl rfl rfl (gtrue (by (simp; done))) (TO_eqD call30 (Len_t (hT27.mono fun w h => h.sub (by repeat (first | exact Sb.r | exact Sb.ar | exact Sb.al | apply Sb.d | refine Sb.t ?_)))) rfl rfl _ (List.Sublist.refl _) ?_)
  refine ⟨fun _ h => h, ?_⟩
  refine TA_oneYes 18 (by kernel_rfl) rfl rfl rfl (gtrue (by (simp; done))) (TO_pl (pl_t (H := N17) (hvt hv17)) (by repeat (first | exact Sb.r | exact Sb.ar | exact Sb.al | apply Sb.d | refine Sb.t ?_)) (by omega) rfl rfl ?_)
  refine ⟨fun _ h => h, ?_⟩
  refine TA_yes (dd := (some 47)) 19 rfl (by kernel_rfl) (by kernel_rfl) (by kernel_rfl) rfl rfl (gtrue (by (simp; done))) rfl rfl (PV_bin rfl rfl bin_eql) ?_
  refine TA_p 20 rfl (by kernel_rfl) (PV_pickAnd rfl rfl rfl) ?_
  refine TA_p 21 rfl (by kernel_rfl) (PV_assign rfl) ?_
  refine TA_done (by kernel_rfl) ?_
  refine T_ret ?_
  refine ret_ret (ResV_one rfl rfl) ⟨_, ?zb15q144, ⟨?L1, rfl⟩⟩
  case zb15q144 => exact (by (repeat (first | exact Sb.r | exact Sb.ar | exact Sb.al | apply Sb.c | apply Sb.d | refine Sb.t ?_)); done)
  case L1 => simp
end
end Go.Proofs.Ytkgdphbccagjcaa.SL
