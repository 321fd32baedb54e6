import Derived.Test.YtkgdphbccagjcaaN7
/- The law's own telling of what fits. No statement is proved here. -/
set_option linter.unusedVariables false
set_option linter.unusedSimpArgs false
set_option maxRecDepth 100000
set_option maxHeartbeats 8000000
namespace Go.Proofs.Ytkgdphbccagjcaa.SL
open Go Go.RowKit
theorem fits_nothing (s : List Int) : fitsT .nothing s = decide (s.length = 0) := by
  rw [Bool.eq_iff_iff, fitsT_iff, decide_eq_true_eq]
  constructor
  · intro h; cases h; rfl
  · intro h
    obtain rfl := List.eq_nil_of_length_eq_zero h
    exact .nothing
theorem fits_one (st : S4) (s : List Int) : fitsT (.one st) s = (decide (s.length = 1) && st.has (rd s 0).toNat) := by
  rw [Bool.eq_iff_iff, fitsT_iff, Bool.and_eq_true, decide_eq_true_eq]
  constructor
  · intro h
    cases h with
    | one h => exact ⟨rfl, h⟩
  · rintro ⟨h1, h2⟩
    match s, h1 with
    | [c], _ => exact .one h2
theorem fits_either (a b : Rx) (s : List Int) : fitsT (.either a b) s = (fitsT a s || fitsT b s) := by
  rw [Bool.eq_iff_iff, Bool.or_eq_true, fitsT_iff, fitsT_iff, fitsT_iff]
  constructor
  · intro h
    cases h with
    | left h => exact .inl h
    | right h => exact .inr h
  · rintro (h | h)
    · exact .left h
    · exact .right h
theorem fits_then {a b : Rx} {s : List Int} : fitsT (.then_ a b) s = true ↔ ∃ k, k ≤ s.length ∧ (fitsT a (s.take k) = true ∧ fitsT b (s.drop k) = true) := by
  rw [fitsT_iff]
  constructor
  · intro h
    cases h with
    | @then_ _ _ u v h1 h2 =>
      exact ⟨u.length, by simp, by rw [List.take_left']; exact fitsT_iff.2 h1; rfl, by rw [List.drop_left']; exact fitsT_iff.2 h2; rfl⟩
  · rintro ⟨k, hk, h1, h2⟩
    have := Lg.then_ (fitsT_iff.1 h1) (fitsT_iff.1 h2)
    rwa [List.take_append_drop] at this
theorem fits_star {a : Rx} {s : List Int} (hs : s ≠ []) : fitsT (.star a) s = true ↔ ∃ k, 0 < k ∧ k ≤ s.length ∧ (fitsT a (s.take k) = true ∧ fitsT (.star a) (s.drop k) = true) := by
  rw [fitsT_iff]
  constructor
  · intro h
    cases h with
    | zero => exact absurd rfl hs
    | @more _ u v hu h1 h2 =>
      exact ⟨u.length, List.length_pos_iff.2 hu, by simp, by rw [List.take_left']; exact fitsT_iff.2 h1; rfl, by rw [List.drop_left']; exact fitsT_iff.2 h2; rfl⟩
  · rintro ⟨k, h0, hk, h1, h2⟩
    have := Lg.more (a := a) (s := s.take k) (u := s.drop k) (by intro e; have := congrArg List.length e; rw [List.length_take, List.length_nil] at this; omega) (fitsT_iff.1 h1) (fitsT_iff.1 h2)
    rwa [List.take_append_drop] at this
section
variable {w0 : World} {B : Nat} {H X : List Chunk}
theorem bin_nil_str {P : Program} {xt : TypeId} {a b : Operand} (s : List Int) : BinR P .eql xt a b (.string (strOfNums s)) (.string ⟨#[]⟩) (.bool (decide (s.length = 0))) := by
  have h := bin_str_eql (P := P) (xt := xt) (x := a) (y := b) (s := strOfNums s) (t := ⟨#[]⟩)
  have e : decide (strOfNums s = ⟨#[]⟩) = decide (s.length = 0) := decide_eq_decide.2 ⟨fun h => by
    have := congrArg ByteArray.size h
    rw [str_len] at this
    exact this, fun h => by
    obtain rfl := List.eq_nil_of_length_eq_zero h
    rfl⟩
  rwa [e] at h
/-- what the law's Fits is to do, for a pattern -/
def FitsC (w0 : World) (B : Nat) (t : Rx) (v : Nv) (H : List Chunk) : Prop := ∀ (s : List Int) (H' : List Chunk), H.Sublist H' → U8s s → s.length ≤ 1000 →
  TCall Try.prog w0 B 28 #[v.val, .string (strOfNums s)] (fun r H2 => r = .bool (fitsT t s) ∧ H2 = H') H'
theorem lf_nothing {v : Nv} (hv : v = nv0) : FitsC w0 B .nothing v H := by
  subst hv
  intro s H' hsub hu hs
  rw [fits_nothing]
  show TCall Try.prog w0 B 28 #[.agg #[.int .i64 0, wv S4.zero.a, wv S4.zero.b, wv S4.zero.c, wv S4.zero.d, .slice none 0 0], .string (strOfNums s)] _ _
  refine TCall_intro (args := [_, _]) Try.func28 rfl Try.ntmps28 (Nat.le_of_ble_eq_true rfl) ?_
  refine T_seq ?_
  refine T_region ?_
  refine TL_cons rfl (TO_box rfl rfl fun g1 => ?_)
  refine TL_p (PV_assign rfl) ?_
  refine TL_nil ?_
  refine T_seq ?_
  refine T_seq ?_
  refine T_region ?_
  refine TL_p (PV_fieldAddr (D := 0) Try.underlying30 rfl sz24 (by decide) rfl rfl) ?_
  refine TL_p (PV_load Try.underlying24 rfl rfl (Rd.at 0 rfl rfl)) ?_
  refine TL_nil ?_
  refine T_block ?_
  refine T_seq ?_
  refine T_region ?_
  refine TL_p (PV_bin rfl rfl bin_eql) ?_
  refine TL_p (PV_assign rfl) ?_
  refine TL_nil ?_
  refine T_then rfl (by rfl) ?_
  refine T_seq ?_
  refine T_region ?_
  refine TL_p (PV_move rfl) ?_
  refine TL_p (PV_bin rfl rfl (bin_nil_str s)) ?_
  refine TL_p (PV_assign rfl) ?_
  refine TL_nil ?_
  refine T_ret ?_
  refine ret_ret (ResV_one rfl rfl) ⟨_, ?zb2q76, ⟨rfl, rfl⟩⟩
  case zb2q76 => exact (by (repeat (first | exact Sb.r | exact Sb.ar | exact Sb.al | apply Sb.c | apply Sb.d | refine Sb.t ?_)); done)
theorem lf_one {st : S4} {v : Nv} (hv : v = ⟨1, st, none, 0, 0⟩) : FitsC w0 B (.one st) v H := by
  subst hv
  intro s H' hsub hu hs
  rw [fits_one]
  have el : Value.int .i64 (((strOfNums s).size : Nat) : Int) = .int .i64 ((s.length : Nat) : Int) := by rw [str_len]
  show TCall Try.prog w0 B 28 #[.agg #[.int .i64 1, wv st.a, wv st.b, wv st.c, wv st.d, .slice none 0 0], .string (strOfNums s)] _ _
  by_cases h1 : s.length = 1
  · have hx := hu.at_ 0
    have hh := fun {X : List Chunk} => Has_t (w0 := w0) (B := B) (H := X) st (rd s 0).toNat (by omega)
    rw [show (((rd s 0).toNat : Nat) : Int) = rd s 0 by omega] at hh
    rw [decide_eq_true h1, Bool.true_and]
    have e17 : Value.bool (((s.length : Nat) : Int) == 1) = .bool true := by rw [h1]; rfl
    refine TCall_intro (args := [_, _]) Try.func28 rfl Try.ntmps28 (Nat.le_of_ble_eq_true rfl) ?_
    refine T_seq ?_
    refine T_region ?_
    refine TL_cons rfl (TO_box rfl rfl fun g1001 => ?_)
    refine TL_p (PV_assign rfl) ?_
    refine TL_nil ?_
    refine T_seq ?_
    refine T_seq ?_
    refine T_region ?_
    refine TL_p (PV_fieldAddr (D := 0) Try.underlying30 rfl sz24 (by decide) rfl rfl) ?_
    refine TL_p (PV_load Try.underlying24 rfl rfl (Rd.at 0 rfl rfl)) ?_
    refine TL_nil ?_
    refine T_block ?_
    refine T_seq ?_
    refine T_region ?_
    refine TL_p (PV_bin rfl rfl bin_eql) ?_
    refine TL_p (PV_assign rfl) ?_
    refine TL_nil ?_
    refine T_else rfl (by rfl) ?_
    refine T_seq ?_
    refine T_region ?_
    refine TL_p (PV_bin rfl rfl bin_eql) ?_
    refine TL_p (PV_assign rfl) ?_
    refine TL_nil ?_
    refine T_then rfl (by rfl) ?_
    refine T_seq ?_
    refine T_drawn (WH _ _ _) mixed (fun w h => h) ?_
    refine TA_p 0 rfl (by kernel_rfl) (PV_move rfl) ?_
    refine TA_p 1 rfl (by kernel_rfl) (PV.cast (PV_len_string Try.underlying9 rfl) el) ?_
    refine TA_p 2 rfl (by kernel_rfl) (PV.cast (PV_bin rfl rfl bin_eql) e17) ?_
    refine TA_p 3 rfl (by kernel_rfl) (PV_move rfl) ?_
    refine TA_yes (dd := (some 19)) 4 rfl (by kernel_rfl) (by kernel_rfl) (by kernel_rfl) rfl rfl rfl rfl rfl (PV_fieldAddr (D := 1) Try.underlying30 rfl sz27 (by decide) rfl rfl) ?_
    refine TA_yes (dd := (some 20)) 5 rfl (by kernel_rfl) (by kernel_rfl) (by kernel_rfl) rfl rfl rfl rfl rfl (PV_loadAt Try.underlying27 rfl sz27 rfl (Rds.take 0 rfl rfl rfl)) ?_
    refine TA_yes (dd := (some 21)) 6 rfl (by kernel_rfl) (by kernel_rfl) (by kernel_rfl) rfl rfl rfl rfl rfl (PV_move rfl) ?_
    refine TA_yes (dd := (some 22)) 7 rfl (by kernel_rfl) (by kernel_rfl) (by kernel_rfl) rfl rfl rfl rfl rfl (PV_indexNums (i := 0) Try.underlying9 rfl rfl rfl hu (by omega)) ?_
    refine TA_oneYes 8 (by kernel_rfl) rfl rfl rfl rfl (TO_call0 call49 rfl rfl (hh) ?_)
    rintro v23_1004 H23_1004 ⟨rfl, rfl⟩
    refine ⟨fun _ h => h, ?_⟩
    refine TA_p 9 rfl (by kernel_rfl) (PV_pickAnd rfl rfl rfl) ?_
    refine TA_p 10 rfl (by kernel_rfl) (PV_assign rfl) ?_
    refine TA_done (by kernel_rfl) ?_
    refine T_ret ?_
    refine ret_ret (ResV_one rfl rfl) ⟨_, ?zb1005q89, ⟨rfl, rfl⟩⟩
    case zb1005q89 => exact (by (repeat (first | exact Sb.r | exact Sb.ar | exact Sb.al | apply Sb.c | apply Sb.d | refine Sb.t ?_)); done)
  · have e17 : Value.bool (((s.length : Nat) : Int) == 1) = .bool false := by
      congr 1
      exact beq_eq_false_iff_ne.2 (by omega)
    rw [decide_eq_false h1, Bool.false_and]
    refine TCall_intro (args := [_, _]) Try.func28 rfl Try.ntmps28 (Nat.le_of_ble_eq_true rfl) ?_
    refine T_seq ?_
    refine T_region ?_
    refine TL_cons rfl (TO_box rfl rfl fun g2001 => ?_)
    refine TL_p (PV_assign rfl) ?_
    refine TL_nil ?_
    refine T_seq ?_
    refine T_seq ?_
    refine T_region ?_
    refine TL_p (PV_fieldAddr (D := 0) Try.underlying30 rfl sz24 (by decide) rfl rfl) ?_
    refine TL_p (PV_load Try.underlying24 rfl rfl (Rd.at 0 rfl rfl)) ?_
    refine TL_nil ?_
    refine T_block ?_
    refine T_seq ?_
    refine T_region ?_
    refine TL_p (PV_bin rfl rfl bin_eql) ?_
    refine TL_p (PV_assign rfl) ?_
    refine TL_nil ?_
    refine T_else rfl (by rfl) ?_
    refine T_seq ?_
    refine T_region ?_
    refine TL_p (PV_bin rfl rfl bin_eql) ?_
    refine TL_p (PV_assign rfl) ?_
    refine TL_nil ?_
    refine T_then rfl (by rfl) ?_
    refine T_seq ?_
    refine T_drawn (WH _ _ _) mixed (fun w h => h) ?_
    refine TA_p 0 rfl (by kernel_rfl) (PV_move rfl) ?_
    refine TA_p 1 rfl (by kernel_rfl) (PV.cast (PV_len_string Try.underlying9 rfl) el) ?_
    refine TA_p 2 rfl (by kernel_rfl) (PV.cast (PV_bin rfl rfl bin_eql) e17) ?_
    refine TA_p 3 rfl (by kernel_rfl) (PV_move rfl) ?_
    refine TA_no (dd := (some 19)) (b := false) 4 rfl (by kernel_rfl) (by kernel_rfl) (by kernel_rfl) rfl rfl rfl rfl rfl ?_
    refine TA_no (dd := (some 20)) (b := false) 5 rfl (by kernel_rfl) (by kernel_rfl) (by kernel_rfl) rfl rfl rfl rfl rfl ?_
    refine TA_no (dd := (some 21)) (b := false) 6 rfl (by kernel_rfl) (by kernel_rfl) (by kernel_rfl) rfl rfl rfl rfl rfl ?_
    refine TA_no (dd := (some 22)) (b := false) 7 rfl (by kernel_rfl) (by kernel_rfl) (by kernel_rfl) rfl rfl rfl rfl rfl ?_
    refine TA_no (dd := (some 23)) (b := false) 8 rfl (by kernel_rfl) (by kernel_rfl) (by kernel_rfl) rfl rfl rfl rfl rfl ?_
    refine TA_p 9 rfl (by kernel_rfl) (PV_pickF rfl (by first | assumption | rfl | (simp; done) | (simp; omega) | (simp [*]; done) | (simp [*]; omega)) rfl rfl) ?_
    refine TA_p 10 rfl (by kernel_rfl) (PV_assign rfl) ?_
    refine TA_done (by kernel_rfl) ?_
    refine T_ret ?_
    refine ret_ret (ResV_one rfl rfl) ⟨_, ?zb2002q98, ⟨rfl, rfl⟩⟩
    case zb2002q98 => exact (by (repeat (first | exact Sb.r | exact Sb.ar | exact Sb.al | apply Sb.c | apply Sb.d | refine Sb.t ?_)); done)
theorem TO_lf {n : Nat} {fr : Fr} {dst : Option Tmp} {ty : TypeId} {pos : String} {aft : Array Edge} {gd : Option (Nat × Bool)} {K : Fr → List Chunk → Prop} {xs : Array Operand} {ats : Array TypeId} {t : Rx} {v : Nv} {s : List Int} {q : Bool} (hE : FitsC w0 B t v X) (hsub : X.Sublist H) (hu : U8s s) (hs : s.length ≤ 1000) (hq : fitsT t s = q) (hd : dOk n dst = true) (hx : evs fr xs.toList = some [v.val, .string (strOfNums s)])
    (h : K (frPut dst (.bool q) fr) H) : TO Try.prog w0 B n ⟨dst, .call { callee := .value (.func 28), args := xs, argTypes := ats }, ty, pos, aft, gd⟩ K fr H := by
  subst hq
  exact TO_eqD call28 (hE s H hsub hu hs) hd hx H (List.Sublist.refl _) h
section
variable {a b : Rx} {x y : Nv} {A0 : Option Addr} {c0 : Nat}
theorem lf_either (h2 : 2 ≤ c0) (hK : Shows (WH w0 B H) A0 2 6 (x.cells ++ y.cells)) (hEa : FitsC w0 B a x H) (hEb : FitsC w0 B b y H) : FitsC w0 B (.either a b) ⟨3, S4.zero, A0, 2, c0⟩ H := by
  intro s H' hsub hu hs
  refine TCall_showsN (hK.mono fun w h => h.sub hsub) (by simp [Nv.cells]) fun ga oa hA hrd => ?_
  subst hA
  have hk0 : RdsK (WH w0 B H') ga (oa + 0 * 6) 6 x.cells := ⟨rfl, fun j v hj => by
    rw [add_plain']
    refine hrd (0 * 6 + j) v ?_ |> fun h => by simpa [Nat.add_assoc] using h
    rw [Nat.zero_mul, Nat.zero_add, List.getElem?_append_left (List.getElem?_eq_some_iff.1 hj).1]
    exact hj⟩
  have hk1 : RdsK (WH w0 B H') ga (oa + 1 * 6) 6 y.cells := ⟨rfl, fun j v hj => by
    rw [add_plain', Nat.add_assoc]
    refine hrd (1 * 6 + j) v ?_
    rw [List.getElem?_append_right (by simp [Nv.cells])]
    simpa [Nv.cells] using hj⟩
  rw [fits_either]
  show TCall Try.prog w0 B 28 #[.agg #[.int .i64 3, wv S4.zero.a, wv S4.zero.b, wv S4.zero.c, wv S4.zero.d, .slice (some ⟨ga, oa, none⟩) 2 c0], .string (strOfNums s)] _ H'
  rcases Bool.eq_false_or_eq_true (fitsT a s) with hq | hq
  · refine TCall_intro (args := [_, _]) Try.func28 rfl Try.ntmps28 (Nat.le_of_ble_eq_true rfl) ?_
    refine T_seq ?_
    refine T_region ?_
    refine TL_cons rfl (TO_box rfl rfl fun g3001 => ?_)
    refine TL_p (PV_assign rfl) ?_
    refine TL_nil ?_
    refine T_seq ?_
    refine T_seq ?_
    refine T_region ?_
    refine TL_p (PV_fieldAddr (D := 0) Try.underlying30 rfl sz24 (by decide) rfl rfl) ?_
    refine TL_p (PV_load Try.underlying24 rfl rfl (Rd.at 0 rfl rfl)) ?_
    refine TL_nil ?_
    refine T_block ?_
    refine T_seq ?_
    refine T_region ?_
    refine TL_p (PV_bin rfl rfl bin_eql) ?_
    refine TL_p (PV_assign rfl) ?_
    refine TL_nil ?_
    refine T_else rfl (by rfl) ?_
    refine T_seq ?_
    refine T_region ?_
    refine TL_p (PV_bin rfl rfl bin_eql) ?_
    refine TL_p (PV_assign rfl) ?_
    refine TL_nil ?_
    refine T_else rfl (by rfl) ?_
    refine T_seq ?_
    refine T_region ?_
    refine TL_p (PV_bin rfl rfl bin_eql) ?_
    refine TL_p (PV_assign rfl) ?_
    refine TL_nil ?_
    refine T_then rfl (by rfl) ?_
    refine T_seq ?_
    refine T_region ?_
    refine TL_p (PV_fieldAddr (D := 5) Try.underlying30 rfl sz28 (by decide) rfl rfl) ?_
    refine TL_p (PV_load Try.underlying28 rfl rfl (Rd.at 0 rfl rfl)) ?_
    refine TL_p (PV_indexAddr (i := 0) Try.underlying28 sz30 rfl rfl rfl (by first | omega | decide | assumption)) ?_
    refine TL_p (PV_loadAt Try.underlying30 rfl sz30 rfl (RdsK.mono hk0 (fun w h => h.sub (by (repeat (first | exact Sb.r | exact Sb.ar | exact Sb.al | apply Sb.d | refine Sb.t ?_)); done)))) ?_
    refine TL_p (PV_move rfl) ?_
    refine TL_cons rfl (TO_lf hEa (hsub.trans (by repeat (first | exact Sb.r | exact Sb.ar | exact Sb.al | apply Sb.d | refine Sb.t ?_))) hu hs hq rfl rfl ?_)
    refine TL_p (PV_move rfl) ?_
    refine TL_no (b := true) rfl rfl rfl rfl ?_
    refine TL_no (b := true) rfl rfl rfl rfl ?_
    refine TL_no (b := true) rfl rfl rfl rfl ?_
    refine TL_no (b := true) rfl rfl rfl rfl ?_
    refine TL_no (b := true) rfl rfl rfl rfl ?_
    refine TL_no (b := true) rfl rfl rfl rfl ?_
    refine TL_p (PV_pickT rfl (by first | assumption | rfl | (simp; done) | (simp; omega) | (simp [*]; done) | (simp [*]; omega)) rfl rfl) ?_
    refine TL_p (PV_assign rfl) ?_
    refine TL_nil ?_
    refine T_ret ?_
    refine ret_ret (ResV_one rfl rfl) ⟨_, ?zb3003q124, ⟨?L31, rfl⟩⟩
    case zb3003q124 => exact (by (repeat (first | exact Sb.r | exact Sb.ar | exact Sb.al | apply Sb.c | apply Sb.d | refine Sb.t ?_)); done)
    case L31 => rw [hq]; rfl
  · refine TCall_intro (args := [_, _]) Try.func28 rfl Try.ntmps28 (Nat.le_of_ble_eq_true rfl) ?_
    refine T_seq ?_
    refine T_region ?_
    refine TL_cons rfl (TO_box rfl rfl fun g4001 => ?_)
    refine TL_p (PV_assign rfl) ?_
    refine TL_nil ?_
    refine T_seq ?_
    refine T_seq ?_
    refine T_region ?_
    refine TL_p (PV_fieldAddr (D := 0) Try.underlying30 rfl sz24 (by decide) rfl rfl) ?_
    refine TL_p (PV_load Try.underlying24 rfl rfl (Rd.at 0 rfl rfl)) ?_
    refine TL_nil ?_
    refine T_block ?_
    refine T_seq ?_
    refine T_region ?_
    refine TL_p (PV_bin rfl rfl bin_eql) ?_
    refine TL_p (PV_assign rfl) ?_
    refine TL_nil ?_
    refine T_else rfl (by rfl) ?_
    refine T_seq ?_
    refine T_region ?_
    refine TL_p (PV_bin rfl rfl bin_eql) ?_
    refine TL_p (PV_assign rfl) ?_
    refine TL_nil ?_
    refine T_else rfl (by rfl) ?_
    refine T_seq ?_
    refine T_region ?_
    refine TL_p (PV_bin rfl rfl bin_eql) ?_
    refine TL_p (PV_assign rfl) ?_
    refine TL_nil ?_
    refine T_then rfl (by rfl) ?_
    refine T_seq ?_
    refine T_region ?_
    refine TL_p (PV_fieldAddr (D := 5) Try.underlying30 rfl sz28 (by decide) rfl rfl) ?_
    refine TL_p (PV_load Try.underlying28 rfl rfl (Rd.at 0 rfl rfl)) ?_
    refine TL_p (PV_indexAddr (i := 0) Try.underlying28 sz30 rfl rfl rfl (by first | omega | decide | assumption)) ?_
    refine TL_p (PV_loadAt Try.underlying30 rfl sz30 rfl (RdsK.mono hk0 (fun w h => h.sub (by (repeat (first | exact Sb.r | exact Sb.ar | exact Sb.al | apply Sb.d | refine Sb.t ?_)); done)))) ?_
    refine TL_p (PV_move rfl) ?_
    refine TL_cons rfl (TO_lf hEa (hsub.trans (by repeat (first | exact Sb.r | exact Sb.ar | exact Sb.al | apply Sb.d | refine Sb.t ?_))) hu hs hq rfl rfl ?_)
    refine TL_p (PV_move rfl) ?_
    refine TL_yes rfl rfl rfl (TO_pure rfl (PV_fieldAddr (D := 5) Try.underlying30 rfl sz28 (by decide) rfl rfl) ?_)
    refine TL_yes rfl rfl rfl (TO_pure rfl (PV_load Try.underlying28 rfl rfl (Rd.at 0 rfl rfl)) ?_)
    refine TL_yes rfl rfl rfl (TO_pure rfl (PV_indexAddr (i := 1) Try.underlying28 sz30 rfl rfl rfl (by first | omega | decide | assumption)) ?_)
    refine TL_yes rfl rfl rfl (TO_pure rfl (PV_loadAt Try.underlying30 rfl sz30 rfl (RdsK.mono hk1 (fun w h => h.sub (by (repeat (first | exact Sb.r | exact Sb.ar | exact Sb.al | apply Sb.d | refine Sb.t ?_)); done)))) ?_)
    refine TL_yes rfl rfl rfl (TO_pure rfl (PV_move rfl) ?_)
    refine TL_yes rfl rfl rfl (TO_lf hEb (hsub.trans (by repeat (first | exact Sb.r | exact Sb.ar | exact Sb.al | apply Sb.d | refine Sb.t ?_))) hu hs rfl rfl rfl ?_)
    refine TL_p (PV_pickOr rfl rfl rfl) ?_
    refine TL_p (PV_assign rfl) ?_
    refine TL_nil ?_
    refine T_ret ?_
    refine ret_ret (ResV_one rfl rfl) ⟨_, ?zb4004q127, ⟨?L41, rfl⟩⟩
    case zb4004q127 => exact (by (repeat (first | exact Sb.r | exact Sb.ar | exact Sb.al | apply Sb.c | apply Sb.d | refine Sb.t ?_)); done)
    case L41 => rw [hq]
theorem lf_then (h2 : 2 ≤ c0) (hK : Shows (WH w0 B H) A0 2 6 (x.cells ++ y.cells)) (hEa : FitsC w0 B a x H) (hEb : FitsC w0 B b y H) : FitsC w0 B (.then_ a b) ⟨2, S4.zero, A0, 2, c0⟩ H := by
  intro s H' hsub hu hs
  refine TCall_showsN (hK.mono fun w h => h.sub hsub) (by simp [Nv.cells]) fun ga oa hA hrd => ?_
  subst hA
  have hk0 : RdsK (WH w0 B H') ga (oa + 0 * 6) 6 x.cells := ⟨rfl, fun j v hj => by
    rw [add_plain']
    refine hrd (0 * 6 + j) v ?_ |> fun h => by simpa [Nat.add_assoc] using h
    rw [Nat.zero_mul, Nat.zero_add, List.getElem?_append_left (List.getElem?_eq_some_iff.1 hj).1]
    exact hj⟩
  have hk1 : RdsK (WH w0 B H') ga (oa + 1 * 6) 6 y.cells := ⟨rfl, fun j v hj => by
    rw [add_plain', Nat.add_assoc]
    refine hrd (1 * 6 + j) v ?_
    rw [List.getElem?_append_right (by simp [Nv.cells])]
    simpa [Nv.cells] using hj⟩
  have el : Value.int .i64 (((strOfNums s).size : Nat) : Int) = .int .i64 ((s.length : Nat) : Int) := by rw [str_len]
  have hz := str_len s
  obtain ⟨Q, hQ⟩ : ∃ q, fitsT (.then_ a b) s = q := ⟨_, rfl⟩
  rw [hQ]
  show TCall Try.prog w0 B 28 #[.agg #[.int .i64 2, wv S4.zero.a, wv S4.zero.b, wv S4.zero.c, wv S4.zero.d, .slice (some ⟨ga, oa, none⟩) 2 c0], .string (strOfNums s)] _ H'
  refine TCall_intro (args := [_, _]) Try.func28 rfl Try.ntmps28 (Nat.le_of_ble_eq_true rfl) ?_
  refine T_seq ?_
  refine T_region ?_
  refine TL_cons rfl (TO_box rfl rfl fun g5001 => ?_)
  refine TL_p (PV_assign rfl) ?_
  refine TL_nil ?_
  refine T_seq ?_
  refine T_seq ?_
  refine T_region ?_
  refine TL_p (PV_fieldAddr (D := 0) Try.underlying30 rfl sz24 (by decide) rfl rfl) ?_
  refine TL_p (PV_load Try.underlying24 rfl rfl (Rd.at 0 rfl rfl)) ?_
  refine TL_nil ?_
  refine T_block ?_
  refine T_seq ?_
  refine T_region ?_
  refine TL_p (PV_bin rfl rfl bin_eql) ?_
  refine TL_p (PV_assign rfl) ?_
  refine TL_nil ?_
  refine T_else rfl (by rfl) ?_
  refine T_seq ?_
  refine T_region ?_
  refine TL_p (PV_bin rfl rfl bin_eql) ?_
  refine TL_p (PV_assign rfl) ?_
  refine TL_nil ?_
  refine T_else rfl (by rfl) ?_
  refine T_seq ?_
  refine T_region ?_
  refine TL_p (PV_bin rfl rfl bin_eql) ?_
  refine TL_p (PV_assign rfl) ?_
  refine TL_nil ?_
  refine T_else rfl (by rfl) ?_
  refine T_seq ?_
  refine T_region ?_
  refine TL_p (PV_bin rfl rfl bin_eql) ?_
  refine TL_p (PV_assign rfl) ?_
  refine TL_nil ?_
  refine T_then rfl (by rfl) ?_
  refine T_seq ?_
  refine T_seq ?_
  refine T_region ?_
  refine TL_p (PV_assign rfl) ?_
  refine TL_nil ?_
  refine T_block ?_
  refine ?L51
  case L51 =>
    refine T_loopP1 (fun (k : Nat) => k ≤ s.length + 1 ∧ ∀ j, j < k → fitsT a (s.take j) = true → fitsT b (s.drop j) = true → False) (fun k => s.length + 1 - k) (fun k => [(1, .string (strOfNums s)), (2, .pointer (some ⟨g5001, 0, none⟩)), (5, .int .i64 (k : Int))]) (fun k => .own g5001 6 [.int .i64 2, wv S4.zero.a, wv S4.zero.b, wv S4.zero.c, wv S4.zero.d, .slice (some ⟨ga, oa, none⟩) 2 c0] :: H') 0 ⟨Nat.zero_le _, fun j hj => absurd hj (by omega)⟩ (by repeat (first | exact FrSub.nil _ | refine FrSub.cons rfl ?_)) (Has.of_sub (by repeat (first | exact Sb.r | exact Sb.ar | exact Sb.al | apply Sb.c | apply Sb.d | refine Sb.t ?_))) ?_
    rintro k ⟨hk, hn⟩
    by_cases hkl : k < s.length + 1
    · have e48 : Value.int .i64 (IntKind.i64.wrap ((k : Int) + 1)) = .int .i64 ((k + 1 : Nat) : Int) := wr64n _ (by push_cast; rfl) (by omega)
      have e55 : Value.string ((strOfNums s).extract 0 k) = .string (strOfNums (s.take k)) := by rw [str_take']
      have e64 : Value.string ((strOfNums s).extract k (strOfNums s).size) = .string (strOfNums (s.drop k)) := by rw [str_drop']
      have l1 : (s.take k).length ≤ 1000 := by rw [List.length_take]; omega
      have l2 : (s.drop k).length ≤ 1000 := by rw [List.length_drop]; omega
      rcases Bool.eq_false_or_eq_true (fitsT a (s.take k)) with h1 | h1
      · rcases Bool.eq_false_or_eq_true (fitsT b (s.drop k)) with h3 | h3
        · have hQt : Q = true := by rw [← hQ]; exact fits_then.2 ⟨k, by omega, h1, h3⟩
          subst hQt
          refine T_seq ?_
          refine T_seq ?_
          refine T_region ?_
          refine TL_p (PV_move rfl) ?_
          refine TL_p (PV_move rfl) ?_
          refine TL_p (PV.cast (PV_len_string Try.underlying9 rfl) el) ?_
          refine TL_p (PV_bin rfl rfl bin_leq) ?_
          refine TL_nil ?_
          refine T_then rfl (by exact decide_eq_true (by omega)) ?_
          refine T_skip ?_
          refine T_seq ?_
          refine T_block ?_
          refine T_seq ?_
          refine T_drawn (WH _ _ _) mixed (fun w h => h) ?_
          refine TA_p 0 rfl (by kernel_rfl) (PV_fieldAddr (D := 5) Try.underlying30 rfl sz28 (by decide) rfl rfl) ?_
          refine TA_p 1 rfl (by kernel_rfl) (PV_load Try.underlying28 rfl rfl (Rd.at 0 rfl rfl)) ?_
          refine TA_p 2 rfl (by kernel_rfl) (PV_indexAddr (i := 0) Try.underlying28 sz30 rfl rfl rfl (by first | omega | decide | assumption)) ?_
          refine TA_p 3 rfl (by kernel_rfl) (PV_loadAt Try.underlying30 rfl sz30 rfl (RdsK.mono hk0 (fun w h => h.sub (by (repeat (first | exact Sb.r | exact Sb.ar | exact Sb.al | apply Sb.d | refine Sb.t ?_)); done)))) ?_
          refine TA_p 4 rfl (by kernel_rfl) (PV_move rfl) ?_
          refine TA_p 5 rfl (by kernel_rfl) (PV_move rfl) ?_
          refine TA_p 6 rfl (by kernel_rfl) (PV.cast (PV_sliceStr (l := 0) (h := k) Try.underlying9 rfl rfl ⟨_, rfl⟩ (by omega) (by omega)) e55) ?_
          refine TA_one 7 (by kernel_rfl) rfl rfl (TO_lf hEa (hsub.trans (by repeat (first | exact Sb.r | exact Sb.ar | exact Sb.al | apply Sb.d | refine Sb.t ?_))) (hu.take k) l1 h1 rfl rfl ?_)
          refine ⟨fun _ h => h, ?_⟩
          refine TA_p 8 rfl (by kernel_rfl) (PV_move rfl) ?_
          refine TA_yes (dd := (some 58)) 9 rfl (by kernel_rfl) (by kernel_rfl) (by kernel_rfl) rfl rfl rfl rfl rfl (PV_fieldAddr (D := 5) Try.underlying30 rfl sz28 (by decide) rfl rfl) ?_
          refine TA_yes (dd := (some 59)) 10 rfl (by kernel_rfl) (by kernel_rfl) (by kernel_rfl) rfl rfl rfl rfl rfl (PV_load Try.underlying28 rfl rfl (Rd.at 0 rfl rfl)) ?_
          refine TA_yes (dd := (some 60)) 11 rfl (by kernel_rfl) (by kernel_rfl) (by kernel_rfl) rfl rfl rfl rfl rfl (PV_indexAddr (i := 1) Try.underlying28 sz30 rfl rfl rfl (by first | omega | decide | assumption)) ?_
          refine TA_yes (dd := (some 61)) 12 rfl (by kernel_rfl) (by kernel_rfl) (by kernel_rfl) rfl rfl rfl rfl rfl (PV_loadAt Try.underlying30 rfl sz30 rfl (RdsK.mono hk1 (fun w h => h.sub (by (repeat (first | exact Sb.r | exact Sb.ar | exact Sb.al | apply Sb.d | refine Sb.t ?_)); done)))) ?_
          refine TA_yes (dd := (some 62)) 13 rfl (by kernel_rfl) (by kernel_rfl) (by kernel_rfl) rfl rfl rfl rfl rfl (PV_move rfl) ?_
          refine TA_yes (dd := (some 63)) 14 rfl (by kernel_rfl) (by kernel_rfl) (by kernel_rfl) rfl rfl rfl rfl rfl (PV_move rfl) ?_
          refine TA_yes (dd := (some 64)) 15 rfl (by kernel_rfl) (by kernel_rfl) (by kernel_rfl) rfl rfl rfl rfl rfl (PV.cast (PV_sliceStr (l := k) (h := (strOfNums s).size) Try.underlying9 rfl ⟨_, rfl⟩ rfl (by omega) (by omega)) e64) ?_
          refine TA_oneYes 16 (by kernel_rfl) rfl rfl rfl rfl (TO_lf hEb (hsub.trans (by repeat (first | exact Sb.r | exact Sb.ar | exact Sb.al | apply Sb.d | refine Sb.t ?_))) (hu.drop k) l2 h3 rfl rfl ?_)
          refine ⟨fun _ h => h, ?_⟩
          refine TA_p 17 rfl (by kernel_rfl) (PV_pickAnd rfl rfl rfl) ?_
          refine TA_done (by kernel_rfl) ?_
          refine T_then rfl (by rfl) ?_
          refine T_seq ?_
          refine T_region ?_
          refine TL_p (PV_assign rfl) ?_
          refine TL_nil ?_
          refine T_ret ?_
          refine ret_ret (ResV_one rfl rfl) ⟨_, ?zb6003q164, ⟨rfl, rfl⟩⟩
          case zb6003q164 => exact (by (repeat (first | exact Sb.r | exact Sb.ar | exact Sb.al | apply Sb.c | apply Sb.d | refine Sb.t ?_)); done)
        · refine T_seq ?_
          refine T_seq ?_
          refine T_region ?_
          refine TL_p (PV_move rfl) ?_
          refine TL_p (PV_move rfl) ?_
          refine TL_p (PV.cast (PV_len_string Try.underlying9 rfl) el) ?_
          refine TL_p (PV_bin rfl rfl bin_leq) ?_
          refine TL_nil ?_
          refine T_then rfl (by exact decide_eq_true (by omega)) ?_
          refine T_skip ?_
          refine T_seq ?_
          refine T_block ?_
          refine T_seq ?_
          refine T_drawn (WH _ _ _) mixed (fun w h => h) ?_
          refine TA_p 0 rfl (by kernel_rfl) (PV_fieldAddr (D := 5) Try.underlying30 rfl sz28 (by decide) rfl rfl) ?_
          refine TA_p 1 rfl (by kernel_rfl) (PV_load Try.underlying28 rfl rfl (Rd.at 0 rfl rfl)) ?_
          refine TA_p 2 rfl (by kernel_rfl) (PV_indexAddr (i := 0) Try.underlying28 sz30 rfl rfl rfl (by first | omega | decide | assumption)) ?_
          refine TA_p 3 rfl (by kernel_rfl) (PV_loadAt Try.underlying30 rfl sz30 rfl (RdsK.mono hk0 (fun w h => h.sub (by (repeat (first | exact Sb.r | exact Sb.ar | exact Sb.al | apply Sb.d | refine Sb.t ?_)); done)))) ?_
          refine TA_p 4 rfl (by kernel_rfl) (PV_move rfl) ?_
          refine TA_p 5 rfl (by kernel_rfl) (PV_move rfl) ?_
          refine TA_p 6 rfl (by kernel_rfl) (PV.cast (PV_sliceStr (l := 0) (h := k) Try.underlying9 rfl rfl ⟨_, rfl⟩ (by omega) (by omega)) e55) ?_
          refine TA_one 7 (by kernel_rfl) rfl rfl (TO_lf hEa (hsub.trans (by repeat (first | exact Sb.r | exact Sb.ar | exact Sb.al | apply Sb.d | refine Sb.t ?_))) (hu.take k) l1 h1 rfl rfl ?_)
          refine ⟨fun _ h => h, ?_⟩
          refine TA_p 8 rfl (by kernel_rfl) (PV_move rfl) ?_
          refine TA_yes (dd := (some 58)) 9 rfl (by kernel_rfl) (by kernel_rfl) (by kernel_rfl) rfl rfl rfl rfl rfl (PV_fieldAddr (D := 5) Try.underlying30 rfl sz28 (by decide) rfl rfl) ?_
          refine TA_yes (dd := (some 59)) 10 rfl (by kernel_rfl) (by kernel_rfl) (by kernel_rfl) rfl rfl rfl rfl rfl (PV_load Try.underlying28 rfl rfl (Rd.at 0 rfl rfl)) ?_
          refine TA_yes (dd := (some 60)) 11 rfl (by kernel_rfl) (by kernel_rfl) (by kernel_rfl) rfl rfl rfl rfl rfl (PV_indexAddr (i := 1) Try.underlying28 sz30 rfl rfl rfl (by first | omega | decide | assumption)) ?_
          refine TA_yes (dd := (some 61)) 12 rfl (by kernel_rfl) (by kernel_rfl) (by kernel_rfl) rfl rfl rfl rfl rfl (PV_loadAt Try.underlying30 rfl sz30 rfl (RdsK.mono hk1 (fun w h => h.sub (by (repeat (first | exact Sb.r | exact Sb.ar | exact Sb.al | apply Sb.d | refine Sb.t ?_)); done)))) ?_
          refine TA_yes (dd := (some 62)) 13 rfl (by kernel_rfl) (by kernel_rfl) (by kernel_rfl) rfl rfl rfl rfl rfl (PV_move rfl) ?_
          refine TA_yes (dd := (some 63)) 14 rfl (by kernel_rfl) (by kernel_rfl) (by kernel_rfl) rfl rfl rfl rfl rfl (PV_move rfl) ?_
          refine TA_yes (dd := (some 64)) 15 rfl (by kernel_rfl) (by kernel_rfl) (by kernel_rfl) rfl rfl rfl rfl rfl (PV.cast (PV_sliceStr (l := k) (h := (strOfNums s).size) Try.underlying9 rfl ⟨_, rfl⟩ rfl (by omega) (by omega)) e64) ?_
          refine TA_oneYes 16 (by kernel_rfl) rfl rfl rfl rfl (TO_lf hEb (hsub.trans (by repeat (first | exact Sb.r | exact Sb.ar | exact Sb.al | apply Sb.d | refine Sb.t ?_))) (hu.drop k) l2 h3 rfl rfl ?_)
          refine ⟨fun _ h => h, ?_⟩
          refine TA_p 17 rfl (by kernel_rfl) (PV_pickAnd rfl rfl rfl) ?_
          refine TA_done (by kernel_rfl) ?_
          refine T_else rfl (by rfl) ?_
          refine T_skip ?_
          refine T_region ?_
          refine TL_p (PV_move rfl) ?_
          refine TL_p (PV.cast (PV_bin rfl rfl bin_add) e48) ?_
          refine TL_p (PV_assign rfl) ?_
          refine TL_nil ?_
          refine ?L71
          case L71 =>
            refine ⟨k + 1, ⟨by omega, fun j hj q1 q2 => ?_⟩, by omega, (by repeat (first | exact FrSub.nil _ | refine FrSub.cons rfl ?_)), Has.of_sub (by repeat (first | exact Sb.r | exact Sb.ar | exact Sb.al | apply Sb.c | apply Sb.d | refine Sb.t ?_))⟩
            rcases Nat.lt_or_ge j k with h | h
            · exact hn j h q1 q2
            · obtain rfl : j = k := by omega
              rw [h3] at q2; cases q2
      · refine T_seq ?_
        refine T_seq ?_
        refine T_region ?_
        refine TL_p (PV_move rfl) ?_
        refine TL_p (PV_move rfl) ?_
        refine TL_p (PV.cast (PV_len_string Try.underlying9 rfl) el) ?_
        refine TL_p (PV_bin rfl rfl bin_leq) ?_
        refine TL_nil ?_
        refine T_then rfl (by exact decide_eq_true (by omega)) ?_
        refine T_skip ?_
        refine T_seq ?_
        refine T_block ?_
        refine T_seq ?_
        refine T_drawn (WH _ _ _) mixed (fun w h => h) ?_
        refine TA_p 0 rfl (by kernel_rfl) (PV_fieldAddr (D := 5) Try.underlying30 rfl sz28 (by decide) rfl rfl) ?_
        refine TA_p 1 rfl (by kernel_rfl) (PV_load Try.underlying28 rfl rfl (Rd.at 0 rfl rfl)) ?_
        refine TA_p 2 rfl (by kernel_rfl) (PV_indexAddr (i := 0) Try.underlying28 sz30 rfl rfl rfl (by first | omega | decide | assumption)) ?_
        refine TA_p 3 rfl (by kernel_rfl) (PV_loadAt Try.underlying30 rfl sz30 rfl (RdsK.mono hk0 (fun w h => h.sub (by (repeat (first | exact Sb.r | exact Sb.ar | exact Sb.al | apply Sb.d | refine Sb.t ?_)); done)))) ?_
        refine TA_p 4 rfl (by kernel_rfl) (PV_move rfl) ?_
        refine TA_p 5 rfl (by kernel_rfl) (PV_move rfl) ?_
        refine TA_p 6 rfl (by kernel_rfl) (PV.cast (PV_sliceStr (l := 0) (h := k) Try.underlying9 rfl rfl ⟨_, rfl⟩ (by omega) (by omega)) e55) ?_
        refine TA_one 7 (by kernel_rfl) rfl rfl (TO_lf hEa (hsub.trans (by repeat (first | exact Sb.r | exact Sb.ar | exact Sb.al | apply Sb.d | refine Sb.t ?_))) (hu.take k) l1 h1 rfl rfl ?_)
        refine ⟨fun _ h => h, ?_⟩
        refine TA_p 8 rfl (by kernel_rfl) (PV_move rfl) ?_
        refine TA_no (dd := (some 58)) (b := false) 9 rfl (by kernel_rfl) (by kernel_rfl) (by kernel_rfl) rfl rfl rfl rfl rfl ?_
        refine TA_no (dd := (some 59)) (b := false) 10 rfl (by kernel_rfl) (by kernel_rfl) (by kernel_rfl) rfl rfl rfl rfl rfl ?_
        refine TA_no (dd := (some 60)) (b := false) 11 rfl (by kernel_rfl) (by kernel_rfl) (by kernel_rfl) rfl rfl rfl rfl rfl ?_
        refine TA_no (dd := (some 61)) (b := false) 12 rfl (by kernel_rfl) (by kernel_rfl) (by kernel_rfl) rfl rfl rfl rfl rfl ?_
        refine TA_no (dd := (some 62)) (b := false) 13 rfl (by kernel_rfl) (by kernel_rfl) (by kernel_rfl) rfl rfl rfl rfl rfl ?_
        refine TA_no (dd := (some 63)) (b := false) 14 rfl (by kernel_rfl) (by kernel_rfl) (by kernel_rfl) rfl rfl rfl rfl rfl ?_
        refine TA_no (dd := (some 64)) (b := false) 15 rfl (by kernel_rfl) (by kernel_rfl) (by kernel_rfl) rfl rfl rfl rfl rfl ?_
        refine TA_no (dd := (some 65)) (b := false) 16 rfl (by kernel_rfl) (by kernel_rfl) (by kernel_rfl) rfl rfl rfl rfl rfl ?_
        refine TA_p 17 rfl (by kernel_rfl) (PV_pickF rfl (by first | assumption | rfl | (simp; done) | (simp; omega) | (simp [*]; done) | (simp [*]; omega)) rfl rfl) ?_
        refine TA_done (by kernel_rfl) ?_
        refine T_else rfl (by rfl) ?_
        refine T_skip ?_
        refine T_region ?_
        refine TL_p (PV_move rfl) ?_
        refine TL_p (PV.cast (PV_bin rfl rfl bin_add) e48) ?_
        refine TL_p (PV_assign rfl) ?_
        refine TL_nil ?_
        refine ?L81
        case L81 =>
          refine ⟨k + 1, ⟨by omega, fun j hj q1 q2 => ?_⟩, by omega, (by repeat (first | exact FrSub.nil _ | refine FrSub.cons rfl ?_)), Has.of_sub (by repeat (first | exact Sb.r | exact Sb.ar | exact Sb.al | apply Sb.c | apply Sb.d | refine Sb.t ?_))⟩
          rcases Nat.lt_or_ge j k with h | h
          · exact hn j h q1 q2
          · obtain rfl : j = k := by omega
            rw [h1] at q1; cases q1
    · obtain rfl : k = s.length + 1 := by omega
      have hQf : Q = false := by
        cases hq : Q with
        | false => rfl
        | true =>
          rw [hq] at hQ
          obtain ⟨j, h3, h4, h5⟩ := fits_then.1 hQ
          exact (hn j (by omega) h4 h5).elim
      subst hQf
      refine T_seq ?_
      refine T_seq ?_
      refine T_region ?_
      refine TL_p (PV_move rfl) ?_
      refine TL_p (PV_move rfl) ?_
      refine TL_p (PV.cast (PV_len_string Try.underlying9 rfl) el) ?_
      refine TL_p (PV_bin rfl rfl bin_leq) ?_
      refine TL_nil ?_
      refine T_else rfl (by exact decide_eq_false (by omega)) ?_
      refine T_exit ?_
      refine T_seq ?_
      refine T_region ?_
      refine TL_p (PV_assign rfl) ?_
      refine TL_nil ?_
      refine T_ret ?_
      refine ret_ret (ResV_one rfl rfl) ⟨_, ?zb9001q203, ⟨rfl, rfl⟩⟩
      case zb9001q203 => exact (by (repeat (first | exact Sb.r | exact Sb.ar | exact Sb.al | apply Sb.c | apply Sb.d | refine Sb.t ?_)); done)
theorem lf_star (h2 : 1 ≤ c0) (hK : Shows (WH w0 B H) A0 1 6 x.cells) (hEa : FitsC w0 B a x H) : ∀ (N : Nat) (s : List Int) (H' : List Chunk), s.length ≤ N → H.Sublist H' → U8s s → s.length ≤ 1000 →
    TCall Try.prog w0 B 28 #[(⟨4, S4.zero, A0, 1, c0⟩ : Nv).val, .string (strOfNums s)] (fun r H2 => r = .bool (fitsT (.star a) s) ∧ H2 = H') H' := by
  intro N
  induction N with
  | zero =>
    intro s H' hN hsub hu hs
    obtain rfl := List.eq_nil_of_length_eq_zero (Nat.le_zero.1 hN)
    have e68 : Value.bool (decide (([] : List Int).length = 0)) = .bool true := rfl
    show TCall Try.prog w0 B 28 #[.agg #[.int .i64 4, wv S4.zero.a, wv S4.zero.b, wv S4.zero.c, wv S4.zero.d, .slice A0 1 c0], .string (strOfNums [])] _ H'
    refine TCall_intro (args := [_, _]) Try.func28 rfl Try.ntmps28 (Nat.le_of_ble_eq_true rfl) ?_
    refine T_seq ?_
    refine T_region ?_
    refine TL_cons rfl (TO_box rfl rfl fun g10001 => ?_)
    refine TL_p (PV_assign rfl) ?_
    refine TL_nil ?_
    refine T_seq ?_
    refine T_seq ?_
    refine T_region ?_
    refine TL_p (PV_fieldAddr (D := 0) Try.underlying30 rfl sz24 (by decide) rfl rfl) ?_
    refine TL_p (PV_load Try.underlying24 rfl rfl (Rd.at 0 rfl rfl)) ?_
    refine TL_nil ?_
    refine T_block ?_
    refine T_seq ?_
    refine T_region ?_
    refine TL_p (PV_bin rfl rfl bin_eql) ?_
    refine TL_p (PV_assign rfl) ?_
    refine TL_nil ?_
    refine T_else rfl (by rfl) ?_
    refine T_seq ?_
    refine T_region ?_
    refine TL_p (PV_bin rfl rfl bin_eql) ?_
    refine TL_p (PV_assign rfl) ?_
    refine TL_nil ?_
    refine T_else rfl (by rfl) ?_
    refine T_seq ?_
    refine T_region ?_
    refine TL_p (PV_bin rfl rfl bin_eql) ?_
    refine TL_p (PV_assign rfl) ?_
    refine TL_nil ?_
    refine T_else rfl (by rfl) ?_
    refine T_seq ?_
    refine T_region ?_
    refine TL_p (PV_bin rfl rfl bin_eql) ?_
    refine TL_p (PV_assign rfl) ?_
    refine TL_nil ?_
    refine T_else rfl (by rfl) ?_
    refine T_skip ?_
    refine T_seq ?_
    refine T_seq ?_
    refine T_region ?_
    refine TL_p (PV_move rfl) ?_
    refine TL_p (PV.cast (PV_bin rfl rfl (bin_nil_str [])) e68) ?_
    refine TL_nil ?_
    refine T_then rfl (by rfl) ?_
    refine T_seq ?_
    refine T_region ?_
    refine TL_p (PV_assign rfl) ?_
    refine TL_nil ?_
    refine T_ret ?_
    refine ret_ret (ResV_one rfl rfl) ⟨_, ?zb10002q214, ⟨rfl, rfl⟩⟩
    case zb10002q214 => exact (by (repeat (first | exact Sb.r | exact Sb.ar | exact Sb.al | apply Sb.c | apply Sb.d | refine Sb.t ?_)); done)
  | succ N ih =>
    intro s H' hN hsub hu hs
    by_cases h0 : s.length = 0
    · obtain rfl := List.eq_nil_of_length_eq_zero h0
      have e68 : Value.bool (decide (([] : List Int).length = 0)) = .bool true := rfl
      show TCall Try.prog w0 B 28 #[.agg #[.int .i64 4, wv S4.zero.a, wv S4.zero.b, wv S4.zero.c, wv S4.zero.d, .slice A0 1 c0], .string (strOfNums [])] _ H'
      refine TCall_intro (args := [_, _]) Try.func28 rfl Try.ntmps28 (Nat.le_of_ble_eq_true rfl) ?_
      refine T_seq ?_
      refine T_region ?_
      refine TL_cons rfl (TO_box rfl rfl fun g11001 => ?_)
      refine TL_p (PV_assign rfl) ?_
      refine TL_nil ?_
      refine T_seq ?_
      refine T_seq ?_
      refine T_region ?_
      refine TL_p (PV_fieldAddr (D := 0) Try.underlying30 rfl sz24 (by decide) rfl rfl) ?_
      refine TL_p (PV_load Try.underlying24 rfl rfl (Rd.at 0 rfl rfl)) ?_
      refine TL_nil ?_
      refine T_block ?_
      refine T_seq ?_
      refine T_region ?_
      refine TL_p (PV_bin rfl rfl bin_eql) ?_
      refine TL_p (PV_assign rfl) ?_
      refine TL_nil ?_
      refine T_else rfl (by rfl) ?_
      refine T_seq ?_
      refine T_region ?_
      refine TL_p (PV_bin rfl rfl bin_eql) ?_
      refine TL_p (PV_assign rfl) ?_
      refine TL_nil ?_
      refine T_else rfl (by rfl) ?_
      refine T_seq ?_
      refine T_region ?_
      refine TL_p (PV_bin rfl rfl bin_eql) ?_
      refine TL_p (PV_assign rfl) ?_
      refine TL_nil ?_
      refine T_else rfl (by rfl) ?_
      refine T_seq ?_
      refine T_region ?_
      refine TL_p (PV_bin rfl rfl bin_eql) ?_
      refine TL_p (PV_assign rfl) ?_
      refine TL_nil ?_
      refine T_else rfl (by rfl) ?_
      refine T_skip ?_
      refine T_seq ?_
      refine T_seq ?_
      refine T_region ?_
      refine TL_p (PV_move rfl) ?_
      refine TL_p (PV.cast (PV_bin rfl rfl (bin_nil_str [])) e68) ?_
      refine TL_nil ?_
      refine T_then rfl (by rfl) ?_
      refine T_seq ?_
      refine T_region ?_
      refine TL_p (PV_assign rfl) ?_
      refine TL_nil ?_
      refine T_ret ?_
      refine ret_ret (ResV_one rfl rfl) ⟨_, ?zb11002q222, ⟨rfl, rfl⟩⟩
      case zb11002q222 => exact (by (repeat (first | exact Sb.r | exact Sb.ar | exact Sb.al | apply Sb.c | apply Sb.d | refine Sb.t ?_)); done)
    · have hne : s ≠ [] := fun e => h0 (by rw [e]; rfl)
      refine TCall_showsN (hK.mono fun w h => h.sub hsub) (by simp [Nv.cells]) fun ga oa hA hrd => ?_
      subst hA
      have hk0 : RdsK (WH w0 B H') ga (oa + 0 * 6) 6 x.cells := ⟨rfl, fun j v hj => by
        rw [add_plain']
        refine hrd (0 * 6 + j) v ?_ |> fun h => by simpa [Nat.add_assoc] using h
        rw [Nat.zero_mul, Nat.zero_add]
        exact hj⟩
      have el : Value.int .i64 (((strOfNums s).size : Nat) : Int) = .int .i64 ((s.length : Nat) : Int) := by rw [str_len]
      have hz := str_len s
      have e68 : Value.bool (decide (s.length = 0)) = .bool false := by rw [decide_eq_false h0]
      obtain ⟨Q, hQ⟩ : ∃ q, fitsT (.star a) s = q := ⟨_, rfl⟩
      rw [hQ]
      show TCall Try.prog w0 B 28 #[.agg #[.int .i64 4, wv S4.zero.a, wv S4.zero.b, wv S4.zero.c, wv S4.zero.d, .slice (some ⟨ga, oa, none⟩) 1 c0], .string (strOfNums s)] _ H'
      refine TCall_intro (args := [_, _]) Try.func28 rfl Try.ntmps28 (Nat.le_of_ble_eq_true rfl) ?_
      refine T_seq ?_
      refine T_region ?_
      refine TL_cons rfl (TO_box rfl rfl fun g12001 => ?_)
      refine TL_p (PV_assign rfl) ?_
      refine TL_nil ?_
      refine T_seq ?_
      refine T_seq ?_
      refine T_region ?_
      refine TL_p (PV_fieldAddr (D := 0) Try.underlying30 rfl sz24 (by decide) rfl rfl) ?_
      refine TL_p (PV_load Try.underlying24 rfl rfl (Rd.at 0 rfl rfl)) ?_
      refine TL_nil ?_
      refine T_block ?_
      refine T_seq ?_
      refine T_region ?_
      refine TL_p (PV_bin rfl rfl bin_eql) ?_
      refine TL_p (PV_assign rfl) ?_
      refine TL_nil ?_
      refine T_else rfl (by rfl) ?_
      refine T_seq ?_
      refine T_region ?_
      refine TL_p (PV_bin rfl rfl bin_eql) ?_
      refine TL_p (PV_assign rfl) ?_
      refine TL_nil ?_
      refine T_else rfl (by rfl) ?_
      refine T_seq ?_
      refine T_region ?_
      refine TL_p (PV_bin rfl rfl bin_eql) ?_
      refine TL_p (PV_assign rfl) ?_
      refine TL_nil ?_
      refine T_else rfl (by rfl) ?_
      refine T_seq ?_
      refine T_region ?_
      refine TL_p (PV_bin rfl rfl bin_eql) ?_
      refine TL_p (PV_assign rfl) ?_
      refine TL_nil ?_
      refine T_else rfl (by rfl) ?_
      refine T_skip ?_
      refine T_seq ?_
      refine T_seq ?_
      refine T_region ?_
      refine TL_p (PV_move rfl) ?_
      refine TL_p (PV.cast (PV_bin rfl rfl (bin_nil_str s)) e68) ?_
      refine TL_nil ?_
      refine T_else rfl (by rfl) ?_
      refine T_skip ?_
      refine T_seq ?_
      refine T_seq ?_
      refine T_region ?_
      refine TL_p (PV_assign rfl) ?_
      refine TL_nil ?_
      refine T_block ?_
      refine ?L121
      case L121 =>
        refine T_loopP1 (fun (k : Nat) => 0 < k ∧ k ≤ s.length + 1 ∧ ∀ j, 0 < j → j < k → fitsT a (s.take j) = true → fitsT (.star a) (s.drop j) = true → False) (fun k => s.length + 1 - k) (fun k => [(1, .string (strOfNums s)), (2, .pointer (some ⟨g12001, 0, none⟩)), (6, .int .i64 (k : Int))]) (fun k => .own g12001 6 [.int .i64 4, wv S4.zero.a, wv S4.zero.b, wv S4.zero.c, wv S4.zero.d, .slice (some ⟨ga, oa, none⟩) 1 c0] :: H') 1 ⟨by omega, by omega, fun j h3 h4 => by omega⟩ (by repeat (first | exact FrSub.nil _ | refine FrSub.cons rfl ?_)) (Has.of_sub (by repeat (first | exact Sb.r | exact Sb.ar | exact Sb.al | apply Sb.c | apply Sb.d | refine Sb.t ?_))) ?_
        rintro k ⟨hk0', hk, hn⟩
        by_cases hkl : k < s.length + 1
        · have e74 : Value.int .i64 (IntKind.i64.wrap ((k : Int) + 1)) = .int .i64 ((k + 1 : Nat) : Int) := wr64n _ (by push_cast; rfl) (by omega)
          have e81 : Value.string ((strOfNums s).extract 0 k) = .string (strOfNums (s.take k)) := by rw [str_take']
          have e87 : Value.string ((strOfNums s).extract k (strOfNums s).size) = .string (strOfNums (s.drop k)) := by rw [str_drop']
          have l1 : (s.take k).length ≤ 1000 := by rw [List.length_take]; omega
          have l2 : (s.drop k).length ≤ 1000 := by rw [List.length_drop]; omega
          have hrec : ∀ {X : List Chunk} {q : Bool}, H.Sublist X → fitsT (.star a) (s.drop k) = q → TCall Try.prog w0 B 28 [(⟨4, S4.zero, some ⟨ga, oa, none⟩, 1, c0⟩ : Nv).val, .string (strOfNums (s.drop k))].toArray (fun r H2 => r = .bool q ∧ H2 = X) X := fun {X q} hX hq => hq ▸ ih (s.drop k) X (by rw [List.length_drop]; omega) hX (hu.drop k) l2
          rcases Bool.eq_false_or_eq_true (fitsT a (s.take k)) with h1 | h1
          · rcases Bool.eq_false_or_eq_true (fitsT (.star a) (s.drop k)) with h3 | h3
            · have hQt : Q = true := by rw [← hQ]; exact (fits_star hne).2 ⟨k, hk0', by omega, h1, h3⟩
              subst hQt
              refine T_seq ?_
              refine T_seq ?_
              refine T_region ?_
              refine TL_p (PV_move rfl) ?_
              refine TL_p (PV_move rfl) ?_
              refine TL_p (PV.cast (PV_len_string Try.underlying9 rfl) el) ?_
              refine TL_p (PV_bin rfl rfl bin_leq) ?_
              refine TL_nil ?_
              refine T_then rfl (by exact decide_eq_true (by omega)) ?_
              refine T_skip ?_
              refine T_seq ?_
              refine T_block ?_
              refine T_seq ?_
              refine T_drawn (WH _ _ _) mixed (fun w h => h) ?_
              refine TA_p 0 rfl (by kernel_rfl) (PV_fieldAddr (D := 5) Try.underlying30 rfl sz28 (by decide) rfl rfl) ?_
              refine TA_p 1 rfl (by kernel_rfl) (PV_load Try.underlying28 rfl rfl (Rd.at 0 rfl rfl)) ?_
              refine TA_p 2 rfl (by kernel_rfl) (PV_indexAddr (i := 0) Try.underlying28 sz30 rfl rfl rfl (by first | omega | decide | assumption)) ?_
              refine TA_p 3 rfl (by kernel_rfl) (PV_loadAt Try.underlying30 rfl sz30 rfl (RdsK.mono hk0 (fun w h => h.sub (by (repeat (first | exact Sb.r | exact Sb.ar | exact Sb.al | apply Sb.d | refine Sb.t ?_)); done)))) ?_
              refine TA_p 4 rfl (by kernel_rfl) (PV_move rfl) ?_
              refine TA_p 5 rfl (by kernel_rfl) (PV_move rfl) ?_
              refine TA_p 6 rfl (by kernel_rfl) (PV.cast (PV_sliceStr (l := 0) (h := k) Try.underlying9 rfl rfl ⟨_, rfl⟩ (by omega) (by omega)) e81) ?_
              refine TA_one 7 (by kernel_rfl) rfl rfl (TO_lf hEa (hsub.trans (by repeat (first | exact Sb.r | exact Sb.ar | exact Sb.al | apply Sb.d | refine Sb.t ?_))) (hu.take k) l1 h1 rfl rfl ?_)
              refine ⟨fun _ h => h, ?_⟩
              refine TA_p 8 rfl (by kernel_rfl) (PV_move rfl) ?_
              refine TA_yes (dd := (some 84)) 9 rfl (by kernel_rfl) (by kernel_rfl) (by kernel_rfl) rfl rfl rfl rfl rfl (PV_loadAt Try.underlying30 rfl sz30 rfl (Rds.take 0 rfl rfl rfl)) ?_
              refine TA_yes (dd := (some 85)) 10 rfl (by kernel_rfl) (by kernel_rfl) (by kernel_rfl) rfl rfl rfl rfl rfl (PV_move rfl) ?_
              refine TA_yes (dd := (some 86)) 11 rfl (by kernel_rfl) (by kernel_rfl) (by kernel_rfl) rfl rfl rfl rfl rfl (PV_move rfl) ?_
              refine TA_yes (dd := (some 87)) 12 rfl (by kernel_rfl) (by kernel_rfl) (by kernel_rfl) rfl rfl rfl rfl rfl (PV.cast (PV_sliceStr (l := k) (h := (strOfNums s).size) Try.underlying9 rfl ⟨_, rfl⟩ rfl (by omega) (by omega)) e87) ?_
              refine TA_oneYes 13 (by kernel_rfl) rfl rfl rfl rfl (TO_eqD call28 (hrec (hsub.trans (by repeat (first | exact Sb.r | exact Sb.ar | exact Sb.al | apply Sb.d | refine Sb.t ?_))) h3) rfl rfl _ (List.Sublist.refl _) ?_)
              refine ⟨fun _ h => h, ?_⟩
              refine TA_p 14 rfl (by kernel_rfl) (PV_pickAnd rfl rfl rfl) ?_
              refine TA_done (by kernel_rfl) ?_
              refine T_then rfl (by rfl) ?_
              refine T_seq ?_
              refine T_region ?_
              refine TL_p (PV_assign rfl) ?_
              refine TL_nil ?_
              refine T_ret ?_
              refine ret_ret (ResV_one rfl rfl) ⟨_, ?zb13003q254, ⟨rfl, rfl⟩⟩
              case zb13003q254 => exact (by (repeat (first | exact Sb.r | exact Sb.ar | exact Sb.al | apply Sb.c | apply Sb.d | refine Sb.t ?_)); done)
            · refine T_seq ?_
              refine T_seq ?_
              refine T_region ?_
              refine TL_p (PV_move rfl) ?_
              refine TL_p (PV_move rfl) ?_
              refine TL_p (PV.cast (PV_len_string Try.underlying9 rfl) el) ?_
              refine TL_p (PV_bin rfl rfl bin_leq) ?_
              refine TL_nil ?_
              refine T_then rfl (by exact decide_eq_true (by omega)) ?_
              refine T_skip ?_
              refine T_seq ?_
              refine T_block ?_
              refine T_seq ?_
              refine T_drawn (WH _ _ _) mixed (fun w h => h) ?_
              refine TA_p 0 rfl (by kernel_rfl) (PV_fieldAddr (D := 5) Try.underlying30 rfl sz28 (by decide) rfl rfl) ?_
              refine TA_p 1 rfl (by kernel_rfl) (PV_load Try.underlying28 rfl rfl (Rd.at 0 rfl rfl)) ?_
              refine TA_p 2 rfl (by kernel_rfl) (PV_indexAddr (i := 0) Try.underlying28 sz30 rfl rfl rfl (by first | omega | decide | assumption)) ?_
              refine TA_p 3 rfl (by kernel_rfl) (PV_loadAt Try.underlying30 rfl sz30 rfl (RdsK.mono hk0 (fun w h => h.sub (by (repeat (first | exact Sb.r | exact Sb.ar | exact Sb.al | apply Sb.d | refine Sb.t ?_)); done)))) ?_
              refine TA_p 4 rfl (by kernel_rfl) (PV_move rfl) ?_
              refine TA_p 5 rfl (by kernel_rfl) (PV_move rfl) ?_
              refine TA_p 6 rfl (by kernel_rfl) (PV.cast (PV_sliceStr (l := 0) (h := k) Try.underlying9 rfl rfl ⟨_, rfl⟩ (by omega) (by omega)) e81) ?_
              refine TA_one 7 (by kernel_rfl) rfl rfl (TO_lf hEa (hsub.trans (by repeat (first | exact Sb.r | exact Sb.ar | exact Sb.al | apply Sb.d | refine Sb.t ?_))) (hu.take k) l1 h1 rfl rfl ?_)
              refine ⟨fun _ h => h, ?_⟩
              refine TA_p 8 rfl (by kernel_rfl) (PV_move rfl) ?_
              refine TA_yes (dd := (some 84)) 9 rfl (by kernel_rfl) (by kernel_rfl) (by kernel_rfl) rfl rfl rfl rfl rfl (PV_loadAt Try.underlying30 rfl sz30 rfl (Rds.take 0 rfl rfl rfl)) ?_
              refine TA_yes (dd := (some 85)) 10 rfl (by kernel_rfl) (by kernel_rfl) (by kernel_rfl) rfl rfl rfl rfl rfl (PV_move rfl) ?_
              refine TA_yes (dd := (some 86)) 11 rfl (by kernel_rfl) (by kernel_rfl) (by kernel_rfl) rfl rfl rfl rfl rfl (PV_move rfl) ?_
              refine TA_yes (dd := (some 87)) 12 rfl (by kernel_rfl) (by kernel_rfl) (by kernel_rfl) rfl rfl rfl rfl rfl (PV.cast (PV_sliceStr (l := k) (h := (strOfNums s).size) Try.underlying9 rfl ⟨_, rfl⟩ rfl (by omega) (by omega)) e87) ?_
              refine TA_oneYes 13 (by kernel_rfl) rfl rfl rfl rfl (TO_eqD call28 (hrec (hsub.trans (by repeat (first | exact Sb.r | exact Sb.ar | exact Sb.al | apply Sb.d | refine Sb.t ?_))) h3) rfl rfl _ (List.Sublist.refl _) ?_)
              refine ⟨fun _ h => h, ?_⟩
              refine TA_p 14 rfl (by kernel_rfl) (PV_pickAnd rfl rfl rfl) ?_
              refine TA_done (by kernel_rfl) ?_
              refine T_else rfl (by rfl) ?_
              refine T_skip ?_
              refine T_region ?_
              refine TL_p (PV_move rfl) ?_
              refine TL_p (PV.cast (PV_bin rfl rfl bin_add) e74) ?_
              refine TL_p (PV_assign rfl) ?_
              refine TL_nil ?_
              refine ?L141
              case L141 =>
                refine ⟨k + 1, ⟨by omega, by omega, fun j hj0 hj q1 q2 => ?_⟩, by omega, (by repeat (first | exact FrSub.nil _ | refine FrSub.cons rfl ?_)), Has.of_sub (by repeat (first | exact Sb.r | exact Sb.ar | exact Sb.al | apply Sb.c | apply Sb.d | refine Sb.t ?_))⟩
                rcases Nat.lt_or_ge j k with h | h
                · exact hn j hj0 h q1 q2
                · obtain rfl : j = k := by omega
                  rw [h3] at q2; cases q2
          · refine T_seq ?_
            refine T_seq ?_
            refine T_region ?_
            refine TL_p (PV_move rfl) ?_
            refine TL_p (PV_move rfl) ?_
            refine TL_p (PV.cast (PV_len_string Try.underlying9 rfl) el) ?_
            refine TL_p (PV_bin rfl rfl bin_leq) ?_
            refine TL_nil ?_
            refine T_then rfl (by exact decide_eq_true (by omega)) ?_
            refine T_skip ?_
            refine T_seq ?_
            refine T_block ?_
            refine T_seq ?_
            refine T_drawn (WH _ _ _) mixed (fun w h => h) ?_
            refine TA_p 0 rfl (by kernel_rfl) (PV_fieldAddr (D := 5) Try.underlying30 rfl sz28 (by decide) rfl rfl) ?_
            refine TA_p 1 rfl (by kernel_rfl) (PV_load Try.underlying28 rfl rfl (Rd.at 0 rfl rfl)) ?_
            refine TA_p 2 rfl (by kernel_rfl) (PV_indexAddr (i := 0) Try.underlying28 sz30 rfl rfl rfl (by first | omega | decide | assumption)) ?_
            refine TA_p 3 rfl (by kernel_rfl) (PV_loadAt Try.underlying30 rfl sz30 rfl (RdsK.mono hk0 (fun w h => h.sub (by (repeat (first | exact Sb.r | exact Sb.ar | exact Sb.al | apply Sb.d | refine Sb.t ?_)); done)))) ?_
            refine TA_p 4 rfl (by kernel_rfl) (PV_move rfl) ?_
            refine TA_p 5 rfl (by kernel_rfl) (PV_move rfl) ?_
            refine TA_p 6 rfl (by kernel_rfl) (PV.cast (PV_sliceStr (l := 0) (h := k) Try.underlying9 rfl rfl ⟨_, rfl⟩ (by omega) (by omega)) e81) ?_
            refine TA_one 7 (by kernel_rfl) rfl rfl (TO_lf hEa (hsub.trans (by repeat (first | exact Sb.r | exact Sb.ar | exact Sb.al | apply Sb.d | refine Sb.t ?_))) (hu.take k) l1 h1 rfl rfl ?_)
            refine ⟨fun _ h => h, ?_⟩
            refine TA_p 8 rfl (by kernel_rfl) (PV_move rfl) ?_
            refine TA_no (dd := (some 84)) (b := false) 9 rfl (by kernel_rfl) (by kernel_rfl) (by kernel_rfl) rfl rfl rfl rfl rfl ?_
            refine TA_no (dd := (some 85)) (b := false) 10 rfl (by kernel_rfl) (by kernel_rfl) (by kernel_rfl) rfl rfl rfl rfl rfl ?_
            refine TA_no (dd := (some 86)) (b := false) 11 rfl (by kernel_rfl) (by kernel_rfl) (by kernel_rfl) rfl rfl rfl rfl rfl ?_
            refine TA_no (dd := (some 87)) (b := false) 12 rfl (by kernel_rfl) (by kernel_rfl) (by kernel_rfl) rfl rfl rfl rfl rfl ?_
            refine TA_no (dd := (some 88)) (b := false) 13 rfl (by kernel_rfl) (by kernel_rfl) (by kernel_rfl) rfl rfl rfl rfl rfl ?_
            refine TA_p 14 rfl (by kernel_rfl) (PV_pickF rfl (by first | assumption | rfl | (simp; done) | (simp; omega) | (simp [*]; done) | (simp [*]; omega)) rfl rfl) ?_
            refine TA_done (by kernel_rfl) ?_
            refine T_else rfl (by rfl) ?_
            refine T_skip ?_
            refine T_region ?_
            refine TL_p (PV_move rfl) ?_
            refine TL_p (PV.cast (PV_bin rfl rfl bin_add) e74) ?_
            refine TL_p (PV_assign rfl) ?_
            refine TL_nil ?_
            refine ?L151
            case L151 =>
              refine ⟨k + 1, ⟨by omega, by omega, fun j hj0 hj q1 q2 => ?_⟩, by omega, (by repeat (first | exact FrSub.nil _ | refine FrSub.cons rfl ?_)), Has.of_sub (by repeat (first | exact Sb.r | exact Sb.ar | exact Sb.al | apply Sb.c | apply Sb.d | refine Sb.t ?_))⟩
              rcases Nat.lt_or_ge j k with h | h
              · exact hn j hj0 h q1 q2
              · obtain rfl : j = k := by omega
                rw [h1] at q1; cases q1
        · obtain rfl : k = s.length + 1 := by omega
          have hQf : Q = false := by
            cases hq : Q with
            | false => rfl
            | true =>
              rw [hq] at hQ
              obtain ⟨j, h3, h6, h4, h5⟩ := (fits_star hne).1 hQ
              exact (hn j h3 (by omega) h4 h5).elim
          subst hQf
          refine T_seq ?_
          refine T_seq ?_
          refine T_region ?_
          refine TL_p (PV_move rfl) ?_
          refine TL_p (PV_move rfl) ?_
          refine TL_p (PV.cast (PV_len_string Try.underlying9 rfl) el) ?_
          refine TL_p (PV_bin rfl rfl bin_leq) ?_
          refine TL_nil ?_
          refine T_else rfl (by exact decide_eq_false (by omega)) ?_
          refine T_exit ?_
          refine T_seq ?_
          refine T_region ?_
          refine TL_p (PV_assign rfl) ?_
          refine TL_nil ?_
          refine T_ret ?_
          refine ret_ret (ResV_one rfl rfl) ⟨_, ?zb16001q293, ⟨rfl, rfl⟩⟩
          case zb16001q293 => exact (by (repeat (first | exact Sb.r | exact Sb.ar | exact Sb.al | apply Sb.c | apply Sb.d | refine Sb.t ?_)); done)
end
theorem lf_t : ∀ {t : Rx} {v : Nv}, Tr (WH w0 B H) t v → FitsC w0 B t v H
  | .nothing, v, hv => lf_nothing hv
  | .one st, v, hv => lf_one hv
  | .then_ a b, v, ⟨A, c, x, y, h1, h2, h3, h4, h5⟩ => by
    subst h1
    exact lf_then h2 h3 (lf_t h4) (lf_t h5)
  | .either a b, v, ⟨A, c, x, y, h1, h2, h3, h4, h5⟩ => by
    subst h1
    exact lf_either h2 h3 (lf_t h4) (lf_t h5)
  | .star a, v, ⟨A, c, x, h1, h2, h3, h4⟩ => by
    subst h1
    exact fun s H' hsub hu hs => lf_star h2 h3 (lf_t h4) s.length s H' (Nat.le_refl _) hsub hu hs
end
end Go.Proofs.Ytkgdphbccagjcaa.SL
