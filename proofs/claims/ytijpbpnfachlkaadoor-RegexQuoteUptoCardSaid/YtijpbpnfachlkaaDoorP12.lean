import Derived.Test.YtijpbpnfachlkaaDoorP11
/- Patterns by numbers. No statement is proved here. -/
set_option linter.unusedVariables false
set_option linter.unusedSimpArgs false
set_option maxRecDepth 100000
set_option maxHeartbeats 8000000
namespace Go.Proofs.YtijpbpnfachlkaaDoor.SL
open Go Go.RowKit
section
variable {w0 : World} {B : Nat} {H X : List Chunk}
theorem ResV_tct {P : Program} {n : Nat} {W : World → Prop} {fr : Fr} {fn : Func} {s t u : Tmp} {e : TypeId} {D : TypeDesc} {g off k : Nat} {vs : List Value} {x y : Value} (h : fn.results = #[.tmp s, .cell t e, .tmp u]) (hs' : fr.lookup s = some y) (hD' : P.underlying e = some D) (hD : cellTy D = false) (hs : (P.info? e).map (·.size) = some k) (ht : fr.lookup t = some (.pointer (some ⟨g, off, none⟩))) (hr : RdsK W g off k vs) (hu : fr.lookup u = some x) : ResV P n W fr fn (.tuple #[y, .agg vs.toArray, x]) := fun a w hf hw => by
  have h0 := hf.slot s _ hs'
  have h1 := hf.slot t _ ht
  have h2 := hf.slot u _ hu
  simp [results, h, h0, h1, h2, asAddr, run_loadVarAgg hD' hD hs hr hw]
theorem ResV_tc {P : Program} {n : Nat} {W : World → Prop} {fr : Fr} {fn : Func} {s t : Tmp} {e : TypeId} {D : TypeDesc} {g off k : Nat} {vs : List Value} {y : Value} (h : fn.results = #[.tmp s, .cell t e]) (hs' : fr.lookup s = some y) (hD' : P.underlying e = some D) (hD : cellTy D = false) (hs : (P.info? e).map (·.size) = some k) (ht : fr.lookup t = some (.pointer (some ⟨g, off, none⟩))) (hr : RdsK W g off k vs) : ResV P n W fr fn (.tuple #[y, .agg vs.toArray]) := fun a w hf hw => by
  have h0 := hf.slot s _ hs'
  have h1 := hf.slot t _ ht
  simp [results, h, h0, h1, asAddr, run_loadVarAgg hD' hD hs hr hw]
/-- a text, a pattern and what is left of the numbers -/
def mk : Nat → List Int → List Int × Rx × List Int
  | _, [] => ([97], .one (S4.zero.with_ 97), [])
  | 0, n :: l => ([97 + n.tmod 3], .one (S4.zero.with_ (97 + n.tmod 3).toNat), l)
  | d + 1, n :: l =>
    if n.tmod 9 = 0 ∨ n.tmod 9 = 1 then ([40] ++ (mk d l).1 ++ [41, 40] ++ (mk d (mk d l).2.2).1 ++ [41], .then_ (mk d l).2.1 (mk d (mk d l).2.2).2.1, (mk d (mk d l).2.2).2.2)
    else if n.tmod 9 = 2 ∨ n.tmod 9 = 3 then ([40] ++ (mk d l).1 ++ [124, 40] ++ (mk d (mk d l).2.2).1 ++ [41, 41], .either (mk d l).2.1 (mk d (mk d l).2.2).2.1, (mk d (mk d l).2.2).2.2)
    else if n.tmod 9 = 4 then ([40] ++ (mk d l).1 ++ [41, 42], .star (mk d l).2.1, (mk d l).2.2)
    else if n.tmod 9 = 5 then ([40] ++ (mk d l).1 ++ [41, 63], .either (mk d l).2.1 .nothing, (mk d l).2.2)
    else if n.tmod 9 = 6 then ([40] ++ (mk d l).1 ++ [41, 43], .then_ (mk d l).2.1 (.star (mk d l).2.1), (mk d l).2.2)
    else if n.tmod 9 = 7 then ([46], .one S4.zero.not_, l)
    else ([91, 94, 97, 45, 98, 93], .one ((S4.zero.with_ 97).with_ 98).not_, l)
theorem byteNode_t {x : Int} (hx : 0 ≤ x ∧ x ≤ 255) : TCall Tryd.prog w0 B 21 #[.int .u8 x] (fun r H' => r = (⟨1, S4.zero.with_ x.toNat, none, 0, 0⟩ : Nv).val ∧ H' = H) H := by
  have hw := fun {X : List Chunk} => With_t (w0 := w0) (B := B) (H := X) S4.zero x.toNat (by omega)
  rw [show ((x.toNat : Nat) : Int) = x by omega] at hw
  refine TCall_intro (args := [_]) Tryd.func21 rfl Tryd.ntmps21 (Nat.le_of_ble_eq_true rfl) ?_
  refine T_seq ?_
  refine T_region ?_
  refine TL_cons rfl (TO_alloc rfl zr30 fun g1 => ?_)
  refine TL_nil ?_
  refine T_seq ?_
  refine T_region ?_
  refine TL_p (PV_buildArr Tryd.underlying27 sz25 zr27) ?_
  refine TL_p (PV_move rfl) ?_
  refine TL_cons rfl (TO_call0 call16 rfl rfl (hw) ?_)
  rintro v5_4 H5_4 ⟨rfl, rfl⟩
  refine TL_p (PV_bld (cs := [_, _, _, _, _, _]) Tryd.underlying30 pl30 zr30 rfl rfl) ?_
  refine TL_cons rfl (TO_store 0 rfl rfl rfl sz30 rfl rfl rfl (all_one rfl) (by first | exact Nat.le_of_ble_eq_true rfl | (simp; done) | (simp; omega) | omega) ?_)
  refine TL_nil ?_
  refine T_ret ?_
  refine ret_ret (ResV_c rfl Tryd.underlying30 rfl sz30 rfl (Rds.take 0 rfl rfl rfl)) ⟨_, ?zb6q36, ⟨rfl, rfl⟩⟩
  case zb6q36 => exact (by (repeat (first | exact Sb.r | exact Sb.ar | exact Sb.al | apply Sb.c | apply Sb.d | refine Sb.t ?_)); done)
/-- what is left of the numbers -/
def RestOk (W : World → Prop) (l : List Int) (r : Value) : Prop := ∃ (A : Option Addr) (m c : Nat), r = .slice A m c ∧ Shows W A m 1 (nums .u8 l) ∧ l.length = m ∧ m ≤ c ∧ m ≤ 4611686018427387904 ∧ U8s l
def BuildC (w0 : World) (B : Nat) (d : Nat) : Prop := ∀ (H0 H : List Chunk), H0.Sublist H → ∀ (A : Option Addr) (m c : Nat) (l : List Int), Shows (WH w0 B H0) A m 1 (nums .u8 l) → l.length = m → m ≤ c → m ≤ 4611686018427387904 → U8s l →
  TCall Tryd.prog w0 B 31 #[.slice A m c, .int .i64 (d : Int)] (fun r H' => ∃ (v : Nv) (N : List Chunk) (q : Value), r = .tuple #[.string (strOfNums (mk d l).1), v.val, q] ∧ Tr (WH w0 B N) (mk d l).2.1 v ∧ RestOk (WH w0 B H0) (mk d l).2.2 q ∧ H' = H ++ N) H
theorem mk_nil (d : Nat) : mk d [] = ([97], .one (S4.zero.with_ 97), []) := by cases d <;> rfl
theorem build_nil {W : World → Prop} (d : Nat) (A : Option Addr) (c : Nat) : TCall Tryd.prog w0 B 31 #[.slice A 0 c, .int .i64 (d : Int)] (fun r H' => ∃ (v : Nv) (N : List Chunk) (q : Value), r = .tuple #[.string (strOfNums (mk d []).1), v.val, q] ∧ Tr (WH w0 B N) (mk d []).2.1 v ∧ RestOk W (mk d []).2.2 q ∧ H' = H ++ N) H := by
  rw [mk_nil]
  have hb := fun {X : List Chunk} => byteNode_t (w0 := w0) (B := B) (H := X) (x := 97) (by omega)
  have hstr : strOfNums [97] = ⟨#[97]⟩ := by kernel_rfl
  rw [hstr]
  refine TCall_intro (args := [_, _]) Tryd.func31 rfl Tryd.ntmps31 (Nat.le_of_ble_eq_true rfl) ?_
  refine T_seq ?_
  refine T_region ?_
  refine TL_p (PV_assign rfl) ?_
  refine TL_cons rfl (TO_alloc rfl zr30 fun g1 => ?_)
  refine TL_p (PV_assign rfl) ?_
  refine TL_nil ?_
  refine T_seq ?_
  refine T_seq ?_
  refine T_region ?_
  refine TL_p (PV_move rfl) ?_
  refine TL_p (PV_len_slice Tryd.underlying22 rfl) ?_
  refine TL_p (PV_bin rfl rfl bin_eql) ?_
  refine TL_nil ?_
  refine T_then rfl (by rfl) ?_
  refine T_seq ?_
  refine T_region ?_
  refine TL_cons rfl (TO_call0 call21 rfl rfl (hb) ?_)
  rintro v31_4 H31_4 ⟨rfl, rfl⟩
  refine TL_p (PV_assign rfl) ?_
  refine TL_cons rfl (TO_store 0 rfl rfl rfl sz30 rfl rfl rfl (all_one rfl) (by first | exact Nat.le_of_ble_eq_true rfl | (simp; done) | (simp; omega) | omega) ?_)
  refine TL_p (PV_assign rfl) ?_
  refine TL_nil ?_
  refine ?L1
  case L1 =>
    refine T_ret ?_
    refine ret_ret (ResV_tct rfl rfl Tryd.underlying30 rfl sz30 rfl (Rds.take 0 rfl rfl rfl) rfl) ?_
    exact ⟨H, List.sublist_cons_self _ _, ⟨1, S4.zero.with_ 97, none, 0, 0⟩, [], .slice none 0 0, rfl, rfl, ⟨none, 0, 0, rfl, fun w hw => ⟨rfl, fun j v hj => by simp [nums] at hj⟩, rfl, Nat.le_refl _, by omega, fun x hx => by simp at hx⟩, (List.append_nil H).symm⟩
theorem build_zero {H0 : List Chunk} (hsub : H0.Sublist H) {A : Option Addr} {m c : Nat} {n : Int} {l : List Int} (hS : Shows (WH w0 B H0) A m 1 (nums .u8 (n :: l))) (hlm : (n :: l).length = m) (hc : m ≤ c) (hm : m ≤ 4611686018427387904) (hu : U8s (n :: l)) : TCall Tryd.prog w0 B 31 #[.slice A m c, .int .i64 0] (fun r H' => ∃ (v : Nv) (N : List Chunk) (q : Value), r = .tuple #[.string (strOfNums (mk 0 (n :: l)).1), v.val, q] ∧ Tr (WH w0 B N) (mk 0 (n :: l)).2.1 v ∧ RestOk (WH w0 B H0) (mk 0 (n :: l)).2.2 q ∧ H' = H ++ N) H := by
  subst hlm
  refine TCall_shows (hS.mono fun w h => h.sub hsub) (by simp [nums]) fun g o hA hrd => ?_
  subst hA
  have hr : Rd (WH w0 B H) ⟨g, o + 0 * 1, none⟩ (.int .u8 n) := hrd 0 _ rfl
  have hx := hu n (by simp)
  have hq0 := Int.tmod_nonneg 3 hx.1
  have hq1 := Int.tmod_lt_of_pos n (show (0 : Int) < 3 by omega)
  have hb := fun {X : List Chunk} {x : Int} hx => byteNode_t (w0 := w0) (B := B) (H := X) (x := x) hx
  have hl1 : (n :: l).length = l.length + 1 := rfl
  rw [hl1] at hc hm ⊢
  have hu3 : U8s [97, 98, 99] := u8_small _ (by decide)
  have hul : U8s l := fun x hx => hu x (by simp [hx])
  have hcut := (Shows.cut hS (l := 1) (h := l.length + 1) (by omega) (by rw [hl1]; omega) (by rw [hl1]; exact hc))
  have hrest : RestOk (WH w0 B H0) l (.slice (some ⟨g, if c = 1 then o else o + 1 * 1, none⟩) (l.length + 1 - 1) (c - 1)) := ⟨_, _, _, rfl, by
    have e : ((nums IntKind.u8 (n :: l)).take ((l.length + 1) * 1)).drop (1 * 1) = nums .u8 l := by
      rw [Nat.mul_one, Nat.mul_one]
      exact List.take_of_length_le (by simp [nums])
    rw [e] at hcut
    exact hcut, by simp, by omega, by omega, hul⟩
  obtain ⟨q, hq⟩ : ∃ q, n.tmod 3 = q := ⟨_, rfl⟩
  have hmk : mk 0 (n :: l) = ([97 + q], .one (S4.zero.with_ (97 + q).toNat), l) := by rw [← hq]; rfl
  rw [hmk]
  rw [hq] at hq0 hq1
  have hor : q = 0 ∨ q = 1 ∨ q = 2 := by omega
  rcases hor with rfl | rfl | rfl
  · have e40 : Value.int .u8 (n.tmod 3) = .int .u8 0 := by rw [hq]
    have e41 : Value.int .u8 (rd [97, 98, 99] ((0 : Nat) : Int)) = .int .u8 97 := rfl
    have hb := fun {X : List Chunk} => byteNode_t (w0 := w0) (B := B) (H := X) (x := 97) (by omega)
    have hu1 : U8s [97] := u8_small _ (by decide)
    refine TCall_intro (args := [_, _]) Tryd.func31 rfl Tryd.ntmps31 (Nat.le_of_ble_eq_true rfl) ?_
    refine T_seq ?_
    refine T_region ?_
    refine TL_p (PV_assign rfl) ?_
    refine TL_cons rfl (TO_alloc rfl zr30 fun g1001 => ?_)
    refine TL_p (PV_assign rfl) ?_
    refine TL_nil ?_
    refine T_seq ?_
    refine T_seq ?_
    refine T_region ?_
    refine TL_p (PV_move rfl) ?_
    refine TL_p (PV_len_slice Tryd.underlying22 rfl) ?_
    refine TL_p (PV_bin rfl rfl bin_eql) ?_
    refine TL_nil ?_
    refine T_else rfl (by rfl) ?_
    refine T_skip ?_
    refine T_seq ?_
    refine T_region ?_
    refine TL_p (PV_move rfl) ?_
    refine TL_p (PV_indexAddr (i := 0) Tryd.underlying22 sz5 rfl rfl rfl (by first | omega | decide | assumption)) ?_
    refine TL_p (PV_load Tryd.underlying5 rfl rfl (Rd.mono hr (fun w h => h.sub (by (repeat (first | exact Sb.r | exact Sb.ar | exact Sb.al | apply Sb.d | refine Sb.t ?_)); done)))) ?_
    refine TL_p (PV_assign rfl) ?_
    refine TL_nil ?_
    refine T_seq ?_
    refine T_region ?_
    refine TL_p (PV_move rfl) ?_
    refine TL_p (PV_slice (l := 1) Tryd.underlying22 sz5 rfl (by omega) ⟨_, rfl⟩ rfl (by omega) (by omega)) ?_
    refine TL_p (PV_assign rfl) ?_
    refine TL_nil ?_
    refine T_seq ?_
    refine T_seq ?_
    refine T_region ?_
    refine TL_p (PV_move rfl) ?_
    refine TL_p (PV_bin rfl rfl bin_leq) ?_
    refine TL_nil ?_
    refine T_then rfl (by rfl) ?_
    refine T_seq ?_
    refine T_region ?_
    refine TL_p (PV_move rfl) ?_
    refine TL_p (PV.cast (PV_bin rfl rfl (bin_rem (by decide))) e40) ?_
    refine TL_p (PV.cast (PV_indexNums (l := [97, 98, 99]) (i := 0) Tryd.underlying9 rfl rfl rfl hu3 (by decide)) e41) ?_
    refine TL_p (PV_assign rfl) ?_
    refine TL_nil ?_
    refine T_seq ?_
    refine T_drawnE 0 mixed ?_
    refine TA_p 0 rfl (by kernel_rfl) (PV_move rfl) ?_
    refine TA_p 3 rfl (by kernel_rfl) (PV_move rfl) ?_
    refine TA_p 5 rfl (by kernel_rfl) (PV_move rfl) ?_
    refine TA_hardG (rs := [1, 4]) (by kernel_rfl) (by decide) ?_
    refine List.forall_mem_cons.2 ⟨?w1002q83_1, List.forall_mem_cons.2 ⟨?w1002q83_4, by simp⟩⟩
    refine ⟨_, rfl, Or.inl rfl, (TO_bs (cs := [_]) Tryd.underlying22 zs5 (by decide) rfl rfl rfl rfl rfl rfl fun g1003 => ?_)⟩
    refine ⟨fun _ h => h.sub (by (repeat (first | exact Sb.r | exact Sb.ar | exact Sb.al | apply Sb.d | refine Sb.t ?_)); done), ?_⟩
    refine TA_hardG (rs := [2, 4]) (by kernel_rfl) (by decide) ?_
    refine List.forall_mem_cons.2 ⟨?w1005q83_2, List.forall_mem_cons.2 ⟨?w1005q83_4, by simp⟩⟩
    refine ⟨_, rfl, Or.inl rfl, (TO_pure rfl (PV_b2s (xs := [97]) Tryd.underlying22 Tryd.underlying5 Tryd.underlying9 rfl (Shows.cast rfl (Shows.at 0 rfl))) ?_)⟩
    refine ⟨fun _ h => h.sub (by (repeat (first | exact Sb.r | exact Sb.ar | exact Sb.al | apply Sb.d | refine Sb.t ?_)); done), ?_⟩
    refine TA_one 4 (by kernel_rfl) rfl rfl (TO_call0 call21 rfl rfl (hb) ?_)
    rintro v46_1010 H46_1010 ⟨rfl, rfl⟩
    refine ⟨fun _ h => h.sub (by (repeat (first | exact Sb.r | exact Sb.ar | exact Sb.al | apply Sb.d | refine Sb.t ?_)); done), ?_⟩
    refine TA_p 6 rfl (by kernel_rfl) (PV_assign rfl) ?_
    refine TA_one 7 (by kernel_rfl) rfl rfl (TO_store 1 rfl rfl rfl sz30 rfl rfl rfl (all_one rfl) (by first | exact Nat.le_of_ble_eq_true rfl | (simp; done) | (simp; omega) | omega) ?_)
    refine ⟨fun _ h => h.sub (by (repeat (first | exact Sb.r | exact Sb.ar | exact Sb.al | apply Sb.d | refine Sb.t ?_)); done), ?_⟩
    refine TA_p 8 rfl (by kernel_rfl) (PV_assign rfl) ?_
    refine TA_done (by kernel_rfl) ?_
    refine ?L11
    rotate_left 1
    refine ⟨_, rfl, Or.inl rfl, (TO_call0 call21 rfl rfl (hb) ?_)⟩
    rintro v46_1013 H46_1013 ⟨rfl, rfl⟩
    refine ⟨fun _ h => h.sub (by (repeat (first | exact Sb.r | exact Sb.ar | exact Sb.al | apply Sb.d | refine Sb.t ?_)); done), ?_⟩
    refine TA_pure1 (dd := (some 44)) 2 (by kernel_rfl) rfl rfl rfl rfl (PV_b2s (xs := [97]) Tryd.underlying22 Tryd.underlying5 Tryd.underlying9 rfl (Shows.cast rfl (Shows.at 0 rfl))) ?_
    refine TA_p 6 rfl (by kernel_rfl) (PV_assign rfl) ?_
    refine TA_one 7 (by kernel_rfl) rfl rfl (TO_store 1 rfl rfl rfl sz30 rfl rfl rfl (all_one rfl) (by first | exact Nat.le_of_ble_eq_true rfl | (simp; done) | (simp; omega) | omega) ?_)
    refine ⟨fun _ h => h.sub (by (repeat (first | exact Sb.r | exact Sb.ar | exact Sb.al | apply Sb.d | refine Sb.t ?_)); done), ?_⟩
    refine TA_p 8 rfl (by kernel_rfl) (PV_assign rfl) ?_
    refine TA_done (by kernel_rfl) ?_
    refine ?L12
    rotate_left 1
    refine ⟨_, rfl, Or.inl rfl, (TO_call0 call21 rfl rfl (hb) ?_)⟩
    rintro v46_1016 H46_1016 ⟨rfl, rfl⟩
    refine ⟨fun _ h => h.sub (by (repeat (first | exact Sb.r | exact Sb.ar | exact Sb.al | apply Sb.d | refine Sb.t ?_)); done), ?_⟩
    refine TA_one 1 (by kernel_rfl) rfl rfl (TO_bs (cs := [_]) Tryd.underlying22 zs5 (by decide) rfl rfl rfl rfl rfl rfl fun g1017 => ?_)
    refine ⟨fun _ h => h.sub (by (repeat (first | exact Sb.r | exact Sb.ar | exact Sb.al | apply Sb.d | refine Sb.t ?_)); done), ?_⟩
    refine TA_pure1 (dd := (some 44)) 2 (by kernel_rfl) rfl rfl rfl rfl (PV_b2s (xs := [97]) Tryd.underlying22 Tryd.underlying5 Tryd.underlying9 rfl (Shows.cast rfl (Shows.at 0 rfl))) ?_
    refine TA_p 6 rfl (by kernel_rfl) (PV_assign rfl) ?_
    refine TA_one 7 (by kernel_rfl) rfl rfl (TO_store 1 rfl rfl rfl sz30 rfl rfl rfl (all_one rfl) (by first | exact Nat.le_of_ble_eq_true rfl | (simp; done) | (simp; omega) | omega) ?_)
    refine ⟨fun _ h => h.sub (by (repeat (first | exact Sb.r | exact Sb.ar | exact Sb.al | apply Sb.d | refine Sb.t ?_)); done), ?_⟩
    refine TA_p 8 rfl (by kernel_rfl) (PV_assign rfl) ?_
    refine TA_done (by kernel_rfl) ?_
    refine ?L13
    all_goals
      refine T_ret ?_
      refine ret_ret (ResV_tct rfl rfl Tryd.underlying30 rfl sz30 rfl (Rds.take 1 rfl rfl rfl) rfl) ?_
      exact ⟨H, (by repeat (first | exact Sb.r | exact Sb.ar | exact Sb.al | apply Sb.d | refine Sb.t ?_)), ⟨1, S4.zero.with_ 97, none, 0, 0⟩, [], _, rfl, rfl, hrest, (List.append_nil H).symm⟩
  · have e40 : Value.int .u8 (n.tmod 3) = .int .u8 1 := by rw [hq]
    have e41 : Value.int .u8 (rd [97, 98, 99] ((1 : Nat) : Int)) = .int .u8 98 := rfl
    have hb := fun {X : List Chunk} => byteNode_t (w0 := w0) (B := B) (H := X) (x := 98) (by omega)
    have hu1 : U8s [98] := u8_small _ (by decide)
    refine TCall_intro (args := [_, _]) Tryd.func31 rfl Tryd.ntmps31 (Nat.le_of_ble_eq_true rfl) ?_
    refine T_seq ?_
    refine T_region ?_
    refine TL_p (PV_assign rfl) ?_
    refine TL_cons rfl (TO_alloc rfl zr30 fun g2001 => ?_)
    refine TL_p (PV_assign rfl) ?_
    refine TL_nil ?_
    refine T_seq ?_
    refine T_seq ?_
    refine T_region ?_
    refine TL_p (PV_move rfl) ?_
    refine TL_p (PV_len_slice Tryd.underlying22 rfl) ?_
    refine TL_p (PV_bin rfl rfl bin_eql) ?_
    refine TL_nil ?_
    refine T_else rfl (by rfl) ?_
    refine T_skip ?_
    refine T_seq ?_
    refine T_region ?_
    refine TL_p (PV_move rfl) ?_
    refine TL_p (PV_indexAddr (i := 0) Tryd.underlying22 sz5 rfl rfl rfl (by first | omega | decide | assumption)) ?_
    refine TL_p (PV_load Tryd.underlying5 rfl rfl (Rd.mono hr (fun w h => h.sub (by (repeat (first | exact Sb.r | exact Sb.ar | exact Sb.al | apply Sb.d | refine Sb.t ?_)); done)))) ?_
    refine TL_p (PV_assign rfl) ?_
    refine TL_nil ?_
    refine T_seq ?_
    refine T_region ?_
    refine TL_p (PV_move rfl) ?_
    refine TL_p (PV_slice (l := 1) Tryd.underlying22 sz5 rfl (by omega) ⟨_, rfl⟩ rfl (by omega) (by omega)) ?_
    refine TL_p (PV_assign rfl) ?_
    refine TL_nil ?_
    refine T_seq ?_
    refine T_seq ?_
    refine T_region ?_
    refine TL_p (PV_move rfl) ?_
    refine TL_p (PV_bin rfl rfl bin_leq) ?_
    refine TL_nil ?_
    refine T_then rfl (by rfl) ?_
    refine T_seq ?_
    refine T_region ?_
    refine TL_p (PV_move rfl) ?_
    refine TL_p (PV.cast (PV_bin rfl rfl (bin_rem (by decide))) e40) ?_
    refine TL_p (PV.cast (PV_indexNums (l := [97, 98, 99]) (i := 1) Tryd.underlying9 rfl rfl rfl hu3 (by decide)) e41) ?_
    refine TL_p (PV_assign rfl) ?_
    refine TL_nil ?_
    refine T_seq ?_
    refine T_drawnE 0 mixed ?_
    refine TA_p 0 rfl (by kernel_rfl) (PV_move rfl) ?_
    refine TA_p 3 rfl (by kernel_rfl) (PV_move rfl) ?_
    refine TA_p 5 rfl (by kernel_rfl) (PV_move rfl) ?_
    refine TA_hardG (rs := [1, 4]) (by kernel_rfl) (by decide) ?_
    refine List.forall_mem_cons.2 ⟨?w2002q96_1, List.forall_mem_cons.2 ⟨?w2002q96_4, by simp⟩⟩
    refine ⟨_, rfl, Or.inl rfl, (TO_bs (cs := [_]) Tryd.underlying22 zs5 (by decide) rfl rfl rfl rfl rfl rfl fun g2003 => ?_)⟩
    refine ⟨fun _ h => h.sub (by (repeat (first | exact Sb.r | exact Sb.ar | exact Sb.al | apply Sb.d | refine Sb.t ?_)); done), ?_⟩
    refine TA_hardG (rs := [2, 4]) (by kernel_rfl) (by decide) ?_
    refine List.forall_mem_cons.2 ⟨?w2005q96_2, List.forall_mem_cons.2 ⟨?w2005q96_4, by simp⟩⟩
    refine ⟨_, rfl, Or.inl rfl, (TO_pure rfl (PV_b2s (xs := [98]) Tryd.underlying22 Tryd.underlying5 Tryd.underlying9 rfl (Shows.cast rfl (Shows.at 0 rfl))) ?_)⟩
    refine ⟨fun _ h => h.sub (by (repeat (first | exact Sb.r | exact Sb.ar | exact Sb.al | apply Sb.d | refine Sb.t ?_)); done), ?_⟩
    refine TA_one 4 (by kernel_rfl) rfl rfl (TO_call0 call21 rfl rfl (hb) ?_)
    rintro v46_2010 H46_2010 ⟨rfl, rfl⟩
    refine ⟨fun _ h => h.sub (by (repeat (first | exact Sb.r | exact Sb.ar | exact Sb.al | apply Sb.d | refine Sb.t ?_)); done), ?_⟩
    refine TA_p 6 rfl (by kernel_rfl) (PV_assign rfl) ?_
    refine TA_one 7 (by kernel_rfl) rfl rfl (TO_store 1 rfl rfl rfl sz30 rfl rfl rfl (all_one rfl) (by first | exact Nat.le_of_ble_eq_true rfl | (simp; done) | (simp; omega) | omega) ?_)
    refine ⟨fun _ h => h.sub (by (repeat (first | exact Sb.r | exact Sb.ar | exact Sb.al | apply Sb.d | refine Sb.t ?_)); done), ?_⟩
    refine TA_p 8 rfl (by kernel_rfl) (PV_assign rfl) ?_
    refine TA_done (by kernel_rfl) ?_
    refine ?L21
    rotate_left 1
    refine ⟨_, rfl, Or.inl rfl, (TO_call0 call21 rfl rfl (hb) ?_)⟩
    rintro v46_2013 H46_2013 ⟨rfl, rfl⟩
    refine ⟨fun _ h => h.sub (by (repeat (first | exact Sb.r | exact Sb.ar | exact Sb.al | apply Sb.d | refine Sb.t ?_)); done), ?_⟩
    refine TA_pure1 (dd := (some 44)) 2 (by kernel_rfl) rfl rfl rfl rfl (PV_b2s (xs := [98]) Tryd.underlying22 Tryd.underlying5 Tryd.underlying9 rfl (Shows.cast rfl (Shows.at 0 rfl))) ?_
    refine TA_p 6 rfl (by kernel_rfl) (PV_assign rfl) ?_
    refine TA_one 7 (by kernel_rfl) rfl rfl (TO_store 1 rfl rfl rfl sz30 rfl rfl rfl (all_one rfl) (by first | exact Nat.le_of_ble_eq_true rfl | (simp; done) | (simp; omega) | omega) ?_)
    refine ⟨fun _ h => h.sub (by (repeat (first | exact Sb.r | exact Sb.ar | exact Sb.al | apply Sb.d | refine Sb.t ?_)); done), ?_⟩
    refine TA_p 8 rfl (by kernel_rfl) (PV_assign rfl) ?_
    refine TA_done (by kernel_rfl) ?_
    refine ?L22
    rotate_left 1
    refine ⟨_, rfl, Or.inl rfl, (TO_call0 call21 rfl rfl (hb) ?_)⟩
    rintro v46_2016 H46_2016 ⟨rfl, rfl⟩
    refine ⟨fun _ h => h.sub (by (repeat (first | exact Sb.r | exact Sb.ar | exact Sb.al | apply Sb.d | refine Sb.t ?_)); done), ?_⟩
    refine TA_one 1 (by kernel_rfl) rfl rfl (TO_bs (cs := [_]) Tryd.underlying22 zs5 (by decide) rfl rfl rfl rfl rfl rfl fun g2017 => ?_)
    refine ⟨fun _ h => h.sub (by (repeat (first | exact Sb.r | exact Sb.ar | exact Sb.al | apply Sb.d | refine Sb.t ?_)); done), ?_⟩
    refine TA_pure1 (dd := (some 44)) 2 (by kernel_rfl) rfl rfl rfl rfl (PV_b2s (xs := [98]) Tryd.underlying22 Tryd.underlying5 Tryd.underlying9 rfl (Shows.cast rfl (Shows.at 0 rfl))) ?_
    refine TA_p 6 rfl (by kernel_rfl) (PV_assign rfl) ?_
    refine TA_one 7 (by kernel_rfl) rfl rfl (TO_store 1 rfl rfl rfl sz30 rfl rfl rfl (all_one rfl) (by first | exact Nat.le_of_ble_eq_true rfl | (simp; done) | (simp; omega) | omega) ?_)
    refine ⟨fun _ h => h.sub (by (repeat (first | exact Sb.r | exact Sb.ar | exact Sb.al | apply Sb.d | refine Sb.t ?_)); done), ?_⟩
    refine TA_p 8 rfl (by kernel_rfl) (PV_assign rfl) ?_
    refine TA_done (by kernel_rfl) ?_
    refine ?L23
    all_goals
      refine T_ret ?_
      refine ret_ret (ResV_tct rfl rfl Tryd.underlying30 rfl sz30 rfl (Rds.take 1 rfl rfl rfl) rfl) ?_
      exact ⟨H, (by repeat (first | exact Sb.r | exact Sb.ar | exact Sb.al | apply Sb.d | refine Sb.t ?_)), ⟨1, S4.zero.with_ 98, none, 0, 0⟩, [], _, rfl, rfl, hrest, (List.append_nil H).symm⟩
  · have e40 : Value.int .u8 (n.tmod 3) = .int .u8 2 := by rw [hq]
    have e41 : Value.int .u8 (rd [97, 98, 99] ((2 : Nat) : Int)) = .int .u8 99 := rfl
    have hb := fun {X : List Chunk} => byteNode_t (w0 := w0) (B := B) (H := X) (x := 99) (by omega)
    have hu1 : U8s [99] := u8_small _ (by decide)
    refine TCall_intro (args := [_, _]) Tryd.func31 rfl Tryd.ntmps31 (Nat.le_of_ble_eq_true rfl) ?_
    refine T_seq ?_
    refine T_region ?_
    refine TL_p (PV_assign rfl) ?_
    refine TL_cons rfl (TO_alloc rfl zr30 fun g3001 => ?_)
    refine TL_p (PV_assign rfl) ?_
    refine TL_nil ?_
    refine T_seq ?_
    refine T_seq ?_
    refine T_region ?_
    refine TL_p (PV_move rfl) ?_
    refine TL_p (PV_len_slice Tryd.underlying22 rfl) ?_
    refine TL_p (PV_bin rfl rfl bin_eql) ?_
    refine TL_nil ?_
    refine T_else rfl (by rfl) ?_
    refine T_skip ?_
    refine T_seq ?_
    refine T_region ?_
    refine TL_p (PV_move rfl) ?_
    refine TL_p (PV_indexAddr (i := 0) Tryd.underlying22 sz5 rfl rfl rfl (by first | omega | decide | assumption)) ?_
    refine TL_p (PV_load Tryd.underlying5 rfl rfl (Rd.mono hr (fun w h => h.sub (by (repeat (first | exact Sb.r | exact Sb.ar | exact Sb.al | apply Sb.d | refine Sb.t ?_)); done)))) ?_
    refine TL_p (PV_assign rfl) ?_
    refine TL_nil ?_
    refine T_seq ?_
    refine T_region ?_
    refine TL_p (PV_move rfl) ?_
    refine TL_p (PV_slice (l := 1) Tryd.underlying22 sz5 rfl (by omega) ⟨_, rfl⟩ rfl (by omega) (by omega)) ?_
    refine TL_p (PV_assign rfl) ?_
    refine TL_nil ?_
    refine T_seq ?_
    refine T_seq ?_
    refine T_region ?_
    refine TL_p (PV_move rfl) ?_
    refine TL_p (PV_bin rfl rfl bin_leq) ?_
    refine TL_nil ?_
    refine T_then rfl (by rfl) ?_
    refine T_seq ?_
    refine T_region ?_
    refine TL_p (PV_move rfl) ?_
    refine TL_p (PV.cast (PV_bin rfl rfl (bin_rem (by decide))) e40) ?_
    refine TL_p (PV.cast (PV_indexNums (l := [97, 98, 99]) (i := 2) Tryd.underlying9 rfl rfl rfl hu3 (by decide)) e41) ?_
    refine TL_p (PV_assign rfl) ?_
    refine TL_nil ?_
    refine T_seq ?_
    refine T_drawnE 0 mixed ?_
    refine TA_p 0 rfl (by kernel_rfl) (PV_move rfl) ?_
    refine TA_p 3 rfl (by kernel_rfl) (PV_move rfl) ?_
    refine TA_p 5 rfl (by kernel_rfl) (PV_move rfl) ?_
    refine TA_hardG (rs := [1, 4]) (by kernel_rfl) (by decide) ?_
    refine List.forall_mem_cons.2 ⟨?w3002q109_1, List.forall_mem_cons.2 ⟨?w3002q109_4, by simp⟩⟩
    refine ⟨_, rfl, Or.inl rfl, (TO_bs (cs := [_]) Tryd.underlying22 zs5 (by decide) rfl rfl rfl rfl rfl rfl fun g3003 => ?_)⟩
    refine ⟨fun _ h => h.sub (by (repeat (first | exact Sb.r | exact Sb.ar | exact Sb.al | apply Sb.d | refine Sb.t ?_)); done), ?_⟩
    refine TA_hardG (rs := [2, 4]) (by kernel_rfl) (by decide) ?_
    refine List.forall_mem_cons.2 ⟨?w3005q109_2, List.forall_mem_cons.2 ⟨?w3005q109_4, by simp⟩⟩
    refine ⟨_, rfl, Or.inl rfl, (TO_pure rfl (PV_b2s (xs := [99]) Tryd.underlying22 Tryd.underlying5 Tryd.underlying9 rfl (Shows.cast rfl (Shows.at 0 rfl))) ?_)⟩
    refine ⟨fun _ h => h.sub (by (repeat (first | exact Sb.r | exact Sb.ar | exact Sb.al | apply Sb.d | refine Sb.t ?_)); done), ?_⟩
    refine TA_one 4 (by kernel_rfl) rfl rfl (TO_call0 call21 rfl rfl (hb) ?_)
    rintro v46_3010 H46_3010 ⟨rfl, rfl⟩
    refine ⟨fun _ h => h.sub (by (repeat (first | exact Sb.r | exact Sb.ar | exact Sb.al | apply Sb.d | refine Sb.t ?_)); done), ?_⟩
    refine TA_p 6 rfl (by kernel_rfl) (PV_assign rfl) ?_
    refine TA_one 7 (by kernel_rfl) rfl rfl (TO_store 1 rfl rfl rfl sz30 rfl rfl rfl (all_one rfl) (by first | exact Nat.le_of_ble_eq_true rfl | (simp; done) | (simp; omega) | omega) ?_)
    refine ⟨fun _ h => h.sub (by (repeat (first | exact Sb.r | exact Sb.ar | exact Sb.al | apply Sb.d | refine Sb.t ?_)); done), ?_⟩
    refine TA_p 8 rfl (by kernel_rfl) (PV_assign rfl) ?_
    refine TA_done (by kernel_rfl) ?_
    refine ?L31
    rotate_left 1
    refine ⟨_, rfl, Or.inl rfl, (TO_call0 call21 rfl rfl (hb) ?_)⟩
    rintro v46_3013 H46_3013 ⟨rfl, rfl⟩
    refine ⟨fun _ h => h.sub (by (repeat (first | exact Sb.r | exact Sb.ar | exact Sb.al | apply Sb.d | refine Sb.t ?_)); done), ?_⟩
    refine TA_pure1 (dd := (some 44)) 2 (by kernel_rfl) rfl rfl rfl rfl (PV_b2s (xs := [99]) Tryd.underlying22 Tryd.underlying5 Tryd.underlying9 rfl (Shows.cast rfl (Shows.at 0 rfl))) ?_
    refine TA_p 6 rfl (by kernel_rfl) (PV_assign rfl) ?_
    refine TA_one 7 (by kernel_rfl) rfl rfl (TO_store 1 rfl rfl rfl sz30 rfl rfl rfl (all_one rfl) (by first | exact Nat.le_of_ble_eq_true rfl | (simp; done) | (simp; omega) | omega) ?_)
    refine ⟨fun _ h => h.sub (by (repeat (first | exact Sb.r | exact Sb.ar | exact Sb.al | apply Sb.d | refine Sb.t ?_)); done), ?_⟩
    refine TA_p 8 rfl (by kernel_rfl) (PV_assign rfl) ?_
    refine TA_done (by kernel_rfl) ?_
    refine ?L32
    rotate_left 1
    refine ⟨_, rfl, Or.inl rfl, (TO_call0 call21 rfl rfl (hb) ?_)⟩
    rintro v46_3016 H46_3016 ⟨rfl, rfl⟩
    refine ⟨fun _ h => h.sub (by (repeat (first | exact Sb.r | exact Sb.ar | exact Sb.al | apply Sb.d | refine Sb.t ?_)); done), ?_⟩
    refine TA_one 1 (by kernel_rfl) rfl rfl (TO_bs (cs := [_]) Tryd.underlying22 zs5 (by decide) rfl rfl rfl rfl rfl rfl fun g3017 => ?_)
    refine ⟨fun _ h => h.sub (by (repeat (first | exact Sb.r | exact Sb.ar | exact Sb.al | apply Sb.d | refine Sb.t ?_)); done), ?_⟩
    refine TA_pure1 (dd := (some 44)) 2 (by kernel_rfl) rfl rfl rfl rfl (PV_b2s (xs := [99]) Tryd.underlying22 Tryd.underlying5 Tryd.underlying9 rfl (Shows.cast rfl (Shows.at 0 rfl))) ?_
    refine TA_p 6 rfl (by kernel_rfl) (PV_assign rfl) ?_
    refine TA_one 7 (by kernel_rfl) rfl rfl (TO_store 1 rfl rfl rfl sz30 rfl rfl rfl (all_one rfl) (by first | exact Nat.le_of_ble_eq_true rfl | (simp; done) | (simp; omega) | omega) ?_)
    refine ⟨fun _ h => h.sub (by (repeat (first | exact Sb.r | exact Sb.ar | exact Sb.al | apply Sb.d | refine Sb.t ?_)); done), ?_⟩
    refine TA_p 8 rfl (by kernel_rfl) (PV_assign rfl) ?_
    refine TA_done (by kernel_rfl) ?_
    refine ?L33
    all_goals
      refine T_ret ?_
      refine ret_ret (ResV_tct rfl rfl Tryd.underlying30 rfl sz30 rfl (Rds.take 1 rfl rfl rfl) rfl) ?_
      exact ⟨H, (by repeat (first | exact Sb.r | exact Sb.ar | exact Sb.al | apply Sb.d | refine Sb.t ?_)), ⟨1, S4.zero.with_ 99, none, 0, 0⟩, [], _, rfl, rfl, hrest, (List.append_nil H).symm⟩
theorem RestOk.mono {W W' : World → Prop} {l : List Int} {q : Value} (h : RestOk W l q) (hw : ∀ w, W' w → W w) : RestOk W' l q := by
  obtain ⟨A, m, c, h1, h2, h3⟩ := h
  exact ⟨A, m, c, h1, h2.mono hw, h3⟩
theorem bin_cat {P : Program} {xt : TypeId} {a b : Operand} {x y : List Int} {s t : ByteArray} (hs : strOfNums x = s) (ht : strOfNums y = t) (hb : x.length + y.length ≤ 9223372036854775807) : BinR P .add xt a b (.string s) (.string t) (.string (strOfNums (x ++ y))) := by
  subst hs
  subst ht
  rw [← str_app]
  exact bin_str_add (by rw [str_len, str_len]; exact hb)
theorem TO_build {n : Nat} {fr : Fr} {dst : Option Tmp} {ty : TypeId} {pos : String} {aft : Array Edge} {gd : Option (Nat × Bool)} {K : Fr → List Chunk → Prop} {xs : Array Operand} {ats : Array TypeId} {d : Nat} {l : List Int} {q : Value} {H0 X N0 : List Chunk} (hB : BuildC w0 B d) (hd : dOk n dst = true) (hx : evs fr xs.toList = some [q, .int .i64 (d : Int)]) (hH : H = X ++ N0) (hsub : H0.Sublist H) (hq : RestOk (WH w0 B H0) l q) (h : ∀ v N q', Tr (WH w0 B N) (mk d l).2.1 v → RestOk (WH w0 B H0) (mk d l).2.2 q' → K (frPut dst (.tuple #[.string (strOfNums (mk d l).1), v.val, q']) fr) (X ++ (N0 ++ N))) : TO Tryd.prog w0 B n ⟨dst, .call { callee := .value (.func 31), args := xs, argTypes := ats }, ty, pos, aft, gd⟩ K fr H := by
  obtain ⟨A, m, c, rfl, h2, h3, h4, h5, h6⟩ := hq
  refine TO_call (HR := []) call31 hd hx (by rw [List.append_nil]) (hB H0 H hsub A m c l h2 h3 h4 h5 h6) ?_
  rintro v' H' ⟨v, N, q, rfl, hv, hr, rfl⟩
  subst hH
  have := h v N q hv hr
  rw [List.append_nil, List.append_assoc]
  exact this
theorem mk_then {d : Nat} {n : Int} {l : List Int} (h : n.tmod 9 = 0 ∨ n.tmod 9 = 1) : mk (d + 1) (n :: l) = ([40] ++ (mk d l).1 ++ [41, 40] ++ (mk d (mk d l).2.2).1 ++ [41], .then_ (mk d l).2.1 (mk d (mk d l).2.2).2.1, (mk d (mk d l).2.2).2.2) := by
  show (if _ then _ else _) = _
  rw [if_pos h]
theorem mk_either {d : Nat} {n : Int} {l : List Int} (h : n.tmod 9 = 2 ∨ n.tmod 9 = 3) : mk (d + 1) (n :: l) = ([40] ++ (mk d l).1 ++ [124, 40] ++ (mk d (mk d l).2.2).1 ++ [41, 41], .either (mk d l).2.1 (mk d (mk d l).2.2).2.1, (mk d (mk d l).2.2).2.2) := by
  show (if _ then _ else _) = _
  rw [if_neg (by omega), if_pos h]
theorem mk_star {d : Nat} {n : Int} {l : List Int} (h : n.tmod 9 = 4) : mk (d + 1) (n :: l) = ([40] ++ (mk d l).1 ++ [41, 42], .star (mk d l).2.1, (mk d l).2.2) := by
  show (if _ then _ else _) = _
  rw [if_neg (by omega), if_neg (by omega), if_pos h]
theorem mk_opt {d : Nat} {n : Int} {l : List Int} (h : n.tmod 9 = 5) : mk (d + 1) (n :: l) = ([40] ++ (mk d l).1 ++ [41, 63], .either (mk d l).2.1 .nothing, (mk d l).2.2) := by
  show (if _ then _ else _) = _
  rw [if_neg (by omega), if_neg (by omega), if_neg (by omega), if_pos h]
theorem mk_plus {d : Nat} {n : Int} {l : List Int} (h : n.tmod 9 = 6) : mk (d + 1) (n :: l) = ([40] ++ (mk d l).1 ++ [41, 43], .then_ (mk d l).2.1 (.star (mk d l).2.1), (mk d l).2.2) := by
  show (if _ then _ else _) = _
  rw [if_neg (by omega), if_neg (by omega), if_neg (by omega), if_neg (by omega), if_pos h]
theorem mk_any {d : Nat} {n : Int} {l : List Int} (h : n.tmod 9 = 7) : mk (d + 1) (n :: l) = ([46], .one S4.zero.not_, l) := by
  show (if _ then _ else _) = _
  rw [if_neg (by omega), if_neg (by omega), if_neg (by omega), if_neg (by omega), if_neg (by omega), if_pos h]
theorem mk_class {d : Nat} {n : Int} {l : List Int} (h : n.tmod 9 = 8) : mk (d + 1) (n :: l) = ([91, 94, 97, 45, 98, 93], .one ((S4.zero.with_ 97).with_ 98).not_, l) := by
  show (if _ then _ else _) = _
  rw [if_neg (by omega), if_neg (by omega), if_neg (by omega), if_neg (by omega), if_neg (by omega), if_neg (by omega)]
theorem perm_tailT {a b : Chunk} {X N : List Chunk} : (a :: b :: (X ++ N)).Perm (X ++ (a :: b :: N)) := (List.Perm.cons a perm_tail).trans perm_tail
/-- what stands behind the first number -/
theorem rest_tail {W : World → Prop} {g o m c : Nat} {n : Int} {l : List Int} (hS : Shows W (some ⟨g, o, none⟩) (l.length + 1) 1 (nums .u8 (n :: l))) (hc : l.length + 1 ≤ c) (hm : l.length + 1 ≤ 4611686018427387904) (hu : U8s (n :: l)) : RestOk W l (.slice (some ⟨g, if c = 1 then o else o + 1 * 1, none⟩) (l.length + 1 - 1) (c - 1)) := by
  have hcut := (Shows.cut hS (l := 1) (h := l.length + 1) (by omega) (by omega) hc)
  have e : ((nums IntKind.u8 (n :: l)).take ((l.length + 1) * 1)).drop (1 * 1) = nums .u8 l := by
    rw [Nat.mul_one, Nat.mul_one]
    exact List.take_of_length_le (by simp [nums])
  rw [e] at hcut
  exact ⟨_, _, _, rfl, hcut, rfl, by omega, by omega, fun x hx => hu x (by simp [hx])⟩
theorem build_then {d : Nat} (hd3 : d ≤ 100) (hB : BuildC w0 B d) (hL : ∀ l, (mk d l).1.length ≤ 100000) {H0 : List Chunk} (hsub : H0.Sublist H) {A : Option Addr} {m c : Nat} {n : Int} {l : List Int} (hcase : n.tmod 9 = 0 ∨ n.tmod 9 = 1) (hS : Shows (WH w0 B H0) A m 1 (nums .u8 (n :: l))) (hlm : (n :: l).length = m) (hc : m ≤ c) (hm : m ≤ 4611686018427387904) (hu : U8s (n :: l)) : TCall Tryd.prog w0 B 31 #[.slice A m c, .int .i64 ((d + 1 : Nat) : Int)] (fun r H' => ∃ (v : Nv) (N : List Chunk) (q : Value), r = .tuple #[.string (strOfNums (mk (d + 1) (n :: l)).1), v.val, q] ∧ Tr (WH w0 B N) (mk (d + 1) (n :: l)).2.1 v ∧ RestOk (WH w0 B H0) (mk (d + 1) (n :: l)).2.2 q ∧ H' = H ++ N) H := by
  subst hlm
  refine TCall_shows (hS.mono fun w h => h.sub hsub) (by simp [nums]) fun g o hA hrd => ?_
  subst hA
  have hr : Rd (WH w0 B H) ⟨g, o + 0 * 1, none⟩ (.int .u8 n) := hrd 0 _ rfl
  have hx := hu n (by simp)
  have hl1 : (n :: l).length = l.length + 1 := rfl
  rw [hl1] at hc hm hS ⊢
  have hrest := rest_tail (m := 0) hS hc hm hu
  have hL1 := hL l
  have hL2 := hL (mk d l).2.2
  rw [mk_then hcase]
  have h40 : strOfNums [40] = ⟨#[40]⟩ := by kernel_rfl
  have h4140 : strOfNums [41, 40] = ⟨#[41, 40]⟩ := by kernel_rfl
  have h41 : strOfNums [41] = ⟨#[41]⟩ := by kernel_rfl
  have e56 : Value.int .i64 (IntKind.i64.wrap (((d + 1 : Nat) : Int) - 1)) = .int .i64 (d : Int) := wr64n _ (by omega) (by omega)
  have e38 : Value.bool (decide (((d + 1 : Nat) : Int) ≤ 0)) = .bool false := by rw [decide_eq_false (by omega)]
  rcases hcase with hq | hq
  · have e49 : Value.int .u8 (n.tmod 9) = .int .u8 0 := by rw [hq]
    refine TCall_intro (args := [_, _]) Tryd.func31 rfl Tryd.ntmps31 (Nat.le_of_ble_eq_true rfl) ?_
    refine T_seq ?_
    refine T_region ?_
    refine TL_p (PV_assign rfl) ?_
    refine TL_cons rfl (TO_alloc rfl zr30 fun g1001 => ?_)
    refine TL_p (PV_assign rfl) ?_
    refine TL_nil ?_
    refine T_seq ?_
    refine T_seq ?_
    refine T_region ?_
    refine TL_p (PV_move rfl) ?_
    refine TL_p (PV_len_slice Tryd.underlying22 rfl) ?_
    refine TL_p (PV_bin rfl rfl bin_eql) ?_
    refine TL_nil ?_
    refine T_else rfl (by rfl) ?_
    refine T_skip ?_
    refine T_seq ?_
    refine T_region ?_
    refine TL_p (PV_move rfl) ?_
    refine TL_p (PV_indexAddr (i := 0) Tryd.underlying22 sz5 rfl rfl rfl (by first | omega | decide | assumption)) ?_
    refine TL_p (PV_load Tryd.underlying5 rfl rfl (Rd.mono hr (fun w h => h.sub (by (repeat (first | exact Sb.r | exact Sb.ar | exact Sb.al | apply Sb.d | refine Sb.t ?_)); done)))) ?_
    refine TL_p (PV_assign rfl) ?_
    refine TL_nil ?_
    refine T_seq ?_
    refine T_region ?_
    refine TL_p (PV_move rfl) ?_
    refine TL_p (PV_slice (l := 1) Tryd.underlying22 sz5 rfl (by omega) ⟨_, rfl⟩ rfl (by omega) (by omega)) ?_
    refine TL_p (PV_assign rfl) ?_
    refine TL_nil ?_
    refine T_seq ?_
    refine T_seq ?_
    refine T_region ?_
    refine TL_p (PV_move rfl) ?_
    refine TL_p (PV.cast (PV_bin rfl rfl bin_leq) e38) ?_
    refine TL_nil ?_
    refine T_else rfl (by rfl) ?_
    refine T_skip ?_
    refine T_seq ?_
    refine T_seq ?_
    refine T_region ?_
    refine TL_p (PV_move rfl) ?_
    refine TL_p (PV.cast (PV_bin rfl rfl (bin_rem (by decide))) e49) ?_
    refine TL_nil ?_
    refine T_block ?_
    refine T_seq ?_
    refine T_seq ?_
    refine T_region ?_
    refine TL_p (PV_bin rfl rfl bin_eql) ?_
    refine TL_p (PV_assign rfl) ?_
    refine TL_nil ?_
    refine T_then rfl (by rfl) ?_
    refine T_skip ?_
    refine T_then rfl (by rfl) ?_
    refine T_seq ?_
    refine T_region ?_
    refine TL_p (PV_move rfl) ?_
    refine TL_p (PV_move rfl) ?_
    refine TL_p (PV.cast (PV_bin rfl rfl bin_sub) e56) ?_
    refine TL_cons rfl (TO_build (N0 := []) hB rfl rfl (List.append_nil _).symm (hsub.trans (by repeat (first | exact Sb.r | exact Sb.ar | exact Sb.al | apply Sb.d | refine Sb.t ?_))) hrest fun v57 N57 q57 hv57 hq57 => ?_)
    refine TL_p (PV_move rfl) ?_
    refine TL_p (PV_extract rfl rfl) ?_
    refine TL_p (PV_extract rfl rfl) ?_
    refine TL_p (PV_extract rfl rfl) ?_
    refine TL_cons rfl (TO_alloc rfl zr30 fun g1003 => ?_)
    refine TL_p (PV_assign rfl) ?_
    refine TL_cons rfl (TO_store 0 rfl rfl rfl sz30 rfl rfl rfl (all_one rfl) (by first | exact Nat.le_of_ble_eq_true rfl | (simp; done) | (simp; omega) | omega) ?_)
    refine TL_p (PV_assign rfl) ?_
    refine TL_nil ?_
    refine T_seq ?_
    refine T_region ?_
    refine TL_p (PV_move rfl) ?_
    refine TL_p (PV_move rfl) ?_
    refine TL_p (PV.cast (PV_bin rfl rfl bin_sub) e56) ?_
    refine TL_cons rfl (TO_build (X := _ :: _ :: H) (N0 := [] ++ N57) hB rfl rfl rfl ((hsub.trans (List.sublist_append_left H ([] ++ N57))).trans (by repeat (first | exact Sb.r | exact Sb.ar | exact Sb.al | apply Sb.d | refine Sb.t ?_))) hq57 fun v65 N65 q65 hv65 hq65 => ?_)
    refine TL_p (PV_move rfl) ?_
    refine TL_p (PV_extract rfl rfl) ?_
    refine TL_p (PV_extract rfl rfl) ?_
    refine TL_p (PV_extract rfl rfl) ?_
    refine TL_cons rfl (TO_alloc rfl zr30 fun g1006 => ?_)
    refine TL_p (PV_assign rfl) ?_
    refine TL_cons rfl (TO_store 0 rfl rfl rfl sz30 rfl rfl rfl (all_one rfl) (by first | exact Nat.le_of_ble_eq_true rfl | (simp; done) | (simp; omega) | omega) ?_)
    refine TL_p (PV_assign rfl) ?_
    refine TL_nil ?_
    refine T_seq ?_
    refine T_drawnE 2 mixed ?_
    refine TA_p 0 rfl (by kernel_rfl) (PV_move rfl) ?_
    refine TA_p 1 rfl (by kernel_rfl) (PV_bin rfl rfl (bin_cat h40 rfl (by simp; omega))) ?_
    refine TA_p 2 rfl (by kernel_rfl) (PV_bin rfl rfl (bin_cat rfl h4140 (by simp; omega))) ?_
    refine TA_p 3 rfl (by kernel_rfl) (PV_move rfl) ?_
    refine TA_p 4 rfl (by kernel_rfl) (PV_bin rfl rfl (bin_cat rfl rfl (by simp; omega))) ?_
    refine TA_p 5 rfl (by kernel_rfl) (PV_bin rfl rfl (bin_cat rfl h41 (by simp; omega))) ?_
    refine TA_p 6 rfl (by kernel_rfl) (PV_loadAt Tryd.underlying30 rfl sz30 rfl (Rds.take 1 rfl rfl rfl)) ?_
    refine TA_p 7 rfl (by kernel_rfl) (PV_loadAt Tryd.underlying30 rfl sz30 rfl (Rds.take 0 rfl rfl rfl)) ?_
    refine TA_p 10 rfl (by kernel_rfl) (PV_move rfl) ?_
    refine TA_p 11 rfl (by kernel_rfl) (PV_assign rfl) ?_
    refine TA_one 8 (by kernel_rfl) rfl rfl (TO_bs (cs := [_, _, _, _, _, _, _, _, _, _, _, _]) Tryd.underlying28 zs30 (by decide) rfl rfl rfl rfl rfl rfl fun g1008 => ?_)
    refine ⟨fun _ h => h.sub (by (repeat (first | exact Sb.r | exact Sb.ar | exact Sb.al | apply Sb.c | apply Sb.d | refine Sb.t ?_)); done), ?_⟩
    refine TA_p 9 rfl (by kernel_rfl) (PV_bld (cs := [_, _, _, _, _, _]) Tryd.underlying30 pl30 zr30 rfl rfl) ?_
    refine TA_one 12 (by kernel_rfl) rfl rfl (TO_store 3 rfl rfl rfl sz30 rfl rfl rfl (all_one rfl) (by first | exact Nat.le_of_ble_eq_true rfl | (simp; done) | (simp; omega) | omega) ?_)
    refine ⟨fun _ h => h.sub (by (repeat (first | exact Sb.r | exact Sb.ar | exact Sb.al | apply Sb.c | apply Sb.d | refine Sb.t ?_)); done), ?_⟩
    refine TA_p 13 rfl (by kernel_rfl) (PV_assign rfl) ?_
    refine TA_done (by kernel_rfl) ?_
    refine ?L11
    all_goals
      refine T.perm (perm_tail (X := _ :: _ :: _ :: H) (N := ([] ++ N57) ++ N65)) ?_
      refine T_ret ?_
      refine ret_ret (ResV_tct rfl rfl Tryd.underlying30 rfl sz30 rfl (Rds.take 2 rfl rfl rfl) rfl) ?_
      exact ⟨H ++ (_ :: (([] ++ N57) ++ N65)), List.Sublist.cons _ (List.Sublist.cons _ (List.Sublist.cons _ (List.Sublist.refl _))), ⟨2, S4.zero, some ⟨_, 0, none⟩, 2, 2⟩, _, _, rfl, ⟨some ⟨_, 0, none⟩, 2, v57, v65, rfl, Nat.le_refl _, Shows.cast rfl (Shows.at 0 rfl), hv57.mono fun w h => h.sub (List.Sublist.cons _ (List.sublist_append_left N57 N65)), hv65.mono fun w h => h.sub (List.Sublist.cons _ (List.sublist_append_right N57 N65))⟩, hq65, rfl⟩
  · have e49 : Value.int .u8 (n.tmod 9) = .int .u8 1 := by rw [hq]
    refine TCall_intro (args := [_, _]) Tryd.func31 rfl Tryd.ntmps31 (Nat.le_of_ble_eq_true rfl) ?_
    refine T_seq ?_
    refine T_region ?_
    refine TL_p (PV_assign rfl) ?_
    refine TL_cons rfl (TO_alloc rfl zr30 fun g3001 => ?_)
    refine TL_p (PV_assign rfl) ?_
    refine TL_nil ?_
    refine T_seq ?_
    refine T_seq ?_
    refine T_region ?_
    refine TL_p (PV_move rfl) ?_
    refine TL_p (PV_len_slice Tryd.underlying22 rfl) ?_
    refine TL_p (PV_bin rfl rfl bin_eql) ?_
    refine TL_nil ?_
    refine T_else rfl (by rfl) ?_
    refine T_skip ?_
    refine T_seq ?_
    refine T_region ?_
    refine TL_p (PV_move rfl) ?_
    refine TL_p (PV_indexAddr (i := 0) Tryd.underlying22 sz5 rfl rfl rfl (by first | omega | decide | assumption)) ?_
    refine TL_p (PV_load Tryd.underlying5 rfl rfl (Rd.mono hr (fun w h => h.sub (by (repeat (first | exact Sb.r | exact Sb.ar | exact Sb.al | apply Sb.d | refine Sb.t ?_)); done)))) ?_
    refine TL_p (PV_assign rfl) ?_
    refine TL_nil ?_
    refine T_seq ?_
    refine T_region ?_
    refine TL_p (PV_move rfl) ?_
    refine TL_p (PV_slice (l := 1) Tryd.underlying22 sz5 rfl (by omega) ⟨_, rfl⟩ rfl (by omega) (by omega)) ?_
    refine TL_p (PV_assign rfl) ?_
    refine TL_nil ?_
    refine T_seq ?_
    refine T_seq ?_
    refine T_region ?_
    refine TL_p (PV_move rfl) ?_
    refine TL_p (PV.cast (PV_bin rfl rfl bin_leq) e38) ?_
    refine TL_nil ?_
    refine T_else rfl (by rfl) ?_
    refine T_skip ?_
    refine T_seq ?_
    refine T_seq ?_
    refine T_region ?_
    refine TL_p (PV_move rfl) ?_
    refine TL_p (PV.cast (PV_bin rfl rfl (bin_rem (by decide))) e49) ?_
    refine TL_nil ?_
    refine T_block ?_
    refine T_seq ?_
    refine T_seq ?_
    refine T_region ?_
    refine TL_p (PV_bin rfl rfl bin_eql) ?_
    refine TL_p (PV_assign rfl) ?_
    refine TL_nil ?_
    refine T_else rfl (by rfl) ?_
    refine T_region ?_
    refine TL_p (PV_bin rfl rfl bin_eql) ?_
    refine TL_p (PV_assign rfl) ?_
    refine TL_nil ?_
    refine T_then rfl (by rfl) ?_
    refine T_seq ?_
    refine T_region ?_
    refine TL_p (PV_move rfl) ?_
    refine TL_p (PV_move rfl) ?_
    refine TL_p (PV.cast (PV_bin rfl rfl bin_sub) e56) ?_
    refine TL_cons rfl (TO_build (N0 := []) hB rfl rfl (List.append_nil _).symm (hsub.trans (by repeat (first | exact Sb.r | exact Sb.ar | exact Sb.al | apply Sb.d | refine Sb.t ?_))) hrest fun v57 N57 q57 hv57 hq57 => ?_)
    refine TL_p (PV_move rfl) ?_
    refine TL_p (PV_extract rfl rfl) ?_
    refine TL_p (PV_extract rfl rfl) ?_
    refine TL_p (PV_extract rfl rfl) ?_
    refine TL_cons rfl (TO_alloc rfl zr30 fun g3003 => ?_)
    refine TL_p (PV_assign rfl) ?_
    refine TL_cons rfl (TO_store 0 rfl rfl rfl sz30 rfl rfl rfl (all_one rfl) (by first | exact Nat.le_of_ble_eq_true rfl | (simp; done) | (simp; omega) | omega) ?_)
    refine TL_p (PV_assign rfl) ?_
    refine TL_nil ?_
    refine T_seq ?_
    refine T_region ?_
    refine TL_p (PV_move rfl) ?_
    refine TL_p (PV_move rfl) ?_
    refine TL_p (PV.cast (PV_bin rfl rfl bin_sub) e56) ?_
    refine TL_cons rfl (TO_build (X := _ :: _ :: H) (N0 := [] ++ N57) hB rfl rfl rfl ((hsub.trans (List.sublist_append_left H ([] ++ N57))).trans (by repeat (first | exact Sb.r | exact Sb.ar | exact Sb.al | apply Sb.d | refine Sb.t ?_))) hq57 fun v65 N65 q65 hv65 hq65 => ?_)
    refine TL_p (PV_move rfl) ?_
    refine TL_p (PV_extract rfl rfl) ?_
    refine TL_p (PV_extract rfl rfl) ?_
    refine TL_p (PV_extract rfl rfl) ?_
    refine TL_cons rfl (TO_alloc rfl zr30 fun g3006 => ?_)
    refine TL_p (PV_assign rfl) ?_
    refine TL_cons rfl (TO_store 0 rfl rfl rfl sz30 rfl rfl rfl (all_one rfl) (by first | exact Nat.le_of_ble_eq_true rfl | (simp; done) | (simp; omega) | omega) ?_)
    refine TL_p (PV_assign rfl) ?_
    refine TL_nil ?_
    refine T_seq ?_
    refine T_drawnE 2 mixed ?_
    refine TA_p 0 rfl (by kernel_rfl) (PV_move rfl) ?_
    refine TA_p 1 rfl (by kernel_rfl) (PV_bin rfl rfl (bin_cat h40 rfl (by simp; omega))) ?_
    refine TA_p 2 rfl (by kernel_rfl) (PV_bin rfl rfl (bin_cat rfl h4140 (by simp; omega))) ?_
    refine TA_p 3 rfl (by kernel_rfl) (PV_move rfl) ?_
    refine TA_p 4 rfl (by kernel_rfl) (PV_bin rfl rfl (bin_cat rfl rfl (by simp; omega))) ?_
    refine TA_p 5 rfl (by kernel_rfl) (PV_bin rfl rfl (bin_cat rfl h41 (by simp; omega))) ?_
    refine TA_p 6 rfl (by kernel_rfl) (PV_loadAt Tryd.underlying30 rfl sz30 rfl (Rds.take 1 rfl rfl rfl)) ?_
    refine TA_p 7 rfl (by kernel_rfl) (PV_loadAt Tryd.underlying30 rfl sz30 rfl (Rds.take 0 rfl rfl rfl)) ?_
    refine TA_p 10 rfl (by kernel_rfl) (PV_move rfl) ?_
    refine TA_p 11 rfl (by kernel_rfl) (PV_assign rfl) ?_
    refine TA_one 8 (by kernel_rfl) rfl rfl (TO_bs (cs := [_, _, _, _, _, _, _, _, _, _, _, _]) Tryd.underlying28 zs30 (by decide) rfl rfl rfl rfl rfl rfl fun g3008 => ?_)
    refine ⟨fun _ h => h.sub (by (repeat (first | exact Sb.r | exact Sb.ar | exact Sb.al | apply Sb.c | apply Sb.d | refine Sb.t ?_)); done), ?_⟩
    refine TA_p 9 rfl (by kernel_rfl) (PV_bld (cs := [_, _, _, _, _, _]) Tryd.underlying30 pl30 zr30 rfl rfl) ?_
    refine TA_one 12 (by kernel_rfl) rfl rfl (TO_store 3 rfl rfl rfl sz30 rfl rfl rfl (all_one rfl) (by first | exact Nat.le_of_ble_eq_true rfl | (simp; done) | (simp; omega) | omega) ?_)
    refine ⟨fun _ h => h.sub (by (repeat (first | exact Sb.r | exact Sb.ar | exact Sb.al | apply Sb.c | apply Sb.d | refine Sb.t ?_)); done), ?_⟩
    refine TA_p 13 rfl (by kernel_rfl) (PV_assign rfl) ?_
    refine TA_done (by kernel_rfl) ?_
    refine ?L31
    all_goals
      refine T.perm (perm_tail (X := _ :: _ :: _ :: H) (N := ([] ++ N57) ++ N65)) ?_
      refine T_ret ?_
      refine ret_ret (ResV_tct rfl rfl Tryd.underlying30 rfl sz30 rfl (Rds.take 2 rfl rfl rfl) rfl) ?_
      exact ⟨H ++ (_ :: (([] ++ N57) ++ N65)), List.Sublist.cons _ (List.Sublist.cons _ (List.Sublist.cons _ (List.Sublist.refl _))), ⟨2, S4.zero, some ⟨_, 0, none⟩, 2, 2⟩, _, _, rfl, ⟨some ⟨_, 0, none⟩, 2, v57, v65, rfl, Nat.le_refl _, Shows.cast rfl (Shows.at 0 rfl), hv57.mono fun w h => h.sub (List.Sublist.cons _ (List.sublist_append_left N57 N65)), hv65.mono fun w h => h.sub (List.Sublist.cons _ (List.sublist_append_right N57 N65))⟩, hq65, rfl⟩
theorem build_either {d : Nat} (hd3 : d ≤ 100) (hB : BuildC w0 B d) (hL : ∀ l, (mk d l).1.length ≤ 100000) {H0 : List Chunk} (hsub : H0.Sublist H) {A : Option Addr} {m c : Nat} {n : Int} {l : List Int} (hcase : n.tmod 9 = 2 ∨ n.tmod 9 = 3) (hS : Shows (WH w0 B H0) A m 1 (nums .u8 (n :: l))) (hlm : (n :: l).length = m) (hc : m ≤ c) (hm : m ≤ 4611686018427387904) (hu : U8s (n :: l)) : TCall Tryd.prog w0 B 31 #[.slice A m c, .int .i64 ((d + 1 : Nat) : Int)] (fun r H' => ∃ (v : Nv) (N : List Chunk) (q : Value), r = .tuple #[.string (strOfNums (mk (d + 1) (n :: l)).1), v.val, q] ∧ Tr (WH w0 B N) (mk (d + 1) (n :: l)).2.1 v ∧ RestOk (WH w0 B H0) (mk (d + 1) (n :: l)).2.2 q ∧ H' = H ++ N) H := by
  subst hlm
  refine TCall_shows (hS.mono fun w h => h.sub hsub) (by simp [nums]) fun g o hA hrd => ?_
  subst hA
  have hr : Rd (WH w0 B H) ⟨g, o + 0 * 1, none⟩ (.int .u8 n) := hrd 0 _ rfl
  have hx := hu n (by simp)
  have hl1 : (n :: l).length = l.length + 1 := rfl
  rw [hl1] at hc hm hS ⊢
  have hrest := rest_tail (m := 0) hS hc hm hu
  have hL1 := hL l
  have hL2 := hL (mk d l).2.2
  rw [mk_either hcase]
  have h40 : strOfNums [40] = ⟨#[40]⟩ := by kernel_rfl
  have h12440 : strOfNums [124, 40] = ⟨#[124, 40]⟩ := by kernel_rfl
  have h4141 : strOfNums [41, 41] = ⟨#[41, 41]⟩ := by kernel_rfl
  have e56 : Value.int .i64 (IntKind.i64.wrap (((d + 1 : Nat) : Int) - 1)) = .int .i64 (d : Int) := wr64n _ (by omega) (by omega)
  have e38 : Value.bool (decide (((d + 1 : Nat) : Int) ≤ 0)) = .bool false := by rw [decide_eq_false (by omega)]
  rcases hcase with hq | hq
  · have e49 : Value.int .u8 (n.tmod 9) = .int .u8 2 := by rw [hq]
    refine TCall_intro (args := [_, _]) Tryd.func31 rfl Tryd.ntmps31 (Nat.le_of_ble_eq_true rfl) ?_
    refine T_seq ?_
    refine T_region ?_
    refine TL_p (PV_assign rfl) ?_
    refine TL_cons rfl (TO_alloc rfl zr30 fun g1001 => ?_)
    refine TL_p (PV_assign rfl) ?_
    refine TL_nil ?_
    refine T_seq ?_
    refine T_seq ?_
    refine T_region ?_
    refine TL_p (PV_move rfl) ?_
    refine TL_p (PV_len_slice Tryd.underlying22 rfl) ?_
    refine TL_p (PV_bin rfl rfl bin_eql) ?_
    refine TL_nil ?_
    refine T_else rfl (by rfl) ?_
    refine T_skip ?_
    refine T_seq ?_
    refine T_region ?_
    refine TL_p (PV_move rfl) ?_
    refine TL_p (PV_indexAddr (i := 0) Tryd.underlying22 sz5 rfl rfl rfl (by first | omega | decide | assumption)) ?_
    refine TL_p (PV_load Tryd.underlying5 rfl rfl (Rd.mono hr (fun w h => h.sub (by (repeat (first | exact Sb.r | exact Sb.ar | exact Sb.al | apply Sb.d | refine Sb.t ?_)); done)))) ?_
    refine TL_p (PV_assign rfl) ?_
    refine TL_nil ?_
    refine T_seq ?_
    refine T_region ?_
    refine TL_p (PV_move rfl) ?_
    refine TL_p (PV_slice (l := 1) Tryd.underlying22 sz5 rfl (by omega) ⟨_, rfl⟩ rfl (by omega) (by omega)) ?_
    refine TL_p (PV_assign rfl) ?_
    refine TL_nil ?_
    refine T_seq ?_
    refine T_seq ?_
    refine T_region ?_
    refine TL_p (PV_move rfl) ?_
    refine TL_p (PV.cast (PV_bin rfl rfl bin_leq) e38) ?_
    refine TL_nil ?_
    refine T_else rfl (by rfl) ?_
    refine T_skip ?_
    refine T_seq ?_
    refine T_seq ?_
    refine T_region ?_
    refine TL_p (PV_move rfl) ?_
    refine TL_p (PV.cast (PV_bin rfl rfl (bin_rem (by decide))) e49) ?_
    refine TL_nil ?_
    refine T_block ?_
    refine T_seq ?_
    refine T_seq ?_
    refine T_region ?_
    refine TL_p (PV_bin rfl rfl bin_eql) ?_
    refine TL_p (PV_assign rfl) ?_
    refine TL_nil ?_
    refine T_else rfl (by rfl) ?_
    refine T_region ?_
    refine TL_p (PV_bin rfl rfl bin_eql) ?_
    refine TL_p (PV_assign rfl) ?_
    refine TL_nil ?_
    refine T_else rfl (by rfl) ?_
    refine T_seq ?_
    refine T_seq ?_
    refine T_region ?_
    refine TL_p (PV_bin rfl rfl bin_eql) ?_
    refine TL_p (PV_assign rfl) ?_
    refine TL_nil ?_
    refine T_then rfl (by rfl) ?_
    refine T_skip ?_
    refine T_then rfl (by rfl) ?_
    refine T_seq ?_
    refine T_region ?_
    refine TL_p (PV_move rfl) ?_
    refine TL_p (PV_move rfl) ?_
    refine TL_p (PV.cast (PV_bin rfl rfl bin_sub) e56) ?_
    refine TL_cons rfl (TO_build (N0 := []) hB rfl rfl (List.append_nil _).symm (hsub.trans (by repeat (first | exact Sb.r | exact Sb.ar | exact Sb.al | apply Sb.d | refine Sb.t ?_))) hrest fun v57 N57 q57 hv57 hq57 => ?_)
    refine TL_p (PV_move rfl) ?_
    refine TL_p (PV_extract rfl rfl) ?_
    refine TL_p (PV_extract rfl rfl) ?_
    refine TL_p (PV_extract rfl rfl) ?_
    refine TL_cons rfl (TO_alloc rfl zr30 fun g1003 => ?_)
    refine TL_p (PV_assign rfl) ?_
    refine TL_cons rfl (TO_store 0 rfl rfl rfl sz30 rfl rfl rfl (all_one rfl) (by first | exact Nat.le_of_ble_eq_true rfl | (simp; done) | (simp; omega) | omega) ?_)
    refine TL_p (PV_assign rfl) ?_
    refine TL_nil ?_
    refine T_seq ?_
    refine T_region ?_
    refine TL_p (PV_move rfl) ?_
    refine TL_p (PV_move rfl) ?_
    refine TL_p (PV.cast (PV_bin rfl rfl bin_sub) e56) ?_
    refine TL_cons rfl (TO_build (X := _ :: _ :: H) (N0 := [] ++ N57) hB rfl rfl rfl ((hsub.trans (List.sublist_append_left H ([] ++ N57))).trans (by repeat (first | exact Sb.r | exact Sb.ar | exact Sb.al | apply Sb.d | refine Sb.t ?_))) hq57 fun v65 N65 q65 hv65 hq65 => ?_)
    refine TL_p (PV_move rfl) ?_
    refine TL_p (PV_extract rfl rfl) ?_
    refine TL_p (PV_extract rfl rfl) ?_
    refine TL_p (PV_extract rfl rfl) ?_
    refine TL_cons rfl (TO_alloc rfl zr30 fun g1006 => ?_)
    refine TL_p (PV_assign rfl) ?_
    refine TL_cons rfl (TO_store 0 rfl rfl rfl sz30 rfl rfl rfl (all_one rfl) (by first | exact Nat.le_of_ble_eq_true rfl | (simp; done) | (simp; omega) | omega) ?_)
    refine TL_p (PV_assign rfl) ?_
    refine TL_nil ?_
    refine T_seq ?_
    refine T_drawnE 2 mixed ?_
    refine TA_p 0 rfl (by kernel_rfl) (PV_move rfl) ?_
    refine TA_p 1 rfl (by kernel_rfl) (PV_bin rfl rfl (bin_cat h40 rfl (by simp; omega))) ?_
    refine TA_p 2 rfl (by kernel_rfl) (PV_bin rfl rfl (bin_cat rfl h12440 (by simp; omega))) ?_
    refine TA_p 3 rfl (by kernel_rfl) (PV_move rfl) ?_
    refine TA_p 4 rfl (by kernel_rfl) (PV_bin rfl rfl (bin_cat rfl rfl (by simp; omega))) ?_
    refine TA_p 5 rfl (by kernel_rfl) (PV_bin rfl rfl (bin_cat rfl h4141 (by simp; omega))) ?_
    refine TA_p 6 rfl (by kernel_rfl) (PV_loadAt Tryd.underlying30 rfl sz30 rfl (Rds.take 1 rfl rfl rfl)) ?_
    refine TA_p 7 rfl (by kernel_rfl) (PV_loadAt Tryd.underlying30 rfl sz30 rfl (Rds.take 0 rfl rfl rfl)) ?_
    refine TA_p 10 rfl (by kernel_rfl) (PV_move rfl) ?_
    refine TA_p 11 rfl (by kernel_rfl) (PV_assign rfl) ?_
    refine TA_one 8 (by kernel_rfl) rfl rfl (TO_bs (cs := [_, _, _, _, _, _, _, _, _, _, _, _]) Tryd.underlying28 zs30 (by decide) rfl rfl rfl rfl rfl rfl fun g1008 => ?_)
    refine ⟨fun _ h => h.sub (by (repeat (first | exact Sb.r | exact Sb.ar | exact Sb.al | apply Sb.c | apply Sb.d | refine Sb.t ?_)); done), ?_⟩
    refine TA_p 9 rfl (by kernel_rfl) (PV_bld (cs := [_, _, _, _, _, _]) Tryd.underlying30 pl30 zr30 rfl rfl) ?_
    refine TA_one 12 (by kernel_rfl) rfl rfl (TO_store 3 rfl rfl rfl sz30 rfl rfl rfl (all_one rfl) (by first | exact Nat.le_of_ble_eq_true rfl | (simp; done) | (simp; omega) | omega) ?_)
    refine ⟨fun _ h => h.sub (by (repeat (first | exact Sb.r | exact Sb.ar | exact Sb.al | apply Sb.c | apply Sb.d | refine Sb.t ?_)); done), ?_⟩
    refine TA_p 13 rfl (by kernel_rfl) (PV_assign rfl) ?_
    refine TA_done (by kernel_rfl) ?_
    refine ?L11
    all_goals
      refine T.perm (perm_tail (X := _ :: _ :: _ :: H) (N := ([] ++ N57) ++ N65)) ?_
      refine T_ret ?_
      refine ret_ret (ResV_tct rfl rfl Tryd.underlying30 rfl sz30 rfl (Rds.take 2 rfl rfl rfl) rfl) ?_
      exact ⟨H ++ (_ :: (([] ++ N57) ++ N65)), List.Sublist.cons _ (List.Sublist.cons _ (List.Sublist.cons _ (List.Sublist.refl _))), ⟨3, S4.zero, some ⟨_, 0, none⟩, 2, 2⟩, _, _, rfl, ⟨some ⟨_, 0, none⟩, 2, v57, v65, rfl, Nat.le_refl _, Shows.cast rfl (Shows.at 0 rfl), hv57.mono fun w h => h.sub (List.Sublist.cons _ (List.sublist_append_left N57 N65)), hv65.mono fun w h => h.sub (List.Sublist.cons _ (List.sublist_append_right N57 N65))⟩, hq65, rfl⟩
  · have e49 : Value.int .u8 (n.tmod 9) = .int .u8 3 := by rw [hq]
    refine TCall_intro (args := [_, _]) Tryd.func31 rfl Tryd.ntmps31 (Nat.le_of_ble_eq_true rfl) ?_
    refine T_seq ?_
    refine T_region ?_
    refine TL_p (PV_assign rfl) ?_
    refine TL_cons rfl (TO_alloc rfl zr30 fun g3001 => ?_)
    refine TL_p (PV_assign rfl) ?_
    refine TL_nil ?_
    refine T_seq ?_
    refine T_seq ?_
    refine T_region ?_
    refine TL_p (PV_move rfl) ?_
    refine TL_p (PV_len_slice Tryd.underlying22 rfl) ?_
    refine TL_p (PV_bin rfl rfl bin_eql) ?_
    refine TL_nil ?_
    refine T_else rfl (by rfl) ?_
    refine T_skip ?_
    refine T_seq ?_
    refine T_region ?_
    refine TL_p (PV_move rfl) ?_
    refine TL_p (PV_indexAddr (i := 0) Tryd.underlying22 sz5 rfl rfl rfl (by first | omega | decide | assumption)) ?_
    refine TL_p (PV_load Tryd.underlying5 rfl rfl (Rd.mono hr (fun w h => h.sub (by (repeat (first | exact Sb.r | exact Sb.ar | exact Sb.al | apply Sb.d | refine Sb.t ?_)); done)))) ?_
    refine TL_p (PV_assign rfl) ?_
    refine TL_nil ?_
    refine T_seq ?_
    refine T_region ?_
    refine TL_p (PV_move rfl) ?_
    refine TL_p (PV_slice (l := 1) Tryd.underlying22 sz5 rfl (by omega) ⟨_, rfl⟩ rfl (by omega) (by omega)) ?_
    refine TL_p (PV_assign rfl) ?_
    refine TL_nil ?_
    refine T_seq ?_
    refine T_seq ?_
    refine T_region ?_
    refine TL_p (PV_move rfl) ?_
    refine TL_p (PV.cast (PV_bin rfl rfl bin_leq) e38) ?_
    refine TL_nil ?_
    refine T_else rfl (by rfl) ?_
    refine T_skip ?_
    refine T_seq ?_
    refine T_seq ?_
    refine T_region ?_
    refine TL_p (PV_move rfl) ?_
    refine TL_p (PV.cast (PV_bin rfl rfl (bin_rem (by decide))) e49) ?_
    refine TL_nil ?_
    refine T_block ?_
    refine T_seq ?_
    refine T_seq ?_
    refine T_region ?_
    refine TL_p (PV_bin rfl rfl bin_eql) ?_
    refine TL_p (PV_assign rfl) ?_
    refine TL_nil ?_
    refine T_else rfl (by rfl) ?_
    refine T_region ?_
    refine TL_p (PV_bin rfl rfl bin_eql) ?_
    refine TL_p (PV_assign rfl) ?_
    refine TL_nil ?_
    refine T_else rfl (by rfl) ?_
    refine T_seq ?_
    refine T_seq ?_
    refine T_region ?_
    refine TL_p (PV_bin rfl rfl bin_eql) ?_
    refine TL_p (PV_assign rfl) ?_
    refine TL_nil ?_
    refine T_else rfl (by rfl) ?_
    refine T_region ?_
    refine TL_p (PV_bin rfl rfl bin_eql) ?_
    refine TL_p (PV_assign rfl) ?_
    refine TL_nil ?_
    refine T_then rfl (by rfl) ?_
    refine T_seq ?_
    refine T_region ?_
    refine TL_p (PV_move rfl) ?_
    refine TL_p (PV_move rfl) ?_
    refine TL_p (PV.cast (PV_bin rfl rfl bin_sub) e56) ?_
    refine TL_cons rfl (TO_build (N0 := []) hB rfl rfl (List.append_nil _).symm (hsub.trans (by repeat (first | exact Sb.r | exact Sb.ar | exact Sb.al | apply Sb.d | refine Sb.t ?_))) hrest fun v57 N57 q57 hv57 hq57 => ?_)
    refine TL_p (PV_move rfl) ?_
    refine TL_p (PV_extract rfl rfl) ?_
    refine TL_p (PV_extract rfl rfl) ?_
    refine TL_p (PV_extract rfl rfl) ?_
    refine TL_cons rfl (TO_alloc rfl zr30 fun g3003 => ?_)
    refine TL_p (PV_assign rfl) ?_
    refine TL_cons rfl (TO_store 0 rfl rfl rfl sz30 rfl rfl rfl (all_one rfl) (by first | exact Nat.le_of_ble_eq_true rfl | (simp; done) | (simp; omega) | omega) ?_)
    refine TL_p (PV_assign rfl) ?_
    refine TL_nil ?_
    refine T_seq ?_
    refine T_region ?_
    refine TL_p (PV_move rfl) ?_
    refine TL_p (PV_move rfl) ?_
    refine TL_p (PV.cast (PV_bin rfl rfl bin_sub) e56) ?_
    refine TL_cons rfl (TO_build (X := _ :: _ :: H) (N0 := [] ++ N57) hB rfl rfl rfl ((hsub.trans (List.sublist_append_left H ([] ++ N57))).trans (by repeat (first | exact Sb.r | exact Sb.ar | exact Sb.al | apply Sb.d | refine Sb.t ?_))) hq57 fun v65 N65 q65 hv65 hq65 => ?_)
    refine TL_p (PV_move rfl) ?_
    refine TL_p (PV_extract rfl rfl) ?_
    refine TL_p (PV_extract rfl rfl) ?_
    refine TL_p (PV_extract rfl rfl) ?_
    refine TL_cons rfl (TO_alloc rfl zr30 fun g3006 => ?_)
    refine TL_p (PV_assign rfl) ?_
    refine TL_cons rfl (TO_store 0 rfl rfl rfl sz30 rfl rfl rfl (all_one rfl) (by first | exact Nat.le_of_ble_eq_true rfl | (simp; done) | (simp; omega) | omega) ?_)
    refine TL_p (PV_assign rfl) ?_
    refine TL_nil ?_
    refine T_seq ?_
    refine T_drawnE 2 mixed ?_
    refine TA_p 0 rfl (by kernel_rfl) (PV_move rfl) ?_
    refine TA_p 1 rfl (by kernel_rfl) (PV_bin rfl rfl (bin_cat h40 rfl (by simp; omega))) ?_
    refine TA_p 2 rfl (by kernel_rfl) (PV_bin rfl rfl (bin_cat rfl h12440 (by simp; omega))) ?_
    refine TA_p 3 rfl (by kernel_rfl) (PV_move rfl) ?_
    refine TA_p 4 rfl (by kernel_rfl) (PV_bin rfl rfl (bin_cat rfl rfl (by simp; omega))) ?_
    refine TA_p 5 rfl (by kernel_rfl) (PV_bin rfl rfl (bin_cat rfl h4141 (by simp; omega))) ?_
    refine TA_p 6 rfl (by kernel_rfl) (PV_loadAt Tryd.underlying30 rfl sz30 rfl (Rds.take 1 rfl rfl rfl)) ?_
    refine TA_p 7 rfl (by kernel_rfl) (PV_loadAt Tryd.underlying30 rfl sz30 rfl (Rds.take 0 rfl rfl rfl)) ?_
    refine TA_p 10 rfl (by kernel_rfl) (PV_move rfl) ?_
    refine TA_p 11 rfl (by kernel_rfl) (PV_assign rfl) ?_
    refine TA_one 8 (by kernel_rfl) rfl rfl (TO_bs (cs := [_, _, _, _, _, _, _, _, _, _, _, _]) Tryd.underlying28 zs30 (by decide) rfl rfl rfl rfl rfl rfl fun g3008 => ?_)
    refine ⟨fun _ h => h.sub (by (repeat (first | exact Sb.r | exact Sb.ar | exact Sb.al | apply Sb.c | apply Sb.d | refine Sb.t ?_)); done), ?_⟩
    refine TA_p 9 rfl (by kernel_rfl) (PV_bld (cs := [_, _, _, _, _, _]) Tryd.underlying30 pl30 zr30 rfl rfl) ?_
    refine TA_one 12 (by kernel_rfl) rfl rfl (TO_store 3 rfl rfl rfl sz30 rfl rfl rfl (all_one rfl) (by first | exact Nat.le_of_ble_eq_true rfl | (simp; done) | (simp; omega) | omega) ?_)
    refine ⟨fun _ h => h.sub (by (repeat (first | exact Sb.r | exact Sb.ar | exact Sb.al | apply Sb.c | apply Sb.d | refine Sb.t ?_)); done), ?_⟩
    refine TA_p 13 rfl (by kernel_rfl) (PV_assign rfl) ?_
    refine TA_done (by kernel_rfl) ?_
    refine ?L31
    all_goals
      refine T.perm (perm_tail (X := _ :: _ :: _ :: H) (N := ([] ++ N57) ++ N65)) ?_
      refine T_ret ?_
      refine ret_ret (ResV_tct rfl rfl Tryd.underlying30 rfl sz30 rfl (Rds.take 2 rfl rfl rfl) rfl) ?_
      exact ⟨H ++ (_ :: (([] ++ N57) ++ N65)), List.Sublist.cons _ (List.Sublist.cons _ (List.Sublist.cons _ (List.Sublist.refl _))), ⟨3, S4.zero, some ⟨_, 0, none⟩, 2, 2⟩, _, _, rfl, ⟨some ⟨_, 0, none⟩, 2, v57, v65, rfl, Nat.le_refl _, Shows.cast rfl (Shows.at 0 rfl), hv57.mono fun w h => h.sub (List.Sublist.cons _ (List.sublist_append_left N57 N65)), hv65.mono fun w h => h.sub (List.Sublist.cons _ (List.sublist_append_right N57 N65))⟩, hq65, rfl⟩
theorem build_star {d : Nat} (hd3 : d ≤ 100) (hB : BuildC w0 B d) (hL : ∀ l, (mk d l).1.length ≤ 100000) {H0 : List Chunk} (hsub : H0.Sublist H) {A : Option Addr} {m c : Nat} {n : Int} {l : List Int} (hcase : n.tmod 9 = 4) (hS : Shows (WH w0 B H0) A m 1 (nums .u8 (n :: l))) (hlm : (n :: l).length = m) (hc : m ≤ c) (hm : m ≤ 4611686018427387904) (hu : U8s (n :: l)) : TCall Tryd.prog w0 B 31 #[.slice A m c, .int .i64 ((d + 1 : Nat) : Int)] (fun r H' => ∃ (v : Nv) (N : List Chunk) (q : Value), r = .tuple #[.string (strOfNums (mk (d + 1) (n :: l)).1), v.val, q] ∧ Tr (WH w0 B N) (mk (d + 1) (n :: l)).2.1 v ∧ RestOk (WH w0 B H0) (mk (d + 1) (n :: l)).2.2 q ∧ H' = H ++ N) H := by
  subst hlm
  refine TCall_shows (hS.mono fun w h => h.sub hsub) (by simp [nums]) fun g o hA hrd => ?_
  subst hA
  have hr : Rd (WH w0 B H) ⟨g, o + 0 * 1, none⟩ (.int .u8 n) := hrd 0 _ rfl
  have hx := hu n (by simp)
  have hl1 : (n :: l).length = l.length + 1 := rfl
  rw [hl1] at hc hm hS ⊢
  have hrest := rest_tail (m := 0) hS hc hm hu
  have hL1 := hL l
  have hL2 := hL (mk d l).2.2
  rw [mk_star hcase]
  have h40 : strOfNums [40] = ⟨#[40]⟩ := by kernel_rfl
  have h4142 : strOfNums [41, 42] = ⟨#[41, 42]⟩ := by kernel_rfl
  have e56 : Value.int .i64 (IntKind.i64.wrap (((d + 1 : Nat) : Int) - 1)) = .int .i64 (d : Int) := wr64n _ (by omega) (by omega)
  have e38 : Value.bool (decide (((d + 1 : Nat) : Int) ≤ 0)) = .bool false := by rw [decide_eq_false (by omega)]
  have e49 : Value.int .u8 (n.tmod 9) = .int .u8 4 := by rw [hcase]
  refine TCall_intro (args := [_, _]) Tryd.func31 rfl Tryd.ntmps31 (Nat.le_of_ble_eq_true rfl) ?_
  refine T_seq ?_
  refine T_region ?_
  refine TL_p (PV_assign rfl) ?_
  refine TL_cons rfl (TO_alloc rfl zr30 fun g1001 => ?_)
  refine TL_p (PV_assign rfl) ?_
  refine TL_nil ?_
  refine T_seq ?_
  refine T_seq ?_
  refine T_region ?_
  refine TL_p (PV_move rfl) ?_
  refine TL_p (PV_len_slice Tryd.underlying22 rfl) ?_
  refine TL_p (PV_bin rfl rfl bin_eql) ?_
  refine TL_nil ?_
  refine T_else rfl (by rfl) ?_
  refine T_skip ?_
  refine T_seq ?_
  refine T_region ?_
  refine TL_p (PV_move rfl) ?_
  refine TL_p (PV_indexAddr (i := 0) Tryd.underlying22 sz5 rfl rfl rfl (by first | omega | decide | assumption)) ?_
  refine TL_p (PV_load Tryd.underlying5 rfl rfl (Rd.mono hr (fun w h => h.sub (by (repeat (first | exact Sb.r | exact Sb.ar | exact Sb.al | apply Sb.d | refine Sb.t ?_)); done)))) ?_
  refine TL_p (PV_assign rfl) ?_
  refine TL_nil ?_
  refine T_seq ?_
  refine T_region ?_
  refine TL_p (PV_move rfl) ?_
  refine TL_p (PV_slice (l := 1) Tryd.underlying22 sz5 rfl (by omega) ⟨_, rfl⟩ rfl (by omega) (by omega)) ?_
  refine TL_p (PV_assign rfl) ?_
  refine TL_nil ?_
  refine T_seq ?_
  refine T_seq ?_
  refine T_region ?_
  refine TL_p (PV_move rfl) ?_
  refine TL_p (PV.cast (PV_bin rfl rfl bin_leq) e38) ?_
  refine TL_nil ?_
  refine T_else rfl (by rfl) ?_
  refine T_skip ?_
  refine T_seq ?_
  refine T_seq ?_
  refine T_region ?_
  refine TL_p (PV_move rfl) ?_
  refine TL_p (PV.cast (PV_bin rfl rfl (bin_rem (by decide))) e49) ?_
  refine TL_nil ?_
  refine T_block ?_
  refine T_seq ?_
  refine T_seq ?_
  refine T_region ?_
  refine TL_p (PV_bin rfl rfl bin_eql) ?_
  refine TL_p (PV_assign rfl) ?_
  refine TL_nil ?_
  refine T_else rfl (by rfl) ?_
  refine T_region ?_
  refine TL_p (PV_bin rfl rfl bin_eql) ?_
  refine TL_p (PV_assign rfl) ?_
  refine TL_nil ?_
  refine T_else rfl (by rfl) ?_
  refine T_seq ?_
  refine T_seq ?_
  refine T_region ?_
  refine TL_p (PV_bin rfl rfl bin_eql) ?_
  refine TL_p (PV_assign rfl) ?_
  refine TL_nil ?_
  refine T_else rfl (by rfl) ?_
  refine T_region ?_
  refine TL_p (PV_bin rfl rfl bin_eql) ?_
  refine TL_p (PV_assign rfl) ?_
  refine TL_nil ?_
  refine T_else rfl (by rfl) ?_
  refine T_seq ?_
  refine T_region ?_
  refine TL_p (PV_bin rfl rfl bin_eql) ?_
  refine TL_p (PV_assign rfl) ?_
  refine TL_nil ?_
  refine T_then rfl (by rfl) ?_
  refine T_seq ?_
  refine T_region ?_
  refine TL_p (PV_move rfl) ?_
  refine TL_p (PV_move rfl) ?_
  refine TL_p (PV.cast (PV_bin rfl rfl bin_sub) e56) ?_
  refine TL_cons rfl (TO_build (N0 := []) hB rfl rfl (List.append_nil _).symm (hsub.trans (by repeat (first | exact Sb.r | exact Sb.ar | exact Sb.al | apply Sb.d | refine Sb.t ?_))) hrest fun v57 N57 q57 hv57 hq57 => ?_)
  refine TL_p (PV_move rfl) ?_
  refine TL_p (PV_extract rfl rfl) ?_
  refine TL_p (PV_extract rfl rfl) ?_
  refine TL_p (PV_extract rfl rfl) ?_
  refine TL_cons rfl (TO_alloc rfl zr30 fun g1003 => ?_)
  refine TL_p (PV_assign rfl) ?_
  refine TL_cons rfl (TO_store 0 rfl rfl rfl sz30 rfl rfl rfl (all_one rfl) (by first | exact Nat.le_of_ble_eq_true rfl | (simp; done) | (simp; omega) | omega) ?_)
  refine TL_p (PV_assign rfl) ?_
  refine TL_nil ?_
  refine T_seq ?_
  refine T_drawnE 1 mixed ?_
  refine TA_p 0 rfl (by kernel_rfl) (PV_move rfl) ?_
  refine TA_p 1 rfl (by kernel_rfl) (PV_bin rfl rfl (bin_cat h40 rfl (by simp; omega))) ?_
  refine TA_p 2 rfl (by kernel_rfl) (PV_bin rfl rfl (bin_cat rfl h4142 (by simp; omega))) ?_
  refine TA_p 3 rfl (by kernel_rfl) (PV_loadAt Tryd.underlying30 rfl sz30 rfl (Rds.take 0 rfl rfl rfl)) ?_
  refine TA_p 6 rfl (by kernel_rfl) (PV_move rfl) ?_
  refine TA_p 7 rfl (by kernel_rfl) (PV_assign rfl) ?_
  refine TA_one 4 (by kernel_rfl) rfl rfl (TO_bs (cs := [_, _, _, _, _, _]) Tryd.underlying28 zs30 (by decide) rfl rfl rfl rfl rfl rfl fun g1005 => ?_)
  refine ⟨fun _ h => h.sub (by (repeat (first | exact Sb.r | exact Sb.ar | exact Sb.al | apply Sb.c | apply Sb.d | refine Sb.t ?_)); done), ?_⟩
  refine TA_p 5 rfl (by kernel_rfl) (PV_bld (cs := [_, _, _, _, _, _]) Tryd.underlying30 pl30 zr30 rfl rfl) ?_
  refine TA_one 8 (by kernel_rfl) rfl rfl (TO_store 2 rfl rfl rfl sz30 rfl rfl rfl (all_one rfl) (by first | exact Nat.le_of_ble_eq_true rfl | (simp; done) | (simp; omega) | omega) ?_)
  refine ⟨fun _ h => h.sub (by (repeat (first | exact Sb.r | exact Sb.ar | exact Sb.al | apply Sb.c | apply Sb.d | refine Sb.t ?_)); done), ?_⟩
  refine TA_p 9 rfl (by kernel_rfl) (PV_assign rfl) ?_
  refine TA_done (by kernel_rfl) ?_
  refine ?L11
  all_goals
      refine T.perm (perm_tail (X := _ :: _ :: H) (N := [] ++ N57)) ?_
      refine T_ret ?_
      refine ret_ret (ResV_tct rfl rfl Tryd.underlying30 rfl sz30 rfl (Rds.take 1 rfl rfl rfl) rfl) ?_
      exact ⟨H ++ (_ :: ([] ++ N57)), List.Sublist.cons _ (List.Sublist.cons _ (List.Sublist.refl _)), ⟨4, S4.zero, some ⟨_, 0, none⟩, 1, 1⟩, _, _, rfl, ⟨some ⟨_, 0, none⟩, 1, v57, rfl, Nat.le_refl _, Shows.cast rfl (Shows.at 0 rfl), hv57.mono fun w h => h.sub (List.Sublist.cons _ (List.Sublist.refl _))⟩, hq57, rfl⟩
theorem build_opt {d : Nat} (hd3 : d ≤ 100) (hB : BuildC w0 B d) (hL : ∀ l, (mk d l).1.length ≤ 100000) {H0 : List Chunk} (hsub : H0.Sublist H) {A : Option Addr} {m c : Nat} {n : Int} {l : List Int} (hcase : n.tmod 9 = 5) (hS : Shows (WH w0 B H0) A m 1 (nums .u8 (n :: l))) (hlm : (n :: l).length = m) (hc : m ≤ c) (hm : m ≤ 4611686018427387904) (hu : U8s (n :: l)) : TCall Tryd.prog w0 B 31 #[.slice A m c, .int .i64 ((d + 1 : Nat) : Int)] (fun r H' => ∃ (v : Nv) (N : List Chunk) (q : Value), r = .tuple #[.string (strOfNums (mk (d + 1) (n :: l)).1), v.val, q] ∧ Tr (WH w0 B N) (mk (d + 1) (n :: l)).2.1 v ∧ RestOk (WH w0 B H0) (mk (d + 1) (n :: l)).2.2 q ∧ H' = H ++ N) H := by
  subst hlm
  refine TCall_shows (hS.mono fun w h => h.sub hsub) (by simp [nums]) fun g o hA hrd => ?_
  subst hA
  have hr : Rd (WH w0 B H) ⟨g, o + 0 * 1, none⟩ (.int .u8 n) := hrd 0 _ rfl
  have hx := hu n (by simp)
  have hl1 : (n :: l).length = l.length + 1 := rfl
  rw [hl1] at hc hm hS ⊢
  have hrest := rest_tail (m := 0) hS hc hm hu
  have hL1 := hL l
  have hL2 := hL (mk d l).2.2
  rw [mk_opt hcase]
  have h40 : strOfNums [40] = ⟨#[40]⟩ := by kernel_rfl
  have h4163 : strOfNums [41, 63] = ⟨#[41, 63]⟩ := by kernel_rfl
  have e56 : Value.int .i64 (IntKind.i64.wrap (((d + 1 : Nat) : Int) - 1)) = .int .i64 (d : Int) := wr64n _ (by omega) (by omega)
  have e38 : Value.bool (decide (((d + 1 : Nat) : Int) ≤ 0)) = .bool false := by rw [decide_eq_false (by omega)]
  have e49 : Value.int .u8 (n.tmod 9) = .int .u8 5 := by rw [hcase]
  refine TCall_intro (args := [_, _]) Tryd.func31 rfl Tryd.ntmps31 (Nat.le_of_ble_eq_true rfl) ?_
  refine T_seq ?_
  refine T_region ?_
  refine TL_p (PV_assign rfl) ?_
  refine TL_cons rfl (TO_alloc rfl zr30 fun g1001 => ?_)
  refine TL_p (PV_assign rfl) ?_
  refine TL_nil ?_
  refine T_seq ?_
  refine T_seq ?_
  refine T_region ?_
  refine TL_p (PV_move rfl) ?_
  refine TL_p (PV_len_slice Tryd.underlying22 rfl) ?_
  refine TL_p (PV_bin rfl rfl bin_eql) ?_
  refine TL_nil ?_
  refine T_else rfl (by rfl) ?_
  refine T_skip ?_
  refine T_seq ?_
  refine T_region ?_
  refine TL_p (PV_move rfl) ?_
  refine TL_p (PV_indexAddr (i := 0) Tryd.underlying22 sz5 rfl rfl rfl (by first | omega | decide | assumption)) ?_
  refine TL_p (PV_load Tryd.underlying5 rfl rfl (Rd.mono hr (fun w h => h.sub (by (repeat (first | exact Sb.r | exact Sb.ar | exact Sb.al | apply Sb.d | refine Sb.t ?_)); done)))) ?_
  refine TL_p (PV_assign rfl) ?_
  refine TL_nil ?_
  refine T_seq ?_
  refine T_region ?_
  refine TL_p (PV_move rfl) ?_
  refine TL_p (PV_slice (l := 1) Tryd.underlying22 sz5 rfl (by omega) ⟨_, rfl⟩ rfl (by omega) (by omega)) ?_
  refine TL_p (PV_assign rfl) ?_
  refine TL_nil ?_
  refine T_seq ?_
  refine T_seq ?_
  refine T_region ?_
  refine TL_p (PV_move rfl) ?_
  refine TL_p (PV.cast (PV_bin rfl rfl bin_leq) e38) ?_
  refine TL_nil ?_
  refine T_else rfl (by rfl) ?_
  refine T_skip ?_
  refine T_seq ?_
  refine T_seq ?_
  refine T_region ?_
  refine TL_p (PV_move rfl) ?_
  refine TL_p (PV.cast (PV_bin rfl rfl (bin_rem (by decide))) e49) ?_
  refine TL_nil ?_
  refine T_block ?_
  refine T_seq ?_
  refine T_seq ?_
  refine T_region ?_
  refine TL_p (PV_bin rfl rfl bin_eql) ?_
  refine TL_p (PV_assign rfl) ?_
  refine TL_nil ?_
  refine T_else rfl (by rfl) ?_
  refine T_region ?_
  refine TL_p (PV_bin rfl rfl bin_eql) ?_
  refine TL_p (PV_assign rfl) ?_
  refine TL_nil ?_
  refine T_else rfl (by rfl) ?_
  refine T_seq ?_
  refine T_seq ?_
  refine T_region ?_
  refine TL_p (PV_bin rfl rfl bin_eql) ?_
  refine TL_p (PV_assign rfl) ?_
  refine TL_nil ?_
  refine T_else rfl (by rfl) ?_
  refine T_region ?_
  refine TL_p (PV_bin rfl rfl bin_eql) ?_
  refine TL_p (PV_assign rfl) ?_
  refine TL_nil ?_
  refine T_else rfl (by rfl) ?_
  refine T_seq ?_
  refine T_region ?_
  refine TL_p (PV_bin rfl rfl bin_eql) ?_
  refine TL_p (PV_assign rfl) ?_
  refine TL_nil ?_
  refine T_else rfl (by rfl) ?_
  refine T_seq ?_
  refine T_region ?_
  refine TL_p (PV_bin rfl rfl bin_eql) ?_
  refine TL_p (PV_assign rfl) ?_
  refine TL_nil ?_
  refine T_then rfl (by rfl) ?_
  refine T_seq ?_
  refine T_region ?_
  refine TL_p (PV_move rfl) ?_
  refine TL_p (PV_move rfl) ?_
  refine TL_p (PV.cast (PV_bin rfl rfl bin_sub) e56) ?_
  refine TL_cons rfl (TO_build (N0 := []) hB rfl rfl (List.append_nil _).symm (hsub.trans (by repeat (first | exact Sb.r | exact Sb.ar | exact Sb.al | apply Sb.d | refine Sb.t ?_))) hrest fun v57 N57 q57 hv57 hq57 => ?_)
  refine TL_p (PV_move rfl) ?_
  refine TL_p (PV_extract rfl rfl) ?_
  refine TL_p (PV_extract rfl rfl) ?_
  refine TL_p (PV_extract rfl rfl) ?_
  refine TL_cons rfl (TO_alloc rfl zr30 fun g1003 => ?_)
  refine TL_p (PV_assign rfl) ?_
  refine TL_cons rfl (TO_store 0 rfl rfl rfl sz30 rfl rfl rfl (all_one rfl) (by first | exact Nat.le_of_ble_eq_true rfl | (simp; done) | (simp; omega) | omega) ?_)
  refine TL_p (PV_assign rfl) ?_
  refine TL_nil ?_
  refine T_seq ?_
  refine T_drawnE 1 mixed ?_
  refine TA_p 0 rfl (by kernel_rfl) (PV_move rfl) ?_
  refine TA_p 1 rfl (by kernel_rfl) (PV_bin rfl rfl (bin_cat h40 rfl (by simp; omega))) ?_
  refine TA_p 2 rfl (by kernel_rfl) (PV_bin rfl rfl (bin_cat rfl h4163 (by simp; omega))) ?_
  refine TA_p 3 rfl (by kernel_rfl) (PV_loadAt Tryd.underlying30 rfl sz30 rfl (Rds.take 0 rfl rfl rfl)) ?_
  refine TA_p 4 rfl (by kernel_rfl) (PV_bld (cs := [_, _, _, _, _, _]) Tryd.underlying30 pl30 zr30 rfl rfl) ?_
  refine TA_p 7 rfl (by kernel_rfl) (PV_move rfl) ?_
  refine TA_p 8 rfl (by kernel_rfl) (PV_assign rfl) ?_
  refine TA_one 5 (by kernel_rfl) rfl rfl (TO_bs (cs := [_, _, _, _, _, _, _, _, _, _, _, _]) Tryd.underlying28 zs30 (by decide) rfl rfl rfl rfl rfl rfl fun g1005 => ?_)
  refine ⟨fun _ h => h.sub (by (repeat (first | exact Sb.r | exact Sb.ar | exact Sb.al | apply Sb.c | apply Sb.d | refine Sb.t ?_)); done), ?_⟩
  refine TA_p 6 rfl (by kernel_rfl) (PV_bld (cs := [_, _, _, _, _, _]) Tryd.underlying30 pl30 zr30 rfl rfl) ?_
  refine TA_one 9 (by kernel_rfl) rfl rfl (TO_store 2 rfl rfl rfl sz30 rfl rfl rfl (all_one rfl) (by first | exact Nat.le_of_ble_eq_true rfl | (simp; done) | (simp; omega) | omega) ?_)
  refine ⟨fun _ h => h.sub (by (repeat (first | exact Sb.r | exact Sb.ar | exact Sb.al | apply Sb.c | apply Sb.d | refine Sb.t ?_)); done), ?_⟩
  refine TA_p 10 rfl (by kernel_rfl) (PV_assign rfl) ?_
  refine TA_done (by kernel_rfl) ?_
  refine ?L11
  all_goals
      refine T.perm (perm_tail (X := _ :: _ :: H) (N := [] ++ N57)) ?_
      refine T_ret ?_
      refine ret_ret (ResV_tct rfl rfl Tryd.underlying30 rfl sz30 rfl (Rds.take 1 rfl rfl rfl) rfl) ?_
      exact ⟨H ++ (_ :: ([] ++ N57)), List.Sublist.cons _ (List.Sublist.cons _ (List.Sublist.refl _)), ⟨3, S4.zero, some ⟨_, 0, none⟩, 2, 2⟩, _, _, rfl, ⟨some ⟨_, 0, none⟩, 2, v57, nv0, rfl, Nat.le_refl _, Shows.cast rfl (Shows.at 0 rfl), hv57.mono fun w h => h.sub (List.Sublist.cons _ (List.Sublist.refl _)), rfl⟩, hq57, rfl⟩
theorem build_plus {d : Nat} (hd3 : d ≤ 100) (hB : BuildC w0 B d) (hL : ∀ l, (mk d l).1.length ≤ 100000) {H0 : List Chunk} (hsub : H0.Sublist H) {A : Option Addr} {m c : Nat} {n : Int} {l : List Int} (hcase : n.tmod 9 = 6) (hS : Shows (WH w0 B H0) A m 1 (nums .u8 (n :: l))) (hlm : (n :: l).length = m) (hc : m ≤ c) (hm : m ≤ 4611686018427387904) (hu : U8s (n :: l)) : TCall Tryd.prog w0 B 31 #[.slice A m c, .int .i64 ((d + 1 : Nat) : Int)] (fun r H' => ∃ (v : Nv) (N : List Chunk) (q : Value), r = .tuple #[.string (strOfNums (mk (d + 1) (n :: l)).1), v.val, q] ∧ Tr (WH w0 B N) (mk (d + 1) (n :: l)).2.1 v ∧ RestOk (WH w0 B H0) (mk (d + 1) (n :: l)).2.2 q ∧ H' = H ++ N) H := by
  subst hlm
  refine TCall_shows (hS.mono fun w h => h.sub hsub) (by simp [nums]) fun g o hA hrd => ?_
  subst hA
  have hr : Rd (WH w0 B H) ⟨g, o + 0 * 1, none⟩ (.int .u8 n) := hrd 0 _ rfl
  have hx := hu n (by simp)
  have hl1 : (n :: l).length = l.length + 1 := rfl
  rw [hl1] at hc hm hS ⊢
  have hrest := rest_tail (m := 0) hS hc hm hu
  have hL1 := hL l
  have hL2 := hL (mk d l).2.2
  rw [mk_plus hcase]
  have h40 : strOfNums [40] = ⟨#[40]⟩ := by kernel_rfl
  have h4143 : strOfNums [41, 43] = ⟨#[41, 43]⟩ := by kernel_rfl
  have e56 : Value.int .i64 (IntKind.i64.wrap (((d + 1 : Nat) : Int) - 1)) = .int .i64 (d : Int) := wr64n _ (by omega) (by omega)
  have e38 : Value.bool (decide (((d + 1 : Nat) : Int) ≤ 0)) = .bool false := by rw [decide_eq_false (by omega)]
  have e49 : Value.int .u8 (n.tmod 9) = .int .u8 6 := by rw [hcase]
  refine TCall_intro (args := [_, _]) Tryd.func31 rfl Tryd.ntmps31 (Nat.le_of_ble_eq_true rfl) ?_
  refine T_seq ?_
  refine T_region ?_
  refine TL_p (PV_assign rfl) ?_
  refine TL_cons rfl (TO_alloc rfl zr30 fun g1001 => ?_)
  refine TL_p (PV_assign rfl) ?_
  refine TL_nil ?_
  refine T_seq ?_
  refine T_seq ?_
  refine T_region ?_
  refine TL_p (PV_move rfl) ?_
  refine TL_p (PV_len_slice Tryd.underlying22 rfl) ?_
  refine TL_p (PV_bin rfl rfl bin_eql) ?_
  refine TL_nil ?_
  refine T_else rfl (by rfl) ?_
  refine T_skip ?_
  refine T_seq ?_
  refine T_region ?_
  refine TL_p (PV_move rfl) ?_
  refine TL_p (PV_indexAddr (i := 0) Tryd.underlying22 sz5 rfl rfl rfl (by first | omega | decide | assumption)) ?_
  refine TL_p (PV_load Tryd.underlying5 rfl rfl (Rd.mono hr (fun w h => h.sub (by (repeat (first | exact Sb.r | exact Sb.ar | exact Sb.al | apply Sb.d | refine Sb.t ?_)); done)))) ?_
  refine TL_p (PV_assign rfl) ?_
  refine TL_nil ?_
  refine T_seq ?_
  refine T_region ?_
  refine TL_p (PV_move rfl) ?_
  refine TL_p (PV_slice (l := 1) Tryd.underlying22 sz5 rfl (by omega) ⟨_, rfl⟩ rfl (by omega) (by omega)) ?_
  refine TL_p (PV_assign rfl) ?_
  refine TL_nil ?_
  refine T_seq ?_
  refine T_seq ?_
  refine T_region ?_
  refine TL_p (PV_move rfl) ?_
  refine TL_p (PV.cast (PV_bin rfl rfl bin_leq) e38) ?_
  refine TL_nil ?_
  refine T_else rfl (by rfl) ?_
  refine T_skip ?_
  refine T_seq ?_
  refine T_seq ?_
  refine T_region ?_
  refine TL_p (PV_move rfl) ?_
  refine TL_p (PV.cast (PV_bin rfl rfl (bin_rem (by decide))) e49) ?_
  refine TL_nil ?_
  refine T_block ?_
  refine T_seq ?_
  refine T_seq ?_
  refine T_region ?_
  refine TL_p (PV_bin rfl rfl bin_eql) ?_
  refine TL_p (PV_assign rfl) ?_
  refine TL_nil ?_
  refine T_else rfl (by rfl) ?_
  refine T_region ?_
  refine TL_p (PV_bin rfl rfl bin_eql) ?_
  refine TL_p (PV_assign rfl) ?_
  refine TL_nil ?_
  refine T_else rfl (by rfl) ?_
  refine T_seq ?_
  refine T_seq ?_
  refine T_region ?_
  refine TL_p (PV_bin rfl rfl bin_eql) ?_
  refine TL_p (PV_assign rfl) ?_
  refine TL_nil ?_
  refine T_else rfl (by rfl) ?_
  refine T_region ?_
  refine TL_p (PV_bin rfl rfl bin_eql) ?_
  refine TL_p (PV_assign rfl) ?_
  refine TL_nil ?_
  refine T_else rfl (by rfl) ?_
  refine T_seq ?_
  refine T_region ?_
  refine TL_p (PV_bin rfl rfl bin_eql) ?_
  refine TL_p (PV_assign rfl) ?_
  refine TL_nil ?_
  refine T_else rfl (by rfl) ?_
  refine T_seq ?_
  refine T_region ?_
  refine TL_p (PV_bin rfl rfl bin_eql) ?_
  refine TL_p (PV_assign rfl) ?_
  refine TL_nil ?_
  refine T_else rfl (by rfl) ?_
  refine T_seq ?_
  refine T_region ?_
  refine TL_p (PV_bin rfl rfl bin_eql) ?_
  refine TL_p (PV_assign rfl) ?_
  refine TL_nil ?_
  refine T_then rfl (by rfl) ?_
  refine T_seq ?_
  refine T_region ?_
  refine TL_p (PV_move rfl) ?_
  refine TL_p (PV_move rfl) ?_
  refine TL_p (PV.cast (PV_bin rfl rfl bin_sub) e56) ?_
  refine TL_cons rfl (TO_build (N0 := []) hB rfl rfl (List.append_nil _).symm (hsub.trans (by repeat (first | exact Sb.r | exact Sb.ar | exact Sb.al | apply Sb.d | refine Sb.t ?_))) hrest fun v57 N57 q57 hv57 hq57 => ?_)
  refine TL_p (PV_move rfl) ?_
  refine TL_p (PV_extract rfl rfl) ?_
  refine TL_p (PV_extract rfl rfl) ?_
  refine TL_p (PV_extract rfl rfl) ?_
  refine TL_cons rfl (TO_alloc rfl zr30 fun g1003 => ?_)
  refine TL_p (PV_assign rfl) ?_
  refine TL_cons rfl (TO_store 0 rfl rfl rfl sz30 rfl rfl rfl (all_one rfl) (by first | exact Nat.le_of_ble_eq_true rfl | (simp; done) | (simp; omega) | omega) ?_)
  refine TL_p (PV_assign rfl) ?_
  refine TL_nil ?_
  refine T_seq ?_
  refine T_drawnE 1 mixed ?_
  refine TA_p 0 rfl (by kernel_rfl) (PV_move rfl) ?_
  refine TA_p 1 rfl (by kernel_rfl) (PV_bin rfl rfl (bin_cat h40 rfl (by simp; omega))) ?_
  refine TA_p 2 rfl (by kernel_rfl) (PV_bin rfl rfl (bin_cat rfl h4143 (by simp; omega))) ?_
  refine TA_p 3 rfl (by kernel_rfl) (PV_loadAt Tryd.underlying30 rfl sz30 rfl (Rds.take 0 rfl rfl rfl)) ?_
  refine TA_p 4 rfl (by kernel_rfl) (PV_loadAt Tryd.underlying30 rfl sz30 rfl (Rds.take 0 rfl rfl rfl)) ?_
  refine TA_p 9 rfl (by kernel_rfl) (PV_move rfl) ?_
  refine TA_p 10 rfl (by kernel_rfl) (PV_assign rfl) ?_
  refine TA_one 5 (by kernel_rfl) rfl rfl (TO_bs (cs := [_, _, _, _, _, _]) Tryd.underlying28 zs30 (by decide) rfl rfl rfl rfl rfl rfl fun g1005 => ?_)
  refine ⟨fun _ h => h.sub (by (repeat (first | exact Sb.r | exact Sb.ar | exact Sb.al | apply Sb.c | apply Sb.d | refine Sb.t ?_)); done), ?_⟩
  refine TA_p 6 rfl (by kernel_rfl) (PV_bld (cs := [_, _, _, _, _, _]) Tryd.underlying30 pl30 zr30 rfl rfl) ?_
  refine TA_one 7 (by kernel_rfl) rfl rfl (TO_bs (cs := [_, _, _, _, _, _, _, _, _, _, _, _]) Tryd.underlying28 zs30 (by decide) rfl rfl rfl rfl rfl rfl fun g1006 => ?_)
  refine ⟨fun _ h => h.sub (by (repeat (first | exact Sb.r | exact Sb.ar | exact Sb.al | apply Sb.c | apply Sb.d | refine Sb.t ?_)); done), ?_⟩
  refine TA_p 8 rfl (by kernel_rfl) (PV_bld (cs := [_, _, _, _, _, _]) Tryd.underlying30 pl30 zr30 rfl rfl) ?_
  refine TA_one 11 (by kernel_rfl) rfl rfl (TO_store 3 rfl rfl rfl sz30 rfl rfl rfl (all_one rfl) (by first | exact Nat.le_of_ble_eq_true rfl | (simp; done) | (simp; omega) | omega) ?_)
  refine ⟨fun _ h => h.sub (by (repeat (first | exact Sb.r | exact Sb.ar | exact Sb.al | apply Sb.c | apply Sb.d | refine Sb.t ?_)); done), ?_⟩
  refine TA_p 12 rfl (by kernel_rfl) (PV_assign rfl) ?_
  refine TA_done (by kernel_rfl) ?_
  refine ?L11
  all_goals
      refine T.perm (perm_tailT (X := _ :: _ :: H) (N := [] ++ N57)) ?_
      refine T_ret ?_
      refine ret_ret (ResV_tct rfl rfl Tryd.underlying30 rfl sz30 rfl (Rds.take 1 rfl rfl rfl) rfl) ?_
      exact ⟨H ++ (_ :: _ :: ([] ++ N57)), List.Sublist.cons _ (List.Sublist.cons _ (List.Sublist.refl _)), ⟨2, S4.zero, some ⟨_, 0, none⟩, 2, 2⟩, _, _, rfl, ⟨some ⟨_, 0, none⟩, 2, v57, ⟨4, S4.zero, some ⟨_, 0, none⟩, 1, 1⟩, rfl, Nat.le_refl _, Shows.cast rfl (Shows.at 0 rfl), hv57.mono fun w h => h.sub (List.Sublist.cons _ (List.Sublist.cons _ (List.Sublist.refl _))), ⟨some ⟨_, 0, none⟩, 1, v57, rfl, Nat.le_refl _, Shows.cast rfl (Shows.at 1 rfl), hv57.mono fun w h => h.sub (List.Sublist.cons _ (List.Sublist.cons _ (List.Sublist.refl _)))⟩⟩, hq57, rfl⟩
theorem build_any {d : Nat} (hd3 : d ≤ 100) (hB : BuildC w0 B d) (hL : ∀ l, (mk d l).1.length ≤ 100000) {H0 : List Chunk} (hsub : H0.Sublist H) {A : Option Addr} {m c : Nat} {n : Int} {l : List Int} (hcase : n.tmod 9 = 7) (hS : Shows (WH w0 B H0) A m 1 (nums .u8 (n :: l))) (hlm : (n :: l).length = m) (hc : m ≤ c) (hm : m ≤ 4611686018427387904) (hu : U8s (n :: l)) : TCall Tryd.prog w0 B 31 #[.slice A m c, .int .i64 ((d + 1 : Nat) : Int)] (fun r H' => ∃ (v : Nv) (N : List Chunk) (q : Value), r = .tuple #[.string (strOfNums (mk (d + 1) (n :: l)).1), v.val, q] ∧ Tr (WH w0 B N) (mk (d + 1) (n :: l)).2.1 v ∧ RestOk (WH w0 B H0) (mk (d + 1) (n :: l)).2.2 q ∧ H' = H ++ N) H := by
  subst hlm
  refine TCall_shows (hS.mono fun w h => h.sub hsub) (by simp [nums]) fun g o hA hrd => ?_
  subst hA
  have hr : Rd (WH w0 B H) ⟨g, o + 0 * 1, none⟩ (.int .u8 n) := hrd 0 _ rfl
  have hx := hu n (by simp)
  have hl1 : (n :: l).length = l.length + 1 := rfl
  rw [hl1] at hc hm hS ⊢
  have hrest := rest_tail (m := 0) hS hc hm hu
  have hL1 := hL l
  have hL2 := hL (mk d l).2.2
  rw [mk_any hcase]
  have h46 : strOfNums [46] = ⟨#[46]⟩ := by kernel_rfl
  have e56 : Value.int .i64 (IntKind.i64.wrap (((d + 1 : Nat) : Int) - 1)) = .int .i64 (d : Int) := wr64n _ (by omega) (by omega)
  have e38 : Value.bool (decide (((d + 1 : Nat) : Int) ≤ 0)) = .bool false := by rw [decide_eq_false (by omega)]
  rw [h46]
  have e49 : Value.int .u8 (n.tmod 9) = .int .u8 7 := by rw [hcase]
  have hN := fun {X : List Chunk} => Not_t (w0 := w0) (B := B) (H := X) S4.zero
  refine TCall_intro (args := [_, _]) Tryd.func31 rfl Tryd.ntmps31 (Nat.le_of_ble_eq_true rfl) ?_
  refine T_seq ?_
  refine T_region ?_
  refine TL_p (PV_assign rfl) ?_
  refine TL_cons rfl (TO_alloc rfl zr30 fun g1001 => ?_)
  refine TL_p (PV_assign rfl) ?_
  refine TL_nil ?_
  refine T_seq ?_
  refine T_seq ?_
  refine T_region ?_
  refine TL_p (PV_move rfl) ?_
  refine TL_p (PV_len_slice Tryd.underlying22 rfl) ?_
  refine TL_p (PV_bin rfl rfl bin_eql) ?_
  refine TL_nil ?_
  refine T_else rfl (by rfl) ?_
  refine T_skip ?_
  refine T_seq ?_
  refine T_region ?_
  refine TL_p (PV_move rfl) ?_
  refine TL_p (PV_indexAddr (i := 0) Tryd.underlying22 sz5 rfl rfl rfl (by first | omega | decide | assumption)) ?_
  refine TL_p (PV_load Tryd.underlying5 rfl rfl (Rd.mono hr (fun w h => h.sub (by (repeat (first | exact Sb.r | exact Sb.ar | exact Sb.al | apply Sb.d | refine Sb.t ?_)); done)))) ?_
  refine TL_p (PV_assign rfl) ?_
  refine TL_nil ?_
  refine T_seq ?_
  refine T_region ?_
  refine TL_p (PV_move rfl) ?_
  refine TL_p (PV_slice (l := 1) Tryd.underlying22 sz5 rfl (by omega) ⟨_, rfl⟩ rfl (by omega) (by omega)) ?_
  refine TL_p (PV_assign rfl) ?_
  refine TL_nil ?_
  refine T_seq ?_
  refine T_seq ?_
  refine T_region ?_
  refine TL_p (PV_move rfl) ?_
  refine TL_p (PV.cast (PV_bin rfl rfl bin_leq) e38) ?_
  refine TL_nil ?_
  refine T_else rfl (by rfl) ?_
  refine T_skip ?_
  refine T_seq ?_
  refine T_seq ?_
  refine T_region ?_
  refine TL_p (PV_move rfl) ?_
  refine TL_p (PV.cast (PV_bin rfl rfl (bin_rem (by decide))) e49) ?_
  refine TL_nil ?_
  refine T_block ?_
  refine T_seq ?_
  refine T_seq ?_
  refine T_region ?_
  refine TL_p (PV_bin rfl rfl bin_eql) ?_
  refine TL_p (PV_assign rfl) ?_
  refine TL_nil ?_
  refine T_else rfl (by rfl) ?_
  refine T_region ?_
  refine TL_p (PV_bin rfl rfl bin_eql) ?_
  refine TL_p (PV_assign rfl) ?_
  refine TL_nil ?_
  refine T_else rfl (by rfl) ?_
  refine T_seq ?_
  refine T_seq ?_
  refine T_region ?_
  refine TL_p (PV_bin rfl rfl bin_eql) ?_
  refine TL_p (PV_assign rfl) ?_
  refine TL_nil ?_
  refine T_else rfl (by rfl) ?_
  refine T_region ?_
  refine TL_p (PV_bin rfl rfl bin_eql) ?_
  refine TL_p (PV_assign rfl) ?_
  refine TL_nil ?_
  refine T_else rfl (by rfl) ?_
  refine T_seq ?_
  refine T_region ?_
  refine TL_p (PV_bin rfl rfl bin_eql) ?_
  refine TL_p (PV_assign rfl) ?_
  refine TL_nil ?_
  refine T_else rfl (by rfl) ?_
  refine T_seq ?_
  refine T_region ?_
  refine TL_p (PV_bin rfl rfl bin_eql) ?_
  refine TL_p (PV_assign rfl) ?_
  refine TL_nil ?_
  refine T_else rfl (by rfl) ?_
  refine T_seq ?_
  refine T_region ?_
  refine TL_p (PV_bin rfl rfl bin_eql) ?_
  refine TL_p (PV_assign rfl) ?_
  refine TL_nil ?_
  refine T_else rfl (by rfl) ?_
  refine T_seq ?_
  refine T_region ?_
  refine TL_p (PV_bin rfl rfl bin_eql) ?_
  refine TL_p (PV_assign rfl) ?_
  refine TL_nil ?_
  refine T_then rfl (by rfl) ?_
  refine T_seq ?_
  refine T_region ?_
  refine TL_p (PV_buildArr Tryd.underlying27 sz25 zr27) ?_
  refine TL_cons rfl (TO_call0 call18 rfl rfl (hN) ?_)
  rintro v168_1004 H168_1004 ⟨rfl, rfl⟩
  refine TL_p (PV_bld (cs := [_, _, _, _, _, _]) Tryd.underlying30 pl30 zr30 rfl rfl) ?_
  refine TL_p (PV_move rfl) ?_
  refine TL_p (PV_assign rfl) ?_
  refine TL_cons rfl (TO_store 0 rfl rfl rfl sz30 rfl rfl rfl (all_one rfl) (by first | exact Nat.le_of_ble_eq_true rfl | (simp; done) | (simp; omega) | omega) ?_)
  refine TL_p (PV_assign rfl) ?_
  refine TL_nil ?_
  refine ?L11
  all_goals
      refine T_ret ?_
      refine ret_ret (ResV_tct rfl rfl Tryd.underlying30 rfl sz30 rfl (Rds.take 0 rfl rfl rfl) rfl) ?_
      exact ⟨H, List.sublist_cons_self _ _, ⟨1, S4.zero.not_, none, 0, 0⟩, [], _, rfl, rfl, hrest, (List.append_nil H).symm⟩
theorem build_class {d : Nat} (hd3 : d ≤ 100) (hB : BuildC w0 B d) (hL : ∀ l, (mk d l).1.length ≤ 100000) {H0 : List Chunk} (hsub : H0.Sublist H) {A : Option Addr} {m c : Nat} {n : Int} {l : List Int} (hcase : n.tmod 9 = 8) (hS : Shows (WH w0 B H0) A m 1 (nums .u8 (n :: l))) (hlm : (n :: l).length = m) (hc : m ≤ c) (hm : m ≤ 4611686018427387904) (hu : U8s (n :: l)) : TCall Tryd.prog w0 B 31 #[.slice A m c, .int .i64 ((d + 1 : Nat) : Int)] (fun r H' => ∃ (v : Nv) (N : List Chunk) (q : Value), r = .tuple #[.string (strOfNums (mk (d + 1) (n :: l)).1), v.val, q] ∧ Tr (WH w0 B N) (mk (d + 1) (n :: l)).2.1 v ∧ RestOk (WH w0 B H0) (mk (d + 1) (n :: l)).2.2 q ∧ H' = H ++ N) H := by
  subst hlm
  refine TCall_shows (hS.mono fun w h => h.sub hsub) (by simp [nums]) fun g o hA hrd => ?_
  subst hA
  have hr : Rd (WH w0 B H) ⟨g, o + 0 * 1, none⟩ (.int .u8 n) := hrd 0 _ rfl
  have hx := hu n (by simp)
  have hl1 : (n :: l).length = l.length + 1 := rfl
  rw [hl1] at hc hm hS ⊢
  have hrest := rest_tail (m := 0) hS hc hm hu
  have hL1 := hL l
  have hL2 := hL (mk d l).2.2
  rw [mk_class hcase]
  have h919497459893 : strOfNums [91, 94, 97, 45, 98, 93] = ⟨#[91, 94, 97, 45, 98, 93]⟩ := by kernel_rfl
  have e56 : Value.int .i64 (IntKind.i64.wrap (((d + 1 : Nat) : Int) - 1)) = .int .i64 (d : Int) := wr64n _ (by omega) (by omega)
  have e38 : Value.bool (decide (((d + 1 : Nat) : Int) ≤ 0)) = .bool false := by rw [decide_eq_false (by omega)]
  rw [h919497459893]
  have e49 : Value.int .u8 (n.tmod 9) = .int .u8 8 := by rw [hcase]
  have hW1 := fun {X : List Chunk} => With_t (w0 := w0) (B := B) (H := X) S4.zero 97 (by omega)
  have hW2 := fun {X : List Chunk} => With_t (w0 := w0) (B := B) (H := X) (S4.zero.with_ 97) 98 (by omega)
  have hN := fun {X : List Chunk} => Not_t (w0 := w0) (B := B) (H := X) ((S4.zero.with_ 97).with_ 98)
  refine TCall_intro (args := [_, _]) Tryd.func31 rfl Tryd.ntmps31 (Nat.le_of_ble_eq_true rfl) ?_
  refine T_seq ?_
  refine T_region ?_
  refine TL_p (PV_assign rfl) ?_
  refine TL_cons rfl (TO_alloc rfl zr30 fun g1001 => ?_)
  refine TL_p (PV_assign rfl) ?_
  refine TL_nil ?_
  refine T_seq ?_
  refine T_seq ?_
  refine T_region ?_
  refine TL_p (PV_move rfl) ?_
  refine TL_p (PV_len_slice Tryd.underlying22 rfl) ?_
  refine TL_p (PV_bin rfl rfl bin_eql) ?_
  refine TL_nil ?_
  refine T_else rfl (by rfl) ?_
  refine T_skip ?_
  refine T_seq ?_
  refine T_region ?_
  refine TL_p (PV_move rfl) ?_
  refine TL_p (PV_indexAddr (i := 0) Tryd.underlying22 sz5 rfl rfl rfl (by first | omega | decide | assumption)) ?_
  refine TL_p (PV_load Tryd.underlying5 rfl rfl (Rd.mono hr (fun w h => h.sub (by (repeat (first | exact Sb.r | exact Sb.ar | exact Sb.al | apply Sb.d | refine Sb.t ?_)); done)))) ?_
  refine TL_p (PV_assign rfl) ?_
  refine TL_nil ?_
  refine T_seq ?_
  refine T_region ?_
  refine TL_p (PV_move rfl) ?_
  refine TL_p (PV_slice (l := 1) Tryd.underlying22 sz5 rfl (by omega) ⟨_, rfl⟩ rfl (by omega) (by omega)) ?_
  refine TL_p (PV_assign rfl) ?_
  refine TL_nil ?_
  refine T_seq ?_
  refine T_seq ?_
  refine T_region ?_
  refine TL_p (PV_move rfl) ?_
  refine TL_p (PV.cast (PV_bin rfl rfl bin_leq) e38) ?_
  refine TL_nil ?_
  refine T_else rfl (by rfl) ?_
  refine T_skip ?_
  refine T_seq ?_
  refine T_seq ?_
  refine T_region ?_
  refine TL_p (PV_move rfl) ?_
  refine TL_p (PV.cast (PV_bin rfl rfl (bin_rem (by decide))) e49) ?_
  refine TL_nil ?_
  refine T_block ?_
  refine T_seq ?_
  refine T_seq ?_
  refine T_region ?_
  refine TL_p (PV_bin rfl rfl bin_eql) ?_
  refine TL_p (PV_assign rfl) ?_
  refine TL_nil ?_
  refine T_else rfl (by rfl) ?_
  refine T_region ?_
  refine TL_p (PV_bin rfl rfl bin_eql) ?_
  refine TL_p (PV_assign rfl) ?_
  refine TL_nil ?_
  refine T_else rfl (by rfl) ?_
  refine T_seq ?_
  refine T_seq ?_
  refine T_region ?_
  refine TL_p (PV_bin rfl rfl bin_eql) ?_
  refine TL_p (PV_assign rfl) ?_
  refine TL_nil ?_
  refine T_else rfl (by rfl) ?_
  refine T_region ?_
  refine TL_p (PV_bin rfl rfl bin_eql) ?_
  refine TL_p (PV_assign rfl) ?_
  refine TL_nil ?_
  refine T_else rfl (by rfl) ?_
  refine T_seq ?_
  refine T_region ?_
  refine TL_p (PV_bin rfl rfl bin_eql) ?_
  refine TL_p (PV_assign rfl) ?_
  refine TL_nil ?_
  refine T_else rfl (by rfl) ?_
  refine T_seq ?_
  refine T_region ?_
  refine TL_p (PV_bin rfl rfl bin_eql) ?_
  refine TL_p (PV_assign rfl) ?_
  refine TL_nil ?_
  refine T_else rfl (by rfl) ?_
  refine T_seq ?_
  refine T_region ?_
  refine TL_p (PV_bin rfl rfl bin_eql) ?_
  refine TL_p (PV_assign rfl) ?_
  refine TL_nil ?_
  refine T_else rfl (by rfl) ?_
  refine T_seq ?_
  refine T_region ?_
  refine TL_p (PV_bin rfl rfl bin_eql) ?_
  refine TL_p (PV_assign rfl) ?_
  refine TL_nil ?_
  refine T_else rfl (by rfl) ?_
  refine T_skip ?_
  refine T_seq ?_
  refine T_region ?_
  refine TL_p (PV_buildArr Tryd.underlying27 sz25 zr27) ?_
  refine TL_cons rfl (TO_eqD call16 hW1 rfl rfl _ (List.Sublist.refl _) ?_)
  refine TL_cons rfl (TO_eqD call16 hW2 rfl rfl _ (List.Sublist.refl _) ?_)
  refine TL_cons rfl (TO_call0 call18 rfl rfl (hN) ?_)
  rintro v174_1006 H174_1006 ⟨rfl, rfl⟩
  refine TL_p (PV_bld (cs := [_, _, _, _, _, _]) Tryd.underlying30 pl30 zr30 rfl rfl) ?_
  refine TL_p (PV_move rfl) ?_
  refine TL_p (PV_assign rfl) ?_
  refine TL_cons rfl (TO_store 0 rfl rfl rfl sz30 rfl rfl rfl (all_one rfl) (by first | exact Nat.le_of_ble_eq_true rfl | (simp; done) | (simp; omega) | omega) ?_)
  refine TL_p (PV_assign rfl) ?_
  refine TL_nil ?_
  refine ?L11
  all_goals
      refine T_ret ?_
      refine ret_ret (ResV_tct rfl rfl Tryd.underlying30 rfl sz30 rfl (Rds.take 0 rfl rfl rfl) rfl) ?_
      exact ⟨H, List.sublist_cons_self _ _, ⟨1, ((S4.zero.with_ 97).with_ 98).not_, none, 0, 0⟩, [], _, rfl, rfl, hrest, (List.append_nil H).symm⟩
theorem mk_len0 (l : List Int) : (mk 0 l).1.length ≤ 10 := by
  cases l with
  | nil => rw [mk_nil]; decide
  | cons n l => show 1 ≤ 10; decide
theorem mk_lenS {d k : Nat} (h : ∀ l, (mk d l).1.length ≤ k) (l : List Int) : (mk (d + 1) l).1.length ≤ 2 * k + 10 := by
  cases l with
  | nil => rw [mk_nil]; show 1 ≤ _; omega
  | cons n l =>
    have h1 := h l
    have h2 := h (mk d l).2.2
    show (if _ then _ else _ : List Int × Rx × List Int).1.length ≤ _
    repeat' split
    all_goals simp only [List.length_append, List.length_cons, List.length_nil]
    all_goals omega
theorem mk_u8 {d : Nat} : True := trivial
theorem build_succ {d : Nat} (hd3 : d ≤ 100) (hB : BuildC w0 B d) (hL : ∀ l, (mk d l).1.length ≤ 100000) : BuildC w0 B (d + 1) := by
  intro H0 H hsub A m c l hS hlm hc hm hu
  cases l with
  | nil =>
    obtain rfl : m = 0 := hlm.symm
    exact build_nil (d + 1) A c
  | cons n l =>
    have hx := hu n (by simp)
    have h1 := Int.tmod_nonneg 9 hx.1
    have h2 := Int.tmod_lt_of_pos n (show (0 : Int) < 9 by omega)
    by_cases c1 : n.tmod 9 = 0 ∨ n.tmod 9 = 1
    · exact build_then hd3 hB hL hsub c1 hS hlm hc hm hu
    by_cases c2 : n.tmod 9 = 2 ∨ n.tmod 9 = 3
    · exact build_either hd3 hB hL hsub c2 hS hlm hc hm hu
    by_cases c3 : n.tmod 9 = 4
    · exact build_star hd3 hB hL hsub c3 hS hlm hc hm hu
    by_cases c4 : n.tmod 9 = 5
    · exact build_opt hd3 hB hL hsub c4 hS hlm hc hm hu
    by_cases c5 : n.tmod 9 = 6
    · exact build_plus hd3 hB hL hsub c5 hS hlm hc hm hu
    by_cases c6 : n.tmod 9 = 7
    · exact build_any hd3 hB hL hsub c6 hS hlm hc hm hu
    · exact build_class hd3 hB hL hsub (by omega) hS hlm hc hm hu
theorem build_0 : BuildC w0 B 0 := by
  intro H0 H hsub A m c l hS hlm hc hm hu
  cases l with
  | nil =>
    obtain rfl : m = 0 := hlm.symm
    exact build_nil 0 A c
  | cons n l => exact build_zero hsub hS hlm hc hm hu
theorem mk_len {d : Nat} (hd : d ≤ 3) (l : List Int) : (mk d l).1.length ≤ 1000 := by
  have h0 := fun l => mk_len0 l
  have h1 := fun l => mk_lenS h0 l
  have h2 := fun l => mk_lenS h1 l
  have h3 := fun l => mk_lenS h2 l
  rcases (by omega : d = 0 ∨ d = 1 ∨ d = 2 ∨ d = 3) with rfl | rfl | rfl | rfl
  · exact Nat.le_trans (h0 l) (by decide)
  · exact Nat.le_trans (h1 l) (by decide)
  · exact Nat.le_trans (h2 l) (by decide)
  · exact Nat.le_trans (h3 l) (by decide)
theorem build_t : ∀ {d : Nat}, d ≤ 3 → BuildC w0 B d
  | 0, _ => build_0
  | d + 1, h => build_succ (by omega) (build_t (by omega)) (fun l => Nat.le_trans (mk_len (by omega) l) (by decide))
theorem Make_t {d : Nat} (hd : d ≤ 3) {A : Option Addr} {m c : Nat} {l : List Int} (hS : Shows (WH w0 B H) A m 1 (nums .u8 l)) (hlm : l.length = m) (hc : m ≤ c) (hm : m ≤ 4611686018427387904) (hu : U8s l) : TCall Tryd.prog w0 B 11 #[.slice A m c, .int .i64 (d : Int)] (fun r H' => ∃ (v : Nv) (N : List Chunk), r = .tuple #[.string (strOfNums (mk d l).1), v.val] ∧ Tr (WH w0 B N) (mk d l).2.1 v ∧ H' = H ++ N) H := by
  have hr : RestOk (WH w0 B H) l (.slice A m c) := ⟨A, m, c, rfl, hS, hlm, hc, hm, hu⟩
  refine TCall_intro (args := [_, _]) Tryd.func11 rfl Tryd.ntmps11 (Nat.le_of_ble_eq_true rfl) ?_
  refine T_seq ?_
  refine T_region ?_
  refine TL_p (PV_assign rfl) ?_
  refine TL_cons rfl (TO_alloc rfl zr30 fun g1001 => ?_)
  refine TL_nil ?_
  refine T_seq ?_
  refine T_region ?_
  refine TL_p (PV_move rfl) ?_
  refine TL_p (PV_move rfl) ?_
  refine TL_cons rfl (TO_build (N0 := []) (build_t hd) rfl rfl (List.append_nil _).symm (by repeat (first | exact Sb.r | exact Sb.ar | exact Sb.al | apply Sb.d | refine Sb.t ?_)) hr fun v57 N57 q57 hv57 hq57 => ?_)
  refine TL_p (PV_move rfl) ?_
  refine TL_p (PV_extract rfl rfl) ?_
  refine TL_p (PV_extract rfl rfl) ?_
  refine TL_p (PV_extract rfl rfl) ?_
  refine TL_cons rfl (TO_alloc rfl zr30 fun g1003 => ?_)
  refine TL_p (PV_assign rfl) ?_
  refine TL_cons rfl (TO_store 0 rfl rfl rfl sz30 rfl rfl rfl (all_one rfl) (by first | exact Nat.le_of_ble_eq_true rfl | (simp; done) | (simp; omega) | omega) ?_)
  refine TL_p (PV_assign rfl) ?_
  refine TL_nil ?_
  refine T_seq ?_
  refine T_drawnE 1 mixed ?_
  refine TA_p 0 rfl (by kernel_rfl) (PV_move rfl) ?_
  refine TA_p 1 rfl (by kernel_rfl) (PV_loadAt Tryd.underlying30 rfl sz30 rfl (Rds.take 0 rfl rfl rfl)) ?_
  refine TA_p 2 rfl (by kernel_rfl) (PV_assign rfl) ?_
  refine TA_one 3 (by kernel_rfl) rfl rfl (TO_store 1 rfl rfl rfl sz30 rfl rfl rfl (all_one rfl) (by first | exact Nat.le_of_ble_eq_true rfl | (simp; done) | (simp; omega) | omega) ?_)
  refine ⟨fun _ h => h.sub (by (repeat (first | exact Sb.r | exact Sb.ar | exact Sb.al | apply Sb.c | apply Sb.d | refine Sb.t ?_)); done), ?_⟩
  refine TA_done (by kernel_rfl) ?_
  refine ?L11
  all_goals
      refine T_ret ?_
      refine ret_ret (ResV_tc rfl rfl Tryd.underlying30 rfl sz30 rfl (Rds.take 1 rfl rfl rfl)) ?_
      exact ⟨H ++ ([] ++ N57), (by repeat (first | exact Sb.r | exact Sb.ar | exact Sb.al | apply Sb.d | refine Sb.t ?_)), v57, _, rfl, hv57, rfl⟩
end
end Go.Proofs.YtijpbpnfachlkaaDoor.SL
