import Derived.Test.YtijpbpnfachlkaaDoorX1
/- The document's examples of patterns. No statement is proved here. -/
set_option linter.unusedVariables false
set_option linter.unusedSimpArgs false
set_option maxRecDepth 100000
set_option maxHeartbeats 8000000
namespace Go.Proofs.YtijpbpnfachlkaaDoor.SL
open Go Go.RowKit
section
variable {w0 : World} {B n : Nat} {H : List Chunk}
theorem TO_parseB {n : Nat} {fr : Fr} {dst : Option Tmp} {ty : TypeId} {pos : String} {aft : Array Edge} {gd : Option (Nat × Bool)} {K : Fr → List Chunk → Prop} {xs : Array Operand} {ats : Array TypeId} {s : List Int} {p j : Nat} {b : ByteArray} (hp : pParse s = .bad p j) (hu : U8s s) (hs : s.length ≤ 64) (hb : strOfNums s = b) (hd : dOk n dst = true) (hx : evs fr xs.toList = some [.string b]) (h : K (frPut dst (.tuple #[nv0.val, faultV (p : Int)]) fr) H) : TO Tryd.prog w0 B n ⟨dst, .call { callee := .value (.func 12), args := xs, argTypes := ats }, ty, pos, aft, gd⟩ K fr H := by
  subst hb
  exact TO_eqD call12 (Parse_bad (w0 := w0) (B := B) (H := H) hu hs hp) hd hx _ (List.Sublist.refl _) h
theorem TL_shows {P : Program} {ops : Array Oper} {rest : List Oper} {Q : Exit → Fr → List Chunk → Prop} {fr : Fr} {A : Option Addr} {m es : Nat} {ys : List Value} (hS : Shows (WH w0 B H) A m es ys) (hne : 0 < ys.length) (h : ∀ g off, A = some ⟨g, off, none⟩ → (∀ j v, ys[j]? = some v → Rd (WH w0 B H) ⟨g, off + j, none⟩ v) → TL P w0 B n ops rest Q fr H) : TL P w0 B n ops rest Q fr H := by
  intro HX a w hf hr
  have hn : ys ≠ [] := by intro e; subst e; simp at hne
  obtain ⟨p, rfl, hc⟩ := hS.run hn ⟨HX, hr⟩
  have hp : p.spot = none := by
    have h1 := hc 0 _ (List.getElem?_eq_getElem hne)
    simp only [Addr.add, if_true, World.cell?] at h1
    split at h1
    · cases hsp : p.spot with
      | none => rfl
      | some q => simp [hsp] at h1
    · cases h1
  obtain ⟨g, off, sp⟩ := p
  simp only at hp
  subst hp
  refine h g off rfl (fun j v hj w' hw' => ?_) HX a w hf hr
  obtain ⟨p, e, hc⟩ := hS.run hn hw'
  cases e
  have := hc j v hj
  rwa [add_plain'] at this
theorem Parse_limit' {s : List Int} (hs : ¬ s.length ≤ 64) (hs2 : s.length ≤ 9223372036854775807) : TCall Tryd.prog w0 B 12 #[.string (strOfNums s)] (fun r H' => r = .tuple #[nv0.val, .iface 77 (.agg #[.int .i64 7, .int .i64 64])] ∧ H' = H) H := by
  have e8 : Value.int .i64 (((strOfNums s).size : Nat) : Int) = .int .i64 ((s.length : Nat) : Int) := by rw [str_len]
  refine TCall_intro (args := [_]) Tryd.func12 rfl Tryd.ntmps12 (Nat.le_of_ble_eq_true rfl) ?_
  refine T_seq ?_
  refine T_region ?_
  refine TL_cons rfl (TO_alloc rfl zr30 fun g30001 => ?_)
  refine TL_p (PV_assign rfl) ?_
  refine TL_nil ?_
  refine T_seq ?_
  refine T_seq ?_
  refine T_region ?_
  refine TL_p (PV_move rfl) ?_
  refine TL_p (PV.cast (PV_len_string Tryd.underlying9 rfl) e8) ?_
  refine TL_p (PV_bin rfl rfl bin_gtr) ?_
  refine TL_nil ?_
  refine T_then rfl (by exact decide_eq_true (by omega)) ?_
  refine T_seq ?_
  refine T_region ?_
  refine TL_p (PV_bld (cs := [_, _, _, _, _, _]) Tryd.underlying30 pl30 zr30 rfl rfl) ?_
  refine TL_cons rfl (TO_call0 call32 rfl rfl (Wrap_t _ _) ?_)
  rintro v11_30004 H11_30004 ⟨rfl, rfl⟩
  refine TL_cons rfl (TO_store 0 rfl rfl rfl sz30 rfl rfl rfl (all_one rfl) (by first | exact Nat.le_of_ble_eq_true rfl | (simp; done) | (simp; omega) | omega) ?_)
  refine TL_p (PV_assign rfl) ?_
  refine TL_nil ?_
  refine T_ret ?_
  refine ret_ret (ResV_ct rfl Tryd.underlying30 rfl sz30 rfl (Rds.take 0 rfl rfl rfl) rfl) ⟨_, ?zb30006q37, ⟨rfl, rfl⟩⟩
  case zb30006q37 => exact (by (repeat (first | exact Sb.r | exact Sb.ar | exact Sb.al | apply Sb.c | apply Sb.d | refine Sb.t ?_)); done)
theorem TO_parseL {n : Nat} {fr : Fr} {dst : Option Tmp} {ty : TypeId} {pos : String} {aft : Array Edge} {gd : Option (Nat × Bool)} {K : Fr → List Chunk → Prop} {xs : Array Operand} {ats : Array TypeId} {s : List Int} {b : ByteArray} (hs : ¬ s.length ≤ 64) (hs2 : s.length ≤ 9223372036854775807) (hb : strOfNums s = b) (hd : dOk n dst = true) (hx : evs fr xs.toList = some [.string b]) (h : K (frPut dst (.tuple #[nv0.val, .iface 77 (.agg #[.int .i64 7, .int .i64 64])]) fr) H) : TO Tryd.prog w0 B n ⟨dst, .call { callee := .value (.func 12), args := xs, argTypes := ats }, ty, pos, aft, gd⟩ K fr H := by
  subst hb
  exact TO_eqD call12 (Parse_limit' (w0 := w0) (B := B) (H := H) hs hs2) hd hx _ (List.Sublist.refl _) h
theorem awake06_t (hL : Laid w0) (hB0 : 0 < B) : TCall Tryd.prog w0 B 10 #[] (fun r H' => r = .bool true ∧ H' = H) H := by
  obtain ⟨sa, sb, hp, h97⟩ : ∃ sa sb, pParse [97, 124, 98, 42] = .ok (.either (.one sa) (.star (.one sb))) 4 ∧ sa.has 97 = true := ⟨_, _, rfl, by decide⟩
  have hp2 : pParse [97, 41] = .bad 1 1 := rfl
  have hu1 : U8s [97, 124, 98, 42] := u8_small _ (by decide)
  have hu2 : U8s [97, 41] := u8_small _ (by decide)
  have hb1 : strOfNums [97, 124, 98, 42] = ⟨#[97, 124, 98, 42]⟩ := by kernel_rfl
  have hb2 : strOfNums [97, 41] = ⟨#[97, 41]⟩ := by kernel_rfl
  refine TCall_intro (args := []) Tryd.func10 rfl Tryd.ntmps10 (Nat.le_of_ble_eq_true rfl) ?_
  refine T_seq ?_
  refine T_region ?_
  refine TL_p (PV_assign rfl) ?_
  refine TL_nil ?_
  refine T_seq ?_
  refine T_region ?_
  refine TL_cons rfl (TO_parse hp hu1 (by decide) hb1 rfl rfl fun v6 N6 hv6 => ?_)
  refine ?L1
  case L1 =>
    obtain ⟨A, c, x, y, rfl, hc, hS, hx, A2, c2, z, rfl, hc2, hS2, hz⟩ := hv6
    obtain rfl : x = ⟨1, sa, none, 0, 0⟩ := hx
    refine TL_shows (hS.mono fun w h => h.sub (by repeat (first | exact Sb.r | exact Sb.ar | exact Sb.al | apply Sb.d | refine Sb.t ?_))) (by simp [Nv.cells]) fun ga oa hA hr => ?_
    subst hA
    have hk0 := rds_kid hr
    have hk1 := rds_kid2 hr
    have hk0s : RdsK (WH w0 B (H ++ N6)) ga (oa + 0 * 6 + 1) 4 [wv sa.a, wv sa.b, wv sa.c, wv sa.d] := ⟨rfl, fun j v hj => by
      have := hk0.2 (1 + j) v (by rw [show Nv.cells ⟨1, sa, none, 0, 0⟩ = [.int .i64 1] ++ ([wv sa.a, wv sa.b, wv sa.c, wv sa.d] ++ [.slice none 0 0]) from rfl, List.getElem?_append_right (by simp), List.getElem?_append_left (by simpa using (List.getElem?_eq_some_iff.1 hj).1)]; simpa using hj)
      rw [add_plain'] at this ⊢
      rwa [Nat.add_assoc _ 1 j]⟩
    have hk1k : Rd (WH w0 B (H ++ N6)) ⟨ga, oa + 1 * 6 + 0, none⟩ (.int .i64 4) := by
      have := hk1.2 0 _ rfl
      rwa [add_plain'] at this
    have e18 : Value.bool ((3 : Int) == 3) = .bool true := rfl
    have e24 : Value.bool (((2 : Nat) : Int) == 2) = .bool true := rfl
    have e40 : Value.bool ((4 : Int) == 4) = .bool true := rfl
    have hh : ∀ {X : List Chunk}, TCall Tryd.prog w0 B 17 #[sa.val, .int .u8 97] (fun r H' => r = .bool true ∧ H' = X) X := fun {X} => by
      have h := Has_t (w0 := w0) (B := B) (H := X) sa 97 (by omega)
      rwa [h97] at h
    show TL _ _ _ _ _ _ _ [(6, .tuple #[.agg #[.int .i64 3, wv S4.zero.a, wv S4.zero.b, wv S4.zero.c, wv S4.zero.d, .slice (some ⟨ga, oa, none⟩) 2 c], .nilIface]), (0, .bool false)] _
    refine TL_p (PV_move rfl) ?_
    refine TL_p (PV_extract rfl rfl) ?_
    refine TL_p (PV_extract rfl rfl) ?_
    refine TL_cons rfl (TO_alloc rfl zr30 fun g1001 => ?_)
    refine TL_cons rfl (TO_store 0 rfl rfl rfl sz30 rfl rfl rfl (all_one rfl) (by first | exact Nat.le_of_ble_eq_true rfl | (simp; done) | (simp; omega) | omega) ?_)
    refine TL_p (PV_assign rfl) ?_
    refine TL_nil ?_
    refine T_seq ?_
    refine T_region ?_
    refine TL_cons rfl (TO_parseB hp2 hu2 (by decide) hb2 rfl rfl ?_)
    refine TL_p (PV_move rfl) ?_
    refine TL_p (PV_extract rfl rfl) ?_
    refine TL_p (PV_extract rfl rfl) ?_
    refine TL_cons rfl (TO_alloc rfl zr30 fun g1004 => ?_)
    refine TL_cons rfl (TO_store 0 rfl rfl rfl sz30 rfl rfl rfl (all_one rfl) (by first | exact Nat.le_of_ble_eq_true rfl | (simp; done) | (simp; omega) | omega) ?_)
    refine TL_p (PV_assign rfl) ?_
    refine TL_nil ?_
    refine T_seq ?_
    refine T_region ?_
    refine TL_p (PV_move rfl) ?_
    refine TL_p (PV_bin rfl rfl (bin_nil_nil Tryd.underlying34)) ?_
    refine TL_p (PV_move rfl) ?_
    refine TL_yes rfl rfl rfl (TO_pure rfl (PV_fieldAddr (D := 0) Tryd.underlying30 rfl sz24 (by decide) rfl rfl) ?_)
    refine TL_yes rfl rfl rfl (TO_pure rfl (PV_load Tryd.underlying24 rfl rfl (Rd.at 1 rfl rfl)) ?_)
    refine TL_yes rfl rfl rfl (TO_pure rfl (PV.cast (PV_bin rfl rfl bin_eql) e18) ?_)
    refine TL_p (PV_pickAnd rfl rfl rfl) ?_
    refine TL_p (PV_move rfl) ?_
    refine TL_yes rfl rfl rfl (TO_pure rfl (PV_fieldAddr (D := 5) Tryd.underlying30 rfl sz28 (by decide) rfl rfl) ?_)
    refine TL_yes rfl rfl rfl (TO_pure rfl (PV_load Tryd.underlying28 rfl rfl (Rd.at 1 rfl rfl)) ?_)
    refine TL_yes rfl rfl rfl (TO_pure rfl (PV_len_slice Tryd.underlying28 rfl) ?_)
    refine TL_yes rfl rfl rfl (TO_pure rfl (PV.cast (PV_bin rfl rfl bin_eql) e24) ?_)
    refine TL_p (PV_pickAnd rfl rfl rfl) ?_
    refine TL_p (PV_move rfl) ?_
    refine TL_yes rfl rfl rfl (TO_pure rfl (PV_fieldAddr (D := 5) Tryd.underlying30 rfl sz28 (by decide) rfl rfl) ?_)
    refine TL_yes rfl rfl rfl (TO_pure rfl (PV_load Tryd.underlying28 rfl rfl (Rd.at 1 rfl rfl)) ?_)
    refine TL_yes rfl rfl rfl (TO_pure rfl (PV_indexAddr (i := 0) Tryd.underlying28 sz30 rfl rfl rfl (by first | omega | decide | assumption)) ?_)
    refine TL_yes rfl rfl rfl (TO_pure rfl (PV_fieldAddr (D := 1) Tryd.underlying30 rfl sz27 (by decide) rfl rfl) ?_)
    refine TL_yes rfl rfl rfl (TO_pure rfl (PV_loadAt Tryd.underlying27 rfl sz27 rfl (RdsK.mono hk0s (fun w h => h.sub (by (repeat (first | exact Sb.r | exact Sb.ar | exact Sb.al | apply Sb.d | refine Sb.t ?_)); done)))) ?_)
    refine TL_yes rfl rfl rfl (TO_call0 call17 rfl rfl (hh) ?_)
    rintro v32_1008 H32_1008 ⟨rfl, rfl⟩
    refine TL_p (PV_pickAnd rfl rfl rfl) ?_
    refine TL_p (PV_move rfl) ?_
    refine TL_yes rfl rfl rfl (TO_pure rfl (PV_fieldAddr (D := 5) Tryd.underlying30 rfl sz28 (by decide) rfl rfl) ?_)
    refine TL_yes rfl rfl rfl (TO_pure rfl (PV_load Tryd.underlying28 rfl rfl (Rd.at 1 rfl rfl)) ?_)
    refine TL_yes rfl rfl rfl (TO_pure rfl (PV_indexAddr (i := 1) Tryd.underlying28 sz30 rfl rfl rfl (by first | omega | decide | assumption)) ?_)
    refine TL_yes rfl rfl rfl (TO_pure rfl (PV_fieldAddr (D := 0) Tryd.underlying30 rfl sz24 (by decide) rfl rfl) ?_)
    refine TL_yes rfl rfl rfl (TO_pure rfl (PV_load Tryd.underlying24 rfl rfl (Rd.mono hk1k (fun w h => h.sub (by (repeat (first | exact Sb.r | exact Sb.ar | exact Sb.al | apply Sb.d | refine Sb.t ?_)); done)))) ?_)
    refine TL_yes rfl rfl rfl (TO_pure rfl (PV.cast (PV_bin rfl rfl bin_eql) e40) ?_)
    refine TL_p (PV_pickAnd rfl rfl rfl) ?_
    refine TL_p (PV_move rfl) ?_
    refine TL_yes rfl rfl rfl (TO_pure rfl (PV_move rfl) ?_)
    refine TL_yes rfl rfl rfl (TO_call0 call13 rfl rfl (numberF_t ?sd1010q73_0 ?sd1010q73_1 _ _) ?_)
    case sd1010q73_0 => exact hL
    case sd1010q73_1 => exact hB0
    rintro v44_1011 H44_1011 ⟨rfl, rfl⟩
    refine TL_yes rfl rfl rfl (TO_pure rfl (PV_bin rfl rfl bin_eql) ?_)
    refine TL_p (PV_pickAnd rfl rfl rfl) ?_
    refine TL_p (PV_move rfl) ?_
    refine TL_yes rfl rfl rfl (TO_pure rfl (PV_move rfl) ?_)
    refine TL_yes rfl rfl rfl (TO_call0 call14 rfl rfl (placeF_t ?sd1013q73_0 ?sd1013q73_1 _ _) ?_)
    case sd1013q73_0 => exact hL
    case sd1013q73_1 => exact hB0
    rintro v49_1014 H49_1014 ⟨rfl, rfl⟩
    refine TL_yes rfl rfl rfl (TO_pure rfl (PV_bin rfl rfl bin_eql) ?_)
    refine TL_p (PV_pickAnd rfl rfl rfl) ?_
    refine TL_p (PV_assign rfl) ?_
    refine TL_nil ?_
    refine T_ret ?_
    refine ret_ret (ResV_one rfl rfl) ⟨_, ?zb1015q73, ⟨rfl, rfl⟩⟩
    case zb1015q73 => exact (by (repeat (first | exact Sb.r | exact Sb.ar | exact Sb.al | apply Sb.c | apply Sb.d | refine Sb.t ?_)); done)
theorem awake06s (hL : Laid w0) (hB0 : 0 < B) : TCall Tryd.prog w0 B 10 #[] (fun r H' => r = .bool true ∧ H = H') H := (awake06_t hL hB0).mono fun v h q => ⟨q.1, q.2.symm⟩
end
end Go.Proofs.YtijpbpnfachlkaaDoor.SL
