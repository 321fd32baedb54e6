import Derived.Test.YtijpbpnfachlkaaDoorP3
import Derived.Test.YtijpbpnfachlkaaDoorM1
import Derived.Test.YtijpbpnfachlkaaDoorG1
/- Tables of patterns: sets of places. No statement is proved here. -/
set_option linter.unusedVariables false
set_option linter.unusedSimpArgs false
set_option maxRecDepth 100000
set_option maxHeartbeats 4000000
namespace Go.Proofs.YtijpbpnfachlkaaDoor.SL
open Go Go.RowKit
theorem nf_laid : laidOutB Tryd.prog = true := by kernel_rfl
theorem nf_row : (102 : TypeId) < Tryd.prog.types.size := of_decide_eq_true (by kernel_rfl)
theorem nf_c1 : Tryd.prog.cellsOf 3 = 1 := by kernel_rfl
theorem nf_c2 : Tryd.prog.cellsOf 102 = 2 := by kernel_rfl
theorem nf_arr : WideMaps.ArrKey Tryd.prog 102 3 2 := ⟨Tryd.underlying102, by kernel_rfl, nf_c1, nf_c2⟩
theorem nf_wide : (match Tryd.prog.underlying 102 with | some (.array _ _) | some (.struct _) => true | _ => false) = true := by rw [Tryd.underlying102]
theorem nf_law : WideMaps.KeyLaw Tryd.prog 102 := deep_law_laid nf_laid (m := 2) (by omega) nf_row (by kernel_rfl) nf_wide
theorem nf_sz : ∃ m, Tryd.prog.types.size = m + 1 := by
  have h : 0 < Tryd.prog.types.size := Nat.lt_of_le_of_lt (Nat.zero_le _) nf_row
  exact ⟨Tryd.prog.types.size - 1, (Nat.succ_pred_eq_of_pos h).symm⟩
noncomputable def kI : KeyFam Tryd.prog 3 Nat := natFam Tryd.underlying3
noncomputable def kP : KeyFam Tryd.prog 102 (Nat × Nat) := pairFam Tryd.underlying3 nf_arr nf_sz nf_law
abbrev SetI (nn : Nat) (m : Nat → Bool) : Obj → Prop := SetO kI 4 nn m
abbrev SetP (nn : Nat) (m : Nat × Nat → Bool) : Obj → Prop := SetO kP 4 nn m
abbrev MI (W : World → Prop) (v : Value) (nn : Nat) (m : Nat → Bool) : Prop := MS W kI 4 v nn m
theorem okI {x : Nat} (h : x ≤ 1000000000000) : kI.ok x := h
theorem okP {x y : Nat} (h : x ≤ 1000000000000) (h2 : y ≤ 1000000000000) : kP.ok (x, y) := ⟨h, h2⟩
section
variable {w0 : World} {B n : Nat} {fr : Fr} {H X : List Chunk} {dst : Option Tmp} {ty : TypeId} {pos : String} {aft : Array Edge} {gd : Option (Nat × Bool)} {K : Fr → List Chunk → Prop} {W : World → Prop}
theorem TO_nextI {it : Operand} {r cnt : Nat} {m left : Nat → Bool} {last : Option Nat} {I : (Nat → Bool) → Nat → Option Nat → Obj → Prop} (i : Nat) (hi : H[i]? = some (.ob r (I left cnt last))) (hR : Rng W kI m I) (hW : ∀ w, WH w0 B H w → W w) (hd : dOk n dst = true) (hit : ev fr it = some (.pointer (some ⟨r, 0, none⟩)))
    (hDone : (∀ a, kI.ok a → left a = false) → K (frPut dst (.tuple #[.bool false]) fr) H)
    (hMore : ∀ (x : Nat) (cnt' : Nat) (left' : Nat → Bool), kI.ok x → left x = true → m x = true → cnt' < cnt → (∀ a, kI.ok a → (left' a = true ↔ left a = true ∧ a ≠ x)) → K (frPut dst (.tuple #[.bool true, .int .i64 (x : Int), .bool true]) fr) (H.set i (.ob r (I left' cnt' (some x))))) :
    TO Tryd.prog w0 B n ⟨dst, .next it false, ty, pos, aft, gd⟩ K fr H := TO_nextMS (F := kI) i hi hR hW hd hit hDone hMore
theorem PV_entryI {it : Operand} {r cnt : Nat} {m left : Nat → Bool} {x : Nat} {I : (Nat → Bool) → Nat → Option Nat → Obj → Prop} (i : Nat) (hi : H[i]? = some (.ob r (I left cnt (some x)))) (hR : Rng W kI m I) (hW : ∀ w, WH w0 B H w → W w) (hit : ev fr it = some (.pointer (some ⟨r, 0, none⟩))) :
    PV Tryd.prog n (WH w0 B H) fr ⟨dst, .entry it, ty, pos, aft, gd⟩ (.tuple #[.int .i64 (x : Int), .bool true]) := PV_entryMS (F := kI) i hi hR hW hit
theorem TO_rangeI {t : TypeId} {mo : Operand} {v : Value} {nn : Nat} {m : Nat → Bool} (hM : MI W v nn m) (hW : ∀ w, WH w0 B H w → W w) (ht : Tryd.prog.underlying t = some (.map 3 4)) (hd : dOk n dst = true) (hm : ev fr mo = some v)
    (h : ∀ (I : (Nat → Bool) → Nat → Option Nat → Obj → Prop) (r cnt : Nat), Rng W kI m I → cnt ≤ nn → K (frPut dst (.pointer (some ⟨r, 0, none⟩)) fr) (.ob r (I m cnt none) :: H)) : TO Tryd.prog w0 B n ⟨dst, .range t mo, ty, pos, aft, gd⟩ K fr H := TO_rangeMS hM hW ht hd hm h
theorem TO_upI {t : TypeId} {mo xo vo : Operand} {g nn : Nat} {m : Nat → Bool} (i : Nat) (hi : H[i]? = some (.ob g (SetI nn m))) (ht : Tryd.prog.underlying t = some (.map 3 4)) (hn : nn < 1000000000000) {x : Nat} (hx : kI.ok x) (hd : dOk n dst = true)
    (hm : ev fr mo = some (.map (some g))) (hk : ev fr xo = some (.int .i64 (x : Int))) (hv : ev fr vo = some (.bool true)) (h : K (frPut dst undef fr) (H.set i (.ob g (SetI (nn + 1) (insB m x))))) : TO Tryd.prog w0 B n ⟨dst, .mapUpdate t mo xo vo, ty, pos, aft, gd⟩ K fr H :=
  TO_mapUp (F := kI) i hi ht Tryd.underlying4 hn hx rfl hd hm hk hv h
theorem TO_insI {t : TypeId} {mo xo vo : Operand} {g nn : Nat} {m : Nat → Bool} (i : Nat) (hi : H[i]? = some (.ob g (SetI nn m))) (ht : Tryd.prog.underlying t = some (.map 3 4)) (hn : nn < 1000000000000) {x : Nat} (hx : kI.ok x) (hd : dOk n dst = true)
    (hm : ev fr mo = some (.map (some g))) (hk : ev fr xo = some (.int .i64 (x : Int))) (hv : ev fr vo = some (.bool true)) (h : K (frPut dst undef fr) (H.set i (.ob g (SetI (nn + 1) (insB m x))))) : TO Tryd.prog w0 B n ⟨dst, .insert t mo xo vo, ty, pos, aft, gd⟩ K fr H :=
  TO_mapIns (F := kI) i hi ht Tryd.underlying4 hn hx rfl hd hm hk hv h
theorem TO_upP {t : TypeId} {mo xo vo : Operand} {g nn : Nat} {m : Nat × Nat → Bool} (i : Nat) (hi : H[i]? = some (.ob g (SetP nn m))) (ht : Tryd.prog.underlying t = some (.map 102 4)) (hn : nn < 1000000000000) {x y : Nat} (hx : kP.ok (x, y)) (hd : dOk n dst = true)
    (hm : ev fr mo = some (.map (some g))) (hk : ev fr xo = some (.agg #[.int .i64 (x : Int), .int .i64 (y : Int)])) (hv : ev fr vo = some (.bool true)) (h : K (frPut dst undef fr) (H.set i (.ob g (SetP (nn + 1) (insB m (x, y)))))) : TO Tryd.prog w0 B n ⟨dst, .mapUpdate t mo xo vo, ty, pos, aft, gd⟩ K fr H :=
  TO_mapUp (F := kP) i hi ht Tryd.underlying4 hn hx rfl hd hm hk hv h
theorem TO_makeI {t : TypeId} (hd : dOk n dst = true) (h : ∀ g, K (frPut dst (.map (some g)) fr) (.ob g (SetI 0 (fun _ => false)) :: H)) : TO Tryd.prog w0 B n ⟨dst, .makeMap t none, ty, pos, aft, gd⟩ K fr H := TO_makeMap kI 4 hd h
theorem TO_makeP {t : TypeId} (hd : dOk n dst = true) (h : ∀ g, K (frPut dst (.map (some g)) fr) (.ob g (SetP 0 (fun _ => false)) :: H)) : TO Tryd.prog w0 B n ⟨dst, .makeMap t none, ty, pos, aft, gd⟩ K fr H := TO_makeMap kP 4 hd h
theorem PV_lookI {t : TypeId} {mo xo : Operand} {v : Value} {nn : Nat} {m : Nat → Bool} (hM : MI W v nn m) (ht : Tryd.prog.underlying t = some (.map 3 4)) {x : Nat} (hx : kI.ok x) (hm : ev fr mo = some v) (hk : ev fr xo = some (.int .i64 (x : Int))) : PV Tryd.prog n W fr ⟨dst, .lookup t mo xo false, ty, pos, aft, gd⟩ (.bool (m x)) :=
  PV_lookMS hM ht zr4 hx rfl hm hk
theorem PV_lookP {t : TypeId} {mo xo : Operand} {g nn : Nat} {m : Nat × Nat → Bool} (i : Nat) (hi : H[i]? = some (.ob g (SetP nn m))) (ht : Tryd.prog.underlying t = some (.map 102 4)) {x y : Nat} (hx : kP.ok (x, y)) (hm : ev fr mo = some (.map (some g))) (hk : ev fr xo = some (.agg #[.int .i64 (x : Int), .int .i64 (y : Int)])) : PV Tryd.prog n (WH w0 B H) fr ⟨dst, .lookup t mo xo false, ty, pos, aft, gd⟩ (.bool (m (x, y))) :=
  PV_lookOb (F := kP) i hi ht zr4 hx rfl hm hk
theorem some_t {b : Bool} {v : Value} : TCall Tryd.prog w0 B 54 #[.bool b, v] (fun r H' => r = (if b then v else .map none) ∧ H' = H) H := by
  cases b with
  | true => refine TCall_intro (args := [_, _]) Tryd.func54 rfl Tryd.ntmps54 (Nat.le_of_ble_eq_true rfl) ?_
            refine T_seq ?_
            refine T_region ?_
            refine TL_p (PV_assign rfl) ?_
            refine TL_nil ?_
            refine T_seq ?_
            refine T_seq ?_
            refine T_region ?_
            refine TL_p (PV_move rfl) ?_
            refine TL_nil ?_
            refine T_then rfl (by rfl) ?_
            refine T_seq ?_
            refine T_region ?_
            refine TL_p (PV_move rfl) ?_
            refine TL_p (PV_assign rfl) ?_
            refine TL_nil ?_
            refine T_ret ?_
            refine ret_ret (ResV_one rfl rfl) ⟨_, List.Sublist.refl _, ⟨rfl, rfl⟩⟩
  | false => refine TCall_intro (args := [_, _]) Tryd.func54 rfl Tryd.ntmps54 (Nat.le_of_ble_eq_true rfl) ?_
             refine T_seq ?_
             refine T_region ?_
             refine TL_p (PV_assign rfl) ?_
             refine TL_nil ?_
             refine T_seq ?_
             refine T_seq ?_
             refine T_region ?_
             refine TL_p (PV_move rfl) ?_
             refine TL_nil ?_
             refine T_else rfl (by rfl) ?_
             refine T_skip ?_
             refine T_seq ?_
             refine T_region ?_
             refine TL_p (PV_assign rfl) ?_
             refine TL_nil ?_
             refine T_ret ?_
             refine ret_ret (ResV_one rfl rfl) ⟨_, List.Sublist.refl _, ⟨rfl, rfl⟩⟩
theorem both_t {va vb : Value} {na nb : Nat} {ma mb : Nat → Bool} (hA : MI (WH w0 B H) va na ma) (hB : MI (WH w0 B H) vb nb mb) (hn : na + nb < 1000000000) :
    TCall Tryd.prog w0 B 53 #[va, vb] (fun r H' => ∃ (g nn : Nat) (m : Nat → Bool), r = .map (some g) ∧ nn ≤ na + nb ∧ (∀ x, kI.ok x → m x = (ma x || mb x)) ∧ H' = .ob g (SetI nn m) :: H) H := by
  refine TCall_intro (args := [_, _]) Tryd.func53 rfl Tryd.ntmps53 (Nat.le_of_ble_eq_true rfl) ?_
  refine T_seq ?_
  refine T_region ?_
  refine TL_p (PV_assign rfl) ?_
  refine TL_nil ?_
  refine T_seq ?_
  refine T_region ?_
  refine TL_cons rfl (TO_makeI rfl fun g8 => ?_)
  refine TL_p (PV_assign rfl) ?_
  refine TL_nil ?_
  refine T_seq ?_
  refine T_seq ?_
  refine T_region ?_
  refine TL_p (PV_move rfl) ?_
  refine TL_cons rfl (TO_rangeI hA (fun w h => h.sub (by repeat (first | exact Sb.r | exact Sb.ar | exact Sb.al | apply Sb.d | refine Sb.t ?_))) Tryd.underlying95 rfl rfl fun I10 r10 c10 hR10 hc10 => ?_)
  refine TL_nil ?_
  refine T_block ?_
  refine ?L1
  case L1 =>
    refine T_loopP5 (fun (left : Nat → Bool) (cnt : Nat) (last : Option Nat) (nn : Nat) (m : Nat → Bool) => nn + cnt ≤ na ∧ ∀ x, kI.ok x → m x = (ma x && !left x)) (fun _ cnt _ _ _ => cnt) (fun left cnt last nn m => [(1, vb), (5, .map (some g8)), (10, .pointer (some ⟨r10, 0, none⟩))]) (fun left cnt last nn m => .ob r10 (I10 left cnt last) :: .ob g8 (SetI nn m) :: H) ma c10 none 0 (fun _ => false) ⟨by omega, fun x hx => by cases ma x <;> rfl⟩ (by repeat (first | exact FrSub.nil _ | refine FrSub.cons rfl ?_)) (Has.of_sub (by repeat (first | exact Sb.r | exact Sb.ar | exact Sb.al | apply Sb.c | apply Sb.d | refine Sb.t ?_))) ?_
    rintro left cnt last nn m ⟨hnn, hm⟩
    refine T_seq ?_
    refine T_region ?_
    refine ?L11
    case L11 =>
      refine TL_cons rfl (TO_nextI 0 rfl hR10 (fun w h => h.sub (by repeat (first | exact Sb.r | exact Sb.ar | exact Sb.al | apply Sb.d | refine Sb.t ?_))) rfl rfl (fun hl => ?_) (fun x cnt' left' hx hlx hmx hc hl' => ?_))
      · have hm2 : ∀ x, kI.ok x → m x = ma x := fun x hx => by rw [hm x hx, hl x hx]; cases ma x <;> rfl
        refine TL_p (PV_extract rfl rfl) ?_
        refine TL_nil ?_
        refine T_seq ?_
        refine T_else rfl (by rfl) ?_
        refine T_exit ?_
        refine T_seq ?_
        refine T_seq ?_
        refine T_region ?_
        refine TL_p (PV_move rfl) ?_
        refine TL_cons rfl (TO_rangeI hB (fun w h => h.sub (by repeat (first | exact Sb.r | exact Sb.ar | exact Sb.al | apply Sb.d | refine Sb.t ?_))) Tryd.underlying95 rfl rfl fun I18 r18 c18 hR18 hc18 => ?_)
        refine TL_nil ?_
        refine T_block ?_
        refine ?L21
        case L21 =>
          refine T_loopP5 (fun (left : Nat → Bool) (cnt : Nat) (last : Option Nat) (nn : Nat) (m : Nat → Bool) => nn + cnt ≤ na + nb ∧ ∀ x, kI.ok x → m x = (ma x || (mb x && !left x))) (fun _ cnt _ _ _ => cnt) (fun left cnt last nn m => [(5, .map (some g8)), (18, .pointer (some ⟨r18, 0, none⟩))]) (fun left cnt last nn m => .ob r18 (I18 left cnt last) :: .ob g8 (SetI nn m) :: H) mb c18 none nn m ⟨by omega, fun x hx => by rw [hm2 x hx]; cases ma x <;> cases mb x <;> rfl⟩ (by repeat (first | exact FrSub.nil _ | refine FrSub.cons rfl ?_)) (Has.of_sub (by repeat (first | exact Sb.r | exact Sb.ar | exact Sb.al | apply Sb.c | apply Sb.d | refine Sb.t ?_))) ?_
          rintro left cnt last nn m ⟨hnn, hm⟩
          refine T_seq ?_
          refine T_region ?_
          refine ?L31
          case L31 =>
            refine TL_cons rfl (TO_nextI 0 rfl hR18 (fun w h => h.sub (by repeat (first | exact Sb.r | exact Sb.ar | exact Sb.al | apply Sb.d | refine Sb.t ?_))) rfl rfl (fun hl => ?_) (fun x cnt' left' hx hlx hmx hc hl' => ?_))
            · have hm3 : ∀ x, kI.ok x → m x = (ma x || mb x) := fun x hx => by rw [hm x hx, hl x hx]; cases ma x <;> cases mb x <;> rfl
              have hnn2 : nn ≤ na + nb := by omega
              refine TL_p (PV_extract rfl rfl) ?_
              refine TL_nil ?_
              refine T_seq ?_
              refine T_else rfl (by rfl) ?_
              refine T_exit ?_
              refine T_seq ?_
              refine T_region ?_
              refine TL_p (PV_move rfl) ?_
              refine TL_p (PV_assign rfl) ?_
              refine TL_nil ?_
              refine T_ret ?_
              refine ret_ret (ResV_one rfl rfl) ⟨_, ?zb4001q81, ⟨_, _, _, rfl, hnn2, hm3, rfl⟩⟩
              case zb4001q81 => exact (by (repeat (first | exact Sb.r | exact Sb.ar | exact Sb.al | apply Sb.c | apply Sb.d | refine Sb.t ?_)); done)
            · refine TL_p (PV_extract rfl rfl) ?_
              refine TL_nil ?_
              refine T_seq ?_
              refine T_then rfl (by rfl) ?_
              refine T_skip ?_
              refine T_block ?_
              refine T_seq ?_
              refine T_region ?_
              refine TL_p (PV_entryI 0 rfl hR18 (fun w h => h.sub (by repeat (first | exact Sb.r | exact Sb.ar | exact Sb.al | apply Sb.d | refine Sb.t ?_))) rfl) ?_
              refine TL_p (PV_extract rfl rfl) ?_
              refine TL_p (PV_assign rfl) ?_
              refine TL_nil ?_
              refine T_region ?_
              refine TL_p (PV_move rfl) ?_
              refine TL_p (PV_move rfl) ?_
              refine TL_cons rfl (TO_upI 1 rfl Tryd.underlying95 (by omega) hx rfl rfl rfl rfl ?_)
              refine TL_nil ?_
              refine ?L51
              case L51 =>
                refine ⟨left', cnt', some x, nn + 1, insB m x, ⟨by omega, fun y hy => ?_⟩, hc, (by repeat (first | exact FrSub.nil _ | refine FrSub.cons rfl ?_)), Has.of_sub (by repeat (first | exact Sb.r | exact Sb.ar | exact Sb.al | apply Sb.c | apply Sb.d | refine Sb.t ?_))⟩
                have h1 := hl' y hy
                unfold insB
                rw [hm y hy]
                by_cases hyx : y = x
                · subst hyx
                  cases h2 : left' y with
                  | true => exact absurd rfl (h1.1 h2).2
                  | false => rw [hmx, hlx]; cases ma y <;> simp
                · have : left' y = left y := by
                    cases h2 : left y with
                    | true => exact h1.2 ⟨h2, hyx⟩
                    | false => cases h3 : left' y with
                      | true => rw [(h1.1 h3).1] at h2; cases h2
                      | false => rfl
                  rw [this, show (y == x) = false from by simpa using hyx]
                  simp
      · refine TL_p (PV_extract rfl rfl) ?_
        refine TL_nil ?_
        refine T_seq ?_
        refine T_then rfl (by rfl) ?_
        refine T_skip ?_
        refine T_block ?_
        refine T_seq ?_
        refine T_region ?_
        refine TL_p (PV_entryI 0 rfl hR10 (fun w h => h.sub (by repeat (first | exact Sb.r | exact Sb.ar | exact Sb.al | apply Sb.d | refine Sb.t ?_))) rfl) ?_
        refine TL_p (PV_extract rfl rfl) ?_
        refine TL_p (PV_assign rfl) ?_
        refine TL_nil ?_
        refine T_region ?_
        refine TL_p (PV_move rfl) ?_
        refine TL_p (PV_move rfl) ?_
        refine TL_cons rfl (TO_upI 1 rfl Tryd.underlying95 (by omega) hx rfl rfl rfl rfl ?_)
        refine TL_nil ?_
        refine ?L61
        case L61 =>
          refine ⟨left', cnt', some x, nn + 1, insB m x, ⟨by omega, fun y hy => ?_⟩, hc, (by repeat (first | exact FrSub.nil _ | refine FrSub.cons rfl ?_)), Has.of_sub (by repeat (first | exact Sb.r | exact Sb.ar | exact Sb.al | apply Sb.c | apply Sb.d | refine Sb.t ?_))⟩
          have h1 := hl' y hy
          unfold insB
          rw [hm y hy]
          by_cases hyx : y = x
          · subst hyx
            cases h2 : left' y with
            | true => exact absurd rfl (h1.1 h2).2
            | false => rw [hmx, hlx]; simp
          · have : left' y = left y := by
              cases h2 : left y with
              | true => exact h1.2 ⟨h2, hyx⟩
              | false => cases h3 : left' y with
                | true => rw [(h1.1 h3).1] at h2; cases h2
                | false => rfl
            rw [this, show (y == x) = false from by simpa using hyx]
            simp
end
end Go.Proofs.YtijpbpnfachlkaaDoor.SL
