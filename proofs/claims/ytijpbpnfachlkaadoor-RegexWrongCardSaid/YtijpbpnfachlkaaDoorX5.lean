import Derived.Test.YtijpbpnfachlkaaDoorX2
import Derived.Test.YtijpbpnfachlkaaDoorP13
import Derived.Test.YtijpbpnfachlkaaDoorQ5
/- A pattern is read of its text: the law. No statement is proved here. -/
set_option linter.unusedVariables false
set_option linter.unusedSimpArgs false
set_option maxRecDepth 100000
set_option maxHeartbeats 8000000
namespace Go.Proofs.YtijpbpnfachlkaaDoor.SL
open Go Go.RowKit
theorem mk_txt8 : ∀ (d : Nat) (l : List Int), U8s l → U8s (mk d l).1
  | d, [], h => by rw [mk_nil]; exact u8_small _ (by decide)
  | 0, n :: l, h => fun x hx => by
    have hx : x = 97 + n.tmod 3 := by simpa [mk] using hx
    obtain ⟨k, hk⟩ := Int.eq_ofNat_of_zero_le (h n (by simp)).1
    have : n.tmod 3 = ((k % 3 : Nat) : Int) := by rw [hk]; rfl
    omega
  | d + 1, n :: l, h => by
    have hl : U8s l := fun x hx => h x (List.mem_cons_of_mem _ hx)
    have h1 := mk_txt8 d l hl
    have h2 := mk_txt8 d _ (mk_rest d l hl)
    unfold mk
    repeat' split
    all_goals
      intro x hx
      simp only [List.mem_append, List.mem_cons, List.not_mem_nil, or_false] at hx
      rcases hx with hx
      first
        | (rcases hx with (((hx | hx) | hx) | hx) | hx <;> first | exact h1 x hx | exact h2 x hx | omega)
        | (rcases hx with (hx | hx) | hx <;> first | exact h1 x hx | exact h2 x hx | omega)
        | omega
section
variable {w0 : World} {B n : Nat} {H : List Chunk}
theorem TO_parseL {n : Nat} {fr : Fr} {dst : Option Tmp} {ty : TypeId} {pos : String} {aft : Array Edge} {gd : Option (Nat × Bool)} {K : Fr → List Chunk → Prop} {xs : Array Operand} {ats : Array TypeId} {s : List Int} {b : ByteArray} (hs : ¬ s.length ≤ 64) (hs2 : s.length ≤ 140737488355328) (hb : strOfNums s = b) (hd : dOk n dst = true) (hx : evs fr xs.toList = some [.string b]) (h : K (frPut dst (.tuple #[nv0.val, .iface 77 (.agg #[.int .i64 7, .int .i64 64])]) fr) H) : TO Tryd.prog w0 B n ⟨dst, .call { callee := .value (.func 12), args := xs, argTypes := ats }, ty, pos, aft, gd⟩ K fr H := by
  subst hb
  exact TO_eqD call12 (Parse_limit (w0 := w0) (B := B) (H := H) hs hs2) hd hx _ (List.Sublist.refl _) h
theorem RegexParse_t (hL : Laid w0) (hB0 : 0 < B) {A : Option Addr} {m c : Nat} {l : List Int} (hS : Shows (WH w0 B H) A m 1 (nums .u8 l)) (hlm : l.length = m) (hl : m ≤ 4611686018427387904) (hc : m ≤ c) (hu : U8s l) :
    TCall Tryd.prog w0 B 3 #[.slice A m c] (fun r H' => r = .bool true ∧ H' = H) H := by
  have aw := fun {X : List Chunk} => (awake06s (w0 := w0) (B := B) (H := X) hL hB0)
  obtain ⟨t, ht⟩ : ∃ t, (mk 3 l).2.1 = t := ⟨_, rfl⟩
  obtain ⟨q, hq⟩ : ∃ q, (mk 3 l).1 = q := ⟨_, rfl⟩
  have hpar := mk_parse (d := 3) (by omega) hu
  rw [ht, hq] at hpar
  have huq : U8s q := hq ▸ mk_txt8 3 l hu
  have hvt : ∀ {W : World → Prop} {v : Nv}, Tr W (mk 3 l).2.1 v → Tr W t v := fun h => ht ▸ h
  have hql := mk_len (d := 3) (by omega) l
  rw [hq] at hql
  have hqb : strOfNums q = strOfNums (mk 3 l).1 := by rw [hq]
  have e20 : Value.int .i64 (((strOfNums (mk 3 l).1).size : Nat) : Int) = .int .i64 ((q.length : Nat) : Int) := by rw [hq, str_len]
  by_cases hlong : q.length ≤ 64
  · have e21 : Value.bool (decide (((q.length : Nat) : Int) > 64)) = .bool false := congrArg Value.bool (decide_eq_false (by omega))
    refine TCall_intro (args := [_]) Tryd.func3 rfl Tryd.ntmps3 (Nat.le_of_ble_eq_true rfl) ?_
    refine T_seq ?_
    refine T_region ?_
    refine TL_p (PV_assign rfl) ?_
    refine TL_nil ?_
    refine T_seq ?_
    refine T_seq ?_
    refine T_region ?_
    refine TL_cons rfl (TO_call0 call10 rfl rfl (aw) ?_)
    rintro v7_3 H7_3 ⟨rfl, rfl⟩
    refine TL_p (PV_not rfl) ?_
    refine TL_nil ?_
    refine T_else rfl (by rfl) ?_
    refine T_skip ?_
    refine T_seq ?_
    refine T_region ?_
    refine TL_p (PV_move rfl) ?_
    refine TL_cons rfl (TO_mk (d := 3) (by omega) hS hlm hc hl hu rfl rfl fun v11 N11 hv11 => ?_)
    refine TL_p (PV_move rfl) ?_
    refine TL_p (PV_extract rfl rfl) ?_
    refine TL_p (PV_extract rfl rfl) ?_
    refine TL_cons rfl (TO_alloc rfl zr30 fun g5 => ?_)
    refine TL_p (PV_assign rfl) ?_
    refine TL_cons rfl (TO_store 0 rfl rfl rfl sz30 rfl rfl rfl (all_one rfl) (by first | exact Nat.le_of_ble_eq_true rfl | (simp; done) | (simp; omega) | omega) ?_)
    refine TL_nil ?_
    refine T_seq ?_
    refine T_region ?_
    refine TL_p (PV_move rfl) ?_
    refine TL_cons rfl (TO_parse hpar huq hlong hqb rfl rfl fun v16 N16 hv16 => ?_)
    refine TL_p (PV_move rfl) ?_
    refine TL_p (PV_extract rfl rfl) ?_
    refine TL_p (PV_extract rfl rfl) ?_
    refine TL_cons rfl (TO_alloc rfl zr30 fun g8 => ?_)
    refine TL_cons rfl (TO_store 0 rfl rfl rfl sz30 rfl rfl rfl (all_one rfl) (by first | exact Nat.le_of_ble_eq_true rfl | (simp; done) | (simp; omega) | omega) ?_)
    refine TL_p (PV_assign rfl) ?_
    refine TL_nil ?_
    refine T_seq ?_
    refine T_seq ?_
    refine T_region ?_
    refine TL_p (PV_move rfl) ?_
    refine TL_p (PV.cast (PV_len_string Tryd.underlying9 rfl) e20) ?_
    refine TL_p (PV.cast (PV_bin rfl rfl bin_gtr) e21) ?_
    refine TL_nil ?_
    refine T_else rfl (by rfl) ?_
    refine T_skip ?_
    refine T_seq ?_
    refine T_region ?_
    refine TL_p (PV_move rfl) ?_
    refine TL_p (PV_bin rfl rfl (bin_nil_nil Tryd.underlying34)) ?_
    refine TL_p (PV_move rfl) ?_
    refine TL_yes rfl rfl rfl (TO_pure rfl (PV_loadAt Tryd.underlying30 rfl sz30 rfl (Rds.take 0 rfl rfl rfl)) ?_)
    refine TL_yes rfl rfl rfl (TO_pure rfl (PV_loadAt Tryd.underlying30 rfl sz30 rfl (Rds.take 1 rfl rfl rfl)) ?_)
    refine TL_yes rfl rfl rfl (TO_eqD call15 (Same_t (hv16.mono fun w h => h.sub ((List.sublist_append_right (.own g5 6 v11.cells :: (H ++ N11)) N16).trans (by repeat (first | exact Sb.r | exact Sb.ar | exact Sb.al | apply Sb.d | refine Sb.t ?_)))) ((hvt hv11).mono fun w h => h.sub ((List.sublist_append_right H N11).trans ((List.sublist_cons_self (.own g5 6 v11.cells) _).trans ((List.sublist_append_left _ N16).trans (by repeat (first | exact Sb.r | exact Sb.ar | exact Sb.al | apply Sb.d | refine Sb.t ?_))))))) rfl rfl _ (List.Sublist.refl _) ?_)
    refine TL_p (PV_pickAnd rfl rfl rfl) ?_
    refine TL_p (PV_assign rfl) ?_
    refine TL_nil ?_
    refine T_ret ?_
    refine ret_ret (ResV_one rfl rfl) ⟨_, ?zb11q53, ⟨rfl, rfl⟩⟩
    case zb11q53 => exact (by (repeat (first | exact Sb.r | exact Sb.ar | exact Sb.al | apply Sb.c | apply Sb.d | refine Sb.t ?_)); done)
    all_goals exact T_ret (ret_ret (ResV_one rfl rfl) ⟨H, (by repeat (first | exact Sb.r | exact Sb.ar | exact Sb.al | apply Sb.c | apply Sb.d | refine Sb.t ?_)), rfl, rfl⟩)
  · have e21 : Value.bool (decide (((q.length : Nat) : Int) > 64)) = .bool true := congrArg Value.bool (decide_eq_true (by omega))
    refine TCall_intro (args := [_]) Tryd.func3 rfl Tryd.ntmps3 (Nat.le_of_ble_eq_true rfl) ?_
    refine T_seq ?_
    refine T_region ?_
    refine TL_p (PV_assign rfl) ?_
    refine TL_nil ?_
    refine T_seq ?_
    refine T_seq ?_
    refine T_region ?_
    refine TL_cons rfl (TO_call0 call10 rfl rfl (aw) ?_)
    rintro v7_5003 H7_5003 ⟨rfl, rfl⟩
    refine TL_p (PV_not rfl) ?_
    refine TL_nil ?_
    refine T_else rfl (by rfl) ?_
    refine T_skip ?_
    refine T_seq ?_
    refine T_region ?_
    refine TL_p (PV_move rfl) ?_
    refine TL_cons rfl (TO_mk (d := 3) (by omega) hS hlm hc hl hu rfl rfl fun v11 N11 hv11 => ?_)
    refine TL_p (PV_move rfl) ?_
    refine TL_p (PV_extract rfl rfl) ?_
    refine TL_p (PV_extract rfl rfl) ?_
    refine TL_cons rfl (TO_alloc rfl zr30 fun g5005 => ?_)
    refine TL_p (PV_assign rfl) ?_
    refine TL_cons rfl (TO_store 0 rfl rfl rfl sz30 rfl rfl rfl (all_one rfl) (by first | exact Nat.le_of_ble_eq_true rfl | (simp; done) | (simp; omega) | omega) ?_)
    refine TL_nil ?_
    refine T_seq ?_
    refine T_region ?_
    refine TL_p (PV_move rfl) ?_
    refine TL_cons rfl (TO_parseL hlong (by omega) hqb rfl rfl ?_)
    refine TL_p (PV_move rfl) ?_
    refine TL_p (PV_extract rfl rfl) ?_
    refine TL_p (PV_extract rfl rfl) ?_
    refine TL_cons rfl (TO_alloc rfl zr30 fun g5008 => ?_)
    refine TL_cons rfl (TO_store 0 rfl rfl rfl sz30 rfl rfl rfl (all_one rfl) (by first | exact Nat.le_of_ble_eq_true rfl | (simp; done) | (simp; omega) | omega) ?_)
    refine TL_p (PV_assign rfl) ?_
    refine TL_nil ?_
    refine T_seq ?_
    refine T_seq ?_
    refine T_region ?_
    refine TL_p (PV_move rfl) ?_
    refine TL_p (PV.cast (PV_len_string Tryd.underlying9 rfl) e20) ?_
    refine TL_p (PV.cast (PV_bin rfl rfl bin_gtr) e21) ?_
    refine TL_nil ?_
    refine T_then rfl (by rfl) ?_
    refine T_seq ?_
    refine T_region ?_
    refine TL_p (PV_move rfl) ?_
    refine TL_cons rfl (TO_call0 call13 rfl rfl (numberF_t ?sd5011q61_0 ?sd5011q61_1 _ _) ?_)
    case sd5011q61_0 => exact hL
    case sd5011q61_1 => exact hB0
    rintro v23_5012 H23_5012 ⟨rfl, rfl⟩
    refine TL_p (PV_bin rfl rfl bin_eql) ?_
    refine TL_p (PV_move rfl) ?_
    refine TL_yes rfl rfl rfl (TO_pure rfl (PV_move rfl) ?_)
    refine TL_yes rfl rfl rfl (TO_call0 call14 rfl rfl (placeF_t ?sd5014q61_0 ?sd5014q61_1 _ _) ?_)
    case sd5014q61_0 => exact hL
    case sd5014q61_1 => exact hB0
    rintro v27_5015 H27_5015 ⟨rfl, rfl⟩
    refine TL_yes rfl rfl rfl (TO_pure rfl (PV_bin rfl rfl bin_eql) ?_)
    refine TL_p (PV_pickAnd rfl rfl rfl) ?_
    refine TL_p (PV_assign rfl) ?_
    refine TL_nil ?_
    refine T_ret ?_
    refine ret_ret (ResV_one rfl rfl) ⟨_, ?zb5016q61, ⟨rfl, rfl⟩⟩
    case zb5016q61 => exact (by (repeat (first | exact Sb.r | exact Sb.ar | exact Sb.al | apply Sb.c | apply Sb.d | refine Sb.t ?_)); done)
    all_goals exact T_ret (ret_ret (ResV_one rfl rfl) ⟨H, (by repeat (first | exact Sb.r | exact Sb.ar | exact Sb.al | apply Sb.c | apply Sb.d | refine Sb.t ?_)), rfl, rfl⟩)
end
end Go.Proofs.YtijpbpnfachlkaaDoor.SL
