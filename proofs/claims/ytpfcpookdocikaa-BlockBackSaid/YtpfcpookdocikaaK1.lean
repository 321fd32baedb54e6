import Derived.Test.YtpfcpookdocikaaS1
import Derived.Test.YtpfcpookdocikaaK0
/- Blocks numbered, whose bytes are the caller's own; the document's examples of blocks. No statement is proved here. -/
set_option linter.unusedVariables false
set_option linter.unusedSimpArgs false
set_option maxRecDepth 100000
set_option maxHeartbeats 4000000
namespace Go.Proofs.Ytpfcpookdocikaa.SL
open Go Go.RowKit
section
variable {w0 : World} {B n : Nat} {H X : List Chunk}
theorem NumO_t {A : Option Addr} {m c : Nat} {ps : List Part} (hS : Shows (WH w0 B H) A m 1 (ps.map pVal)) (hP : ShowsAll (WH w0 B H) ps) (hm : ps.length = m) (hm2 : m ≤ 5864062014634) (hb : ∀ p ∈ ps, p.2.2.length ≤ 140737488355328) (hc : m ≤ c) :
    TCall Try.prog w0 B 6 #[.slice A m c] (fun r H' => ∃ (A' : Option Addr) (c' : Nat) (qs : List Part), r = .slice A' m c' ∧ qs.map (·.2.2) = ps.map (·.2.2) ∧ qs.length = m ∧ (∀ q ∈ qs, q.2.2.length ≤ q.2.1) ∧ m ≤ c' ∧ H' = .sl (.slice A' m c') 2 m (bCells 0 qs) :: (qs.reverse.map pCh ++ H)) H := by
  refine TCall_intro (args := [_]) Try.func6 rfl Try.ntmps6 (Nat.le_of_ble_eq_true rfl) ?_
  refine T_addNil 2 ?_
  refine T_seq ?_
  refine T_region ?_
  refine TL_p (PV_assign rfl) ?_
  refine TL_nil ?_
  refine T_seq ?_
  refine T_region ?_
  refine TL_p (PV_assign rfl) ?_
  refine TL_nil ?_
  refine T_seq ?_
  refine T_seq ?_
  refine T_region ?_
  refine TL_p (PV_move rfl) ?_
  refine TL_p (PV_len_slice Try.underlying22 rfl) ?_
  refine TL_p (PV_move rfl) ?_
  refine TL_nil ?_
  refine T_block ?_
  refine ?L1
  case L1 =>
    refine T_loopP4 (fun (i : Nat) (qs : List Part) (A' : Option Addr) (c' : Nat) => i ≤ m ∧ qs.map (·.2.2) = (ps.take i).map (·.2.2) ∧ qs.length = i ∧ (∀ q ∈ qs, q.2.2.length ≤ q.2.1) ∧ i ≤ c') (fun i _ _ _ => m - i) (fun i qs A' c' => [(3, .slice A' i c'), (6, .slice A m c), (7, .int .i64 (m : Int)), (8, .int .i64 (i : Int))]) (fun i qs A' c' => .sl (.slice A' i c') 2 i (bCells 0 qs) :: (qs.reverse.map pCh ++ H)) 0 [] none 0 ⟨by omega, rfl, rfl, by simp, by omega⟩ (by repeat (first | exact FrSub.nil _ | refine FrSub.cons rfl ?_)) (Has.of_sub (by repeat (first | exact Sb.r | exact Sb.ar | exact Sb.al | apply Sb.c | apply Sb.d | refine Sb.t ?_))) ?_
    rintro i qs A' c' ⟨hi, hq, hql, hqN, hic⟩
    by_cases him : i < m
    · obtain ⟨p, hp⟩ : ∃ p, ps[i]? = some p := ⟨ps[i], List.getElem?_eq_getElem (by omega)⟩
      have hpm := List.mem_of_getElem? hp
      have hpP := hP p hpm
      have hpb := hb p hpm
      have hS2 := hS.mono (W' := WH w0 B (.sl (.slice A' i c') 2 i (bCells 0 qs) :: (qs.reverse.map pCh ++ H))) (fun w h => h.sub (by repeat (first | exact Sb.r | exact Sb.ar | exact Sb.al | apply Sb.d | refine Sb.t ?_)))
      refine T_shows hS2 (by rw [List.length_map]; omega) fun ga oa hA hrd => ?_
      subst hA
      obtain ⟨Ap, cp, xs⟩ := p
      have hpS := hpP.1
      have hpC := hpP.2
      dsimp only at hpS hpC hpb
      have hr : Rd _ ⟨ga, oa + i * 1, none⟩ (.slice Ap xs.length cp) := hrd (i * 1) _ (by rw [Nat.mul_one, List.getElem?_map, hp]; rfl)
      have hone := bCells_one 0 qs
      refine T_seq ?_
      refine T_region ?_
      refine TL_p (PV_bin rfl rfl bin_lss) ?_
      refine TL_nil ?_
      refine T_seq ?_
      refine T_then rfl (by exact decide_eq_true (by omega)) ?_
      refine T_skip ?_
      refine T_seq ?_
      refine T_block ?_
      refine T_seq ?_
      refine T_region ?_
      refine TL_p (PV_move rfl) ?_
      refine TL_p (PV_indexAddr Try.underlying22 sz26 rfl rfl rfl (by first | omega | decide | assumption)) ?_
      refine TL_p (PV_load Try.underlying26 rfl rfl hr) ?_
      refine TL_p (PV_assign rfl) ?_
      refine TL_p (PV_assign rfl) ?_
      refine TL_nil ?_
      refine T_region ?_
      refine TL_p (PV_move rfl) ?_
      refine TL_p (PV_move rfl) ?_
      refine TL_p (PV.cast (PV_bin rfl rfl bin_add) (wr64 (by omega))) ?_
      refine TL_p (PV.cast (PV_conv (by rw [Try.underlying3]; rfl) Try.underlying5 rfl) (wrapu8 (i + 1))) ?_
      refine TL_p (PV_move rfl) ?_
      refine TL_cons rfl (TO_appendNil Try.underlying26 zb5 rfl (by decide) rfl rfl rfl (Shows.mono hpS (fun w h => h.sub (by (repeat (first | exact Sb.r | exact Sb.ar | exact Sb.al | apply Sb.d | refine Sb.t ?_)); done))) ?oc101q33 ?bb101q33 ?bc101q33 fun A101 c101 hc101 => ?_)
      case oc101q33 => exact nums_one
      case bb101q33 => omega
      case bc101q33 => omega
      refine TL_p (PV_bld (cs := [_, _]) Try.underlying28 pl28 zr28 rfl rfl) ?_
      refine TL_cons rfl (TO_bs (cs := [_, _]) Try.underlying24 zs28 (by decide) rfl rfl rfl rfl rfl rfl fun g102 => ?_)
      refine TL_cons rfl (TO_appendW 2 rfl Try.underlying24 zb28 rfl (by decide) rfl rfl rfl (Shows.at 0 rfl) (by simp [Value.oneCell']) (by omega) (by omega) fun A103 c103 hc103 => ?_)
      refine TL_p (PV_assign rfl) ?_
      refine TL_nil ?_
      refine T_region ?_
      refine TL_p (PV.cast (PV_bin rfl rfl bin_add) (wr64 (by omega))) ?_
      refine TL_p (PV_move rfl) ?_
      refine TL_nil ?_
      refine ?L2
      case L2 =>
        have hd : bCells 0 (qs ++ [(A101, c101, xs)]) = bCells 0 qs ++ [.int .u8 (((i + 1) % 256 : Nat) : Int), .slice A101 xs.length c101] := by
          rw [bCells_app, hql, show 0 + i + 1 = i + 1 by omega]
          rfl
        have hrv : (qs ++ [(A101, c101, xs)]).reverse.map pCh = pCh (A101, c101, xs) :: qs.reverse.map pCh := by simp
        refine ⟨i + 1, qs ++ [(A101, c101, xs)], A103, c103, ⟨by omega, ?_, by simp [hql], ?_, by omega⟩, by omega, (by repeat (first | exact FrSub.nil _ | refine FrSub.cons rfl ?_)), ?_⟩
        · rw [List.map_append, hq, List.take_succ_eq_append_getElem (by omega), List.map_append]
          have : ps[i] = (Ap, cp, xs) := by rw [List.getElem?_eq_getElem (by omega)] at hp; simpa using hp
          rw [this]
          rfl
        · intro q hqm
          rcases List.mem_append.1 hqm with h1 | h1
          · exact hqN q h1
          · rw [List.mem_singleton] at h1
            subst h1
            show xs.length ≤ c101
            omega
        · rw [hd, hrv]
          exact Has.of_perm (List.Perm.cons _ (List.Perm.swap _ _ _)) (by repeat (first | exact Sb.r | exact Sb.ar | exact Sb.al | apply Sb.c | apply Sb.d | refine Sb.t ?_))
    · obtain rfl : i = m := by omega
      refine T_seq ?_
      refine T_region ?_
      refine TL_p (PV_bin rfl rfl bin_lss) ?_
      refine TL_nil ?_
      refine T_seq ?_
      refine T_else rfl (by (simp; done)) ?_
      refine T_exit ?_
      refine T_seq ?_
      refine T_region ?_
      refine TL_p (PV_move rfl) ?_
      refine TL_p (PV_assign rfl) ?_
      refine TL_nil ?_
      refine ?L6
      case L6 =>
        refine T_ret ?_
        refine ret_ret (ResV_one rfl rfl) ⟨_, List.Sublist.refl _, ⟨_, _, qs, rfl, ?_, hql, hqN, by omega, rfl⟩⟩
        rw [hq, List.take_of_length_le (by omega)]
theorem TO_num {fr : Fr} {dst : Option Tmp} {ty : TypeId} {pos : String} {aft : Array Edge} {gd : Option (Nat × Bool)} {K : Fr → List Chunk → Prop} {xs : Array Operand} {ats : Array TypeId} {A : Option Addr} {m c : Nat} {ps : List Part} (hS : Shows (WH w0 B H) A m 1 (ps.map pVal)) (hP : ShowsAll (WH w0 B H) ps) (hm : ps.length = m) (hm2 : m ≤ 5864062014634) (hb : ∀ p ∈ ps, p.2.2.length ≤ 140737488355328) (hc : m ≤ c) (hd : dOk n dst = true) (hx : evs fr xs.toList = some [.slice A m c])
    (h : ∀ A' c' qs, qs.map (·.2.2) = ps.map (·.2.2) → qs.length = m → (∀ q ∈ qs, q.2.2.length ≤ q.2.1) → m ≤ c' → K (frPut dst (.slice A' m c') fr) (.sl (.slice A' m c') 2 m (bCells 0 qs) :: (qs.reverse.map pCh ++ H))) :
    TO Try.prog w0 B n ⟨dst, .call { callee := .value (.func 6), args := xs, argTypes := ats }, ty, pos, aft, gd⟩ K fr H := by
  refine TO_call (HR := []) call6 hd hx (by rw [List.append_nil]) (NumO_t hS hP hm hm2 hb hc) ?_
  rintro v' H' ⟨A', c', qs, rfl, h1, h2, h3, h4, rfl⟩
  rw [List.append_nil]
  exact h A' c' qs h1 h2 h3 h4
end
end Go.Proofs.Ytpfcpookdocikaa.SL
