import Derived.Test.YtkgdphbccagjcaaG2
import Derived.Test.YtkgdphbccagjcaaN6
/- Tables of patterns: the examples, and a text byte by byte. No statement is proved here. -/
set_option linter.unusedVariables false
set_option linter.unusedSimpArgs false
set_option maxRecDepth 100000
set_option maxHeartbeats 8000000
namespace Go.Proofs.Ytkgdphbccagjcaa.SL
open Go Go.RowKit
theorem mk_bound : ∀ (d : Nat) (l : List Int), pl (mk d l).2.1 ≤ 2 ^ d ∧ nx (mk d l).2.1 ≤ 8 ^ d
  | d, [] => by
    rw [mk_nil]
    exact ⟨Nat.one_le_two_pow, Nat.zero_le _⟩
  | 0, n :: l => ⟨Nat.le_refl _, Nat.zero_le _⟩
  | d + 1, n :: l => by
    have h1 := mk_bound d l
    have h2 := mk_bound d (mk d l).2.2
    have hm : ∀ a b : Nat, a ≤ 2 ^ d → b ≤ 2 ^ d → a * b ≤ 8 ^ d := fun a b ha hb => by
      refine Nat.le_trans (Nat.mul_le_mul ha hb) ?_
      rw [← Nat.mul_pow]
      exact Nat.pow_le_pow_left (by omega) d
    have e2 : 2 ^ (d + 1) = 2 * 2 ^ d := by rw [Nat.pow_succ, Nat.mul_comm]
    have e8 : 8 ^ (d + 1) = 8 * 8 ^ d := by rw [Nat.pow_succ, Nat.mul_comm]
    have p2 : 1 ≤ 2 ^ d := Nat.one_le_two_pow
    unfold mk
    rw [e2, e8]
    have k1 := hm _ _ h1.1 h2.1
    have k2 := hm _ _ h1.1 h1.1
    repeat' split
    all_goals simp only [pl, nx]
    all_goals omega
theorem mk_small {d : Nat} (hd : d ≤ 3) (l : List Int) : pl (mk d l).2.1 ≤ 8 ∧ nx (mk d l).2.1 ≤ 512 := by
  have h := mk_bound d l
  have : d = 0 ∨ d = 1 ∨ d = 2 ∨ d = 3 := by omega
  rcases this with rfl | rfl | rfl | rfl <;> (simp only [Nat.reducePow] at h; omega)
section
variable {w0 : World} {B : Nat} {H X : List Chunk}
theorem TO_Of {n : Nat} {fr : Fr} {dst : Option Tmp} {ty : TypeId} {pos : String} {aft : Array Edge} {gd : Option (Nat × Bool)} {K : Fr → List Chunk → Prop} {xs : Array Operand} {ats : Array TypeId} {t : Rx} {v : Nv} (hv : Tr (WH w0 B H) t v) (hn : nx t < 1000000000) (hp : pl t ≤ 1000000) (hd : dOk n dst = true) (hx : evs fr xs.toList = some [v.val])
    (h : ∀ g N, Tab (WH w0 B N) g t → K (frPut dst (.pointer (some ⟨g, 0, none⟩)) fr) (H ++ N)) : TO Try.prog w0 B n ⟨dst, .call { callee := .value (.func 26), args := xs, argTypes := ats }, ty, pos, aft, gd⟩ K fr H := by
  refine TO_call (HR := []) call26 hd hx (by rw [List.append_nil]) (Of_t (H := H) hv hn hp) ?_
  rintro v' H' ⟨g, N, rfl, hv, rfl⟩
  rw [List.append_nil]
  exact h g N hv
theorem Fits_v {g : Nat} {t : Rx} (hT : Tab (WH w0 B H) g t) (hp : pl t ≤ 1000000) {s : List Int} (hu : U8s s) (hs : s.length ≤ 4611686018427387904) {b : ByteArray} (hb : strOfNums s = b) {q : Bool} (hq : fitsT t s = q) :
    TCall Try.prog w0 B 27 [.pointer (some ⟨g, 0, none⟩), .string b].toArray (fun r H' => r = .bool q ∧ H' = H) H := by
  subst hb
  subst hq
  exact Fits_t hT hp hu hs
theorem pabs : ∃ t j, pParse [97, 98, 42] = .ok t j ∧ pl t = 2 ∧ nx t ≤ 10 ∧ nul t = false ∧ fitsT t [97, 98, 98] = true ∧ fitsT t [98, 97] = false := ⟨_, _, rfl, rfl, by decide +kernel, rfl, by decide +kernel, by decide +kernel⟩
theorem awake07_t : TCall Try.prog w0 B 25 #[] (fun r H' => r = .bool true ∧ H' = H) H := by
  obtain ⟨t, j, hp, hl, hnx, hnl, hf1, hf2⟩ := pabs
  have hu1 : U8s [97, 98, 42] := u8_small _ (by decide)
  have hu2 : U8s [97, 98, 98] := u8_small _ (by decide)
  have hu3 : U8s [98, 97] := u8_small _ (by decide)
  have hb1 : strOfNums [97, 98, 42] = ⟨#[97, 98, 42]⟩ := by kernel_rfl
  have hb2 : strOfNums [97, 98, 98] = ⟨#[97, 98, 98]⟩ := by kernel_rfl
  have hb3 : strOfNums [98, 97] = ⟨#[98, 97]⟩ := by kernel_rfl
  refine TCall_intro (args := []) Try.func25 rfl Try.ntmps25 (Nat.le_of_ble_eq_true rfl) ?_
  refine T_seq ?_
  refine T_region ?_
  refine TL_p (PV_assign rfl) ?_
  refine TL_nil ?_
  refine T_seq ?_
  refine T_region ?_
  refine TL_cons rfl (TO_parse hp hu1 (by decide) hb1 rfl rfl fun v5 N5 hv5 => ?_)
  refine TL_p (PV_move rfl) ?_
  refine TL_p (PV_extract rfl rfl) ?_
  refine TL_p (PV_extract rfl rfl) ?_
  refine TL_cons rfl (TO_alloc rfl zr30 fun g2 => ?_)
  refine TL_cons rfl (TO_store 0 rfl rfl rfl sz30 rfl rfl rfl (all_one rfl) (by first | exact Nat.le_of_ble_eq_true rfl | (simp; done) | (simp; omega) | omega) ?_)
  refine TL_p (PV_assign rfl) ?_
  refine TL_nil ?_
  refine T_seq ?_
  refine T_region ?_
  refine TL_p (PV_loadAt Try.underlying30 rfl sz30 rfl (Rds.take 0 rfl rfl rfl)) ?_
  refine TL_cons rfl (TO_Of (hv5.mono fun w h => h.sub ((List.sublist_append_right H N5).trans (by repeat (first | exact Sb.r | exact Sb.ar | exact Sb.al | apply Sb.d | refine Sb.t ?_)))) (by omega) (by omega) rfl rfl fun g9 N9 hT9 => ?_)
  refine TL_p (PV_assign rfl) ?_
  refine TL_nil ?_
  refine T_seq ?_
  refine T_seq ?_
  refine T_region ?_
  refine TL_p (PV_move rfl) ?_
  refine TL_p (PV_bin rfl rfl (bin_ptr_nil Try.underlying48)) ?_
  refine TL_nil ?_
  refine T_else rfl (by rfl) ?_
  refine T_skip ?_
  refine T_seq ?_
  refine T_region ?_
  refine TL_p (PV_move rfl) ?_
  refine TL_cons rfl (TO_eqD call30 (Len_t (hT9.mono fun w h => h.sub (by repeat (first | exact Sb.r | exact Sb.ar | exact Sb.al | apply Sb.d | refine Sb.t ?_)))) rfl rfl _ (List.Sublist.refl _) ?_)
  refine TL_p (PV_bin rfl rfl bin_eql) ?_
  refine TL_p (PV_move rfl) ?_
  refine TL_yes rfl rfl (gtrue (by exact decide_eq_true (by omega))) (TO_pure rfl (PV_move rfl) ?_)
  refine TL_yes rfl rfl (gtrue (by exact decide_eq_true (by omega))) (TO_eqD call27 (Fits_v (hT9.mono fun w h => h.sub (by repeat (first | exact Sb.r | exact Sb.ar | exact Sb.al | apply Sb.d | refine Sb.t ?_))) (by omega) hu2 (by decide) hb2 hf1) rfl rfl _ (List.Sublist.refl _) ?_)
  refine TL_p (PV_pickAnd rfl rfl rfl) ?_
  refine TL_p (PV_move rfl) ?_
  refine TL_yes rfl rfl (gtrue (by (simp; omega))) (TO_pure rfl (PV_move rfl) ?_)
  refine TL_yes rfl rfl (gtrue (by (simp; omega))) (TO_eqD call27 (Fits_v (hT9.mono fun w h => h.sub (by repeat (first | exact Sb.r | exact Sb.ar | exact Sb.al | apply Sb.d | refine Sb.t ?_))) (by omega) hu3 (by decide) hb3 hf2) rfl rfl _ (List.Sublist.refl _) ?_)
  refine TL_yes rfl rfl (gtrue (by (simp; omega))) (TO_pure rfl (PV_not rfl) ?_)
  refine TL_p (PV_pickAnd rfl rfl rfl) ?_
  refine TL_p (PV_move rfl) ?_
  refine TL_yes rfl rfl (gtrue (by (simp; omega))) (TO_pure rfl (PV_move rfl) ?_)
  refine TL_yes rfl rfl (gtrue (by (simp; omega))) (TO_eqD call29 (Empty_t (hT9.mono fun w h => h.sub (by repeat (first | exact Sb.r | exact Sb.ar | exact Sb.al | apply Sb.d | refine Sb.t ?_)))) rfl rfl _ (List.Sublist.refl _) ?_)
  refine TL_yes rfl rfl (gtrue (by (simp; omega))) (TO_pure rfl (PV_not rfl) ?_)
  refine TL_p (PV_pickAnd rfl rfl rfl) ?_
  refine TL_p (PV_assign rfl) ?_
  refine TL_nil ?_
  refine T_ret ?_
  refine ret_ret (ResV_one rfl rfl) ⟨_, ?zb9q59, ⟨?L1, rfl⟩⟩
  case zb9q59 => exact (by (repeat (first | exact Sb.r | exact Sb.ar | exact Sb.al | apply Sb.c | apply Sb.d | refine Sb.t ?_)); done)
  case L1 => rw [hl, hnl]; rfl
theorem awake07s : TCall Try.prog w0 B 25 #[] (fun r H' => r = .bool true ∧ H = H') H := awake07_t.mono fun v h q => ⟨q.1, q.2.symm⟩
/-- the text that numbers make, by name -/
theorem Text_v {A : Option Addr} {m c : Nat} {l s : List Int} (hs : txt l m = s) (hS : Shows (WH w0 B H) A m 1 (nums .u8 l)) (hlm : l.length = m) (hl : m ≤ 4611686018427387904) (hc : m ≤ c) (hu : U8s l) : TCall Try.prog w0 B 20 [.slice A m c].toArray (fun r H' => r = .string (strOfNums s) ∧ H' = H) H := by
  subst hs
  exact Text_t hS hlm (by omega) hc hu
end
end Go.Proofs.Ytkgdphbccagjcaa.SL
