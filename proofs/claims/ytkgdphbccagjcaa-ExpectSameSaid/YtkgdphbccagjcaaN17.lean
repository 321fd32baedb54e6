import Derived.Test.YtkgdphbccagjcaaN7
import Derived.Test.YtkgdphbccagjcaaN10
import Derived.Test.YtkgdphbccagjcaaQ2
/- A quoted text is fitted by itself alone: the law. No statement is proved here. -/
set_option linter.unusedVariables false
set_option linter.unusedSimpArgs false
set_option maxRecDepth 100000
set_option maxHeartbeats 8000000
namespace Go.Proofs.Ytkgdphbccagjcaa.SL
open Go Go.RowKit
theorem nx_chainF : ∀ (r : List Int) (out : Rx), nx (chainF r out false) ≤ nx out + (pl out + r.length) * r.length
  | [], out => by simp [chainF]
  | c :: r, out => by
    show nx (chainF r (.then_ out (oneC c)) false) ≤ _
    have h := nx_chainF r (.then_ out (oneC c))
    have e1 : nx (.then_ out (oneC c)) = nx out + pl out := by simp [nx, oneC, pl]
    have e2 : pl (.then_ out (oneC c)) = pl out + 1 := rfl
    rw [e1, e2] at h
    rw [List.length_cons]
    have e3 : (pl out + (r.length + 1)) * (r.length + 1) = (pl out + 1 + r.length) * r.length + (pl out + (r.length + 1)) := by
      rw [Nat.mul_succ]
      congr 2
      omega
    omega
theorem nx_chain {s : List Int} (h : s.length ≤ 64) : nx (chainT s) ≤ 5000 := by
  cases s with
  | nil => simp [chainT, chainF, nx]
  | cons c r =>
    show nx (chainF r (oneC c) false) ≤ _
    have := nx_chainF r (oneC c)
    have e1 : nx (oneC c) = 0 := rfl
    have e2 : pl (oneC c) = 1 := rfl
    rw [e1, e2] at this
    rw [List.length_cons] at h
    have h2 : (1 + r.length) * r.length ≤ 64 * 64 := Nat.mul_le_mul (by omega) (by omega)
    omega
theorem str_inj {s u : List Int} (hs : U8s s) (hu : U8s u) (h : strOfNums s = strOfNums u) : s = u := by
  have g : ∀ {l : List Int}, U8s l → ((strOfNums l).data.toList.map fun b : UInt8 => (b.toNat : Int)) = l := fun {l} hl => by
    show ((l.map fun n => UInt8.ofNat n.toNat).map fun b : UInt8 => (b.toNat : Int)) = l
    rw [List.map_map]
    conv => rhs; rw [← List.map_id l]
    refine List.map_congr_left fun x hx => ?_
    have := hl x hx
    simp only [Function.comp, id]
    have e : (UInt8.ofNat x.toNat).toNat = x.toNat := by
      rw [UInt8.toNat_ofNat']
      exact Nat.mod_eq_of_lt (by omega)
    rw [e]
    omega
  rw [← g hs, ← g hu, h]
theorem str_of (s : ByteArray) : ∃ l : List Int, U8s l ∧ strOfNums l = s := ⟨s.data.toList.map fun b : UInt8 => (b.toNat : Int), fun x hx => by
    obtain ⟨b, _, rfl⟩ := List.mem_map.1 hx
    have := b.toNat_lt
    omega, by
    show (⟨((s.data.toList.map fun b : UInt8 => (b.toNat : Int)).map fun n => UInt8.ofNat n.toNat).toArray⟩ : ByteArray) = s
    rw [List.map_map]
    have e : s.data.toList.map ((fun n : Int => UInt8.ofNat n.toNat) ∘ fun b : UInt8 => (b.toNat : Int)) = s.data.toList := by
      conv => rhs; rw [← List.map_id s.data.toList]
      exact List.map_congr_left fun x _ => by simp
    rw [e]⟩
section
variable {w0 : World} {B n : Nat} {H X : List Chunk}
theorem NfaQuoted_t {sb ub : ByteArray} (hsl : sb.size ≤ 140737488351232) (hul : ub.size ≤ 140737488351232) :
    TCall Try.prog w0 B 11 #[.string sb, .string ub] (fun r H' => r = .bool true ∧ H' = H) H := by
  obtain ⟨s0, hus0, rfl⟩ := str_of sb
  obtain ⟨u, huu, rfl⟩ := str_of ub
  rw [str_len] at hsl hul
  obtain ⟨m, hm⟩ : ∃ m, min s0.length 30 = m := ⟨_, rfl⟩
  obtain ⟨s, hs⟩ : ∃ s, sub s0 0 m = s := ⟨_, rfl⟩
  have hus : U8s s := fun x hx => hus0 x (sub_mem (hs ▸ hx))
  have hsl2 : s.length = m := by rw [← hs, sub_len (by omega) (by omega)]; omega
  have hq := quoteL_len s
  have e12 : Value.int .i64 (((strOfNums s0).size : Nat) : Int) = .int .i64 ((s0.length : Nat) : Int) := by rw [str_len]
  have e13 : Value.int .i64 (min ((s0.length : Nat) : Int) 30) = .int .i64 ((m : Nat) : Int) := by congr 1; omega
  have e14 : Value.string ((strOfNums s0).extract 0 m) = .string (strOfNums s) := by rw [← hs, str_sub]
  have e34 : Value.bool (decide (strOfNums u = strOfNums s)) = .bool (decide (u = s)) := by
    congr 1
    exact decide_eq_decide.2 ⟨str_inj huu hus, fun h => by rw [h]⟩
  have e41 : Value.int .i64 (((strOfNums s).size : Nat) : Int) = .int .i64 ((s.length : Nat) : Int) := by rw [str_len]
  have hf1 : fitsT (chainT s) s = true := by rw [fits_chain hus hus]; simp
  have hf2 := fits_chain hus huu
  have hpl := pl_chain s
  refine TCall_intro (args := [_, _]) Try.func11 rfl Try.ntmps11 (Nat.le_of_ble_eq_true rfl) ?_
  refine T_seq ?_
  refine T_region ?_
  refine TL_p (PV_assign rfl) ?_
  refine TL_nil ?_
  refine T_seq ?_
  refine T_seq ?_
  refine T_region ?_
  refine TL_cons rfl (TO_call0 call25 rfl rfl (awake07s) ?_)
  rintro v8_3 H8_3 ⟨rfl, rfl⟩
  refine TL_p (PV_not rfl) ?_
  refine TL_nil ?_
  refine T_else rfl (by rfl) ?_
  refine T_skip ?_
  refine T_seq ?_
  refine T_region ?_
  refine TL_p (PV_move rfl) ?_
  refine TL_p (PV_move rfl) ?_
  refine TL_p (PV.cast (PV_len_string Try.underlying9 rfl) e12) ?_
  refine TL_p (PV.cast (PV_min rfl rfl) e13) ?_
  refine TL_p (PV.cast (PV_sliceStr (l := 0) (h := m) Try.underlying9 rfl rfl ⟨_, rfl⟩ (by omega) (by rw [str_len]; omega)) e14) ?_
  refine TL_p (PV_assign rfl) ?_
  refine TL_nil ?_
  refine T_seq ?_
  refine T_region ?_
  refine TL_p (PV_move rfl) ?_
  refine TL_cons rfl (TO_eqD call24 (Quote_t hus (by omega)) rfl rfl _ (List.Sublist.refl _) ?_)
  refine TL_cons rfl (TO_parse parse_quote (quoteL_u8 hus) (by omega) rfl rfl rfl fun v18 N18 hv18 => ?_)
  refine TL_p (PV_move rfl) ?_
  refine TL_p (PV_extract rfl rfl) ?_
  refine TL_p (PV_extract rfl rfl) ?_
  refine TL_cons rfl (TO_alloc rfl zr30 fun g6 => ?_)
  refine TL_cons rfl (TO_store 0 rfl rfl rfl sz30 rfl rfl rfl (all_one rfl) (by first | exact Nat.le_of_ble_eq_true rfl | (simp; done) | (simp; omega) | omega) ?_)
  refine TL_p (PV_assign rfl) ?_
  refine TL_nil ?_
  refine T_seq ?_
  refine T_seq ?_
  refine T_region ?_
  refine TL_p (PV_move rfl) ?_
  refine TL_p (PV_bin rfl rfl (bin_nil_nnil Try.underlying42)) ?_
  refine TL_nil ?_
  refine T_else rfl (by rfl) ?_
  refine T_skip ?_
  refine T_seq ?_
  refine T_region ?_
  refine TL_p (PV_loadAt Try.underlying30 rfl sz30 rfl (Rds.take 0 rfl rfl rfl)) ?_
  refine TL_cons rfl (TO_Of (hv18.mono fun w h => h.sub ((List.sublist_append_right H N18).trans (by repeat (first | exact Sb.r | exact Sb.ar | exact Sb.al | apply Sb.d | refine Sb.t ?_)))) (by have := nx_chain (s := s) (by omega); omega) (by omega) rfl rfl fun g24 N24 hT24 => ?_)
  refine TL_p (PV_assign rfl) ?_
  refine TL_nil ?_
  refine T_seq ?_
  refine T_region ?_
  refine TL_p (PV_move rfl) ?_
  refine TL_p (PV_move rfl) ?_
  refine TL_cons rfl (TO_eqD call27 (Fits_v (hT24.mono fun w h => h.sub (by repeat (first | exact Sb.r | exact Sb.ar | exact Sb.al | apply Sb.d | refine Sb.t ?_))) (by omega) hus (by omega) rfl hf1) rfl rfl _ (List.Sublist.refl _) ?_)
  refine TL_p (PV_move rfl) ?_
  refine TL_yes rfl rfl rfl (TO_pure rfl (PV_move rfl) ?_)
  refine TL_yes rfl rfl rfl (TO_pure rfl (PV_move rfl) ?_)
  refine TL_yes rfl rfl rfl (TO_eqD call27 (Fits_v (hT24.mono fun w h => h.sub (by repeat (first | exact Sb.r | exact Sb.ar | exact Sb.al | apply Sb.d | refine Sb.t ?_))) (by omega) huu (by omega) rfl hf2) rfl rfl _ (List.Sublist.refl _) ?_)
  refine TL_yes rfl rfl rfl (TO_pure rfl (PV_move rfl) ?_)
  refine TL_yes rfl rfl rfl (TO_pure rfl (PV_move rfl) ?_)
  refine TL_yes rfl rfl rfl (TO_pure rfl (PV.cast (PV_bin rfl rfl bin_str_eql) e34) ?_)
  refine TL_yes rfl rfl rfl (TO_pure rfl (PV.cast (PV_bin rfl rfl (bin_bool_eql Try.underlying4)) (by rw [beq_self_eq_true])) ?_)
  refine TL_p (PV_pickAnd rfl rfl rfl) ?_
  refine TL_p (PV_move rfl) ?_
  refine TL_yes rfl rfl rfl (TO_pure rfl (PV_move rfl) ?_)
  refine TL_yes rfl rfl rfl (TO_eqD call30 (Len_t (hT24.mono fun w h => h.sub (by repeat (first | exact Sb.r | exact Sb.ar | exact Sb.al | apply Sb.d | refine Sb.t ?_)))) rfl rfl _ (List.Sublist.refl _) ?_)
  refine TL_yes rfl rfl rfl (TO_pure rfl (PV_move rfl) ?_)
  refine TL_yes rfl rfl rfl (TO_pure rfl (PV.cast (PV_len_string Try.underlying9 rfl) e41) ?_)
  refine TL_yes rfl rfl rfl (TO_pure rfl (PV.cast (PV_bin rfl rfl bin_eql) (by rw [hpl, beq_self_eq_true])) ?_)
  refine TL_p (PV_pickAnd rfl rfl rfl) ?_
  refine TL_p (PV_assign rfl) ?_
  refine TL_nil ?_
  refine T_ret ?_
  refine ret_ret (ResV_one rfl rfl) ⟨_, ?zb12q84, ⟨rfl, rfl⟩⟩
  case zb12q84 => exact (by (repeat (first | exact Sb.r | exact Sb.ar | exact Sb.al | apply Sb.c | apply Sb.d | refine Sb.t ?_)); done)
end
end Go.Proofs.Ytkgdphbccagjcaa.SL
