import Derived.Test.YtijpbpnfachlkaaDoorP10
/- Any number of any bytes. No statement is proved here. -/
set_option linter.unusedVariables false
set_option linter.unusedSimpArgs false
set_option maxRecDepth 100000
set_option maxHeartbeats 8000000
namespace Go.Proofs.YtijpbpnfachlkaaDoor.SL
open Go Go.RowKit
section
variable {w0 : World} {B : Nat} {H X : List Chunk}
theorem pplus : ∃ t j, pParse [98, 43] = .ok t j ∧ firstT (endsL [97, 97, 98, 98] t (upto 5 5)) 5 0 = some 3 := ⟨_, _, rfl, by decide +kernel⟩
def txt (l : List Int) : Nat → List Int
  | 0 => []
  | i + 1 => if i < 14 then txt l i ++ [97 + Int.tmod (rd l i) 3] else txt l i
theorem txt_len (l : List Int) : ∀ i, (txt l i).length = min i 14
  | 0 => rfl
  | i + 1 => by
    have := txt_len l i
    unfold txt
    split
    · simp only [List.length_append, List.length_cons, List.length_nil]; omega
    · omega
theorem txt_mem {l : List Int} (hu : U8s l) : ∀ (i : Nat), ∀ x ∈ txt l i, 97 ≤ x ∧ x < 100
  | 0, x, h => by simp [txt] at h
  | i + 1, x, h => by
    have ih := txt_mem hu i
    unfold txt at h
    split at h
    · rcases List.mem_append.1 h with h | h
      · exact ih x h
      · have hx := hu.at_ (i : Int)
        have : x = 97 + Int.tmod (rd l i) 3 := by simpa using h
        have h1 := Int.tmod_nonneg 3 hx.1
        have h2 := Int.tmod_lt_of_pos (rd l i) (show (0 : Int) < 3 by omega)
        omega
    · exact ih x h
theorem Text_t {A : Option Addr} {m c : Nat} {l : List Int} (hS : Shows (WH w0 B H) A m 1 (nums .u8 l)) (hlm : l.length = m) (hl : m ≤ 9223372036854775807) (hc : m ≤ c) (hu : U8s l) : TCall Tryd.prog w0 B 28 #[.slice A m c] (fun r H' => r = .string (strOfNums (txt l m)) ∧ H' = H) H := by
  subst hlm
  refine TCall_intro (args := [_]) Tryd.func28 rfl Tryd.ntmps28 (Nat.le_of_ble_eq_true rfl) ?_
  refine T_seq ?_
  refine T_region ?_
  refine TL_p (PV_assign rfl) ?_
  refine TL_nil ?_
  refine T_seq ?_
  refine T_region ?_
  refine TL_p (PV_assign rfl) ?_
  refine TL_nil ?_
  refine T_seq ?_
  refine T_seq ?_
  refine T_region ?_
  refine TL_p (PV_move rfl) ?_
  refine TL_p (PV_len_slice Tryd.underlying22 rfl) ?_
  refine TL_p (PV_move rfl) ?_
  refine TL_nil ?_
  refine T_block ?_
  refine ?L1
  case L1 =>
    refine T_loopP1 (fun (i : Nat) => i ≤ l.length) (fun i => l.length - i) (fun i => [(3, .string (strOfNums (txt l i))), (6, .slice A l.length c), (7, .int .i64 (l.length : Int)), (8, .int .i64 (i : Int))]) (fun i => H) 0 (Nat.zero_le _) (by repeat (first | exact FrSub.nil _ | refine FrSub.cons rfl ?_)) (Has.of_sub (by repeat (first | exact Sb.r | exact Sb.ar | exact Sb.al | apply Sb.c | apply Sb.d | refine Sb.t ?_))) ?_
    intro i hi
    by_cases hil : i < l.length
    · refine T_shows hS (by simp [nums]; omega) fun g o hA hrd => ?_
      subst hA
      have hr : Rd _ ⟨g, o + i * 1, none⟩ (.int .u8 (rd l i)) := hrd (i * 1) _ (nums_at' i (by omega) hil)
      have e23 : Value.int .i64 (IntKind.i64.wrap ((i : Int) + 1)) = .int .i64 ((i + 1 : Nat) : Int) := wr64n _ (by push_cast; rfl) (by omega)
      have hx := hu.at_ (i : Int)
      have h1 := Int.tmod_nonneg 3 hx.1
      have h2 := Int.tmod_lt_of_pos (rd l i) (show (0 : Int) < 3 by omega)
      obtain ⟨q, hq⟩ : ∃ q, Int.tmod (rd l i) 3 = q := ⟨_, rfl⟩
      rw [hq] at h1 h2
      by_cases h14 : i < 14
      · have hst : txt l (i + 1) = txt l i ++ [97 + q] := by conv => { lhs; unfold txt }; rw [if_pos h14, hq]
        have hor : q = 0 ∨ q = 1 ∨ q = 2 := by omega
        rcases hor with rfl | rfl | rfl
        · have e17 : Value.int .u8 (Int.tmod (rd l i) 3) = .int .u8 0 := by rw [hq]
          have e20 : Value.int .u8 (IntKind.u8.wrap (0 + 1)) = .int .u8 1 := rfl
          have e21 : Value.string ((⟨#[97, 98, 99]⟩ : ByteArray).extract 0 1) = .string (strOfNums [97]) := by kernel_rfl
          have e22 : Value.string (strOfNums (txt l i) ++ strOfNums [97]) = .string (strOfNums (txt l (i + 1))) := by rw [str_app, hst]; rfl
          have hb22 : (strOfNums (txt l i)).size + (strOfNums [97]).size ≤ 9223372036854775807 := by
            rw [str_len, str_len, txt_len]
            show min i 14 + 1 ≤ _
            omega
          refine T_seq ?_
          refine T_region ?_
          refine TL_p (PV_bin rfl rfl bin_lss) ?_
          refine TL_nil ?_
          refine T_seq ?_
          refine T_then rfl (by exact decide_eq_true (by omega)) ?_
          refine T_skip ?_
          refine T_seq ?_
          refine T_block ?_
          refine T_seq ?_
          refine T_region ?_
          refine TL_p (PV_move rfl) ?_
          refine TL_p (PV_indexAddr Tryd.underlying22 sz5 rfl rfl rfl (by first | omega | decide | assumption)) ?_
          refine TL_p (PV_load Tryd.underlying5 rfl rfl hr) ?_
          refine TL_p (PV_assign rfl) ?_
          refine TL_p (PV_assign rfl) ?_
          refine TL_nil ?_
          refine T_seq ?_
          refine T_region ?_
          refine TL_p (PV_move rfl) ?_
          refine TL_p (PV_bin rfl rfl bin_lss) ?_
          refine TL_nil ?_
          refine T_then rfl (by exact decide_eq_true (by omega)) ?_
          refine T_region ?_
          refine TL_p (PV_move rfl) ?_
          refine TL_p (PV_move rfl) ?_
          refine TL_p (PV.cast (PV_bin rfl rfl (bin_rem (by decide))) e17) ?_
          refine TL_p (PV_move rfl) ?_
          refine TL_p (PV.cast (PV_bin rfl rfl (bin_rem (by decide))) e17) ?_
          refine TL_p (PV.cast (PV_bin rfl rfl bin_add) e20) ?_
          refine TL_p (PV.cast (PV_sliceStr (l := 0) (h := 1) Tryd.underlying9 rfl ⟨_, rfl⟩ ⟨_, rfl⟩ (by decide) (by decide)) e21) ?_
          refine TL_p (PV.cast (PV_bin rfl rfl (bin_str_add hb22)) e22) ?_
          refine TL_p (PV_assign rfl) ?_
          refine TL_nil ?_
          refine T_region ?_
          refine TL_p (PV.cast (PV_bin rfl rfl bin_add) e23) ?_
          refine TL_p (PV_move rfl) ?_
          refine TL_nil ?_
          refine ?L201
          case L201 =>
            exact ⟨i + 1, by omega, by omega, (by repeat (first | exact FrSub.nil _ | refine FrSub.cons rfl ?_)), Has.of_sub (by repeat (first | exact Sb.r | exact Sb.ar | exact Sb.al | apply Sb.c | apply Sb.d | refine Sb.t ?_))⟩
        · have e17 : Value.int .u8 (Int.tmod (rd l i) 3) = .int .u8 1 := by rw [hq]
          have e20 : Value.int .u8 (IntKind.u8.wrap (1 + 1)) = .int .u8 2 := rfl
          have e21 : Value.string ((⟨#[97, 98, 99]⟩ : ByteArray).extract 1 2) = .string (strOfNums [98]) := by kernel_rfl
          have e22 : Value.string (strOfNums (txt l i) ++ strOfNums [98]) = .string (strOfNums (txt l (i + 1))) := by rw [str_app, hst]; rfl
          have hb22 : (strOfNums (txt l i)).size + (strOfNums [98]).size ≤ 9223372036854775807 := by
            rw [str_len, str_len, txt_len]
            show min i 14 + 1 ≤ _
            omega
          refine T_seq ?_
          refine T_region ?_
          refine TL_p (PV_bin rfl rfl bin_lss) ?_
          refine TL_nil ?_
          refine T_seq ?_
          refine T_then rfl (by exact decide_eq_true (by omega)) ?_
          refine T_skip ?_
          refine T_seq ?_
          refine T_block ?_
          refine T_seq ?_
          refine T_region ?_
          refine TL_p (PV_move rfl) ?_
          refine TL_p (PV_indexAddr Tryd.underlying22 sz5 rfl rfl rfl (by first | omega | decide | assumption)) ?_
          refine TL_p (PV_load Tryd.underlying5 rfl rfl hr) ?_
          refine TL_p (PV_assign rfl) ?_
          refine TL_p (PV_assign rfl) ?_
          refine TL_nil ?_
          refine T_seq ?_
          refine T_region ?_
          refine TL_p (PV_move rfl) ?_
          refine TL_p (PV_bin rfl rfl bin_lss) ?_
          refine TL_nil ?_
          refine T_then rfl (by exact decide_eq_true (by omega)) ?_
          refine T_region ?_
          refine TL_p (PV_move rfl) ?_
          refine TL_p (PV_move rfl) ?_
          refine TL_p (PV.cast (PV_bin rfl rfl (bin_rem (by decide))) e17) ?_
          refine TL_p (PV_move rfl) ?_
          refine TL_p (PV.cast (PV_bin rfl rfl (bin_rem (by decide))) e17) ?_
          refine TL_p (PV.cast (PV_bin rfl rfl bin_add) e20) ?_
          refine TL_p (PV.cast (PV_sliceStr (l := 1) (h := 2) Tryd.underlying9 rfl ⟨_, rfl⟩ ⟨_, rfl⟩ (by decide) (by decide)) e21) ?_
          refine TL_p (PV.cast (PV_bin rfl rfl (bin_str_add hb22)) e22) ?_
          refine TL_p (PV_assign rfl) ?_
          refine TL_nil ?_
          refine T_region ?_
          refine TL_p (PV.cast (PV_bin rfl rfl bin_add) e23) ?_
          refine TL_p (PV_move rfl) ?_
          refine TL_nil ?_
          refine ?L211
          case L211 =>
            exact ⟨i + 1, by omega, by omega, (by repeat (first | exact FrSub.nil _ | refine FrSub.cons rfl ?_)), Has.of_sub (by repeat (first | exact Sb.r | exact Sb.ar | exact Sb.al | apply Sb.c | apply Sb.d | refine Sb.t ?_))⟩
        · have e17 : Value.int .u8 (Int.tmod (rd l i) 3) = .int .u8 2 := by rw [hq]
          have e20 : Value.int .u8 (IntKind.u8.wrap (2 + 1)) = .int .u8 3 := rfl
          have e21 : Value.string ((⟨#[97, 98, 99]⟩ : ByteArray).extract 2 3) = .string (strOfNums [99]) := by kernel_rfl
          have e22 : Value.string (strOfNums (txt l i) ++ strOfNums [99]) = .string (strOfNums (txt l (i + 1))) := by rw [str_app, hst]; rfl
          have hb22 : (strOfNums (txt l i)).size + (strOfNums [99]).size ≤ 9223372036854775807 := by
            rw [str_len, str_len, txt_len]
            show min i 14 + 1 ≤ _
            omega
          refine T_seq ?_
          refine T_region ?_
          refine TL_p (PV_bin rfl rfl bin_lss) ?_
          refine TL_nil ?_
          refine T_seq ?_
          refine T_then rfl (by exact decide_eq_true (by omega)) ?_
          refine T_skip ?_
          refine T_seq ?_
          refine T_block ?_
          refine T_seq ?_
          refine T_region ?_
          refine TL_p (PV_move rfl) ?_
          refine TL_p (PV_indexAddr Tryd.underlying22 sz5 rfl rfl rfl (by first | omega | decide | assumption)) ?_
          refine TL_p (PV_load Tryd.underlying5 rfl rfl hr) ?_
          refine TL_p (PV_assign rfl) ?_
          refine TL_p (PV_assign rfl) ?_
          refine TL_nil ?_
          refine T_seq ?_
          refine T_region ?_
          refine TL_p (PV_move rfl) ?_
          refine TL_p (PV_bin rfl rfl bin_lss) ?_
          refine TL_nil ?_
          refine T_then rfl (by exact decide_eq_true (by omega)) ?_
          refine T_region ?_
          refine TL_p (PV_move rfl) ?_
          refine TL_p (PV_move rfl) ?_
          refine TL_p (PV.cast (PV_bin rfl rfl (bin_rem (by decide))) e17) ?_
          refine TL_p (PV_move rfl) ?_
          refine TL_p (PV.cast (PV_bin rfl rfl (bin_rem (by decide))) e17) ?_
          refine TL_p (PV.cast (PV_bin rfl rfl bin_add) e20) ?_
          refine TL_p (PV.cast (PV_sliceStr (l := 2) (h := 3) Tryd.underlying9 rfl ⟨_, rfl⟩ ⟨_, rfl⟩ (by decide) (by decide)) e21) ?_
          refine TL_p (PV.cast (PV_bin rfl rfl (bin_str_add hb22)) e22) ?_
          refine TL_p (PV_assign rfl) ?_
          refine TL_nil ?_
          refine T_region ?_
          refine TL_p (PV.cast (PV_bin rfl rfl bin_add) e23) ?_
          refine TL_p (PV_move rfl) ?_
          refine TL_nil ?_
          refine ?L221
          case L221 =>
            exact ⟨i + 1, by omega, by omega, (by repeat (first | exact FrSub.nil _ | refine FrSub.cons rfl ?_)), Has.of_sub (by repeat (first | exact Sb.r | exact Sb.ar | exact Sb.al | apply Sb.c | apply Sb.d | refine Sb.t ?_))⟩
      · have hst : txt l (i + 1) = txt l i := by conv => { lhs; unfold txt }; rw [if_neg h14]
        refine T_seq ?_
        refine T_region ?_
        refine TL_p (PV_bin rfl rfl bin_lss) ?_
        refine TL_nil ?_
        refine T_seq ?_
        refine T_then rfl (by exact decide_eq_true (by omega)) ?_
        refine T_skip ?_
        refine T_seq ?_
        refine T_block ?_
        refine T_seq ?_
        refine T_region ?_
        refine TL_p (PV_move rfl) ?_
        refine TL_p (PV_indexAddr Tryd.underlying22 sz5 rfl rfl rfl (by first | omega | decide | assumption)) ?_
        refine TL_p (PV_load Tryd.underlying5 rfl rfl hr) ?_
        refine TL_p (PV_assign rfl) ?_
        refine TL_p (PV_assign rfl) ?_
        refine TL_nil ?_
        refine T_seq ?_
        refine T_region ?_
        refine TL_p (PV_move rfl) ?_
        refine TL_p (PV_bin rfl rfl bin_lss) ?_
        refine TL_nil ?_
        refine T_else rfl (by exact decide_eq_false (by omega)) ?_
        refine T_skip ?_
        refine T_region ?_
        refine TL_p (PV.cast (PV_bin rfl rfl bin_add) e23) ?_
        refine TL_p (PV_move rfl) ?_
        refine TL_nil ?_
        refine ?L31
        case L31 =>
          refine ⟨i + 1, by omega, by omega, by rw [hst]; exact (by repeat (first | exact FrSub.nil _ | refine FrSub.cons rfl ?_)), Has.of_sub (by repeat (first | exact Sb.r | exact Sb.ar | exact Sb.al | apply Sb.c | apply Sb.d | refine Sb.t ?_))⟩
    · obtain rfl : i = l.length := by omega
      refine T_seq ?_
      refine T_region ?_
      refine TL_p (PV_bin rfl rfl bin_lss) ?_
      refine TL_nil ?_
      refine T_seq ?_
      refine T_else rfl (by (simp; done)) ?_
      refine T_exit ?_
      refine T_seq ?_
      refine T_region ?_
      refine TL_p (PV_move rfl) ?_
      refine TL_p (PV_assign rfl) ?_
      refine TL_nil ?_
      refine T_ret ?_
      refine ret_ret (ResV_one rfl rfl) ⟨_, List.Sublist.refl _, ⟨rfl, rfl⟩⟩
/-- a call whose answer is known, all pieces as they were; some of them may be dropped -/
theorem TO_eqD {n : Nat} {fr : Fr} {dst : Option Tmp} {ty : TypeId} {pos : String} {aft : Array Edge} {gd : Option (Nat × Bool)} {K : Fr → List Chunk → Prop} {xs : Array Operand} {ats : Array TypeId} {f : FuncId} {vs : List Value} {V : Value} (hc : CallOk Tryd.prog f) (hcall : TCall Tryd.prog w0 B f vs.toArray (fun r H' => r = V ∧ H' = H) H) (hd : dOk n dst = true) (hx : evs fr xs.toList = some vs) (H2 : List Chunk) (hsub : H2.Sublist H) (h : K (frPut dst V fr) H2) : TO Tryd.prog w0 B n ⟨dst, .call { callee := .value (.func f), args := xs, argTypes := ats }, ty, pos, aft, gd⟩ K fr H := by
  intro HX a w Q hf hr
  have hm : xs.map a.eval = vs.toArray := by
    rw [← hf.evs hx, ← List.map_toArray, Array.toArray_toList]
  have he : execOp a.eval ⟨dst, .call { callee := .value (.func f), args := xs, argTypes := ats }, ty, pos, aft, gd⟩ = callFunc f (#[] ++ xs.map a.eval ++ #[]) := rfl
  simp only [Oper.wp, he, hm, Array.empty_append, Array.append_empty]
  rw [hc]
  simp only [Oper.upon]
  refine (hcall HX w hr).mono ?_
  rintro e w' ⟨v, H', rfl, ⟨rfl, rfl⟩, hr'⟩
  exact ⟨_, _, h, hf.put hd _, hr'.sub (hsub.append_right HX)⟩
theorem TO_parse {n : Nat} {fr : Fr} {dst : Option Tmp} {ty : TypeId} {pos : String} {aft : Array Edge} {gd : Option (Nat × Bool)} {K : Fr → List Chunk → Prop} {xs : Array Operand} {ats : Array TypeId} {s : List Int} {t : Rx} {j : Nat} {b : ByteArray} (hp : pParse s = .ok t j) (hu : U8s s) (hs : s.length ≤ 64) (hb : strOfNums s = b) (hd : dOk n dst = true) (hx : evs fr xs.toList = some [.string b]) (h : ∀ v N, Tr (WH w0 B N) t v → K (frPut dst (.tuple #[v.val, .nilIface]) fr) (H ++ N)) : TO Tryd.prog w0 B n ⟨dst, .call { callee := .value (.func 12), args := xs, argTypes := ats }, ty, pos, aft, gd⟩ K fr H := by
  subst hb
  refine TO_call (HR := []) call12 hd hx (by rw [List.append_nil]) (Parse_ok (H := H) hu hs hp) ?_
  rintro v' H' ⟨v, N, rfl, hv, rfl⟩
  rw [List.append_nil]
  exact h v N hv
theorem First_some {s : List Int} {t : Rx} {v : Nv} {k : Nat} {b : ByteArray} (hv : Tr (WH w0 B H) t v) (hu : U8s s) (hs : s.length ≤ 1000) (hb : strOfNums s = b) (hk : firstT (endsL s t (upto (s.length + 1) (s.length + 1))) (s.length + 1) 0 = some k) : TCall Tryd.prog w0 B 29 [v.val, .string b].toArray (fun r H' => r = .tuple #[.int .i64 (k : Int), .bool true] ∧ H' = H) H := by
  subst hb
  have := First_t (w0 := w0) (B := B) (H := H) hu hs hv
  rw [hk] at this
  exact this
theorem u8_small (l : List Int) (h : ∀ x ∈ l, 0 ≤ x ∧ x ≤ 255) : U8s l := h
end
end Go.Proofs.YtijpbpnfachlkaaDoor.SL
