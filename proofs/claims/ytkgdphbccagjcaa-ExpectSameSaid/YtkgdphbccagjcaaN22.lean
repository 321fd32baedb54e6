import Derived.Test.YtkgdphbccagjcaaN20
import Derived.Test.YtkgdphbccagjcaaE4
import Derived.Test.YtkgdphbccagjcaaN10
import Derived.Test.YtkgdphbccagjcaaQ5
/- Of the same pattern several times the first one comes: the law. No statement is proved here. (Under way.) -/
set_option linter.unusedVariables false
set_option linter.unusedSimpArgs false
set_option maxRecDepth 100000
set_option maxHeartbeats 8000000
namespace Go.Proofs.Ytkgdphbccagjcaa.SL
open Go Go.RowKit
theorem mk_txt8 : ∀ (d : Nat) (l : List Int), U8s l → U8s (mk d l).1
  | d, [], h => by rw [mk_nil]; exact u8_small _ (by decide)
  | 0, n :: l, h => fun x hx => by
    have hx : x = 97 + n.tmod 3 := by simpa [mk] using hx
    obtain ⟨k, hk⟩ := Int.eq_ofNat_of_zero_le (h n (by simp)).1
    have : n.tmod 3 = ((k % 3 : Nat) : Int) := by rw [hk]; rfl
    omega
  | d + 1, n :: l, h => by
    have hl : U8s l := fun x hx => h x (List.mem_cons_of_mem _ hx)
    have h1 := mk_txt8 d l hl
    have h2 := mk_txt8 d _ (mk_rest d l hl)
    unfold mk
    repeat' split
    all_goals
      intro x hx
      simp only [List.mem_append, List.mem_cons, List.not_mem_nil, or_false] at hx
      rcases hx with hx
      first
        | (rcases hx with (((hx | hx) | hx) | hx) | hx <;> first | exact h1 x hx | exact h2 x hx | omega)
        | (rcases hx with (hx | hx) | hx <;> first | exact h1 x hx | exact h2 x hx | omega)
        | omega
theorem bestS_at {t : Rx} {p : List Bool} {c : Nat} {ts : List Rx} {ps : List (List Bool)} {k : Nat} (ht : ∀ j, j < k → ts.getD j .nothing = t) (hp : ∀ j, j < k → ps.getD j [] = p) : ∀ {j : Nat}, j ≤ k → bestT ts ps c j = if endsT t (stepL t p c true) = true ∧ 0 < j then some 0 else none
  | 0, _ => by simp [bestT]
  | j + 1, hj => by
    unfold bestT
    rw [bestS_at ht hp (j := j) (by omega), ht j (by omega), hp j (by omega)]
    by_cases h : endsT t (stepL t p c true) = true
    · by_cases h0 : 0 < j
      · simp [h, h0]
      · obtain rfl : j = 0 := by omega
        simp [h]
    · simp [h]
section
variable {w0 : World} {B n : Nat} {H HR : List Chunk}
/-- as TO_OfWF, what stood there ahead -/
theorem TO_OfWR {fr : Fr} {dst : Option Tmp} {ty : TypeId} {pos : String} {aft : Array Edge} {gd : Option (Nat × Bool)} {K : Fr → List Chunk → Prop} {xs : Array Operand} {ats : Array TypeId} {Hf : List Chunk} {A : Option Addr} {m c : Nat} {qs : List (List Int)} {ts : List Rx} (hH : H.Perm (Hf ++ HR)) (hS : Shows (WH w0 B Hf) A m 1 (strs qs)) (hqm : qs.length = m) (h1 : 1 ≤ m) (h8 : m ≤ 8) (hc : m ≤ c) (htl : ts.length = m) (hq : ∀ i, i < m → PatOk (qs.getD i []) (ts.getD i .nothing)) (hd : dOk n dst = true) (hx : evs fr xs.toList = some [.slice A m c])
    (h : ∀ gw gT gA cT cA gs vs Z, Wk (WH w0 B Z) ts gs (List.replicate m []) vs m → K (frPut dst (.tuple #[.pointer (some ⟨gw, 0, none⟩), .nilIface]) fr) (HR ++ wB gw gT gA m cT cA 0 false gs vs Z)) :
    TO Try.prog w0 B n ⟨dst, .call { callee := .value (.func 35), args := xs, argTypes := ats }, ty, pos, aft, gd⟩ K fr H := by
  intro HX a w Q hf hr
  have hm : xs.map a.eval = #[.slice A m c] := by
    have : xs.map a.eval = [Value.slice A m c].toArray := by rw [← hf.evs hx, ← List.map_toArray, Array.toArray_toList]
    exact this
  have he : execOp a.eval ⟨dst, .call { callee := .value (.func 35), args := xs, argTypes := ats }, ty, pos, aft, gd⟩ = callFunc 35 (#[] ++ xs.map a.eval ++ #[]) := rfl
  simp only [Oper.wp, he, hm, Array.empty_append, Array.append_empty]
  rw [call35]
  simp only [Oper.upon]
  have hr2 : Rep w0 B (Hf ++ (HR ++ HX)) w := by
    rw [← List.append_assoc]; exact hr.perm (hH.append_right HX)
  refine (OfW_t hS hqm h1 h8 hc htl hq (HR ++ HX) w hr2).mono ?_
  rintro e w' ⟨v, H', rfl, ⟨gw, gT, gA, cT, cA, gs, vs, Z, rfl, hZ, hW, rfl⟩, hr'⟩
  refine ⟨_, _, h gw gT gA cT cA gs vs Z hW, hf.put hd _, ?_⟩
  rw [List.append_assoc]
  exact hr'.perm (List.perm_append_comm_assoc _ HR HX)
theorem ExpectSame_t {A0 A1 : Option Addr} {m0 m1 c0 c1 : Nat} {l0 l1 : List Int} (mn : Nat) (hmn : mn ≤ 255) (hS0 : Shows (WH w0 B H) A0 m0 1 (nums .u8 l0)) (hm0 : l0.length = m0) (hl0 : m0 ≤ 4611686018427387904) (hc0 : m0 ≤ c0) (hu0 : U8s l0) (hS1 : Shows (WH w0 B H) A1 m1 1 (nums .u8 l1)) (hm1 : l1.length = m1) (hl1 : m1 ≤ 4611686018427387904) (hc1 : m1 ≤ c1) (hu1 : U8s l1) :
    TCall Try.prog w0 B 17 #[.slice A0 m0 c0, .slice A1 m1 c1, .int .u8 (mn : Int)] (fun r H' => r = .bool true ∧ H' = H) H := by
  obtain ⟨t, ht⟩ : ∃ t, (mk 2 l0).2.1 = t := ⟨_, rfl⟩
  obtain ⟨q, hq⟩ : ∃ q, (mk 2 l0).1 = q := ⟨_, rfl⟩
  obtain ⟨s, hs⟩ : ∃ s, txt l1 m1 = s := ⟨_, rfl⟩
  have hpar := mk_parse (d := 2) (by omega) hu0
  rw [ht, hq] at hpar
  have hvt : ∀ {W : World → Prop} {v : Nv}, Tr W (mk 2 l0).2.1 v → Tr W t v := fun h => ht ▸ h
  have hHN : ∀ N : List Chunk, H.Sublist (H ++ N) := fun N => List.sublist_append_left H N
  have hls := txt_len l1 m1
  have hms := txt_mem hu1 m1
  have hsm := mk_small (d := 2) (by omega) l0
  have hql := mk_len (d := 2) (by omega) l0
  rw [hs] at hms hls
  rw [ht] at hsm
  rw [hq] at hql
  have hus : U8s s := fun x hx => by have := hms x hx; omega
  have hqv : Value.string (strOfNums (mk 2 l0).1) = .string (strOfNums q) := by rw [hq]
  have eq_ : Value.int .i64 (((strOfNums (mk 2 l0).1).size : Nat) : Int) = .int .i64 ((q.length : Nat) : Int) := by rw [hq, str_len]
  have es : Value.int .i64 (((strOfNums s).size : Nat) : Int) = .int .i64 ((s.length : Nat) : Int) := by rw [str_len]
  obtain ⟨R, hR⟩ : ∃ R, endsL s t (upto (s.length + 1) (s.length + 1)) = R := ⟨_, rfl⟩
  have hRk := fun k (hk : k ≤ s.length) => any_fits (s := s) (t := t) (k := k) hk
  rw [hR] at hRk
  obtain ⟨kk, ok, hfv, hy, hn⟩ : ∃ (kk : Nat) (ok : Bool), firstV (firstT R (s.length + 1) 0) = .tuple #[.int .i64 (kk : Int), .bool ok] ∧ (ok = true → kk ≤ s.length ∧ R.getD kk false = true ∧ ∀ j, j < kk → R.getD j false = false) ∧ (ok = false → kk = 0 ∧ ∀ j, j ≤ s.length → R.getD j false = false) := by
    cases ho : firstT R (s.length + 1) 0 with
    | some k =>
      have := firstT_iff.1 ho
      exact ⟨k, true, rfl, fun _ => ⟨by omega, this.2.2.1, fun j hj => this.2.2.2 j (Nat.zero_le _) hj⟩, (fun h => nomatch h)⟩
    | none =>
      have := firstT_none.1 ho
      exact ⟨0, false, rfl, (fun h => nomatch h), fun _ => ⟨rfl, fun j hj => this j (Nat.zero_le _) (by omega)⟩⟩
  have hfv2 : firstV (firstT (endsL s t (upto (s.length + 1) (s.length + 1))) (s.length + 1) 0) = .tuple #[.int .i64 (kk : Int), .bool ok] := by rw [hR]; exact hfv
  by_cases hlong : q.length ≤ 64
  · have e28 : Value.bool (decide (((q.length : Nat) : Int) > 64)) = .bool false := congrArg Value.bool (decide_eq_false (by omega))
    refine TCall_intro (args := [_, _, _]) Try.func17 rfl Try.ntmps17 (Nat.le_of_ble_eq_true rfl) ?_
    refine T_seq ?_
    refine T_region ?_
    refine TL_p (PV_assign rfl) ?_
    refine TL_nil ?_
    refine T_seq ?_
    refine T_seq ?_
    refine T_region ?_
    refine TL_cons rfl (TO_call0 call34 rfl rfl (awake09s) ?_)
    rintro v19_3 H19_3 ⟨rfl, rfl⟩
    refine TL_p (PV_not rfl) ?_
    refine TL_nil ?_
    refine T_else rfl (by rfl) ?_
    refine T_skip ?_
    refine T_seq ?_
    refine T_region ?_
    refine TL_p (PV_move rfl) ?_
    refine TL_cons rfl (TO_mk (d := 2) (by omega) hS0 hm0 hc0 hl0 hu0 rfl rfl fun v23 N23 hv23 => ?_)
    refine TL_p (PV_move rfl) ?_
    refine TL_p (PV_extract rfl rfl) ?_
    refine TL_p (PV_extract rfl rfl) ?_
    refine TL_cons rfl (TO_alloc rfl zr30 fun g5 => ?_)
    refine TL_p (PV_assign rfl) ?_
    refine TL_cons rfl (TO_store 0 rfl rfl rfl sz30 rfl rfl rfl (all_one rfl) (by first | exact Nat.le_of_ble_eq_true rfl | (simp; done) | (simp; omega) | omega) ?_)
    refine TL_nil ?_
    refine T_seq ?_
    refine T_seq ?_
    refine T_region ?_
    refine TL_p (PV_move rfl) ?_
    refine TL_p (PV.cast (PV_len_string Try.underlying9 rfl) eq_) ?_
    refine TL_p (PV.cast (PV_bin rfl rfl bin_gtr) e28) ?_
    refine TL_p (PV_move rfl) ?_
    refine TL_yes rfl rfl rfl (TO_pure rfl (PV_loadAt Try.underlying30 rfl sz30 rfl (Rds.take 0 rfl rfl rfl)) ?_)
    refine TL_yes rfl rfl rfl (TO_Of ((hvt hv23).mono fun w h => h.sub ((List.sublist_append_right H N23).trans (by repeat (first | exact Sb.r | exact Sb.ar | exact Sb.al | apply Sb.d | refine Sb.t ?_)))) (by omega) (by omega) rfl rfl fun g31 N31 hT31 => ?_)
    refine TL_yes rfl rfl rfl (TO_eqD call29 (Empty_t (hT31.mono fun w h => h.sub (by repeat (first | exact Sb.r | exact Sb.ar | exact Sb.al | apply Sb.d | refine Sb.t ?_)))) rfl rfl _ (List.Sublist.refl _) ?_)
    refine ?L1
    case L1 =>
      cases hnul : nul t with
      | true => refine TL_p (PV_pickOr rfl rfl rfl) ?_
                refine TL_nil ?_
                refine T_then rfl (by rfl) ?_
                refine T_seq ?_
                refine T_region ?_
                refine TL_p (PV_assign rfl) ?_
                refine TL_nil ?_
                refine T_ret ?_
                refine ret_ret (ResV_one rfl rfl) ⟨_, ?zb1001q109, ⟨rfl, rfl⟩⟩
                case zb1001q109 => exact (by (repeat (first | exact Sb.r | exact Sb.ar | exact Sb.al | apply Sb.c | apply Sb.d | refine Sb.t ?_)); done)
      | false =>
        have hpat : PatOk q t := ⟨by rw [← hq]; exact mk_txt8 2 l0 hu0, hlong, ⟨_, hpar⟩, hnul, by omega, by omega⟩
        refine TL_p (PV_pickOr rfl rfl rfl) ?_
        refine TL_nil ?_
        refine T_else rfl (by rfl) ?_
        refine T_skip ?_
        refine T_seq ?_
        refine T_region ?_
        refine TL_p (PV_assign rfl) ?_
        refine TL_nil ?_
        refine T_seq ?_
        refine T_seq ?_
        refine T_region ?_
        refine TL_p (PV_assign rfl) ?_
        refine TL_nil ?_
        refine T_block ?_
        refine ?L21
        case L21 =>
          refine T_addNil 1 ?_
          have e36 : Value.int .u8 ((mn : Int).tmod 8) = .int .u8 ((mn % 8 : Nat) : Int) := rfl
          have e37 : Value.int .i64 (IntKind.i64.wrap ((mn % 8 : Nat) : Int)) = .int .i64 ((mn % 8 : Nat) : Int) := wr64n _ rfl (by omega)
          refine T_loopP3 (fun (k : Nat) (A : Option Addr) (c : Nat) => k ≤ mn % 8 + 1 ∧ k ≤ c) (fun k _ _ => mn % 8 + 1 - k) (fun k A c => [(1, .slice A1 m1 c1), (2, .int .u8 (mn : Int)), (7, .string (strOfNums (mk 2 l0).1)), (8, .pointer (some ⟨g5, 0, none⟩)), (9, .slice A k c), (10, .int .i64 (k : Int))]) (fun k A c => .sl (.slice A k c) 1 k (strs (List.replicate k q)) :: .own g5 6 v23.cells :: ((H ++ N23) ++ N31)) 0 none 0 ⟨Nat.zero_le _, Nat.le_refl _⟩ (by repeat (first | exact FrSub.nil _ | refine FrSub.cons rfl ?_)) (Has.of_sub (by repeat (first | exact Sb.r | exact Sb.ar | exact Sb.al | apply Sb.c | apply Sb.d | refine Sb.t ?_))) ?_
          rintro k A c ⟨hk, hkc⟩
          by_cases hkl : k < mn % 8 + 1
          · have e38 : Value.bool (decide ((k : Int) ≤ ((mn % 8 : Nat) : Int))) = .bool true := congrArg Value.bool (decide_eq_true (by omega))
            have e40 : Value.int .i64 (IntKind.i64.wrap ((k : Int) + 1)) = .int .i64 ((k + 1 : Nat) : Int) := wr64n _ (by push_cast; rfl) (by omega)
            refine T_seq ?_
            refine T_seq ?_
            refine T_region ?_
            refine TL_p (PV_move rfl) ?_
            refine TL_p (PV_move rfl) ?_
            refine TL_p (PV.cast (PV_bin rfl rfl (bin_rem (by decide))) e36) ?_
            refine TL_p (PV.cast (PV_conv (by rw [Try.underlying5]; rfl) Try.underlying3 rfl) e37) ?_
            refine TL_p (PV.cast (PV_bin rfl rfl bin_leq) e38) ?_
            refine TL_nil ?_
            refine T_then rfl (by rfl) ?_
            refine T_skip ?_
            refine T_seq ?_
            refine T_block ?_
            refine T_region ?_
            refine TL_p (PV_move rfl) ?_
            refine TL_p (PV_move rfl) ?_
            refine TL_cons rfl (TO_bs (cs := [_]) Try.underlying67 zs9 (by decide) rfl rfl rfl rfl rfl rfl fun g3001 => ?_)
            refine TL_cons rfl (TO_append 1 rfl Try.underlying67 zb9 rfl (by decide) rfl rfl rfl (Shows.at 0 rfl) ?oc3002q122 ?bb3002q122 ?bc3002q122 fun A3002 c3002 hc3002 => ?_)
            case oc3002q122 => (simp [Value.oneCell'])
            case bb3002q122 => omega
            case bc3002q122 => omega
            refine TL_p (PV_assign rfl) ?_
            refine TL_nil ?_
            refine T_region ?_
            refine TL_p (PV_move rfl) ?_
            refine TL_p (PV.cast (PV_bin rfl rfl bin_add) e40) ?_
            refine TL_p (PV_assign rfl) ?_
            refine TL_nil ?_
            refine ?L31
            case L31 =>
              have hrep : strs (List.replicate (k + 1) q) = strs (List.replicate k q) ++ [.string (strOfNums (mk 2 l0).1)] := by
                rw [hq, List.replicate_succ']
                simp [strs]
              refine ⟨k + 1, A3002, c3002, ⟨by omega, by omega⟩, by omega, (by repeat (first | exact FrSub.nil _ | refine FrSub.cons rfl ?_)), ?_⟩
              rw [hrep]
              exact Has.of_sub (by repeat (first | exact Sb.r | exact Sb.ar | exact Sb.al | apply Sb.c | apply Sb.d | refine Sb.t ?_))
          · obtain rfl : k = mn % 8 + 1 := by omega
            have e38 : Value.bool (decide (((mn % 8 + 1 : Nat) : Int) ≤ ((mn % 8 : Nat) : Int))) = .bool false := congrArg Value.bool (decide_eq_false (by omega))
            refine T_seq ?_
            refine T_seq ?_
            refine T_region ?_
            refine TL_p (PV_move rfl) ?_
            refine TL_p (PV_move rfl) ?_
            refine TL_p (PV.cast (PV_bin rfl rfl (bin_rem (by decide))) e36) ?_
            refine TL_p (PV.cast (PV_conv (by rw [Try.underlying5]; rfl) Try.underlying3 rfl) e37) ?_
            refine TL_p (PV.cast (PV_bin rfl rfl bin_leq) e38) ?_
            refine TL_nil ?_
            refine T_else rfl (by rfl) ?_
            refine T_exit ?_
            refine T_seq ?_
            refine T_region ?_
            refine TL_p (PV_move rfl) ?_
            refine ?L41
            case L41 =>
              obtain ⟨K, hK⟩ : ∃ K, mn % 8 + 1 = K := ⟨_, rfl⟩
              rw [hK] at hkc ⊢
              have hpats : ∀ i, i < K → PatOk ((List.replicate K q).getD i []) ((List.replicate K t).getD i .nothing) := fun i hi => by
                rw [show (List.replicate K q).getD i [] = q by simp [List.getD_eq_getElem?_getD, hi], show (List.replicate K t).getD i .nothing = t by simp [List.getD_eq_getElem?_getD, hi]]
                exact hpat
              refine TL_cons rfl (TO_OfWR (Hf := [.sl (.slice A K c) 1 K (strs (List.replicate K q))]) (HR := .own g5 6 v23.cells :: ((H ++ N23) ++ N31)) (qs := List.replicate K q) (ts := List.replicate K t) (m := K) (c := c) (A := A) (List.Perm.refl _) (Shows.at 0 rfl) (by simp) (by omega) (by omega) hkc (by simp) hpats rfl rfl fun gw gT gA cT cA gs vs0 Z0 hW0 => ?_)
              refine TL_p (PV_move rfl) ?_
              refine TL_p (PV_extract rfl rfl) ?_
              refine TL_p (PV_extract rfl rfl) ?_
              refine TL_p (PV_assign rfl) ?_
              refine TL_p (PV_assign rfl) ?_
              refine TL_nil ?_
              refine T_seq ?_
              refine T_seq ?_
              refine T_region ?_
              refine TL_p (PV_move rfl) ?_
              refine TL_p (PV_bin rfl rfl (bin_nil_nnil Try.underlying42)) ?_
              refine TL_p (PV_move rfl) ?_
              refine TL_yes rfl rfl rfl (TO_pure rfl (PV_move rfl) ?_)
              refine TL_yes rfl rfl rfl (TO_pure rfl (PV_bin rfl rfl (bin_ptr_nil Try.underlying62)) ?_)
              refine TL_p (PV_pickOr rfl rfl rfl) ?_
              refine TL_nil ?_
              refine T_else rfl (by rfl) ?_
              refine T_skip ?_
              refine T_seq ?_
              refine T_region ?_
              refine TL_p (PV_move rfl) ?_
              refine TL_cons rfl (TO_eqD call20 (Text_v hs (hS1.mono fun w h => h.sub ((hHN N23).trans ((List.sublist_append_left _ N31).trans (by repeat (first | exact Sb.r | exact Sb.ar | exact Sb.al | apply Sb.d | refine Sb.t ?_))))) hm1 hl1 hc1 hu1) rfl rfl _ (List.Sublist.refl _) ?_)
              refine TL_p (PV_assign rfl) ?_
              refine TL_nil ?_
              refine T_seq ?_
              refine T_region ?_
              refine TL_p (PV_loadAt Try.underlying30 rfl sz30 rfl (Rds.take 0 rfl rfl rfl)) ?_
              refine TL_p (PV_move rfl) ?_
              refine TL_cons rfl (TO_eqD call22 (First_gen ((hvt hv23).mono fun w h => h.sub ((List.sublist_append_right H N23).trans ((List.sublist_append_left _ N31).trans (by repeat (first | exact Sb.r | exact Sb.ar | exact Sb.al | apply Sb.d | refine Sb.t ?_))))) hus (by omega) rfl hfv2) rfl rfl _ (List.Sublist.refl _) ?_)
              refine TL_p (PV_move rfl) ?_
              refine TL_p (PV_extract rfl rfl) ?_
              refine TL_p (PV_extract rfl rfl) ?_
              refine TL_p (PV_assign rfl) ?_
              refine TL_p (PV_assign rfl) ?_
              refine TL_nil ?_
              refine T_seq ?_
              refine T_seq ?_
              refine T_region ?_
              refine TL_p (PV_assign rfl) ?_
              refine TL_nil ?_
              refine T_block ?_
              refine ?L51
              case L51 =>
                have hER : ∀ k, k < s.length → endsT t (seqL t s (k + 1)) = R.getD (k + 1) false := fun k hk => by
                  rw [Bool.eq_iff_iff, seq_ends hk, hRk (k + 1) (by omega)]
                  constructor
                  · rintro ⟨i, h1, h2⟩; exact ⟨i, by omega, fitsT_iff.2 h2⟩
                  · rintro ⟨i, h1, h2⟩
                    rcases Nat.lt_or_ge i (k + 1) with h | h
                    · exact ⟨i, by omega, fitsT_iff.1 h2⟩
                    · obtain rfl : i = k + 1 := by omega
                      rw [sub_nil, fitsT_iff, ← nul_iff, hnul] at h2
                      cases h2
                have hR0 : R.getD 0 false = false := by
                  cases h : R.getD 0 false with
                  | false => rfl
                  | true =>
                    obtain ⟨i, h1, h2⟩ := (hRk 0 (Nat.zero_le _)).1 h
                    obtain rfl : i = 0 := by omega
                    rw [sub_nil, fitsT_iff, ← nul_iff, hnul] at h2
                    cases h2
                refine T_loopP5 (fun (k : Nat) (ov : Bool) (seen : Nat) (vs : List Value) (Z : List Chunk) => k ≤ s.length ∧ (ov = false → seen = k ∧ Wk (WH w0 B Z) (List.replicate K t) gs (List.replicate K (seqL t s k)) vs K ∧ ∀ j, j ≤ k → R.getD j false = false) ∧ (ov = true → ok = true ∧ kk ≤ k)) (fun k _ _ _ _ => s.length - k) (fun k ov seen vs Z => [(11, .pointer (some ⟨gw, 0, none⟩)), (13, .string (strOfNums s)), (14, .int .i64 (kk : Int)), (15, .bool ok), (16, .int .i64 (k : Int))]) (fun k ov seen vs Z => wB gw gT gA K cT cA seen ov gs vs Z ++ (.own g5 6 v23.cells :: ((H ++ N23) ++ N31))) 0 false 0 vs0 Z0 ⟨Nat.zero_le _, fun _ => ⟨rfl, hW0, fun j hj => by have e : j = 0 := (by omega); rw [e]; exact hR0⟩, (fun h => nomatch h)⟩ (by repeat (first | exact FrSub.nil _ | refine FrSub.cons rfl ?_)) ⟨_, List.perm_append_comm, List.Sublist.refl _⟩ ?_
                clear hW0
                rintro k ov seen vs Z ⟨hk, hov, hot⟩
                by_cases hku : k < s.length
                · have e69 : Value.int .i64 (IntKind.i64.wrap ((k : Int) + 1)) = .int .i64 ((k + 1 : Nat) : Int) := wr64n _ (by push_cast; rfl) (by omega)
                  have hrd := rd_u8 hus (k : Int)
                  obtain ⟨cb, hcb⟩ : ∃ cb : Nat, rd s (k : Int) = (cb : Int) := Int.eq_ofNat_of_zero_le hrd.1
                  have e74 : Value.int .u8 (rd s (k : Int)) = .int .u8 (cb : Int) := by rw [hcb]
                  cases ov with
                  | true =>
                    obtain ⟨rfl, hkk⟩ := hot rfl
                    have e87 : Value.bool ((kk : Int) == ((k + 1 : Nat) : Int)) = .bool false := congrArg Value.bool (by rw [beq_eq_false_iff_ne]; omega)
                    refine T_seq ?_
                    refine T_seq ?_
                    refine T_region ?_
                    refine TL_p (PV_move rfl) ?_
                    refine TL_p (PV_move rfl) ?_
                    refine TL_p (PV.cast (PV_len_string Try.underlying9 rfl) es) ?_
                    refine TL_p (PV_bin rfl rfl bin_lss) ?_
                    refine TL_nil ?_
                    refine T_then rfl (by exact decide_eq_true (by omega)) ?_
                    refine T_skip ?_
                    refine T_seq ?_
                    refine T_block ?_
                    refine T_seq ?_
                    refine T_region ?_
                    refine TL_p (PV_move rfl) ?_
                    refine TL_p (PV_move rfl) ?_
                    refine TL_p (PV_move rfl) ?_
                    refine TL_p (PV.cast (PV_indexNums Try.underlying9 rfl rfl rfl hus hku) e74) ?_
                    refine TL_cons rfl (TO_PutOver (cb := cb) (List.Perm.refl _) rfl rfl ?_)
                    refine TL_p (PV_move rfl) ?_
                    refine TL_p (PV_extract rfl rfl) ?_
                    refine TL_p (PV_extract rfl rfl) ?_
                    refine TL_p (PV_assign rfl) ?_
                    refine TL_p (PV_assign rfl) ?_
                    refine TL_nil ?_
                    refine T_seq ?_
                    refine T_region ?_
                    refine TL_p (PV_move rfl) ?_
                    refine TL_p (PV_bin rfl rfl bin_neq) ?_
                    refine TL_p (PV_move rfl) ?_
                    refine TL_yes rfl rfl rfl (TO_pure rfl (PV_move rfl) ?_)
                    refine TL_yes rfl rfl rfl (TO_pure rfl (PV_move rfl) ?_)
                    refine TL_yes rfl rfl rfl (TO_pure rfl (PV_move rfl) ?_)
                    refine TL_yes rfl rfl rfl (TO_pure rfl (PV_move rfl) ?_)
                    refine TL_yes rfl rfl rfl (TO_pure rfl (PV_move rfl) ?_)
                    refine TL_yes rfl rfl rfl (TO_pure rfl (PV.cast (PV_bin rfl rfl bin_add) e69) ?_)
                    refine TL_yes rfl rfl rfl (TO_pure rfl (PV.cast (PV_bin rfl rfl bin_eql) e87) ?_)
                    refine TL_yes rfl rfl rfl (TO_pure rfl (PV_pickAnd rfl rfl rfl) ?_)
                    refine TL_yes rfl rfl rfl (TO_pure rfl (PV.cast (PV_bin rfl rfl (bin_bool_neq Try.underlying4)) rfl) ?_)
                    refine TL_p (PV_pickOr rfl rfl rfl) ?_
                    refine TL_nil ?_
                    refine T_else rfl (by rfl) ?_
                    refine T_skip ?_
                    refine T_region ?_
                    refine TL_p (PV_move rfl) ?_
                    refine TL_p (PV.cast (PV_bin rfl rfl bin_add) e69) ?_
                    refine TL_p (PV_assign rfl) ?_
                    refine TL_nil ?_
                    refine ?L81
                    all_goals exact ⟨k + 1, true, seen, vs, Z, ⟨by omega, (fun h => nomatch h), fun _ => ⟨rfl, by omega⟩⟩, by omega, (by repeat (first | exact FrSub.nil _ | refine FrSub.cons rfl ?_)), Has.of_sub (by repeat (first | exact Sb.r | exact Sb.ar | exact Sb.al | apply Sb.c | apply Sb.d | refine Sb.t ?_))⟩
                  | false =>
                    obtain ⟨rfl, hW, hno⟩ := hov rfl
                    have hss : stepL t (seqL t s seen) cb true = seqL t s (seen + 1) := by
                      show _ = stepL t (seqL t s seen) (rd s (seen : Int)).toNat true
                      rw [hcb, Int.toNat_natCast]
                    have gt : ∀ j, j < K → (List.replicate K t).getD j .nothing = t := fun j hj => by simp [List.getD_eq_getElem?_getD, hj]
                    have gp : ∀ p : List Bool, ∀ j, j < K → (List.replicate K p).getD j [] = p := fun p j hj => by simp [List.getD_eq_getElem?_getD, hj]
                    have hb := bestS_at (c := cb) (k := K) gt (gp (seqL t s seen)) (Nat.le_refl K)
                    rw [hss, hER seen hku] at hb
                    have hpu : ∀ i, (List.replicate K (seqL t s (seen + 1))).getD i [] = (putL (List.replicate K t) (List.replicate K (seqL t s seen)) cb K).getD i [] := fun i => by
                      rw [putL_get, List.length_replicate]
                      by_cases hi : i < K
                      · rw [if_pos ⟨hi, hi⟩, gp _ i hi, gt i hi, gp _ i hi, hss]
                      · rw [if_neg (by omega)]
                        simp [List.getD_eq_getElem?_getD, hi]
                    cases hRv : R.getD (seen + 1) false with
                    | true =>
                      rw [hRv, if_pos ⟨rfl, by omega⟩] at hb
                      have hokk : ok = true ∧ kk = seen + 1 := by
                        cases hok : ok with
                        | false => have := (hn hok).2 (seen + 1) (by omega); rw [hRv] at this; cases this
                        | true =>
                          obtain ⟨y1, y2, y3⟩ := hy hok
                          refine ⟨rfl, ?_⟩
                          rcases Nat.lt_trichotomy kk (seen + 1) with h | h | h
                          · rw [hno kk (by omega)] at y2; cases y2
                          · exact h
                          · have := y3 (seen + 1) h; rw [hRv] at this; cases this
                      obtain ⟨rfl, rfl⟩ := hokk
                      have e87 : Value.bool (((seen + 1 : Nat) : Int) == ((seen + 1 : Nat) : Int)) = .bool true := congrArg Value.bool (beq_self_eq_true _)
                      refine T_seq ?_
                      refine T_seq ?_
                      refine T_region ?_
                      refine TL_p (PV_move rfl) ?_
                      refine TL_p (PV_move rfl) ?_
                      refine TL_p (PV.cast (PV_len_string Try.underlying9 rfl) es) ?_
                      refine TL_p (PV_bin rfl rfl bin_lss) ?_
                      refine TL_nil ?_
                      refine T_then rfl (by exact decide_eq_true (by omega)) ?_
                      refine T_skip ?_
                      refine T_seq ?_
                      refine T_block ?_
                      refine T_seq ?_
                      refine T_region ?_
                      refine TL_p (PV_move rfl) ?_
                      refine TL_p (PV_move rfl) ?_
                      refine TL_p (PV_move rfl) ?_
                      refine TL_p (PV.cast (PV_indexNums Try.underlying9 rfl rfl rfl hus hku) e74) ?_
                      refine TL_cons rfl (TO_PutF (cb := cb) (V := .tuple #[.int .i64 0, .bool true]) (List.Perm.refl _) (by omega) (by omega) (by omega) hW hb rfl rfl rfl fun vs2 Z2 hW2 => ?_)
                      refine TL_p (PV_move rfl) ?_
                      refine TL_p (PV_extract rfl rfl) ?_
                      refine TL_p (PV_extract rfl rfl) ?_
                      refine TL_p (PV_assign rfl) ?_
                      refine TL_p (PV_assign rfl) ?_
                      refine TL_nil ?_
                      refine T_seq ?_
                      refine T_region ?_
                      refine TL_p (PV_move rfl) ?_
                      refine TL_p (PV_bin rfl rfl bin_neq) ?_
                      refine TL_p (PV_move rfl) ?_
                      refine TL_yes rfl rfl rfl (TO_pure rfl (PV_move rfl) ?_)
                      refine TL_yes rfl rfl rfl (TO_pure rfl (PV_move rfl) ?_)
                      refine TL_yes rfl rfl rfl (TO_pure rfl (PV_move rfl) ?_)
                      refine TL_yes rfl rfl rfl (TO_pure rfl (PV_move rfl) ?_)
                      refine TL_yes rfl rfl rfl (TO_pure rfl (PV_move rfl) ?_)
                      refine TL_yes rfl rfl rfl (TO_pure rfl (PV.cast (PV_bin rfl rfl bin_add) e69) ?_)
                      refine TL_yes rfl rfl rfl (TO_pure rfl (PV.cast (PV_bin rfl rfl bin_eql) e87) ?_)
                      refine TL_yes rfl rfl rfl (TO_pure rfl (PV_pickAnd rfl rfl rfl) ?_)
                      refine TL_yes rfl rfl rfl (TO_pure rfl (PV.cast (PV_bin rfl rfl (bin_bool_neq Try.underlying4)) rfl) ?_)
                      refine TL_p (PV_pickOr rfl rfl rfl) ?_
                      refine TL_nil ?_
                      refine T_else rfl (by rfl) ?_
                      refine T_skip ?_
                      refine T_region ?_
                      refine TL_p (PV_move rfl) ?_
                      refine TL_p (PV.cast (PV_bin rfl rfl bin_add) e69) ?_
                      refine TL_p (PV_assign rfl) ?_
                      refine TL_nil ?_
                      refine ?L91
                      all_goals exact ⟨seen + 1, true, seen + 1, vs2, Z2, ⟨by omega, (fun h => nomatch h), fun _ => ⟨rfl, Nat.le_refl _⟩⟩, by omega, (by repeat (first | exact FrSub.nil _ | refine FrSub.cons rfl ?_)), Has.of_sub (by repeat (first | exact Sb.r | exact Sb.ar | exact Sb.al | apply Sb.c | apply Sb.d | refine Sb.t ?_))⟩
                    | false =>
                      rw [hRv, if_neg (by simp)] at hb
                      have hkk : kk ≠ seen + 1 := fun h => by
                        cases hok : ok with
                        | false => have := (hn hok).1; omega
                        | true => have := (hy hok).2.1; rw [h, hRv] at this; cases this
                      have e87 : Value.bool ((kk : Int) == ((seen + 1 : Nat) : Int)) = .bool false := congrArg Value.bool (by rw [beq_eq_false_iff_ne]; omega)
                      have hno2 : ∀ j, j ≤ seen + 1 → R.getD j false = false := fun j hj => by
                        rcases Nat.lt_or_ge j (seen + 1) with h | h
                        · exact hno j (by omega)
                        · have e : j = seen + 1 := (by omega)
                          rw [e]; exact hRv
                      cases ok
                      · refine T_seq ?_
                        refine T_seq ?_
                        refine T_region ?_
                        refine TL_p (PV_move rfl) ?_
                        refine TL_p (PV_move rfl) ?_
                        refine TL_p (PV.cast (PV_len_string Try.underlying9 rfl) es) ?_
                        refine TL_p (PV_bin rfl rfl bin_lss) ?_
                        refine TL_nil ?_
                        refine T_then rfl (by exact decide_eq_true (by omega)) ?_
                        refine T_skip ?_
                        refine T_seq ?_
                        refine T_block ?_
                        refine T_seq ?_
                        refine T_region ?_
                        refine TL_p (PV_move rfl) ?_
                        refine TL_p (PV_move rfl) ?_
                        refine TL_p (PV_move rfl) ?_
                        refine TL_p (PV.cast (PV_indexNums Try.underlying9 rfl rfl rfl hus hku) e74) ?_
                        refine TL_cons rfl (TO_PutF (cb := cb) (V := .tuple #[.int .i64 0, .bool false]) (List.Perm.refl _) (by omega) (by omega) (by omega) hW hb rfl rfl rfl fun vs2 Z2 hW2 => ?_)
                        refine TL_p (PV_move rfl) ?_
                        refine TL_p (PV_extract rfl rfl) ?_
                        refine TL_p (PV_extract rfl rfl) ?_
                        refine TL_p (PV_assign rfl) ?_
                        refine TL_p (PV_assign rfl) ?_
                        refine TL_nil ?_
                        refine T_seq ?_
                        refine T_region ?_
                        refine TL_p (PV_move rfl) ?_
                        refine TL_p (PV_bin rfl rfl bin_neq) ?_
                        refine TL_p (PV_move rfl) ?_
                        refine TL_yes rfl rfl rfl (TO_pure rfl (PV_move rfl) ?_)
                        refine TL_yes rfl rfl rfl (TO_pure rfl (PV_move rfl) ?_)
                        refine TL_yes rfl rfl rfl (TO_pure rfl (PV_move rfl) ?_)
                        refine TL_no (b := false) rfl rfl rfl rfl ?_
                        refine TL_no (b := false) rfl rfl rfl rfl ?_
                        refine TL_no (b := false) rfl rfl rfl rfl ?_
                        refine TL_no (b := false) rfl rfl rfl rfl ?_
                        refine TL_yes rfl rfl rfl (TO_pure rfl (PV_pickF rfl (by first | assumption | rfl | (simp; done) | (simp; omega) | (simp [*]; done) | (simp [*]; omega)) rfl rfl) ?_)
                        refine TL_yes rfl rfl rfl (TO_pure rfl (PV.cast (PV_bin rfl rfl (bin_bool_neq Try.underlying4)) rfl) ?_)
                        refine TL_p (PV_pickOr rfl rfl rfl) ?_
                        refine TL_nil ?_
                        refine T_else rfl (by rfl) ?_
                        refine T_skip ?_
                        refine T_region ?_
                        refine TL_p (PV_move rfl) ?_
                        refine TL_p (PV.cast (PV_bin rfl rfl bin_add) e69) ?_
                        refine TL_p (PV_assign rfl) ?_
                        refine TL_nil ?_
                        refine ?L101
                        all_goals exact ⟨seen + 1, false, seen + 1, vs2, Z2, ⟨by omega, fun _ => ⟨rfl, hW2.get (by rw [putL_len]; simp) hpu, hno2⟩, (fun h => nomatch h)⟩, by omega, (by repeat (first | exact FrSub.nil _ | refine FrSub.cons rfl ?_)), Has.of_sub (by repeat (first | exact Sb.r | exact Sb.ar | exact Sb.al | apply Sb.c | apply Sb.d | refine Sb.t ?_))⟩
                      · refine T_seq ?_
                        refine T_seq ?_
                        refine T_region ?_
                        refine TL_p (PV_move rfl) ?_
                        refine TL_p (PV_move rfl) ?_
                        refine TL_p (PV.cast (PV_len_string Try.underlying9 rfl) es) ?_
                        refine TL_p (PV_bin rfl rfl bin_lss) ?_
                        refine TL_nil ?_
                        refine T_then rfl (by exact decide_eq_true (by omega)) ?_
                        refine T_skip ?_
                        refine T_seq ?_
                        refine T_block ?_
                        refine T_seq ?_
                        refine T_region ?_
                        refine TL_p (PV_move rfl) ?_
                        refine TL_p (PV_move rfl) ?_
                        refine TL_p (PV_move rfl) ?_
                        refine TL_p (PV.cast (PV_indexNums Try.underlying9 rfl rfl rfl hus hku) e74) ?_
                        refine TL_cons rfl (TO_PutF (cb := cb) (V := .tuple #[.int .i64 0, .bool false]) (List.Perm.refl _) (by omega) (by omega) (by omega) hW hb rfl rfl rfl fun vs2 Z2 hW2 => ?_)
                        refine TL_p (PV_move rfl) ?_
                        refine TL_p (PV_extract rfl rfl) ?_
                        refine TL_p (PV_extract rfl rfl) ?_
                        refine TL_p (PV_assign rfl) ?_
                        refine TL_p (PV_assign rfl) ?_
                        refine TL_nil ?_
                        refine T_seq ?_
                        refine T_region ?_
                        refine TL_p (PV_move rfl) ?_
                        refine TL_p (PV_bin rfl rfl bin_neq) ?_
                        refine TL_p (PV_move rfl) ?_
                        refine TL_yes rfl rfl rfl (TO_pure rfl (PV_move rfl) ?_)
                        refine TL_yes rfl rfl rfl (TO_pure rfl (PV_move rfl) ?_)
                        refine TL_yes rfl rfl rfl (TO_pure rfl (PV_move rfl) ?_)
                        refine TL_yes rfl rfl rfl (TO_pure rfl (PV_move rfl) ?_)
                        refine TL_yes rfl rfl rfl (TO_pure rfl (PV_move rfl) ?_)
                        refine TL_yes rfl rfl rfl (TO_pure rfl (PV.cast (PV_bin rfl rfl bin_add) e69) ?_)
                        refine TL_yes rfl rfl rfl (TO_pure rfl (PV.cast (PV_bin rfl rfl bin_eql) e87) ?_)
                        refine TL_yes rfl rfl rfl (TO_pure rfl (PV_pickAnd rfl rfl rfl) ?_)
                        refine TL_yes rfl rfl rfl (TO_pure rfl (PV.cast (PV_bin rfl rfl (bin_bool_neq Try.underlying4)) rfl) ?_)
                        refine TL_p (PV_pickOr rfl rfl rfl) ?_
                        refine TL_nil ?_
                        refine T_else rfl (by rfl) ?_
                        refine T_skip ?_
                        refine T_region ?_
                        refine TL_p (PV_move rfl) ?_
                        refine TL_p (PV.cast (PV_bin rfl rfl bin_add) e69) ?_
                        refine TL_p (PV_assign rfl) ?_
                        refine TL_nil ?_
                        refine ?L111
                        all_goals exact ⟨seen + 1, false, seen + 1, vs2, Z2, ⟨by omega, fun _ => ⟨rfl, hW2.get (by rw [putL_len]; simp) hpu, hno2⟩, (fun h => nomatch h)⟩, by omega, (by repeat (first | exact FrSub.nil _ | refine FrSub.cons rfl ?_)), Has.of_sub (by repeat (first | exact Sb.r | exact Sb.ar | exact Sb.al | apply Sb.c | apply Sb.d | refine Sb.t ?_))⟩
                · obtain rfl : k = s.length := by omega
                  have hoo : ov = ok := by
                    cases ov with
                    | true => exact (hot rfl).1.symm
                    | false =>
                      cases hok : ok with
                      | false => rfl
                      | true =>
                        have := hy hok
                        rw [(hov rfl).2.2 kk this.1] at this
                        cases this.2.1
                  subst hoo
                  refine T_seq ?_
                  refine T_seq ?_
                  refine T_region ?_
                  refine TL_p (PV_move rfl) ?_
                  refine TL_p (PV_move rfl) ?_
                  refine TL_p (PV.cast (PV_len_string Try.underlying9 rfl) es) ?_
                  refine TL_p (PV_bin rfl rfl bin_lss) ?_
                  refine TL_nil ?_
                  refine T_else rfl (by (simp; done)) ?_
                  refine T_exit ?_
                  refine T_seq ?_
                  refine T_region ?_
                  refine TL_p (PV_move rfl) ?_
                  refine TL_cons rfl (TO_OverF (List.Perm.refl _) rfl rfl ?_)
                  refine TL_p (PV_move rfl) ?_
                  refine TL_p (PV.cast (PV_bin rfl rfl (bin_bool_eql Try.underlying4)) (by rw [beq_self_eq_true])) ?_
                  refine TL_p (PV_assign rfl) ?_
                  refine TL_nil ?_
                  refine ?L71
                  all_goals exact T_ret (ret_ret (ResV_one rfl rfl) ⟨H, ((hHN N23).trans (List.sublist_append_left _ N31)).trans ((List.sublist_cons_self _ _).trans (List.sublist_append_right _ _)), rfl, rfl⟩)
  · have e28 : Value.bool (decide (((q.length : Nat) : Int) > 64)) = .bool true := congrArg Value.bool (decide_eq_true (by omega))
    refine TCall_intro (args := [_, _, _]) Try.func17 rfl Try.ntmps17 (Nat.le_of_ble_eq_true rfl) ?_
    refine T_seq ?_
    refine T_region ?_
    refine TL_p (PV_assign rfl) ?_
    refine TL_nil ?_
    refine T_seq ?_
    refine T_seq ?_
    refine T_region ?_
    refine TL_cons rfl (TO_call0 call34 rfl rfl (awake09s) ?_)
    rintro v19_5003 H19_5003 ⟨rfl, rfl⟩
    refine TL_p (PV_not rfl) ?_
    refine TL_nil ?_
    refine T_else rfl (by rfl) ?_
    refine T_skip ?_
    refine T_seq ?_
    refine T_region ?_
    refine TL_p (PV_move rfl) ?_
    refine TL_cons rfl (TO_mk (d := 2) (by omega) hS0 hm0 hc0 hl0 hu0 rfl rfl fun v23 N23 hv23 => ?_)
    refine TL_p (PV_move rfl) ?_
    refine TL_p (PV_extract rfl rfl) ?_
    refine TL_p (PV_extract rfl rfl) ?_
    refine TL_cons rfl (TO_alloc rfl zr30 fun g5005 => ?_)
    refine TL_p (PV_assign rfl) ?_
    refine TL_cons rfl (TO_store 0 rfl rfl rfl sz30 rfl rfl rfl (all_one rfl) (by first | exact Nat.le_of_ble_eq_true rfl | (simp; done) | (simp; omega) | omega) ?_)
    refine TL_nil ?_
    refine T_seq ?_
    refine T_seq ?_
    refine T_region ?_
    refine TL_p (PV_move rfl) ?_
    refine TL_p (PV.cast (PV_len_string Try.underlying9 rfl) eq_) ?_
    refine TL_p (PV.cast (PV_bin rfl rfl bin_gtr) e28) ?_
    refine TL_p (PV_move rfl) ?_
    refine TL_no (b := true) rfl rfl rfl rfl ?_
    refine TL_no (b := true) rfl rfl rfl rfl ?_
    refine TL_no (b := true) rfl rfl rfl rfl ?_
    refine TL_p (PV_pickT rfl (by first | assumption | rfl | (simp; done) | (simp; omega) | (simp [*]; done) | (simp [*]; omega)) rfl rfl) ?_
    refine TL_nil ?_
    refine T_then rfl (by rfl) ?_
    refine T_seq ?_
    refine T_region ?_
    refine TL_p (PV_assign rfl) ?_
    refine TL_nil ?_
    refine T_ret ?_
    refine ret_ret (ResV_one rfl rfl) ⟨_, ?zb5007q279, ⟨rfl, rfl⟩⟩
    case zb5007q279 => exact (by (repeat (first | exact Sb.r | exact Sb.ar | exact Sb.al | apply Sb.c | apply Sb.d | refine Sb.t ?_)); done)
end
end Go.Proofs.Ytkgdphbccagjcaa.SL
