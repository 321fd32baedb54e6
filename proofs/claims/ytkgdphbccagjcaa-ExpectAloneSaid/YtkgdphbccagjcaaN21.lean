import Derived.Test.YtkgdphbccagjcaaE4
/- Of two texts the one comes that would alone: the law. No statement is proved here. -/
set_option linter.unusedVariables false
set_option linter.unusedSimpArgs false
set_option maxRecDepth 100000
set_option maxHeartbeats 8000000
namespace Go.Proofs.Ytkgdphbccagjcaa.SL
open Go Go.RowKit
structure AlS where
  k : Nat
  ov : Bool
  ox : Bool
  oy : Bool
  vx : List Value
  Zx : List Chunk
  vy : List Value
  Zy : List Chunk
  vw : List Value
  Zw : List Chunk
theorem seq_step {t : Rx} {u : List Int} {k cb : Nat} (h : rd u (k : Int) = (cb : Int)) : stepL t (seqL t u k) cb true = seqL t u (k + 1) := by
  show _ = stepL t (seqL t u k) (rd u (k : Int)).toNat true
  rw [h, Int.toNat_natCast]
section
variable {w0 : World} {B n : Nat} {H : List Chunk}
theorem ExpectAlone_t {ab bb ub : ByteArray} (hal : ab.size ≤ 140737488351232) (hbl : bb.size ≤ 140737488351232) (hul : ub.size ≤ 140737488351232) :
    TCall Try.prog w0 B 15 #[.string ab, .string bb, .string ub] (fun r H' => r = .bool true ∧ H' = H) H := by
  obtain ⟨a0, hua0, rfl⟩ := str_of ab
  obtain ⟨b0, hub0, rfl⟩ := str_of bb
  obtain ⟨u, huu, rfl⟩ := str_of ub
  rw [str_len] at hal hbl hul
  have hx1 : strOfNums [120] = ⟨#[120]⟩ := by kernel_rfl
  have hx2 : strOfNums [121] = ⟨#[121]⟩ := by kernel_rfl
  obtain ⟨ma, hma⟩ : ∃ m, min (a0.length + 1) 9 = m := ⟨_, rfl⟩
  obtain ⟨a1, ha1⟩ : ∃ x, a0 ++ [120] = x := ⟨_, rfl⟩
  obtain ⟨a, ha⟩ : ∃ x, sub a1 0 ma = x := ⟨_, rfl⟩
  have hla1 : a1.length = a0.length + 1 := by rw [← ha1]; simp
  have hua1 : U8s a1 := fun x hx => by
    rw [← ha1] at hx
    rcases List.mem_append.1 hx with h | h
    · exact hua0 x h
    · simp at h; omega
  have hua : U8s a := fun x hx => hua1 x (sub_mem (ha ▸ hx))
  have hla2 : a.length = ma := by rw [← ha, sub_len (by omega) (by omega)]; omega
  have hza := str_len a1
  have ea1 : Value.string (strOfNums (a0 ++ [120])) = .string (strOfNums a1) := by rw [ha1]
  have ea2 : Value.int .i64 (((strOfNums a0).size : Nat) : Int) = .int .i64 ((a0.length : Nat) : Int) := by rw [str_len]
  have ea3 : Value.int .i64 (IntKind.i64.wrap ((a0.length : Int) + 1)) = .int .i64 ((a0.length + 1 : Nat) : Int) := wr64n _ (by push_cast; rfl) (by omega)
  have ea4 : Value.int .i64 (min ((a0.length + 1 : Nat) : Int) 9) = .int .i64 ((ma : Nat) : Int) := by congr 1; omega
  have ea5 : Value.string ((strOfNums a1).extract 0 ma) = .string (strOfNums a) := by rw [← ha, str_sub]
  have hpata := pat_quoted hua (by omega) (by omega)
  have hsta : strs [quoteL a] = [.string (strOfNums (quoteL a))] := rfl
  have hqpa : ∀ i, i < 1 → PatOk ([quoteL a].getD i []) ([chainT a].getD i .nothing) := fun i hi => by
    obtain rfl : i = 0 := by omega
    exact hpata
  obtain ⟨mb, hmb⟩ : ∃ m, min (b0.length + 1) 9 = m := ⟨_, rfl⟩
  obtain ⟨b1, hb1⟩ : ∃ x, b0 ++ [121] = x := ⟨_, rfl⟩
  obtain ⟨b, hb⟩ : ∃ x, sub b1 0 mb = x := ⟨_, rfl⟩
  have hlb1 : b1.length = b0.length + 1 := by rw [← hb1]; simp
  have hub1 : U8s b1 := fun x hx => by
    rw [← hb1] at hx
    rcases List.mem_append.1 hx with h | h
    · exact hub0 x h
    · simp at h; omega
  have hub : U8s b := fun x hx => hub1 x (sub_mem (hb ▸ hx))
  have hlb2 : b.length = mb := by rw [← hb, sub_len (by omega) (by omega)]; omega
  have hzb := str_len b1
  have eb1 : Value.string (strOfNums (b0 ++ [121])) = .string (strOfNums b1) := by rw [hb1]
  have eb2 : Value.int .i64 (((strOfNums b0).size : Nat) : Int) = .int .i64 ((b0.length : Nat) : Int) := by rw [str_len]
  have eb3 : Value.int .i64 (IntKind.i64.wrap ((b0.length : Int) + 1)) = .int .i64 ((b0.length + 1 : Nat) : Int) := wr64n _ (by push_cast; rfl) (by omega)
  have eb4 : Value.int .i64 (min ((b0.length + 1 : Nat) : Int) 9) = .int .i64 ((mb : Nat) : Int) := by congr 1; omega
  have eb5 : Value.string ((strOfNums b1).extract 0 mb) = .string (strOfNums b) := by rw [← hb, str_sub]
  have hpatb := pat_quoted hub (by omega) (by omega)
  have hstb : strs [quoteL b] = [.string (strOfNums (quoteL b))] := rfl
  have hqpb : ∀ i, i < 1 → PatOk ([quoteL b].getD i []) ([chainT b].getD i .nothing) := fun i hi => by
    obtain rfl : i = 0 := by omega
    exact hpatb
  have hstw : strs [quoteL a, quoteL b] = [.string (strOfNums (quoteL a)), .string (strOfNums (quoteL b))] := rfl
  have hqpw : ∀ i, i < 2 → PatOk ([quoteL a, quoteL b].getD i []) ([chainT a, chainT b].getD i .nothing) := fun i hi => by
    rcases (by omega : i = 0 ∨ i = 1) with rfl | rfl
    · exact hpata
    · exact hpatb
  have eu : Value.int .i64 (((strOfNums u).size : Nat) : Int) = .int .i64 ((u.length : Nat) : Int) := by rw [str_len]
  refine TCall_intro (args := [_, _, _]) Try.func15 rfl Try.ntmps15 (Nat.le_of_ble_eq_true rfl) ?_
  refine T_seq ?_
  refine T_region ?_
  refine TL_p (PV_assign rfl) ?_
  refine TL_nil ?_
  refine T_seq ?_
  refine T_seq ?_
  refine T_region ?_
  refine TL_cons rfl (TO_call0 call34 rfl rfl (awake09s) ?_)
  rintro v20_3 H20_3 ⟨rfl, rfl⟩
  refine TL_p (PV_not rfl) ?_
  refine TL_nil ?_
  refine T_else rfl (by rfl) ?_
  refine T_skip ?_
  refine T_seq ?_
  refine T_drawn (WH _ _ _) mixed (fun w h => h) ?_
  refine TA_p 0 rfl (by kernel_rfl) (PV_move rfl) ?_
  refine TA_p 1 rfl (by kernel_rfl) (PV.cast (PV_bin rfl rfl (bin_cat rfl hx1 (by simp; omega))) ea1) ?_
  refine TA_p 2 rfl (by kernel_rfl) (PV_move rfl) ?_
  refine TA_p 3 rfl (by kernel_rfl) (PV.cast (PV_len_string Try.underlying9 rfl) ea2) ?_
  refine TA_p 4 rfl (by kernel_rfl) (PV.cast (PV_bin rfl rfl bin_add) ea3) ?_
  refine TA_p 5 rfl (by kernel_rfl) (PV.cast (PV_min rfl rfl) ea4) ?_
  refine TA_p 6 rfl (by kernel_rfl) (PV.cast (PV_sliceStr (l := 0) (h := ma) Try.underlying9 rfl rfl ⟨_, rfl⟩ (by omega) (by omega)) ea5) ?_
  refine TA_p 7 rfl (by kernel_rfl) (PV_move rfl) ?_
  refine TA_p 8 rfl (by kernel_rfl) (PV.cast (PV_bin rfl rfl (bin_cat rfl hx2 (by simp; omega))) eb1) ?_
  refine TA_p 9 rfl (by kernel_rfl) (PV_move rfl) ?_
  refine TA_p 10 rfl (by kernel_rfl) (PV.cast (PV_len_string Try.underlying9 rfl) eb2) ?_
  refine TA_p 11 rfl (by kernel_rfl) (PV.cast (PV_bin rfl rfl bin_add) eb3) ?_
  refine TA_p 12 rfl (by kernel_rfl) (PV.cast (PV_min rfl rfl) eb4) ?_
  refine TA_p 13 rfl (by kernel_rfl) (PV.cast (PV_sliceStr (l := 0) (h := mb) Try.underlying9 rfl rfl ⟨_, rfl⟩ (by omega) (by omega)) eb5) ?_
  refine TA_p 14 rfl (by kernel_rfl) (PV_assign rfl) ?_
  refine TA_p 15 rfl (by kernel_rfl) (PV_assign rfl) ?_
  refine TA_done (by kernel_rfl) ?_
  refine T_seq ?_
  refine T_region ?_
  refine TL_p (PV_move rfl) ?_
  refine TL_cons rfl (TO_eqD call24 (Quote_t hua (by omega)) rfl rfl _ (List.Sublist.refl _) ?_)
  refine TL_cons rfl (TO_bs (cs := [_]) Try.underlying67 zs9 (by decide) rfl rfl rfl rfl rfl rfl fun g5 => ?_)
  refine ?L1
  case L1 =>
    refine TL_cons rfl (TO_OfWF (Hf := [.sl (.slice (some ⟨g5, 0, none⟩) 1 1) 1 1 [.string (strOfNums (quoteL a))]]) (HR := H) (qs := [quoteL a]) (ts := [chainT a]) (m := 1) (c := 1) (A := some ⟨g5, 0, none⟩) (List.Perm.refl _) (by rw [hsta]; exact Shows.at 0 rfl) rfl (by omega) (by omega) (by omega) rfl hqpa rfl rfl fun gx gTx gAx cTx cAx gsx vx Zx hWx => ?_)
    refine TL_p (PV_move rfl) ?_
    refine TL_p (PV_extract rfl rfl) ?_
    refine TL_p (PV_extract rfl rfl) ?_
    refine TL_p (PV_assign rfl) ?_
    refine TL_p (PV_assign rfl) ?_
    refine TL_nil ?_
    refine T_seq ?_
    refine T_region ?_
    refine TL_p (PV_move rfl) ?_
    refine TL_cons rfl (TO_eqD call24 (Quote_t hub (by omega)) rfl rfl _ (List.Sublist.refl _) ?_)
    refine TL_cons rfl (TO_bs (cs := [_]) Try.underlying67 zs9 (by decide) rfl rfl rfl rfl rfl rfl fun g1002 => ?_)
    refine ?L11
    case L11 =>
      refine TL_cons rfl (TO_OfWF (Hf := [.sl (.slice (some ⟨g1002, 0, none⟩) 1 1) 1 1 [.string (strOfNums (quoteL b))]]) (HR := wB gx gTx gAx 1 cTx cAx 0 false gsx vx Zx ++ H) (qs := [quoteL b]) (ts := [chainT b]) (m := 1) (c := 1) (A := some ⟨g1002, 0, none⟩) (List.Perm.refl _) (by rw [hstb]; exact Shows.at 0 rfl) rfl (by omega) (by omega) (by omega) rfl hqpb rfl rfl fun gy gTy gAy cTy cAy gsy vy Zy hWy => ?_)
      refine TL_p (PV_move rfl) ?_
      refine TL_p (PV_extract rfl rfl) ?_
      refine TL_p (PV_extract rfl rfl) ?_
      refine TL_p (PV_assign rfl) ?_
      refine TL_p (PV_assign rfl) ?_
      refine TL_nil ?_
      refine T_seq ?_
      refine T_region ?_
      refine TL_p (PV_move rfl) ?_
      refine TL_cons rfl (TO_eqD call24 (Quote_t hua (by omega)) rfl rfl _ (List.Sublist.refl _) ?_)
      refine TL_p (PV_move rfl) ?_
      refine TL_cons rfl (TO_eqD call24 (Quote_t hub (by omega)) rfl rfl _ (List.Sublist.refl _) ?_)
      refine TL_cons rfl (TO_bs (cs := [_, _]) Try.underlying67 zs9 (by decide) rfl rfl rfl rfl rfl rfl fun g2003 => ?_)
      refine ?L21
      case L21 =>
        refine TL_cons rfl (TO_OfWF (Hf := [.sl (.slice (some ⟨g2003, 0, none⟩) 2 2) 1 2 [.string (strOfNums (quoteL a)), .string (strOfNums (quoteL b))]]) (HR := wB gy gTy gAy 1 cTy cAy 0 false gsy vy Zy ++ (wB gx gTx gAx 1 cTx cAx 0 false gsx vx Zx ++ H)) (qs := [quoteL a, quoteL b]) (ts := [chainT a, chainT b]) (m := 2) (c := 2) (A := some ⟨g2003, 0, none⟩) (List.Perm.refl _) (by rw [hstw]; exact Shows.at 0 rfl) rfl (by omega) (by omega) (by omega) rfl hqpw rfl rfl fun gw gTw gAw cTw cAw gsw vw Zw hWw => ?_)
        refine TL_p (PV_move rfl) ?_
        refine TL_p (PV_extract rfl rfl) ?_
        refine TL_p (PV_extract rfl rfl) ?_
        refine TL_p (PV_assign rfl) ?_
        refine TL_p (PV_assign rfl) ?_
        refine TL_nil ?_
        refine T_seq ?_
        refine T_seq ?_
        refine T_region ?_
        refine TL_p (PV_move rfl) ?_
        refine TL_p (PV_bin rfl rfl (bin_nil_nnil Try.underlying42)) ?_
        refine TL_p (PV_move rfl) ?_
        refine TL_yes rfl rfl rfl (TO_pure rfl (PV_move rfl) ?_)
        refine TL_yes rfl rfl rfl (TO_pure rfl (PV_bin rfl rfl (bin_ptr_nil Try.underlying62)) ?_)
        refine TL_p (PV_pickOr rfl rfl rfl) ?_
        refine TL_p (PV_move rfl) ?_
        refine TL_yes rfl rfl rfl (TO_pure rfl (PV_move rfl) ?_)
        refine TL_yes rfl rfl rfl (TO_pure rfl (PV_bin rfl rfl (bin_ptr_nil Try.underlying62)) ?_)
        refine TL_p (PV_pickOr rfl rfl rfl) ?_
        refine TL_p (PV_move rfl) ?_
        refine TL_yes rfl rfl rfl (TO_pure rfl (PV_move rfl) ?_)
        refine TL_yes rfl rfl rfl (TO_pure rfl (PV_bin rfl rfl (bin_ptr_nil Try.underlying62)) ?_)
        refine TL_p (PV_pickOr rfl rfl rfl) ?_
        refine TL_nil ?_
        refine T_else rfl (by rfl) ?_
        refine T_skip ?_
        refine T_seq ?_
        refine T_seq ?_
        refine T_region ?_
        refine TL_p (PV_assign rfl) ?_
        refine TL_nil ?_
        refine T_block ?_
        refine ?L31
        case L31 =>
          refine T_loopPI (fun (s : AlS) => s.k ≤ u.length ∧ (s.ov = false → s.ox = false ∧ s.oy = false ∧ Wk (WH w0 B s.Zx) [chainT a] gsx [seqL (chainT a) u s.k] s.vx 1 ∧ Wk (WH w0 B s.Zy) [chainT b] gsy [seqL (chainT b) u s.k] s.vy 1 ∧ Wk (WH w0 B s.Zw) [chainT a, chainT b] gsw [seqL (chainT a) u s.k, seqL (chainT b) u s.k] s.vw 2)) (fun s => u.length - s.k) (fun s => [(2, .string (strOfNums u)), (7, .pointer (some ⟨gx, 0, none⟩)), (9, .pointer (some ⟨gy, 0, none⟩)), (11, .pointer (some ⟨gw, 0, none⟩)), (13, .int .i64 (s.k : Int))]) (fun s => wB gx gTx gAx 1 cTx cAx s.k s.ox gsx s.vx s.Zx ++ (wB gy gTy gAy 1 cTy cAy s.k s.oy gsy s.vy s.Zy ++ (wB gw gTw gAw 2 cTw cAw s.k s.ov gsw s.vw s.Zw ++ H))) ⟨0, false, false, false, vx, Zx, vy, Zy, vw, Zw⟩ ⟨Nat.zero_le _, fun _ => ⟨rfl, rfl, hWx, hWy, hWw⟩⟩ (by repeat (first | exact FrSub.nil _ | refine FrSub.cons rfl ?_)) ⟨_, perm_rev3, List.Sublist.refl _⟩ ?_
          clear hWx hWy hWw
          rintro ⟨k, ov, ox, oy, vx, Zx, vy, Zy, vw, Zw⟩ ⟨hk, hov⟩
          dsimp only at hk hov ⊢
          by_cases hku : k < u.length
          · have e83 : Value.int .i64 (IntKind.i64.wrap ((k : Int) + 1)) = .int .i64 ((k + 1 : Nat) : Int) := wr64n _ (by push_cast; rfl) (by omega)
            have hrd := rd_u8 huu (k : Int)
            obtain ⟨cb, hcb⟩ : ∃ cb : Nat, rd u (k : Int) = (cb : Int) := Int.eq_ofNat_of_zero_le hrd.1
            have e88 : Value.int .u8 (rd u (k : Int)) = .int .u8 (cb : Int) := by rw [hcb]
            cases ov with
            | true =>
              refine T_seq ?_
              refine T_seq ?_
              refine T_region ?_
              refine TL_p (PV_move rfl) ?_
              refine TL_p (PV_move rfl) ?_
              refine TL_p (PV.cast (PV_len_string Try.underlying9 rfl) eu) ?_
              refine TL_p (PV_bin rfl rfl bin_lss) ?_
              refine TL_p (PV_move rfl) ?_
              refine TL_yes rfl rfl (gtrue (by exact decide_eq_true (by omega))) (TO_pure rfl (PV_move rfl) ?_)
              refine TL_yes rfl rfl (gtrue (by exact decide_eq_true (by omega))) (TO_OverF perm_mid3 rfl rfl ?_)
              refine TL_yes rfl rfl (gtrue (by exact decide_eq_true (by omega))) (TO_pure rfl (PV_not rfl) ?_)
              refine TL_p (PV_pickAnd rfl rfl rfl) ?_
              refine TL_nil ?_
              refine T_else rfl (by (simp; done)) ?_
              refine T_exit ?_
              refine T_seq ?_
              refine T_region ?_
              refine TL_p (PV_assign rfl) ?_
              refine TL_nil ?_
              refine ?L41
              all_goals exact T_ret (ret_ret (ResV_one rfl rfl) ⟨H, (List.sublist_append_right _ _).trans ((List.sublist_append_right _ _).trans (List.sublist_append_right _ _)), rfl, rfl⟩)
            | false =>
              obtain ⟨rfl, rfl, hWx, hWy, hWw⟩ := hov rfl
              have hbx := best1 (chainT a) (seqL (chainT a) u k) cb
              have hby := best1 (chainT b) (seqL (chainT b) u k) cb
              have hbw := best2 (chainT a) (chainT b) (seqL (chainT a) u k) (seqL (chainT b) u k) cb
              have hpx := put1 (chainT a) (seqL (chainT a) u k) cb
              have hpy := put1 (chainT b) (seqL (chainT b) u k) cb
              have hpw := put2 (chainT a) (chainT b) (seqL (chainT a) u k) (seqL (chainT b) u k) cb
              rw [seq_step hcb] at hbx hby hpx hpy
              rw [seq_step hcb, seq_step hcb] at hbw hpw
              cases hea : endsT (chainT a) (seqL (chainT a) u (k + 1)) with
              | true =>
                cases heb : endsT (chainT b) (seqL (chainT b) u (k + 1)) with
                | true =>
                  rw [hea] at hbx hbw
                  rw [heb] at hby hbw
                  refine T_seq ?_
                  refine T_seq ?_
                  refine T_region ?_
                  refine TL_p (PV_move rfl) ?_
                  refine TL_p (PV_move rfl) ?_
                  refine TL_p (PV.cast (PV_len_string Try.underlying9 rfl) eu) ?_
                  refine TL_p (PV_bin rfl rfl bin_lss) ?_
                  refine TL_p (PV_move rfl) ?_
                  refine TL_yes rfl rfl (gtrue (by exact decide_eq_true (by omega))) (TO_pure rfl (PV_move rfl) ?_)
                  refine TL_yes rfl rfl (gtrue (by exact decide_eq_true (by omega))) (TO_OverF perm_mid3 rfl rfl ?_)
                  refine TL_yes rfl rfl (gtrue (by exact decide_eq_true (by omega))) (TO_pure rfl (PV_not rfl) ?_)
                  refine TL_p (PV_pickAnd rfl rfl rfl) ?_
                  refine TL_nil ?_
                  refine T_then rfl (by (simp; omega)) ?_
                  refine T_skip ?_
                  refine T_seq ?_
                  refine T_block ?_
                  refine T_seq ?_
                  refine T_region ?_
                  refine TL_p (PV_move rfl) ?_
                  refine TL_p (PV_move rfl) ?_
                  refine TL_p (PV_move rfl) ?_
                  refine TL_p (PV.cast (PV_indexNums Try.underlying9 rfl rfl rfl huu hku) e88) ?_
                  refine TL_cons rfl (TO_PutF (cb := cb) (V := .tuple #[.int .i64 0, .bool true]) (List.perm_append_comm_assoc _ _ _) (by omega) (by omega) (by omega) hWx hbx rfl rfl rfl fun vx2 Zx2 hWx2 => ?_)
                  refine TL_p (PV_move rfl) ?_
                  refine TL_p (PV_extract rfl rfl) ?_
                  refine TL_p (PV_extract rfl rfl) ?_
                  refine TL_p (PV_assign rfl) ?_
                  refine TL_p (PV_assign rfl) ?_
                  refine TL_nil ?_
                  refine T_seq ?_
                  refine T_region ?_
                  refine TL_p (PV_move rfl) ?_
                  refine TL_p (PV_move rfl) ?_
                  refine TL_p (PV_move rfl) ?_
                  refine TL_p (PV.cast (PV_indexNums Try.underlying9 rfl rfl rfl huu hku) e88) ?_
                  refine TL_cons rfl (TO_PutF (cb := cb) (V := .tuple #[.int .i64 0, .bool true]) perm_mid3 (by omega) (by omega) (by omega) hWy hby rfl rfl rfl fun vy2 Zy2 hWy2 => ?_)
                  refine TL_p (PV_move rfl) ?_
                  refine TL_p (PV_extract rfl rfl) ?_
                  refine TL_p (PV_extract rfl rfl) ?_
                  refine TL_p (PV_assign rfl) ?_
                  refine TL_p (PV_assign rfl) ?_
                  refine TL_nil ?_
                  refine T_seq ?_
                  refine T_region ?_
                  refine TL_p (PV_move rfl) ?_
                  refine TL_p (PV_move rfl) ?_
                  refine TL_p (PV_move rfl) ?_
                  refine TL_p (PV.cast (PV_indexNums Try.underlying9 rfl rfl rfl huu hku) e88) ?_
                  refine TL_cons rfl (TO_PutF (cb := cb) (V := .tuple #[.int .i64 0, .bool true]) perm_mid3 (by omega) (by omega) (by omega) hWw hbw rfl rfl rfl fun vw2 Zw2 hWw2 => ?_)
                  refine TL_p (PV_move rfl) ?_
                  refine TL_p (PV_extract rfl rfl) ?_
                  refine TL_p (PV_extract rfl rfl) ?_
                  refine TL_p (PV_assign rfl) ?_
                  refine TL_p (PV_assign rfl) ?_
                  refine TL_nil ?_
                  refine T_seq ?_
                  refine T_region ?_
                  refine TL_p (PV_move rfl) ?_
                  refine TL_p (PV_move rfl) ?_
                  refine TL_p (PV_move rfl) ?_
                  refine TL_no (b := true) rfl rfl rfl rfl ?_
                  refine TL_p (PV_pickT rfl (by first | assumption | rfl | (simp; done) | (simp; omega) | (simp [*]; done) | (simp [*]; omega)) rfl rfl) ?_
                  refine TL_p (PV.cast (PV_bin rfl rfl (bin_bool_neq Try.underlying4)) rfl) ?_
                  refine TL_p (PV_move rfl) ?_
                  refine TL_yes rfl rfl rfl (TO_pure rfl (PV_move rfl) ?_)
                  refine TL_yes rfl rfl rfl (TO_pure rfl (PV_move rfl) ?_)
                  refine TL_yes rfl rfl rfl (TO_pure rfl (PV_move rfl) ?_)
                  refine TL_yes rfl rfl rfl (TO_pure rfl (PV.cast (PV_bin rfl rfl bin_neq) rfl) ?_)
                  refine TL_yes rfl rfl rfl (TO_pure rfl (PV_pickAnd rfl rfl rfl) ?_)
                  refine TL_p (PV_pickOr rfl rfl rfl) ?_
                  refine TL_p (PV_move rfl) ?_
                  refine TL_yes rfl rfl rfl (TO_pure rfl (PV_move rfl) ?_)
                  refine TL_yes rfl rfl rfl (TO_pure rfl (PV_not rfl) ?_)
                  refine TL_yes rfl rfl rfl (TO_pure rfl (PV_move rfl) ?_)
                  refine TL_no (b := false) rfl rfl rfl rfl ?_
                  refine TL_yes rfl rfl rfl (TO_pure rfl (PV_pickF rfl (by first | assumption | rfl | (simp; done) | (simp; omega) | (simp [*]; done) | (simp [*]; omega)) rfl rfl) ?_)
                  refine TL_yes rfl rfl rfl (TO_pure rfl (PV_move rfl) ?_)
                  refine TL_no (b := false) rfl rfl rfl rfl ?_
                  refine TL_no (b := false) rfl rfl rfl rfl ?_
                  refine TL_yes rfl rfl rfl (TO_pure rfl (PV_pickF rfl (by first | assumption | rfl | (simp; done) | (simp; omega) | (simp [*]; done) | (simp [*]; omega)) rfl rfl) ?_)
                  refine TL_p (PV_pickOr rfl rfl rfl) ?_
                  refine TL_nil ?_
                  refine T_else rfl (by rfl) ?_
                  refine T_skip ?_
                  refine T_region ?_
                  refine TL_p (PV_move rfl) ?_
                  refine TL_p (PV.cast (PV_bin rfl rfl bin_add) e83) ?_
                  refine TL_p (PV_assign rfl) ?_
                  refine TL_nil ?_
                  refine ?L51
                  all_goals exact ⟨⟨k + 1, true, true, true, vx2, Zx2, vy2, Zy2, vw2, Zw2⟩, ⟨by show k + 1 ≤ _; omega, (fun h => nomatch h)⟩, by show u.length - (k + 1) < u.length - k; omega, (by repeat (first | exact FrSub.nil _ | refine FrSub.cons rfl ?_)), ⟨_, perm_rev3, List.Sublist.refl _⟩⟩
                | false =>
                  rw [hea] at hbx hbw
                  rw [heb] at hby hbw
                  refine T_seq ?_
                  refine T_seq ?_
                  refine T_region ?_
                  refine TL_p (PV_move rfl) ?_
                  refine TL_p (PV_move rfl) ?_
                  refine TL_p (PV.cast (PV_len_string Try.underlying9 rfl) eu) ?_
                  refine TL_p (PV_bin rfl rfl bin_lss) ?_
                  refine TL_p (PV_move rfl) ?_
                  refine TL_yes rfl rfl (gtrue (by exact decide_eq_true (by omega))) (TO_pure rfl (PV_move rfl) ?_)
                  refine TL_yes rfl rfl (gtrue (by exact decide_eq_true (by omega))) (TO_OverF perm_mid3 rfl rfl ?_)
                  refine TL_yes rfl rfl (gtrue (by exact decide_eq_true (by omega))) (TO_pure rfl (PV_not rfl) ?_)
                  refine TL_p (PV_pickAnd rfl rfl rfl) ?_
                  refine TL_nil ?_
                  refine T_then rfl (by (simp; omega)) ?_
                  refine T_skip ?_
                  refine T_seq ?_
                  refine T_block ?_
                  refine T_seq ?_
                  refine T_region ?_
                  refine TL_p (PV_move rfl) ?_
                  refine TL_p (PV_move rfl) ?_
                  refine TL_p (PV_move rfl) ?_
                  refine TL_p (PV.cast (PV_indexNums Try.underlying9 rfl rfl rfl huu hku) e88) ?_
                  refine TL_cons rfl (TO_PutF (cb := cb) (V := .tuple #[.int .i64 0, .bool true]) (List.perm_append_comm_assoc _ _ _) (by omega) (by omega) (by omega) hWx hbx rfl rfl rfl fun vx2 Zx2 hWx2 => ?_)
                  refine TL_p (PV_move rfl) ?_
                  refine TL_p (PV_extract rfl rfl) ?_
                  refine TL_p (PV_extract rfl rfl) ?_
                  refine TL_p (PV_assign rfl) ?_
                  refine TL_p (PV_assign rfl) ?_
                  refine TL_nil ?_
                  refine T_seq ?_
                  refine T_region ?_
                  refine TL_p (PV_move rfl) ?_
                  refine TL_p (PV_move rfl) ?_
                  refine TL_p (PV_move rfl) ?_
                  refine TL_p (PV.cast (PV_indexNums Try.underlying9 rfl rfl rfl huu hku) e88) ?_
                  refine TL_cons rfl (TO_PutF (cb := cb) (V := .tuple #[.int .i64 0, .bool false]) perm_mid3 (by omega) (by omega) (by omega) hWy hby rfl rfl rfl fun vy2 Zy2 hWy2 => ?_)
                  refine TL_p (PV_move rfl) ?_
                  refine TL_p (PV_extract rfl rfl) ?_
                  refine TL_p (PV_extract rfl rfl) ?_
                  refine TL_p (PV_assign rfl) ?_
                  refine TL_p (PV_assign rfl) ?_
                  refine TL_nil ?_
                  refine T_seq ?_
                  refine T_region ?_
                  refine TL_p (PV_move rfl) ?_
                  refine TL_p (PV_move rfl) ?_
                  refine TL_p (PV_move rfl) ?_
                  refine TL_p (PV.cast (PV_indexNums Try.underlying9 rfl rfl rfl huu hku) e88) ?_
                  refine TL_cons rfl (TO_PutF (cb := cb) (V := .tuple #[.int .i64 0, .bool true]) perm_mid3 (by omega) (by omega) (by omega) hWw hbw rfl rfl rfl fun vw2 Zw2 hWw2 => ?_)
                  refine TL_p (PV_move rfl) ?_
                  refine TL_p (PV_extract rfl rfl) ?_
                  refine TL_p (PV_extract rfl rfl) ?_
                  refine TL_p (PV_assign rfl) ?_
                  refine TL_p (PV_assign rfl) ?_
                  refine TL_nil ?_
                  refine T_seq ?_
                  refine T_region ?_
                  refine TL_p (PV_move rfl) ?_
                  refine TL_p (PV_move rfl) ?_
                  refine TL_p (PV_move rfl) ?_
                  refine TL_no (b := true) rfl rfl rfl rfl ?_
                  refine TL_p (PV_pickT rfl (by first | assumption | rfl | (simp; done) | (simp; omega) | (simp [*]; done) | (simp [*]; omega)) rfl rfl) ?_
                  refine TL_p (PV.cast (PV_bin rfl rfl (bin_bool_neq Try.underlying4)) rfl) ?_
                  refine TL_p (PV_move rfl) ?_
                  refine TL_yes rfl rfl rfl (TO_pure rfl (PV_move rfl) ?_)
                  refine TL_yes rfl rfl rfl (TO_pure rfl (PV_move rfl) ?_)
                  refine TL_yes rfl rfl rfl (TO_pure rfl (PV_move rfl) ?_)
                  refine TL_yes rfl rfl rfl (TO_pure rfl (PV.cast (PV_bin rfl rfl bin_neq) rfl) ?_)
                  refine TL_yes rfl rfl rfl (TO_pure rfl (PV_pickAnd rfl rfl rfl) ?_)
                  refine TL_p (PV_pickOr rfl rfl rfl) ?_
                  refine TL_p (PV_move rfl) ?_
                  refine TL_yes rfl rfl rfl (TO_pure rfl (PV_move rfl) ?_)
                  refine TL_yes rfl rfl rfl (TO_pure rfl (PV_not rfl) ?_)
                  refine TL_yes rfl rfl rfl (TO_pure rfl (PV_move rfl) ?_)
                  refine TL_no (b := false) rfl rfl rfl rfl ?_
                  refine TL_yes rfl rfl rfl (TO_pure rfl (PV_pickF rfl (by first | assumption | rfl | (simp; done) | (simp; omega) | (simp [*]; done) | (simp [*]; omega)) rfl rfl) ?_)
                  refine TL_yes rfl rfl rfl (TO_pure rfl (PV_move rfl) ?_)
                  refine TL_no (b := false) rfl rfl rfl rfl ?_
                  refine TL_no (b := false) rfl rfl rfl rfl ?_
                  refine TL_yes rfl rfl rfl (TO_pure rfl (PV_pickF rfl (by first | assumption | rfl | (simp; done) | (simp; omega) | (simp [*]; done) | (simp [*]; omega)) rfl rfl) ?_)
                  refine TL_p (PV_pickOr rfl rfl rfl) ?_
                  refine TL_nil ?_
                  refine T_else rfl (by rfl) ?_
                  refine T_skip ?_
                  refine T_region ?_
                  refine TL_p (PV_move rfl) ?_
                  refine TL_p (PV.cast (PV_bin rfl rfl bin_add) e83) ?_
                  refine TL_p (PV_assign rfl) ?_
                  refine TL_nil ?_
                  refine ?L61
                  all_goals exact ⟨⟨k + 1, true, true, false, vx2, Zx2, vy2, Zy2, vw2, Zw2⟩, ⟨by show k + 1 ≤ _; omega, (fun h => nomatch h)⟩, by show u.length - (k + 1) < u.length - k; omega, (by repeat (first | exact FrSub.nil _ | refine FrSub.cons rfl ?_)), ⟨_, perm_rev3, List.Sublist.refl _⟩⟩
              | false =>
                cases heb : endsT (chainT b) (seqL (chainT b) u (k + 1)) with
                | true =>
                  rw [hea] at hbx hbw
                  rw [heb] at hby hbw
                  refine T_seq ?_
                  refine T_seq ?_
                  refine T_region ?_
                  refine TL_p (PV_move rfl) ?_
                  refine TL_p (PV_move rfl) ?_
                  refine TL_p (PV.cast (PV_len_string Try.underlying9 rfl) eu) ?_
                  refine TL_p (PV_bin rfl rfl bin_lss) ?_
                  refine TL_p (PV_move rfl) ?_
                  refine TL_yes rfl rfl (gtrue (by exact decide_eq_true (by omega))) (TO_pure rfl (PV_move rfl) ?_)
                  refine TL_yes rfl rfl (gtrue (by exact decide_eq_true (by omega))) (TO_OverF perm_mid3 rfl rfl ?_)
                  refine TL_yes rfl rfl (gtrue (by exact decide_eq_true (by omega))) (TO_pure rfl (PV_not rfl) ?_)
                  refine TL_p (PV_pickAnd rfl rfl rfl) ?_
                  refine TL_nil ?_
                  refine T_then rfl (by (simp; omega)) ?_
                  refine T_skip ?_
                  refine T_seq ?_
                  refine T_block ?_
                  refine T_seq ?_
                  refine T_region ?_
                  refine TL_p (PV_move rfl) ?_
                  refine TL_p (PV_move rfl) ?_
                  refine TL_p (PV_move rfl) ?_
                  refine TL_p (PV.cast (PV_indexNums Try.underlying9 rfl rfl rfl huu hku) e88) ?_
                  refine TL_cons rfl (TO_PutF (cb := cb) (V := .tuple #[.int .i64 0, .bool false]) (List.perm_append_comm_assoc _ _ _) (by omega) (by omega) (by omega) hWx hbx rfl rfl rfl fun vx2 Zx2 hWx2 => ?_)
                  refine TL_p (PV_move rfl) ?_
                  refine TL_p (PV_extract rfl rfl) ?_
                  refine TL_p (PV_extract rfl rfl) ?_
                  refine TL_p (PV_assign rfl) ?_
                  refine TL_p (PV_assign rfl) ?_
                  refine TL_nil ?_
                  refine T_seq ?_
                  refine T_region ?_
                  refine TL_p (PV_move rfl) ?_
                  refine TL_p (PV_move rfl) ?_
                  refine TL_p (PV_move rfl) ?_
                  refine TL_p (PV.cast (PV_indexNums Try.underlying9 rfl rfl rfl huu hku) e88) ?_
                  refine TL_cons rfl (TO_PutF (cb := cb) (V := .tuple #[.int .i64 0, .bool true]) perm_mid3 (by omega) (by omega) (by omega) hWy hby rfl rfl rfl fun vy2 Zy2 hWy2 => ?_)
                  refine TL_p (PV_move rfl) ?_
                  refine TL_p (PV_extract rfl rfl) ?_
                  refine TL_p (PV_extract rfl rfl) ?_
                  refine TL_p (PV_assign rfl) ?_
                  refine TL_p (PV_assign rfl) ?_
                  refine TL_nil ?_
                  refine T_seq ?_
                  refine T_region ?_
                  refine TL_p (PV_move rfl) ?_
                  refine TL_p (PV_move rfl) ?_
                  refine TL_p (PV_move rfl) ?_
                  refine TL_p (PV.cast (PV_indexNums Try.underlying9 rfl rfl rfl huu hku) e88) ?_
                  refine TL_cons rfl (TO_PutF (cb := cb) (V := .tuple #[.int .i64 1, .bool true]) perm_mid3 (by omega) (by omega) (by omega) hWw hbw rfl rfl rfl fun vw2 Zw2 hWw2 => ?_)
                  refine TL_p (PV_move rfl) ?_
                  refine TL_p (PV_extract rfl rfl) ?_
                  refine TL_p (PV_extract rfl rfl) ?_
                  refine TL_p (PV_assign rfl) ?_
                  refine TL_p (PV_assign rfl) ?_
                  refine TL_nil ?_
                  refine T_seq ?_
                  refine T_region ?_
                  refine TL_p (PV_move rfl) ?_
                  refine TL_p (PV_move rfl) ?_
                  refine TL_p (PV_move rfl) ?_
                  refine TL_yes rfl rfl rfl (TO_pure rfl (PV_move rfl) ?_)
                  refine TL_p (PV_pickOr rfl rfl rfl) ?_
                  refine TL_p (PV.cast (PV_bin rfl rfl (bin_bool_neq Try.underlying4)) rfl) ?_
                  refine TL_p (PV_move rfl) ?_
                  refine TL_yes rfl rfl rfl (TO_pure rfl (PV_move rfl) ?_)
                  refine TL_yes rfl rfl rfl (TO_pure rfl (PV_move rfl) ?_)
                  refine TL_no (b := false) rfl rfl rfl rfl ?_
                  refine TL_no (b := false) rfl rfl rfl rfl ?_
                  refine TL_yes rfl rfl rfl (TO_pure rfl (PV_pickF rfl (by first | assumption | rfl | (simp; done) | (simp; omega) | (simp [*]; done) | (simp [*]; omega)) rfl rfl) ?_)
                  refine TL_p (PV_pickOr rfl rfl rfl) ?_
                  refine TL_p (PV_move rfl) ?_
                  refine TL_yes rfl rfl rfl (TO_pure rfl (PV_move rfl) ?_)
                  refine TL_yes rfl rfl rfl (TO_pure rfl (PV_not rfl) ?_)
                  refine TL_yes rfl rfl rfl (TO_pure rfl (PV_move rfl) ?_)
                  refine TL_yes rfl rfl rfl (TO_pure rfl (PV_move rfl) ?_)
                  refine TL_yes rfl rfl rfl (TO_pure rfl (PV_pickAnd rfl rfl rfl) ?_)
                  refine TL_yes rfl rfl rfl (TO_pure rfl (PV_move rfl) ?_)
                  refine TL_yes rfl rfl rfl (TO_pure rfl (PV_move rfl) ?_)
                  refine TL_yes rfl rfl rfl (TO_pure rfl (PV.cast (PV_bin rfl rfl bin_neq) rfl) ?_)
                  refine TL_yes rfl rfl rfl (TO_pure rfl (PV_pickAnd rfl rfl rfl) ?_)
                  refine TL_p (PV_pickOr rfl rfl rfl) ?_
                  refine TL_nil ?_
                  refine T_else rfl (by rfl) ?_
                  refine T_skip ?_
                  refine T_region ?_
                  refine TL_p (PV_move rfl) ?_
                  refine TL_p (PV.cast (PV_bin rfl rfl bin_add) e83) ?_
                  refine TL_p (PV_assign rfl) ?_
                  refine TL_nil ?_
                  refine ?L71
                  all_goals exact ⟨⟨k + 1, true, false, true, vx2, Zx2, vy2, Zy2, vw2, Zw2⟩, ⟨by show k + 1 ≤ _; omega, (fun h => nomatch h)⟩, by show u.length - (k + 1) < u.length - k; omega, (by repeat (first | exact FrSub.nil _ | refine FrSub.cons rfl ?_)), ⟨_, perm_rev3, List.Sublist.refl _⟩⟩
                | false =>
                  rw [hea] at hbx hbw
                  rw [heb] at hby hbw
                  refine T_seq ?_
                  refine T_seq ?_
                  refine T_region ?_
                  refine TL_p (PV_move rfl) ?_
                  refine TL_p (PV_move rfl) ?_
                  refine TL_p (PV.cast (PV_len_string Try.underlying9 rfl) eu) ?_
                  refine TL_p (PV_bin rfl rfl bin_lss) ?_
                  refine TL_p (PV_move rfl) ?_
                  refine TL_yes rfl rfl (gtrue (by exact decide_eq_true (by omega))) (TO_pure rfl (PV_move rfl) ?_)
                  refine TL_yes rfl rfl (gtrue (by exact decide_eq_true (by omega))) (TO_OverF perm_mid3 rfl rfl ?_)
                  refine TL_yes rfl rfl (gtrue (by exact decide_eq_true (by omega))) (TO_pure rfl (PV_not rfl) ?_)
                  refine TL_p (PV_pickAnd rfl rfl rfl) ?_
                  refine TL_nil ?_
                  refine T_then rfl (by (simp; omega)) ?_
                  refine T_skip ?_
                  refine T_seq ?_
                  refine T_block ?_
                  refine T_seq ?_
                  refine T_region ?_
                  refine TL_p (PV_move rfl) ?_
                  refine TL_p (PV_move rfl) ?_
                  refine TL_p (PV_move rfl) ?_
                  refine TL_p (PV.cast (PV_indexNums Try.underlying9 rfl rfl rfl huu hku) e88) ?_
                  refine TL_cons rfl (TO_PutF (cb := cb) (V := .tuple #[.int .i64 0, .bool false]) (List.perm_append_comm_assoc _ _ _) (by omega) (by omega) (by omega) hWx hbx rfl rfl rfl fun vx2 Zx2 hWx2 => ?_)
                  refine TL_p (PV_move rfl) ?_
                  refine TL_p (PV_extract rfl rfl) ?_
                  refine TL_p (PV_extract rfl rfl) ?_
                  refine TL_p (PV_assign rfl) ?_
                  refine TL_p (PV_assign rfl) ?_
                  refine TL_nil ?_
                  refine T_seq ?_
                  refine T_region ?_
                  refine TL_p (PV_move rfl) ?_
                  refine TL_p (PV_move rfl) ?_
                  refine TL_p (PV_move rfl) ?_
                  refine TL_p (PV.cast (PV_indexNums Try.underlying9 rfl rfl rfl huu hku) e88) ?_
                  refine TL_cons rfl (TO_PutF (cb := cb) (V := .tuple #[.int .i64 0, .bool false]) perm_mid3 (by omega) (by omega) (by omega) hWy hby rfl rfl rfl fun vy2 Zy2 hWy2 => ?_)
                  refine TL_p (PV_move rfl) ?_
                  refine TL_p (PV_extract rfl rfl) ?_
                  refine TL_p (PV_extract rfl rfl) ?_
                  refine TL_p (PV_assign rfl) ?_
                  refine TL_p (PV_assign rfl) ?_
                  refine TL_nil ?_
                  refine T_seq ?_
                  refine T_region ?_
                  refine TL_p (PV_move rfl) ?_
                  refine TL_p (PV_move rfl) ?_
                  refine TL_p (PV_move rfl) ?_
                  refine TL_p (PV.cast (PV_indexNums Try.underlying9 rfl rfl rfl huu hku) e88) ?_
                  refine TL_cons rfl (TO_PutF (cb := cb) (V := .tuple #[.int .i64 0, .bool false]) perm_mid3 (by omega) (by omega) (by omega) hWw hbw rfl rfl rfl fun vw2 Zw2 hWw2 => ?_)
                  refine TL_p (PV_move rfl) ?_
                  refine TL_p (PV_extract rfl rfl) ?_
                  refine TL_p (PV_extract rfl rfl) ?_
                  refine TL_p (PV_assign rfl) ?_
                  refine TL_p (PV_assign rfl) ?_
                  refine TL_nil ?_
                  refine T_seq ?_
                  refine T_region ?_
                  refine TL_p (PV_move rfl) ?_
                  refine TL_p (PV_move rfl) ?_
                  refine TL_p (PV_move rfl) ?_
                  refine TL_yes rfl rfl rfl (TO_pure rfl (PV_move rfl) ?_)
                  refine TL_p (PV_pickOr rfl rfl rfl) ?_
                  refine TL_p (PV.cast (PV_bin rfl rfl (bin_bool_neq Try.underlying4)) rfl) ?_
                  refine TL_p (PV_move rfl) ?_
                  refine TL_yes rfl rfl rfl (TO_pure rfl (PV_move rfl) ?_)
                  refine TL_yes rfl rfl rfl (TO_pure rfl (PV_move rfl) ?_)
                  refine TL_no (b := false) rfl rfl rfl rfl ?_
                  refine TL_no (b := false) rfl rfl rfl rfl ?_
                  refine TL_yes rfl rfl rfl (TO_pure rfl (PV_pickF rfl (by first | assumption | rfl | (simp; done) | (simp; omega) | (simp [*]; done) | (simp [*]; omega)) rfl rfl) ?_)
                  refine TL_p (PV_pickOr rfl rfl rfl) ?_
                  refine TL_p (PV_move rfl) ?_
                  refine TL_yes rfl rfl rfl (TO_pure rfl (PV_move rfl) ?_)
                  refine TL_yes rfl rfl rfl (TO_pure rfl (PV_not rfl) ?_)
                  refine TL_yes rfl rfl rfl (TO_pure rfl (PV_move rfl) ?_)
                  refine TL_yes rfl rfl rfl (TO_pure rfl (PV_move rfl) ?_)
                  refine TL_yes rfl rfl rfl (TO_pure rfl (PV_pickAnd rfl rfl rfl) ?_)
                  refine TL_yes rfl rfl rfl (TO_pure rfl (PV_move rfl) ?_)
                  refine TL_no (b := false) rfl rfl rfl rfl ?_
                  refine TL_no (b := false) rfl rfl rfl rfl ?_
                  refine TL_yes rfl rfl rfl (TO_pure rfl (PV_pickF rfl (by first | assumption | rfl | (simp; done) | (simp; omega) | (simp [*]; done) | (simp [*]; omega)) rfl rfl) ?_)
                  refine TL_p (PV_pickOr rfl rfl rfl) ?_
                  refine TL_nil ?_
                  refine T_else rfl (by rfl) ?_
                  refine T_skip ?_
                  refine T_region ?_
                  refine TL_p (PV_move rfl) ?_
                  refine TL_p (PV.cast (PV_bin rfl rfl bin_add) e83) ?_
                  refine TL_p (PV_assign rfl) ?_
                  refine TL_nil ?_
                  refine ?L81
                  all_goals exact ⟨⟨k + 1, false, false, false, vx2, Zx2, vy2, Zy2, vw2, Zw2⟩, ⟨by show k + 1 ≤ _; omega, fun _ => ⟨rfl, rfl, hpx ▸ hWx2, hpy ▸ hWy2, hpw ▸ hWw2⟩⟩, by show u.length - (k + 1) < u.length - k; omega, (by repeat (first | exact FrSub.nil _ | refine FrSub.cons rfl ?_)), ⟨_, perm_rev3, List.Sublist.refl _⟩⟩
          · obtain rfl : k = u.length := by omega
            refine T_seq ?_
            refine T_seq ?_
            refine T_region ?_
            refine TL_p (PV_move rfl) ?_
            refine TL_p (PV_move rfl) ?_
            refine TL_p (PV.cast (PV_len_string Try.underlying9 rfl) eu) ?_
            refine TL_p (PV_bin rfl rfl bin_lss) ?_
            refine TL_p (PV_move rfl) ?_
            refine TL_no (b := false) rfl rfl (gfalse (by (simp; done))) rfl ?_
            refine TL_no (b := false) rfl rfl (gfalse (by (simp; done))) rfl ?_
            refine TL_no (b := false) rfl rfl (gfalse (by (simp; done))) rfl ?_
            refine TL_p (PV_pickF rfl (by first | assumption | rfl | (simp; done) | (simp; omega) | (simp [*]; done) | (simp [*]; omega)) rfl rfl) ?_
            refine TL_nil ?_
            refine T_else rfl (by rfl) ?_
            refine T_exit ?_
            refine T_seq ?_
            refine T_region ?_
            refine TL_p (PV_assign rfl) ?_
            refine TL_nil ?_
            refine ?L91
            all_goals exact T_ret (ret_ret (ResV_one rfl rfl) ⟨H, (List.sublist_append_right _ _).trans ((List.sublist_append_right _ _).trans (List.sublist_append_right _ _)), rfl, rfl⟩)
end
end Go.Proofs.Ytkgdphbccagjcaa.SL
