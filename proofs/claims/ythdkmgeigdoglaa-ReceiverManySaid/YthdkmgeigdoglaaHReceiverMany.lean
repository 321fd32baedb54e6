import Derived.Test.YthdkmgeigdoglaaSLPut
/- ReceiverMany, walked. -/
set_option linter.unusedVariables false
namespace Go.Proofs.Ythdkmgeigdoglaa.SL
open Go Go.RowKit Go.Proofs.YthdkmgeigdoglaaW.PrintWords H Hand
/-- how it stands behind i blocks -/
structure At (crc : Bool) (n i : Nat) (r : Rcv) : Prop where
  c : r.crc = crc
  num : r.number = (i : Int)
  cl : r.close = false
  bu : r.buf = []
  da : r.dat.length = 128 * i
  bl : r.blocks = (i : Int)
  wa : r.want = (n : Int)
  ov : r.over = decide (i = n)
  er : r.err = .nilIface
set_option maxRecDepth 100000 in
theorem ReceiverMany_t {w : World} {A : Option Addr} {c : Nat} {l : List Int} {mn : Nat} {crc : Bool} (hr : ReadsInt w .u8 A l.length l) (hc : l.length ≤ c) (hu : U8s l) (hmn : mn ≤ 255) :
    TCall Try.prog w w.heap.size 26 #[.int .u8 (mn : Int), .slice A l.length c, .bool crc] (fun r _ => r = .bool true) [] := by
  have hS : ∀ H, Shows (WH w w.heap.size H) A l.length 1 (nums .u8 l) := fun H => shows_start hr
  have hl := hr.2.1
  obtain ⟨n, hn⟩ : ∃ n, 1 + mn % 6 = n := ⟨_, rfl⟩
  have hn6 : n ≤ 6 := by omega
  have hn1 : 1 ≤ n := by omega
  refine TCall_intro (args := [_, _, _]) Try.func26 rfl Try.ntmps26 (Nat.le_of_ble_eq_true rfl) ?_
  refine T_seq ?_
  refine T_region ?_
  refine TL_pure (d := (some 6)) rfl rfl rfl (PV_assign rfl) ?_
  refine TL_nil ?_
  refine T_seq ?_
  refine T_seq ?_
  refine T_region ?_
  -- op 16 call F68()
  refine TL_cons rfl (TO_call0 call68 rfl rfl (t68) ?_)
  rintro v16 H16 ⟨rfl, rfl⟩
  refine TL_pure (d := (some 17)) rfl rfl rfl (PV_not rfl) ?_
  refine TL_nil ?_
  refine T_else rfl (by rfl) ?_
  refine T_addNil 1 ?_
  refine T_addNil 1 ?_
  refine T_skip ?_
  refine T_seq ?_
  refine T_region ?_
  refine TL_pure (d := (some 18)) rfl rfl rfl (PV_move rfl) ?_
  refine TL_pure (d := (some 19)) rfl rfl rfl (PV.cast (PV_bin rfl rfl (bin_rem (by omega))) (congrArg (Value.int .u8) (tmod_nat' mn 6))) ?_
  first | (refine TL_pure (d := (some 20)) rfl rfl rfl (PV.cast (PV_conv (by rw [Try.underlying5]; rfl) Try.underlying3 rfl) (wr64 (by omega))) ?_) | (refine TL_pure (d := (some 20)) rfl rfl rfl (PV_conv (by rw [Try.underlying5]; rfl) Try.underlying3 rfl) ?_)
  refine TL_pure (d := (some 21)) rfl rfl rfl (PV.cast (PV_bin rfl rfl bin_add) (wr64n n (by omega) (by omega))) ?_
  refine TL_pure (d := (some 7)) rfl rfl rfl (PV_assign rfl) ?_
  refine TL_nil ?_
  refine T_seq ?_
  refine T_region ?_
  refine TL_pure (d := (some 22)) rfl rfl rfl (PV_build (ps := _) (cells := #[_, _]) Try.underlying79 pl79 zr79 rfl rfl) ?_
  refine TL_pure (d := (some 23)) rfl rfl rfl (PV_move rfl) ?_
  refine TL_pure (d := (some 24)) rfl rfl rfl (PV_move rfl) ?_
  -- op 25 call F69(t22, cu8:0, t23, cfalse, t24)
  refine TL_cons rfl (TO_call0 call69 rfl rfl (t69 3 9 0 crc false (n : Int)) ?_)
  rintro v25 H25 ⟨g, rfl, rfl⟩
  refine TL_pure (d := (some 8)) rfl rfl rfl (PV_assign rfl) ?_
  refine TL_nil ?_
  refine T_seq ?_
  refine T_seq ?_
  refine T_region ?_
  refine TL_pure (d := (some 9)) rfl rfl rfl (PV_assign rfl) ?_
  refine TL_nil ?_
  refine T_block ?_
  -- ('loop', ('Code.loop', ('Code.seq', ('Code.seq', ('Code.region', 6, ('L', ('Oper.mk', ('some', 26), ('Op.move', ('Operand.tmp', 9)), 3, '"law.go:268"', ('L',), 'none'), ('Oper.mk', ('some', 27), ('Op.
  refine T.weaken (fr' := [(1, .slice A l.length c), (2, .bool crc), (7, .int .i64 (n : Int)), (8, .pointer (some ⟨g, 0, none⟩)), (9, .int .i64 0)]) (FrSub.cons rfl (FrSub.cons rfl (FrSub.cons rfl (FrSub.cons rfl (FrSub.cons rfl (FrSub.nil _)))))) ?_
  refine T_loop (fun m f h => ∃ (i : Nat) (r : Rcv), m = n - i ∧ i ≤ n ∧ At crc n i r ∧ f = [(1, .slice A l.length c), (2, .bool crc), (7, .int .i64 (n : Int)), (8, .pointer (some ⟨g, 0, none⟩)), (9, .int .i64 ((i : Nat) : Int))] ∧ h = [rcvC g r, bufC r, datC r]) (n) ?_ ?_
  · exact ⟨0, ⟨crc, 9, 3, 1, 0, false, false, none, 0, [], none, 0, [], 0, max 1 (n : Int), false, .nilIface⟩, rfl, Nat.zero_le _, ⟨rfl, rfl, rfl, rfl, rfl, rfl, by show max 1 (n : Int) = (n : Int); omega, (decide_eq_false (by omega)).symm, rfl⟩, rfl, rfl⟩
  · rintro m f h ⟨i, r, rfl, hi, hat, rfl, rfl⟩
    refine T_seq ?_
    refine T_seq ?_
    refine T_region ?_
    refine TL_pure (d := (some 26)) rfl rfl rfl (PV_move rfl) ?_
    refine TL_pure (d := (some 27)) rfl rfl rfl (PV_move rfl) ?_
    refine TL_pure (d := (some 28)) rfl rfl rfl (PV_bin rfl rfl bin_lss) ?_
    refine TL_nil ?_
    -- IF t28
    refine T_cond rfl (fun hbi => ?_) (fun hbi => ?_)
    · skip
      have hin : i < n := by have := of_decide_eq_true hbi; omega
      obtain ⟨e1, e2, e3, e4, e5, e6, e7, e8, e9⟩ := hat
      have hov : r.over = false := by rw [e8]; exact decide_eq_false (by omega)
      obtain ⟨crc', wait, tries, left, number, begun, close, bA, bc, buf, dA, dc, dat, blocks, want, over, err⟩ := r
      dsimp only at e1 e2 e3 e4 e5 e6 e7 e8 e9 hov
      subst e1 e2 e3 e4 e6 e7 e9
      clear e8
      subst hov
      have hdl := dataL_len l false
      have hsc := scan_of_block (m := 128) (num := (i : Int)) (rest := []) (crc := crc') hdl (Or.inl rfl) (by omega)
      rw [List.append_nil] at hsc
      have hL0 : rd (blockL (leadOf 128) (i : Int) (dataL l false) crc') 0 = 1 := rfl
      have hLu := blockL_u8 (leadOf 128) (i : Int) (dataL l false) crc' (leadOf_u8 _) (by omega) (dataL_u8 l false)
      have hLl := blockL_len (leadOf 128) (i : Int) (dataL l false) crc'
      have hLt := trailL_le (dataL l false) crc'
      have hdl2 : (dataL l false).length = 128 := hdl
      obtain ⟨L, hL⟩ : ∃ L, blockL (leadOf 128) (i : Int) (dataL l false) crc' = L := ⟨_, rfl⟩
      rw [hL] at hsc hL0 hLu hLl
      obtain ⟨hs1, hs2, hs3⟩ := hsc
      refine T_skip ?_
      refine T_seq ?_
      refine T_block ?_
      refine T_seq ?_
      refine T_seq ?_
      refine T_region ?_
      refine TL_pure (d := (some 32)) rfl rfl rfl (PV_move rfl) ?_
      -- op 33 call F78(t32)
      refine TL_cons rfl (TO_call0 call78 rfl rfl (t78 ⟨crc', wait, tries, left, (i : Int), begun, false, bA, bc, [], dA, dc, dat, (i : Int), (n : Int), false, .nilIface⟩) ?_)
      rintro v33 H33 ⟨rfl, rfl⟩
      refine TL_pure (d := (some 31)) rfl rfl rfl (PV_move rfl) ?_
      refine TL_pure (d := (some 34)) rfl rfl rfl (PV_extract rfl rfl) ?_
      refine TL_pure (d := (some 35)) rfl rfl rfl (PV_extract rfl rfl) ?_
      refine TL_pure (d := (some 10)) rfl rfl rfl (PV_assign rfl) ?_
      refine TL_pure (d := (some 11)) rfl rfl rfl (PV_assign rfl) ?_
      refine TL_nil ?_
      refine T_seq ?_
      refine T_region ?_
      refine TL_pure (d := (some 36)) rfl rfl rfl (PV_move rfl) ?_
      refine TL_nil ?_
      -- IF t36
      refine T_else rfl (by rfl) ?_
      refine T_skip ?_
      refine T_seq ?_
      refine T_region ?_
      refine TL_pure (d := (some 38)) rfl rfl rfl (PV_move rfl) ?_
      first | (refine TL_pure (d := (some 39)) rfl rfl rfl (PV.cast (PV_conv (by rw [Try.underlying3]; rfl) Try.underlying5 rfl) (wru8 (by omega))) ?_) | (refine TL_pure (d := (some 39)) rfl rfl rfl (PV_conv (by rw [Try.underlying3]; rfl) Try.underlying5 rfl) ?_)
      refine TL_pure (d := (some 40)) rfl rfl rfl (PV_move rfl) ?_
      -- op 41 call F48(t40, cfalse)
      refine TL_cons rfl (TO_call0 call48 rfl rfl (t48 false (hS _) hl hc hu) ?_)
      rintro v41 H41 ⟨A41, c41, rfl, hc41, rfl⟩
      refine TL_pure (d := (some 42)) rfl rfl rfl (PV_build (ps := _) (cells := #[_, _]) Try.underlying58 pl58 zr58 rfl rfl) ?_
      refine TL_pure (d := (some 43)) rfl rfl rfl (PV_move rfl) ?_
      -- op 44 call F49(t42, t43)
      refine TL_cons rfl (TO_call0 call49 rfl rfl (t49 crc' (Shows.at 0 rfl) (Or.inl rfl) hc41 (dataL_u8 l false) (by omega)) ?_)
      rintro v44 H44 ⟨A44, c44, rfl, hc44, rfl⟩
      rw [show blockL (leadOf (dataN false)) (i : Int) (dataL l false) crc' = L from hL] at *
      refine TL_pure (d := (some 37)) rfl rfl rfl (PV_move rfl) ?_
      refine TL_pure (d := (some 45)) rfl rfl rfl (PV_extract rfl rfl) ?_
      refine TL_pure (d := (some 46)) rfl rfl rfl (PV_extract rfl rfl) ?_
      refine TL_pure (d := (some 12)) rfl rfl rfl (PV_assign rfl) ?_
      refine TL_pure (d := (some 13)) rfl rfl rfl (PV_assign rfl) ?_
      refine TL_nil ?_
      refine T_seq ?_
      refine T_region ?_
      refine TL_pure (d := (some 47)) rfl rfl rfl (PV_move rfl) ?_
      refine TL_pure (d := (some 48)) rfl rfl rfl (PV_not rfl) ?_
      refine TL_pure (d := (some 49)) rfl rfl rfl (PV_move rfl) ?_
      -- guard 50 move t8
      refine TL_yes rfl rfl rfl (TO_pure rfl (PV_move rfl) ?_)
      refine TL_yes rfl rfl rfl (TO_pure rfl (PV_move rfl) ?_)
      refine TL_perm (List.perm_append_comm (l₁ := [_, _]) (l₂ := [_, _, _])) ?_
      refine TL_yes rfl rfl rfl (TO_call0 call75 rfl rfl (t75good ⟨crc', wait, tries, left, (i : Int), begun, false, bA, bc, [], dA, dc, dat, (i : Int), (n : Int), false, .nilIface⟩ (X := [_, _]) (Shows.at 0 rfl) rfl (by omega) hLu (by show 0 + L.length ≤ 1000000; omega) rfl (by show rd L 0 ≠ 4; omega) (by show rd L 0 ≠ 24; omega) hs1 hs2 (by show dat.length ≤ 1000000; omega) (by show 0 ≤ (i : Int) ∧ (i : Int) ≤ 1000000; omega)) ?_)
      rintro v52 H52 ⟨A52, k52, A7, k7, rfl, hk52, hk7, rfl⟩
      -- guard 53 convert 23 9 t52
      refine TL_yes rfl rfl rfl (TO_pure rfl (PV_b2s Try.underlying23 Try.underlying5 Try.underlying9 rfl (by first | assumption | exact Shows.at 0 rfl | exact Shows.at 1 rfl | exact Shows.at 2 rfl | exact Shows.at 3 rfl | exact Shows.at 4 rfl | exact Shows.at 5 rfl | exact Shows.at 6 rfl | exact Shows.at 7 rfl | exact Shows.at 8 rfl)) ?_)
      refine TL_yes rfl rfl rfl (TO_pure rfl (PV.cast (PV_bin rfl rfl bin_str_neq) (congrArg Value.bool (show _ = false by exact congrArg Bool.not (decide_eq_true rfl)))) ?_)
      first | (refine TL_pure (d := (some 55)) rfl rfl rfl (PV_pickOr rfl rfl rfl) ?_) | (refine TL_pure (d := (some 55)) rfl rfl rfl (PV_pickT rfl (by first | assumption | rfl | (simp; done) | (simp; omega)) rfl rfl) ?_)
      refine TL_nil ?_
      -- IF t55
      refine T_else rfl (by rfl) ?_
      refine T_skip ?_
      refine T_region ?_
      refine TL_pure (d := (some 29)) rfl rfl rfl (PV_move rfl) ?_
      refine TL_pure (d := (some 30)) rfl rfl rfl (PV.cast (PV_bin rfl rfl bin_add) (wr64n (i + 1) (by omega) (by omega))) ?_
      refine TL_pure (d := (some 9)) rfl rfl rfl (PV_assign rfl) ?_
      refine TL_nil ?_
      -- ('loopend',)
      refine round_end (n - (i + 1)) _ _ (by omega) (FrSub.cons rfl (FrSub.cons rfl (FrSub.cons rfl (FrSub.cons rfl (FrSub.cons rfl (FrSub.nil _)))))) (List.Sublist.cons _ (List.Sublist.cons_cons _ (List.Sublist.cons_cons _ (List.Sublist.cons_cons _ (List.nil_sublist _))))) ⟨i + 1, _, rfl, by omega, ?_, rfl, rfl⟩
      have hnum : ((i : Int) + 1) % 256 = ((i + 1 : Nat) : Int) := by omega
      have hdat : (dat ++ scanD L crc').length = 128 * (i + 1) := by rw [hs3, List.length_append, hdl2]; omega
      by_cases hw : i + 1 = n
      · rw [show Rcv.fin _ = { Rcv.took (Rcv.with ⟨crc', wait, tries, left, (i : Int), begun, false, bA, bc, [], dA, dc, dat, (i : Int), (n : Int), false, .nilIface⟩) A7 k7 (scanD ([] ++ L) crc') with over := true, err := .nilIface } from if_pos ⟨rfl, by show (i : Int) + 1 = (n : Int); omega⟩]
        exact ⟨rfl, hnum, rfl, rfl, hdat, by show (i : Int) + 1 = ((i + 1 : Nat) : Int); omega, rfl, (decide_eq_true hw).symm, rfl⟩
      · rw [show Rcv.fin _ = Rcv.took (Rcv.with ⟨crc', wait, tries, left, (i : Int), begun, false, bA, bc, [], dA, dc, dat, (i : Int), (n : Int), false, .nilIface⟩) A7 k7 (scanD ([] ++ L) crc') from if_neg (fun h => hw (by have := h.2; replace this : (i : Int) + 1 = (n : Int) := this; omega))]
        exact ⟨rfl, hnum, rfl, rfl, hdat, by show (i : Int) + 1 = ((i + 1 : Nat) : Int); omega, rfl, (decide_eq_false hw).symm, rfl⟩
    · skip
      have hin : i = n := by have := of_decide_eq_false hbi; omega
      subst hin
      obtain ⟨e1, e2, e3, e4, e5, e6, e7, e8, e9⟩ := hat
      have hov : r.over = true := by rw [e8]; exact decide_eq_true rfl
      refine T_exit ?_
      refine T_seq ?_
      refine T_region ?_
      refine TL_pure (d := (some 57)) rfl rfl rfl (PV_move rfl) ?_
      -- op 58 call F78(t57)
      refine TL_cons rfl (TO_call0 call78 rfl rfl (t78 r) ?_)
      rintro v58 H58 ⟨rfl, rfl⟩
      rw [hov, e9]
      refine TL_pure (d := (some 56)) rfl rfl rfl (PV_move rfl) ?_
      refine TL_pure (d := (some 59)) rfl rfl rfl (PV_extract rfl rfl) ?_
      refine TL_pure (d := (some 60)) rfl rfl rfl (PV_extract rfl rfl) ?_
      refine TL_pure (d := (some 14)) rfl rfl rfl (PV_assign rfl) ?_
      refine TL_pure (d := (some 15)) rfl rfl rfl (PV_assign rfl) ?_
      refine TL_nil ?_
      refine T_seq ?_
      refine T_region ?_
      refine TL_pure (d := (some 61)) rfl rfl rfl (PV_move rfl) ?_
      refine TL_pure (d := (some 62)) rfl rfl rfl (PV_move rfl) ?_
      -- guard 63 move t15
      refine TL_yes rfl rfl rfl (TO_pure rfl (PV_move rfl) ?_)
      first | (refine TL_yes rfl rfl rfl (TO_pure rfl (PV_bin rfl rfl (bin_nil_nil Try.underlying83)) ?_)) | (refine TL_yes rfl rfl rfl (TO_pure rfl (PV_bin rfl rfl (bin_if_nil Try.underlying83)) ?_)) | (refine TL_yes rfl rfl rfl (TO_pure rfl (PV_bin rfl rfl (bin_nil_if Try.underlying83)) ?_)) | (refine TL_yes rfl rfl rfl (TO_pure rfl (PV_bin rfl rfl (bin_if_if Try.underlying83 (by first | exact Try.underlying135 | exact Try.underlying83) (by kernel_rfl))) ?_))
      first | (refine TL_pure (d := (some 65)) rfl rfl rfl (PV_pickAnd rfl rfl rfl) ?_) | (refine TL_pure (d := (some 65)) rfl rfl rfl (PV_pickF rfl (by first | assumption | rfl | (simp; done) | (simp; omega)) rfl rfl) ?_)
      refine TL_pure (d := (some 66)) rfl rfl rfl (PV_move rfl) ?_
      refine TL_yes rfl rfl rfl (TO_pure rfl (PV_move rfl) ?_)
      refine TL_yes rfl rfl rfl (TO_call0 call77 rfl rfl (t77 r (by omega)) ?_)
      rintro v68 H68 ⟨A68, k68, rfl, hk68, rfl⟩
      refine TL_yes rfl rfl rfl (TO_pure rfl (PV_len_slice Try.underlying23 rfl) ?_)
      refine TL_yes rfl rfl rfl (TO_pure rfl (PV_move rfl) ?_)
      refine TL_yes rfl rfl rfl (TO_pure rfl (PV.cast (PV_bin rfl rfl bin_mul) (wr64n (128 * i) (by omega) (by omega))) ?_)
      refine TL_yes rfl rfl rfl (TO_pure rfl (PV.cast (PV_bin rfl rfl bin_eql) (congrArg Value.bool (show _ = true by rw [e5]; exact beq_self_eq_true _))) ?_)
      first | (refine TL_pure (d := (some 73)) rfl rfl rfl (PV_pickAnd rfl rfl rfl) ?_) | (refine TL_pure (d := (some 73)) rfl rfl rfl (PV_pickF rfl (by first | assumption | rfl | (simp; done) | (simp; omega)) rfl rfl) ?_)
      refine TL_pure (d := (some 6)) rfl rfl rfl (PV_assign rfl) ?_
      refine TL_nil ?_
      refine T_ret ?_
      -- ('ret',)
      refine ⟨_, ?hh1, ?sb1, ResV_one rfl rfl, rfl⟩
      case sb1 => repeat (first | exact List.Sublist.refl _ | apply List.Sublist.cons_cons | apply List.Sublist.cons)
end Go.Proofs.Ythdkmgeigdoglaa.SL
namespace Go.Proofs.Ythdkmgeigdoglaa.Hand
open Go Go.RowKit Go.Proofs.YthdkmgeigdoglaaW.PrintWords H
theorem u8_of_wf {n : Int} (h : (Lit.int .u8 n).wf = true) : 0 ≤ n ∧ n ≤ 255 := U8s.of_wf (l := [n]) (by simpa using h) n (by simp)
theorem ReceiverMany_walk (a0 : Int) (a1 : Option Addr) (c1 : Nat) (l1 : List Int) (a2 : Bool) (w : World)
    (w0 : (Lit.int .u8 a0).wf = true) (hr1 : ReadsInt w .u8 a1 l1.length l1) (hc1 : l1.length ≤ c1) (y1 : l1.length * 1 ≤ 140737488351232) (hw1 : ∀ x ∈ l1, (Lit.int .u8 x).wf = true) :
    Calls Try.prog 26 #[.int .u8 a0, .slice a1 l1.length c1, .bool a2] w fun e w' => e = .returned (.bool true) ∧ Below w.heap.size w w' := by
  have h1 := u8_of_wf w0
  obtain ⟨k, rfl⟩ := Int.eq_ofNat_of_zero_le h1.1
  exact SL.law_of (SL.ReceiverMany_t hr1 hc1 (U8s.of_wf hw1) (by omega))
end Go.Proofs.Ythdkmgeigdoglaa.Hand
