import Derived.Test.YtcbkcggijejooaaL4
/- The laws of the link: the data of blocks, the document's example. No statement is proved here. -/
set_option linter.unusedVariables false
set_option linter.unusedSimpArgs false
set_option maxRecDepth 100000
set_option maxHeartbeats 8000000
namespace Go.Proofs.Ytcbkcggijejooaa.SL
open Go Go.RowKit
section
variable {w0 : World} {B : Nat} {H X : List Chunk}
theorem TCall.less {P : Program} {f : FuncId} {args : Array Value} {R R' : Value → List Chunk → Prop} (h : TCall P w0 B f args R H) (hq : ∀ v h, R v h → ∃ h', List.Sublist h' h ∧ R' v h') : TCall P w0 B f args R' H :=
  fun HX w hr => (h HX w hr).mono fun e w' ⟨v, h', he, q, r⟩ => let ⟨h2, s, q2⟩ := hq _ _ q; ⟨v, h2, he, q2, r.sub (s.append_right HX)⟩
theorem flat_le : ∀ (qs : List (List Int)), (∀ q ∈ qs, q.length ≤ 1024) → qs.flatten.length ≤ 1024 * qs.length
  | [], h => Nat.zero_le _
  | q :: qs, h => by
    have h1 := flat_le qs (fun x hx => h x (List.mem_cons_of_mem _ hx))
    have h2 := h q List.mem_cons_self
    rw [List.flatten_cons, List.length_append, List.length_cons]
    omega
theorem t84 {A : Option Addr} {m c : Nat} {qs : List (List Int)} (hB : SBlk (WH w0 B H) A c qs) (hml : qs.length = m) (hm : m ≤ 1000) (hq : ∀ q ∈ qs, U8s q ∧ (q.length = 128 ∨ q.length = 1024)) :
    TCall Try.prog w0 B 20 #[.slice A m c] (fun r H' => r = .string (strOfNums qs.flatten) ∧ H' = H) H := by
  refine TCall_intro (args := [_]) Try.func20 rfl Try.ntmps20 (Nat.le_of_ble_eq_true rfl) ?_
  refine T_seq ?_
  refine T_region ?_
  refine TL_pure (d := (some 2)) rfl rfl rfl (PV_assign rfl) ?_
  refine TL_nil ?_
  refine T_seq ?_
  refine T_region ?_
  refine TL_pure (d := (some 3)) rfl rfl rfl (PV_assign rfl) ?_
  refine TL_nil ?_
  refine T_seq ?_
  refine T_seq ?_
  refine T_region ?_
  refine TL_pure (d := (some 6)) rfl rfl rfl (PV_move rfl) ?_
  refine TL_pure (d := (some 7)) rfl rfl rfl (PV_len_slice Try.underlying24 rfl) ?_
  refine TL_pure (d := (some 8)) rfl rfl rfl (PV_move rfl) ?_
  refine TL_nil ?_
  refine T_block ?_
  refine ?L1
  case L1 =>
    refine T_loop1 (fun (i : Nat) => i ≤ m) (fun i => m - i) (fun i => [(3, .string (strOfNums (qs.take i).flatten)), (6, .slice A m c), (7, .int .i64 (m : Int)), (8, .int .i64 (i : Int))]) (fun i => H) 0 (Nat.zero_le _) (by repeat (first | exact FrSub.nil _ | refine FrSub.cons rfl ?_)) (by repeat (first | exact List.Sublist.refl _ | exact List.sublist_append_right _ _ | exact List.sublist_append_left _ _ | apply List.Sublist.cons_cons | apply List.Sublist.cons | refine List.Sublist.trans ?_ (List.sublist_append_left _ _))) ?_
    rintro i hi
    by_cases him : i < m
    · refine hB.some (by omega) fun ga oa hA => ?_
      subst hA
      obtain ⟨Ap, cp, hK, hpS, hpC, _, _⟩ := hB.at (i := i) (by omega)
      have hqi := hq _ (List.getElem_mem (show i < qs.length by omega))
      obtain ⟨xs, hxs⟩ : ∃ xs, qs[i]'(by omega) = xs := ⟨_, rfl⟩
      rw [hxs] at hK hpS hpC hqi
      have hxu := hqi.1
      have hfl : (qs.take i).flatten.length ≤ 1024 * i := by
        have h1 := flat_le (qs.take i) (fun q hqm => by have := (hq q (List.mem_of_mem_take hqm)).2; omega)
        rw [List.length_take] at h1
        have h2 : min i qs.length ≤ i := Nat.min_le_left _ _
        have h3 := Nat.mul_le_mul_left 1024 h2
        omega
      have e16 : Value.string (strOfNums (qs.take i).flatten ++ strOfNums xs) = .string (strOfNums (qs.take (i + 1)).flatten) := by
        rw [str_app, List.take_add_one (i := i), List.getElem?_eq_getElem (by omega), hxs, List.flatten_append]
        exact congrArg (fun l => Value.string (strOfNums ((qs.take i).flatten ++ l))) (List.append_nil _).symm
      have hb16 : (strOfNums (qs.take i).flatten).size + (strOfNums xs).size ≤ 9223372036854775807 := by
        rw [str_len, str_len]
        omega
      refine T_seq ?_
      refine T_region ?_
      refine TL_pure (d := (some 9)) rfl rfl rfl (PV_bin rfl rfl bin_lss) ?_
      refine TL_nil ?_
      refine T_seq ?_
      refine T_then rfl (by exact decide_eq_true (by omega)) ?_
      refine T_skip ?_
      refine T_seq ?_
      refine T_block ?_
      refine T_seq ?_
      refine T_region ?_
      refine TL_pure (d := (some 10)) rfl rfl rfl (PV_indexAddr Try.underlying24 sz28 rfl rfl rfl (by first | omega | decide | assumption)) ?_
      refine TL_pure (d := (some 11)) rfl rfl rfl (PV_loadAt Try.underlying28 rfl sz28 rfl hK) ?_
      refine TL_cons rfl (TO_alloc rfl zr28 fun g101 => ?_)
      refine TL_cons rfl (TO_store 0 rfl rfl rfl sz28 rfl rfl rfl (List.forall_mem_cons.2 ⟨by first | rfl, List.forall_mem_cons.2 ⟨by first | rfl, by simp⟩⟩) (by first | exact Nat.le_of_ble_eq_true rfl | (simp; done) | (simp; omega) | omega) ?_)
      refine TL_nil ?_
      refine T_region ?_
      refine TL_pure (d := (some 12)) rfl rfl rfl (PV_move rfl) ?_
      refine TL_pure (d := (some 13)) rfl rfl rfl (PV_fieldAddr (D := 1) Try.underlying28 rfl sz26 (by decide) rfl rfl) ?_
      refine TL_pure (d := (some 14)) rfl rfl rfl (PV_load Try.underlying26 rfl rfl (Rd.at 0 rfl rfl)) ?_
      refine TL_pure (d := (some 15)) rfl rfl rfl (PV_b2s Try.underlying26 Try.underlying5 Try.underlying9 rfl (Shows.mono hpS (fun w h => h.sub (by (repeat (first | exact List.Sublist.refl _ | exact List.sublist_append_right _ _ | exact List.sublist_append_left _ _ | apply List.Sublist.cons | refine List.Sublist.trans ?_ (List.sublist_append_left _ _))); done)))) ?_
      refine TL_pure (d := (some 16)) rfl rfl rfl (PV.cast (PV_bin rfl rfl (bin_str_add (by first | exact hb16 | omega))) e16) ?_
      refine TL_pure (d := (some 3)) rfl rfl rfl (PV_assign rfl) ?_
      refine TL_nil ?_
      refine T_region ?_
      refine TL_pure (d := (some 17)) rfl rfl rfl (PV.cast (PV_bin rfl rfl bin_add) (wr64 (by omega))) ?_
      refine TL_pure (d := (some 8)) rfl rfl rfl (PV_move rfl) ?_
      refine TL_nil ?_
      refine ?L2
      case L2 =>
        exact ⟨i + 1, by omega, by omega, (by repeat (first | exact FrSub.nil _ | refine FrSub.cons rfl ?_)), (by repeat (first | exact List.Sublist.refl _ | exact List.sublist_append_right _ _ | exact List.sublist_append_left _ _ | apply List.Sublist.cons_cons | apply List.Sublist.cons | refine List.Sublist.trans ?_ (List.sublist_append_left _ _)))⟩
    · obtain rfl : i = m := by omega
      rw [List.take_of_length_le (by omega)]
      refine T_seq ?_
      refine T_region ?_
      refine TL_pure (d := (some 9)) rfl rfl rfl (PV_bin rfl rfl bin_lss) ?_
      refine TL_nil ?_
      refine T_seq ?_
      refine T_else rfl (by (simp; done)) ?_
      refine T_exit ?_
      refine T_seq ?_
      refine T_region ?_
      refine TL_pure (d := (some 18)) rfl rfl rfl (PV_move rfl) ?_
      refine TL_pure (d := (some 2)) rfl rfl rfl (PV_assign rfl) ?_
      refine TL_nil ?_
      refine T_ret ?_
      refine ret_ret (ResV_one rfl rfl) ⟨_, List.Sublist.refl _, ⟨rfl, rfl⟩⟩
theorem Rc.of_fit (a b number : Int) (crc close : Bool) (many : Int) (hn : 0 ≤ number ∧ number ≤ 255) : (Rc.of a b number crc close many).Fit 0 :=
  ⟨U8s.nil, Nat.zero_le _, Nat.zero_le _, by show (0 : Int) ≤ 0; decide, by show (0 : Int) ≤ ((0 : Nat) : Int); decide, hn.1, hn.2, by show (1 : Int) ≤ 1; decide, by show (1 : Int) ≤ 99; decide, by show 1 ≤ max 1 (min b 99); omega, by show max 1 (min b 99) ≤ 99; omega, by show 0 ≤ max 1 (min a 9); omega, by show max 1 (min a 9) ≤ 9; omega⟩
theorem start_fit {a b a' b' number many : Int} {qs : List (List Int)} {crc close : Bool} (hm : qs.length ≤ 65535) (hn : ∀ q ∈ qs, U8s q ∧ (q.length = 128 ∨ q.length = 1024)) (hnn : 0 ≤ number ∧ number ≤ 255) : (Lk.start (Sn.of a b qs crc close) (Rc.of a' b' number crc close many)).Fit qs :=
  ⟨Sn.of_fit hm hn, rfl, Rc.of_fit _ _ _ _ _ _ hnn, Nat.zero_le _, U8s.nil, Nat.zero_le _⟩
theorem nz_nil {W : World → Prop} : Shows W none 0 3 (nzCells []) := fun w hw => ⟨rfl, fun j v h => by simp [nzCells] at h⟩
theorem t80c {gs gr cs : Nat} {As : Option Addr} {qs : List (List Int)} {a b : Int} {crc : Bool} (hB : SBlk (WH w0 B X) As cs qs) (hb : 2 ≤ b) (hq : ∀ q ∈ qs, U8s q ∧ (q.length = 128 ∨ q.length = 1024)) (hm : qs.length ≤ 40) :
    TCall Try.prog w0 B 17 #[.pointer (some ⟨gs, 0, none⟩), .pointer (some ⟨gr, 0, none⟩), .slice none 0 0, .int .i64 50] (fun v H' => ∃ (A : Option Addr) (k : Nat), v = .agg #[.bool true, .nilIface, .nilIface, .slice A qs.flatten.length k, .int .i64 ((qs.length + 2 : Nat) : Int), .int .i64 ((qs.length + 1 : Nat) : Int)] ∧ qs.flatten.length ≤ k ∧ H' = byC A k qs.flatten :: X)
      (sC gs As cs (Sn.of a b qs crc true) :: rcC gr none 0 none 0 (Rc.of a b 1 crc true 1) :: byC none 0 [] :: byC none 0 [] :: X) := by
  obtain ⟨ct, w, t0, k, nb, bg, nm, he⟩ := clean_run (a := a) (number := 1) (crc := crc) hb (fun q hqm => (hq q hqm).2) (47 - qs.length)
  rw [show 47 - qs.length + qs.length + 3 = 50 by omega] at he
  have h := t80 (gs := gs) (gr := gr) (bA := none) (bc := 0) (dA := none) (dc := 0) (cn := 0) (Sn.of a b qs crc true) (Rc.of a b 1 crc true 1) 50 (start_fit (by omega) hq (by decide)) hB nz_nil rfl (by decide)
  rw [he] at h
  refine h.less ?_
  rintro v H' ⟨A, k', bA', bc', dA', dc', hv, hk, rfl⟩
  exact ⟨_, (by repeat (first | exact List.Sublist.refl _ | exact List.sublist_append_right _ _ | exact List.sublist_append_left _ _ | apply List.Sublist.cons_cons | apply List.Sublist.cons | refine List.Sublist.trans ?_ (List.sublist_append_left _ _))), A, k', hv, hk, rfl⟩
theorem t79 : TCall Try.prog w0 B 16 #[] (fun r H' => r = .bool true ∧ H' = H) H := by
  have hq : ∀ q ∈ blksL [120] false 2, U8s q ∧ (q.length = 128 ∨ q.length = 1024) := blksL_num (by decide)
  have hl : (blksL [120] false 2).length = 2 := blksL_len _ _ _
  have hf : (blksL [120] false 2).flatten.length = 256 := by decide
  have hu : U8s [120] := U8s.one (by decide) (by decide)
  refine TCall_intro (args := []) Try.func16 rfl Try.ntmps16 (Nat.le_of_ble_eq_true rfl) ?_
  refine T_seq ?_
  refine T_region ?_
  refine TL_pure (d := (some 0)) rfl rfl rfl (PV_assign rfl) ?_
  refine TL_nil ?_
  refine T_seq ?_
  refine T_region ?_
  refine TL_pure (d := (some 4)) rfl rfl rfl (PV_bld (cs := [_, _]) Try.underlying31 pl31 zr31 rfl rfl) ?_
  refine TL_cons rfl (TO_bs (cs := [_]) Try.underlying26 zs5 (by decide) rfl rfl rfl rfl rfl rfl fun g1 => ?_)
  refine TL_cons rfl (TO_s2s 0 rfl rfl Try.underlying26 Try.underlying5 rfl rfl ?_)
  refine TL_cons rfl (TO_call0 call9 rfl rfl (t57 (l := [120]) 2 false (Shows.at 0 rfl) ?sd4q74_1 ?sd4q74_2 ?sd4q74_3 ?sd4q74_4 ?sd4q74_5) ?_)
  case sd4q74_1 => exact rfl
  case sd4q74_2 => omega
  case sd4q74_3 => omega
  case sd4q74_4 => exact hu
  case sd4q74_5 => omega
  rintro v7_5 H7_5 ⟨A'_5, c'_5, N_5, rfl, h_5_0, rfl⟩
  refine TL_cons rfl (TO_call0 call10 rfl rfl (t58 _ _ _ _ h_5_0 ?sd7q74_5 ?sd7q74_6 ?sd7q74_7) ?_)
  case sd7q74_5 => omega
  case sd7q74_6 => decide
  case sd7q74_7 => with_reducible assumption
  rintro v8_8 H8_8 ⟨g_8, A'_8, c'_8, N_8, rfl, h_8_0, rfl⟩
  refine TL_pure (d := (some 1)) rfl rfl rfl (PV_assign rfl) ?_
  refine TL_nil ?_
  refine T_seq ?_
  refine T_region ?_
  refine TL_pure (d := (some 9)) rfl rfl rfl (PV_bld (cs := [_, _]) Try.underlying31 pl31 zr31 rfl rfl) ?_
  refine TL_cons rfl (TO_call0 call18 rfl rfl (t69 _ _ _ _ _ _) ?_)
  rintro v10_11 H10_11 ⟨g_11, rfl, rfl⟩
  refine TL_pure (d := (some 2)) rfl rfl rfl (PV_assign rfl) ?_
  refine TL_nil ?_
  refine T_seq ?_
  refine T_seq ?_
  refine T_region ?_
  refine TL_pure (d := (some 11)) rfl rfl rfl (PV_move rfl) ?_
  refine TL_pure (d := (some 12)) rfl rfl rfl (PV_bin rfl rfl (bin_ptr_nil Try.underlying33)) ?_
  refine TL_pure (d := (some 13)) rfl rfl rfl (PV_move rfl) ?_
  refine TL_yes rfl rfl rfl (TO_pure rfl (PV_move rfl) ?_)
  refine TL_yes rfl rfl rfl (TO_pure rfl (PV_bin rfl rfl (bin_ptr_nil Try.underlying50)) ?_)
  refine TL_pure (d := (some 16)) rfl rfl rfl (PV_pickOr rfl rfl rfl) ?_
  refine TL_nil ?_
  refine T_else rfl (by rfl) ?_
  refine T_skip ?_
  refine T_seq ?_
  refine T_region ?_
  refine TL_pure (d := (some 17)) rfl rfl rfl (PV_move rfl) ?_
  refine TL_pure (d := (some 18)) rfl rfl rfl (PV_move rfl) ?_
  refine TL_perm ((perm_pick (i := 3) rfl).trans (List.Perm.cons _ ((perm_pick (i := 0) rfl).trans (List.Perm.cons _ ((perm_pick (i := 0) rfl).trans (List.Perm.cons _ ((perm_pick (i := 0) rfl).trans (List.Perm.cons _ (List.Perm.refl _))))))))) ?_
  refine TL_cons rfl (TO_call0 call17 rfl rfl (t80c ?sd13q74_0 ?sd13q74_1 ?sd13q74_2 ?sd13q74_3) ?_)
  case sd13q74_0 => exact h_8_0
  case sd13q74_1 => omega
  case sd13q74_2 => with_reducible assumption
  case sd13q74_3 => decide
  rintro v19_14 H19_14 ⟨A_14, k_14, rfl, h_14_0, rfl⟩
  refine TL_cons rfl (TO_alloc rfl zr48 fun g15 => ?_)
  refine TL_cons rfl (TO_store 0 rfl rfl rfl sz48 rfl rfl rfl (List.forall_mem_cons.2 ⟨by first | rfl, List.forall_mem_cons.2 ⟨by first | rfl, List.forall_mem_cons.2 ⟨by first | rfl, List.forall_mem_cons.2 ⟨by first | rfl, List.forall_mem_cons.2 ⟨by first | rfl, List.forall_mem_cons.2 ⟨by first | rfl, by simp⟩⟩⟩⟩⟩⟩) (by first | exact Nat.le_of_ble_eq_true rfl | (simp; done) | (simp; omega) | omega) ?_)
  refine TL_nil ?_
  refine T_seq ?_
  refine T_region ?_
  refine TL_pure (d := (some 20)) rfl rfl rfl (PV_fieldAddr (D := 0) Try.underlying48 rfl sz4 (by decide) rfl rfl) ?_
  refine TL_pure (d := (some 21)) rfl rfl rfl (PV_load Try.underlying4 rfl rfl (Rd.at 0 rfl rfl)) ?_
  refine TL_pure (d := (some 22)) rfl rfl rfl (PV_move rfl) ?_
  refine TL_yes rfl rfl rfl (TO_pure rfl (PV_fieldAddr (D := 1) Try.underlying48 rfl sz46 (by decide) rfl rfl) ?_)
  refine TL_yes rfl rfl rfl (TO_pure rfl (PV_load Try.underlying46 rfl rfl (Rd.at 0 rfl rfl)) ?_)
  refine TL_yes rfl rfl rfl (TO_pure rfl (PV_bin rfl rfl (bin_nil_nil Try.underlying46)) ?_)
  refine TL_pure (d := (some 26)) rfl rfl rfl (PV_pickAnd rfl rfl rfl) ?_
  refine TL_pure (d := (some 27)) rfl rfl rfl (PV_move rfl) ?_
  refine TL_yes rfl rfl rfl (TO_pure rfl (PV_fieldAddr (D := 2) Try.underlying48 rfl sz46 (by decide) rfl rfl) ?_)
  refine TL_yes rfl rfl rfl (TO_pure rfl (PV_load Try.underlying46 rfl rfl (Rd.at 0 rfl rfl)) ?_)
  refine TL_yes rfl rfl rfl (TO_pure rfl (PV_bin rfl rfl (bin_nil_nil Try.underlying46)) ?_)
  refine TL_pure (d := (some 31)) rfl rfl rfl (PV_pickAnd rfl rfl rfl) ?_
  refine TL_pure (d := (some 32)) rfl rfl rfl (PV_move rfl) ?_
  refine TL_yes rfl rfl rfl (TO_pure rfl (PV_fieldAddr (D := 3) Try.underlying48 rfl sz26 (by decide) rfl rfl) ?_)
  refine TL_yes rfl rfl rfl (TO_pure rfl (PV_load Try.underlying26 rfl rfl (Rd.at 0 rfl rfl)) ?_)
  refine TL_yes rfl rfl rfl (TO_pure rfl (PV_len_slice Try.underlying26 rfl) ?_)
  refine TL_yes rfl rfl rfl (TO_pure rfl (PV_bin rfl rfl bin_eql) ?_)
  refine TL_pure (d := (some 37)) rfl rfl rfl (PV_pickAnd rfl rfl rfl) ?_
  refine TL_pure (d := (some 38)) rfl rfl rfl (PV_move rfl) ?_
  refine TL_yes rfl rfl rfl (TO_pure rfl (PV_fieldAddr (D := 5) Try.underlying48 rfl sz3 (by decide) rfl rfl) ?_)
  refine TL_yes rfl rfl rfl (TO_pure rfl (PV_load Try.underlying3 rfl rfl (Rd.at 0 rfl rfl)) ?_)
  refine TL_yes rfl rfl rfl (TO_pure rfl (PV_bin rfl rfl bin_eql) ?_)
  refine TL_pure (d := (some 42)) rfl rfl rfl (PV_pickAnd rfl rfl rfl) ?_
  refine TL_pure (d := (some 0)) rfl rfl rfl (PV_assign rfl) ?_
  refine TL_nil ?_
  refine T_ret ?_
  refine ret_ret (ResV_one rfl rfl) ⟨_, ?zb17q74, ⟨rfl, rfl⟩⟩
  case zb17q74 => exact (by (repeat (first | exact List.Sublist.refl _ | exact List.sublist_append_right _ _ | exact List.sublist_append_left _ _ | apply List.Sublist.cons_cons | apply List.Sublist.cons | refine List.Sublist.trans ?_ (List.sublist_append_left _ _))); done)
  all_goals
    refine T_ret ?_
    refine ret_ret (ResV_one rfl rfl) ⟨H, ?_, ?_, rfl⟩
    · exact List.Sublist.cons _ (List.Sublist.cons _ (List.Sublist.cons _ ((List.sublist_append_left _ _).trans (List.sublist_append_left _ _))))
    · rw [show (2 % 5 : Nat) = 2 from rfl, hf, hl]
      rfl
/-- how long one waits -/
def waitL (b : Int) : Int := 2 + Int.tmod (Int.tmod b 5 + 5) 5
theorem tmod5 (b : Int) : 0 ≤ Int.tmod (Int.tmod b 5 + 5) 5 ∧ Int.tmod (Int.tmod b 5 + 5) 5 < 5 ∧ -5 < Int.tmod b 5 ∧ Int.tmod b 5 < 5 := by
  have h1 := Int.tmod_lt_of_pos b (show (0 : Int) < 5 by decide)
  have h2 : -5 < Int.tmod b 5 := by
    have := Int.tmod_lt_of_pos (-b) (show (0 : Int) < 5 by decide)
    rw [Int.neg_tmod] at this
    omega
  exact ⟨Int.tmod_nonneg _ (by omega), Int.tmod_lt_of_pos _ (by decide), h2, h1⟩
end
end Go.Proofs.Ytcbkcggijejooaa.SL
