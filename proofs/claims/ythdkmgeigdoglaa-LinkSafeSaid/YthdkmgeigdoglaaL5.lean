import Derived.Test.YthdkmgeigdoglaaL4
/- The laws of the link: the data of blocks, the document's example. No statement is proved here. -/
set_option linter.unusedVariables false
set_option linter.unusedSimpArgs false
set_option maxRecDepth 100000
set_option maxHeartbeats 8000000
namespace Go.Proofs.Ythdkmgeigdoglaa.SL
open Go Go.RowKit
section
variable {w0 : World} {B : Nat} {H X : List Chunk}
theorem TCall.less {P : Program} {f : FuncId} {args : Array Value} {R R' : Value → List Chunk → Prop} (h : TCall P w0 B f args R H) (hq : ∀ v h, R v h → ∃ h', List.Sublist h' h ∧ R' v h') : TCall P w0 B f args R' H :=
  fun HX w hr => (h HX w hr).mono fun e w' ⟨v, h', he, q, r⟩ => let ⟨h2, s, q2⟩ := hq _ _ q; ⟨v, h2, he, q2, r.sub (s.append_right HX)⟩
theorem flat_le : ∀ (qs : List (List Int)), (∀ q ∈ qs, q.length ≤ 1024) → qs.flatten.length ≤ 1024 * qs.length
  | [], h => Nat.zero_le _
  | q :: qs, h => by
    have h1 := flat_le qs (fun x hx => h x (List.mem_cons_of_mem _ hx))
    have h2 := h q List.mem_cons_self
    rw [List.flatten_cons, List.length_append, List.length_cons]
    omega
theorem t84 {A : Option Addr} {m c : Nat} {qs : List (List Int)} (hB : SBlk (WH w0 B H) A c qs) (hml : qs.length = m) (hm : m ≤ 1000) (hq : ∀ q ∈ qs, U8s q ∧ (q.length = 128 ∨ q.length = 1024)) :
    TCall Try.prog w0 B 84 #[.slice A m c] (fun r H' => r = .string (strOfNums qs.flatten) ∧ H' = H) H := by
  refine TCall_intro (args := [_]) Try.func84 rfl Try.ntmps84 (Nat.le_of_ble_eq_true rfl) ?_
  refine T_seq ?_
  refine T_region ?_
  refine TL_pure (d := (some 2)) rfl rfl rfl (PV_assign rfl) ?_
  refine TL_nil ?_
  refine T_seq ?_
  refine T_region ?_
  refine TL_pure (d := (some 3)) rfl rfl rfl (PV_assign rfl) ?_
  refine TL_nil ?_
  refine T_seq ?_
  refine T_seq ?_
  refine T_region ?_
  refine TL_pure (d := (some 6)) rfl rfl rfl (PV_move rfl) ?_
  refine TL_pure (d := (some 7)) rfl rfl rfl (PV_len_slice Try.underlying69 rfl) ?_
  refine TL_pure (d := (some 8)) rfl rfl rfl (PV_move rfl) ?_
  refine TL_nil ?_
  refine T_block ?_
  refine ?L1
  case L1 =>
    refine T_loop1 (fun (i : Nat) => i ≤ m) (fun i => m - i) (fun i => [(3, .string (strOfNums (qs.take i).flatten)), (6, .slice A m c), (7, .int .i64 (m : Int)), (8, .int .i64 (i : Int))]) (fun i => H) 0 (Nat.zero_le _) (by repeat (first | exact FrSub.nil _ | refine FrSub.cons rfl ?_)) (by repeat (first | exact List.Sublist.refl _ | exact List.sublist_append_right _ _ | exact List.sublist_append_left _ _ | apply List.Sublist.cons_cons | apply List.Sublist.cons)) ?_
    rintro i hi
    by_cases him : i < m
    · refine hB.some (by omega) fun ga oa hA => ?_
      subst hA
      obtain ⟨Ap, cp, hK, hpS, hpC, _, _⟩ := hB.at (i := i) (by omega)
      have hqi := hq _ (List.getElem_mem (show i < qs.length by omega))
      obtain ⟨xs, hxs⟩ : ∃ xs, qs[i]'(by omega) = xs := ⟨_, rfl⟩
      rw [hxs] at hK hpS hpC hqi
      have hxu := hqi.1
      have hfl : (qs.take i).flatten.length ≤ 1024 * i := by
        have h1 := flat_le (qs.take i) (fun q hqm => by have := (hq q (List.mem_of_mem_take hqm)).2; omega)
        rw [List.length_take] at h1
        have h2 : min i qs.length ≤ i := Nat.min_le_left _ _
        have h3 := Nat.mul_le_mul_left 1024 h2
        omega
      have e16 : Value.string (strOfNums (qs.take i).flatten ++ strOfNums xs) = .string (strOfNums (qs.take (i + 1)).flatten) := by
        rw [str_app, List.take_add_one (i := i), List.getElem?_eq_getElem (by omega), hxs, List.flatten_append]
        exact congrArg (fun l => Value.string (strOfNums ((qs.take i).flatten ++ l))) (List.append_nil _).symm
      have hb16 : (strOfNums (qs.take i).flatten).size + (strOfNums xs).size ≤ 9223372036854775807 := by
        rw [str_len, str_len]
        omega
      refine T_seq ?_
      refine T_region ?_
      refine TL_pure (d := (some 9)) rfl rfl rfl (PV_bin rfl rfl bin_lss) ?_
      refine TL_nil ?_
      refine T_seq ?_
      refine T_then rfl (by exact decide_eq_true (by omega)) ?_
      refine T_skip ?_
      refine T_seq ?_
      refine T_block ?_
      refine T_seq ?_
      refine T_region ?_
      refine TL_pure (d := (some 10)) rfl rfl rfl (PV_indexAddr Try.underlying69 sz58 rfl rfl rfl (by first | omega | decide | assumption)) ?_
      refine TL_pure (d := (some 11)) rfl rfl rfl (PV_loadAt Try.underlying58 rfl sz58 rfl hK) ?_
      refine TL_cons rfl (TO_alloc rfl zr58 fun g101 => ?_)
      refine TL_cons rfl (TO_store 0 rfl rfl rfl sz58 rfl rfl rfl (List.forall_mem_cons.2 ⟨by first | rfl, List.forall_mem_cons.2 ⟨by first | rfl, by simp⟩⟩) (by first | exact Nat.le_of_ble_eq_true rfl | (simp; done) | (simp; omega) | omega) ?_)
      refine TL_nil ?_
      refine T_region ?_
      refine TL_pure (d := (some 12)) rfl rfl rfl (PV_move rfl) ?_
      refine TL_pure (d := (some 13)) rfl rfl rfl (PV_fieldAddr (D := 1) Try.underlying58 rfl sz23 (by decide) rfl rfl) ?_
      refine TL_pure (d := (some 14)) rfl rfl rfl (PV_load Try.underlying23 rfl rfl (Rd.at 0 rfl rfl)) ?_
      refine TL_pure (d := (some 15)) rfl rfl rfl (PV_b2s Try.underlying23 Try.underlying5 Try.underlying9 rfl (Shows.mono hpS (fun w h => h.sub (by (repeat (first | exact List.Sublist.refl _ | exact List.sublist_append_right _ _ | exact List.sublist_append_left _ _ | apply List.Sublist.cons)); done)))) ?_
      refine TL_pure (d := (some 16)) rfl rfl rfl (PV.cast (PV_bin rfl rfl (bin_str_add (by first | exact hb16 | omega))) e16) ?_
      refine TL_pure (d := (some 3)) rfl rfl rfl (PV_assign rfl) ?_
      refine TL_nil ?_
      refine T_region ?_
      refine TL_pure (d := (some 17)) rfl rfl rfl (PV.cast (PV_bin rfl rfl bin_add) (wr64 (by omega))) ?_
      refine TL_pure (d := (some 8)) rfl rfl rfl (PV_move rfl) ?_
      refine TL_nil ?_
      refine ?L2
      case L2 =>
        exact ⟨i + 1, by omega, by omega, (by repeat (first | exact FrSub.nil _ | refine FrSub.cons rfl ?_)), (by repeat (first | exact List.Sublist.refl _ | exact List.sublist_append_right _ _ | exact List.sublist_append_left _ _ | apply List.Sublist.cons_cons | apply List.Sublist.cons))⟩
    · obtain rfl : i = m := by omega
      rw [List.take_of_length_le (by omega)]
      refine T_seq ?_
      refine T_region ?_
      refine TL_pure (d := (some 9)) rfl rfl rfl (PV_bin rfl rfl bin_lss) ?_
      refine TL_nil ?_
      refine T_seq ?_
      refine T_else rfl (by (simp; done)) ?_
      refine T_exit ?_
      refine T_seq ?_
      refine T_region ?_
      refine TL_pure (d := (some 18)) rfl rfl rfl (PV_move rfl) ?_
      refine TL_pure (d := (some 2)) rfl rfl rfl (PV_assign rfl) ?_
      refine TL_nil ?_
      refine T_ret ?_
      refine ret_ret (ResV_one rfl rfl) ⟨_, List.Sublist.refl _, ⟨rfl, rfl⟩⟩
theorem Rc.of_fit (a b number : Int) (crc close : Bool) (many : Int) (hn : 0 ≤ number ∧ number ≤ 255) : (Rc.of a b number crc close many).Fit 0 :=
  ⟨U8s.nil, Nat.zero_le _, Nat.zero_le _, by show (0 : Int) ≤ 0; decide, by show (0 : Int) ≤ ((0 : Nat) : Int); decide, hn.1, hn.2, by show (1 : Int) ≤ 1; decide, by show (1 : Int) ≤ 99; decide, by show 1 ≤ max 1 (min b 99); omega, by show max 1 (min b 99) ≤ 99; omega, by show 0 ≤ max 1 (min a 9); omega, by show max 1 (min a 9) ≤ 9; omega⟩
theorem start_fit {a b a' b' number many : Int} {qs : List (List Int)} {crc close : Bool} (hm : qs.length ≤ 65535) (hn : ∀ q ∈ qs, U8s q ∧ (q.length = 128 ∨ q.length = 1024)) (hnn : 0 ≤ number ∧ number ≤ 255) : (Lk.start (Sn.of a b qs crc close) (Rc.of a' b' number crc close many)).Fit qs :=
  ⟨Sn.of_fit hm hn, rfl, Rc.of_fit _ _ _ _ _ _ hnn, Nat.zero_le _, U8s.nil, Nat.zero_le _⟩
theorem nz_nil {W : World → Prop} : Shows W none 0 3 (nzCells []) := fun w hw => ⟨rfl, fun j v h => by simp [nzCells] at h⟩
theorem t80c {gs gr cs : Nat} {As : Option Addr} {qs : List (List Int)} {a b : Int} {crc : Bool} (hB : SBlk (WH w0 B X) As cs qs) (hb : 2 ≤ b) (hq : ∀ q ∈ qs, U8s q ∧ (q.length = 128 ∨ q.length = 1024)) (hm : qs.length ≤ 40) :
    TCall Try.prog w0 B 80 #[.pointer (some ⟨gs, 0, none⟩), .pointer (some ⟨gr, 0, none⟩), .slice none 0 0, .int .i64 50] (fun v H' => ∃ (A : Option Addr) (k : Nat), v = .agg #[.bool true, .nilIface, .nilIface, .slice A qs.flatten.length k, .int .i64 ((qs.length + 2 : Nat) : Int), .int .i64 ((qs.length + 1 : Nat) : Int)] ∧ qs.flatten.length ≤ k ∧ H' = byC A k qs.flatten :: X)
      (sC gs As cs (Sn.of a b qs crc true) :: rcC gr none 0 none 0 (Rc.of a b 1 crc true 1) :: byC none 0 [] :: byC none 0 [] :: X) := by
  obtain ⟨ct, w, t0, k, nb, bg, nm, he⟩ := clean_run (a := a) (number := 1) (crc := crc) hb (fun q hqm => (hq q hqm).2) (47 - qs.length)
  rw [show 47 - qs.length + qs.length + 3 = 50 by omega] at he
  have h := t80 (gs := gs) (gr := gr) (bA := none) (bc := 0) (dA := none) (dc := 0) (cn := 0) (Sn.of a b qs crc true) (Rc.of a b 1 crc true 1) 50 (start_fit (by omega) hq (by decide)) hB nz_nil rfl (by decide)
  rw [he] at h
  refine h.less ?_
  rintro v H' ⟨A, k', bA', bc', dA', dc', hv, hk, rfl⟩
  exact ⟨_, (by repeat (first | exact List.Sublist.refl _ | exact List.sublist_append_right _ _ | exact List.sublist_append_left _ _ | apply List.Sublist.cons_cons | apply List.Sublist.cons)), A, k', hv, hk, rfl⟩
theorem t79 : TCall Try.prog w0 B 79 #[] (fun r H' => r = .bool true ∧ H' = H) H := by
  have hq : ∀ q ∈ blksL [120] false 2, U8s q ∧ (q.length = 128 ∨ q.length = 1024) := blksL_num (by decide)
  have hl : (blksL [120] false 2).length = 2 := blksL_len _ _ _
  have hf : (blksL [120] false 2).flatten.length = 256 := by decide
  have hu : U8s [120] := U8s.one (by decide) (by decide)
  refine TCall_intro (args := []) Try.func79 rfl Try.ntmps79 (Nat.le_of_ble_eq_true rfl) ?_
  refine T_seq ?_
  refine T_region ?_
  refine TL_pure (d := (some 0)) rfl rfl rfl (PV_assign rfl) ?_
  refine TL_nil ?_
  refine T_seq ?_
  refine T_region ?_
  refine TL_pure (d := (some 4)) rfl rfl rfl (PV_bld (cs := [_, _]) Try.underlying79 pl79 zr79 rfl rfl) ?_
  refine TL_cons rfl (TO_bs (cs := [_]) Try.underlying23 zs5 (by decide) rfl rfl rfl rfl rfl rfl fun g1 => ?_)
  refine TL_cons rfl (TO_s2s 0 rfl rfl Try.underlying23 Try.underlying5 rfl rfl ?_)
  refine TL_cons rfl (TO_call0 call57 rfl rfl (t57 (l := [120]) 2 false (Shows.at 0 rfl) ?sd4q74_1 ?sd4q74_2 ?sd4q74_3 ?sd4q74_4 ?sd4q74_5) ?_)
  case sd4q74_1 => exact rfl
  case sd4q74_2 => omega
  case sd4q74_3 => omega
  case sd4q74_4 => exact hu
  case sd4q74_5 => omega
  rintro v7_5 H7_5 ⟨A'_5, c'_5, N_5, rfl, h_5_0, rfl⟩
  refine TL_cons rfl (TO_call0 call58 rfl rfl (t58 _ _ _ _ h_5_0 ?sd7q74_5 ?sd7q74_6 ?sd7q74_7) ?_)
  case sd7q74_5 => omega
  case sd7q74_6 => decide
  case sd7q74_7 => with_reducible assumption
  rintro v8_8 H8_8 ⟨g_8, A'_8, c'_8, N_8, rfl, h_8_0, rfl⟩
  refine TL_pure (d := (some 1)) rfl rfl rfl (PV_assign rfl) ?_
  refine TL_nil ?_
  refine T_seq ?_
  refine T_region ?_
  refine TL_pure (d := (some 9)) rfl rfl rfl (PV_bld (cs := [_, _]) Try.underlying79 pl79 zr79 rfl rfl) ?_
  refine TL_cons rfl (TO_call0 call69 rfl rfl (t69 _ _ _ _ _ _) ?_)
  rintro v10_11 H10_11 ⟨g_11, rfl, rfl⟩
  refine TL_pure (d := (some 2)) rfl rfl rfl (PV_assign rfl) ?_
  refine TL_nil ?_
  refine T_seq ?_
  refine T_seq ?_
  refine T_region ?_
  refine TL_pure (d := (some 11)) rfl rfl rfl (PV_move rfl) ?_
  refine TL_pure (d := (some 12)) rfl rfl rfl (PV_bin rfl rfl (bin_ptr_nil Try.underlying76)) ?_
  refine TL_pure (d := (some 13)) rfl rfl rfl (PV_move rfl) ?_
  refine TL_yes rfl rfl rfl (TO_pure rfl (PV_move rfl) ?_)
  refine TL_yes rfl rfl rfl (TO_pure rfl (PV_bin rfl rfl (bin_ptr_nil Try.underlying95)) ?_)
  refine TL_pure (d := (some 16)) rfl rfl rfl (PV_pickOr rfl rfl rfl) ?_
  refine TL_nil ?_
  refine T_else rfl (by rfl) ?_
  refine T_skip ?_
  refine T_seq ?_
  refine T_region ?_
  refine TL_pure (d := (some 17)) rfl rfl rfl (PV_move rfl) ?_
  refine TL_pure (d := (some 18)) rfl rfl rfl (PV_move rfl) ?_
  refine TL_perm ((perm_pick (i := 3) rfl).trans (List.Perm.cons _ ((perm_pick (i := 0) rfl).trans (List.Perm.cons _ ((perm_pick (i := 0) rfl).trans (List.Perm.cons _ ((perm_pick (i := 0) rfl).trans (List.Perm.cons _ (List.Perm.refl _))))))))) ?_
  refine TL_cons rfl (TO_call0 call80 rfl rfl (t80c ?sd13q74_0 ?sd13q74_1 ?sd13q74_2 ?sd13q74_3) ?_)
  case sd13q74_0 => exact h_8_0
  case sd13q74_1 => omega
  case sd13q74_2 => with_reducible assumption
  case sd13q74_3 => decide
  rintro v19_14 H19_14 ⟨A_14, k_14, rfl, h_14_0, rfl⟩
  refine TL_cons rfl (TO_alloc rfl zr116 fun g15 => ?_)
  refine TL_cons rfl (TO_store 0 rfl rfl rfl sz116 rfl rfl rfl (List.forall_mem_cons.2 ⟨by first | rfl, List.forall_mem_cons.2 ⟨by first | rfl, List.forall_mem_cons.2 ⟨by first | rfl, List.forall_mem_cons.2 ⟨by first | rfl, List.forall_mem_cons.2 ⟨by first | rfl, List.forall_mem_cons.2 ⟨by first | rfl, by simp⟩⟩⟩⟩⟩⟩) (by first | exact Nat.le_of_ble_eq_true rfl | (simp; done) | (simp; omega) | omega) ?_)
  refine TL_nil ?_
  refine T_seq ?_
  refine T_region ?_
  refine TL_pure (d := (some 20)) rfl rfl rfl (PV_fieldAddr (D := 0) Try.underlying116 rfl sz4 (by decide) rfl rfl) ?_
  refine TL_pure (d := (some 21)) rfl rfl rfl (PV_load Try.underlying4 rfl rfl (Rd.at 0 rfl rfl)) ?_
  refine TL_pure (d := (some 22)) rfl rfl rfl (PV_move rfl) ?_
  refine TL_yes rfl rfl rfl (TO_pure rfl (PV_fieldAddr (D := 1) Try.underlying116 rfl sz83 (by decide) rfl rfl) ?_)
  refine TL_yes rfl rfl rfl (TO_pure rfl (PV_load Try.underlying83 rfl rfl (Rd.at 0 rfl rfl)) ?_)
  refine TL_yes rfl rfl rfl (TO_pure rfl (PV_bin rfl rfl (bin_nil_nil Try.underlying83)) ?_)
  refine TL_pure (d := (some 26)) rfl rfl rfl (PV_pickAnd rfl rfl rfl) ?_
  refine TL_pure (d := (some 27)) rfl rfl rfl (PV_move rfl) ?_
  refine TL_yes rfl rfl rfl (TO_pure rfl (PV_fieldAddr (D := 2) Try.underlying116 rfl sz83 (by decide) rfl rfl) ?_)
  refine TL_yes rfl rfl rfl (TO_pure rfl (PV_load Try.underlying83 rfl rfl (Rd.at 0 rfl rfl)) ?_)
  refine TL_yes rfl rfl rfl (TO_pure rfl (PV_bin rfl rfl (bin_nil_nil Try.underlying83)) ?_)
  refine TL_pure (d := (some 31)) rfl rfl rfl (PV_pickAnd rfl rfl rfl) ?_
  refine TL_pure (d := (some 32)) rfl rfl rfl (PV_move rfl) ?_
  refine TL_yes rfl rfl rfl (TO_pure rfl (PV_fieldAddr (D := 3) Try.underlying116 rfl sz23 (by decide) rfl rfl) ?_)
  refine TL_yes rfl rfl rfl (TO_pure rfl (PV_load Try.underlying23 rfl rfl (Rd.at 0 rfl rfl)) ?_)
  refine TL_yes rfl rfl rfl (TO_pure rfl (PV_len_slice Try.underlying23 rfl) ?_)
  refine TL_yes rfl rfl rfl (TO_pure rfl (PV_bin rfl rfl bin_eql) ?_)
  refine TL_pure (d := (some 37)) rfl rfl rfl (PV_pickAnd rfl rfl rfl) ?_
  refine TL_pure (d := (some 38)) rfl rfl rfl (PV_move rfl) ?_
  refine TL_yes rfl rfl rfl (TO_pure rfl (PV_fieldAddr (D := 5) Try.underlying116 rfl sz3 (by decide) rfl rfl) ?_)
  refine TL_yes rfl rfl rfl (TO_pure rfl (PV_load Try.underlying3 rfl rfl (Rd.at 0 rfl rfl)) ?_)
  refine TL_yes rfl rfl rfl (TO_pure rfl (PV_bin rfl rfl bin_eql) ?_)
  refine TL_pure (d := (some 42)) rfl rfl rfl (PV_pickAnd rfl rfl rfl) ?_
  refine TL_pure (d := (some 0)) rfl rfl rfl (PV_assign rfl) ?_
  refine TL_nil ?_
  refine ?L1
  case L1 =>
    refine T_ret ?_
    refine ret_ret (ResV_one rfl rfl) ⟨H, ?_, ?_, rfl⟩
    · exact List.Sublist.cons _ (List.Sublist.cons _ (List.Sublist.cons _ ((List.sublist_append_left _ _).trans (List.sublist_append_left _ _))))
    · rw [show (2 % 5 : Nat) = 2 from rfl, hf, hl]
      rfl
/-- how long one waits -/
def waitL (b : Int) : Int := 2 + Int.tmod (Int.tmod b 5 + 5) 5
theorem tmod5 (b : Int) : 0 ≤ Int.tmod (Int.tmod b 5 + 5) 5 ∧ Int.tmod (Int.tmod b 5 + 5) 5 < 5 ∧ -5 < Int.tmod b 5 ∧ Int.tmod b 5 < 5 := by
  have h1 := Int.tmod_lt_of_pos b (show (0 : Int) < 5 by decide)
  have h2 : -5 < Int.tmod b 5 := by
    have := Int.tmod_lt_of_pos (-b) (show (0 : Int) < 5 by decide)
    rw [Int.neg_tmod] at this
    omega
  exact ⟨Int.tmod_nonneg _ (by omega), Int.tmod_lt_of_pos _ (by decide), h2, h1⟩
theorem LinkClean_t {A : Option Addr} {m c : Nat} {l : List Int} (a b : Int) (mn : Nat) (long crc : Bool) (hS : Shows (WH w0 B H) A m 1 (nums .u8 l)) (hlm : l.length = m) (hl : m ≤ 9223372036854775807) (hc : m ≤ c) (hu : U8s l) (hmn : mn ≤ 255) :
    TCall Try.prog w0 B 29 #[.agg #[.int .i64 a, .int .i64 b], .slice A m c, .int .u8 (mn : Int), .bool long, .bool crc] (fun r H' => r = .bool true ∧ H' = H) H := by
  have hq : ∀ q ∈ blksL l long (mn % 5), U8s q ∧ (q.length = 128 ∨ q.length = 1024) := blksL_num (by omega)
  have hln : (blksL l long (mn % 5)).length = mn % 5 := blksL_len _ _ _
  have hfl := flat_le (blksL l long (mn % 5)) (fun q hqm => by have := (hq q hqm).2; omega)
  obtain ⟨t1, t2, t3, t4⟩ := tmod5 b
  have hw : 2 ≤ waitL b := by unfold waitL; omega
  have e18 : Value.int .i64 (IntKind.i64.wrap (Int.tmod b 5 + 5)) = .int .i64 (Int.tmod b 5 + 5) := wr64 (by omega)
  have e20 : Value.int .i64 (IntKind.i64.wrap (2 + Int.tmod (Int.tmod b 5 + 5) 5)) = .int .i64 (waitL b) := wr64 (by omega)
  refine TCall_intro (args := [_, _, _, _, _]) Try.func29 rfl Try.ntmps29 (Nat.le_of_ble_eq_true rfl) ?_
  refine T_seq ?_
  refine T_region ?_
  refine TL_cons rfl (TO_box rfl rfl fun g1 => ?_)
  refine TL_pure (d := (some 10)) rfl rfl rfl (PV_assign rfl) ?_
  refine TL_nil ?_
  refine T_seq ?_
  refine T_seq ?_
  refine T_region ?_
  refine TL_cons rfl (TO_call0 call79 rfl rfl (t79) ?_)
  rintro v13_4 H13_4 ⟨rfl, rfl⟩
  refine TL_pure (d := (some 14)) rfl rfl rfl (PV_not rfl) ?_
  refine TL_nil ?_
  refine T_else rfl (by rfl) ?_
  refine T_skip ?_
  refine T_seq ?_
  refine T_region ?_
  refine TL_pure (d := (some 15)) rfl rfl rfl (PV_fieldAddr (D := 1) Try.underlying79 rfl sz3 (by decide) rfl rfl) ?_
  refine TL_pure (d := (some 16)) rfl rfl rfl (PV_load Try.underlying3 rfl rfl (Rd.at 0 rfl rfl)) ?_
  refine TL_pure (d := (some 17)) rfl rfl rfl (PV_bin rfl rfl (bin_rem (by decide))) ?_
  refine TL_pure (d := (some 18)) rfl rfl rfl (PV.cast (PV_bin rfl rfl bin_add) e18) ?_
  refine TL_pure (d := (some 19)) rfl rfl rfl (PV_bin rfl rfl (bin_rem (by decide))) ?_
  refine TL_pure (d := (some 20)) rfl rfl rfl (PV.cast (PV_bin rfl rfl bin_add) e20) ?_
  refine TL_pure (d := (some 21)) rfl rfl rfl (PV_fieldAddr (D := 1) Try.underlying79 rfl sz3 (by decide) rfl rfl) ?_
  refine TL_cons rfl (TO_store1 0 rfl rfl rfl sz3 rfl rfl rfl (by first | exact Nat.le_of_ble_eq_true rfl | (simp; done) | (simp; omega) | omega) ?_)
  refine TL_nil ?_
  refine T_seq ?_
  refine T_region ?_
  refine TL_pure (d := (some 22)) rfl rfl rfl (PV_move rfl) ?_
  refine TL_pure (d := (some 23)) rfl rfl rfl (PV_move rfl) ?_
  refine TL_pure (d := (some 24)) rfl rfl rfl (PV_move rfl) ?_
  refine TL_cons rfl (TO_call0 call57 rfl rfl (t57 mn long (Shows.mono hS (fun w h => h.sub (by (repeat (first | exact List.Sublist.refl _ | exact List.sublist_append_right _ _ | exact List.sublist_append_left _ _ | apply List.Sublist.cons)); done))) ?sd7q102_1 ?sd7q102_2 ?sd7q102_3 ?sd7q102_4 ?sd7q102_5) ?_)
  case sd7q102_1 => omega
  case sd7q102_2 => exact hl
  case sd7q102_3 => exact hc
  case sd7q102_4 => exact hu
  case sd7q102_5 => exact hmn
  rintro v25_8 H25_8 ⟨A'_8, c'_8, N_8, rfl, h_8_0, rfl⟩
  refine TL_pure (d := (some 11)) rfl rfl rfl (PV_assign rfl) ?_
  refine TL_nil ?_
  refine T_seq ?_
  refine T_drawn (WH _ _ _) mixed (fun w h => h) ?_
  refine TA_take (dd := (some 26)) 0 rfl (by kernel_rfl) (by kernel_rfl) (by kernel_rfl) rfl rfl rfl (PV_loadAt Try.underlying79 rfl sz79 rfl (Rds.take 0 rfl rfl rfl)) ?_
  refine TA_take (dd := (some 27)) 1 rfl (by kernel_rfl) (by kernel_rfl) (by kernel_rfl) rfl rfl rfl (PV_move rfl) ?_
  refine TA_take (dd := (some 28)) 2 rfl (by kernel_rfl) (by kernel_rfl) (by kernel_rfl) rfl rfl rfl (PV_move rfl) ?_
  refine TA_take (dd := (some 30)) 4 rfl (by kernel_rfl) (by kernel_rfl) (by kernel_rfl) rfl rfl rfl (PV_loadAt Try.underlying79 rfl sz79 rfl (Rds.take 0 rfl rfl rfl)) ?_
  refine TA_take (dd := (some 31)) 5 rfl (by kernel_rfl) (by kernel_rfl) (by kernel_rfl) rfl rfl rfl (PV_move rfl) ?_
  refine TA_hardG (rs := [3, 8]) (by kernel_rfl) (by decide) ?_
  refine List.forall_mem_cons.2 ⟨?w9q102_3, List.forall_mem_cons.2 ⟨?w9q102_8, by simp⟩⟩
  refine ⟨_, rfl, Or.inl rfl, (TO_call0 call58 rfl rfl (t58 _ _ _ _ h_8_0 ?sd12q102_5 ?sd12q102_6 ?sd12q102_7) ?_)⟩
  case sd12q102_5 => omega
  case sd12q102_6 => omega
  case sd12q102_7 => with_reducible assumption
  rintro v29_13 H29_13 ⟨g_13, A'_13, c'_13, N_13, rfl, h_13_0, rfl⟩
  refine ⟨by intro w h; first | exact h | exact trivial | (refine WH.sub h ?_; (repeat (first | exact List.Sublist.refl _ | exact List.sublist_append_right _ _ | exact List.sublist_append_left _ _ | apply List.Sublist.cons)); done) | (refine WH.sub h ?_; (repeat (first | exact List.Sublist.refl _ | exact List.sublist_append_right _ _ | exact List.sublist_append_left _ _ | apply List.Sublist.cons_cons | apply List.Sublist.cons)); done), ?_⟩
  refine TA_hardG (rs := [6, 8]) (by kernel_rfl) (by decide) ?_
  refine List.forall_mem_cons.2 ⟨?w14q102_6, List.forall_mem_cons.2 ⟨?w14q102_8, by simp⟩⟩
  refine ⟨_, rfl, Or.inl rfl, (TO_call0 call69 rfl rfl (t69 _ _ _ _ _ _) ?_)⟩
  rintro v32_18 H32_18 ⟨g_18, rfl, rfl⟩
  refine ⟨by intro w h; first | exact h | exact trivial | (refine WH.sub h ?_; (repeat (first | exact List.Sublist.refl _ | exact List.sublist_append_right _ _ | exact List.sublist_append_left _ _ | apply List.Sublist.cons)); done) | (refine WH.sub h ?_; (repeat (first | exact List.Sublist.refl _ | exact List.sublist_append_right _ _ | exact List.sublist_append_left _ _ | apply List.Sublist.cons_cons | apply List.Sublist.cons)); done), ?_⟩
  refine TA_hardG (rs := [7, 8]) (by kernel_rfl) (by decide) ?_
  refine List.forall_mem_cons.2 ⟨?w19q102_7, List.forall_mem_cons.2 ⟨?w19q102_8, by simp⟩⟩
  refine ⟨_, rfl, Or.inl rfl, TO_perm ((perm_pick (i := 3) rfl).trans (List.Perm.cons _ ((perm_pick (i := 0) rfl).trans (List.Perm.cons _ ((perm_pick (i := 0) rfl).trans (List.Perm.cons _ ((perm_pick (i := 0) rfl).trans (List.Perm.cons _ (List.Perm.refl _))))))))) (TO_call0 call80 rfl rfl (t80c ?sd22q102_0 ?sd22q102_1 ?sd22q102_2 ?sd22q102_3) ?_)⟩
  case sd22q102_0 => exact h_13_0
  case sd22q102_1 => exact hw
  case sd22q102_2 => with_reducible assumption
  case sd22q102_3 => omega
  rintro v33_23 H33_23 ⟨A_23, k_23, rfl, h_23_0, rfl⟩
  refine ⟨by intro w h; first | exact h | exact trivial | (refine WH.sub h ?_; (repeat (first | exact List.Sublist.refl _ | exact List.sublist_append_right _ _ | exact List.sublist_append_left _ _ | apply List.Sublist.cons)); done) | (refine WH.sub h ?_; (repeat (first | exact List.Sublist.refl _ | exact List.sublist_append_right _ _ | exact List.sublist_append_left _ _ | apply List.Sublist.cons_cons | apply List.Sublist.cons)); done), ?_⟩
  refine TA_one 8 (by kernel_rfl) rfl rfl (TO_alloc rfl zr116 fun g24 => ?_)
  refine ⟨by intro w h; first | exact h | exact trivial | (refine WH.sub h ?_; (repeat (first | exact List.Sublist.refl _ | exact List.sublist_append_right _ _ | exact List.sublist_append_left _ _ | apply List.Sublist.cons)); done) | (refine WH.sub h ?_; (repeat (first | exact List.Sublist.refl _ | exact List.sublist_append_right _ _ | exact List.sublist_append_left _ _ | apply List.Sublist.cons_cons | apply List.Sublist.cons)); done), ?_⟩
  refine TA_one 9 (by kernel_rfl) rfl rfl (TO_store 0 rfl rfl rfl sz116 rfl rfl rfl (List.forall_mem_cons.2 ⟨by first | rfl, List.forall_mem_cons.2 ⟨by first | rfl, List.forall_mem_cons.2 ⟨by first | rfl, List.forall_mem_cons.2 ⟨by first | rfl, List.forall_mem_cons.2 ⟨by first | rfl, List.forall_mem_cons.2 ⟨by first | rfl, by simp⟩⟩⟩⟩⟩⟩) (by first | exact Nat.le_of_ble_eq_true rfl | (simp; done) | (simp; omega) | omega) ?_)
  refine ⟨by intro w h; first | exact h | exact trivial | (refine WH.sub h ?_; (repeat (first | exact List.Sublist.refl _ | exact List.sublist_append_right _ _ | exact List.sublist_append_left _ _ | apply List.Sublist.cons)); done) | (refine WH.sub h ?_; (repeat (first | exact List.Sublist.refl _ | exact List.sublist_append_right _ _ | exact List.sublist_append_left _ _ | apply List.Sublist.cons_cons | apply List.Sublist.cons)); done), ?_⟩
  refine TA_done (by kernel_rfl) ?_
  refine T_seq ?_
  refine T_drawn (WH _ _ _) mixed (fun w h => h) ?_
  refine TA_take (dd := (some 34)) 0 rfl (by kernel_rfl) (by kernel_rfl) (by kernel_rfl) rfl rfl rfl (PV_fieldAddr (D := 0) Try.underlying116 rfl sz4 (by decide) rfl rfl) ?_
  refine TA_take (dd := (some 35)) 1 rfl (by kernel_rfl) (by kernel_rfl) (by kernel_rfl) rfl rfl rfl (PV_load Try.underlying4 rfl rfl (Rd.at 0 rfl rfl)) ?_
  refine TA_take (dd := (some 36)) 2 rfl (by kernel_rfl) (by kernel_rfl) (by kernel_rfl) rfl rfl rfl (PV_move rfl) ?_
  refine TA_yes (dd := (some 37)) 3 rfl (by kernel_rfl) (by kernel_rfl) (by kernel_rfl) rfl rfl rfl rfl rfl (PV_fieldAddr (D := 1) Try.underlying116 rfl sz83 (by decide) rfl rfl) ?_
  refine TA_yes (dd := (some 38)) 4 rfl (by kernel_rfl) (by kernel_rfl) (by kernel_rfl) rfl rfl rfl rfl rfl (PV_load Try.underlying83 rfl rfl (Rd.at 0 rfl rfl)) ?_
  refine TA_yes (dd := (some 39)) 5 rfl (by kernel_rfl) (by kernel_rfl) (by kernel_rfl) rfl rfl rfl rfl rfl (PV_bin rfl rfl (bin_nil_nil Try.underlying83)) ?_
  refine TA_take (dd := (some 40)) 6 rfl (by kernel_rfl) (by kernel_rfl) (by kernel_rfl) rfl rfl rfl (PV_pickAnd rfl rfl rfl) ?_
  refine TA_take (dd := (some 41)) 7 rfl (by kernel_rfl) (by kernel_rfl) (by kernel_rfl) rfl rfl rfl (PV_move rfl) ?_
  refine TA_yes (dd := (some 42)) 8 rfl (by kernel_rfl) (by kernel_rfl) (by kernel_rfl) rfl rfl rfl rfl rfl (PV_fieldAddr (D := 2) Try.underlying116 rfl sz83 (by decide) rfl rfl) ?_
  refine TA_yes (dd := (some 43)) 9 rfl (by kernel_rfl) (by kernel_rfl) (by kernel_rfl) rfl rfl rfl rfl rfl (PV_load Try.underlying83 rfl rfl (Rd.at 0 rfl rfl)) ?_
  refine TA_yes (dd := (some 44)) 10 rfl (by kernel_rfl) (by kernel_rfl) (by kernel_rfl) rfl rfl rfl rfl rfl (PV_bin rfl rfl (bin_nil_nil Try.underlying83)) ?_
  refine TA_take (dd := (some 45)) 11 rfl (by kernel_rfl) (by kernel_rfl) (by kernel_rfl) rfl rfl rfl (PV_pickAnd rfl rfl rfl) ?_
  refine TA_take (dd := (some 46)) 12 rfl (by kernel_rfl) (by kernel_rfl) (by kernel_rfl) rfl rfl rfl (PV_move rfl) ?_
  refine TA_yes (dd := (some 47)) 13 rfl (by kernel_rfl) (by kernel_rfl) (by kernel_rfl) rfl rfl rfl rfl rfl (PV_fieldAddr (D := 3) Try.underlying116 rfl sz23 (by decide) rfl rfl) ?_
  refine TA_yes (dd := (some 48)) 14 rfl (by kernel_rfl) (by kernel_rfl) (by kernel_rfl) rfl rfl rfl rfl rfl (PV_load Try.underlying23 rfl rfl (Rd.at 0 rfl rfl)) ?_
  refine TA_yes (dd := (some 49)) 15 rfl (by kernel_rfl) (by kernel_rfl) (by kernel_rfl) rfl rfl rfl rfl rfl (PV_b2s Try.underlying23 Try.underlying5 Try.underlying9 rfl (Shows.at 1 rfl)) ?_
  refine TA_yes (dd := (some 50)) 16 rfl (by kernel_rfl) (by kernel_rfl) (by kernel_rfl) rfl rfl rfl rfl rfl (PV_move rfl) ?_
  refine TA_oneYes 17 (by kernel_rfl) rfl rfl rfl rfl (TO_call0 call84 rfl rfl (t84 ?sd27q102_0 hln ?sd27q102_2 ?sd27q102_3) ?_)
  case sd27q102_0 => exact SBlk.mono h_8_0 (fun w h => h.sub (by (repeat (first | exact List.Sublist.refl _ | exact List.sublist_append_right _ _ | exact List.sublist_append_left _ _ | apply List.Sublist.cons)); done))
  case sd27q102_2 => omega
  case sd27q102_3 => with_reducible assumption
  rintro v51_28 H51_28 ⟨rfl, rfl⟩
  refine ⟨by intro w h; first | exact h | exact trivial | (refine WH.sub h ?_; (repeat (first | exact List.Sublist.refl _ | exact List.sublist_append_right _ _ | exact List.sublist_append_left _ _ | apply List.Sublist.cons)); done) | (refine WH.sub h ?_; (repeat (first | exact List.Sublist.refl _ | exact List.sublist_append_right _ _ | exact List.sublist_append_left _ _ | apply List.Sublist.cons_cons | apply List.Sublist.cons)); done), ?_⟩
  refine TA_yes (dd := (some 52)) 18 rfl (by kernel_rfl) (by kernel_rfl) (by kernel_rfl) rfl rfl rfl rfl rfl (PV_bin rfl rfl bin_str_eql) ?_
  refine TA_take (dd := (some 53)) 19 rfl (by kernel_rfl) (by kernel_rfl) (by kernel_rfl) rfl rfl rfl (PV_pickAnd rfl rfl rfl) ?_
  refine TA_take (dd := (some 54)) 20 rfl (by kernel_rfl) (by kernel_rfl) (by kernel_rfl) rfl rfl rfl (PV_move rfl) ?_
  refine TA_yes (dd := (some 55)) 21 rfl (by kernel_rfl) (by kernel_rfl) (by kernel_rfl) rfl rfl (gtrue (by (simp; done))) rfl rfl (PV_fieldAddr (D := 5) Try.underlying116 rfl sz3 (by decide) rfl rfl) ?_
  refine TA_yes (dd := (some 56)) 22 rfl (by kernel_rfl) (by kernel_rfl) (by kernel_rfl) rfl rfl (gtrue (by (simp; done))) rfl rfl (PV_load Try.underlying3 rfl rfl (Rd.at 0 rfl rfl)) ?_
  refine TA_yes (dd := (some 57)) 23 rfl (by kernel_rfl) (by kernel_rfl) (by kernel_rfl) rfl rfl (gtrue (by (simp; done))) rfl rfl (PV_move rfl) ?_
  refine TA_yes (dd := (some 58)) 24 rfl (by kernel_rfl) (by kernel_rfl) (by kernel_rfl) rfl rfl (gtrue (by (simp; done))) rfl rfl (PV_len_slice Try.underlying69 rfl) ?_
  refine TA_yes (dd := (some 59)) 25 rfl (by kernel_rfl) (by kernel_rfl) (by kernel_rfl) rfl rfl (gtrue (by (simp; done))) rfl rfl (PV.cast (PV_bin rfl rfl bin_add) (wr64 (by omega))) ?_
  refine TA_yes (dd := (some 60)) 26 rfl (by kernel_rfl) (by kernel_rfl) (by kernel_rfl) rfl rfl (gtrue (by (simp; done))) rfl rfl (PV_bin rfl rfl bin_eql) ?_
  refine TA_take (dd := (some 61)) 27 rfl (by kernel_rfl) (by kernel_rfl) (by kernel_rfl) rfl rfl rfl (PV_pickAnd rfl rfl rfl) ?_
  refine TA_take (dd := (some 62)) 28 rfl (by kernel_rfl) (by kernel_rfl) (by kernel_rfl) rfl rfl rfl (PV_move rfl) ?_
  refine TA_yes (dd := (some 63)) 29 rfl (by kernel_rfl) (by kernel_rfl) (by kernel_rfl) rfl rfl (gtrue (by (simp; omega))) rfl rfl (PV_fieldAddr (D := 4) Try.underlying116 rfl sz3 (by decide) rfl rfl) ?_
  refine TA_yes (dd := (some 64)) 30 rfl (by kernel_rfl) (by kernel_rfl) (by kernel_rfl) rfl rfl (gtrue (by (simp; omega))) rfl rfl (PV_load Try.underlying3 rfl rfl (Rd.at 0 rfl rfl)) ?_
  refine TA_yes (dd := (some 65)) 31 rfl (by kernel_rfl) (by kernel_rfl) (by kernel_rfl) rfl rfl (gtrue (by (simp; omega))) rfl rfl (PV_move rfl) ?_
  refine TA_yes (dd := (some 66)) 32 rfl (by kernel_rfl) (by kernel_rfl) (by kernel_rfl) rfl rfl (gtrue (by (simp; omega))) rfl rfl (PV_len_slice Try.underlying69 rfl) ?_
  refine TA_yes (dd := (some 67)) 33 rfl (by kernel_rfl) (by kernel_rfl) (by kernel_rfl) rfl rfl (gtrue (by (simp; omega))) rfl rfl (PV.cast (PV_bin rfl rfl bin_add) (wr64 (by omega))) ?_
  refine TA_yes (dd := (some 68)) 34 rfl (by kernel_rfl) (by kernel_rfl) (by kernel_rfl) rfl rfl (gtrue (by (simp; omega))) rfl rfl (PV_bin rfl rfl bin_eql) ?_
  refine TA_take (dd := (some 69)) 35 rfl (by kernel_rfl) (by kernel_rfl) (by kernel_rfl) rfl rfl rfl (PV_pickAnd rfl rfl rfl) ?_
  refine TA_take (dd := (some 10)) 36 rfl (by kernel_rfl) (by kernel_rfl) (by kernel_rfl) rfl rfl rfl (PV_assign rfl) ?_
  refine TA_done (by kernel_rfl) ?_
  refine ?L1
  rotate_left 1
  refine ⟨_, rfl, Or.inl rfl, (TO_alloc rfl zr116 fun g21 => ?_)⟩
  refine ⟨by intro w h; first | exact h | exact trivial | (refine WH.sub h ?_; (repeat (first | exact List.Sublist.refl _ | exact List.sublist_append_right _ _ | exact List.sublist_append_left _ _ | apply List.Sublist.cons)); done) | (refine WH.sub h ?_; (repeat (first | exact List.Sublist.refl _ | exact List.sublist_append_right _ _ | exact List.sublist_append_left _ _ | apply List.Sublist.cons_cons | apply List.Sublist.cons)); done), ?_⟩
  refine TA_perm ((perm_pick (i := 4) rfl).trans (List.Perm.cons _ ((perm_pick (i := 1) rfl).trans (List.Perm.cons _ ((perm_pick (i := 1) rfl).trans (List.Perm.cons _ ((perm_pick (i := 1) rfl).trans (List.Perm.cons _ (List.Perm.refl _))))))))) ?_
  refine TA_one 7 (by kernel_rfl) rfl rfl (TO_call0 call80 rfl rfl (t80c ?sd30q102_0 ?sd30q102_1 ?sd30q102_2 ?sd30q102_3) ?_)
  case sd30q102_0 => exact SBlk.mono h_13_0 (fun w h => h.sub (by (repeat (first | exact List.Sublist.refl _ | exact List.sublist_append_right _ _ | exact List.sublist_append_left _ _ | apply List.Sublist.cons)); done))
  case sd30q102_1 => exact hw
  case sd30q102_2 => with_reducible assumption
  case sd30q102_3 => omega
  rintro v33_31 H33_31 ⟨A_31, k_31, rfl, h_31_0, rfl⟩
  refine ⟨by intro w h; first | exact h | exact trivial | (refine WH.sub h ?_; (repeat (first | exact List.Sublist.refl _ | exact List.sublist_append_right _ _ | exact List.sublist_append_left _ _ | apply List.Sublist.cons)); done) | (refine WH.sub h ?_; (repeat (first | exact List.Sublist.refl _ | exact List.sublist_append_right _ _ | exact List.sublist_append_left _ _ | apply List.Sublist.cons_cons | apply List.Sublist.cons)); done), ?_⟩
  refine TA_one 9 (by kernel_rfl) rfl rfl (TO_store 1 rfl rfl rfl sz116 rfl rfl rfl (List.forall_mem_cons.2 ⟨by first | rfl, List.forall_mem_cons.2 ⟨by first | rfl, List.forall_mem_cons.2 ⟨by first | rfl, List.forall_mem_cons.2 ⟨by first | rfl, List.forall_mem_cons.2 ⟨by first | rfl, List.forall_mem_cons.2 ⟨by first | rfl, by simp⟩⟩⟩⟩⟩⟩) (by first | exact Nat.le_of_ble_eq_true rfl | (simp; done) | (simp; omega) | omega) ?_)
  refine ⟨by intro w h; first | exact h | exact trivial | (refine WH.sub h ?_; (repeat (first | exact List.Sublist.refl _ | exact List.sublist_append_right _ _ | exact List.sublist_append_left _ _ | apply List.Sublist.cons)); done) | (refine WH.sub h ?_; (repeat (first | exact List.Sublist.refl _ | exact List.sublist_append_right _ _ | exact List.sublist_append_left _ _ | apply List.Sublist.cons_cons | apply List.Sublist.cons)); done), ?_⟩
  refine TA_done (by kernel_rfl) ?_
  refine T_seq ?_
  refine T_drawn (WH _ _ _) mixed (fun w h => h) ?_
  refine TA_take (dd := (some 34)) 0 rfl (by kernel_rfl) (by kernel_rfl) (by kernel_rfl) rfl rfl rfl (PV_fieldAddr (D := 0) Try.underlying116 rfl sz4 (by decide) rfl rfl) ?_
  refine TA_take (dd := (some 35)) 1 rfl (by kernel_rfl) (by kernel_rfl) (by kernel_rfl) rfl rfl rfl (PV_load Try.underlying4 rfl rfl (Rd.at 1 rfl rfl)) ?_
  refine TA_take (dd := (some 36)) 2 rfl (by kernel_rfl) (by kernel_rfl) (by kernel_rfl) rfl rfl rfl (PV_move rfl) ?_
  refine TA_yes (dd := (some 37)) 3 rfl (by kernel_rfl) (by kernel_rfl) (by kernel_rfl) rfl rfl rfl rfl rfl (PV_fieldAddr (D := 1) Try.underlying116 rfl sz83 (by decide) rfl rfl) ?_
  refine TA_yes (dd := (some 38)) 4 rfl (by kernel_rfl) (by kernel_rfl) (by kernel_rfl) rfl rfl rfl rfl rfl (PV_load Try.underlying83 rfl rfl (Rd.at 1 rfl rfl)) ?_
  refine TA_yes (dd := (some 39)) 5 rfl (by kernel_rfl) (by kernel_rfl) (by kernel_rfl) rfl rfl rfl rfl rfl (PV_bin rfl rfl (bin_nil_nil Try.underlying83)) ?_
  refine TA_take (dd := (some 40)) 6 rfl (by kernel_rfl) (by kernel_rfl) (by kernel_rfl) rfl rfl rfl (PV_pickAnd rfl rfl rfl) ?_
  refine TA_take (dd := (some 41)) 7 rfl (by kernel_rfl) (by kernel_rfl) (by kernel_rfl) rfl rfl rfl (PV_move rfl) ?_
  refine TA_yes (dd := (some 42)) 8 rfl (by kernel_rfl) (by kernel_rfl) (by kernel_rfl) rfl rfl rfl rfl rfl (PV_fieldAddr (D := 2) Try.underlying116 rfl sz83 (by decide) rfl rfl) ?_
  refine TA_yes (dd := (some 43)) 9 rfl (by kernel_rfl) (by kernel_rfl) (by kernel_rfl) rfl rfl rfl rfl rfl (PV_load Try.underlying83 rfl rfl (Rd.at 1 rfl rfl)) ?_
  refine TA_yes (dd := (some 44)) 10 rfl (by kernel_rfl) (by kernel_rfl) (by kernel_rfl) rfl rfl rfl rfl rfl (PV_bin rfl rfl (bin_nil_nil Try.underlying83)) ?_
  refine TA_take (dd := (some 45)) 11 rfl (by kernel_rfl) (by kernel_rfl) (by kernel_rfl) rfl rfl rfl (PV_pickAnd rfl rfl rfl) ?_
  refine TA_take (dd := (some 46)) 12 rfl (by kernel_rfl) (by kernel_rfl) (by kernel_rfl) rfl rfl rfl (PV_move rfl) ?_
  refine TA_yes (dd := (some 47)) 13 rfl (by kernel_rfl) (by kernel_rfl) (by kernel_rfl) rfl rfl rfl rfl rfl (PV_fieldAddr (D := 3) Try.underlying116 rfl sz23 (by decide) rfl rfl) ?_
  refine TA_yes (dd := (some 48)) 14 rfl (by kernel_rfl) (by kernel_rfl) (by kernel_rfl) rfl rfl rfl rfl rfl (PV_load Try.underlying23 rfl rfl (Rd.at 1 rfl rfl)) ?_
  refine TA_yes (dd := (some 49)) 15 rfl (by kernel_rfl) (by kernel_rfl) (by kernel_rfl) rfl rfl rfl rfl rfl (PV_b2s Try.underlying23 Try.underlying5 Try.underlying9 rfl (Shows.at 0 rfl)) ?_
  refine TA_yes (dd := (some 50)) 16 rfl (by kernel_rfl) (by kernel_rfl) (by kernel_rfl) rfl rfl rfl rfl rfl (PV_move rfl) ?_
  refine TA_oneYes 17 (by kernel_rfl) rfl rfl rfl rfl (TO_call0 call84 rfl rfl (t84 ?sd34q102_0 hln ?sd34q102_2 ?sd34q102_3) ?_)
  case sd34q102_0 => exact SBlk.mono h_8_0 (fun w h => h.sub (by (repeat (first | exact List.Sublist.refl _ | exact List.sublist_append_right _ _ | exact List.sublist_append_left _ _ | apply List.Sublist.cons)); done))
  case sd34q102_2 => omega
  case sd34q102_3 => with_reducible assumption
  rintro v51_35 H51_35 ⟨rfl, rfl⟩
  refine ⟨by intro w h; first | exact h | exact trivial | (refine WH.sub h ?_; (repeat (first | exact List.Sublist.refl _ | exact List.sublist_append_right _ _ | exact List.sublist_append_left _ _ | apply List.Sublist.cons)); done) | (refine WH.sub h ?_; (repeat (first | exact List.Sublist.refl _ | exact List.sublist_append_right _ _ | exact List.sublist_append_left _ _ | apply List.Sublist.cons_cons | apply List.Sublist.cons)); done), ?_⟩
  refine TA_yes (dd := (some 52)) 18 rfl (by kernel_rfl) (by kernel_rfl) (by kernel_rfl) rfl rfl rfl rfl rfl (PV_bin rfl rfl bin_str_eql) ?_
  refine TA_take (dd := (some 53)) 19 rfl (by kernel_rfl) (by kernel_rfl) (by kernel_rfl) rfl rfl rfl (PV_pickAnd rfl rfl rfl) ?_
  refine TA_take (dd := (some 54)) 20 rfl (by kernel_rfl) (by kernel_rfl) (by kernel_rfl) rfl rfl rfl (PV_move rfl) ?_
  refine TA_yes (dd := (some 55)) 21 rfl (by kernel_rfl) (by kernel_rfl) (by kernel_rfl) rfl rfl (gtrue (by (simp; done))) rfl rfl (PV_fieldAddr (D := 5) Try.underlying116 rfl sz3 (by decide) rfl rfl) ?_
  refine TA_yes (dd := (some 56)) 22 rfl (by kernel_rfl) (by kernel_rfl) (by kernel_rfl) rfl rfl (gtrue (by (simp; done))) rfl rfl (PV_load Try.underlying3 rfl rfl (Rd.at 1 rfl rfl)) ?_
  refine TA_yes (dd := (some 57)) 23 rfl (by kernel_rfl) (by kernel_rfl) (by kernel_rfl) rfl rfl (gtrue (by (simp; done))) rfl rfl (PV_move rfl) ?_
  refine TA_yes (dd := (some 58)) 24 rfl (by kernel_rfl) (by kernel_rfl) (by kernel_rfl) rfl rfl (gtrue (by (simp; done))) rfl rfl (PV_len_slice Try.underlying69 rfl) ?_
  refine TA_yes (dd := (some 59)) 25 rfl (by kernel_rfl) (by kernel_rfl) (by kernel_rfl) rfl rfl (gtrue (by (simp; done))) rfl rfl (PV.cast (PV_bin rfl rfl bin_add) (wr64 (by omega))) ?_
  refine TA_yes (dd := (some 60)) 26 rfl (by kernel_rfl) (by kernel_rfl) (by kernel_rfl) rfl rfl (gtrue (by (simp; done))) rfl rfl (PV_bin rfl rfl bin_eql) ?_
  refine TA_take (dd := (some 61)) 27 rfl (by kernel_rfl) (by kernel_rfl) (by kernel_rfl) rfl rfl rfl (PV_pickAnd rfl rfl rfl) ?_
  refine TA_take (dd := (some 62)) 28 rfl (by kernel_rfl) (by kernel_rfl) (by kernel_rfl) rfl rfl rfl (PV_move rfl) ?_
  refine TA_yes (dd := (some 63)) 29 rfl (by kernel_rfl) (by kernel_rfl) (by kernel_rfl) rfl rfl (gtrue (by (simp; omega))) rfl rfl (PV_fieldAddr (D := 4) Try.underlying116 rfl sz3 (by decide) rfl rfl) ?_
  refine TA_yes (dd := (some 64)) 30 rfl (by kernel_rfl) (by kernel_rfl) (by kernel_rfl) rfl rfl (gtrue (by (simp; omega))) rfl rfl (PV_load Try.underlying3 rfl rfl (Rd.at 1 rfl rfl)) ?_
  refine TA_yes (dd := (some 65)) 31 rfl (by kernel_rfl) (by kernel_rfl) (by kernel_rfl) rfl rfl (gtrue (by (simp; omega))) rfl rfl (PV_move rfl) ?_
  refine TA_yes (dd := (some 66)) 32 rfl (by kernel_rfl) (by kernel_rfl) (by kernel_rfl) rfl rfl (gtrue (by (simp; omega))) rfl rfl (PV_len_slice Try.underlying69 rfl) ?_
  refine TA_yes (dd := (some 67)) 33 rfl (by kernel_rfl) (by kernel_rfl) (by kernel_rfl) rfl rfl (gtrue (by (simp; omega))) rfl rfl (PV.cast (PV_bin rfl rfl bin_add) (wr64 (by omega))) ?_
  refine TA_yes (dd := (some 68)) 34 rfl (by kernel_rfl) (by kernel_rfl) (by kernel_rfl) rfl rfl (gtrue (by (simp; omega))) rfl rfl (PV_bin rfl rfl bin_eql) ?_
  refine TA_take (dd := (some 69)) 35 rfl (by kernel_rfl) (by kernel_rfl) (by kernel_rfl) rfl rfl rfl (PV_pickAnd rfl rfl rfl) ?_
  refine TA_take (dd := (some 10)) 36 rfl (by kernel_rfl) (by kernel_rfl) (by kernel_rfl) rfl rfl rfl (PV_assign rfl) ?_
  refine TA_done (by kernel_rfl) ?_
  refine ?L2
  rotate_left 1
  refine ⟨_, rfl, Or.inl rfl, (TO_alloc rfl zr116 fun g16 => ?_)⟩
  refine ⟨by intro w h; first | exact h | exact trivial | (refine WH.sub h ?_; (repeat (first | exact List.Sublist.refl _ | exact List.sublist_append_right _ _ | exact List.sublist_append_left _ _ | apply List.Sublist.cons)); done) | (refine WH.sub h ?_; (repeat (first | exact List.Sublist.refl _ | exact List.sublist_append_right _ _ | exact List.sublist_append_left _ _ | apply List.Sublist.cons_cons | apply List.Sublist.cons)); done), ?_⟩
  refine TA_one 6 (by kernel_rfl) rfl rfl (TO_call0 call69 rfl rfl (t69 _ _ _ _ _ _) ?_)
  rintro v32_38 H32_38 ⟨g_38, rfl, rfl⟩
  refine ⟨by intro w h; first | exact h | exact trivial | (refine WH.sub h ?_; (repeat (first | exact List.Sublist.refl _ | exact List.sublist_append_right _ _ | exact List.sublist_append_left _ _ | apply List.Sublist.cons)); done) | (refine WH.sub h ?_; (repeat (first | exact List.Sublist.refl _ | exact List.sublist_append_right _ _ | exact List.sublist_append_left _ _ | apply List.Sublist.cons_cons | apply List.Sublist.cons)); done), ?_⟩
  refine TA_perm ((perm_pick (i := 4) rfl).trans (List.Perm.cons _ ((perm_pick (i := 0) rfl).trans (List.Perm.cons _ ((perm_pick (i := 0) rfl).trans (List.Perm.cons _ ((perm_pick (i := 0) rfl).trans (List.Perm.cons _ (List.Perm.refl _))))))))) ?_
  refine TA_one 7 (by kernel_rfl) rfl rfl (TO_call0 call80 rfl rfl (t80c ?sd40q102_0 ?sd40q102_1 ?sd40q102_2 ?sd40q102_3) ?_)
  case sd40q102_0 => exact SBlk.mono h_13_0 (fun w h => h.sub (by (repeat (first | exact List.Sublist.refl _ | exact List.sublist_append_right _ _ | exact List.sublist_append_left _ _ | apply List.Sublist.cons)); done))
  case sd40q102_1 => exact hw
  case sd40q102_2 => with_reducible assumption
  case sd40q102_3 => omega
  rintro v33_41 H33_41 ⟨A_41, k_41, rfl, h_41_0, rfl⟩
  refine ⟨by intro w h; first | exact h | exact trivial | (refine WH.sub h ?_; (repeat (first | exact List.Sublist.refl _ | exact List.sublist_append_right _ _ | exact List.sublist_append_left _ _ | apply List.Sublist.cons)); done) | (refine WH.sub h ?_; (repeat (first | exact List.Sublist.refl _ | exact List.sublist_append_right _ _ | exact List.sublist_append_left _ _ | apply List.Sublist.cons_cons | apply List.Sublist.cons)); done), ?_⟩
  refine TA_one 9 (by kernel_rfl) rfl rfl (TO_store 1 rfl rfl rfl sz116 rfl rfl rfl (List.forall_mem_cons.2 ⟨by first | rfl, List.forall_mem_cons.2 ⟨by first | rfl, List.forall_mem_cons.2 ⟨by first | rfl, List.forall_mem_cons.2 ⟨by first | rfl, List.forall_mem_cons.2 ⟨by first | rfl, List.forall_mem_cons.2 ⟨by first | rfl, by simp⟩⟩⟩⟩⟩⟩) (by first | exact Nat.le_of_ble_eq_true rfl | (simp; done) | (simp; omega) | omega) ?_)
  refine ⟨by intro w h; first | exact h | exact trivial | (refine WH.sub h ?_; (repeat (first | exact List.Sublist.refl _ | exact List.sublist_append_right _ _ | exact List.sublist_append_left _ _ | apply List.Sublist.cons)); done) | (refine WH.sub h ?_; (repeat (first | exact List.Sublist.refl _ | exact List.sublist_append_right _ _ | exact List.sublist_append_left _ _ | apply List.Sublist.cons_cons | apply List.Sublist.cons)); done), ?_⟩
  refine TA_done (by kernel_rfl) ?_
  refine T_seq ?_
  refine T_drawn (WH _ _ _) mixed (fun w h => h) ?_
  refine TA_take (dd := (some 34)) 0 rfl (by kernel_rfl) (by kernel_rfl) (by kernel_rfl) rfl rfl rfl (PV_fieldAddr (D := 0) Try.underlying116 rfl sz4 (by decide) rfl rfl) ?_
  refine TA_take (dd := (some 35)) 1 rfl (by kernel_rfl) (by kernel_rfl) (by kernel_rfl) rfl rfl rfl (PV_load Try.underlying4 rfl rfl (Rd.at 1 rfl rfl)) ?_
  refine TA_take (dd := (some 36)) 2 rfl (by kernel_rfl) (by kernel_rfl) (by kernel_rfl) rfl rfl rfl (PV_move rfl) ?_
  refine TA_yes (dd := (some 37)) 3 rfl (by kernel_rfl) (by kernel_rfl) (by kernel_rfl) rfl rfl rfl rfl rfl (PV_fieldAddr (D := 1) Try.underlying116 rfl sz83 (by decide) rfl rfl) ?_
  refine TA_yes (dd := (some 38)) 4 rfl (by kernel_rfl) (by kernel_rfl) (by kernel_rfl) rfl rfl rfl rfl rfl (PV_load Try.underlying83 rfl rfl (Rd.at 1 rfl rfl)) ?_
  refine TA_yes (dd := (some 39)) 5 rfl (by kernel_rfl) (by kernel_rfl) (by kernel_rfl) rfl rfl rfl rfl rfl (PV_bin rfl rfl (bin_nil_nil Try.underlying83)) ?_
  refine TA_take (dd := (some 40)) 6 rfl (by kernel_rfl) (by kernel_rfl) (by kernel_rfl) rfl rfl rfl (PV_pickAnd rfl rfl rfl) ?_
  refine TA_take (dd := (some 41)) 7 rfl (by kernel_rfl) (by kernel_rfl) (by kernel_rfl) rfl rfl rfl (PV_move rfl) ?_
  refine TA_yes (dd := (some 42)) 8 rfl (by kernel_rfl) (by kernel_rfl) (by kernel_rfl) rfl rfl rfl rfl rfl (PV_fieldAddr (D := 2) Try.underlying116 rfl sz83 (by decide) rfl rfl) ?_
  refine TA_yes (dd := (some 43)) 9 rfl (by kernel_rfl) (by kernel_rfl) (by kernel_rfl) rfl rfl rfl rfl rfl (PV_load Try.underlying83 rfl rfl (Rd.at 1 rfl rfl)) ?_
  refine TA_yes (dd := (some 44)) 10 rfl (by kernel_rfl) (by kernel_rfl) (by kernel_rfl) rfl rfl rfl rfl rfl (PV_bin rfl rfl (bin_nil_nil Try.underlying83)) ?_
  refine TA_take (dd := (some 45)) 11 rfl (by kernel_rfl) (by kernel_rfl) (by kernel_rfl) rfl rfl rfl (PV_pickAnd rfl rfl rfl) ?_
  refine TA_take (dd := (some 46)) 12 rfl (by kernel_rfl) (by kernel_rfl) (by kernel_rfl) rfl rfl rfl (PV_move rfl) ?_
  refine TA_yes (dd := (some 47)) 13 rfl (by kernel_rfl) (by kernel_rfl) (by kernel_rfl) rfl rfl rfl rfl rfl (PV_fieldAddr (D := 3) Try.underlying116 rfl sz23 (by decide) rfl rfl) ?_
  refine TA_yes (dd := (some 48)) 14 rfl (by kernel_rfl) (by kernel_rfl) (by kernel_rfl) rfl rfl rfl rfl rfl (PV_load Try.underlying23 rfl rfl (Rd.at 1 rfl rfl)) ?_
  refine TA_yes (dd := (some 49)) 15 rfl (by kernel_rfl) (by kernel_rfl) (by kernel_rfl) rfl rfl rfl rfl rfl (PV_b2s Try.underlying23 Try.underlying5 Try.underlying9 rfl (Shows.at 0 rfl)) ?_
  refine TA_yes (dd := (some 50)) 16 rfl (by kernel_rfl) (by kernel_rfl) (by kernel_rfl) rfl rfl rfl rfl rfl (PV_move rfl) ?_
  refine TA_oneYes 17 (by kernel_rfl) rfl rfl rfl rfl (TO_call0 call84 rfl rfl (t84 ?sd44q102_0 hln ?sd44q102_2 ?sd44q102_3) ?_)
  case sd44q102_0 => exact SBlk.mono h_8_0 (fun w h => h.sub (by (repeat (first | exact List.Sublist.refl _ | exact List.sublist_append_right _ _ | exact List.sublist_append_left _ _ | apply List.Sublist.cons)); done))
  case sd44q102_2 => omega
  case sd44q102_3 => with_reducible assumption
  rintro v51_45 H51_45 ⟨rfl, rfl⟩
  refine ⟨by intro w h; first | exact h | exact trivial | (refine WH.sub h ?_; (repeat (first | exact List.Sublist.refl _ | exact List.sublist_append_right _ _ | exact List.sublist_append_left _ _ | apply List.Sublist.cons)); done) | (refine WH.sub h ?_; (repeat (first | exact List.Sublist.refl _ | exact List.sublist_append_right _ _ | exact List.sublist_append_left _ _ | apply List.Sublist.cons_cons | apply List.Sublist.cons)); done), ?_⟩
  refine TA_yes (dd := (some 52)) 18 rfl (by kernel_rfl) (by kernel_rfl) (by kernel_rfl) rfl rfl rfl rfl rfl (PV_bin rfl rfl bin_str_eql) ?_
  refine TA_take (dd := (some 53)) 19 rfl (by kernel_rfl) (by kernel_rfl) (by kernel_rfl) rfl rfl rfl (PV_pickAnd rfl rfl rfl) ?_
  refine TA_take (dd := (some 54)) 20 rfl (by kernel_rfl) (by kernel_rfl) (by kernel_rfl) rfl rfl rfl (PV_move rfl) ?_
  refine TA_yes (dd := (some 55)) 21 rfl (by kernel_rfl) (by kernel_rfl) (by kernel_rfl) rfl rfl (gtrue (by (simp; done))) rfl rfl (PV_fieldAddr (D := 5) Try.underlying116 rfl sz3 (by decide) rfl rfl) ?_
  refine TA_yes (dd := (some 56)) 22 rfl (by kernel_rfl) (by kernel_rfl) (by kernel_rfl) rfl rfl (gtrue (by (simp; done))) rfl rfl (PV_load Try.underlying3 rfl rfl (Rd.at 1 rfl rfl)) ?_
  refine TA_yes (dd := (some 57)) 23 rfl (by kernel_rfl) (by kernel_rfl) (by kernel_rfl) rfl rfl (gtrue (by (simp; done))) rfl rfl (PV_move rfl) ?_
  refine TA_yes (dd := (some 58)) 24 rfl (by kernel_rfl) (by kernel_rfl) (by kernel_rfl) rfl rfl (gtrue (by (simp; done))) rfl rfl (PV_len_slice Try.underlying69 rfl) ?_
  refine TA_yes (dd := (some 59)) 25 rfl (by kernel_rfl) (by kernel_rfl) (by kernel_rfl) rfl rfl (gtrue (by (simp; done))) rfl rfl (PV.cast (PV_bin rfl rfl bin_add) (wr64 (by omega))) ?_
  refine TA_yes (dd := (some 60)) 26 rfl (by kernel_rfl) (by kernel_rfl) (by kernel_rfl) rfl rfl (gtrue (by (simp; done))) rfl rfl (PV_bin rfl rfl bin_eql) ?_
  refine TA_take (dd := (some 61)) 27 rfl (by kernel_rfl) (by kernel_rfl) (by kernel_rfl) rfl rfl rfl (PV_pickAnd rfl rfl rfl) ?_
  refine TA_take (dd := (some 62)) 28 rfl (by kernel_rfl) (by kernel_rfl) (by kernel_rfl) rfl rfl rfl (PV_move rfl) ?_
  refine TA_yes (dd := (some 63)) 29 rfl (by kernel_rfl) (by kernel_rfl) (by kernel_rfl) rfl rfl (gtrue (by (simp; omega))) rfl rfl (PV_fieldAddr (D := 4) Try.underlying116 rfl sz3 (by decide) rfl rfl) ?_
  refine TA_yes (dd := (some 64)) 30 rfl (by kernel_rfl) (by kernel_rfl) (by kernel_rfl) rfl rfl (gtrue (by (simp; omega))) rfl rfl (PV_load Try.underlying3 rfl rfl (Rd.at 1 rfl rfl)) ?_
  refine TA_yes (dd := (some 65)) 31 rfl (by kernel_rfl) (by kernel_rfl) (by kernel_rfl) rfl rfl (gtrue (by (simp; omega))) rfl rfl (PV_move rfl) ?_
  refine TA_yes (dd := (some 66)) 32 rfl (by kernel_rfl) (by kernel_rfl) (by kernel_rfl) rfl rfl (gtrue (by (simp; omega))) rfl rfl (PV_len_slice Try.underlying69 rfl) ?_
  refine TA_yes (dd := (some 67)) 33 rfl (by kernel_rfl) (by kernel_rfl) (by kernel_rfl) rfl rfl (gtrue (by (simp; omega))) rfl rfl (PV.cast (PV_bin rfl rfl bin_add) (wr64 (by omega))) ?_
  refine TA_yes (dd := (some 68)) 34 rfl (by kernel_rfl) (by kernel_rfl) (by kernel_rfl) rfl rfl (gtrue (by (simp; omega))) rfl rfl (PV_bin rfl rfl bin_eql) ?_
  refine TA_take (dd := (some 69)) 35 rfl (by kernel_rfl) (by kernel_rfl) (by kernel_rfl) rfl rfl rfl (PV_pickAnd rfl rfl rfl) ?_
  refine TA_take (dd := (some 10)) 36 rfl (by kernel_rfl) (by kernel_rfl) (by kernel_rfl) rfl rfl rfl (PV_assign rfl) ?_
  refine TA_done (by kernel_rfl) ?_
  refine ?L3
  rotate_left 1
  refine ⟨_, rfl, Or.inl rfl, (TO_alloc rfl zr116 fun g11 => ?_)⟩
  refine ⟨by intro w h; first | exact h | exact trivial | (refine WH.sub h ?_; (repeat (first | exact List.Sublist.refl _ | exact List.sublist_append_right _ _ | exact List.sublist_append_left _ _ | apply List.Sublist.cons)); done) | (refine WH.sub h ?_; (repeat (first | exact List.Sublist.refl _ | exact List.sublist_append_right _ _ | exact List.sublist_append_left _ _ | apply List.Sublist.cons_cons | apply List.Sublist.cons)); done), ?_⟩
  refine TA_one 3 (by kernel_rfl) rfl rfl (TO_call0 call58 rfl rfl (t58 _ _ _ _ ?sd47q102_4 hln ?sd47q102_6 ?sd47q102_7) ?_)
  case sd47q102_4 => exact SBlk.mono h_8_0 (fun w h => h.sub (by (repeat (first | exact List.Sublist.refl _ | exact List.sublist_append_right _ _ | exact List.sublist_append_left _ _ | apply List.Sublist.cons)); done))
  case sd47q102_6 => omega
  case sd47q102_7 => with_reducible assumption
  rintro v29_48 H29_48 ⟨g_48, A'_48, c'_48, N_48, rfl, h_48_0, rfl⟩
  refine ⟨by intro w h; first | exact h | exact trivial | (refine WH.sub h ?_; (repeat (first | exact List.Sublist.refl _ | exact List.sublist_append_right _ _ | exact List.sublist_append_left _ _ | apply List.Sublist.cons)); done) | (refine WH.sub h ?_; (repeat (first | exact List.Sublist.refl _ | exact List.sublist_append_right _ _ | exact List.sublist_append_left _ _ | apply List.Sublist.cons_cons | apply List.Sublist.cons)); done), ?_⟩
  refine TA_one 6 (by kernel_rfl) rfl rfl (TO_call0 call69 rfl rfl (t69 _ _ _ _ _ _) ?_)
  rintro v32_51 H32_51 ⟨g_51, rfl, rfl⟩
  refine ⟨by intro w h; first | exact h | exact trivial | (refine WH.sub h ?_; (repeat (first | exact List.Sublist.refl _ | exact List.sublist_append_right _ _ | exact List.sublist_append_left _ _ | apply List.Sublist.cons)); done) | (refine WH.sub h ?_; (repeat (first | exact List.Sublist.refl _ | exact List.sublist_append_right _ _ | exact List.sublist_append_left _ _ | apply List.Sublist.cons_cons | apply List.Sublist.cons)); done), ?_⟩
  refine TA_perm ((perm_pick (i := 3) rfl).trans (List.Perm.cons _ ((perm_pick (i := 0) rfl).trans (List.Perm.cons _ ((perm_pick (i := 0) rfl).trans (List.Perm.cons _ ((perm_pick (i := 0) rfl).trans (List.Perm.cons _ (List.Perm.refl _))))))))) ?_
  refine TA_one 7 (by kernel_rfl) rfl rfl (TO_call0 call80 rfl rfl (t80c ?sd53q102_0 ?sd53q102_1 ?sd53q102_2 ?sd53q102_3) ?_)
  case sd53q102_0 => exact h_48_0
  case sd53q102_1 => exact hw
  case sd53q102_2 => with_reducible assumption
  case sd53q102_3 => omega
  rintro v33_54 H33_54 ⟨A_54, k_54, rfl, h_54_0, rfl⟩
  refine ⟨by intro w h; first | exact h | exact trivial | (refine WH.sub h ?_; (repeat (first | exact List.Sublist.refl _ | exact List.sublist_append_right _ _ | exact List.sublist_append_left _ _ | apply List.Sublist.cons)); done) | (refine WH.sub h ?_; (repeat (first | exact List.Sublist.refl _ | exact List.sublist_append_right _ _ | exact List.sublist_append_left _ _ | apply List.Sublist.cons_cons | apply List.Sublist.cons)); done), ?_⟩
  refine TA_one 9 (by kernel_rfl) rfl rfl (TO_store 1 rfl rfl rfl sz116 rfl rfl rfl (List.forall_mem_cons.2 ⟨by first | rfl, List.forall_mem_cons.2 ⟨by first | rfl, List.forall_mem_cons.2 ⟨by first | rfl, List.forall_mem_cons.2 ⟨by first | rfl, List.forall_mem_cons.2 ⟨by first | rfl, List.forall_mem_cons.2 ⟨by first | rfl, by simp⟩⟩⟩⟩⟩⟩) (by first | exact Nat.le_of_ble_eq_true rfl | (simp; done) | (simp; omega) | omega) ?_)
  refine ⟨by intro w h; first | exact h | exact trivial | (refine WH.sub h ?_; (repeat (first | exact List.Sublist.refl _ | exact List.sublist_append_right _ _ | exact List.sublist_append_left _ _ | apply List.Sublist.cons)); done) | (refine WH.sub h ?_; (repeat (first | exact List.Sublist.refl _ | exact List.sublist_append_right _ _ | exact List.sublist_append_left _ _ | apply List.Sublist.cons_cons | apply List.Sublist.cons)); done), ?_⟩
  refine TA_done (by kernel_rfl) ?_
  refine T_seq ?_
  refine T_drawn (WH _ _ _) mixed (fun w h => h) ?_
  refine TA_take (dd := (some 34)) 0 rfl (by kernel_rfl) (by kernel_rfl) (by kernel_rfl) rfl rfl rfl (PV_fieldAddr (D := 0) Try.underlying116 rfl sz4 (by decide) rfl rfl) ?_
  refine TA_take (dd := (some 35)) 1 rfl (by kernel_rfl) (by kernel_rfl) (by kernel_rfl) rfl rfl rfl (PV_load Try.underlying4 rfl rfl (Rd.at 1 rfl rfl)) ?_
  refine TA_take (dd := (some 36)) 2 rfl (by kernel_rfl) (by kernel_rfl) (by kernel_rfl) rfl rfl rfl (PV_move rfl) ?_
  refine TA_yes (dd := (some 37)) 3 rfl (by kernel_rfl) (by kernel_rfl) (by kernel_rfl) rfl rfl rfl rfl rfl (PV_fieldAddr (D := 1) Try.underlying116 rfl sz83 (by decide) rfl rfl) ?_
  refine TA_yes (dd := (some 38)) 4 rfl (by kernel_rfl) (by kernel_rfl) (by kernel_rfl) rfl rfl rfl rfl rfl (PV_load Try.underlying83 rfl rfl (Rd.at 1 rfl rfl)) ?_
  refine TA_yes (dd := (some 39)) 5 rfl (by kernel_rfl) (by kernel_rfl) (by kernel_rfl) rfl rfl rfl rfl rfl (PV_bin rfl rfl (bin_nil_nil Try.underlying83)) ?_
  refine TA_take (dd := (some 40)) 6 rfl (by kernel_rfl) (by kernel_rfl) (by kernel_rfl) rfl rfl rfl (PV_pickAnd rfl rfl rfl) ?_
  refine TA_take (dd := (some 41)) 7 rfl (by kernel_rfl) (by kernel_rfl) (by kernel_rfl) rfl rfl rfl (PV_move rfl) ?_
  refine TA_yes (dd := (some 42)) 8 rfl (by kernel_rfl) (by kernel_rfl) (by kernel_rfl) rfl rfl rfl rfl rfl (PV_fieldAddr (D := 2) Try.underlying116 rfl sz83 (by decide) rfl rfl) ?_
  refine TA_yes (dd := (some 43)) 9 rfl (by kernel_rfl) (by kernel_rfl) (by kernel_rfl) rfl rfl rfl rfl rfl (PV_load Try.underlying83 rfl rfl (Rd.at 1 rfl rfl)) ?_
  refine TA_yes (dd := (some 44)) 10 rfl (by kernel_rfl) (by kernel_rfl) (by kernel_rfl) rfl rfl rfl rfl rfl (PV_bin rfl rfl (bin_nil_nil Try.underlying83)) ?_
  refine TA_take (dd := (some 45)) 11 rfl (by kernel_rfl) (by kernel_rfl) (by kernel_rfl) rfl rfl rfl (PV_pickAnd rfl rfl rfl) ?_
  refine TA_take (dd := (some 46)) 12 rfl (by kernel_rfl) (by kernel_rfl) (by kernel_rfl) rfl rfl rfl (PV_move rfl) ?_
  refine TA_yes (dd := (some 47)) 13 rfl (by kernel_rfl) (by kernel_rfl) (by kernel_rfl) rfl rfl rfl rfl rfl (PV_fieldAddr (D := 3) Try.underlying116 rfl sz23 (by decide) rfl rfl) ?_
  refine TA_yes (dd := (some 48)) 14 rfl (by kernel_rfl) (by kernel_rfl) (by kernel_rfl) rfl rfl rfl rfl rfl (PV_load Try.underlying23 rfl rfl (Rd.at 1 rfl rfl)) ?_
  refine TA_yes (dd := (some 49)) 15 rfl (by kernel_rfl) (by kernel_rfl) (by kernel_rfl) rfl rfl rfl rfl rfl (PV_b2s Try.underlying23 Try.underlying5 Try.underlying9 rfl (Shows.at 0 rfl)) ?_
  refine TA_yes (dd := (some 50)) 16 rfl (by kernel_rfl) (by kernel_rfl) (by kernel_rfl) rfl rfl rfl rfl rfl (PV_move rfl) ?_
  refine TA_oneYes 17 (by kernel_rfl) rfl rfl rfl rfl (TO_call0 call84 rfl rfl (t84 ?sd57q102_0 hln ?sd57q102_2 ?sd57q102_3) ?_)
  case sd57q102_0 => exact SBlk.mono h_8_0 (fun w h => h.sub (by (repeat (first | exact List.Sublist.refl _ | exact List.sublist_append_right _ _ | exact List.sublist_append_left _ _ | apply List.Sublist.cons)); done))
  case sd57q102_2 => omega
  case sd57q102_3 => with_reducible assumption
  rintro v51_58 H51_58 ⟨rfl, rfl⟩
  refine ⟨by intro w h; first | exact h | exact trivial | (refine WH.sub h ?_; (repeat (first | exact List.Sublist.refl _ | exact List.sublist_append_right _ _ | exact List.sublist_append_left _ _ | apply List.Sublist.cons)); done) | (refine WH.sub h ?_; (repeat (first | exact List.Sublist.refl _ | exact List.sublist_append_right _ _ | exact List.sublist_append_left _ _ | apply List.Sublist.cons_cons | apply List.Sublist.cons)); done), ?_⟩
  refine TA_yes (dd := (some 52)) 18 rfl (by kernel_rfl) (by kernel_rfl) (by kernel_rfl) rfl rfl rfl rfl rfl (PV_bin rfl rfl bin_str_eql) ?_
  refine TA_take (dd := (some 53)) 19 rfl (by kernel_rfl) (by kernel_rfl) (by kernel_rfl) rfl rfl rfl (PV_pickAnd rfl rfl rfl) ?_
  refine TA_take (dd := (some 54)) 20 rfl (by kernel_rfl) (by kernel_rfl) (by kernel_rfl) rfl rfl rfl (PV_move rfl) ?_
  refine TA_yes (dd := (some 55)) 21 rfl (by kernel_rfl) (by kernel_rfl) (by kernel_rfl) rfl rfl (gtrue (by (simp; done))) rfl rfl (PV_fieldAddr (D := 5) Try.underlying116 rfl sz3 (by decide) rfl rfl) ?_
  refine TA_yes (dd := (some 56)) 22 rfl (by kernel_rfl) (by kernel_rfl) (by kernel_rfl) rfl rfl (gtrue (by (simp; done))) rfl rfl (PV_load Try.underlying3 rfl rfl (Rd.at 1 rfl rfl)) ?_
  refine TA_yes (dd := (some 57)) 23 rfl (by kernel_rfl) (by kernel_rfl) (by kernel_rfl) rfl rfl (gtrue (by (simp; done))) rfl rfl (PV_move rfl) ?_
  refine TA_yes (dd := (some 58)) 24 rfl (by kernel_rfl) (by kernel_rfl) (by kernel_rfl) rfl rfl (gtrue (by (simp; done))) rfl rfl (PV_len_slice Try.underlying69 rfl) ?_
  refine TA_yes (dd := (some 59)) 25 rfl (by kernel_rfl) (by kernel_rfl) (by kernel_rfl) rfl rfl (gtrue (by (simp; done))) rfl rfl (PV.cast (PV_bin rfl rfl bin_add) (wr64 (by omega))) ?_
  refine TA_yes (dd := (some 60)) 26 rfl (by kernel_rfl) (by kernel_rfl) (by kernel_rfl) rfl rfl (gtrue (by (simp; done))) rfl rfl (PV_bin rfl rfl bin_eql) ?_
  refine TA_take (dd := (some 61)) 27 rfl (by kernel_rfl) (by kernel_rfl) (by kernel_rfl) rfl rfl rfl (PV_pickAnd rfl rfl rfl) ?_
  refine TA_take (dd := (some 62)) 28 rfl (by kernel_rfl) (by kernel_rfl) (by kernel_rfl) rfl rfl rfl (PV_move rfl) ?_
  refine TA_yes (dd := (some 63)) 29 rfl (by kernel_rfl) (by kernel_rfl) (by kernel_rfl) rfl rfl (gtrue (by (simp; omega))) rfl rfl (PV_fieldAddr (D := 4) Try.underlying116 rfl sz3 (by decide) rfl rfl) ?_
  refine TA_yes (dd := (some 64)) 30 rfl (by kernel_rfl) (by kernel_rfl) (by kernel_rfl) rfl rfl (gtrue (by (simp; omega))) rfl rfl (PV_load Try.underlying3 rfl rfl (Rd.at 1 rfl rfl)) ?_
  refine TA_yes (dd := (some 65)) 31 rfl (by kernel_rfl) (by kernel_rfl) (by kernel_rfl) rfl rfl (gtrue (by (simp; omega))) rfl rfl (PV_move rfl) ?_
  refine TA_yes (dd := (some 66)) 32 rfl (by kernel_rfl) (by kernel_rfl) (by kernel_rfl) rfl rfl (gtrue (by (simp; omega))) rfl rfl (PV_len_slice Try.underlying69 rfl) ?_
  refine TA_yes (dd := (some 67)) 33 rfl (by kernel_rfl) (by kernel_rfl) (by kernel_rfl) rfl rfl (gtrue (by (simp; omega))) rfl rfl (PV.cast (PV_bin rfl rfl bin_add) (wr64 (by omega))) ?_
  refine TA_yes (dd := (some 68)) 34 rfl (by kernel_rfl) (by kernel_rfl) (by kernel_rfl) rfl rfl (gtrue (by (simp; omega))) rfl rfl (PV_bin rfl rfl bin_eql) ?_
  refine TA_take (dd := (some 69)) 35 rfl (by kernel_rfl) (by kernel_rfl) (by kernel_rfl) rfl rfl rfl (PV_pickAnd rfl rfl rfl) ?_
  refine TA_take (dd := (some 10)) 36 rfl (by kernel_rfl) (by kernel_rfl) (by kernel_rfl) rfl rfl rfl (PV_assign rfl) ?_
  refine TA_done (by kernel_rfl) ?_
  refine ?L4
  all_goals
    refine T_ret ?_
    refine ret_ret (ResV_one rfl rfl) ⟨H, ?_, ?_, rfl⟩
    · repeat (first | exact ((List.sublist_append_left _ _).trans (List.sublist_append_left _ _)) | apply List.Sublist.cons)
    · rw [hln]; simp
end
end Go.Proofs.Ythdkmgeigdoglaa.SL
