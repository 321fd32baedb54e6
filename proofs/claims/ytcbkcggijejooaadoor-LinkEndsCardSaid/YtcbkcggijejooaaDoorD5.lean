import Derived.Test.YtcbkcggijejooaaDoorD4
import Derived.Test.YtcbkcggijejooaaDoorErrAs
import Derived.Test.YtcbkcggijejooaaDoorL7
/- LinkEnds, walked. No statement is proved here. -/
set_option linter.unusedVariables false
set_option linter.unusedSimpArgs false
set_option maxRecDepth 100000
set_option maxHeartbeats 8000000
namespace Go.Proofs.YtcbkcggijejooaaDoor.SL
open Go Go.RowKit
section
variable {w0 : World} {B : Nat} {H X : List Chunk}
theorem nzCells_app' : ∀ (xs ys : List Nz), nzCells (xs ++ ys) = nzCells xs ++ nzCells ys
  | [], ys => rfl
  | z :: xs, ys => by simp only [List.cons_append, nzCells, nzCells_app' xs ys]
theorem nzL_len (L : Nat) : (nzL L).length = 60 := by unfold nzL; simp
theorem errs_t {A : Option Addr} {c : Nat} (hL : Laid w0) (hB0 : 0 < B) (hS : Shows (WH w0 B H) A 1 1 [.int .i64 10]) :
    TCall Tryd.prog w0 B 24 #[.iface 35 (.int .i64 10), .slice A 1 c] (fun r H' => r = .bool true ∧ H' = H) H := by
  refine TCall_intro (args := [_, _]) Tryd.func24 rfl Tryd.ntmps24 (Nat.le_of_ble_eq_true rfl) ?_
  refine T_seq ?_
  refine T_region ?_
  refine TL_pure (d := (some 4)) rfl rfl rfl (PV_assign rfl) ?_
  refine TL_nil ?_
  refine T_seq ?_
  refine T_seq ?_
  refine T_region ?_
  refine TL_pure (d := (some 7)) rfl rfl rfl (PV_move rfl) ?_
  refine TL_pure (d := (some 8)) rfl rfl rfl (PV_bin rfl rfl (bin_if_nil Tryd.underlying31)) ?_
  refine TL_nil ?_
  refine T_else rfl (by rfl) ?_
  refine T_skip ?_
  refine T_seq ?_
  refine T_seq ?_
  refine T_region ?_
  refine TL_pure (d := (some 9)) rfl rfl rfl (PV_move rfl) ?_
  refine TL_pure (d := (some 10)) rfl rfl rfl (PV_len_slice Tryd.underlying75 rfl) ?_
  refine TL_pure (d := (some 11)) rfl rfl rfl (PV_move rfl) ?_
  refine TL_nil ?_
  refine T_block ?_
  refine ?L1
  case L1 =>
    refine T_loop1 (fun (i : Nat) => i = 0) (fun i => 1) (fun i => [(0, .iface 35 (.int .i64 10)), (9, .slice A 1 c), (10, .int .i64 1), (11, .int .i64 (i : Int))]) (fun _ => H) 0 rfl (by repeat (first | exact FrSub.nil _ | refine FrSub.cons rfl ?_)) (by repeat (first | exact List.Sublist.refl _ | exact List.sublist_append_right _ _ | exact List.sublist_append_left _ _ | apply List.Sublist.cons_cons | apply List.Sublist.cons | refine List.Sublist.trans ?_ (List.sublist_append_left _ _))) ?_
    rintro i rfl
    refine T_shows hS (by decide) fun ga oa hA hrd => ?_
    subst hA
    have hr : Rd (WH w0 B H) ⟨ga, oa + 0 * 1, none⟩ (.int .i64 10) := hrd 0 _ rfl
    refine T_seq ?_
    refine T_region ?_
    refine TL_pure (d := (some 12)) rfl rfl rfl (PV_bin rfl rfl bin_lss) ?_
    refine TL_nil ?_
    refine T_seq ?_
    refine T_then rfl (by rfl) ?_
    refine T_skip ?_
    refine T_seq ?_
    refine T_block ?_
    refine T_seq ?_
    refine T_region ?_
    refine TL_pure (d := (some 13)) rfl rfl rfl (PV_indexAddr (i := 0) Tryd.underlying75 sz35 rfl rfl rfl (by first | omega | decide | assumption)) ?_
    refine TL_pure (d := (some 14)) rfl rfl rfl (PV_load Tryd.underlying35 rfl rfl hr) ?_
    refine TL_pure (d := (some 6)) rfl rfl rfl (PV_assign rfl) ?_
    refine TL_nil ?_
    refine T_seq ?_
    refine T_region ?_
    refine TL_pure (d := (some 15)) rfl rfl rfl (PV_move rfl) ?_
    refine TL_cons rfl (TO_call0 call12 rfl rfl (number_t ?sd102q27_0 ?sd102q27_1 _) ?_)
    case sd102q27_0 => exact hL
    case sd102q27_1 => exact hB0
    rintro v16_103 H16_103 ⟨rfl, rfl⟩
    refine TL_pure (d := (some 17)) rfl rfl rfl (PV_move rfl) ?_
    refine TL_pure (d := (some 18)) rfl rfl rfl (PV_bin rfl rfl bin_eql) ?_
    refine TL_nil ?_
    refine T_then rfl (by rfl) ?_
    refine T_seq ?_
    refine T_region ?_
    refine TL_pure (d := (some 4)) rfl rfl rfl (PV_assign rfl) ?_
    refine TL_nil ?_
    refine T_ret ?_
    refine ret_ret (ResV_one rfl rfl) ⟨_, List.Sublist.refl _, ⟨rfl, rfl⟩⟩
theorem t80k {gs gr cs m cn M : Nat} {As An : Option Addr} {ns : List Nz} {qs : List (List Int)} {a b : Int} {crc : Bool} (fx : Lk) (hN : Shows (WH w0 B X) An m 3 (nzCells ns)) (hm : ns.length = m) (hB : SBlk (WH w0 B X) As cs qs) (hM : M ≤ 3000) (hq : ∀ q ∈ qs, U8s q ∧ (q.length = 128 ∨ q.length = 1024)) (hml : qs.length ≤ 40) (he : (Lk.start (Sn.of a b qs crc true) (Rc.of a b 1 crc true 1)).run ns M = fx) :
    TCall Tryd.prog w0 B 23 #[.pointer (some ⟨gs, 0, none⟩), .pointer (some ⟨gr, 0, none⟩), .slice An m cn, .int .i64 (M : Int)] (fun v H' => ∃ (A : Option Addr) (k : Nat), v = .agg #[.bool fx.ov, errV fx.e1, errR fx.e2, .slice A fx.r.dat.length k, .int .i64 (fx.ticks : Int), .int .i64 (fx.sent : Int)] ∧ fx.r.dat.length ≤ k ∧ H' = byC A k fx.r.dat :: sC gs As cs fx.s :: X)
      (sC gs As cs (Sn.of a b qs crc true) :: rcC gr none 0 none 0 (Rc.of a b 1 crc true 1) :: byC none 0 [] :: byC none 0 [] :: X) := by
  have h := t80 (gs := gs) (gr := gr) (bA := none) (bc := 0) (dA := none) (dc := 0) (cn := cn) (Sn.of a b qs crc true) (Rc.of a b 1 crc true 1) M (start_fit (by omega) hq (by decide)) hB hN hm hM
  rw [he] at h
  refine h.less ?_
  rintro v H' ⟨A, k', bA', bc', dA', dc', hv, hk, rfl⟩
  exact ⟨_, (by repeat (first | exact List.Sublist.refl _ | exact List.sublist_append_right _ _ | exact List.sublist_append_left _ _ | apply List.Sublist.cons_cons | apply List.Sublist.cons | refine List.Sublist.trans ?_ (List.sublist_append_left _ _))), A, k', hv, hk, rfl⟩
theorem flat128' : ∀ (qs : List (List Int)), (∀ q ∈ qs, q.length = 128) → qs.flatten.length = 128 * qs.length
  | [], h => rfl
  | q :: qs, h => by
    have h1 := flat128' qs (fun x hx => h x (List.mem_cons_of_mem _ hx))
    have h2 := h q List.mem_cons_self
    rw [List.flatten_cons, List.length_append, List.length_cons]
    omega
theorem t80A {gs gr cs m cn M : Nat} {As An : Option Addr} {ns : List Nz} {qs : List (List Int)} {a b : Int} {crc : Bool} (fx : Lk) (ho : fx.ov = true) (he1 : fx.e1 = 0) (hN : Shows (WH w0 B X) An m 3 (nzCells ns)) (hm : ns.length = m) (hB : SBlk (WH w0 B X) As cs qs) (hM : M ≤ 3000) (hq : ∀ q ∈ qs, U8s q ∧ (q.length = 128 ∨ q.length = 1024)) (hml : qs.length ≤ 40) (he : (Lk.start (Sn.of a b qs crc true) (Rc.of a b 1 crc true 1)).run ns M = fx) :
    TCall Tryd.prog w0 B 23 #[.pointer (some ⟨gs, 0, none⟩), .pointer (some ⟨gr, 0, none⟩), .slice An m cn, .int .i64 (M : Int)] (fun v H' => ∃ (A : Option Addr) (k : Nat), v = .agg #[.bool true, .nilIface, errR fx.e2, .slice A fx.r.dat.length k, .int .i64 (fx.ticks : Int), .int .i64 (fx.sent : Int)] ∧ fx.r.dat.length ≤ k ∧ H' = byC A k fx.r.dat :: sC gs As cs fx.s :: X)
      (sC gs As cs (Sn.of a b qs crc true) :: rcC gr none 0 none 0 (Rc.of a b 1 crc true 1) :: byC none 0 [] :: byC none 0 [] :: X) := by
  have h := t80k (gs := gs) (gr := gr) (cn := cn) fx hN hm hB hM hq hml he
  rw [ho, he1] at h
  exact h
theorem t80B {gs gr cs m cn M D : Nat} {As An : Option Addr} {ns : List Nz} {qs : List (List Int)} {a b : Int} {crc : Bool} (fx : Lk) (hD : fx.r.dat.length = D) (hN : Shows (WH w0 B X) An m 3 (nzCells ns)) (hm : ns.length = m) (hB : SBlk (WH w0 B X) As cs qs) (hM : M ≤ 3000) (hq : ∀ q ∈ qs, U8s q ∧ (q.length = 128 ∨ q.length = 1024)) (hml : qs.length ≤ 40) (he : (Lk.start (Sn.of a b qs crc true) (Rc.of a b 1 crc true 1)).run ns M = fx) :
    TCall Tryd.prog w0 B 23 #[.pointer (some ⟨gs, 0, none⟩), .pointer (some ⟨gr, 0, none⟩), .slice An m cn, .int .i64 (M : Int)] (fun v H' => ∃ (A : Option Addr) (k : Nat), v = .agg #[.bool fx.ov, errV fx.e1, errR fx.e2, .slice A D k, .int .i64 (fx.ticks : Int), .int .i64 (fx.sent : Int)] ∧ D ≤ k ∧ H' = byC A k fx.r.dat :: sC gs As cs fx.s :: X)
      (sC gs As cs (Sn.of a b qs crc true) :: rcC gr none 0 none 0 (Rc.of a b 1 crc true 1) :: byC none 0 [] :: byC none 0 [] :: X) := by
  have h := t80k (gs := gs) (gr := gr) (cn := cn) fx hN hm hB hM hq hml he
  rw [hD] at h
  exact h
theorem t61x {g : Nat} {A : Option Addr} {c : Nat} {s : Sn} (h : Se s) : TCall Tryd.prog w0 B 10 #[.pointer (some ⟨g, 0, none⟩)] (fun r H' => r = .tuple #[.bool true, .iface 35 (.int .i64 10)] ∧ H' = sC g A c s :: X) (sC g A c s :: X) := by
  refine (t61 (w0 := w0) (B := B) (X := X) (g := g) (A := A) (c := c) s).mono fun v h' q => ⟨?_, q.2⟩
  rw [q.1, h.1, h.2]
  rfl
theorem LinkEnds_t {A : Option Addr} {m c : Nat} {l : List Int} (a b : Int) (mn ln : Nat) (hL : Laid w0) (hB0 : 0 < B) (hS : Shows (WH w0 B H) A m 1 (nums .u8 l)) (hlm : l.length = m) (hl : m ≤ 9223372036854775807) (hc : m ≤ c) (hu : U8s l) (hmn : mn ≤ 255) (hln : ln ≤ 255) :
    TCall Tryd.prog w0 B 6 #[.agg #[.int .i64 a, .int .i64 b], .slice A m c, .int .u8 (mn : Int), .int .u8 (ln : Int)] (fun r H' => r = .bool true ∧ H' = H) H := by
  have hq : ∀ q ∈ blksL l false (mn % 5), U8s q ∧ (q.length = 128 ∨ q.length = 1024) := blksL_num (by omega)
  have hbn : (blksL l false (mn % 5)).length = mn % 5 := blksL_len _ _ _
  obtain ⟨t1, t2, t3, t4⟩ := tmod5 b
  have hw : 2 ≤ waitL b ∧ waitL b ≤ 99 := by unfold waitL; omega
  have e21 : Value.int .i64 (IntKind.i64.wrap (Int.tmod b 5 + 5)) = .int .i64 (Int.tmod b 5 + 5) := wr64 (by omega)
  have e23 : Value.int .i64 (IntKind.i64.wrap (2 + Int.tmod (Int.tmod b 5 + 5) 5)) = .int .i64 (waitL b) := wr64 (by omega)
  obtain ⟨L, hLe⟩ : ∃ L, ln % 4 = L := ⟨_, rfl⟩
  have hL3 : L ≤ 3 := by omega
  have e35 : Value.int .u8 (Int.tmod (ln : Int) 4) = .int .u8 (L : Int) := by rw [← hLe]; rfl
  refine TCall_intro (args := [_, _, _, _]) Tryd.func6 rfl Tryd.ntmps6 (Nat.le_of_ble_eq_true rfl) ?_
  refine T_seq ?_
  refine T_region ?_
  refine TL_cons rfl (TO_box rfl rfl fun g1 => ?_)
  refine TL_pure (d := (some 8)) rfl rfl rfl (PV_assign rfl) ?_
  refine TL_nil ?_
  refine T_seq ?_
  refine T_seq ?_
  refine T_region ?_
  refine TL_cons rfl (TO_call0 call22 rfl rfl (t79) ?_)
  rintro v16_4 H16_4 ⟨rfl, rfl⟩
  refine TL_pure (d := (some 17)) rfl rfl rfl (PV_not rfl) ?_
  refine TL_nil ?_
  refine T_else rfl (by rfl) ?_
  refine T_skip ?_
  refine T_seq ?_
  refine T_region ?_
  refine TL_pure (d := (some 18)) rfl rfl rfl (PV_fieldAddr (D := 1) Tryd.underlying23 rfl sz3 (by decide) rfl rfl) ?_
  refine TL_pure (d := (some 19)) rfl rfl rfl (PV_load Tryd.underlying3 rfl rfl (Rd.at 0 rfl rfl)) ?_
  refine TL_pure (d := (some 20)) rfl rfl rfl (PV_bin rfl rfl (bin_rem (by decide))) ?_
  refine TL_pure (d := (some 21)) rfl rfl rfl (PV.cast (PV_bin rfl rfl bin_add) e21) ?_
  refine TL_pure (d := (some 22)) rfl rfl rfl (PV_bin rfl rfl (bin_rem (by decide))) ?_
  refine TL_pure (d := (some 23)) rfl rfl rfl (PV.cast (PV_bin rfl rfl bin_add) e23) ?_
  refine TL_pure (d := (some 24)) rfl rfl rfl (PV_fieldAddr (D := 1) Tryd.underlying23 rfl sz3 (by decide) rfl rfl) ?_
  refine TL_cons rfl (TO_store1 0 rfl rfl rfl sz3 rfl rfl rfl (by first | exact Nat.le_of_ble_eq_true rfl | (simp; done) | (simp; omega) | omega) ?_)
  refine TL_nil ?_
  refine T_seq ?_
  refine T_region ?_
  refine TL_pure (d := (some 25)) rfl rfl rfl (PV_move rfl) ?_
  refine TL_pure (d := (some 26)) rfl rfl rfl (PV_move rfl) ?_
  refine TL_cons rfl (TO_call0 call9 rfl rfl (t57 mn false (Shows.mono hS (fun w h => h.sub (by (repeat (first | exact List.Sublist.refl _ | exact List.sublist_append_right _ _ | exact List.sublist_append_left _ _ | apply List.Sublist.cons | refine List.Sublist.trans ?_ (List.sublist_append_left _ _))); done))) ?sd7q71_1 ?sd7q71_2 ?sd7q71_3 ?sd7q71_4 ?sd7q71_5) ?_)
  case sd7q71_1 => omega
  case sd7q71_2 => exact hl
  case sd7q71_3 => exact hc
  case sd7q71_4 => exact hu
  case sd7q71_5 => exact hmn
  rintro v27_8 H27_8 ⟨A'_8, c'_8, N_8, rfl, h_8_0, rfl⟩
  refine TL_pure (d := (some 9)) rfl rfl rfl (PV_assign rfl) ?_
  refine TL_nil ?_
  refine T_seq ?_
  refine T_region ?_
  refine TL_pure (d := (some 10)) rfl rfl rfl (PV_assign rfl) ?_
  refine TL_nil ?_
  refine T_seq ?_
  refine T_seq ?_
  refine T_region ?_
  refine TL_pure (d := (some 11)) rfl rfl rfl (PV_assign rfl) ?_
  refine TL_nil ?_
  refine T_block ?_
  refine ?L1
  case L1 =>
    refine T_addNil 3 ?_
    refine T_loopP3 (fun (i : Nat) (Ao : Option Addr) (co : Nat) => i ≤ 60 ∧ i ≤ co) (fun i _ _ => 60 - i) (fun i Ao co => [(3, .int .u8 (ln : Int)), (4, .pointer (some ⟨g1, 0, none⟩)), (8, .bool false), (9, .slice A'_8 (mn % 5) c'_8), (10, .slice Ao i co), (11, .int .i64 (i : Int))]) (fun i Ao co => .sl (.slice Ao i co) 3 i (nzCells ((nzL L).take i)) :: .own g1 2 [.int .i64 a, .int .i64 (waitL b)] :: (H ++ N_8)) 0 none 0 ⟨Nat.zero_le _, Nat.le_refl _⟩ (by repeat (first | exact FrSub.nil _ | refine FrSub.cons rfl ?_)) (Has.of_sub (by repeat (first | exact List.Sublist.refl _ | exact List.sublist_append_right _ _ | exact List.sublist_append_left _ _ | apply List.Sublist.cons_cons | apply List.Sublist.cons | refine List.Sublist.trans ?_ (List.sublist_append_left _ _)))) ?_
    rintro i Ao co ⟨hi, hic⟩
    by_cases him : i < 60
    · have hz : (nzL L)[i]? = some ⟨decide (L ≤ i), 0, 0⟩ := by rw [nzL_get, if_pos him]
      have e37 : Value.bool (decide ((i : Int) ≥ (L : Int))) = .bool (decide (L ≤ i)) := by
        congr 1
        exact decide_eq_decide.2 (by omega)
      have hcell : nzCells ((nzL L).take (i + 1)) = nzCells ((nzL L).take i) ++ [.bool (decide (L ≤ i)), .int .i64 0, .int .u8 0] := by
        rw [List.take_add_one (i := i), hz, nzCells_app']
        rfl
      have hlc : (nzCells ((nzL L).take i)).length = i * 3 := by rw [nzCells_len, List.length_take, nzL_len, Nat.min_eq_left (by omega)]
      refine T_seq ?_
      refine T_seq ?_
      refine T_region ?_
      refine TL_pure (d := (some 28)) rfl rfl rfl (PV_move rfl) ?_
      refine TL_pure (d := (some 29)) rfl rfl rfl (PV_bin rfl rfl bin_lss) ?_
      refine TL_nil ?_
      refine T_then rfl (by exact decide_eq_true (by omega)) ?_
      refine T_skip ?_
      refine T_seq ?_
      refine T_block ?_
      refine T_region ?_
      refine TL_pure (d := (some 32)) rfl rfl rfl (PV_move rfl) ?_
      refine TL_pure (d := (some 33)) rfl rfl rfl (PV_move rfl) ?_
      refine TL_pure (d := (some 34)) rfl rfl rfl (PV_move rfl) ?_
      refine TL_pure (d := (some 35)) rfl rfl rfl (PV.cast (PV_bin rfl rfl (bin_rem (by decide))) e35) ?_
      refine TL_pure (d := (some 36)) rfl rfl rfl (PV.cast (PV_conv (by rw [Tryd.underlying5]; rfl) Tryd.underlying3 rfl) (wr64 (by omega))) ?_
      refine TL_pure (d := (some 37)) rfl rfl rfl (PV.cast (PV_bin rfl rfl bin_geq) e37) ?_
      refine TL_pure (d := (some 38)) rfl rfl rfl (PV_bld (cs := [_, _, _]) Tryd.underlying51 pl51 zr51 rfl rfl) ?_
      refine TL_cons rfl (TO_bs (cs := [_, _, _]) Tryd.underlying49 zs51 (by decide) rfl rfl rfl rfl rfl rfl fun g101 => ?_)
      refine TL_cons rfl (TO_append 1 rfl Tryd.underlying49 zb51 rfl (by decide) rfl rfl rfl (Shows.at 0 rfl) ?oc102q90 ?bb102q90 ?bc102q90 fun A102 c102 hc102 => ?_)
      case oc102q90 => (simp [Value.oneCell'])
      case bb102q90 => omega
      case bc102q90 => omega
      refine TL_pure (d := (some 10)) rfl rfl rfl (PV_assign rfl) ?_
      refine TL_nil ?_
      refine T_region ?_
      refine TL_pure (d := (some 30)) rfl rfl rfl (PV_move rfl) ?_
      refine TL_pure (d := (some 31)) rfl rfl rfl (PV.cast (PV_bin rfl rfl bin_add) (wr64 (by omega))) ?_
      refine TL_pure (d := (some 11)) rfl rfl rfl (PV_assign rfl) ?_
      refine TL_nil ?_
      refine ?L2
      case L2 =>
        refine ⟨i + 1, A102, c102, ⟨by omega, by omega⟩, by omega, (by repeat (first | exact FrSub.nil _ | refine FrSub.cons rfl ?_)), ?_⟩
        rw [hcell]
        exact Has.of_sub (by repeat (first | exact List.Sublist.refl _ | exact List.sublist_append_right _ _ | exact List.sublist_append_left _ _ | apply List.Sublist.cons_cons | apply List.Sublist.cons | refine List.Sublist.trans ?_ (List.sublist_append_left _ _)))
    · obtain rfl : i = 60 := by omega
      have ht : (nzL L).take 60 = nzL L := List.take_of_length_le (by rw [nzL_len]; exact Nat.le_refl _)
      rw [ht]
      obtain ⟨fx, hfx⟩ : ∃ x, (Lk.start (Sn.of a (waitL b) (blksL l false (mn % 5)) true true) (Rc.of a (waitL b) 1 true true 1)).run (nzL L) 2000 = x := ⟨_, rfl⟩
      obtain ⟨h1, h2⟩ := ends_run hw hL3 (by omega) hq fx hfx
      have hml2 := nzL_len L
      have hlenq : ∀ q ∈ blksL l false (mn % 5), q.length = 128 := fun q hqm => by
        obtain ⟨j, hj, rfl⟩ := List.mem_map.1 hqm
        exact blkL_len _ _ _
      by_cases hcase : mn % 5 < L
      · obtain ⟨ho, he1⟩ := h1 (by omega)
        have v1 : Value.bool fx.ov = .bool true := by rw [ho]
        have v2 : errV fx.e1 = .nilIface := by rw [he1]; rfl
        refine T_seq ?_
        refine T_seq ?_
        refine T_region ?_
        refine TL_pure (d := (some 28)) rfl rfl rfl (PV_move rfl) ?_
        refine TL_pure (d := (some 29)) rfl rfl rfl (PV_bin rfl rfl bin_lss) ?_
        refine TL_nil ?_
        refine T_else rfl (by rfl) ?_
        refine T_exit ?_
        refine T_seq ?_
        refine T_region ?_
        refine TL_pure (d := (some 41)) rfl rfl rfl (PV_loadAt Tryd.underlying23 rfl sz23 rfl (Rds.take 1 rfl rfl rfl)) ?_
        refine TL_pure (d := (some 42)) rfl rfl rfl (PV_move rfl) ?_
        refine TL_cons rfl (TO_call0 call8 rfl rfl (t58 _ _ _ _ ?sd20002q110_4 hbn ?sd20002q110_6 ?sd20002q110_7) ?_)
        case sd20002q110_4 => exact SBlk.mono h_8_0 (fun w h => h.sub (by (repeat (first | exact List.Sublist.refl _ | exact List.sublist_append_right _ _ | exact List.sublist_append_left _ _ | apply List.Sublist.cons | refine List.Sublist.trans ?_ (List.sublist_append_left _ _))); done))
        case sd20002q110_6 => omega
        case sd20002q110_7 => with_reducible assumption
        rintro v43_20003 H43_20003 ⟨g_20003, A'_20003, c'_20003, N_20003, rfl, h_20003_0, rfl⟩
        refine TL_pure (d := (some 12)) rfl rfl rfl (PV_assign rfl) ?_
        refine TL_nil ?_
        refine T_seq ?_
        refine T_region ?_
        refine TL_pure (d := (some 44)) rfl rfl rfl (PV_move rfl) ?_
        refine TL_pure (d := (some 45)) rfl rfl rfl (PV_loadAt Tryd.underlying23 rfl sz23 rfl (Rds.take 2 rfl rfl rfl)) ?_
        refine TL_cons rfl (TO_call0 call15 rfl rfl (t69 _ _ _ _ _ _) ?_)
        rintro v46_20006 H46_20006 ⟨g_20006, rfl, rfl⟩
        refine TL_pure (d := (some 47)) rfl rfl rfl (PV_move rfl) ?_
        refine TL_perm ((perm_pick (i := 3) rfl).trans (List.Perm.cons _ ((perm_pick (i := 0) rfl).trans (List.Perm.cons _ ((perm_pick (i := 0) rfl).trans (List.Perm.cons _ ((perm_pick (i := 0) rfl).trans (List.Perm.cons _ (List.Perm.refl _))))))))) ?_
        refine TL_cons rfl (TO_call0 call23 rfl rfl (t80A (ns := nzL L) fx ho he1 (Shows.at 0 rfl) ?sd20008q110_1 ?sd20008q110_2 ?sd20008q110_3 ?sd20008q110_4 ?sd20008q110_5 ?sd20008q110_6) ?_)
        case sd20008q110_1 => omega
        case sd20008q110_2 => exact h_20003_0
        case sd20008q110_3 => decide
        case sd20008q110_4 => with_reducible assumption
        case sd20008q110_5 => omega
        case sd20008q110_6 => omega
        rintro v48_20009 H48_20009 ⟨A_20009, k_20009, rfl, h_20009_0, rfl⟩
        refine TL_cons rfl (TO_alloc rfl zr53 fun g20010 => ?_)
        refine TL_cons rfl (TO_store 0 rfl rfl rfl sz53 rfl rfl rfl (List.forall_mem_cons.2 ⟨by first | rfl | exact errV_one _ | exact errR_one _, List.forall_mem_cons.2 ⟨by first | rfl | exact errV_one _ | exact errR_one _, List.forall_mem_cons.2 ⟨by first | rfl | exact errV_one _ | exact errR_one _, List.forall_mem_cons.2 ⟨by first | rfl | exact errV_one _ | exact errR_one _, List.forall_mem_cons.2 ⟨by first | rfl | exact errV_one _ | exact errR_one _, List.forall_mem_cons.2 ⟨by first | rfl | exact errV_one _ | exact errR_one _, by simp⟩⟩⟩⟩⟩⟩) (by first | exact Nat.le_of_ble_eq_true rfl | (simp; done) | (simp; omega) | omega) ?_)
        refine TL_nil ?_
        refine T_seq ?_
        refine T_seq ?_
        refine T_region ?_
        refine TL_pure (d := (some 49)) rfl rfl rfl (PV_move rfl) ?_
        refine TL_pure (d := (some 50)) rfl rfl rfl (PV.cast (PV_bin rfl rfl (bin_rem (by decide))) e35) ?_
        refine TL_pure (d := (some 51)) rfl rfl rfl (PV.cast (PV_conv (by rw [Tryd.underlying5]; rfl) Tryd.underlying3 rfl) (wr64 (by omega))) ?_
        refine TL_pure (d := (some 52)) rfl rfl rfl (PV_move rfl) ?_
        refine TL_pure (d := (some 53)) rfl rfl rfl (PV_len_slice Tryd.underlying28 rfl) ?_
        refine TL_pure (d := (some 54)) rfl rfl rfl (PV_bin rfl rfl bin_gtr) ?_
        refine TL_nil ?_
        refine T_then rfl (by exact decide_eq_true (by omega)) ?_
        refine T_seq ?_
        refine T_region ?_
        refine TL_pure (d := (some 55)) rfl rfl rfl (PV_fieldAddr (D := 0) Tryd.underlying53 rfl sz4 (by decide) rfl rfl) ?_
        refine TL_pure (d := (some 56)) rfl rfl rfl (PV_load Tryd.underlying4 rfl rfl (Rd.at 0 rfl rfl)) ?_
        refine TL_pure (d := (some 57)) rfl rfl rfl (PV_move rfl) ?_
        refine TL_yes rfl rfl rfl (TO_pure rfl (PV_fieldAddr (D := 1) Tryd.underlying53 rfl sz31 (by decide) rfl rfl) ?_)
        refine TL_yes rfl rfl rfl (TO_pure rfl (PV_load Tryd.underlying31 rfl rfl (Rd.at 0 rfl rfl)) ?_)
        refine TL_yes rfl rfl rfl (TO_pure rfl (PV_bin rfl rfl (bin_nil_nil Tryd.underlying31)) ?_)
        refine TL_pure (d := (some 61)) rfl rfl rfl (PV_pickAnd rfl rfl rfl) ?_
        refine TL_pure (d := (some 8)) rfl rfl rfl (PV_assign rfl) ?_
        refine TL_nil ?_
        refine T_ret ?_
        refine ret_ret (ResV_one rfl rfl) ⟨_, ?zb20012q110, ⟨rfl, rfl⟩⟩
        case zb20012q110 => exact (by (repeat (first | exact List.Sublist.refl _ | exact List.sublist_append_right _ _ | exact List.sublist_append_left _ _ | apply List.Sublist.cons_cons | apply List.Sublist.cons | refine List.Sublist.trans ?_ (List.sublist_append_left _ _))); done)
      · obtain ⟨hse, hdat⟩ := h2 (by omega)
        have hdl : fx.r.dat.length = 128 * L := by
          rw [hdat, flat128' _ (fun q hqm => hlenq q (List.mem_of_mem_take hqm)), List.length_take, hbn, Nat.min_eq_left (by omega)]
        have e86 : Value.int .i64 (min ((mn % 5 : Nat) : Int) (L : Int)) = .int .i64 (L : Int) := by congr 1; omega
        have e87 : Value.int .i64 (IntKind.i64.wrap (128 * (L : Int))) = .int .i64 ((128 * L : Nat) : Int) := by
          rw [show (128 : Int) * (L : Int) = ((128 * L : Nat) : Int) by push_cast; rfl]
          exact wr64 (by omega)
        refine T_seq ?_
        refine T_seq ?_
        refine T_region ?_
        refine TL_pure (d := (some 28)) rfl rfl rfl (PV_move rfl) ?_
        refine TL_pure (d := (some 29)) rfl rfl rfl (PV_bin rfl rfl bin_lss) ?_
        refine TL_nil ?_
        refine T_else rfl (by rfl) ?_
        refine T_exit ?_
        refine T_seq ?_
        refine T_region ?_
        refine TL_pure (d := (some 41)) rfl rfl rfl (PV_loadAt Tryd.underlying23 rfl sz23 rfl (Rds.take 1 rfl rfl rfl)) ?_
        refine TL_pure (d := (some 42)) rfl rfl rfl (PV_move rfl) ?_
        refine TL_cons rfl (TO_call0 call8 rfl rfl (t58 _ _ _ _ ?sd30002q124_4 hbn ?sd30002q124_6 ?sd30002q124_7) ?_)
        case sd30002q124_4 => exact SBlk.mono h_8_0 (fun w h => h.sub (by (repeat (first | exact List.Sublist.refl _ | exact List.sublist_append_right _ _ | exact List.sublist_append_left _ _ | apply List.Sublist.cons | refine List.Sublist.trans ?_ (List.sublist_append_left _ _))); done))
        case sd30002q124_6 => omega
        case sd30002q124_7 => with_reducible assumption
        rintro v43_30003 H43_30003 ⟨g_30003, A'_30003, c'_30003, N_30003, rfl, h_30003_0, rfl⟩
        refine TL_pure (d := (some 12)) rfl rfl rfl (PV_assign rfl) ?_
        refine TL_nil ?_
        refine T_seq ?_
        refine T_region ?_
        refine TL_pure (d := (some 44)) rfl rfl rfl (PV_move rfl) ?_
        refine TL_pure (d := (some 45)) rfl rfl rfl (PV_loadAt Tryd.underlying23 rfl sz23 rfl (Rds.take 2 rfl rfl rfl)) ?_
        refine TL_cons rfl (TO_call0 call15 rfl rfl (t69 _ _ _ _ _ _) ?_)
        rintro v46_30006 H46_30006 ⟨g_30006, rfl, rfl⟩
        refine TL_pure (d := (some 47)) rfl rfl rfl (PV_move rfl) ?_
        refine TL_perm ((perm_pick (i := 3) rfl).trans (List.Perm.cons _ ((perm_pick (i := 0) rfl).trans (List.Perm.cons _ ((perm_pick (i := 0) rfl).trans (List.Perm.cons _ ((perm_pick (i := 0) rfl).trans (List.Perm.cons _ (List.Perm.refl _))))))))) ?_
        refine TL_cons rfl (TO_call0 call23 rfl rfl (t80B (ns := nzL L) fx hdl (Shows.at 0 rfl) ?sd30008q124_1 ?sd30008q124_2 ?sd30008q124_3 ?sd30008q124_4 ?sd30008q124_5 ?sd30008q124_6) ?_)
        case sd30008q124_1 => omega
        case sd30008q124_2 => exact h_30003_0
        case sd30008q124_3 => decide
        case sd30008q124_4 => with_reducible assumption
        case sd30008q124_5 => omega
        case sd30008q124_6 => omega
        rintro v48_30009 H48_30009 ⟨A_30009, k_30009, rfl, h_30009_0, rfl⟩
        refine TL_cons rfl (TO_alloc rfl zr53 fun g30010 => ?_)
        refine TL_cons rfl (TO_store 0 rfl rfl rfl sz53 rfl rfl rfl (List.forall_mem_cons.2 ⟨by first | rfl | exact errV_one _ | exact errR_one _, List.forall_mem_cons.2 ⟨by first | rfl | exact errV_one _ | exact errR_one _, List.forall_mem_cons.2 ⟨by first | rfl | exact errV_one _ | exact errR_one _, List.forall_mem_cons.2 ⟨by first | rfl | exact errV_one _ | exact errR_one _, List.forall_mem_cons.2 ⟨by first | rfl | exact errV_one _ | exact errR_one _, List.forall_mem_cons.2 ⟨by first | rfl | exact errV_one _ | exact errR_one _, by simp⟩⟩⟩⟩⟩⟩) (by first | exact Nat.le_of_ble_eq_true rfl | (simp; done) | (simp; omega) | omega) ?_)
        refine TL_nil ?_
        refine T_seq ?_
        refine T_seq ?_
        refine T_region ?_
        refine TL_pure (d := (some 49)) rfl rfl rfl (PV_move rfl) ?_
        refine TL_pure (d := (some 50)) rfl rfl rfl (PV.cast (PV_bin rfl rfl (bin_rem (by decide))) e35) ?_
        refine TL_pure (d := (some 51)) rfl rfl rfl (PV.cast (PV_conv (by rw [Tryd.underlying5]; rfl) Tryd.underlying3 rfl) (wr64 (by omega))) ?_
        refine TL_pure (d := (some 52)) rfl rfl rfl (PV_move rfl) ?_
        refine TL_pure (d := (some 53)) rfl rfl rfl (PV_len_slice Tryd.underlying28 rfl) ?_
        refine TL_pure (d := (some 54)) rfl rfl rfl (PV_bin rfl rfl bin_gtr) ?_
        refine TL_nil ?_
        refine T_else rfl (by exact decide_eq_false (by omega)) ?_
        refine T_skip ?_
        refine T_seq ?_
        refine T_region ?_
        refine TL_pure (d := (some 63)) rfl rfl rfl (PV_move rfl) ?_
        refine TL_perm ((perm_pick (i := 2) rfl).trans (List.Perm.cons _ (List.Perm.refl _))) ?_
        refine TL_cons rfl (TO_call0 call10 rfl rfl (t61x hse) ?_)
        rintro v64_30014 H64_30014 ⟨rfl, rfl⟩
        refine TL_pure (d := (some 62)) rfl rfl rfl (PV_move rfl) ?_
        refine TL_pure (d := (some 65)) rfl rfl rfl (PV_extract rfl rfl) ?_
        refine TL_pure (d := (some 66)) rfl rfl rfl (PV_extract rfl rfl) ?_
        refine TL_pure (d := (some 14)) rfl rfl rfl (PV_assign rfl) ?_
        refine TL_pure (d := (some 15)) rfl rfl rfl (PV_assign rfl) ?_
        refine TL_nil ?_
        refine T_seq ?_
        refine T_region ?_
        refine TL_pure (d := (some 67)) rfl rfl rfl (PV_move rfl) ?_
        refine TL_pure (d := (some 68)) rfl rfl rfl (PV_move rfl) ?_
        refine TL_yes rfl rfl rfl (TO_pure rfl (PV_move rfl) ?_)
        refine TL_yes rfl rfl rfl (TO_bs (cs := [_]) Tryd.underlying75 zs35 (by decide) rfl rfl rfl rfl rfl rfl fun g30015 => ?_)
        refine TL_yes rfl rfl rfl (TO_call0 call24 rfl rfl (errs_t ?sd30017q124_0 ?sd30017q124_1 (Shows.at 0 rfl)) ?_)
        case sd30017q124_0 => exact hL
        case sd30017q124_1 => exact hB0
        rintro v71_30018 H71_30018 ⟨rfl, rfl⟩
        refine TL_pure (d := (some 72)) rfl rfl rfl (PV_pickAnd rfl rfl rfl) ?_
        refine TL_pure (d := (some 73)) rfl rfl rfl (PV_move rfl) ?_
        refine TL_yes rfl rfl rfl (TO_pure rfl (PV_move rfl) ?_)
        refine TL_yes rfl rfl rfl (TO_pure rfl (PV_bin rfl rfl (bin_if_nnil Tryd.underlying31)) ?_)
        refine TL_pure (d := (some 76)) rfl rfl rfl (PV_pickAnd rfl rfl rfl) ?_
        refine TL_pure (d := (some 77)) rfl rfl rfl (PV_move rfl) ?_
        refine TL_yes rfl rfl rfl (TO_pure rfl (PV_fieldAddr (D := 3) Tryd.underlying53 rfl sz24 (by decide) rfl rfl) ?_)
        refine TL_yes rfl rfl rfl (TO_pure rfl (PV_load Tryd.underlying24 rfl rfl (Rd.at 2 rfl rfl)) ?_)
        refine TL_yes rfl rfl rfl (TO_pure rfl (PV_len_slice Tryd.underlying24 rfl) ?_)
        refine TL_yes rfl rfl rfl (TO_pure rfl (PV_move rfl) ?_)
        refine TL_yes rfl rfl rfl (TO_pure rfl (PV_len_slice Tryd.underlying28 rfl) ?_)
        refine TL_yes rfl rfl rfl (TO_pure rfl (PV_move rfl) ?_)
        refine TL_yes rfl rfl rfl (TO_pure rfl (PV.cast (PV_bin rfl rfl (bin_rem (by decide))) e35) ?_)
        refine TL_yes rfl rfl rfl (TO_pure rfl (PV.cast (PV_conv (by rw [Tryd.underlying5]; rfl) Tryd.underlying3 rfl) (wr64 (by omega))) ?_)
        refine TL_yes rfl rfl rfl (TO_pure rfl (PV.cast (PV_min rfl rfl) e86) ?_)
        refine TL_yes rfl rfl rfl (TO_pure rfl (PV.cast (PV_bin rfl rfl bin_mul) e87) ?_)
        refine TL_yes rfl rfl rfl (TO_pure rfl (PV_bin rfl rfl bin_eql) ?_)
        refine TL_pure (d := (some 89)) rfl rfl rfl (PV_pickAnd rfl rfl rfl) ?_
        refine TL_pure (d := (some 8)) rfl rfl rfl (PV_assign rfl) ?_
        refine TL_nil ?_
        refine T_ret ?_
        refine ret_ret (ResV_one rfl rfl) ⟨_, ?zb30019q124, ⟨?L301, rfl⟩⟩
        case zb30019q124 => exact (by (repeat (first | exact List.Sublist.refl _ | exact List.sublist_append_right _ _ | exact List.sublist_append_left _ _ | apply List.Sublist.cons_cons | apply List.Sublist.cons | refine List.Sublist.trans ?_ (List.sublist_append_left _ _))); done)
        case L301 => simp
end
end Go.Proofs.YtcbkcggijejooaaDoor.SL
