import Derived.Test.YtcbkcggijejooaaT9
import Derived.Test.YtcbkcggijejooaaL7
/- LinkTame, walked. No statement is proved here. -/
set_option linter.unusedVariables false
set_option linter.unusedSimpArgs false
set_option maxRecDepth 100000
set_option maxHeartbeats 8000000
namespace Go.Proofs.Ytcbkcggijejooaa.SL
open Go Go.RowKit
section
variable {w0 : World} {B : Nat} {H X : List Chunk}
theorem nzCells_app2 : ∀ (xs ys : List Nz), nzCells (xs ++ ys) = nzCells xs ++ nzCells ys
  | [], ys => rfl
  | z :: xs, ys => by simp only [List.cons_append, nzCells, nzCells_app2 xs ys]
theorem tmod100' (b : Int) : 0 ≤ Int.tmod (Int.tmod b 100 + 100) 100 ∧ Int.tmod (Int.tmod b 100 + 100) 100 < 100 ∧ -100 < Int.tmod b 100 ∧ Int.tmod b 100 < 100 := by
  have h1 := Int.tmod_lt_of_pos b (show (0 : Int) < 100 by decide)
  have h2 : -100 < Int.tmod b 100 := by
    have := Int.tmod_lt_of_pos (-b) (show (0 : Int) < 100 by decide)
    rw [Int.neg_tmod] at this
    omega
  exact ⟨Int.tmod_nonneg _ (by omega), Int.tmod_lt_of_pos _ (by decide), h2, h1⟩
/-- the noise, made tame -/
def tmZ (z : Nz) : Nz := ⟨z.lost, 1 + Int.tmod (Int.tmod z.at_ 100 + 100) 100, z.by_⟩
def badC (z : Nz) (c : Nat) : Nat := if z.lost = true ∨ z.by_ ≠ 0 then c + 1 else 0
def tameR (T : Nat) : Nat → List Nz → List Nz
  | c, [] => []
  | c, z :: zs => if T ≤ badC z c then ⟨false, 0, 0⟩ :: tameR T 0 zs else tmZ z :: tameR T (badC z c) zs
def tstep (T : Nat) (st : List Nz × Nat) (z : Nz) : List Nz × Nat := if T ≤ badC z st.2 then (st.1 ++ [⟨false, 0, 0⟩], 0) else (st.1 ++ [tmZ z], badC z st.2)
theorem tame_fold (T : Nat) : ∀ (ns : List Nz) (acc : List Nz) (c : Nat), (ns.foldl (tstep T) (acc, c)).1 = acc ++ tameR T c ns
  | [], acc, c => by simp [tameR]
  | z :: zs, acc, c => by
    rw [List.foldl_cons]
    by_cases h : T ≤ badC z c
    · have e : tstep T (acc, c) z = (acc ++ [⟨false, 0, 0⟩], 0) := if_pos h
      have e2 : tameR T c (z :: zs) = ⟨false, 0, 0⟩ :: tameR T 0 zs := if_pos h
      rw [e, tame_fold T zs, e2]
      simp
    · have e : tstep T (acc, c) z = (acc ++ [tmZ z], badC z c) := if_neg h
      have e2 : tameR T c (z :: zs) = tmZ z :: tameR T (badC z c) zs := if_neg h
      rw [e, tame_fold T zs, e2]
      simp
theorem tameR_ok {T : Nat} (hT : 2 ≤ T) : ∀ (ns : List Nz) (c : Nat), TameOk T c (tameR T c ns)
  | [], c => trivial
  | z :: zs, c => by
    unfold tameR
    have h := tmod100' z.at_
    by_cases hb : z.lost = true ∨ z.by_ ≠ 0
    · have e : badC z c = c + 1 := if_pos hb
      rw [e]
      split
      · exact .inr ⟨rfl, rfl, tameR_ok hT zs 0⟩
      · exact .inl ⟨by show 1 ≤ 1 + _; omega, by show 1 + _ ≤ 100; omega, hb, by omega, tameR_ok hT zs (c + 1)⟩
    · have e : badC z c = 0 := if_neg hb
      rw [e, if_neg (by omega)]
      have h1 : z.lost = false := by
        cases h : z.lost
        · rfl
        · exact absurd (Or.inl h) hb
      have h2 : z.by_ = 0 := by
        by_cases h : z.by_ = 0
        · exact h
        · exact absurd (Or.inr h) hb
      exact .inr ⟨h1, h2, tameR_ok hT zs 0⟩
theorem tstep_len (T : Nat) (st : List Nz × Nat) (z : Nz) : (tstep T st z).1.length = st.1.length + 1 := by
  unfold tstep
  split <;> simp
theorem tame_len (T : Nat) : ∀ (ns : List Nz) (st : List Nz × Nat), (ns.foldl (tstep T) st).1.length = st.1.length + ns.length
  | [], st => rfl
  | z :: zs, st => by
    rw [List.foldl_cons, tame_len T zs, tstep_len, List.length_cons]
    omega
theorem badC_le (z : Nz) (c : Nat) : badC z c ≤ c + 1 := by unfold badC; split <;> omega
theorem tame_bad (T : Nat) : ∀ (ns : List Nz) (st : List Nz × Nat), (ns.foldl (tstep T) st).2 ≤ st.2 + ns.length
  | [], st => Nat.le_refl _
  | z :: zs, st => by
    rw [List.foldl_cons, List.length_cons]
    have h1 := tame_bad T zs (tstep T st z)
    have h2 : (tstep T st z).2 ≤ st.2 + 1 := by
      unfold tstep
      have := badC_le z st.2
      split
      · exact Nat.zero_le _
      · exact this
    omega
theorem Tame_t {An : Option Addr} {cn mz T : Nat} {ns : List Nz} (hT : 2 ≤ T) (hT4 : T ≤ 4) (hN : Shows (WH w0 B H) An mz 3 (nzCells ns)) (hmz : ns.length = mz) (hy : mz * 24 ≤ 140737488351232) :
    TCall Try.prog w0 B 19 #[.slice An mz cn, .int .i64 (T : Int)] (fun r H' => ∃ (A : Option Addr) (c : Nat), r = .slice A mz c ∧ mz ≤ c ∧ H' = .sl (.slice A mz c) 3 mz (nzCells (tameR T 0 ns)) :: H) H := by
  refine TCall_intro (args := [_, _]) Try.func19 rfl Try.ntmps19 (Nat.le_of_ble_eq_true rfl) ?_
  refine T_seq ?_
  refine T_region ?_
  refine TL_pure (d := (some 4)) rfl rfl rfl (PV_assign rfl) ?_
  refine TL_nil ?_
  refine T_seq ?_
  refine T_region ?_
  refine TL_pure (d := (some 5)) rfl rfl rfl (PV_assign rfl) ?_
  refine TL_nil ?_
  refine T_seq ?_
  refine T_region ?_
  refine TL_pure (d := (some 6)) rfl rfl rfl (PV_assign rfl) ?_
  refine TL_nil ?_
  refine T_seq ?_
  refine T_seq ?_
  refine T_region ?_
  refine TL_pure (d := (some 9)) rfl rfl rfl (PV_move rfl) ?_
  refine TL_pure (d := (some 10)) rfl rfl rfl (PV_len_slice Try.underlying44 rfl) ?_
  refine TL_pure (d := (some 11)) rfl rfl rfl (PV_move rfl) ?_
  refine TL_nil ?_
  refine T_block ?_
  refine ?L1
  case L1 =>
    refine T_addNil 3 ?_
    refine T_loopP3 (fun (i : Nat) (Ao : Option Addr) (co : Nat) => i ≤ mz ∧ i ≤ co) (fun i _ _ => mz - i) (fun i Ao co => [(1, .int .i64 (T : Int)), (5, .slice Ao i co), (6, .int .i64 ((((ns.take i).foldl (tstep T) ([], 0)).2 : Nat) : Int)), (9, .slice An mz cn), (10, .int .i64 (mz : Int)), (11, .int .i64 (i : Int))]) (fun i Ao co => .sl (.slice Ao i co) 3 i (nzCells ((ns.take i).foldl (tstep T) ([], 0)).1) :: H) 0 none 0 ⟨Nat.zero_le _, Nat.le_refl _⟩ (by repeat (first | exact FrSub.nil _ | refine FrSub.cons rfl ?_)) (Has.of_sub (by repeat (first | exact List.Sublist.refl _ | exact List.sublist_append_right _ _ | exact List.sublist_append_left _ _ | apply List.Sublist.cons_cons | apply List.Sublist.cons | refine List.Sublist.trans ?_ (List.sublist_append_left _ _)))) ?_
    rintro i Ao co ⟨hi, hic⟩
    by_cases him : i < mz
    · obtain ⟨z, hz⟩ : ∃ z, ns[i]? = some z := ⟨ns[i], List.getElem?_eq_getElem (by omega)⟩
      refine T_shows (hN.mono fun w h => h.sub (by repeat (first | exact List.Sublist.refl _ | exact List.sublist_append_right _ _ | exact List.sublist_append_left _ _ | apply List.Sublist.cons | refine List.Sublist.trans ?_ (List.sublist_append_left _ _)))) (by rw [nzCells_len]; omega) fun ga oa hA hrd => ?_
      subst hA
      have hds : RdsK (WH w0 B H) ga (oa + i * 3) 3 [.bool z.lost, .int .i64 z.at_, .int .u8 z.by_] := nz_rds hN i z hz
      have tm := tmod100' z.at_
      have e18 : Value.int .i64 (IntKind.i64.wrap (Int.tmod z.at_ 100 + 100)) = .int .i64 (Int.tmod z.at_ 100 + 100) := wr64 (by omega)
      have e20 : Value.int .i64 (IntKind.i64.wrap (1 + Int.tmod (Int.tmod z.at_ 100 + 100) 100)) = .int .i64 (1 + Int.tmod (Int.tmod z.at_ 100 + 100) 100) := wr64 (by omega)
      have hst : (ns.take (i + 1)).foldl (tstep T) ([], 0) = tstep T ((ns.take i).foldl (tstep T) ([], 0)) z := by
        rw [List.take_add_one (i := i), hz, List.foldl_append]
        rfl
      have hln := tame_len T (ns.take i) ([], 0)
      have hbd := tame_bad T (ns.take i) ([], 0)
      have htl : (ns.take i).length = i := by rw [List.length_take, Nat.min_eq_left (by omega)]
      obtain ⟨st, hs⟩ : ∃ st, (ns.take i).foldl (tstep T) ([], 0) = st := ⟨_, rfl⟩
      rw [hs] at hln hbd hst ⊢
      obtain ⟨o, c⟩ := st
      have hol : o.length = i := by
        have : o.length = ([] : List Nz).length + (ns.take i).length := hln
        simpa [htl] using this
      have hci : c ≤ i := by
        have : c ≤ 0 + (ns.take i).length := hbd
        omega
      have hlc : (nzCells o).length = i * 3 := by rw [nzCells_len, hol]
      have e30 : Value.int .i64 (IntKind.i64.wrap ((c : Int) + 1)) = .int .i64 ((c + 1 : Nat) : Int) := wr64n (c + 1) (by push_cast; rfl) (by omega)
      by_cases hov : T ≤ c + 1
      · rcases Bool.eq_false_or_eq_true z.lost with hl | hl
        · have hts : tstep T (o, c) z = (o ++ [⟨false, 0, 0⟩], 0) := by
            have e : badC z c = c + 1 := if_pos (.inl hl)
            show (if T ≤ badC z c then _ else _) = _
            rw [e, if_pos hov]
          refine T_seq ?_
          refine T_region ?_
          refine TL_pure (d := (some 12)) rfl rfl rfl (PV_bin rfl rfl bin_lss) ?_
          refine TL_nil ?_
          refine T_seq ?_
          refine T_then rfl (by (simp [*]; done)) ?_
          refine T_skip ?_
          refine T_seq ?_
          refine T_block ?_
          refine T_seq ?_
          refine T_region ?_
          refine TL_pure (d := (some 13)) rfl rfl rfl (PV_indexAddr Try.underlying44 sz68 rfl rfl rfl (by first | omega | decide | assumption)) ?_
          refine TL_pure (d := (some 14)) rfl rfl rfl (PV_loadAt Try.underlying68 rfl sz68 rfl (RdsK.mono hds (fun w h => h.sub (by (repeat (first | exact List.Sublist.refl _ | exact List.sublist_append_right _ _ | exact List.sublist_append_left _ _ | apply List.Sublist.cons | refine List.Sublist.trans ?_ (List.sublist_append_left _ _))); done)))) ?_
          refine TL_cons rfl (TO_alloc rfl zr68 fun g1001 => ?_)
          refine TL_cons rfl (TO_store 0 rfl rfl rfl sz68 rfl rfl rfl (List.forall_mem_cons.2 ⟨by first | rfl, List.forall_mem_cons.2 ⟨by first | rfl, List.forall_mem_cons.2 ⟨by first | rfl, by simp⟩⟩⟩) (by first | exact Nat.le_of_ble_eq_true rfl | (simp; done) | (simp; omega) | omega) ?_)
          refine TL_nil ?_
          refine T_seq ?_
          refine T_region ?_
          refine TL_pure (d := (some 15)) rfl rfl rfl (PV_fieldAddr (D := 1) Try.underlying68 rfl sz3 (by decide) rfl rfl) ?_
          refine TL_pure (d := (some 16)) rfl rfl rfl (PV_load Try.underlying3 rfl rfl (Rd.at 0 rfl rfl)) ?_
          refine TL_pure (d := (some 17)) rfl rfl rfl (PV_bin rfl rfl (bin_rem (by decide))) ?_
          refine TL_pure (d := (some 18)) rfl rfl rfl (PV.cast (PV_bin rfl rfl bin_add) e18) ?_
          refine TL_pure (d := (some 19)) rfl rfl rfl (PV_bin rfl rfl (bin_rem (by decide))) ?_
          refine TL_pure (d := (some 20)) rfl rfl rfl (PV.cast (PV_bin rfl rfl bin_add) e20) ?_
          refine TL_pure (d := (some 21)) rfl rfl rfl (PV_fieldAddr (D := 1) Try.underlying68 rfl sz3 (by decide) rfl rfl) ?_
          refine TL_cons rfl (TO_store1 0 rfl rfl rfl sz3 rfl rfl rfl (by first | exact Nat.le_of_ble_eq_true rfl | (simp; done) | (simp; omega) | omega) ?_)
          refine TL_nil ?_
          refine T_seq ?_
          refine T_seq ?_
          refine T_region ?_
          refine TL_pure (d := (some 22)) rfl rfl rfl (PV_fieldAddr (D := 0) Try.underlying68 rfl sz4 (by decide) rfl rfl) ?_
          refine TL_pure (d := (some 23)) rfl rfl rfl (PV_load Try.underlying4 rfl rfl (Rd.at 0 rfl rfl)) ?_
          refine TL_pure (d := (some 24)) rfl rfl rfl (PV_move rfl) ?_
          refine TL_no (b := true) rfl rfl (gtrue (by with_reducible assumption)) rfl ?_
          refine TL_no (b := true) rfl rfl (gtrue (by with_reducible assumption)) rfl ?_
          refine TL_no (b := true) rfl rfl (gtrue (by with_reducible assumption)) rfl ?_
          refine TL_pure (d := (some 28)) rfl rfl rfl (PV_pickT rfl (by first | assumption | rfl | (simp; done) | (simp; omega) | (simp [*]; done) | (simp [*]; omega)) rfl rfl) ?_
          refine TL_nil ?_
          refine T_then rfl (by rfl) ?_
          refine T_region ?_
          refine TL_pure (d := (some 29)) rfl rfl rfl (PV_move rfl) ?_
          refine TL_pure (d := (some 30)) rfl rfl rfl (PV.cast (PV_bin rfl rfl bin_add) e30) ?_
          refine TL_pure (d := (some 6)) rfl rfl rfl (PV_assign rfl) ?_
          refine TL_nil ?_
          refine T_seq ?_
          refine T_seq ?_
          refine T_region ?_
          refine TL_pure (d := (some 31)) rfl rfl rfl (PV_move rfl) ?_
          refine TL_pure (d := (some 32)) rfl rfl rfl (PV_move rfl) ?_
          refine TL_pure (d := (some 33)) rfl rfl rfl (PV_bin rfl rfl bin_geq) ?_
          refine TL_nil ?_
          refine T_then rfl (by exact decide_eq_true (by omega)) ?_
          refine T_region ?_
          refine TL_pure (d := (some 34)) rfl rfl rfl (PV_bld (cs := [_, _, _]) Try.underlying68 pl68 zr68 rfl rfl) ?_
          refine TL_cons rfl (TO_store 0 rfl rfl rfl sz68 rfl rfl rfl (List.forall_mem_cons.2 ⟨by first | rfl, List.forall_mem_cons.2 ⟨by first | rfl, List.forall_mem_cons.2 ⟨by first | rfl, by simp⟩⟩⟩) (by first | exact Nat.le_of_ble_eq_true rfl | (simp; done) | (simp; omega) | omega) ?_)
          refine TL_pure (d := (some 6)) rfl rfl rfl (PV_assign rfl) ?_
          refine TL_nil ?_
          refine T_region ?_
          refine TL_pure (d := (some 35)) rfl rfl rfl (PV_move rfl) ?_
          refine TL_pure (d := (some 36)) rfl rfl rfl (PV_loadAt Try.underlying68 rfl sz68 rfl (Rds.take 0 rfl rfl rfl)) ?_
          refine TL_cons rfl (TO_bs (cs := [_, _, _]) Try.underlying44 zs68 (by decide) rfl rfl rfl rfl rfl rfl fun g1005 => ?_)
          refine TL_cons rfl (TO_append 2 rfl Try.underlying44 zb68 rfl (by decide) rfl rfl rfl (Shows.at 0 rfl) ?oc1006q124 ?bb1006q124 ?bc1006q124 fun A1006 c1006 hc1006 => ?_)
          case oc1006q124 => (simp [Value.oneCell'])
          case bb1006q124 => omega
          case bc1006q124 => omega
          refine TL_pure (d := (some 5)) rfl rfl rfl (PV_assign rfl) ?_
          refine TL_nil ?_
          refine T_region ?_
          refine TL_pure (d := (some 39)) rfl rfl rfl (PV.cast (PV_bin rfl rfl bin_add) (wr64 (by omega))) ?_
          refine TL_pure (d := (some 11)) rfl rfl rfl (PV_move rfl) ?_
          refine TL_nil ?_
          refine ?L11
          case L11 =>
            refine ⟨i + 1, A1006, c1006, ⟨by omega, by omega⟩, by omega, ?_, ?_⟩
            · rw [hst, hts]
              repeat (first | exact FrSub.nil _ | refine FrSub.cons rfl ?_)
            · rw [hst, hts]
              show Has _ (.sl _ 3 _ (nzCells (o ++ [_])) :: _)
              rw [nzCells_app2]
              exact Has.of_sub (by repeat (first | exact List.Sublist.refl _ | exact List.sublist_append_right _ _ | exact List.sublist_append_left _ _ | apply List.Sublist.cons_cons | apply List.Sublist.cons | refine List.Sublist.trans ?_ (List.sublist_append_left _ _)))
        · by_cases hby : z.by_ = 0
          · have hts : tstep T (o, c) z = (o ++ [tmZ z], 0) := by
              have e : badC z c = 0 := if_neg (by rw [hl, hby]; simp)
              show (if T ≤ badC z c then _ else _) = _
              rw [e, if_neg (by omega)]
            refine T_seq ?_
            refine T_region ?_
            refine TL_pure (d := (some 12)) rfl rfl rfl (PV_bin rfl rfl bin_lss) ?_
            refine TL_nil ?_
            refine T_seq ?_
            refine T_then rfl (by (simp [*]; done)) ?_
            refine T_skip ?_
            refine T_seq ?_
            refine T_block ?_
            refine T_seq ?_
            refine T_region ?_
            refine TL_pure (d := (some 13)) rfl rfl rfl (PV_indexAddr Try.underlying44 sz68 rfl rfl rfl (by first | omega | decide | assumption)) ?_
            refine TL_pure (d := (some 14)) rfl rfl rfl (PV_loadAt Try.underlying68 rfl sz68 rfl (RdsK.mono hds (fun w h => h.sub (by (repeat (first | exact List.Sublist.refl _ | exact List.sublist_append_right _ _ | exact List.sublist_append_left _ _ | apply List.Sublist.cons | refine List.Sublist.trans ?_ (List.sublist_append_left _ _))); done)))) ?_
            refine TL_cons rfl (TO_alloc rfl zr68 fun g2001 => ?_)
            refine TL_cons rfl (TO_store 0 rfl rfl rfl sz68 rfl rfl rfl (List.forall_mem_cons.2 ⟨by first | rfl, List.forall_mem_cons.2 ⟨by first | rfl, List.forall_mem_cons.2 ⟨by first | rfl, by simp⟩⟩⟩) (by first | exact Nat.le_of_ble_eq_true rfl | (simp; done) | (simp; omega) | omega) ?_)
            refine TL_nil ?_
            refine T_seq ?_
            refine T_region ?_
            refine TL_pure (d := (some 15)) rfl rfl rfl (PV_fieldAddr (D := 1) Try.underlying68 rfl sz3 (by decide) rfl rfl) ?_
            refine TL_pure (d := (some 16)) rfl rfl rfl (PV_load Try.underlying3 rfl rfl (Rd.at 0 rfl rfl)) ?_
            refine TL_pure (d := (some 17)) rfl rfl rfl (PV_bin rfl rfl (bin_rem (by decide))) ?_
            refine TL_pure (d := (some 18)) rfl rfl rfl (PV.cast (PV_bin rfl rfl bin_add) e18) ?_
            refine TL_pure (d := (some 19)) rfl rfl rfl (PV_bin rfl rfl (bin_rem (by decide))) ?_
            refine TL_pure (d := (some 20)) rfl rfl rfl (PV.cast (PV_bin rfl rfl bin_add) e20) ?_
            refine TL_pure (d := (some 21)) rfl rfl rfl (PV_fieldAddr (D := 1) Try.underlying68 rfl sz3 (by decide) rfl rfl) ?_
            refine TL_cons rfl (TO_store1 0 rfl rfl rfl sz3 rfl rfl rfl (by first | exact Nat.le_of_ble_eq_true rfl | (simp; done) | (simp; omega) | omega) ?_)
            refine TL_nil ?_
            refine T_seq ?_
            refine T_seq ?_
            refine T_region ?_
            refine TL_pure (d := (some 22)) rfl rfl rfl (PV_fieldAddr (D := 0) Try.underlying68 rfl sz4 (by decide) rfl rfl) ?_
            refine TL_pure (d := (some 23)) rfl rfl rfl (PV_load Try.underlying4 rfl rfl (Rd.at 0 rfl rfl)) ?_
            refine TL_pure (d := (some 24)) rfl rfl rfl (PV_move rfl) ?_
            refine TL_yes rfl rfl (gfalse (by with_reducible assumption)) (TO_pure rfl (PV_fieldAddr (D := 2) Try.underlying68 rfl sz5 (by decide) rfl rfl) ?_)
            refine TL_yes rfl rfl (gfalse (by with_reducible assumption)) (TO_pure rfl (PV_load Try.underlying5 rfl rfl (Rd.at 0 rfl rfl)) ?_)
            refine TL_yes rfl rfl (gfalse (by with_reducible assumption)) (TO_pure rfl (PV_bin rfl rfl bin_neq) ?_)
            refine TL_pure (d := (some 28)) rfl rfl rfl (PV_pickOr rfl rfl rfl) ?_
            refine TL_nil ?_
            refine T_else rfl (by (simp [*]; done)) ?_
            refine T_region ?_
            refine TL_pure (d := (some 6)) rfl rfl rfl (PV_assign rfl) ?_
            refine TL_nil ?_
            refine T_seq ?_
            refine T_seq ?_
            refine T_region ?_
            refine TL_pure (d := (some 31)) rfl rfl rfl (PV_move rfl) ?_
            refine TL_pure (d := (some 32)) rfl rfl rfl (PV_move rfl) ?_
            refine TL_pure (d := (some 33)) rfl rfl rfl (PV_bin rfl rfl bin_geq) ?_
            refine TL_nil ?_
            refine T_else rfl (by exact decide_eq_false (by omega)) ?_
            refine T_skip ?_
            refine T_region ?_
            refine TL_pure (d := (some 35)) rfl rfl rfl (PV_move rfl) ?_
            refine TL_pure (d := (some 36)) rfl rfl rfl (PV_loadAt Try.underlying68 rfl sz68 rfl (Rds.take 0 rfl rfl rfl)) ?_
            refine TL_cons rfl (TO_bs (cs := [_, _, _]) Try.underlying44 zs68 (by decide) rfl rfl rfl rfl rfl rfl fun g2004 => ?_)
            refine TL_cons rfl (TO_append 2 rfl Try.underlying44 zb68 rfl (by decide) rfl rfl rfl (Shows.at 0 rfl) ?oc2005q144 ?bb2005q144 ?bc2005q144 fun A2005 c2005 hc2005 => ?_)
            case oc2005q144 => (simp [Value.oneCell'])
            case bb2005q144 => omega
            case bc2005q144 => omega
            refine TL_pure (d := (some 5)) rfl rfl rfl (PV_assign rfl) ?_
            refine TL_nil ?_
            refine T_region ?_
            refine TL_pure (d := (some 39)) rfl rfl rfl (PV.cast (PV_bin rfl rfl bin_add) (wr64 (by omega))) ?_
            refine TL_pure (d := (some 11)) rfl rfl rfl (PV_move rfl) ?_
            refine TL_nil ?_
            refine ?L21
            case L21 =>
              refine ⟨i + 1, A2005, c2005, ⟨by omega, by omega⟩, by omega, ?_, ?_⟩
              · rw [hst, hts]
                repeat (first | exact FrSub.nil _ | refine FrSub.cons rfl ?_)
              · rw [hst, hts]
                show Has _ (.sl _ 3 _ (nzCells (o ++ [_])) :: _)
                rw [nzCells_app2]
                exact Has.of_sub (by repeat (first | exact List.Sublist.refl _ | exact List.sublist_append_right _ _ | exact List.sublist_append_left _ _ | apply List.Sublist.cons_cons | apply List.Sublist.cons | refine List.Sublist.trans ?_ (List.sublist_append_left _ _)))
          · have hts : tstep T (o, c) z = (o ++ [⟨false, 0, 0⟩], 0) := by
              have e : badC z c = c + 1 := if_pos (.inr hby)
              show (if T ≤ badC z c then _ else _) = _
              rw [e, if_pos hov]
            refine T_seq ?_
            refine T_region ?_
            refine TL_pure (d := (some 12)) rfl rfl rfl (PV_bin rfl rfl bin_lss) ?_
            refine TL_nil ?_
            refine T_seq ?_
            refine T_then rfl (by (simp [*]; done)) ?_
            refine T_skip ?_
            refine T_seq ?_
            refine T_block ?_
            refine T_seq ?_
            refine T_region ?_
            refine TL_pure (d := (some 13)) rfl rfl rfl (PV_indexAddr Try.underlying44 sz68 rfl rfl rfl (by first | omega | decide | assumption)) ?_
            refine TL_pure (d := (some 14)) rfl rfl rfl (PV_loadAt Try.underlying68 rfl sz68 rfl (RdsK.mono hds (fun w h => h.sub (by (repeat (first | exact List.Sublist.refl _ | exact List.sublist_append_right _ _ | exact List.sublist_append_left _ _ | apply List.Sublist.cons | refine List.Sublist.trans ?_ (List.sublist_append_left _ _))); done)))) ?_
            refine TL_cons rfl (TO_alloc rfl zr68 fun g3001 => ?_)
            refine TL_cons rfl (TO_store 0 rfl rfl rfl sz68 rfl rfl rfl (List.forall_mem_cons.2 ⟨by first | rfl, List.forall_mem_cons.2 ⟨by first | rfl, List.forall_mem_cons.2 ⟨by first | rfl, by simp⟩⟩⟩) (by first | exact Nat.le_of_ble_eq_true rfl | (simp; done) | (simp; omega) | omega) ?_)
            refine TL_nil ?_
            refine T_seq ?_
            refine T_region ?_
            refine TL_pure (d := (some 15)) rfl rfl rfl (PV_fieldAddr (D := 1) Try.underlying68 rfl sz3 (by decide) rfl rfl) ?_
            refine TL_pure (d := (some 16)) rfl rfl rfl (PV_load Try.underlying3 rfl rfl (Rd.at 0 rfl rfl)) ?_
            refine TL_pure (d := (some 17)) rfl rfl rfl (PV_bin rfl rfl (bin_rem (by decide))) ?_
            refine TL_pure (d := (some 18)) rfl rfl rfl (PV.cast (PV_bin rfl rfl bin_add) e18) ?_
            refine TL_pure (d := (some 19)) rfl rfl rfl (PV_bin rfl rfl (bin_rem (by decide))) ?_
            refine TL_pure (d := (some 20)) rfl rfl rfl (PV.cast (PV_bin rfl rfl bin_add) e20) ?_
            refine TL_pure (d := (some 21)) rfl rfl rfl (PV_fieldAddr (D := 1) Try.underlying68 rfl sz3 (by decide) rfl rfl) ?_
            refine TL_cons rfl (TO_store1 0 rfl rfl rfl sz3 rfl rfl rfl (by first | exact Nat.le_of_ble_eq_true rfl | (simp; done) | (simp; omega) | omega) ?_)
            refine TL_nil ?_
            refine T_seq ?_
            refine T_seq ?_
            refine T_region ?_
            refine TL_pure (d := (some 22)) rfl rfl rfl (PV_fieldAddr (D := 0) Try.underlying68 rfl sz4 (by decide) rfl rfl) ?_
            refine TL_pure (d := (some 23)) rfl rfl rfl (PV_load Try.underlying4 rfl rfl (Rd.at 0 rfl rfl)) ?_
            refine TL_pure (d := (some 24)) rfl rfl rfl (PV_move rfl) ?_
            refine TL_yes rfl rfl (gfalse (by with_reducible assumption)) (TO_pure rfl (PV_fieldAddr (D := 2) Try.underlying68 rfl sz5 (by decide) rfl rfl) ?_)
            refine TL_yes rfl rfl (gfalse (by with_reducible assumption)) (TO_pure rfl (PV_load Try.underlying5 rfl rfl (Rd.at 0 rfl rfl)) ?_)
            refine TL_yes rfl rfl (gfalse (by with_reducible assumption)) (TO_pure rfl (PV_bin rfl rfl bin_neq) ?_)
            refine TL_pure (d := (some 28)) rfl rfl rfl (PV_pickOr rfl rfl rfl) ?_
            refine TL_nil ?_
            refine T_then rfl (by (simp [*]; done)) ?_
            refine T_region ?_
            refine TL_pure (d := (some 29)) rfl rfl rfl (PV_move rfl) ?_
            refine TL_pure (d := (some 30)) rfl rfl rfl (PV.cast (PV_bin rfl rfl bin_add) e30) ?_
            refine TL_pure (d := (some 6)) rfl rfl rfl (PV_assign rfl) ?_
            refine TL_nil ?_
            refine T_seq ?_
            refine T_seq ?_
            refine T_region ?_
            refine TL_pure (d := (some 31)) rfl rfl rfl (PV_move rfl) ?_
            refine TL_pure (d := (some 32)) rfl rfl rfl (PV_move rfl) ?_
            refine TL_pure (d := (some 33)) rfl rfl rfl (PV_bin rfl rfl bin_geq) ?_
            refine TL_nil ?_
            refine T_then rfl (by exact decide_eq_true (by omega)) ?_
            refine T_region ?_
            refine TL_pure (d := (some 34)) rfl rfl rfl (PV_bld (cs := [_, _, _]) Try.underlying68 pl68 zr68 rfl rfl) ?_
            refine TL_cons rfl (TO_store 0 rfl rfl rfl sz68 rfl rfl rfl (List.forall_mem_cons.2 ⟨by first | rfl, List.forall_mem_cons.2 ⟨by first | rfl, List.forall_mem_cons.2 ⟨by first | rfl, by simp⟩⟩⟩) (by first | exact Nat.le_of_ble_eq_true rfl | (simp; done) | (simp; omega) | omega) ?_)
            refine TL_pure (d := (some 6)) rfl rfl rfl (PV_assign rfl) ?_
            refine TL_nil ?_
            refine T_region ?_
            refine TL_pure (d := (some 35)) rfl rfl rfl (PV_move rfl) ?_
            refine TL_pure (d := (some 36)) rfl rfl rfl (PV_loadAt Try.underlying68 rfl sz68 rfl (Rds.take 0 rfl rfl rfl)) ?_
            refine TL_cons rfl (TO_bs (cs := [_, _, _]) Try.underlying44 zs68 (by decide) rfl rfl rfl rfl rfl rfl fun g3005 => ?_)
            refine TL_cons rfl (TO_append 2 rfl Try.underlying44 zb68 rfl (by decide) rfl rfl rfl (Shows.at 0 rfl) ?oc3006q163 ?bb3006q163 ?bc3006q163 fun A3006 c3006 hc3006 => ?_)
            case oc3006q163 => (simp [Value.oneCell'])
            case bb3006q163 => omega
            case bc3006q163 => omega
            refine TL_pure (d := (some 5)) rfl rfl rfl (PV_assign rfl) ?_
            refine TL_nil ?_
            refine T_region ?_
            refine TL_pure (d := (some 39)) rfl rfl rfl (PV.cast (PV_bin rfl rfl bin_add) (wr64 (by omega))) ?_
            refine TL_pure (d := (some 11)) rfl rfl rfl (PV_move rfl) ?_
            refine TL_nil ?_
            refine ?L31
            case L31 =>
              refine ⟨i + 1, A3006, c3006, ⟨by omega, by omega⟩, by omega, ?_, ?_⟩
              · rw [hst, hts]
                repeat (first | exact FrSub.nil _ | refine FrSub.cons rfl ?_)
              · rw [hst, hts]
                show Has _ (.sl _ 3 _ (nzCells (o ++ [_])) :: _)
                rw [nzCells_app2]
                exact Has.of_sub (by repeat (first | exact List.Sublist.refl _ | exact List.sublist_append_right _ _ | exact List.sublist_append_left _ _ | apply List.Sublist.cons_cons | apply List.Sublist.cons | refine List.Sublist.trans ?_ (List.sublist_append_left _ _)))
      · rcases Bool.eq_false_or_eq_true z.lost with hl | hl
        · have hts : tstep T (o, c) z = (o ++ [tmZ z], c + 1) := by
            have e : badC z c = c + 1 := if_pos (.inl hl)
            show (if T ≤ badC z c then _ else _) = _
            rw [e, if_neg hov]
          refine T_seq ?_
          refine T_region ?_
          refine TL_pure (d := (some 12)) rfl rfl rfl (PV_bin rfl rfl bin_lss) ?_
          refine TL_nil ?_
          refine T_seq ?_
          refine T_then rfl (by (simp [*]; done)) ?_
          refine T_skip ?_
          refine T_seq ?_
          refine T_block ?_
          refine T_seq ?_
          refine T_region ?_
          refine TL_pure (d := (some 13)) rfl rfl rfl (PV_indexAddr Try.underlying44 sz68 rfl rfl rfl (by first | omega | decide | assumption)) ?_
          refine TL_pure (d := (some 14)) rfl rfl rfl (PV_loadAt Try.underlying68 rfl sz68 rfl (RdsK.mono hds (fun w h => h.sub (by (repeat (first | exact List.Sublist.refl _ | exact List.sublist_append_right _ _ | exact List.sublist_append_left _ _ | apply List.Sublist.cons | refine List.Sublist.trans ?_ (List.sublist_append_left _ _))); done)))) ?_
          refine TL_cons rfl (TO_alloc rfl zr68 fun g4001 => ?_)
          refine TL_cons rfl (TO_store 0 rfl rfl rfl sz68 rfl rfl rfl (List.forall_mem_cons.2 ⟨by first | rfl, List.forall_mem_cons.2 ⟨by first | rfl, List.forall_mem_cons.2 ⟨by first | rfl, by simp⟩⟩⟩) (by first | exact Nat.le_of_ble_eq_true rfl | (simp; done) | (simp; omega) | omega) ?_)
          refine TL_nil ?_
          refine T_seq ?_
          refine T_region ?_
          refine TL_pure (d := (some 15)) rfl rfl rfl (PV_fieldAddr (D := 1) Try.underlying68 rfl sz3 (by decide) rfl rfl) ?_
          refine TL_pure (d := (some 16)) rfl rfl rfl (PV_load Try.underlying3 rfl rfl (Rd.at 0 rfl rfl)) ?_
          refine TL_pure (d := (some 17)) rfl rfl rfl (PV_bin rfl rfl (bin_rem (by decide))) ?_
          refine TL_pure (d := (some 18)) rfl rfl rfl (PV.cast (PV_bin rfl rfl bin_add) e18) ?_
          refine TL_pure (d := (some 19)) rfl rfl rfl (PV_bin rfl rfl (bin_rem (by decide))) ?_
          refine TL_pure (d := (some 20)) rfl rfl rfl (PV.cast (PV_bin rfl rfl bin_add) e20) ?_
          refine TL_pure (d := (some 21)) rfl rfl rfl (PV_fieldAddr (D := 1) Try.underlying68 rfl sz3 (by decide) rfl rfl) ?_
          refine TL_cons rfl (TO_store1 0 rfl rfl rfl sz3 rfl rfl rfl (by first | exact Nat.le_of_ble_eq_true rfl | (simp; done) | (simp; omega) | omega) ?_)
          refine TL_nil ?_
          refine T_seq ?_
          refine T_seq ?_
          refine T_region ?_
          refine TL_pure (d := (some 22)) rfl rfl rfl (PV_fieldAddr (D := 0) Try.underlying68 rfl sz4 (by decide) rfl rfl) ?_
          refine TL_pure (d := (some 23)) rfl rfl rfl (PV_load Try.underlying4 rfl rfl (Rd.at 0 rfl rfl)) ?_
          refine TL_pure (d := (some 24)) rfl rfl rfl (PV_move rfl) ?_
          refine TL_no (b := true) rfl rfl (gtrue (by with_reducible assumption)) rfl ?_
          refine TL_no (b := true) rfl rfl (gtrue (by with_reducible assumption)) rfl ?_
          refine TL_no (b := true) rfl rfl (gtrue (by with_reducible assumption)) rfl ?_
          refine TL_pure (d := (some 28)) rfl rfl rfl (PV_pickT rfl (by first | assumption | rfl | (simp; done) | (simp; omega) | (simp [*]; done) | (simp [*]; omega)) rfl rfl) ?_
          refine TL_nil ?_
          refine T_then rfl (by rfl) ?_
          refine T_region ?_
          refine TL_pure (d := (some 29)) rfl rfl rfl (PV_move rfl) ?_
          refine TL_pure (d := (some 30)) rfl rfl rfl (PV.cast (PV_bin rfl rfl bin_add) e30) ?_
          refine TL_pure (d := (some 6)) rfl rfl rfl (PV_assign rfl) ?_
          refine TL_nil ?_
          refine T_seq ?_
          refine T_seq ?_
          refine T_region ?_
          refine TL_pure (d := (some 31)) rfl rfl rfl (PV_move rfl) ?_
          refine TL_pure (d := (some 32)) rfl rfl rfl (PV_move rfl) ?_
          refine TL_pure (d := (some 33)) rfl rfl rfl (PV_bin rfl rfl bin_geq) ?_
          refine TL_nil ?_
          refine T_else rfl (by exact decide_eq_false (by omega)) ?_
          refine T_skip ?_
          refine T_region ?_
          refine TL_pure (d := (some 35)) rfl rfl rfl (PV_move rfl) ?_
          refine TL_pure (d := (some 36)) rfl rfl rfl (PV_loadAt Try.underlying68 rfl sz68 rfl (Rds.take 0 rfl rfl rfl)) ?_
          refine TL_cons rfl (TO_bs (cs := [_, _, _]) Try.underlying44 zs68 (by decide) rfl rfl rfl rfl rfl rfl fun g4004 => ?_)
          refine TL_cons rfl (TO_append 2 rfl Try.underlying44 zb68 rfl (by decide) rfl rfl rfl (Shows.at 0 rfl) ?oc4005q183 ?bb4005q183 ?bc4005q183 fun A4005 c4005 hc4005 => ?_)
          case oc4005q183 => (simp [Value.oneCell'])
          case bb4005q183 => omega
          case bc4005q183 => omega
          refine TL_pure (d := (some 5)) rfl rfl rfl (PV_assign rfl) ?_
          refine TL_nil ?_
          refine T_region ?_
          refine TL_pure (d := (some 39)) rfl rfl rfl (PV.cast (PV_bin rfl rfl bin_add) (wr64 (by omega))) ?_
          refine TL_pure (d := (some 11)) rfl rfl rfl (PV_move rfl) ?_
          refine TL_nil ?_
          refine ?L41
          case L41 =>
            refine ⟨i + 1, A4005, c4005, ⟨by omega, by omega⟩, by omega, ?_, ?_⟩
            · rw [hst, hts]
              repeat (first | exact FrSub.nil _ | refine FrSub.cons rfl ?_)
            · rw [hst, hts]
              show Has _ (.sl _ 3 _ (nzCells (o ++ [_])) :: _)
              rw [nzCells_app2]
              exact Has.of_sub (by repeat (first | exact List.Sublist.refl _ | exact List.sublist_append_right _ _ | exact List.sublist_append_left _ _ | apply List.Sublist.cons_cons | apply List.Sublist.cons | refine List.Sublist.trans ?_ (List.sublist_append_left _ _)))
        · by_cases hby : z.by_ = 0
          · have hts : tstep T (o, c) z = (o ++ [tmZ z], 0) := by
              have e : badC z c = 0 := if_neg (by rw [hl, hby]; simp)
              show (if T ≤ badC z c then _ else _) = _
              rw [e, if_neg (by omega)]
            refine T_seq ?_
            refine T_region ?_
            refine TL_pure (d := (some 12)) rfl rfl rfl (PV_bin rfl rfl bin_lss) ?_
            refine TL_nil ?_
            refine T_seq ?_
            refine T_then rfl (by (simp [*]; done)) ?_
            refine T_skip ?_
            refine T_seq ?_
            refine T_block ?_
            refine T_seq ?_
            refine T_region ?_
            refine TL_pure (d := (some 13)) rfl rfl rfl (PV_indexAddr Try.underlying44 sz68 rfl rfl rfl (by first | omega | decide | assumption)) ?_
            refine TL_pure (d := (some 14)) rfl rfl rfl (PV_loadAt Try.underlying68 rfl sz68 rfl (RdsK.mono hds (fun w h => h.sub (by (repeat (first | exact List.Sublist.refl _ | exact List.sublist_append_right _ _ | exact List.sublist_append_left _ _ | apply List.Sublist.cons | refine List.Sublist.trans ?_ (List.sublist_append_left _ _))); done)))) ?_
            refine TL_cons rfl (TO_alloc rfl zr68 fun g5001 => ?_)
            refine TL_cons rfl (TO_store 0 rfl rfl rfl sz68 rfl rfl rfl (List.forall_mem_cons.2 ⟨by first | rfl, List.forall_mem_cons.2 ⟨by first | rfl, List.forall_mem_cons.2 ⟨by first | rfl, by simp⟩⟩⟩) (by first | exact Nat.le_of_ble_eq_true rfl | (simp; done) | (simp; omega) | omega) ?_)
            refine TL_nil ?_
            refine T_seq ?_
            refine T_region ?_
            refine TL_pure (d := (some 15)) rfl rfl rfl (PV_fieldAddr (D := 1) Try.underlying68 rfl sz3 (by decide) rfl rfl) ?_
            refine TL_pure (d := (some 16)) rfl rfl rfl (PV_load Try.underlying3 rfl rfl (Rd.at 0 rfl rfl)) ?_
            refine TL_pure (d := (some 17)) rfl rfl rfl (PV_bin rfl rfl (bin_rem (by decide))) ?_
            refine TL_pure (d := (some 18)) rfl rfl rfl (PV.cast (PV_bin rfl rfl bin_add) e18) ?_
            refine TL_pure (d := (some 19)) rfl rfl rfl (PV_bin rfl rfl (bin_rem (by decide))) ?_
            refine TL_pure (d := (some 20)) rfl rfl rfl (PV.cast (PV_bin rfl rfl bin_add) e20) ?_
            refine TL_pure (d := (some 21)) rfl rfl rfl (PV_fieldAddr (D := 1) Try.underlying68 rfl sz3 (by decide) rfl rfl) ?_
            refine TL_cons rfl (TO_store1 0 rfl rfl rfl sz3 rfl rfl rfl (by first | exact Nat.le_of_ble_eq_true rfl | (simp; done) | (simp; omega) | omega) ?_)
            refine TL_nil ?_
            refine T_seq ?_
            refine T_seq ?_
            refine T_region ?_
            refine TL_pure (d := (some 22)) rfl rfl rfl (PV_fieldAddr (D := 0) Try.underlying68 rfl sz4 (by decide) rfl rfl) ?_
            refine TL_pure (d := (some 23)) rfl rfl rfl (PV_load Try.underlying4 rfl rfl (Rd.at 0 rfl rfl)) ?_
            refine TL_pure (d := (some 24)) rfl rfl rfl (PV_move rfl) ?_
            refine TL_yes rfl rfl (gfalse (by with_reducible assumption)) (TO_pure rfl (PV_fieldAddr (D := 2) Try.underlying68 rfl sz5 (by decide) rfl rfl) ?_)
            refine TL_yes rfl rfl (gfalse (by with_reducible assumption)) (TO_pure rfl (PV_load Try.underlying5 rfl rfl (Rd.at 0 rfl rfl)) ?_)
            refine TL_yes rfl rfl (gfalse (by with_reducible assumption)) (TO_pure rfl (PV_bin rfl rfl bin_neq) ?_)
            refine TL_pure (d := (some 28)) rfl rfl rfl (PV_pickOr rfl rfl rfl) ?_
            refine TL_nil ?_
            refine T_else rfl (by (simp [*]; done)) ?_
            refine T_region ?_
            refine TL_pure (d := (some 6)) rfl rfl rfl (PV_assign rfl) ?_
            refine TL_nil ?_
            refine T_seq ?_
            refine T_seq ?_
            refine T_region ?_
            refine TL_pure (d := (some 31)) rfl rfl rfl (PV_move rfl) ?_
            refine TL_pure (d := (some 32)) rfl rfl rfl (PV_move rfl) ?_
            refine TL_pure (d := (some 33)) rfl rfl rfl (PV_bin rfl rfl bin_geq) ?_
            refine TL_nil ?_
            refine T_else rfl (by exact decide_eq_false (by omega)) ?_
            refine T_skip ?_
            refine T_region ?_
            refine TL_pure (d := (some 35)) rfl rfl rfl (PV_move rfl) ?_
            refine TL_pure (d := (some 36)) rfl rfl rfl (PV_loadAt Try.underlying68 rfl sz68 rfl (Rds.take 0 rfl rfl rfl)) ?_
            refine TL_cons rfl (TO_bs (cs := [_, _, _]) Try.underlying44 zs68 (by decide) rfl rfl rfl rfl rfl rfl fun g5004 => ?_)
            refine TL_cons rfl (TO_append 2 rfl Try.underlying44 zb68 rfl (by decide) rfl rfl rfl (Shows.at 0 rfl) ?oc5005q203 ?bb5005q203 ?bc5005q203 fun A5005 c5005 hc5005 => ?_)
            case oc5005q203 => (simp [Value.oneCell'])
            case bb5005q203 => omega
            case bc5005q203 => omega
            refine TL_pure (d := (some 5)) rfl rfl rfl (PV_assign rfl) ?_
            refine TL_nil ?_
            refine T_region ?_
            refine TL_pure (d := (some 39)) rfl rfl rfl (PV.cast (PV_bin rfl rfl bin_add) (wr64 (by omega))) ?_
            refine TL_pure (d := (some 11)) rfl rfl rfl (PV_move rfl) ?_
            refine TL_nil ?_
            refine ?L51
            case L51 =>
              refine ⟨i + 1, A5005, c5005, ⟨by omega, by omega⟩, by omega, ?_, ?_⟩
              · rw [hst, hts]
                repeat (first | exact FrSub.nil _ | refine FrSub.cons rfl ?_)
              · rw [hst, hts]
                show Has _ (.sl _ 3 _ (nzCells (o ++ [_])) :: _)
                rw [nzCells_app2]
                exact Has.of_sub (by repeat (first | exact List.Sublist.refl _ | exact List.sublist_append_right _ _ | exact List.sublist_append_left _ _ | apply List.Sublist.cons_cons | apply List.Sublist.cons | refine List.Sublist.trans ?_ (List.sublist_append_left _ _)))
          · have hts : tstep T (o, c) z = (o ++ [tmZ z], c + 1) := by
              have e : badC z c = c + 1 := if_pos (.inr hby)
              show (if T ≤ badC z c then _ else _) = _
              rw [e, if_neg hov]
            refine T_seq ?_
            refine T_region ?_
            refine TL_pure (d := (some 12)) rfl rfl rfl (PV_bin rfl rfl bin_lss) ?_
            refine TL_nil ?_
            refine T_seq ?_
            refine T_then rfl (by (simp [*]; done)) ?_
            refine T_skip ?_
            refine T_seq ?_
            refine T_block ?_
            refine T_seq ?_
            refine T_region ?_
            refine TL_pure (d := (some 13)) rfl rfl rfl (PV_indexAddr Try.underlying44 sz68 rfl rfl rfl (by first | omega | decide | assumption)) ?_
            refine TL_pure (d := (some 14)) rfl rfl rfl (PV_loadAt Try.underlying68 rfl sz68 rfl (RdsK.mono hds (fun w h => h.sub (by (repeat (first | exact List.Sublist.refl _ | exact List.sublist_append_right _ _ | exact List.sublist_append_left _ _ | apply List.Sublist.cons | refine List.Sublist.trans ?_ (List.sublist_append_left _ _))); done)))) ?_
            refine TL_cons rfl (TO_alloc rfl zr68 fun g6001 => ?_)
            refine TL_cons rfl (TO_store 0 rfl rfl rfl sz68 rfl rfl rfl (List.forall_mem_cons.2 ⟨by first | rfl, List.forall_mem_cons.2 ⟨by first | rfl, List.forall_mem_cons.2 ⟨by first | rfl, by simp⟩⟩⟩) (by first | exact Nat.le_of_ble_eq_true rfl | (simp; done) | (simp; omega) | omega) ?_)
            refine TL_nil ?_
            refine T_seq ?_
            refine T_region ?_
            refine TL_pure (d := (some 15)) rfl rfl rfl (PV_fieldAddr (D := 1) Try.underlying68 rfl sz3 (by decide) rfl rfl) ?_
            refine TL_pure (d := (some 16)) rfl rfl rfl (PV_load Try.underlying3 rfl rfl (Rd.at 0 rfl rfl)) ?_
            refine TL_pure (d := (some 17)) rfl rfl rfl (PV_bin rfl rfl (bin_rem (by decide))) ?_
            refine TL_pure (d := (some 18)) rfl rfl rfl (PV.cast (PV_bin rfl rfl bin_add) e18) ?_
            refine TL_pure (d := (some 19)) rfl rfl rfl (PV_bin rfl rfl (bin_rem (by decide))) ?_
            refine TL_pure (d := (some 20)) rfl rfl rfl (PV.cast (PV_bin rfl rfl bin_add) e20) ?_
            refine TL_pure (d := (some 21)) rfl rfl rfl (PV_fieldAddr (D := 1) Try.underlying68 rfl sz3 (by decide) rfl rfl) ?_
            refine TL_cons rfl (TO_store1 0 rfl rfl rfl sz3 rfl rfl rfl (by first | exact Nat.le_of_ble_eq_true rfl | (simp; done) | (simp; omega) | omega) ?_)
            refine TL_nil ?_
            refine T_seq ?_
            refine T_seq ?_
            refine T_region ?_
            refine TL_pure (d := (some 22)) rfl rfl rfl (PV_fieldAddr (D := 0) Try.underlying68 rfl sz4 (by decide) rfl rfl) ?_
            refine TL_pure (d := (some 23)) rfl rfl rfl (PV_load Try.underlying4 rfl rfl (Rd.at 0 rfl rfl)) ?_
            refine TL_pure (d := (some 24)) rfl rfl rfl (PV_move rfl) ?_
            refine TL_yes rfl rfl (gfalse (by with_reducible assumption)) (TO_pure rfl (PV_fieldAddr (D := 2) Try.underlying68 rfl sz5 (by decide) rfl rfl) ?_)
            refine TL_yes rfl rfl (gfalse (by with_reducible assumption)) (TO_pure rfl (PV_load Try.underlying5 rfl rfl (Rd.at 0 rfl rfl)) ?_)
            refine TL_yes rfl rfl (gfalse (by with_reducible assumption)) (TO_pure rfl (PV_bin rfl rfl bin_neq) ?_)
            refine TL_pure (d := (some 28)) rfl rfl rfl (PV_pickOr rfl rfl rfl) ?_
            refine TL_nil ?_
            refine T_then rfl (by (simp [*]; done)) ?_
            refine T_region ?_
            refine TL_pure (d := (some 29)) rfl rfl rfl (PV_move rfl) ?_
            refine TL_pure (d := (some 30)) rfl rfl rfl (PV.cast (PV_bin rfl rfl bin_add) e30) ?_
            refine TL_pure (d := (some 6)) rfl rfl rfl (PV_assign rfl) ?_
            refine TL_nil ?_
            refine T_seq ?_
            refine T_seq ?_
            refine T_region ?_
            refine TL_pure (d := (some 31)) rfl rfl rfl (PV_move rfl) ?_
            refine TL_pure (d := (some 32)) rfl rfl rfl (PV_move rfl) ?_
            refine TL_pure (d := (some 33)) rfl rfl rfl (PV_bin rfl rfl bin_geq) ?_
            refine TL_nil ?_
            refine T_else rfl (by exact decide_eq_false (by omega)) ?_
            refine T_skip ?_
            refine T_region ?_
            refine TL_pure (d := (some 35)) rfl rfl rfl (PV_move rfl) ?_
            refine TL_pure (d := (some 36)) rfl rfl rfl (PV_loadAt Try.underlying68 rfl sz68 rfl (Rds.take 0 rfl rfl rfl)) ?_
            refine TL_cons rfl (TO_bs (cs := [_, _, _]) Try.underlying44 zs68 (by decide) rfl rfl rfl rfl rfl rfl fun g6004 => ?_)
            refine TL_cons rfl (TO_append 2 rfl Try.underlying44 zb68 rfl (by decide) rfl rfl rfl (Shows.at 0 rfl) ?oc6005q222 ?bb6005q222 ?bc6005q222 fun A6005 c6005 hc6005 => ?_)
            case oc6005q222 => (simp [Value.oneCell'])
            case bb6005q222 => omega
            case bc6005q222 => omega
            refine TL_pure (d := (some 5)) rfl rfl rfl (PV_assign rfl) ?_
            refine TL_nil ?_
            refine T_region ?_
            refine TL_pure (d := (some 39)) rfl rfl rfl (PV.cast (PV_bin rfl rfl bin_add) (wr64 (by omega))) ?_
            refine TL_pure (d := (some 11)) rfl rfl rfl (PV_move rfl) ?_
            refine TL_nil ?_
            refine ?L61
            case L61 =>
              refine ⟨i + 1, A6005, c6005, ⟨by omega, by omega⟩, by omega, ?_, ?_⟩
              · rw [hst, hts]
                repeat (first | exact FrSub.nil _ | refine FrSub.cons rfl ?_)
              · rw [hst, hts]
                show Has _ (.sl _ 3 _ (nzCells (o ++ [_])) :: _)
                rw [nzCells_app2]
                exact Has.of_sub (by repeat (first | exact List.Sublist.refl _ | exact List.sublist_append_right _ _ | exact List.sublist_append_left _ _ | apply List.Sublist.cons_cons | apply List.Sublist.cons | refine List.Sublist.trans ?_ (List.sublist_append_left _ _)))
    · obtain rfl : i = mz := by omega
      have ht : ns.take i = ns := List.take_of_length_le (by omega)
      have hf := tame_fold T ns [] 0
      rw [List.nil_append] at hf
      rw [ht, hf]
      refine T_seq ?_
      refine T_region ?_
      refine TL_pure (d := (some 12)) rfl rfl rfl (PV_bin rfl rfl bin_lss) ?_
      refine TL_nil ?_
      refine T_seq ?_
      refine T_else rfl (by (simp; done)) ?_
      refine T_exit ?_
      refine T_seq ?_
      refine T_region ?_
      refine TL_pure (d := (some 40)) rfl rfl rfl (PV_move rfl) ?_
      refine TL_pure (d := (some 4)) rfl rfl rfl (PV_assign rfl) ?_
      refine TL_nil ?_
      refine T_ret ?_
      refine ret_ret (ResV_one rfl rfl) ⟨_, List.Sublist.refl _, ⟨_, _, rfl, ?sd7001q242_0, rfl⟩⟩
      case sd7001q242_0 => exact hic
theorem t80T {gs gr cs m cn M : Nat} {As An : Option Addr} {ns : List Nz} {qs : List (List Int)} {a b a' b' : Int} {crc : Bool} {D : List Int} (fx : Lk) (ho : fx.ov = true ∧ fx.e1 = 0 ∧ fx.e2 = 0 ∧ fx.r.dat = D) (hN : Shows (WH w0 B X) An m 3 (nzCells ns)) (hm : ns.length = m) (hB : SBlk (WH w0 B X) As cs qs) (hM : M ≤ 3000) (hq : ∀ q ∈ qs, U8s q ∧ (q.length = 128 ∨ q.length = 1024)) (hml : qs.length ≤ 40) (he : (Lk.start (Sn.of a b qs crc true) (Rc.of a' b' 1 crc true 1)).run ns M = fx) :
    TCall Try.prog w0 B 17 #[.pointer (some ⟨gs, 0, none⟩), .pointer (some ⟨gr, 0, none⟩), .slice An m cn, .int .i64 (M : Int)] (fun v H' => ∃ (A : Option Addr) (k : Nat), v = .agg #[.bool true, .nilIface, .nilIface, .slice A D.length k, .int .i64 (fx.ticks : Int), .int .i64 (fx.sent : Int)] ∧ D.length ≤ k ∧ H' = byC A k D :: X)
      (sC gs As cs (Sn.of a b qs crc true) :: rcC gr none 0 none 0 (Rc.of a' b' 1 crc true 1) :: byC none 0 [] :: byC none 0 [] :: X) := by
  have h := t80 (gs := gs) (gr := gr) (bA := none) (bc := 0) (dA := none) (dc := 0) (cn := cn) (Sn.of a b qs crc true) (Rc.of a' b' 1 crc true 1) M (start_fit (by omega) hq (by decide)) hB hN hm hM
  rw [he] at h
  obtain ⟨h1, h2, h3, h4⟩ := ho
  rw [h1, h2, h3, h4] at h
  refine h.less ?_
  rintro v H' ⟨A, k', bA', bc', dA', dc', hv, hk, rfl⟩
  exact ⟨_, (by repeat (first | exact List.Sublist.refl _ | exact List.sublist_append_right _ _ | exact List.sublist_append_left _ _ | apply List.Sublist.cons_cons | apply List.Sublist.cons | refine List.Sublist.trans ?_ (List.sublist_append_left _ _))), A, k', hv, hk, rfl⟩
theorem t79s : TCall Try.prog w0 B 16 #[] (fun r H' => r = .bool true ∧ H = H') H := t79.mono fun v h q => ⟨q.1, q.2.symm⟩
theorem LinkTame_t {A An : Option Addr} {m c cn mz : Nat} {l : List Int} {ns : List Nz} (mn tn : Nat) (long : Bool) (hS : Shows (WH w0 B H) A m 1 (nums .u8 l)) (hlm : l.length = m) (hl : m ≤ 9223372036854775807) (hc : m ≤ c) (hu : U8s l) (hmn : mn ≤ 255) (htn : tn ≤ 255) (hN : Shows (WH w0 B H) An mz 3 (nzCells ns)) (hmz : ns.length = mz) (hy : mz * 24 ≤ 140737488351232) :
    TCall Try.prog w0 B 5 #[.slice A m c, .int .u8 (mn : Int), .bool long, .slice An mz cn, .int .u8 (tn : Int)] (fun r H' => r = .bool true ∧ H' = H) H := by
  have hq : ∀ q ∈ blksL l long (mn % 5), U8s q ∧ (q.length = 128 ∨ q.length = 1024) := blksL_num (by omega)
  have hbn : (blksL l long (mn % 5)).length = mn % 5 := blksL_len _ _ _
  obtain ⟨T, hT⟩ : ∃ T, 2 + tn % 3 = T := ⟨_, rfl⟩
  have hT2 : 2 ≤ T := by omega
  have hT4 : T ≤ 4 := by omega
  have e17 : Value.int .u8 (Int.tmod (tn : Int) 3) = .int .u8 ((tn % 3 : Nat) : Int) := rfl
  have e18 : Value.int .i64 (IntKind.i64.wrap ((tn % 3 : Nat) : Int)) = .int .i64 ((tn % 3 : Nat) : Int) := wr64 (by omega)
  have e19 : Value.int .i64 (IntKind.i64.wrap (2 + ((tn % 3 : Nat) : Int))) = .int .i64 (T : Int) := wr64n T (by rw [← hT]; push_cast; rfl) (by omega)
  obtain ⟨fx, hfx⟩ : ∃ x, (Lk.start (Sn.of T 3 (blksL l long (mn % 5)) true true) (Rc.of 9 2 1 true true 1)).run (tameR T 0 ns) 400 = x := ⟨_, rfl⟩
  have hrun := tame_run hT2 hT4 (by omega) hq (tameR_ok hT2 ns 0) fx hfx
  have htl : (tameR T 0 ns).length = mz := by
    have h1 := tame_fold T ns [] 0
    have h2 := tame_len T ns ([], 0)
    rw [h1] at h2
    simpa [hmz] using h2
  refine TCall_intro (args := [_, _, _, _, _]) Try.func5 rfl Try.ntmps5 (Nat.le_of_ble_eq_true rfl) ?_
  refine T_seq ?_
  refine T_region ?_
  refine TL_pure (d := (some 10)) rfl rfl rfl (PV_assign rfl) ?_
  refine TL_nil ?_
  refine T_seq ?_
  refine T_seq ?_
  refine T_region ?_
  refine TL_cons rfl (TO_call0 call16 rfl rfl (t79s) ?_)
  rintro v14_3 H14_3 ⟨rfl, rfl⟩
  refine TL_pure (d := (some 15)) rfl rfl rfl (PV_not rfl) ?_
  refine TL_nil ?_
  refine T_else rfl (by rfl) ?_
  refine T_skip ?_
  refine T_seq ?_
  refine T_region ?_
  refine TL_pure (d := (some 16)) rfl rfl rfl (PV_move rfl) ?_
  refine TL_pure (d := (some 17)) rfl rfl rfl (PV.cast (PV_bin rfl rfl (bin_rem (by decide))) e17) ?_
  refine TL_pure (d := (some 18)) rfl rfl rfl (PV.cast (PV_conv (by rw [Try.underlying5]; rfl) Try.underlying3 rfl) e18) ?_
  refine TL_pure (d := (some 19)) rfl rfl rfl (PV.cast (PV_bin rfl rfl bin_add) e19) ?_
  refine TL_pure (d := (some 20)) rfl rfl rfl (PV_bld (cs := [_, _]) Try.underlying31 pl31 zr31 rfl rfl) ?_
  refine TL_cons rfl (TO_alloc rfl zr31 fun g4 => ?_)
  refine TL_cons rfl (TO_store 0 rfl rfl rfl sz31 rfl rfl rfl (List.forall_mem_cons.2 ⟨by first | rfl, List.forall_mem_cons.2 ⟨by first | rfl, by simp⟩⟩) (by first | exact Nat.le_of_ble_eq_true rfl | (simp; done) | (simp; omega) | omega) ?_)
  refine TL_nil ?_
  refine T_seq ?_
  refine T_region ?_
  refine TL_pure (d := (some 21)) rfl rfl rfl (PV_move rfl) ?_
  refine TL_pure (d := (some 22)) rfl rfl rfl (PV_move rfl) ?_
  refine TL_pure (d := (some 23)) rfl rfl rfl (PV_move rfl) ?_
  refine TL_cons rfl (TO_call0 call9 rfl rfl (t57 mn long (Shows.mono hS (fun w h => h.sub (by (repeat (first | exact List.Sublist.refl _ | exact List.sublist_append_right _ _ | exact List.sublist_append_left _ _ | apply List.Sublist.cons | refine List.Sublist.trans ?_ (List.sublist_append_left _ _))); done))) ?sd7q271_1 ?sd7q271_2 ?sd7q271_3 ?sd7q271_4 ?sd7q271_5) ?_)
  case sd7q271_1 => omega
  case sd7q271_2 => exact hl
  case sd7q271_3 => exact hc
  case sd7q271_4 => exact hu
  case sd7q271_5 => exact hmn
  rintro v24_8 H24_8 ⟨A'_8, c'_8, N_8, rfl, h_8_0, rfl⟩
  refine TL_pure (d := (some 12)) rfl rfl rfl (PV_assign rfl) ?_
  refine TL_nil ?_
  refine T_seq ?_
  refine ?L1
  case L1 =>
    refine T_mid3 (fun (gx : Nat) (Ax : Option Addr) (kx : Nat) => (blksL l long (mn % 5)).flatten.length ≤ kx) (fun gx Ax kx => [(10, .bool false), (12, .slice A'_8 (mn % 5) c'_8), (13, .pointer (some ⟨gx, 0, none⟩))]) (fun gx Ax kx => .own gx 6 [.bool true, .nilIface, .nilIface, .slice Ax (blksL l long (mn % 5)).flatten.length kx, .int .i64 (fx.ticks : Int), .int .i64 (fx.sent : Int)] :: byC Ax kx (blksL l long (mn % 5)).flatten :: .own g4 2 [.int .i64 (T : Int), .int .i64 3] :: (H ++ N_8)) ?_ ?_
    · refine T_drawn (WH _ _ _) mixed (fun w h => h) ?_
      refine TA_take (dd := (some 25)) 0 rfl (by kernel_rfl) (by kernel_rfl) (by kernel_rfl) rfl rfl rfl (PV_loadAt Try.underlying31 rfl sz31 rfl (Rds.take 0 rfl rfl rfl)) ?_
      refine TA_take (dd := (some 26)) 1 rfl (by kernel_rfl) (by kernel_rfl) (by kernel_rfl) rfl rfl rfl (PV_move rfl) ?_
      refine TA_take (dd := (some 28)) 3 rfl (by kernel_rfl) (by kernel_rfl) (by kernel_rfl) rfl rfl rfl (PV_bld (cs := [_, _]) Try.underlying31 pl31 zr31 rfl rfl) ?_
      refine TA_take (dd := (some 30)) 5 rfl (by kernel_rfl) (by kernel_rfl) (by kernel_rfl) rfl rfl rfl (PV_move rfl) ?_
      refine TA_take (dd := (some 31)) 6 rfl (by kernel_rfl) (by kernel_rfl) (by kernel_rfl) rfl rfl rfl (PV_fieldAddr (D := 0) Try.underlying31 rfl sz3 (by decide) rfl rfl) ?_
      refine TA_take (dd := (some 32)) 7 rfl (by kernel_rfl) (by kernel_rfl) (by kernel_rfl) rfl rfl rfl (PV_load Try.underlying3 rfl rfl (Rd.at 0 rfl rfl)) ?_
      refine TA_hardG (rs := [2, 10]) (by kernel_rfl) (by decide) ?_
      refine List.forall_mem_cons.2 ⟨?w30001q279_2, List.forall_mem_cons.2 ⟨?w30001q279_10, by simp⟩⟩
      refine ⟨_, rfl, Or.inl rfl, (TO_call0 call10 rfl rfl (t58 _ _ _ _ h_8_0 ?sd30004q279_5 ?sd30004q279_6 ?sd30004q279_7) ?_)⟩
      case sd30004q279_5 => omega
      case sd30004q279_6 => omega
      case sd30004q279_7 => with_reducible assumption
      rintro v27_30005 H27_30005 ⟨g_30005, A'_30005, c'_30005, N_30005, rfl, h_30005_0, rfl⟩
      refine ⟨by intro w h; first | exact h | exact trivial | (refine WH.sub h ?_; (repeat (first | exact List.Sublist.refl _ | exact List.sublist_append_right _ _ | exact List.sublist_append_left _ _ | apply List.Sublist.cons | refine List.Sublist.trans ?_ (List.sublist_append_left _ _))); done) | (refine WH.sub h ?_; (repeat (first | exact List.Sublist.refl _ | exact List.sublist_append_right _ _ | exact List.sublist_append_left _ _ | apply List.Sublist.cons_cons | apply List.Sublist.cons | refine List.Sublist.trans ?_ (List.sublist_append_left _ _))); done), ?_⟩
      refine TA_hardG (rs := [4, 10]) (by kernel_rfl) (by decide) ?_
      refine List.forall_mem_cons.2 ⟨?w30006q279_4, List.forall_mem_cons.2 ⟨?w30006q279_10, by simp⟩⟩
      refine ⟨_, rfl, Or.inl rfl, (TO_call0 call18 rfl rfl (t69 _ _ _ _ _ _) ?_)⟩
      rintro v29_30010 H29_30010 ⟨g_30010, rfl, rfl⟩
      refine ⟨by intro w h; first | exact h | exact trivial | (refine WH.sub h ?_; (repeat (first | exact List.Sublist.refl _ | exact List.sublist_append_right _ _ | exact List.sublist_append_left _ _ | apply List.Sublist.cons | refine List.Sublist.trans ?_ (List.sublist_append_left _ _))); done) | (refine WH.sub h ?_; (repeat (first | exact List.Sublist.refl _ | exact List.sublist_append_right _ _ | exact List.sublist_append_left _ _ | apply List.Sublist.cons_cons | apply List.Sublist.cons | refine List.Sublist.trans ?_ (List.sublist_append_left _ _))); done), ?_⟩
      refine TA_hardG (rs := [8, 10]) (by kernel_rfl) (by decide) ?_
      refine List.forall_mem_cons.2 ⟨?w30011q279_8, List.forall_mem_cons.2 ⟨?w30011q279_10, by simp⟩⟩
      refine ⟨_, rfl, Or.inl rfl, (TO_call0 call19 rfl rfl (Tame_t (T := T) ?sd30014q279_0 ?sd30014q279_1 (Shows.mono hN (fun w h => h.sub (by (repeat (first | exact List.Sublist.refl _ | exact List.sublist_append_right _ _ | exact List.sublist_append_left _ _ | apply List.Sublist.cons | refine List.Sublist.trans ?_ (List.sublist_append_left _ _))); done))) ?sd30014q279_3 ?sd30014q279_4) ?_)⟩
      case sd30014q279_0 => exact hT2
      case sd30014q279_1 => exact hT4
      case sd30014q279_3 => omega
      case sd30014q279_4 => exact hy
      rintro v33_30015 H33_30015 ⟨A_30015, c_30015, rfl, h_30015_0, rfl⟩
      refine ⟨by intro w h; first | exact h | exact trivial | (refine WH.sub h ?_; (repeat (first | exact List.Sublist.refl _ | exact List.sublist_append_right _ _ | exact List.sublist_append_left _ _ | apply List.Sublist.cons | refine List.Sublist.trans ?_ (List.sublist_append_left _ _))); done) | (refine WH.sub h ?_; (repeat (first | exact List.Sublist.refl _ | exact List.sublist_append_right _ _ | exact List.sublist_append_left _ _ | apply List.Sublist.cons_cons | apply List.Sublist.cons | refine List.Sublist.trans ?_ (List.sublist_append_left _ _))); done), ?_⟩
      refine TA_hardG (rs := [9, 10]) (by kernel_rfl) (by decide) ?_
      refine List.forall_mem_cons.2 ⟨?w30016q279_9, List.forall_mem_cons.2 ⟨?w30016q279_10, by simp⟩⟩
      refine ⟨_, rfl, Or.inl rfl, TO_perm ((perm_pick (i := 4) rfl).trans (List.Perm.cons _ ((perm_pick (i := 1) rfl).trans (List.Perm.cons _ ((perm_pick (i := 1) rfl).trans (List.Perm.cons _ ((perm_pick (i := 1) rfl).trans (List.Perm.cons _ (List.Perm.refl _))))))))) (TO_call0 call17 rfl rfl (t80T (ns := tameR T 0 ns) fx hrun ?sd30019q279_0 ?sd30019q279_1 ?sd30019q279_2 ?sd30019q279_3 ?sd30019q279_4 ?sd30019q279_5 ?sd30019q279_6) ?_)⟩
      case sd30019q279_0 => exact Shows.at 0 rfl
      case sd30019q279_1 => omega
      case sd30019q279_2 => exact SBlk.mono h_30005_0 (fun w h => h.sub (by (repeat (first | exact List.Sublist.refl _ | exact List.sublist_append_right _ _ | exact List.sublist_append_left _ _ | apply List.Sublist.cons | refine List.Sublist.trans ?_ (List.sublist_append_left _ _))); done))
      case sd30019q279_3 => decide
      case sd30019q279_4 => with_reducible assumption
      case sd30019q279_5 => omega
      case sd30019q279_6 => omega
      rintro v34_30020 H34_30020 ⟨A_30020, k_30020, rfl, h_30020_0, rfl⟩
      refine ⟨by intro w h; first | exact h | exact trivial | (refine WH.sub h ?_; (repeat (first | exact List.Sublist.refl _ | exact List.sublist_append_right _ _ | exact List.sublist_append_left _ _ | apply List.Sublist.cons | refine List.Sublist.trans ?_ (List.sublist_append_left _ _))); done) | (refine WH.sub h ?_; (repeat (first | exact List.Sublist.refl _ | exact List.sublist_append_right _ _ | exact List.sublist_append_left _ _ | apply List.Sublist.cons_cons | apply List.Sublist.cons | refine List.Sublist.trans ?_ (List.sublist_append_left _ _))); done), ?_⟩
      refine TA_one 10 (by kernel_rfl) rfl rfl (TO_alloc rfl zr48 fun g30021 => ?_)
      refine ⟨by intro w h; first | exact h | exact trivial | (refine WH.sub h ?_; (repeat (first | exact List.Sublist.refl _ | exact List.sublist_append_right _ _ | exact List.sublist_append_left _ _ | apply List.Sublist.cons | refine List.Sublist.trans ?_ (List.sublist_append_left _ _))); done) | (refine WH.sub h ?_; (repeat (first | exact List.Sublist.refl _ | exact List.sublist_append_right _ _ | exact List.sublist_append_left _ _ | apply List.Sublist.cons_cons | apply List.Sublist.cons | refine List.Sublist.trans ?_ (List.sublist_append_left _ _))); done), ?_⟩
      refine TA_one 11 (by kernel_rfl) rfl rfl (TO_store 0 rfl rfl rfl sz48 rfl rfl rfl (List.forall_mem_cons.2 ⟨by first | rfl, List.forall_mem_cons.2 ⟨by first | rfl, List.forall_mem_cons.2 ⟨by first | rfl, List.forall_mem_cons.2 ⟨by first | rfl, List.forall_mem_cons.2 ⟨by first | rfl, List.forall_mem_cons.2 ⟨by first | rfl, by simp⟩⟩⟩⟩⟩⟩) (by first | exact Nat.le_of_ble_eq_true rfl | (simp; done) | (simp; omega) | omega) ?_)
      refine ⟨by intro w h; first | exact h | exact trivial | (refine WH.sub h ?_; (repeat (first | exact List.Sublist.refl _ | exact List.sublist_append_right _ _ | exact List.sublist_append_left _ _ | apply List.Sublist.cons | refine List.Sublist.trans ?_ (List.sublist_append_left _ _))); done) | (refine WH.sub h ?_; (repeat (first | exact List.Sublist.refl _ | exact List.sublist_append_right _ _ | exact List.sublist_append_left _ _ | apply List.Sublist.cons_cons | apply List.Sublist.cons | refine List.Sublist.trans ?_ (List.sublist_append_left _ _))); done), ?_⟩
      refine TA_done (by kernel_rfl) ?_
      refine ?L301
      rotate_left 1
      refine ⟨_, rfl, Or.inl rfl, (TO_alloc rfl zr48 fun g30018 => ?_)⟩
      refine ⟨by intro w h; first | exact h | exact trivial | (refine WH.sub h ?_; (repeat (first | exact List.Sublist.refl _ | exact List.sublist_append_right _ _ | exact List.sublist_append_left _ _ | apply List.Sublist.cons | refine List.Sublist.trans ?_ (List.sublist_append_left _ _))); done) | (refine WH.sub h ?_; (repeat (first | exact List.Sublist.refl _ | exact List.sublist_append_right _ _ | exact List.sublist_append_left _ _ | apply List.Sublist.cons_cons | apply List.Sublist.cons | refine List.Sublist.trans ?_ (List.sublist_append_left _ _))); done), ?_⟩
      refine TA_perm ((perm_pick (i := 5) rfl).trans (List.Perm.cons _ ((perm_pick (i := 2) rfl).trans (List.Perm.cons _ ((perm_pick (i := 2) rfl).trans (List.Perm.cons _ ((perm_pick (i := 2) rfl).trans (List.Perm.cons _ (List.Perm.refl _))))))))) ?_
      refine TA_one 9 (by kernel_rfl) rfl rfl (TO_call0 call17 rfl rfl (t80T (ns := tameR T 0 ns) fx hrun (Shows.at 1 rfl) ?sd30024q279_1 ?sd30024q279_2 ?sd30024q279_3 ?sd30024q279_4 ?sd30024q279_5 ?sd30024q279_6) ?_)
      case sd30024q279_1 => omega
      case sd30024q279_2 => exact SBlk.mono h_30005_0 (fun w h => h.sub (by (repeat (first | exact List.Sublist.refl _ | exact List.sublist_append_right _ _ | exact List.sublist_append_left _ _ | apply List.Sublist.cons | refine List.Sublist.trans ?_ (List.sublist_append_left _ _))); done))
      case sd30024q279_3 => decide
      case sd30024q279_4 => with_reducible assumption
      case sd30024q279_5 => omega
      case sd30024q279_6 => omega
      rintro v34_30025 H34_30025 ⟨A_30025, k_30025, rfl, h_30025_0, rfl⟩
      refine ⟨by intro w h; first | exact h | exact trivial | (refine WH.sub h ?_; (repeat (first | exact List.Sublist.refl _ | exact List.sublist_append_right _ _ | exact List.sublist_append_left _ _ | apply List.Sublist.cons | refine List.Sublist.trans ?_ (List.sublist_append_left _ _))); done) | (refine WH.sub h ?_; (repeat (first | exact List.Sublist.refl _ | exact List.sublist_append_right _ _ | exact List.sublist_append_left _ _ | apply List.Sublist.cons_cons | apply List.Sublist.cons | refine List.Sublist.trans ?_ (List.sublist_append_left _ _))); done), ?_⟩
      refine TA_one 11 (by kernel_rfl) rfl rfl (TO_store 1 rfl rfl rfl sz48 rfl rfl rfl (List.forall_mem_cons.2 ⟨by first | rfl, List.forall_mem_cons.2 ⟨by first | rfl, List.forall_mem_cons.2 ⟨by first | rfl, List.forall_mem_cons.2 ⟨by first | rfl, List.forall_mem_cons.2 ⟨by first | rfl, List.forall_mem_cons.2 ⟨by first | rfl, by simp⟩⟩⟩⟩⟩⟩) (by first | exact Nat.le_of_ble_eq_true rfl | (simp; done) | (simp; omega) | omega) ?_)
      refine ⟨by intro w h; first | exact h | exact trivial | (refine WH.sub h ?_; (repeat (first | exact List.Sublist.refl _ | exact List.sublist_append_right _ _ | exact List.sublist_append_left _ _ | apply List.Sublist.cons | refine List.Sublist.trans ?_ (List.sublist_append_left _ _))); done) | (refine WH.sub h ?_; (repeat (first | exact List.Sublist.refl _ | exact List.sublist_append_right _ _ | exact List.sublist_append_left _ _ | apply List.Sublist.cons_cons | apply List.Sublist.cons | refine List.Sublist.trans ?_ (List.sublist_append_left _ _))); done), ?_⟩
      refine TA_done (by kernel_rfl) ?_
      refine ?L302
      rotate_left 1
      refine ⟨_, rfl, Or.inl rfl, (TO_alloc rfl zr48 fun g30013 => ?_)⟩
      refine ⟨by intro w h; first | exact h | exact trivial | (refine WH.sub h ?_; (repeat (first | exact List.Sublist.refl _ | exact List.sublist_append_right _ _ | exact List.sublist_append_left _ _ | apply List.Sublist.cons | refine List.Sublist.trans ?_ (List.sublist_append_left _ _))); done) | (refine WH.sub h ?_; (repeat (first | exact List.Sublist.refl _ | exact List.sublist_append_right _ _ | exact List.sublist_append_left _ _ | apply List.Sublist.cons_cons | apply List.Sublist.cons | refine List.Sublist.trans ?_ (List.sublist_append_left _ _))); done), ?_⟩
      refine TA_one 8 (by kernel_rfl) rfl rfl (TO_call0 call19 rfl rfl (Tame_t (T := T) ?sd30028q279_0 ?sd30028q279_1 (Shows.mono hN (fun w h => h.sub (by (repeat (first | exact List.Sublist.refl _ | exact List.sublist_append_right _ _ | exact List.sublist_append_left _ _ | apply List.Sublist.cons | refine List.Sublist.trans ?_ (List.sublist_append_left _ _))); done))) ?sd30028q279_3 ?sd30028q279_4) ?_)
      case sd30028q279_0 => exact hT2
      case sd30028q279_1 => exact hT4
      case sd30028q279_3 => omega
      case sd30028q279_4 => exact hy
      rintro v33_30029 H33_30029 ⟨A_30029, c_30029, rfl, h_30029_0, rfl⟩
      refine ⟨by intro w h; first | exact h | exact trivial | (refine WH.sub h ?_; (repeat (first | exact List.Sublist.refl _ | exact List.sublist_append_right _ _ | exact List.sublist_append_left _ _ | apply List.Sublist.cons | refine List.Sublist.trans ?_ (List.sublist_append_left _ _))); done) | (refine WH.sub h ?_; (repeat (first | exact List.Sublist.refl _ | exact List.sublist_append_right _ _ | exact List.sublist_append_left _ _ | apply List.Sublist.cons_cons | apply List.Sublist.cons | refine List.Sublist.trans ?_ (List.sublist_append_left _ _))); done), ?_⟩
      refine TA_perm ((perm_pick (i := 5) rfl).trans (List.Perm.cons _ ((perm_pick (i := 2) rfl).trans (List.Perm.cons _ ((perm_pick (i := 2) rfl).trans (List.Perm.cons _ ((perm_pick (i := 2) rfl).trans (List.Perm.cons _ (List.Perm.refl _))))))))) ?_
      refine TA_one 9 (by kernel_rfl) rfl rfl (TO_call0 call17 rfl rfl (t80T (ns := tameR T 0 ns) fx hrun (Shows.at 0 rfl) ?sd30031q279_1 ?sd30031q279_2 ?sd30031q279_3 ?sd30031q279_4 ?sd30031q279_5 ?sd30031q279_6) ?_)
      case sd30031q279_1 => omega
      case sd30031q279_2 => exact SBlk.mono h_30005_0 (fun w h => h.sub (by (repeat (first | exact List.Sublist.refl _ | exact List.sublist_append_right _ _ | exact List.sublist_append_left _ _ | apply List.Sublist.cons | refine List.Sublist.trans ?_ (List.sublist_append_left _ _))); done))
      case sd30031q279_3 => decide
      case sd30031q279_4 => with_reducible assumption
      case sd30031q279_5 => omega
      case sd30031q279_6 => omega
      rintro v34_30032 H34_30032 ⟨A_30032, k_30032, rfl, h_30032_0, rfl⟩
      refine ⟨by intro w h; first | exact h | exact trivial | (refine WH.sub h ?_; (repeat (first | exact List.Sublist.refl _ | exact List.sublist_append_right _ _ | exact List.sublist_append_left _ _ | apply List.Sublist.cons | refine List.Sublist.trans ?_ (List.sublist_append_left _ _))); done) | (refine WH.sub h ?_; (repeat (first | exact List.Sublist.refl _ | exact List.sublist_append_right _ _ | exact List.sublist_append_left _ _ | apply List.Sublist.cons_cons | apply List.Sublist.cons | refine List.Sublist.trans ?_ (List.sublist_append_left _ _))); done), ?_⟩
      refine TA_one 11 (by kernel_rfl) rfl rfl (TO_store 2 rfl rfl rfl sz48 rfl rfl rfl (List.forall_mem_cons.2 ⟨by first | rfl, List.forall_mem_cons.2 ⟨by first | rfl, List.forall_mem_cons.2 ⟨by first | rfl, List.forall_mem_cons.2 ⟨by first | rfl, List.forall_mem_cons.2 ⟨by first | rfl, List.forall_mem_cons.2 ⟨by first | rfl, by simp⟩⟩⟩⟩⟩⟩) (by first | exact Nat.le_of_ble_eq_true rfl | (simp; done) | (simp; omega) | omega) ?_)
      refine ⟨by intro w h; first | exact h | exact trivial | (refine WH.sub h ?_; (repeat (first | exact List.Sublist.refl _ | exact List.sublist_append_right _ _ | exact List.sublist_append_left _ _ | apply List.Sublist.cons | refine List.Sublist.trans ?_ (List.sublist_append_left _ _))); done) | (refine WH.sub h ?_; (repeat (first | exact List.Sublist.refl _ | exact List.sublist_append_right _ _ | exact List.sublist_append_left _ _ | apply List.Sublist.cons_cons | apply List.Sublist.cons | refine List.Sublist.trans ?_ (List.sublist_append_left _ _))); done), ?_⟩
      refine TA_done (by kernel_rfl) ?_
      refine ?L303
      rotate_left 1
      refine ⟨_, rfl, Or.inl rfl, (TO_alloc rfl zr48 fun g30008 => ?_)⟩
      refine ⟨by intro w h; first | exact h | exact trivial | (refine WH.sub h ?_; (repeat (first | exact List.Sublist.refl _ | exact List.sublist_append_right _ _ | exact List.sublist_append_left _ _ | apply List.Sublist.cons | refine List.Sublist.trans ?_ (List.sublist_append_left _ _))); done) | (refine WH.sub h ?_; (repeat (first | exact List.Sublist.refl _ | exact List.sublist_append_right _ _ | exact List.sublist_append_left _ _ | apply List.Sublist.cons_cons | apply List.Sublist.cons | refine List.Sublist.trans ?_ (List.sublist_append_left _ _))); done), ?_⟩
      refine TA_one 4 (by kernel_rfl) rfl rfl (TO_call0 call18 rfl rfl (t69 _ _ _ _ _ _) ?_)
      rintro v29_30036 H29_30036 ⟨g_30036, rfl, rfl⟩
      refine ⟨by intro w h; first | exact h | exact trivial | (refine WH.sub h ?_; (repeat (first | exact List.Sublist.refl _ | exact List.sublist_append_right _ _ | exact List.sublist_append_left _ _ | apply List.Sublist.cons | refine List.Sublist.trans ?_ (List.sublist_append_left _ _))); done) | (refine WH.sub h ?_; (repeat (first | exact List.Sublist.refl _ | exact List.sublist_append_right _ _ | exact List.sublist_append_left _ _ | apply List.Sublist.cons_cons | apply List.Sublist.cons | refine List.Sublist.trans ?_ (List.sublist_append_left _ _))); done), ?_⟩
      refine TA_one 8 (by kernel_rfl) rfl rfl (TO_call0 call19 rfl rfl (Tame_t (T := T) ?sd30038q279_0 ?sd30038q279_1 (Shows.mono hN (fun w h => h.sub (by (repeat (first | exact List.Sublist.refl _ | exact List.sublist_append_right _ _ | exact List.sublist_append_left _ _ | apply List.Sublist.cons | refine List.Sublist.trans ?_ (List.sublist_append_left _ _))); done))) ?sd30038q279_3 ?sd30038q279_4) ?_)
      case sd30038q279_0 => exact hT2
      case sd30038q279_1 => exact hT4
      case sd30038q279_3 => omega
      case sd30038q279_4 => exact hy
      rintro v33_30039 H33_30039 ⟨A_30039, c_30039, rfl, h_30039_0, rfl⟩
      refine ⟨by intro w h; first | exact h | exact trivial | (refine WH.sub h ?_; (repeat (first | exact List.Sublist.refl _ | exact List.sublist_append_right _ _ | exact List.sublist_append_left _ _ | apply List.Sublist.cons | refine List.Sublist.trans ?_ (List.sublist_append_left _ _))); done) | (refine WH.sub h ?_; (repeat (first | exact List.Sublist.refl _ | exact List.sublist_append_right _ _ | exact List.sublist_append_left _ _ | apply List.Sublist.cons_cons | apply List.Sublist.cons | refine List.Sublist.trans ?_ (List.sublist_append_left _ _))); done), ?_⟩
      refine TA_perm ((perm_pick (i := 5) rfl).trans (List.Perm.cons _ ((perm_pick (i := 1) rfl).trans (List.Perm.cons _ ((perm_pick (i := 1) rfl).trans (List.Perm.cons _ ((perm_pick (i := 1) rfl).trans (List.Perm.cons _ (List.Perm.refl _))))))))) ?_
      refine TA_one 9 (by kernel_rfl) rfl rfl (TO_call0 call17 rfl rfl (t80T (ns := tameR T 0 ns) fx hrun (Shows.at 0 rfl) ?sd30041q279_1 ?sd30041q279_2 ?sd30041q279_3 ?sd30041q279_4 ?sd30041q279_5 ?sd30041q279_6) ?_)
      case sd30041q279_1 => omega
      case sd30041q279_2 => exact SBlk.mono h_30005_0 (fun w h => h.sub (by (repeat (first | exact List.Sublist.refl _ | exact List.sublist_append_right _ _ | exact List.sublist_append_left _ _ | apply List.Sublist.cons | refine List.Sublist.trans ?_ (List.sublist_append_left _ _))); done))
      case sd30041q279_3 => decide
      case sd30041q279_4 => with_reducible assumption
      case sd30041q279_5 => omega
      case sd30041q279_6 => omega
      rintro v34_30042 H34_30042 ⟨A_30042, k_30042, rfl, h_30042_0, rfl⟩
      refine ⟨by intro w h; first | exact h | exact trivial | (refine WH.sub h ?_; (repeat (first | exact List.Sublist.refl _ | exact List.sublist_append_right _ _ | exact List.sublist_append_left _ _ | apply List.Sublist.cons | refine List.Sublist.trans ?_ (List.sublist_append_left _ _))); done) | (refine WH.sub h ?_; (repeat (first | exact List.Sublist.refl _ | exact List.sublist_append_right _ _ | exact List.sublist_append_left _ _ | apply List.Sublist.cons_cons | apply List.Sublist.cons | refine List.Sublist.trans ?_ (List.sublist_append_left _ _))); done), ?_⟩
      refine TA_one 11 (by kernel_rfl) rfl rfl (TO_store 2 rfl rfl rfl sz48 rfl rfl rfl (List.forall_mem_cons.2 ⟨by first | rfl, List.forall_mem_cons.2 ⟨by first | rfl, List.forall_mem_cons.2 ⟨by first | rfl, List.forall_mem_cons.2 ⟨by first | rfl, List.forall_mem_cons.2 ⟨by first | rfl, List.forall_mem_cons.2 ⟨by first | rfl, by simp⟩⟩⟩⟩⟩⟩) (by first | exact Nat.le_of_ble_eq_true rfl | (simp; done) | (simp; omega) | omega) ?_)
      refine ⟨by intro w h; first | exact h | exact trivial | (refine WH.sub h ?_; (repeat (first | exact List.Sublist.refl _ | exact List.sublist_append_right _ _ | exact List.sublist_append_left _ _ | apply List.Sublist.cons | refine List.Sublist.trans ?_ (List.sublist_append_left _ _))); done) | (refine WH.sub h ?_; (repeat (first | exact List.Sublist.refl _ | exact List.sublist_append_right _ _ | exact List.sublist_append_left _ _ | apply List.Sublist.cons_cons | apply List.Sublist.cons | refine List.Sublist.trans ?_ (List.sublist_append_left _ _))); done), ?_⟩
      refine TA_done (by kernel_rfl) ?_
      refine ?L304
      rotate_left 1
      refine ⟨_, rfl, Or.inl rfl, (TO_alloc rfl zr48 fun g30003 => ?_)⟩
      refine ⟨by intro w h; first | exact h | exact trivial | (refine WH.sub h ?_; (repeat (first | exact List.Sublist.refl _ | exact List.sublist_append_right _ _ | exact List.sublist_append_left _ _ | apply List.Sublist.cons | refine List.Sublist.trans ?_ (List.sublist_append_left _ _))); done) | (refine WH.sub h ?_; (repeat (first | exact List.Sublist.refl _ | exact List.sublist_append_right _ _ | exact List.sublist_append_left _ _ | apply List.Sublist.cons_cons | apply List.Sublist.cons | refine List.Sublist.trans ?_ (List.sublist_append_left _ _))); done), ?_⟩
      refine TA_one 2 (by kernel_rfl) rfl rfl (TO_call0 call10 rfl rfl (t58 _ _ _ _ ?sd30045q279_4 hbn ?sd30045q279_6 ?sd30045q279_7) ?_)
      case sd30045q279_4 => exact SBlk.mono h_8_0 (fun w h => h.sub (by (repeat (first | exact List.Sublist.refl _ | exact List.sublist_append_right _ _ | exact List.sublist_append_left _ _ | apply List.Sublist.cons | refine List.Sublist.trans ?_ (List.sublist_append_left _ _))); done))
      case sd30045q279_6 => omega
      case sd30045q279_7 => with_reducible assumption
      rintro v27_30046 H27_30046 ⟨g_30046, A'_30046, c'_30046, N_30046, rfl, h_30046_0, rfl⟩
      refine ⟨by intro w h; first | exact h | exact trivial | (refine WH.sub h ?_; (repeat (first | exact List.Sublist.refl _ | exact List.sublist_append_right _ _ | exact List.sublist_append_left _ _ | apply List.Sublist.cons | refine List.Sublist.trans ?_ (List.sublist_append_left _ _))); done) | (refine WH.sub h ?_; (repeat (first | exact List.Sublist.refl _ | exact List.sublist_append_right _ _ | exact List.sublist_append_left _ _ | apply List.Sublist.cons_cons | apply List.Sublist.cons | refine List.Sublist.trans ?_ (List.sublist_append_left _ _))); done), ?_⟩
      refine TA_one 4 (by kernel_rfl) rfl rfl (TO_call0 call18 rfl rfl (t69 _ _ _ _ _ _) ?_)
      rintro v29_30049 H29_30049 ⟨g_30049, rfl, rfl⟩
      refine ⟨by intro w h; first | exact h | exact trivial | (refine WH.sub h ?_; (repeat (first | exact List.Sublist.refl _ | exact List.sublist_append_right _ _ | exact List.sublist_append_left _ _ | apply List.Sublist.cons | refine List.Sublist.trans ?_ (List.sublist_append_left _ _))); done) | (refine WH.sub h ?_; (repeat (first | exact List.Sublist.refl _ | exact List.sublist_append_right _ _ | exact List.sublist_append_left _ _ | apply List.Sublist.cons_cons | apply List.Sublist.cons | refine List.Sublist.trans ?_ (List.sublist_append_left _ _))); done), ?_⟩
      refine TA_one 8 (by kernel_rfl) rfl rfl (TO_call0 call19 rfl rfl (Tame_t (T := T) ?sd30051q279_0 ?sd30051q279_1 (Shows.mono hN (fun w h => h.sub (by (repeat (first | exact List.Sublist.refl _ | exact List.sublist_append_right _ _ | exact List.sublist_append_left _ _ | apply List.Sublist.cons | refine List.Sublist.trans ?_ (List.sublist_append_left _ _))); done))) ?sd30051q279_3 ?sd30051q279_4) ?_)
      case sd30051q279_0 => exact hT2
      case sd30051q279_1 => exact hT4
      case sd30051q279_3 => omega
      case sd30051q279_4 => exact hy
      rintro v33_30052 H33_30052 ⟨A_30052, c_30052, rfl, h_30052_0, rfl⟩
      refine ⟨by intro w h; first | exact h | exact trivial | (refine WH.sub h ?_; (repeat (first | exact List.Sublist.refl _ | exact List.sublist_append_right _ _ | exact List.sublist_append_left _ _ | apply List.Sublist.cons | refine List.Sublist.trans ?_ (List.sublist_append_left _ _))); done) | (refine WH.sub h ?_; (repeat (first | exact List.Sublist.refl _ | exact List.sublist_append_right _ _ | exact List.sublist_append_left _ _ | apply List.Sublist.cons_cons | apply List.Sublist.cons | refine List.Sublist.trans ?_ (List.sublist_append_left _ _))); done), ?_⟩
      refine TA_perm ((perm_pick (i := 4) rfl).trans (List.Perm.cons _ ((perm_pick (i := 1) rfl).trans (List.Perm.cons _ ((perm_pick (i := 1) rfl).trans (List.Perm.cons _ ((perm_pick (i := 1) rfl).trans (List.Perm.cons _ (List.Perm.refl _))))))))) ?_
      refine TA_one 9 (by kernel_rfl) rfl rfl (TO_call0 call17 rfl rfl (t80T (ns := tameR T 0 ns) fx hrun (Shows.at 0 rfl) ?sd30054q279_1 ?sd30054q279_2 ?sd30054q279_3 ?sd30054q279_4 ?sd30054q279_5 ?sd30054q279_6) ?_)
      case sd30054q279_1 => omega
      case sd30054q279_2 => exact SBlk.mono h_30046_0 (fun w h => h.sub (by (repeat (first | exact List.Sublist.refl _ | exact List.sublist_append_right _ _ | exact List.sublist_append_left _ _ | apply List.Sublist.cons | refine List.Sublist.trans ?_ (List.sublist_append_left _ _))); done))
      case sd30054q279_3 => decide
      case sd30054q279_4 => with_reducible assumption
      case sd30054q279_5 => omega
      case sd30054q279_6 => omega
      rintro v34_30055 H34_30055 ⟨A_30055, k_30055, rfl, h_30055_0, rfl⟩
      refine ⟨by intro w h; first | exact h | exact trivial | (refine WH.sub h ?_; (repeat (first | exact List.Sublist.refl _ | exact List.sublist_append_right _ _ | exact List.sublist_append_left _ _ | apply List.Sublist.cons | refine List.Sublist.trans ?_ (List.sublist_append_left _ _))); done) | (refine WH.sub h ?_; (repeat (first | exact List.Sublist.refl _ | exact List.sublist_append_right _ _ | exact List.sublist_append_left _ _ | apply List.Sublist.cons_cons | apply List.Sublist.cons | refine List.Sublist.trans ?_ (List.sublist_append_left _ _))); done), ?_⟩
      refine TA_one 11 (by kernel_rfl) rfl rfl (TO_store 2 rfl rfl rfl sz48 rfl rfl rfl (List.forall_mem_cons.2 ⟨by first | rfl, List.forall_mem_cons.2 ⟨by first | rfl, List.forall_mem_cons.2 ⟨by first | rfl, List.forall_mem_cons.2 ⟨by first | rfl, List.forall_mem_cons.2 ⟨by first | rfl, List.forall_mem_cons.2 ⟨by first | rfl, by simp⟩⟩⟩⟩⟩⟩) (by first | exact Nat.le_of_ble_eq_true rfl | (simp; done) | (simp; omega) | omega) ?_)
      refine ⟨by intro w h; first | exact h | exact trivial | (refine WH.sub h ?_; (repeat (first | exact List.Sublist.refl _ | exact List.sublist_append_right _ _ | exact List.sublist_append_left _ _ | apply List.Sublist.cons | refine List.Sublist.trans ?_ (List.sublist_append_left _ _))); done) | (refine WH.sub h ?_; (repeat (first | exact List.Sublist.refl _ | exact List.sublist_append_right _ _ | exact List.sublist_append_left _ _ | apply List.Sublist.cons_cons | apply List.Sublist.cons | refine List.Sublist.trans ?_ (List.sublist_append_left _ _))); done), ?_⟩
      refine TA_done (by kernel_rfl) ?_
      refine ?L305
      case L301 => exact ⟨g30021, A_30020, k_30020, by assumption, (by repeat (first | exact FrSub.nil _ | refine FrSub.cons rfl ?_)), Has.of_sub (by repeat (first | exact List.Sublist.refl _ | exact List.sublist_append_right _ _ | exact List.sublist_append_left _ _ | apply List.Sublist.cons_cons | apply List.Sublist.cons | refine List.Sublist.trans ?_ (List.sublist_append_left _ _)))⟩
      case L302 => exact ⟨g30018, A_30025, k_30025, by assumption, (by repeat (first | exact FrSub.nil _ | refine FrSub.cons rfl ?_)), Has.of_perm ((perm_pick (i := 1) rfl).trans (List.Perm.cons _ ((perm_pick (i := 0) rfl).trans (List.Perm.cons _ (List.Perm.refl _))))) (by repeat (first | exact List.Sublist.refl _ | exact List.sublist_append_right _ _ | exact List.sublist_append_left _ _ | apply List.Sublist.cons_cons | apply List.Sublist.cons | refine List.Sublist.trans ?_ (List.sublist_append_left _ _)))⟩
      case L303 => exact ⟨g30013, A_30032, k_30032, by assumption, (by repeat (first | exact FrSub.nil _ | refine FrSub.cons rfl ?_)), Has.of_perm ((perm_pick (i := 2) rfl).trans (List.Perm.cons _ ((perm_pick (i := 0) rfl).trans (List.Perm.cons _ (List.Perm.refl _))))) (by repeat (first | exact List.Sublist.refl _ | exact List.sublist_append_right _ _ | exact List.sublist_append_left _ _ | apply List.Sublist.cons_cons | apply List.Sublist.cons | refine List.Sublist.trans ?_ (List.sublist_append_left _ _)))⟩
      case L304 => exact ⟨g30008, A_30042, k_30042, by assumption, (by repeat (first | exact FrSub.nil _ | refine FrSub.cons rfl ?_)), Has.of_perm ((perm_pick (i := 2) rfl).trans (List.Perm.cons _ ((perm_pick (i := 0) rfl).trans (List.Perm.cons _ (List.Perm.refl _))))) (by repeat (first | exact List.Sublist.refl _ | exact List.sublist_append_right _ _ | exact List.sublist_append_left _ _ | apply List.Sublist.cons_cons | apply List.Sublist.cons | refine List.Sublist.trans ?_ (List.sublist_append_left _ _)))⟩
      case L305 => exact ⟨g30003, A_30055, k_30055, by assumption, (by repeat (first | exact FrSub.nil _ | refine FrSub.cons rfl ?_)), Has.of_perm ((perm_pick (i := 2) rfl).trans (List.Perm.cons _ ((perm_pick (i := 0) rfl).trans (List.Perm.cons _ (List.Perm.refl _))))) (by repeat (first | exact List.Sublist.refl _ | exact List.sublist_append_right _ _ | exact List.sublist_append_left _ _ | apply List.Sublist.cons_cons | apply List.Sublist.cons | refine List.Sublist.trans ?_ (List.sublist_append_left _ _)))⟩
    · rintro gx Ax kx hkx
      refine T_seq ?_
      refine T_drawn (WH _ _ _) mixed (fun w h => h) ?_
      refine TA_take (dd := (some 35)) 0 rfl (by kernel_rfl) (by kernel_rfl) (by kernel_rfl) rfl rfl rfl (PV_fieldAddr (D := 0) Try.underlying48 rfl sz4 (by decide) rfl rfl) ?_
      refine TA_take (dd := (some 36)) 1 rfl (by kernel_rfl) (by kernel_rfl) (by kernel_rfl) rfl rfl rfl (PV_load Try.underlying4 rfl rfl (Rd.at 0 rfl rfl)) ?_
      refine TA_take (dd := (some 37)) 2 rfl (by kernel_rfl) (by kernel_rfl) (by kernel_rfl) rfl rfl rfl (PV_move rfl) ?_
      refine TA_yes (dd := (some 38)) 3 rfl (by kernel_rfl) (by kernel_rfl) (by kernel_rfl) rfl rfl rfl rfl rfl (PV_fieldAddr (D := 1) Try.underlying48 rfl sz46 (by decide) rfl rfl) ?_
      refine TA_yes (dd := (some 39)) 4 rfl (by kernel_rfl) (by kernel_rfl) (by kernel_rfl) rfl rfl rfl rfl rfl (PV_load Try.underlying46 rfl rfl (Rd.at 0 rfl rfl)) ?_
      refine TA_yes (dd := (some 40)) 5 rfl (by kernel_rfl) (by kernel_rfl) (by kernel_rfl) rfl rfl rfl rfl rfl (PV_bin rfl rfl (bin_nil_nil Try.underlying46)) ?_
      refine TA_take (dd := (some 41)) 6 rfl (by kernel_rfl) (by kernel_rfl) (by kernel_rfl) rfl rfl rfl (PV_pickAnd rfl rfl rfl) ?_
      refine TA_take (dd := (some 42)) 7 rfl (by kernel_rfl) (by kernel_rfl) (by kernel_rfl) rfl rfl rfl (PV_move rfl) ?_
      refine TA_yes (dd := (some 43)) 8 rfl (by kernel_rfl) (by kernel_rfl) (by kernel_rfl) rfl rfl rfl rfl rfl (PV_fieldAddr (D := 2) Try.underlying48 rfl sz46 (by decide) rfl rfl) ?_
      refine TA_yes (dd := (some 44)) 9 rfl (by kernel_rfl) (by kernel_rfl) (by kernel_rfl) rfl rfl rfl rfl rfl (PV_load Try.underlying46 rfl rfl (Rd.at 0 rfl rfl)) ?_
      refine TA_yes (dd := (some 45)) 10 rfl (by kernel_rfl) (by kernel_rfl) (by kernel_rfl) rfl rfl rfl rfl rfl (PV_bin rfl rfl (bin_nil_nil Try.underlying46)) ?_
      refine TA_take (dd := (some 46)) 11 rfl (by kernel_rfl) (by kernel_rfl) (by kernel_rfl) rfl rfl rfl (PV_pickAnd rfl rfl rfl) ?_
      refine TA_take (dd := (some 47)) 12 rfl (by kernel_rfl) (by kernel_rfl) (by kernel_rfl) rfl rfl rfl (PV_move rfl) ?_
      refine TA_yes (dd := (some 48)) 13 rfl (by kernel_rfl) (by kernel_rfl) (by kernel_rfl) rfl rfl rfl rfl rfl (PV_fieldAddr (D := 3) Try.underlying48 rfl sz26 (by decide) rfl rfl) ?_
      refine TA_yes (dd := (some 49)) 14 rfl (by kernel_rfl) (by kernel_rfl) (by kernel_rfl) rfl rfl rfl rfl rfl (PV_load Try.underlying26 rfl rfl (Rd.at 0 rfl rfl)) ?_
      refine TA_yes (dd := (some 50)) 15 rfl (by kernel_rfl) (by kernel_rfl) (by kernel_rfl) rfl rfl rfl rfl rfl (PV_b2s Try.underlying26 Try.underlying5 Try.underlying9 rfl (Shows.at 1 rfl)) ?_
      refine TA_yes (dd := (some 51)) 16 rfl (by kernel_rfl) (by kernel_rfl) (by kernel_rfl) rfl rfl rfl rfl rfl (PV_move rfl) ?_
      refine TA_oneYes 17 (by kernel_rfl) rfl rfl rfl rfl (TO_call0 call20 rfl rfl (t84 ?sd40002q290_0 hbn ?sd40002q290_2 ?sd40002q290_3) ?_)
      case sd40002q290_0 => exact SBlk.mono h_8_0 (fun w h => h.sub (by (repeat (first | exact List.Sublist.refl _ | exact List.sublist_append_right _ _ | exact List.sublist_append_left _ _ | apply List.Sublist.cons | refine List.Sublist.trans ?_ (List.sublist_append_left _ _))); done))
      case sd40002q290_2 => omega
      case sd40002q290_3 => with_reducible assumption
      rintro v52_40003 H52_40003 ⟨rfl, rfl⟩
      refine ⟨by intro w h; first | exact h | exact trivial | (refine WH.sub h ?_; (repeat (first | exact List.Sublist.refl _ | exact List.sublist_append_right _ _ | exact List.sublist_append_left _ _ | apply List.Sublist.cons | refine List.Sublist.trans ?_ (List.sublist_append_left _ _))); done) | (refine WH.sub h ?_; (repeat (first | exact List.Sublist.refl _ | exact List.sublist_append_right _ _ | exact List.sublist_append_left _ _ | apply List.Sublist.cons_cons | apply List.Sublist.cons | refine List.Sublist.trans ?_ (List.sublist_append_left _ _))); done), ?_⟩
      refine TA_yes (dd := (some 53)) 18 rfl (by kernel_rfl) (by kernel_rfl) (by kernel_rfl) rfl rfl rfl rfl rfl (PV_bin rfl rfl bin_str_eql) ?_
      refine TA_take (dd := (some 54)) 19 rfl (by kernel_rfl) (by kernel_rfl) (by kernel_rfl) rfl rfl rfl (PV_pickAnd rfl rfl rfl) ?_
      refine TA_take (dd := (some 10)) 20 rfl (by kernel_rfl) (by kernel_rfl) (by kernel_rfl) rfl rfl rfl (PV_assign rfl) ?_
      refine TA_done (by kernel_rfl) ?_
      refine T_ret ?_
      refine ret_ret (ResV_one rfl rfl) ⟨_, ?zb40004q290, ⟨?L401, rfl⟩⟩
      case zb40004q290 => exact (by (repeat (first | exact List.Sublist.refl _ | exact List.sublist_append_right _ _ | exact List.sublist_append_left _ _ | apply List.Sublist.cons_cons | apply List.Sublist.cons | refine List.Sublist.trans ?_ (List.sublist_append_left _ _))); done)
      case L401 => simp
end
end Go.Proofs.Ytcbkcggijejooaa.SL
