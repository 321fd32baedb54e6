import Derived.Test.YtcbkcggijejooaaR2
/- The receiver: Put, Tick. No statement is proved here. -/
set_option linter.unusedVariables false
set_option linter.unusedSimpArgs false
set_option maxRecDepth 100000
namespace Go.Proofs.Ytcbkcggijejooaa.SL
open Go Go.RowKit
section
variable {w0 : World} {B : Nat} {H X : List Chunk}
/-- the bytes that come: what it is then, and what it says -/
def Rc.got (r : Rc) (b : List Int) : Rc := { r with left := r.wait, buf := r.buf ++ b }
def Rc.put (r : Rc) (b : List Int) : Rc :=
  if r.over = true ∨ b.length = 0 then r
  else if rd (r.buf ++ b) 0 = 4 ∧ r.close = true then (r.got b).fin 0
  else if rd (r.buf ++ b) 0 = 24 ∧ (r.buf ++ b).length > 1 ∧ rd (r.buf ++ b) 1 = 24 then (r.got b).fin 9
  else if rd (r.buf ++ b) 0 = 24 ∧ (r.buf ++ b).length = 1 then r.got b
  else if scanS (r.buf ++ b) r.crc = 0 then r.got b
  else if scanS (r.buf ++ b) r.crc = 2 then ({ r.got b with buf := [] } : Rc).take (rd (r.buf ++ b) 1) (scanD (r.buf ++ b) r.crc)
  else { r.got b with buf := [] }
def Rc.putOut (r : Rc) (b : List Int) : List Int :=
  if r.over = true ∨ b.length = 0 then []
  else if rd (r.buf ++ b) 0 = 4 ∧ r.close = true then [6]
  else if rd (r.buf ++ b) 0 = 24 ∧ (r.buf ++ b).length > 1 ∧ rd (r.buf ++ b) 1 = 24 then []
  else if rd (r.buf ++ b) 0 = 24 ∧ (r.buf ++ b).length = 1 then []
  else if scanS (r.buf ++ b) r.crc = 0 then []
  else if scanS (r.buf ++ b) r.crc = 2 then ({ r.got b with buf := [] } : Rc).takeOut (rd (r.buf ++ b) 1)
  else [21]
theorem nums_at0 {k : IntKind} {xs : List Int} {off : Nat} (h : off = 0) (hi : 0 < xs.length) : (nums k xs)[off]? = some (.int k (rd xs 0)) := by
  subst h; exact nums_at 0 hi
theorem nums_at1 {k : IntKind} {xs : List Int} {off : Nat} (h : off = 1) (hi : 1 < xs.length) : (nums k xs)[off]? = some (.int k (rd xs 1)) := by
  subst h; exact nums_at 1 hi
theorem scanS_cases (l : List Int) (crc : Bool) : scanS l crc = 0 ∨ scanS l crc = 1 ∨ scanS l crc = 2 := by
  unfold scanS
  split
  · simp
  · split
    · simp
    · split
      · simp
      · split
        · simp
        · split <;> simp
theorem scanD_le (l : List Int) (crc : Bool) : (scanD l crc).length ≤ l.length := by
  unfold scanD
  simp
  omega
theorem put_none {g bc dc : Nat} {bA dA : Option Addr} (r : Rc) {Ab : Option Addr} {m cb : Nat} {bs : List Int} (hx : Shows (WH w0 B X) Ab m 1 (nums .u8 bs)) (hm : bs.length = m) (hu : U8s (r.buf ++ bs)) (hlb : r.buf.length + m ≤ 1000000000) (hdl : r.dat.length ≤ 1000000000) (hk1 : 0 ≤ r.blocks) (hk2 : r.blocks ≤ 1000000) (hn1 : 0 ≤ r.number) (hn2 : r.number ≤ 255) (h0 : r.over = true ∨ bs.length = 0) :
    TCall Try.prog w0 B 33 #[.pointer (some ⟨g, 0, none⟩), .slice Ab m cb] (fun v H' => RGives g ([]) (r) X v H') (rcC g bA bc dA dc r :: byC bA bc r.buf :: byC dA dc r.dat :: X) := by
  have hlen : (r.buf ++ bs).length = r.buf.length + bs.length := List.length_append
  have hsd := scanD_le (r.buf ++ bs) r.crc
  rcases h0 with h0 | h0
  · refine TCall_intro (args := [_, _]) Try.func33 rfl Try.ntmps33 (Nat.le_of_ble_eq_true rfl) ?_
    refine T_addNil 1 ?_
    refine T_seq ?_
    refine T_region ?_
    refine TL_pure (d := (some 4)) rfl rfl rfl (PV_assign rfl) ?_
    refine TL_nil ?_
    refine T_seq ?_
    refine T_seq ?_
    refine T_region ?_
    refine TL_pure (d := (some 8)) rfl rfl rfl (PV_move rfl) ?_
    refine TL_pure (d := (some 9)) rfl rfl rfl (PV_nilCheck rfl) ?_
    refine TL_pure (d := (some 10)) rfl rfl rfl (PV_fieldAddr (D := 11) Try.underlying72 rfl sz4 (by decide) rfl rfl) ?_
    refine TL_pure (d := (some 11)) rfl rfl rfl (PV_load Try.underlying4 rfl rfl (Rd.at 1 rfl rfl)) ?_
    refine TL_pure (d := (some 12)) rfl rfl rfl (PV_move rfl) ?_
    refine TL_no (b := true) rfl rfl (gtrue (by with_reducible assumption)) rfl ?_
    refine TL_no (b := true) rfl rfl (gtrue (by with_reducible assumption)) rfl ?_
    refine TL_no (b := true) rfl rfl (gtrue (by with_reducible assumption)) rfl ?_
    refine TL_pure (d := (some 16)) rfl rfl rfl (PV_pickT rfl (by first | assumption | rfl | (simp; done) | (simp; omega) | (simp [*]; done) | (simp [*]; omega)) rfl rfl) ?_
    refine TL_nil ?_
    refine T_then rfl (by rfl) ?_
    refine T_seq ?_
    refine T_region ?_
    refine TL_pure (d := (some 4)) rfl rfl rfl (PV_assign rfl) ?_
    refine TL_nil ?_
    refine T_ret ?_
    refine ret_ret (ResV_one rfl rfl) ⟨_, List.Sublist.refl _, ⟨_, _, _, _, _, _, rfl, ?sd1q53_0, rfl⟩⟩
    case sd1q53_0 => decide
  · refine TCall_intro (args := [_, _]) Try.func33 rfl Try.ntmps33 (Nat.le_of_ble_eq_true rfl) ?_
    refine T_addNil 1 ?_
    refine T_seq ?_
    refine T_region ?_
    refine TL_pure (d := (some 4)) rfl rfl rfl (PV_assign rfl) ?_
    refine TL_nil ?_
    refine T_seq ?_
    refine T_seq ?_
    refine T_region ?_
    refine TL_pure (d := (some 8)) rfl rfl rfl (PV_move rfl) ?_
    refine TL_pure (d := (some 9)) rfl rfl rfl (PV_nilCheck rfl) ?_
    refine TL_pure (d := (some 10)) rfl rfl rfl (PV_fieldAddr (D := 11) Try.underlying72 rfl sz4 (by decide) rfl rfl) ?_
    refine TL_pure (d := (some 11)) rfl rfl rfl (PV_load Try.underlying4 rfl rfl (Rd.at 1 rfl rfl)) ?_
    refine TL_pure (d := (some 12)) rfl rfl rfl (PV_move rfl) ?_
    refine TL_split (d := 12) rfl (fun c101 => ?w101q54y) (fun c101 => ?w101q54n)
    try simp only [decide_eq_true_eq, decide_eq_false_iff_not, beq_iff_eq, beq_eq_false_iff_ne, bne_iff_ne, bne_eq_false_iff_eq, ne_eq, Bool.not_eq_true', Bool.not_eq_false', Bool.not_not, Bool.not_true, Bool.not_false, Bool.and_eq_true, Bool.or_eq_true, Bool.and_eq_false_iff, Bool.or_eq_false_iff, Int.not_lt, Int.not_le, gt_iff_lt, ge_iff_le] at c101
    refine TL_no (b := true) rfl rfl (gtrue (by with_reducible assumption)) rfl ?_
    refine TL_no (b := true) rfl rfl (gtrue (by with_reducible assumption)) rfl ?_
    refine TL_no (b := true) rfl rfl (gtrue (by with_reducible assumption)) rfl ?_
    refine TL_pure (d := (some 16)) rfl rfl rfl (PV_pickT rfl (by first | assumption | rfl | (simp; done) | (simp; omega) | (simp [*]; done) | (simp [*]; omega)) rfl rfl) ?_
    refine TL_nil ?_
    refine T_then rfl (by rfl) ?_
    refine T_seq ?_
    refine T_region ?_
    refine TL_pure (d := (some 4)) rfl rfl rfl (PV_assign rfl) ?_
    refine TL_nil ?_
    refine T_ret ?_
    refine ret_ret (ResV_one rfl rfl) ⟨_, List.Sublist.refl _, ⟨_, _, _, _, _, _, rfl, ?sd102q54_0, rfl⟩⟩
    case sd102q54_0 => decide
    try simp only [decide_eq_true_eq, decide_eq_false_iff_not, beq_iff_eq, beq_eq_false_iff_ne, bne_iff_ne, bne_eq_false_iff_eq, ne_eq, Bool.not_eq_true', Bool.not_eq_false', Bool.not_not, Bool.not_true, Bool.not_false, Bool.and_eq_true, Bool.or_eq_true, Bool.and_eq_false_iff, Bool.or_eq_false_iff, Int.not_lt, Int.not_le, gt_iff_lt, ge_iff_le] at c101
    refine TL_yes rfl rfl (gfalse (by with_reducible assumption)) (TO_pure rfl (PV_move rfl) ?_)
    refine TL_yes rfl rfl (gfalse (by with_reducible assumption)) (TO_pure rfl (PV_len_slice Try.underlying26 rfl) ?_)
    refine TL_yes rfl rfl (gfalse (by with_reducible assumption)) (TO_pure rfl (PV_bin rfl rfl bin_eql) ?_)
    refine TL_pure (d := (some 16)) rfl rfl rfl (PV_pickOr rfl rfl rfl) ?_
    refine TL_nil ?_
    refine T_then rfl (by (simp; omega)) ?_
    refine T_seq ?_
    refine T_region ?_
    refine TL_pure (d := (some 4)) rfl rfl rfl (PV_assign rfl) ?_
    refine TL_nil ?_
    refine T_ret ?_
    refine ret_ret (ResV_one rfl rfl) ⟨_, List.Sublist.refl _, ⟨_, _, _, _, _, _, rfl, ?sd103q54_0, rfl⟩⟩
    case sd103q54_0 => decide
theorem put_eot {g bc dc : Nat} {bA dA : Option Addr} (r : Rc) {Ab : Option Addr} {m cb : Nat} {bs : List Int} (hx : Shows (WH w0 B X) Ab m 1 (nums .u8 bs)) (hm : bs.length = m) (hu : U8s (r.buf ++ bs)) (hlb : r.buf.length + m ≤ 1000000000) (hdl : r.dat.length ≤ 1000000000) (hk1 : 0 ≤ r.blocks) (hk2 : r.blocks ≤ 1000000) (hn1 : 0 ≤ r.number) (hn2 : r.number ≤ 255) (ho : r.over = false) (hb0 : 0 < bs.length) (h4a : rd (r.buf ++ bs) 0 = 4) (h4b : r.close = true) :
    TCall Try.prog w0 B 33 #[.pointer (some ⟨g, 0, none⟩), .slice Ab m cb] (fun v H' => RGives g ([6]) ((r.got bs).fin 0) X v H') (rcC g bA bc dA dc r :: byC bA bc r.buf :: byC dA dc r.dat :: X) := by
  have hlen : (r.buf ++ bs).length = r.buf.length + bs.length := List.length_append
  have hsd := scanD_le (r.buf ++ bs) r.crc
  refine TCall_intro (args := [_, _]) Try.func33 rfl Try.ntmps33 (Nat.le_of_ble_eq_true rfl) ?_
  refine T_seq ?_
  refine T_region ?_
  refine TL_pure (d := (some 4)) rfl rfl rfl (PV_assign rfl) ?_
  refine TL_nil ?_
  refine T_seq ?_
  refine T_seq ?_
  refine T_region ?_
  refine TL_pure (d := (some 8)) rfl rfl rfl (PV_move rfl) ?_
  refine TL_pure (d := (some 9)) rfl rfl rfl (PV_nilCheck rfl) ?_
  refine TL_pure (d := (some 10)) rfl rfl rfl (PV_fieldAddr (D := 11) Try.underlying72 rfl sz4 (by decide) rfl rfl) ?_
  refine TL_pure (d := (some 11)) rfl rfl rfl (PV_load Try.underlying4 rfl rfl (Rd.at 0 rfl rfl)) ?_
  refine TL_pure (d := (some 12)) rfl rfl rfl (PV_move rfl) ?_
  refine TL_yes rfl rfl (gfalse (by with_reducible assumption)) (TO_pure rfl (PV_move rfl) ?_)
  refine TL_yes rfl rfl (gfalse (by with_reducible assumption)) (TO_pure rfl (PV_len_slice Try.underlying26 rfl) ?_)
  refine TL_yes rfl rfl (gfalse (by with_reducible assumption)) (TO_pure rfl (PV_bin rfl rfl bin_eql) ?_)
  refine TL_pure (d := (some 16)) rfl rfl rfl (PV_pickOr rfl rfl rfl) ?_
  refine TL_nil ?_
  refine T_else rfl (by (simp [*]; omega)) ?_
  refine T_skip ?_
  refine T_seq ?_
  refine T_region ?_
  refine TL_pure (d := (some 17)) rfl rfl rfl (PV_move rfl) ?_
  refine TL_pure (d := (some 18)) rfl rfl rfl (PV_move rfl) ?_
  refine TL_pure (d := (some 19)) rfl rfl rfl (PV_nilCheck rfl) ?_
  refine TL_pure (d := (some 20)) rfl rfl rfl (PV_fieldAddr (D := 1) Try.underlying72 rfl sz3 (by decide) rfl rfl) ?_
  refine TL_pure (d := (some 21)) rfl rfl rfl (PV_load Try.underlying3 rfl rfl (Rd.at 0 rfl rfl)) ?_
  refine TL_pure (d := (some 22)) rfl rfl rfl (PV_nilCheck rfl) ?_
  refine TL_pure (d := (some 23)) rfl rfl rfl (PV_fieldAddr (D := 3) Try.underlying72 rfl sz3 (by decide) rfl rfl) ?_
  refine TL_cons rfl (TO_store1 0 rfl rfl rfl sz3 rfl rfl rfl (by first | exact Nat.le_of_ble_eq_true rfl | (simp; done) | (simp; omega) | omega) ?_)
  refine TL_nil ?_
  refine T_seq ?_
  refine T_region ?_
  refine TL_pure (d := (some 24)) rfl rfl rfl (PV_move rfl) ?_
  refine TL_pure (d := (some 25)) rfl rfl rfl (PV_move rfl) ?_
  refine TL_pure (d := (some 26)) rfl rfl rfl (PV_nilCheck rfl) ?_
  refine TL_pure (d := (some 27)) rfl rfl rfl (PV_fieldAddr (D := 7) Try.underlying72 rfl sz26 (by decide) rfl rfl) ?_
  refine TL_pure (d := (some 28)) rfl rfl rfl (PV_load Try.underlying26 rfl rfl (Rd.at 0 rfl rfl)) ?_
  refine TL_pure (d := (some 29)) rfl rfl rfl (PV_move rfl) ?_
  refine TL_cons rfl (TO_appendB 1 rfl Try.underlying26 zb5 rfl rfl rfl rfl (Shows.mono hx (fun w h => h.sub (by (repeat (first | exact List.Sublist.refl _ | exact List.sublist_append_right _ _ | exact List.sublist_append_left _ _ | apply List.Sublist.cons | refine List.Sublist.trans ?_ (List.sublist_append_left _ _))); done))) ?bb2q60 ?bc2q60 fun A2 c2 hc2 => ?_)
  case bb2q60 => omega
  case bc2q60 => omega
  refine TL_pure (d := (some 31)) rfl rfl rfl (PV_nilCheck rfl) ?_
  refine TL_pure (d := (some 32)) rfl rfl rfl (PV_fieldAddr (D := 7) Try.underlying72 rfl sz26 (by decide) rfl rfl) ?_
  refine TL_cons rfl (TO_store1 0 rfl rfl rfl sz26 rfl rfl rfl (by first | exact Nat.le_of_ble_eq_true rfl | (simp; done) | (simp; omega) | omega) ?_)
  refine TL_nil ?_
  refine T_seq ?_
  refine T_seq ?_
  refine T_region ?_
  refine TL_pure (d := (some 33)) rfl rfl rfl (PV_move rfl) ?_
  refine TL_pure (d := (some 34)) rfl rfl rfl (PV_nilCheck rfl) ?_
  refine TL_pure (d := (some 35)) rfl rfl rfl (PV_fieldAddr (D := 7) Try.underlying72 rfl sz26 (by decide) rfl rfl) ?_
  refine TL_pure (d := (some 36)) rfl rfl rfl (PV_load Try.underlying26 rfl rfl (Rd.at 0 rfl rfl)) ?_
  refine TL_slA 1 rfl (by omega) fun g5 e5 => ?_
  subst e5
  refine TL_pure (d := (some 37)) rfl rfl rfl (PV_indexAddr (i := 0) Try.underlying26 sz5 rfl rfl rfl (by first | omega | decide | assumption)) ?_
  refine TL_pure (d := (some 38)) rfl rfl rfl (PV_load Try.underlying5 rfl rfl (Rd.at 1 rfl (nums_at0 rfl (by omega)))) ?_
  refine TL_pure (d := (some 5)) rfl rfl rfl (PV_assign rfl) ?_
  refine TL_nil ?_
  refine T_block ?_
  refine T_seq ?_
  refine T_region ?_
  refine TL_pure (d := (some 40)) rfl rfl rfl (PV_move rfl) ?_
  refine TL_pure (d := (some 41)) rfl rfl rfl (PV_bin rfl rfl bin_eql) ?_
  refine TL_pure (d := (some 42)) rfl rfl rfl (PV_move rfl) ?_
  refine TL_yes rfl rfl (gtrue (by exact decide_eq_true (by omega))) (TO_pure rfl (PV_move rfl) ?_)
  refine TL_yes rfl rfl (gtrue (by exact decide_eq_true (by omega))) (TO_pure rfl (PV_nilCheck rfl) ?_)
  refine TL_yes rfl rfl (gtrue (by exact decide_eq_true (by omega))) (TO_pure rfl (PV_fieldAddr (D := 6) Try.underlying72 rfl sz4 (by decide) rfl rfl) ?_)
  refine TL_yes rfl rfl (gtrue (by exact decide_eq_true (by omega))) (TO_pure rfl (PV_load Try.underlying4 rfl rfl (Rd.at 0 rfl rfl)) ?_)
  refine TL_pure (d := (some 47)) rfl rfl rfl (PV_pickAnd rfl rfl rfl) ?_
  refine TL_pure (d := (some 39)) rfl rfl rfl (PV_assign rfl) ?_
  refine TL_nil ?_
  refine T_then rfl (by (simp [*]; done)) ?_
  refine T_seq ?_
  refine T_region ?_
  refine TL_pure (d := (some 48)) rfl rfl rfl (PV_move rfl) ?_
  refine TL_cons rfl (TO_bs (cs := [_]) Try.underlying26 zs5 (by decide) rfl rfl rfl rfl rfl rfl fun g6 => ?_)
  refine TL_perm ((perm_pick (i := 1) rfl).trans (List.Perm.cons _ (List.Perm.refl _))) ?_
  refine TL_cons rfl (TO_call0 call38 rfl rfl (t96nil (r := r.got bs) _ _ _) ?_)
  rintro v50_9 H50_9 ⟨rfl, rfl⟩
  refine TL_pure (d := (some 4)) rfl rfl rfl (PV_assign rfl) ?_
  refine TL_nil ?_
  refine T.perm ((perm_pick (i := 1) rfl).trans (List.Perm.cons _ ((perm_pick (i := 0) rfl).trans (List.Perm.cons _ ((perm_pick (i := 0) rfl).trans (List.Perm.cons _ ((perm_pick (i := 0) rfl).trans (List.Perm.cons _ (List.Perm.refl _))))))))) ?_
  refine T_ret ?_
  refine ret_ret (ResV_one rfl rfl) ⟨_, List.Sublist.refl _, ⟨_, _, _, _, _, _, rfl, ?sd10q60_0, rfl⟩⟩
  case sd10q60_0 => decide
theorem put_can {g bc dc : Nat} {bA dA : Option Addr} (r : Rc) {Ab : Option Addr} {m cb : Nat} {bs : List Int} (hx : Shows (WH w0 B X) Ab m 1 (nums .u8 bs)) (hm : bs.length = m) (hu : U8s (r.buf ++ bs)) (hlb : r.buf.length + m ≤ 1000000000) (hdl : r.dat.length ≤ 1000000000) (hk1 : 0 ≤ r.blocks) (hk2 : r.blocks ≤ 1000000) (hn1 : 0 ≤ r.number) (hn2 : r.number ≤ 255) (ho : r.over = false) (hb0 : 0 < bs.length) (h4 : ¬ (rd (r.buf ++ bs) 0 = 4 ∧ r.close = true)) (h5a : rd (r.buf ++ bs) 0 = 24) (h5b : (r.buf ++ bs).length > 1) (h5c : rd (r.buf ++ bs) 1 = 24) :
    TCall Try.prog w0 B 33 #[.pointer (some ⟨g, 0, none⟩), .slice Ab m cb] (fun v H' => RGives g ([]) ((r.got bs).fin 9) X v H') (rcC g bA bc dA dc r :: byC bA bc r.buf :: byC dA dc r.dat :: X) := by
  have hlen : (r.buf ++ bs).length = r.buf.length + bs.length := List.length_append
  have hsd := scanD_le (r.buf ++ bs) r.crc
  refine TCall_intro (args := [_, _]) Try.func33 rfl Try.ntmps33 (Nat.le_of_ble_eq_true rfl) ?_
  refine T_addNil 1 ?_
  refine T_seq ?_
  refine T_region ?_
  refine TL_pure (d := (some 4)) rfl rfl rfl (PV_assign rfl) ?_
  refine TL_nil ?_
  refine T_seq ?_
  refine T_seq ?_
  refine T_region ?_
  refine TL_pure (d := (some 8)) rfl rfl rfl (PV_move rfl) ?_
  refine TL_pure (d := (some 9)) rfl rfl rfl (PV_nilCheck rfl) ?_
  refine TL_pure (d := (some 10)) rfl rfl rfl (PV_fieldAddr (D := 11) Try.underlying72 rfl sz4 (by decide) rfl rfl) ?_
  refine TL_pure (d := (some 11)) rfl rfl rfl (PV_load Try.underlying4 rfl rfl (Rd.at 1 rfl rfl)) ?_
  refine TL_pure (d := (some 12)) rfl rfl rfl (PV_move rfl) ?_
  refine TL_yes rfl rfl (gfalse (by with_reducible assumption)) (TO_pure rfl (PV_move rfl) ?_)
  refine TL_yes rfl rfl (gfalse (by with_reducible assumption)) (TO_pure rfl (PV_len_slice Try.underlying26 rfl) ?_)
  refine TL_yes rfl rfl (gfalse (by with_reducible assumption)) (TO_pure rfl (PV_bin rfl rfl bin_eql) ?_)
  refine TL_pure (d := (some 16)) rfl rfl rfl (PV_pickOr rfl rfl rfl) ?_
  refine TL_nil ?_
  refine T_else rfl (by (simp [*]; omega)) ?_
  refine T_skip ?_
  refine T_seq ?_
  refine T_region ?_
  refine TL_pure (d := (some 17)) rfl rfl rfl (PV_move rfl) ?_
  refine TL_pure (d := (some 18)) rfl rfl rfl (PV_move rfl) ?_
  refine TL_pure (d := (some 19)) rfl rfl rfl (PV_nilCheck rfl) ?_
  refine TL_pure (d := (some 20)) rfl rfl rfl (PV_fieldAddr (D := 1) Try.underlying72 rfl sz3 (by decide) rfl rfl) ?_
  refine TL_pure (d := (some 21)) rfl rfl rfl (PV_load Try.underlying3 rfl rfl (Rd.at 1 rfl rfl)) ?_
  refine TL_pure (d := (some 22)) rfl rfl rfl (PV_nilCheck rfl) ?_
  refine TL_pure (d := (some 23)) rfl rfl rfl (PV_fieldAddr (D := 3) Try.underlying72 rfl sz3 (by decide) rfl rfl) ?_
  refine TL_cons rfl (TO_store1 1 rfl rfl rfl sz3 rfl rfl rfl (by first | exact Nat.le_of_ble_eq_true rfl | (simp; done) | (simp; omega) | omega) ?_)
  refine TL_nil ?_
  refine T_seq ?_
  refine T_region ?_
  refine TL_pure (d := (some 24)) rfl rfl rfl (PV_move rfl) ?_
  refine TL_pure (d := (some 25)) rfl rfl rfl (PV_move rfl) ?_
  refine TL_pure (d := (some 26)) rfl rfl rfl (PV_nilCheck rfl) ?_
  refine TL_pure (d := (some 27)) rfl rfl rfl (PV_fieldAddr (D := 7) Try.underlying72 rfl sz26 (by decide) rfl rfl) ?_
  refine TL_pure (d := (some 28)) rfl rfl rfl (PV_load Try.underlying26 rfl rfl (Rd.at 1 rfl rfl)) ?_
  refine TL_pure (d := (some 29)) rfl rfl rfl (PV_move rfl) ?_
  refine TL_cons rfl (TO_appendB 2 rfl Try.underlying26 zb5 rfl rfl rfl rfl (Shows.mono hx (fun w h => h.sub (by (repeat (first | exact List.Sublist.refl _ | exact List.sublist_append_right _ _ | exact List.sublist_append_left _ _ | apply List.Sublist.cons | refine List.Sublist.trans ?_ (List.sublist_append_left _ _))); done))) ?bb2q69 ?bc2q69 fun A2 c2 hc2 => ?_)
  case bb2q69 => omega
  case bc2q69 => omega
  refine TL_pure (d := (some 31)) rfl rfl rfl (PV_nilCheck rfl) ?_
  refine TL_pure (d := (some 32)) rfl rfl rfl (PV_fieldAddr (D := 7) Try.underlying72 rfl sz26 (by decide) rfl rfl) ?_
  refine TL_cons rfl (TO_store1 1 rfl rfl rfl sz26 rfl rfl rfl (by first | exact Nat.le_of_ble_eq_true rfl | (simp; done) | (simp; omega) | omega) ?_)
  refine TL_nil ?_
  refine T_seq ?_
  refine T_seq ?_
  refine T_region ?_
  refine TL_pure (d := (some 33)) rfl rfl rfl (PV_move rfl) ?_
  refine TL_pure (d := (some 34)) rfl rfl rfl (PV_nilCheck rfl) ?_
  refine TL_pure (d := (some 35)) rfl rfl rfl (PV_fieldAddr (D := 7) Try.underlying72 rfl sz26 (by decide) rfl rfl) ?_
  refine TL_pure (d := (some 36)) rfl rfl rfl (PV_load Try.underlying26 rfl rfl (Rd.at 1 rfl rfl)) ?_
  refine TL_slA 2 rfl (by omega) fun g5 e5 => ?_
  subst e5
  refine TL_pure (d := (some 37)) rfl rfl rfl (PV_indexAddr (i := 0) Try.underlying26 sz5 rfl rfl rfl (by first | omega | decide | assumption)) ?_
  refine TL_pure (d := (some 38)) rfl rfl rfl (PV_load Try.underlying5 rfl rfl (Rd.at 2 rfl (nums_at0 rfl (by omega)))) ?_
  refine TL_pure (d := (some 5)) rfl rfl rfl (PV_assign rfl) ?_
  refine TL_nil ?_
  refine T_block ?_
  refine T_seq ?_
  refine T_region ?_
  refine TL_pure (d := (some 40)) rfl rfl rfl (PV_move rfl) ?_
  refine TL_pure (d := (some 41)) rfl rfl rfl (PV_bin rfl rfl bin_eql) ?_
  refine TL_pure (d := (some 42)) rfl rfl rfl (PV_move rfl) ?_
  refine TL_no (b := false) rfl rfl (gfalse (by exact decide_eq_false (by omega))) rfl ?_
  refine TL_no (b := false) rfl rfl (gfalse (by exact decide_eq_false (by omega))) rfl ?_
  refine TL_no (b := false) rfl rfl (gfalse (by exact decide_eq_false (by omega))) rfl ?_
  refine TL_no (b := false) rfl rfl (gfalse (by exact decide_eq_false (by omega))) rfl ?_
  refine TL_pure (d := (some 47)) rfl rfl rfl (PV_pickF rfl (by first | assumption | rfl | (simp; done) | (simp; omega) | (simp [*]; done) | (simp [*]; omega)) rfl rfl) ?_
  refine TL_pure (d := (some 39)) rfl rfl rfl (PV_assign rfl) ?_
  refine TL_nil ?_
  refine T_else rfl (by rfl) ?_
  refine T_seq ?_
  refine T_region ?_
  refine TL_pure (d := (some 52)) rfl rfl rfl (PV_move rfl) ?_
  refine TL_pure (d := (some 53)) rfl rfl rfl (PV_bin rfl rfl bin_eql) ?_
  refine TL_pure (d := (some 54)) rfl rfl rfl (PV_move rfl) ?_
  refine TL_yes rfl rfl (gtrue (by exact decide_eq_true (by omega))) (TO_pure rfl (PV_move rfl) ?_)
  refine TL_yes rfl rfl (gtrue (by exact decide_eq_true (by omega))) (TO_pure rfl (PV_nilCheck rfl) ?_)
  refine TL_yes rfl rfl (gtrue (by exact decide_eq_true (by omega))) (TO_pure rfl (PV_fieldAddr (D := 7) Try.underlying72 rfl sz26 (by decide) rfl rfl) ?_)
  refine TL_yes rfl rfl (gtrue (by exact decide_eq_true (by omega))) (TO_pure rfl (PV_load Try.underlying26 rfl rfl (Rd.at 1 rfl rfl)) ?_)
  refine TL_yes rfl rfl (gtrue (by exact decide_eq_true (by omega))) (TO_pure rfl (PV_len_slice Try.underlying26 rfl) ?_)
  refine TL_yes rfl rfl (gtrue (by exact decide_eq_true (by omega))) (TO_pure rfl (PV_bin rfl rfl bin_gtr) ?_)
  refine TL_pure (d := (some 61)) rfl rfl rfl (PV_pickAnd rfl rfl rfl) ?_
  refine TL_pure (d := (some 62)) rfl rfl rfl (PV_move rfl) ?_
  refine TL_yes rfl rfl (gtrue (by (simp; omega))) (TO_pure rfl (PV_move rfl) ?_)
  refine TL_yes rfl rfl (gtrue (by (simp; omega))) (TO_pure rfl (PV_nilCheck rfl) ?_)
  refine TL_yes rfl rfl (gtrue (by (simp; omega))) (TO_pure rfl (PV_fieldAddr (D := 7) Try.underlying72 rfl sz26 (by decide) rfl rfl) ?_)
  refine TL_yes rfl rfl (gtrue (by (simp; omega))) (TO_pure rfl (PV_load Try.underlying26 rfl rfl (Rd.at 1 rfl rfl)) ?_)
  refine TL_yes rfl rfl (gtrue (by (simp; omega))) (TO_pure rfl (PV_indexAddr (i := 1) Try.underlying26 sz5 rfl rfl rfl (by first | omega | decide | assumption)) ?_)
  refine TL_yes rfl rfl (gtrue (by (simp; omega))) (TO_pure rfl (PV_load Try.underlying5 rfl rfl (Rd.at 2 rfl (nums_at1 rfl (by omega)))) ?_)
  refine TL_yes rfl rfl (gtrue (by (simp; omega))) (TO_pure rfl (PV_bin rfl rfl bin_eql) ?_)
  refine TL_pure (d := (some 70)) rfl rfl rfl (PV_pickAnd rfl rfl rfl) ?_
  refine TL_pure (d := (some 51)) rfl rfl rfl (PV_assign rfl) ?_
  refine TL_nil ?_
  refine T_then rfl (by (simp; omega)) ?_
  refine T_seq ?_
  refine T_region ?_
  refine TL_pure (d := (some 71)) rfl rfl rfl (PV_move rfl) ?_
  refine TL_pure (d := (some 72)) rfl rfl rfl (PV_makeInterface (by kernel_rfl) rfl) ?_
  refine TL_perm ((perm_pick (i := 1) rfl).trans (List.Perm.cons _ (List.Perm.refl _))) ?_
  refine TL_cons rfl (TO_call0 call38 rfl rfl (t96can (r := r.got bs) _ _ _) ?_)
  rintro v73_8 H73_8 ⟨rfl, rfl⟩
  refine TL_pure (d := (some 4)) rfl rfl rfl (PV_assign rfl) ?_
  refine TL_nil ?_
  refine T.perm ((perm_pick (i := 1) rfl).trans (List.Perm.cons _ ((perm_pick (i := 0) rfl).trans (List.Perm.cons _ ((perm_pick (i := 0) rfl).trans (List.Perm.cons _ ((perm_pick (i := 0) rfl).trans (List.Perm.cons _ (List.Perm.refl _))))))))) ?_
  refine T_ret ?_
  refine ret_ret (ResV_one rfl rfl) ⟨_, List.Sublist.refl _, ⟨_, _, _, _, _, _, rfl, ?sd9q69_0, rfl⟩⟩
  case sd9q69_0 => decide
theorem put_one {g bc dc : Nat} {bA dA : Option Addr} (r : Rc) {Ab : Option Addr} {m cb : Nat} {bs : List Int} (hx : Shows (WH w0 B X) Ab m 1 (nums .u8 bs)) (hm : bs.length = m) (hu : U8s (r.buf ++ bs)) (hlb : r.buf.length + m ≤ 1000000000) (hdl : r.dat.length ≤ 1000000000) (hk1 : 0 ≤ r.blocks) (hk2 : r.blocks ≤ 1000000) (hn1 : 0 ≤ r.number) (hn2 : r.number ≤ 255) (ho : r.over = false) (hb0 : 0 < bs.length) (h4 : ¬ (rd (r.buf ++ bs) 0 = 4 ∧ r.close = true)) (h5 : ¬ (rd (r.buf ++ bs) 0 = 24 ∧ (r.buf ++ bs).length > 1 ∧ rd (r.buf ++ bs) 1 = 24)) (h6a : rd (r.buf ++ bs) 0 = 24) (h6b : (r.buf ++ bs).length = 1) :
    TCall Try.prog w0 B 33 #[.pointer (some ⟨g, 0, none⟩), .slice Ab m cb] (fun v H' => RGives g ([]) (r.got bs) X v H') (rcC g bA bc dA dc r :: byC bA bc r.buf :: byC dA dc r.dat :: X) := by
  have hlen : (r.buf ++ bs).length = r.buf.length + bs.length := List.length_append
  have hsd := scanD_le (r.buf ++ bs) r.crc
  refine TCall_intro (args := [_, _]) Try.func33 rfl Try.ntmps33 (Nat.le_of_ble_eq_true rfl) ?_
  refine T_addNil 1 ?_
  refine T_seq ?_
  refine T_region ?_
  refine TL_pure (d := (some 4)) rfl rfl rfl (PV_assign rfl) ?_
  refine TL_nil ?_
  refine T_seq ?_
  refine T_seq ?_
  refine T_region ?_
  refine TL_pure (d := (some 8)) rfl rfl rfl (PV_move rfl) ?_
  refine TL_pure (d := (some 9)) rfl rfl rfl (PV_nilCheck rfl) ?_
  refine TL_pure (d := (some 10)) rfl rfl rfl (PV_fieldAddr (D := 11) Try.underlying72 rfl sz4 (by decide) rfl rfl) ?_
  refine TL_pure (d := (some 11)) rfl rfl rfl (PV_load Try.underlying4 rfl rfl (Rd.at 1 rfl rfl)) ?_
  refine TL_pure (d := (some 12)) rfl rfl rfl (PV_move rfl) ?_
  refine TL_yes rfl rfl (gfalse (by with_reducible assumption)) (TO_pure rfl (PV_move rfl) ?_)
  refine TL_yes rfl rfl (gfalse (by with_reducible assumption)) (TO_pure rfl (PV_len_slice Try.underlying26 rfl) ?_)
  refine TL_yes rfl rfl (gfalse (by with_reducible assumption)) (TO_pure rfl (PV_bin rfl rfl bin_eql) ?_)
  refine TL_pure (d := (some 16)) rfl rfl rfl (PV_pickOr rfl rfl rfl) ?_
  refine TL_nil ?_
  refine T_else rfl (by (simp [*]; omega)) ?_
  refine T_skip ?_
  refine T_seq ?_
  refine T_region ?_
  refine TL_pure (d := (some 17)) rfl rfl rfl (PV_move rfl) ?_
  refine TL_pure (d := (some 18)) rfl rfl rfl (PV_move rfl) ?_
  refine TL_pure (d := (some 19)) rfl rfl rfl (PV_nilCheck rfl) ?_
  refine TL_pure (d := (some 20)) rfl rfl rfl (PV_fieldAddr (D := 1) Try.underlying72 rfl sz3 (by decide) rfl rfl) ?_
  refine TL_pure (d := (some 21)) rfl rfl rfl (PV_load Try.underlying3 rfl rfl (Rd.at 1 rfl rfl)) ?_
  refine TL_pure (d := (some 22)) rfl rfl rfl (PV_nilCheck rfl) ?_
  refine TL_pure (d := (some 23)) rfl rfl rfl (PV_fieldAddr (D := 3) Try.underlying72 rfl sz3 (by decide) rfl rfl) ?_
  refine TL_cons rfl (TO_store1 1 rfl rfl rfl sz3 rfl rfl rfl (by first | exact Nat.le_of_ble_eq_true rfl | (simp; done) | (simp; omega) | omega) ?_)
  refine TL_nil ?_
  refine T_seq ?_
  refine T_region ?_
  refine TL_pure (d := (some 24)) rfl rfl rfl (PV_move rfl) ?_
  refine TL_pure (d := (some 25)) rfl rfl rfl (PV_move rfl) ?_
  refine TL_pure (d := (some 26)) rfl rfl rfl (PV_nilCheck rfl) ?_
  refine TL_pure (d := (some 27)) rfl rfl rfl (PV_fieldAddr (D := 7) Try.underlying72 rfl sz26 (by decide) rfl rfl) ?_
  refine TL_pure (d := (some 28)) rfl rfl rfl (PV_load Try.underlying26 rfl rfl (Rd.at 1 rfl rfl)) ?_
  refine TL_pure (d := (some 29)) rfl rfl rfl (PV_move rfl) ?_
  refine TL_cons rfl (TO_appendB 2 rfl Try.underlying26 zb5 rfl rfl rfl rfl (Shows.mono hx (fun w h => h.sub (by (repeat (first | exact List.Sublist.refl _ | exact List.sublist_append_right _ _ | exact List.sublist_append_left _ _ | apply List.Sublist.cons | refine List.Sublist.trans ?_ (List.sublist_append_left _ _))); done))) ?bb2q79 ?bc2q79 fun A2 c2 hc2 => ?_)
  case bb2q79 => omega
  case bc2q79 => omega
  refine TL_pure (d := (some 31)) rfl rfl rfl (PV_nilCheck rfl) ?_
  refine TL_pure (d := (some 32)) rfl rfl rfl (PV_fieldAddr (D := 7) Try.underlying72 rfl sz26 (by decide) rfl rfl) ?_
  refine TL_cons rfl (TO_store1 1 rfl rfl rfl sz26 rfl rfl rfl (by first | exact Nat.le_of_ble_eq_true rfl | (simp; done) | (simp; omega) | omega) ?_)
  refine TL_nil ?_
  refine T_seq ?_
  refine T_seq ?_
  refine T_region ?_
  refine TL_pure (d := (some 33)) rfl rfl rfl (PV_move rfl) ?_
  refine TL_pure (d := (some 34)) rfl rfl rfl (PV_nilCheck rfl) ?_
  refine TL_pure (d := (some 35)) rfl rfl rfl (PV_fieldAddr (D := 7) Try.underlying72 rfl sz26 (by decide) rfl rfl) ?_
  refine TL_pure (d := (some 36)) rfl rfl rfl (PV_load Try.underlying26 rfl rfl (Rd.at 1 rfl rfl)) ?_
  refine TL_slA 2 rfl (by omega) fun g5 e5 => ?_
  subst e5
  refine TL_pure (d := (some 37)) rfl rfl rfl (PV_indexAddr (i := 0) Try.underlying26 sz5 rfl rfl rfl (by first | omega | decide | assumption)) ?_
  refine TL_pure (d := (some 38)) rfl rfl rfl (PV_load Try.underlying5 rfl rfl (Rd.at 2 rfl (nums_at0 rfl (by omega)))) ?_
  refine TL_pure (d := (some 5)) rfl rfl rfl (PV_assign rfl) ?_
  refine TL_nil ?_
  refine T_block ?_
  refine T_seq ?_
  refine T_region ?_
  refine TL_pure (d := (some 40)) rfl rfl rfl (PV_move rfl) ?_
  refine TL_pure (d := (some 41)) rfl rfl rfl (PV_bin rfl rfl bin_eql) ?_
  refine TL_pure (d := (some 42)) rfl rfl rfl (PV_move rfl) ?_
  refine TL_no (b := false) rfl rfl (gfalse (by exact decide_eq_false (by omega))) rfl ?_
  refine TL_no (b := false) rfl rfl (gfalse (by exact decide_eq_false (by omega))) rfl ?_
  refine TL_no (b := false) rfl rfl (gfalse (by exact decide_eq_false (by omega))) rfl ?_
  refine TL_no (b := false) rfl rfl (gfalse (by exact decide_eq_false (by omega))) rfl ?_
  refine TL_pure (d := (some 47)) rfl rfl rfl (PV_pickF rfl (by first | assumption | rfl | (simp; done) | (simp; omega) | (simp [*]; done) | (simp [*]; omega)) rfl rfl) ?_
  refine TL_pure (d := (some 39)) rfl rfl rfl (PV_assign rfl) ?_
  refine TL_nil ?_
  refine T_else rfl (by rfl) ?_
  refine T_seq ?_
  refine T_region ?_
  refine TL_pure (d := (some 52)) rfl rfl rfl (PV_move rfl) ?_
  refine TL_pure (d := (some 53)) rfl rfl rfl (PV_bin rfl rfl bin_eql) ?_
  refine TL_pure (d := (some 54)) rfl rfl rfl (PV_move rfl) ?_
  refine TL_yes rfl rfl (gtrue (by exact decide_eq_true (by omega))) (TO_pure rfl (PV_move rfl) ?_)
  refine TL_yes rfl rfl (gtrue (by exact decide_eq_true (by omega))) (TO_pure rfl (PV_nilCheck rfl) ?_)
  refine TL_yes rfl rfl (gtrue (by exact decide_eq_true (by omega))) (TO_pure rfl (PV_fieldAddr (D := 7) Try.underlying72 rfl sz26 (by decide) rfl rfl) ?_)
  refine TL_yes rfl rfl (gtrue (by exact decide_eq_true (by omega))) (TO_pure rfl (PV_load Try.underlying26 rfl rfl (Rd.at 1 rfl rfl)) ?_)
  refine TL_yes rfl rfl (gtrue (by exact decide_eq_true (by omega))) (TO_pure rfl (PV_len_slice Try.underlying26 rfl) ?_)
  refine TL_yes rfl rfl (gtrue (by exact decide_eq_true (by omega))) (TO_pure rfl (PV_bin rfl rfl bin_gtr) ?_)
  refine TL_pure (d := (some 61)) rfl rfl rfl (PV_pickAnd rfl rfl rfl) ?_
  refine TL_pure (d := (some 62)) rfl rfl rfl (PV_move rfl) ?_
  refine TL_no (b := false) rfl rfl (gfalse (by (simp; omega))) rfl ?_
  refine TL_no (b := false) rfl rfl (gfalse (by (simp; omega))) rfl ?_
  refine TL_no (b := false) rfl rfl (gfalse (by (simp; omega))) rfl ?_
  refine TL_no (b := false) rfl rfl (gfalse (by (simp; omega))) rfl ?_
  refine TL_no (b := false) rfl rfl (gfalse (by (simp; omega))) rfl ?_
  refine TL_no (b := false) rfl rfl (gfalse (by (simp; omega))) rfl ?_
  refine TL_no (b := false) rfl rfl (gfalse (by (simp; omega))) rfl ?_
  refine TL_pure (d := (some 70)) rfl rfl rfl (PV_pickF rfl (by first | assumption | rfl | (simp; done) | (simp; omega) | (simp [*]; done) | (simp [*]; omega)) rfl rfl) ?_
  refine TL_pure (d := (some 51)) rfl rfl rfl (PV_assign rfl) ?_
  refine TL_nil ?_
  refine T_else rfl (by rfl) ?_
  refine T_seq ?_
  refine T_region ?_
  refine TL_pure (d := (some 75)) rfl rfl rfl (PV_move rfl) ?_
  refine TL_pure (d := (some 76)) rfl rfl rfl (PV_bin rfl rfl bin_eql) ?_
  refine TL_pure (d := (some 77)) rfl rfl rfl (PV_move rfl) ?_
  refine TL_yes rfl rfl (gtrue (by exact decide_eq_true (by omega))) (TO_pure rfl (PV_move rfl) ?_)
  refine TL_yes rfl rfl (gtrue (by exact decide_eq_true (by omega))) (TO_pure rfl (PV_nilCheck rfl) ?_)
  refine TL_yes rfl rfl (gtrue (by exact decide_eq_true (by omega))) (TO_pure rfl (PV_fieldAddr (D := 7) Try.underlying72 rfl sz26 (by decide) rfl rfl) ?_)
  refine TL_yes rfl rfl (gtrue (by exact decide_eq_true (by omega))) (TO_pure rfl (PV_load Try.underlying26 rfl rfl (Rd.at 1 rfl rfl)) ?_)
  refine TL_yes rfl rfl (gtrue (by exact decide_eq_true (by omega))) (TO_pure rfl (PV_len_slice Try.underlying26 rfl) ?_)
  refine TL_yes rfl rfl (gtrue (by exact decide_eq_true (by omega))) (TO_pure rfl (PV_bin rfl rfl bin_eql) ?_)
  refine TL_pure (d := (some 84)) rfl rfl rfl (PV_pickAnd rfl rfl rfl) ?_
  refine TL_pure (d := (some 74)) rfl rfl rfl (PV_assign rfl) ?_
  refine TL_nil ?_
  refine T_then rfl (by (simp; omega)) ?_
  refine T_seq ?_
  refine T_region ?_
  refine TL_pure (d := (some 4)) rfl rfl rfl (PV_assign rfl) ?_
  refine TL_nil ?_
  refine T_ret ?_
  refine ret_ret (ResV_one rfl rfl) ⟨_, List.Sublist.refl _, ⟨_, _, _, _, _, _, rfl, ?sd6q79_0, rfl⟩⟩
  case sd6q79_0 => decide
end
end Go.Proofs.Ytcbkcggijejooaa.SL
