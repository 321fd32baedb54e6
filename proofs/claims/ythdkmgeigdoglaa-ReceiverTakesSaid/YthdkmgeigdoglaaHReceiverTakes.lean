import Derived.Test.YthdkmgeigdoglaaSLPut2
import Derived.Test.YthdkmgeigdoglaaSLRows
/- ReceiverTakes, walked. -/
set_option linter.unusedVariables false
namespace Go.Proofs.Ythdkmgeigdoglaa.SL
open Go Go.RowKit Go.Proofs.YthdkmgeigdoglaaW.PrintWords H Hand
theorem rd_take (xs : List Int) (k i : Nat) (h : i < k) : rd (xs.take k) i = rd xs i := by
  simp [rd, List.getD_eq_getElem?_getD, List.getElem?_take_of_lt h]
theorem scan_prefix {m : Nat} {num : Int} {l : List Int} {crc : Bool} (hm : l.length = m) (hm2 : m = 128 ∨ m = 1024) (k : Nat) (hk : k < (blockL (leadOf m) num l crc).length) :
    scanS ((blockL (leadOf m) num l crc).take k) crc = 0 := by
  have hl := blockL_len (leadOf m) num l crc
  have ht := trailL_len l crc
  have hs : sizeL (leadOf m) crc = (blockL (leadOf m) num l crc).length := by
    rw [hl, ht, hm]
    rcases hm2 with rfl | rfl <;> cases crc <;> rfl
  have hlen : ((blockL (leadOf m) num l crc).take k).length = k := by rw [List.length_take]; omega
  unfold scanS
  by_cases h0 : k = 0
  · rw [if_pos (by rw [hlen]; exact h0)]
  · have e0 : rd ((blockL (leadOf m) num l crc).take k) 0 = leadOf m := by rw [show (0 : Int) = ((0 : Nat) : Int) from rfl, rd_take _ _ _ (by omega)]; rfl
    rw [if_neg (by rw [hlen]; exact h0), e0, if_neg (by rw [hs]; omega), hlen]
    rw [if_neg, if_pos (by rw [hs]; omega)]
    rintro ⟨h2, h1⟩
    apply h1
    rw [show (1 : Int) = ((1 : Nat) : Int) from rfl, show (2 : Int) = ((2 : Nat) : Int) from rfl, rd_take _ _ _ (by omega), rd_take _ _ _ (by omega)]
    show num = 255 - (255 - num)
    omega
theorem strOf_app (xs ys : List Int) : strOfNums xs ++ strOfNums ys = strOfNums (xs ++ ys) := by
  unfold strOfNums
  apply ByteArray.ext
  simp
theorem Shows.dropN {W : World → Prop} {g off m c : Nat} {k : IntKind} {xs : List Int} (h : Shows W (some ⟨g, off, none⟩) m 1 (nums k xs)) (hlm : xs.length = m) (j : Nat) (hj : j ≤ m) (hmc : m ≤ c) : Shows W (some ⟨g, if c = j then off else off + j * 1, none⟩) (xs.drop j).length 1 (nums k (xs.drop j)) := by
  have := h.cut (l := j) (h := m) (c := c) hj (Nat.le_refl _) hmc
  rw [List.take_of_length_le (by simp [nums, hlm])] at this
  rw [List.length_drop, hlm]
  simpa [nums, List.map_drop] using this
theorem tmod3 (i : Nat) : (Int.tmod (i : Int) 3 == 2) = decide (i % 3 = 2) := by
  have e : Int.tmod (i : Int) 3 = ((i % 3 : Nat) : Int) := rfl
  rw [e]
  by_cases h : i % 3 = 2
  · rw [h]; rfl
  · rw [decide_eq_false h]
    exact beq_false_of_ne (by omega)
section
variable {w0 : World} {B : Nat} {X : List Chunk}
set_option maxRecDepth 100000 in
theorem t75empty {g : Nat} (r : Rcv) {Y : List Chunk} {Ab : Option Addr} {cb : Nat} (ho : r.over = false) : TCall Try.prog w0 B 75 #[.pointer (some ⟨g, 0, none⟩), .slice Ab 0 cb] (fun v H' => v = .slice none 0 0 ∧ H' = rcvC g r :: Y) (rcvC g r :: Y) := by
  obtain ⟨crc, wait, tries, left, number, begun, close, bA, bc, buf, dA, dc, dat, blocks, want, over, err⟩ := r
  dsimp only at ho
  subst ho
  refine TCall_intro (args := [_, _]) Try.func75 rfl Try.ntmps75 (Nat.le_of_ble_eq_true rfl) ?_
  refine T_seq ?_
  refine T_region ?_
  refine TL_pure (d := (some 4)) rfl rfl rfl (PV_assign rfl) ?_
  refine TL_nil ?_
  refine T_seq ?_
  refine T_seq ?_
  refine T_region ?_
  refine TL_pure (d := (some 8)) rfl rfl rfl (PV_move rfl) ?_
  refine TL_pure (d := (some 9)) rfl rfl rfl (PV_nilCheck rfl) ?_
  refine TL_pure (d := (some 10)) rfl rfl rfl (PV_fieldAddr (D := 11) Try.underlying140 rfl sz4 (by decide) rfl rfl) ?_
  refine TL_pure (d := (some 11)) rfl rfl rfl (PV_load Try.underlying4 rfl rfl (by first | exact Rd.at 0 rfl rfl | exact Rd.at 1 rfl rfl | exact Rd.at 2 rfl rfl | exact Rd.at 3 rfl rfl | exact Rd.at 4 rfl rfl | exact Rd.at 5 rfl rfl | exact Rd.at 6 rfl rfl | exact Rd.at 7 rfl rfl | exact Rd.at 8 rfl rfl)) ?_
  refine TL_pure (d := (some 12)) rfl rfl rfl (PV_move rfl) ?_
  -- guard 13 move t1
  refine TL_yes rfl rfl rfl (TO_pure rfl (PV_move rfl) ?_)
  refine TL_yes rfl rfl rfl (TO_pure rfl (PV_len_slice Try.underlying23 rfl) ?_)
  refine TL_yes rfl rfl rfl (TO_pure rfl (PV_bin rfl rfl bin_eql) ?_)
  first | (refine TL_pure (d := (some 16)) rfl rfl rfl (PV_pickOr rfl rfl rfl) ?_) | (refine TL_pure (d := (some 16)) rfl rfl rfl (PV_pickT rfl (by first | assumption | rfl | (simp; done) | (simp; omega)) rfl rfl) ?_)
  refine TL_nil ?_
  -- IF t16
  refine T_then rfl (by rfl) ?_
  refine T_seq ?_
  refine T_region ?_
  refine TL_pure (d := (some 4)) rfl rfl rfl (PV_assign rfl) ?_
  refine TL_nil ?_
  refine T_ret ?_
  -- ('ret',)
  refine ⟨_, _, ?_, ResV_one rfl rfl, ⟨rfl, rfl⟩⟩
  repeat (first | exact List.Sublist.refl _ | apply List.Sublist.cons_cons | apply List.Sublist.cons)
structure Same (r s : Rcv) : Prop where
  crc : s.crc = r.crc
  number : s.number = r.number
  close : s.close = r.close
  dat : s.dat = r.dat
  blocks : s.blocks = r.blocks
  over : s.over = r.over
  err : s.err = r.err
theorem t75pre {g : Nat} (r : Rcv) {Ab : Option Addr} {m cb : Nat} {bs : List Int} (hx : Shows (WH w0 B X) Ab m 1 (nums .u8 bs)) (hm : bs.length = m) (hu : U8s bs) (hlb : m ≤ 1000000) (ho : r.over = false) (hb : r.buf = []) (h0 : 0 < m → rd bs 0 ≠ 4 ∧ rd bs 0 ≠ 24) (hs : scanS bs r.crc = 0) :
    TCall Try.prog w0 B 75 #[.pointer (some ⟨g, 0, none⟩), .slice Ab m cb] (fun v H' => ∃ s : Rcv, v = .slice none 0 0 ∧ Same r s ∧ s.buf = bs ∧ H' = rcvC g s :: bufC s :: datC s :: X) (rcvC g r :: bufC r :: datC r :: X) := by
  by_cases hm0 : m = 0
  · subst hm0
    have hbs : bs = [] := List.length_eq_zero_iff.1 hm
    exact (t75empty r ho).mono fun v H' ⟨h1, h2⟩ => ⟨r, h1, ⟨rfl, rfl, rfl, rfl, rfl, rfl, rfl⟩, by rw [hb, hbs], h2⟩
  · have e : r.buf ++ bs = bs := by rw [hb]; rfl
    refine (t75need r hx hm (by omega) (by rw [e]; exact hu) (by rw [hb]; show 0 + m ≤ 1000000; omega) ho (by rw [e]; exact (h0 (by omega)).1) (by rw [e]; exact (h0 (by omega)).2) (by rw [e]; exact hs)).mono fun v H' ⟨A, k, h1, _, h2⟩ => ⟨{ r with left := r.wait, bA := A, bc := k, buf := r.buf ++ bs }, h1, ⟨rfl, rfl, rfl, rfl, rfl, rfl, rfl⟩, e, h2⟩
end
theorem fin_id (r : Rcv) (h : r.close = true) : r.fin = r := if_neg (fun e => by rw [h] at e; cases e.1)
def rowAt (rows : List Part) (k : Nat) : List Int := ((rows[k]?).map (·.2.2)).getD []
def dTakes (rows : List Part) (i : Nat) : List Int := (List.range i).flatMap fun k => dataL (rowAt rows k) (decide (k % 3 = 2))
theorem dTakes_step (rows : List Part) (i : Nat) : dTakes rows (i + 1) = dTakes rows i ++ dataL (rowAt rows i) (decide (i % 3 = 2)) := by
  unfold dTakes
  rw [List.range_succ, List.flatMap_append]
  simp
theorem dTakes_len (rows : List Part) (i : Nat) : (dTakes rows i).length ≤ 1024 * i := by
  induction i with
  | zero => simp [dTakes]
  | succ i ih =>
    rw [dTakes_step, List.length_append, dataL_len]
    have : dataN (decide (i % 3 = 2)) ≤ 1024 := by cases decide (i % 3 = 2) <;> simp [dataN]
    omega
structure AtT (crc : Bool) (num : Int) (rows : List Part) (i : Nat) (r : Rcv) : Prop where
  c : r.crc = crc
  num : r.number = (num + i) % 256
  cl : r.close = true
  bu : r.buf = []
  da : r.dat = dTakes rows i
  bl : r.blocks = (i : Int)
  ov : r.over = false
  er : r.err = .nilIface
set_option maxRecDepth 100000 in
theorem ReceiverTakes_t {w : World} {A : Option Addr} {c : Nat} {rows : List Part} {num : Int} {crc : Bool} {cut : Nat} (hr : RowsAt w A rows) (hn : 0 ≤ num ∧ num ≤ 255) (hcut : cut ≤ 255) :
    TCall Try.prog w w.heap.size 24 #[.int .u8 num, .slice A rows.length c, .bool crc, .int .u8 (cut : Int)] (fun r _ => r = .bool true) [] := by
  refine TCall_intro (args := [_, _, _, _]) Try.func24 rfl Try.ntmps24 (Nat.le_of_ble_eq_true rfl) ?_
  refine T_seq ?_
  refine T_region ?_
  refine TL_pure (d := (some 8)) rfl rfl rfl (PV_assign rfl) ?_
  refine TL_nil ?_
  refine T_seq ?_
  refine T_seq ?_
  refine T_region ?_
  -- op 23 call F68()
  refine TL_cons rfl (TO_call0 call68 rfl rfl (t68) ?_)
  rintro v23 H23 ⟨rfl, rfl⟩
  refine TL_pure (d := (some 24)) rfl rfl rfl (PV_not rfl) ?_
  refine TL_nil ?_
  refine T_else rfl (by rfl) ?_
  refine T_addNil 1 ?_
  refine T_addNil 1 ?_
  refine T_skip ?_
  refine T_seq ?_
  refine T_region ?_
  refine TL_pure (d := (some 25)) rfl rfl rfl (PV_build (ps := _) (cells := #[_, _]) Try.underlying79 pl79 zr79 rfl rfl) ?_
  refine TL_pure (d := (some 26)) rfl rfl rfl (PV_move rfl) ?_
  refine TL_pure (d := (some 27)) rfl rfl rfl (PV_move rfl) ?_
  -- op 28 call F69(t25, t26, t27, ctrue, ci64:1)
  refine TL_cons rfl (TO_call0 call69 rfl rfl (t69 9 9 num crc true 1) ?_)
  rintro v28 H28 ⟨g, rfl, rfl⟩
  refine TL_pure (d := (some 9)) rfl rfl rfl (PV_assign rfl) ?_
  refine TL_nil ?_
  refine T_seq ?_
  refine T_region ?_
  refine TL_pure (d := (some 10)) rfl rfl rfl (PV_assign rfl) ?_
  refine TL_nil ?_
  refine T_seq ?_
  refine T_seq ?_
  refine T_region ?_
  refine TL_pure (d := (some 29)) rfl rfl rfl (PV_move rfl) ?_
  refine TL_pure (d := (some 30)) rfl rfl rfl (PV_len_slice Try.underlying68 rfl) ?_
  refine TL_pure (d := (some 31)) rfl rfl rfl (PV_move rfl) ?_
  refine TL_nil ?_
  refine T_block ?_
  -- ('loop', ('Code.loop', ('Code.seq', ('Code.region', 6, ('L', ('Oper.mk', ('some', 32), ('Op.binOp', 'BinOp.lss', 3, ('Operand.tmp', 31), ('Operand.tmp', 30), 3), 0, '"law.go:192"', ('L',), 'none')), '
  refine T.weaken (fr' := [(0, .int .u8 num), (2, .bool crc), (3, .int .u8 (cut : Int)), (9, .pointer (some ⟨g, 0, none⟩)), (10, .string (strOfNums [])), (29, .slice A rows.length c), (30, .int .i64 (rows.length : Int)), (31, .int .i64 0)]) (FrSub.cons rfl (FrSub.cons rfl (FrSub.cons rfl (FrSub.cons rfl (FrSub.cons rfl (FrSub.cons rfl (FrSub.cons rfl (FrSub.cons rfl (FrSub.nil _))))))))) ?_
  refine T_loop (fun m f h => ∃ (i : Nat) (r : Rcv), m = rows.length - i ∧ i ≤ rows.length ∧ i ≤ 6 ∧ AtT crc num rows i r ∧ f = [(0, .int .u8 num), (2, .bool crc), (3, .int .u8 (cut : Int)), (9, .pointer (some ⟨g, 0, none⟩)), (10, .string (strOfNums (dTakes rows i))), (29, .slice A rows.length c), (30, .int .i64 (rows.length : Int)), (31, .int .i64 ((i : Nat) : Int))] ∧ h = [rcvC g r, bufC r, datC r]) (rows.length) ?_ ?_
  · exact ⟨0, _, rfl, Nat.zero_le _, by omega, ⟨rfl, by show num = (num + ((0 : Nat) : Int)) % 256; omega, rfl, rfl, rfl, rfl, rfl, rfl⟩, rfl, rfl⟩
  · rintro m f h ⟨i, r, rfl, hi, hi6, hat, rfl, rfl⟩
    obtain ⟨e1, e2, e3, e4, e5, e6, e7, e8⟩ := hat
    have hdL := dTakes_len rows i
    refine T_seq ?_
    refine T_region ?_
    refine TL_pure (d := (some 32)) rfl rfl rfl (PV_bin rfl rfl bin_lss) ?_
    refine TL_nil ?_
    refine T_seq ?_
    -- IF t32
    refine T_cond rfl (fun hbi => ?_) (fun hbi => ?_)
    · skip
      have hip : i < rows.length := by have := of_decide_eq_true hbi; omega
      refine T_shows (hr.row _) (by rw [List.length_map]; omega) fun gr off hA hrd => ?_
      subst hA
      obtain ⟨p, hp⟩ : ∃ p, rows[i]? = some p := ⟨rows[i], List.getElem?_eq_getElem hip⟩
      have hpm : p ∈ rows := List.mem_of_getElem? hp
      have hpS := fun H => (hr.all H p hpm).1
      have hpC := (hr.all [] p hpm).2
      have hpU := hr.u8 p hpm
      have hpM := hr.max p hpm
      have hrow : rowAt rows i = p.2.2 := by unfold rowAt; rw [hp]; rfl
      obtain ⟨Ap, cp, xs⟩ := p
      replace hrow : rowAt rows i = xs := hrow
      have hget := hrd i (.slice Ap xs.length cp) (by rw [List.getElem?_map, hp]; rfl)
      rw [show off + i = off + i * 1 by omega] at hget
      refine T_skip ?_
      refine T_seq ?_
      refine T_block ?_
      refine T_seq ?_
      refine T_region ?_
      refine TL_pure (d := (some 33)) rfl rfl rfl (PV_move rfl) ?_
      refine TL_pure (d := (some 34)) rfl rfl rfl (PV_indexAddr Try.underlying68 sz23 rfl rfl rfl (by first | omega | decide | assumption)) ?_
      refine TL_pure (d := (some 35)) rfl rfl rfl (PV_load Try.underlying23 rfl rfl hget) ?_
      refine TL_pure (d := (some 11)) rfl rfl rfl (PV_assign rfl) ?_
      refine TL_pure (d := (some 12)) rfl rfl rfl (PV_assign rfl) ?_
      refine TL_nil ?_
      refine T_seq ?_
      refine T_seq ?_
      refine T_region ?_
      refine TL_pure (d := (some 36)) rfl rfl rfl (PV_move rfl) ?_
      refine TL_pure (d := (some 37)) rfl rfl rfl (PV_bin rfl rfl bin_eql) ?_
      refine TL_nil ?_
      -- IF t37
      by_cases h6 : i = 6
      · skip
        refine T_then rfl (by rw [h6]; rfl) ?_
        refine T_exit ?_
        refine T_seq ?_
        refine T_region ?_
        refine TL_pure (d := (some 101)) rfl rfl rfl (PV_move rfl) ?_
        -- op 102 buildSlice 23 1 [(0 cu8:4)]
        refine TL_cons rfl (TO_buildSlice (cells := #[.int .u8 4]) Try.underlying23 zs5 (by decide) rfl rfl rfl (by kernel_rfl) rfl fun g102 => ?_)
        refine TL_perm (List.perm_append_comm (l₁ := [_]) (l₂ := [_, _, _])) ?_
        refine TL_cons rfl (TO_call0 call75 rfl rfl (t75eot r (X := [_]) (Shows.at 0 rfl) e4 e7 e3) ?_)
        rintro v103 H103 ⟨A103, k103, Ax, kx, rfl, hk103, rfl⟩
        refine TL_pure (d := (some 20)) rfl rfl rfl (PV_assign rfl) ?_
        refine TL_nil ?_
        refine T_seq ?_
        refine T_region ?_
        refine TL_pure (d := (some 105)) rfl rfl rfl (PV_move rfl) ?_
        -- op 106 call F78(t105)
        refine TL_perm (List.Perm.append_right _ (List.perm_append_comm (l₁ := [_]) (l₂ := [_, _, _]))) ?_
        refine TL_cons rfl (TO_call0 call78 rfl rfl (t78 { r with left := r.wait, bA := Ax, bc := kx, buf := [4], over := true, err := .nilIface }) ?_)
        rintro v106 H106 ⟨rfl, rfl⟩
        refine TL_pure (d := (some 104)) rfl rfl rfl (PV_move rfl) ?_
        refine TL_pure (d := (some 107)) rfl rfl rfl (PV_extract rfl rfl) ?_
        refine TL_pure (d := (some 108)) rfl rfl rfl (PV_extract rfl rfl) ?_
        refine TL_pure (d := (some 21)) rfl rfl rfl (PV_assign rfl) ?_
        refine TL_pure (d := (some 22)) rfl rfl rfl (PV_assign rfl) ?_
        refine TL_nil ?_
        refine T_seq ?_
        refine T_region ?_
        refine TL_pure (d := (some 109)) rfl rfl rfl (PV_move rfl) ?_
        refine TL_pure (d := (some 110)) rfl rfl rfl (PV_b2s Try.underlying23 Try.underlying5 Try.underlying9 rfl (by first | assumption | exact Shows.at 0 rfl | exact Shows.at 1 rfl | exact Shows.at 2 rfl | exact Shows.at 3 rfl | exact Shows.at 4 rfl | exact Shows.at 5 rfl | exact Shows.at 6 rfl | exact Shows.at 7 rfl | exact Shows.at 8 rfl)) ?_
        refine TL_pure (d := (some 111)) rfl rfl rfl (PV.cast (PV_bin rfl rfl bin_str_eql) (congrArg Value.bool (show _ = true by exact decide_eq_true rfl))) ?_
        refine TL_pure (d := (some 112)) rfl rfl rfl (PV_move rfl) ?_
        -- guard 113 move t21
        refine TL_yes rfl rfl rfl (TO_pure rfl (PV_move rfl) ?_)
        first | (refine TL_pure (d := (some 114)) rfl rfl rfl (PV_pickAnd rfl rfl rfl) ?_) | (refine TL_pure (d := (some 114)) rfl rfl rfl (PV_pickF rfl (by first | assumption | rfl | (simp; done) | (simp; omega)) rfl rfl) ?_)
        refine TL_pure (d := (some 115)) rfl rfl rfl (PV_move rfl) ?_
        refine TL_yes rfl rfl rfl (TO_pure rfl (PV_move rfl) ?_)
        first | (refine TL_yes rfl rfl rfl (TO_pure rfl (PV_bin rfl rfl (bin_nil_nil Try.underlying83)) ?_)) | (refine TL_yes rfl rfl rfl (TO_pure rfl (PV_bin rfl rfl (bin_if_nil Try.underlying83)) ?_)) | (refine TL_yes rfl rfl rfl (TO_pure rfl (PV_bin rfl rfl (bin_nil_if Try.underlying83)) ?_)) | (refine TL_yes rfl rfl rfl (TO_pure rfl (PV_bin rfl rfl (bin_if_if Try.underlying83 (by first | exact Try.underlying135 | exact Try.underlying83) (by kernel_rfl))) ?_))
        first | (refine TL_pure (d := (some 118)) rfl rfl rfl (PV_pickAnd rfl rfl rfl) ?_) | (refine TL_pure (d := (some 118)) rfl rfl rfl (PV_pickF rfl (by first | assumption | rfl | (simp; done) | (simp; omega)) rfl rfl) ?_)
        refine TL_pure (d := (some 119)) rfl rfl rfl (PV_move rfl) ?_
        refine TL_yes rfl rfl rfl (TO_pure rfl (PV_move rfl) ?_)
        refine TL_yes rfl rfl rfl (TO_call0 call77 rfl rfl (t77 { r with left := r.wait, bA := Ax, bc := kx, buf := [4], over := true, err := .nilIface } (by show r.dat.length ≤ 140737488355328; rw [e5]; omega)) ?_)
        rintro v121 H121 ⟨A121, k121, rfl, hk121, rfl⟩
        refine TL_yes rfl rfl rfl (TO_pure rfl (PV_b2s Try.underlying23 Try.underlying5 Try.underlying9 rfl (by first | assumption | exact Shows.at 0 rfl | exact Shows.at 1 rfl | exact Shows.at 2 rfl | exact Shows.at 3 rfl | exact Shows.at 4 rfl | exact Shows.at 5 rfl | exact Shows.at 6 rfl | exact Shows.at 7 rfl | exact Shows.at 8 rfl)) ?_)
        refine TL_yes rfl rfl rfl (TO_pure rfl (PV_move rfl) ?_)
        refine TL_yes rfl rfl rfl (TO_pure rfl (PV.cast (PV_bin rfl rfl bin_str_eql) (congrArg Value.bool (show _ = true by exact decide_eq_true (congrArg strOfNums e5)))) ?_)
        first | (refine TL_pure (d := (some 125)) rfl rfl rfl (PV_pickAnd rfl rfl rfl) ?_) | (refine TL_pure (d := (some 125)) rfl rfl rfl (PV_pickF rfl (by first | assumption | rfl | (simp; done) | (simp; omega)) rfl rfl) ?_)
        refine TL_pure (d := (some 8)) rfl rfl rfl (PV_assign rfl) ?_
        refine TL_nil ?_
        refine T_ret ?_
        -- ('ret',)
        refine ⟨_, ?hh1, ?sb1, ResV_one rfl rfl, rfl⟩
        case sb1 => repeat (first | exact List.Sublist.refl _ | apply List.Sublist.cons_cons | apply List.Sublist.cons)
      · skip
        refine T_else rfl (by exact beq_false_of_ne (by omega)) ?_
        obtain ⟨lg3, hlg⟩ : ∃ b, decide (i % 3 = 2) = b := ⟨_, rfl⟩
        have hdl := dataL_len xs lg3
        have hdn : dataN lg3 = 128 ∨ dataN lg3 = 1024 := by cases lg3 <;> simp [dataN]
        have hdu := dataL_u8 xs lg3
        obtain ⟨nm, hnm⟩ : ∃ nm, (num + (i : Int)) % 256 = nm := ⟨_, rfl⟩
        have hnm2 : 0 ≤ nm ∧ nm ≤ 255 := by omega
        have hsc := scan_of_block (num := nm) (rest := []) (crc := crc) hdl hdn hnm2
        rw [List.append_nil] at hsc
        have hsp := fun k hk => scan_prefix (num := nm) (crc := crc) hdl hdn k hk
        have hL0 : rd (blockL (leadOf (dataN lg3)) nm (dataL xs lg3) crc) 0 = leadOf (dataN lg3) := rfl
        have hlead : leadOf (dataN lg3) = 1 ∨ leadOf (dataN lg3) = 2 := by unfold leadOf; split <;> omega
        have hLu := blockL_u8 (leadOf (dataN lg3)) nm (dataL xs lg3) crc (leadOf_u8 _) hnm2 hdu
        have hLl := blockL_len (leadOf (dataN lg3)) nm (dataL xs lg3) crc
        have hLt := trailL_le (dataL xs lg3) crc
        obtain ⟨L, hL⟩ : ∃ L, blockL (leadOf (dataN lg3)) nm (dataL xs lg3) crc = L := ⟨_, rfl⟩
        rw [hL] at hsc hsp hL0 hLu hLl
        obtain ⟨hs1, hs2, hs3⟩ := hsc
        obtain ⟨a, ha⟩ : ∃ a, cut % L.length = a := ⟨_, rfl⟩
        have haL : a < L.length := by rw [← ha]; exact Nat.mod_lt _ (by omega)
        refine T_skip ?_
        refine T_seq ?_
        refine T_region ?_
        refine TL_pure (d := (some 38)) rfl rfl rfl (PV_move rfl) ?_
        refine TL_pure (d := (some 39)) rfl rfl rfl (PV_move rfl) ?_
        refine TL_pure (d := (some 40)) rfl rfl rfl (PV_bin rfl rfl (bin_rem (by first | decide | omega | assumption))) ?_
        refine TL_pure (d := (some 41)) rfl rfl rfl (PV.cast (PV_bin rfl rfl bin_eql) (congrArg Value.bool ((tmod3 i).trans hlg))) ?_
        -- op 42 call F48(t38, t41)
        refine TL_cons rfl (TO_call0 call48 rfl rfl (t48 lg3 (hpS _) hpM hpC hpU) ?_)
        rintro v42 H42 ⟨A42, c42, rfl, hc42, rfl⟩
        refine TL_pure (d := (some 13)) rfl rfl rfl (PV_assign rfl) ?_
        refine TL_nil ?_
        refine T_seq ?_
        refine T_region ?_
        refine TL_pure (d := (some 44)) rfl rfl rfl (PV_move rfl) ?_
        refine TL_pure (d := (some 45)) rfl rfl rfl (PV_move rfl) ?_
        first | (refine TL_pure (d := (some 46)) rfl rfl rfl (PV.cast (PV_conv (by rw [Try.underlying3]; rfl) Try.underlying5 rfl) (wru8 (by omega))) ?_) | (refine TL_pure (d := (some 46)) rfl rfl rfl (PV_conv (by rw [Try.underlying3]; rfl) Try.underlying5 rfl) ?_)
        refine TL_pure (d := (some 47)) rfl rfl rfl (PV.cast (PV_bin rfl rfl bin_add) (congrArg (Value.int .u8) ((IntKind.wrap_u8 _).trans hnm))) ?_
        refine TL_pure (d := (some 48)) rfl rfl rfl (PV_move rfl) ?_
        refine TL_pure (d := (some 49)) rfl rfl rfl (PV_build (ps := _) (cells := #[_, _]) Try.underlying58 pl58 zr58 rfl rfl) ?_
        refine TL_pure (d := (some 50)) rfl rfl rfl (PV_move rfl) ?_
        -- op 51 call F49(t49, t50)
        refine TL_cons rfl (TO_call0 call49 rfl rfl (t49 crc (Shows.at 0 rfl) hdn hc42 hdu hnm2) ?_)
        rintro v51 H51 ⟨A51, c51, rfl, hc51, rfl⟩
        rw [hL] at *
        refine TL_slA 0 rfl (by omega) fun g51 h51 => ?_
        subst h51
        refine TL_pure (d := (some 43)) rfl rfl rfl (PV_move rfl) ?_
        refine TL_pure (d := (some 52)) rfl rfl rfl (PV_extract rfl rfl) ?_
        refine TL_pure (d := (some 53)) rfl rfl rfl (PV_extract rfl rfl) ?_
        refine TL_pure (d := (some 14)) rfl rfl rfl (PV_assign rfl) ?_
        refine TL_pure (d := (some 15)) rfl rfl rfl (PV_assign rfl) ?_
        refine TL_nil ?_
        refine T_seq ?_
        refine T_region ?_
        refine TL_pure (d := (some 54)) rfl rfl rfl (PV_move rfl) ?_
        first | (refine TL_pure (d := (some 55)) rfl rfl rfl (PV.cast (PV_conv (by rw [Try.underlying5]; rfl) Try.underlying3 rfl) (wr64 (by omega))) ?_) | (refine TL_pure (d := (some 55)) rfl rfl rfl (PV_conv (by rw [Try.underlying5]; rfl) Try.underlying3 rfl) ?_)
        refine TL_pure (d := (some 56)) rfl rfl rfl (PV_move rfl) ?_
        refine TL_pure (d := (some 57)) rfl rfl rfl (PV_len_slice Try.underlying23 rfl) ?_
        refine TL_pure (d := (some 58)) rfl rfl rfl (PV.cast (PV_bin rfl rfl (bin_rem (by omega))) (congrArg (Value.int .i64) ((tmod_nat' cut L.length).trans (congrArg (fun x : Nat => (x : Int)) ha)))) ?_
        refine TL_pure (d := (some 16)) rfl rfl rfl (PV_assign rfl) ?_
        refine TL_nil ?_
        refine T_seq ?_
        refine T_region ?_
        refine TL_pure (d := (some 59)) rfl rfl rfl (PV_move rfl) ?_
        refine TL_pure (d := (some 60)) rfl rfl rfl (PV_move rfl) ?_
        refine TL_pure (d := (some 61)) rfl rfl rfl (PV_move rfl) ?_
        refine TL_pure (d := (some 62)) rfl rfl rfl (PV_sliceTo (h := a) Try.underlying23 sz5 rfl hc51 ⟨_, rfl⟩ (Nat.le_of_lt haL)) ?_
        -- op 63 call F75(t59, t62)
        refine TL_perm (List.perm_append_comm (l₁ := [_, _]) (l₂ := [_, _, _])) ?_
        refine TL_cons rfl (TO_call0 call75 rfl rfl (t75pre r (X := [_, _]) (bs := L.take a) ((Shows.at 0 rfl).takeN a (Nat.le_of_lt haL)) (by rw [List.length_take]; omega) (hLu.take a) (by omega) e7 e4 (fun h => by rw [show (0 : Int) = ((0 : Nat) : Int) from rfl, rd_take _ _ _ h]; show rd L 0 ≠ 4 ∧ rd L 0 ≠ 24; omega) (by rw [e1]; exact hsp a haL)) ?_)
        rintro v63 H63 ⟨r1, rfl, hsm, hb1, rfl⟩
        obtain ⟨m1, m2, m3, m4, m5, m6, m7⟩ := hsm
        have hcat : r1.buf ++ L.drop a = L := by rw [hb1, List.take_append_drop]
        refine TL_pure (d := (some 17)) rfl rfl rfl (PV_assign rfl) ?_
        refine TL_nil ?_
        refine T_seq ?_
        refine T_region ?_
        refine TL_pure (d := (some 64)) rfl rfl rfl (PV_move rfl) ?_
        refine TL_pure (d := (some 65)) rfl rfl rfl (PV_move rfl) ?_
        refine TL_pure (d := (some 66)) rfl rfl rfl (PV_move rfl) ?_
        refine TL_pure (d := (some 67)) rfl rfl rfl (PV.cast (PV_slice (l := a) (h := L.length) Try.underlying23 sz5 rfl hc51 ⟨_, rfl⟩ rfl (Nat.le_of_lt haL) (Nat.le_refl _)) (by rw [← List.length_drop])) ?_
        -- op 68 call F75(t64, t67)
        refine TL_cons rfl (TO_call0 call75 rfl rfl (t75good r1 (X := [_, _]) (bs := L.drop a) ((Shows.at 0 rfl).dropN rfl a (Nat.le_of_lt haL) hc51) rfl (by rw [List.length_drop]; omega) (by rw [hcat]; exact hLu) (by rw [hb1, List.length_take, List.length_drop]; omega) (m6.trans e7) (by rw [hcat, hL0]; omega) (by rw [hcat, hL0]; omega) (by rw [hcat, m1, e1]; exact hs1) (by rw [hcat, m2, e2, hs2, hnm]) (by rw [m4, e5]; omega) (by rw [m5, e6]; omega)) ?_)
        rintro v68 H68 ⟨A68, k68, A7, k7, rfl, hk68, hk7, rfl⟩
        obtain ⟨r2, hr2⟩ : ∃ r2, Rcv.fin (Rcv.took r1.with A7 k7 (scanD (r1.buf ++ L.drop a) r1.crc)) = r2 := ⟨_, rfl⟩
        rw [hr2]
        have hr2' : r2 = Rcv.took r1.with A7 k7 (dataL xs lg3) := by rw [← hr2, fin_id _ (by show r1.close = true; rw [m3, e3]), hcat, m1, e1, hs3]
        have q1 : r2.buf = [] := by rw [hr2']; rfl
        have q2 : r2.number = (r1.number + 1) % 256 := by rw [hr2']; rfl
        have q3 : r2.crc = crc := by rw [hr2']; show r1.crc = crc; rw [m1, e1]
        have q4 : r2.close = true := by rw [hr2']; show r1.close = true; rw [m3, e3]
        have q5 : r2.begun = true := by rw [hr2']; rfl
        have q6 : r2.over = false := by rw [hr2']; show r1.over = false; rw [m6, e7]
        have q7 : r2.dat = dTakes rows (i + 1) := by rw [hr2', dTakes_step, hrow, hlg, ← e5, ← m4]; rfl
        have q8 : r2.blocks = ((i + 1 : Nat) : Int) := by rw [hr2']; show r1.blocks + 1 = _; rw [m5, e6]; omega
        have q9 : r2.err = .nilIface := by rw [hr2']; show r1.err = _; rw [m7, e8]
        have hnn : r1.number = nm := by rw [m2, e2, hnm]
        refine TL_pure (d := (some 18)) rfl rfl rfl (PV_assign rfl) ?_
        refine TL_nil ?_
        refine T_seq ?_
        refine T_region ?_
        refine TL_pure (d := (some 69)) rfl rfl rfl (PV_move rfl) ?_
        refine TL_pure (d := (some 70)) rfl rfl rfl (PV_move rfl) ?_
        -- op 71 call F75(t69, t70)
        have hsz : (strOfNums (dTakes rows i)).size + (strOfNums (dataL xs lg3)).size ≤ 9223372036854775807 := by rw [strOf_len, strOf_len]; omega
        have hacc : strOfNums (dTakes rows i) ++ strOfNums (dataL xs lg3) = strOfNums (dTakes rows (i + 1)) := by rw [strOf_app, dTakes_step, hrow, hlg]
        refine TL_perm (List.Perm.append_right _ (List.perm_append_comm (l₁ := [_]) (l₂ := [_, _, _]))) ?_
        refine TL_cons rfl (TO_call0 call75 rfl rfl (t75again r2 (X := [_, _, _]) (bs := L) (Shows.at 1 rfl) rfl (by omega) (by rw [q1]; exact hLu) (by rw [q1]; show 0 + L.length ≤ 1000000; omega) q6 (by rw [q1]; show rd L 0 ≠ 4; omega) (by rw [q1]; show rd L 0 ≠ 24; omega) (by rw [q1, q3]; exact hs1) (by rw [q2]; omega) (by rw [q1, q2, hnn]; show rd L 1 = _; rw [hs2]; omega) q5 q4) ?_)
        rintro v71 H71 ⟨A71, k71, rfl, hk71, rfl⟩
        refine TL_pure (d := (some 19)) rfl rfl rfl (PV_assign rfl) ?_
        refine TL_nil ?_
        refine T_seq ?_
        refine T_region ?_
        refine TL_pure (d := (some 72)) rfl rfl rfl (PV_move rfl) ?_
        refine TL_pure (d := (some 73)) rfl rfl rfl (PV_move rfl) ?_
        refine TL_pure (d := (some 74)) rfl rfl rfl (PV_b2s Try.underlying23 Try.underlying5 Try.underlying9 rfl (by first | assumption | exact Shows.at 0 rfl | exact Shows.at 1 rfl | exact Shows.at 2 rfl | exact Shows.at 3 rfl | exact Shows.at 4 rfl | exact Shows.at 5 rfl | exact Shows.at 6 rfl | exact Shows.at 7 rfl | exact Shows.at 8 rfl)) ?_
        refine TL_pure (d := (some 75)) rfl rfl rfl (PV.cast (PV_bin rfl rfl (bin_str_add hsz)) (congrArg Value.string hacc)) ?_
        refine TL_pure (d := (some 10)) rfl rfl rfl (PV_assign rfl) ?_
        refine TL_nil ?_
        refine T_seq ?_
        refine T_region ?_
        refine TL_pure (d := (some 76)) rfl rfl rfl (PV_move rfl) ?_
        refine TL_pure (d := (some 77)) rfl rfl rfl (PV_not rfl) ?_
        refine TL_pure (d := (some 78)) rfl rfl rfl (PV_move rfl) ?_
        -- guard 79 move t17
        refine TL_yes rfl rfl rfl (TO_pure rfl (PV_move rfl) ?_)
        refine TL_yes rfl rfl rfl (TO_pure rfl (PV_len_slice Try.underlying23 rfl) ?_)
        refine TL_yes rfl rfl rfl (TO_pure rfl (PV.cast (PV_bin rfl rfl bin_neq) (congrArg Value.bool (show _ = false by rfl))) ?_)
        first | (refine TL_pure (d := (some 82)) rfl rfl rfl (PV_pickOr rfl rfl rfl) ?_) | (refine TL_pure (d := (some 82)) rfl rfl rfl (PV_pickT rfl (by first | assumption | rfl | (simp; done) | (simp; omega)) rfl rfl) ?_)
        refine TL_pure (d := (some 83)) rfl rfl rfl (PV_move rfl) ?_
        refine TL_yes rfl rfl rfl (TO_pure rfl (PV_move rfl) ?_)
        refine TL_yes rfl rfl rfl (TO_pure rfl (PV_b2s Try.underlying23 Try.underlying5 Try.underlying9 rfl (by first | assumption | exact Shows.at 0 rfl | exact Shows.at 1 rfl | exact Shows.at 2 rfl | exact Shows.at 3 rfl | exact Shows.at 4 rfl | exact Shows.at 5 rfl | exact Shows.at 6 rfl | exact Shows.at 7 rfl | exact Shows.at 8 rfl)) ?_)
        refine TL_yes rfl rfl rfl (TO_pure rfl (PV.cast (PV_bin rfl rfl bin_str_neq) (congrArg Value.bool (show _ = false by exact congrArg Bool.not (decide_eq_true rfl)))) ?_)
        first | (refine TL_pure (d := (some 87)) rfl rfl rfl (PV_pickOr rfl rfl rfl) ?_) | (refine TL_pure (d := (some 87)) rfl rfl rfl (PV_pickT rfl (by first | assumption | rfl | (simp; done) | (simp; omega)) rfl rfl) ?_)
        refine TL_pure (d := (some 88)) rfl rfl rfl (PV_move rfl) ?_
        refine TL_yes rfl rfl rfl (TO_pure rfl (PV_move rfl) ?_)
        refine TL_yes rfl rfl rfl (TO_pure rfl (PV_b2s Try.underlying23 Try.underlying5 Try.underlying9 rfl (by first | assumption | exact Shows.at 0 rfl | exact Shows.at 1 rfl | exact Shows.at 2 rfl | exact Shows.at 3 rfl | exact Shows.at 4 rfl | exact Shows.at 5 rfl | exact Shows.at 6 rfl | exact Shows.at 7 rfl | exact Shows.at 8 rfl)) ?_)
        refine TL_yes rfl rfl rfl (TO_pure rfl (PV.cast (PV_bin rfl rfl bin_str_neq) (congrArg Value.bool (show _ = false by exact congrArg Bool.not (decide_eq_true rfl)))) ?_)
        first | (refine TL_pure (d := (some 92)) rfl rfl rfl (PV_pickOr rfl rfl rfl) ?_) | (refine TL_pure (d := (some 92)) rfl rfl rfl (PV_pickT rfl (by first | assumption | rfl | (simp; done) | (simp; omega)) rfl rfl) ?_)
        refine TL_pure (d := (some 93)) rfl rfl rfl (PV_move rfl) ?_
        refine TL_yes rfl rfl rfl (TO_pure rfl (PV_move rfl) ?_)
        -- guard 95 call F77(t94)
        -- guard 95 call F77(t94)
        refine TL_perm (List.Perm.append_right _ (List.perm_append_comm (l₁ := [_]) (l₂ := [_, _, _]))) ?_
        have hdL2 := dTakes_len rows (i + 1)
        refine TL_yes rfl rfl rfl (TO_call0 call77 rfl rfl (t77 r2.with (by show r2.dat.length ≤ 140737488355328; rw [q7]; omega)) ?_)
        rintro v95 H95 ⟨A95, k95, rfl, hk95, rfl⟩
        refine TL_yes rfl rfl rfl (TO_pure rfl (PV_b2s Try.underlying23 Try.underlying5 Try.underlying9 rfl (by first | assumption | exact Shows.at 0 rfl | exact Shows.at 1 rfl | exact Shows.at 2 rfl | exact Shows.at 3 rfl | exact Shows.at 4 rfl | exact Shows.at 5 rfl | exact Shows.at 6 rfl | exact Shows.at 7 rfl | exact Shows.at 8 rfl)) ?_)
        refine TL_yes rfl rfl rfl (TO_pure rfl (PV_move rfl) ?_)
        refine TL_yes rfl rfl rfl (TO_pure rfl (PV.cast (PV_bin rfl rfl bin_str_neq) (congrArg Value.bool (show _ = false by exact congrArg Bool.not (decide_eq_true (congrArg strOfNums q7))))) ?_)
        first | (refine TL_pure (d := (some 99)) rfl rfl rfl (PV_pickOr rfl rfl rfl) ?_) | (refine TL_pure (d := (some 99)) rfl rfl rfl (PV_pickT rfl (by first | assumption | rfl | (simp; done) | (simp; omega)) rfl rfl) ?_)
        refine TL_nil ?_
        -- IF t99
        refine T_else rfl (by rfl) ?_
        refine T_skip ?_
        refine T_region ?_
        refine TL_pure (d := (some 100)) rfl rfl rfl (PV.cast (PV_bin rfl rfl bin_add) (wr64n (i + 1) (by omega) (by omega))) ?_
        refine TL_pure (d := (some 31)) rfl rfl rfl (PV_move rfl) ?_
        refine TL_nil ?_
        -- ('loopend',)
        exact round_end (rows.length - (i + 1)) _ _ (by omega) (FrSub.cons rfl (FrSub.cons rfl (FrSub.cons rfl (FrSub.cons rfl (FrSub.cons rfl (FrSub.cons rfl (FrSub.cons rfl (FrSub.cons rfl (FrSub.nil _))))))))) (List.Sublist.cons _ (List.Sublist.cons_cons _ (List.Sublist.cons_cons _ (List.Sublist.cons_cons _ (List.nil_sublist _))))) ⟨i + 1, r2.with, rfl, by omega, by omega, ⟨q3, by show r2.number = _; rw [q2, hnn]; omega, q4, rfl, q7, q8, q6, q9⟩, rfl, rfl⟩
    · skip
      refine T_exit ?_
      refine T_seq ?_
      refine T_region ?_
      refine TL_pure (d := (some 101)) rfl rfl rfl (PV_move rfl) ?_
      -- op 102 buildSlice 23 1 [(0 cu8:4)]
      refine TL_cons rfl (TO_buildSlice (cells := #[.int .u8 4]) Try.underlying23 zs5 (by decide) rfl rfl rfl (by kernel_rfl) rfl fun g102 => ?_)
      refine TL_perm (List.perm_append_comm (l₁ := [_]) (l₂ := [_, _, _])) ?_
      refine TL_cons rfl (TO_call0 call75 rfl rfl (t75eot r (X := [_]) (Shows.at 0 rfl) e4 e7 e3) ?_)
      rintro v103 H103 ⟨A103, k103, Ax, kx, rfl, hk103, rfl⟩
      refine TL_pure (d := (some 20)) rfl rfl rfl (PV_assign rfl) ?_
      refine TL_nil ?_
      refine T_seq ?_
      refine T_region ?_
      refine TL_pure (d := (some 105)) rfl rfl rfl (PV_move rfl) ?_
      -- op 106 call F78(t105)
      refine TL_perm (List.Perm.append_right _ (List.perm_append_comm (l₁ := [_]) (l₂ := [_, _, _]))) ?_
      refine TL_cons rfl (TO_call0 call78 rfl rfl (t78 { r with left := r.wait, bA := Ax, bc := kx, buf := [4], over := true, err := .nilIface }) ?_)
      rintro v106 H106 ⟨rfl, rfl⟩
      refine TL_pure (d := (some 104)) rfl rfl rfl (PV_move rfl) ?_
      refine TL_pure (d := (some 107)) rfl rfl rfl (PV_extract rfl rfl) ?_
      refine TL_pure (d := (some 108)) rfl rfl rfl (PV_extract rfl rfl) ?_
      refine TL_pure (d := (some 21)) rfl rfl rfl (PV_assign rfl) ?_
      refine TL_pure (d := (some 22)) rfl rfl rfl (PV_assign rfl) ?_
      refine TL_nil ?_
      refine T_seq ?_
      refine T_region ?_
      refine TL_pure (d := (some 109)) rfl rfl rfl (PV_move rfl) ?_
      refine TL_pure (d := (some 110)) rfl rfl rfl (PV_b2s Try.underlying23 Try.underlying5 Try.underlying9 rfl (by first | assumption | exact Shows.at 0 rfl | exact Shows.at 1 rfl | exact Shows.at 2 rfl | exact Shows.at 3 rfl | exact Shows.at 4 rfl | exact Shows.at 5 rfl | exact Shows.at 6 rfl | exact Shows.at 7 rfl | exact Shows.at 8 rfl)) ?_
      refine TL_pure (d := (some 111)) rfl rfl rfl (PV.cast (PV_bin rfl rfl bin_str_eql) (congrArg Value.bool (show _ = true by exact decide_eq_true rfl))) ?_
      refine TL_pure (d := (some 112)) rfl rfl rfl (PV_move rfl) ?_
      -- guard 113 move t21
      refine TL_yes rfl rfl rfl (TO_pure rfl (PV_move rfl) ?_)
      first | (refine TL_pure (d := (some 114)) rfl rfl rfl (PV_pickAnd rfl rfl rfl) ?_) | (refine TL_pure (d := (some 114)) rfl rfl rfl (PV_pickF rfl (by first | assumption | rfl | (simp; done) | (simp; omega)) rfl rfl) ?_)
      refine TL_pure (d := (some 115)) rfl rfl rfl (PV_move rfl) ?_
      refine TL_yes rfl rfl rfl (TO_pure rfl (PV_move rfl) ?_)
      first | (refine TL_yes rfl rfl rfl (TO_pure rfl (PV_bin rfl rfl (bin_nil_nil Try.underlying83)) ?_)) | (refine TL_yes rfl rfl rfl (TO_pure rfl (PV_bin rfl rfl (bin_if_nil Try.underlying83)) ?_)) | (refine TL_yes rfl rfl rfl (TO_pure rfl (PV_bin rfl rfl (bin_nil_if Try.underlying83)) ?_)) | (refine TL_yes rfl rfl rfl (TO_pure rfl (PV_bin rfl rfl (bin_if_if Try.underlying83 (by first | exact Try.underlying135 | exact Try.underlying83) (by kernel_rfl))) ?_))
      first | (refine TL_pure (d := (some 118)) rfl rfl rfl (PV_pickAnd rfl rfl rfl) ?_) | (refine TL_pure (d := (some 118)) rfl rfl rfl (PV_pickF rfl (by first | assumption | rfl | (simp; done) | (simp; omega)) rfl rfl) ?_)
      refine TL_pure (d := (some 119)) rfl rfl rfl (PV_move rfl) ?_
      refine TL_yes rfl rfl rfl (TO_pure rfl (PV_move rfl) ?_)
      refine TL_yes rfl rfl rfl (TO_call0 call77 rfl rfl (t77 { r with left := r.wait, bA := Ax, bc := kx, buf := [4], over := true, err := .nilIface } (by show r.dat.length ≤ 140737488355328; rw [e5]; omega)) ?_)
      rintro v121 H121 ⟨A121, k121, rfl, hk121, rfl⟩
      refine TL_yes rfl rfl rfl (TO_pure rfl (PV_b2s Try.underlying23 Try.underlying5 Try.underlying9 rfl (by first | assumption | exact Shows.at 0 rfl | exact Shows.at 1 rfl | exact Shows.at 2 rfl | exact Shows.at 3 rfl | exact Shows.at 4 rfl | exact Shows.at 5 rfl | exact Shows.at 6 rfl | exact Shows.at 7 rfl | exact Shows.at 8 rfl)) ?_)
      refine TL_yes rfl rfl rfl (TO_pure rfl (PV_move rfl) ?_)
      refine TL_yes rfl rfl rfl (TO_pure rfl (PV.cast (PV_bin rfl rfl bin_str_eql) (congrArg Value.bool (show _ = true by exact decide_eq_true (congrArg strOfNums e5)))) ?_)
      first | (refine TL_pure (d := (some 125)) rfl rfl rfl (PV_pickAnd rfl rfl rfl) ?_) | (refine TL_pure (d := (some 125)) rfl rfl rfl (PV_pickF rfl (by first | assumption | rfl | (simp; done) | (simp; omega)) rfl rfl) ?_)
      refine TL_pure (d := (some 8)) rfl rfl rfl (PV_assign rfl) ?_
      refine TL_nil ?_
      refine T_ret ?_
      -- ('ret',)
      refine ⟨_, ?hh2, ?sb2, ResV_one rfl rfl, rfl⟩
      case sb2 => repeat (first | exact List.Sublist.refl _ | apply List.Sublist.cons_cons | apply List.Sublist.cons)
end Go.Proofs.Ythdkmgeigdoglaa.SL
namespace Go.Proofs.Ythdkmgeigdoglaa.Hand
open Go Go.RowKit Go.Proofs.YthdkmgeigdoglaaW.PrintWords H
theorem u8_of_wf {n : Int} (h : (Lit.int .u8 n).wf = true) : 0 ≤ n ∧ n ≤ 255 := U8s.of_wf (l := [n]) (by simpa using h) n (by simp)
theorem ReceiverTakes_walk (a0 : Int) (a1 : Option Addr) (c1 : Nat) (l1 : List SL.Part) (a2 : Bool) (a3 : Int) (w : World)
    (w0 : (Lit.int .u8 a0).wf = true) (hr1 : SL.RowsAt w a1 l1) (hc1 : l1.length ≤ c1) (w3 : (Lit.int .u8 a3).wf = true) :
    Calls Try.prog 24 #[.int .u8 a0, .slice a1 l1.length c1, .bool a2, .int .u8 a3] w fun e w' => e = .returned (.bool true) ∧ Below w.heap.size w w' := by
  have h3 := u8_of_wf w3
  obtain ⟨k, rfl⟩ := Int.eq_ofNat_of_zero_le h3.1
  exact SL.law_of (SL.ReceiverTakes_t hr1 (u8_of_wf w0) (by omega))
end Go.Proofs.Ythdkmgeigdoglaa.Hand
