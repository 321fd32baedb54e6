import Derived.Test.YtcbkcggijejooaaR1
/- The receiver: take, Put, Tick. No statement is proved here. -/
set_option linter.unusedVariables false
set_option linter.unusedSimpArgs false
set_option maxRecDepth 100000
namespace Go.Proofs.Ytcbkcggijejooaa.SL
open Go Go.RowKit
section
variable {w0 : World} {B : Nat} {H X : List Chunk}
/-- a block is taken: the next one -/
def Rc.took (r : Rc) (ds : List Int) : Rc := { r with dat := r.dat ++ ds, number := (r.number + 1) % 256, blocks := r.blocks + 1, begun := true }
def Rc.done (r : Rc) : Rc := if r.close = false ∧ r.blocks = r.want then r.fin 0 else r
/-- take: what it is then, and what it says -/
def Rc.take (r : Rc) (num : Int) (ds : List Int) : Rc := if num = r.number then (r.took ds).done else if r.begun = false ∨ num ≠ (r.number - 1) % 256 then r.fin 14 else r.done
def Rc.takeOut (r : Rc) (num : Int) : List Int := if num = r.number then [6] else if r.begun = false ∨ num ≠ (r.number - 1) % 256 then [24, 24] else [6]
def RGives (g : Nat) (out : List Int) (r : Rc) (X : List Chunk) (v : Value) (H' : List Chunk) : Prop := ∃ (A : Option Addr) (k : Nat) (bA : Option Addr) (bc : Nat) (dA : Option Addr) (dc : Nat), v = .slice A out.length k ∧ out.length ≤ k ∧ H' = byC A k out :: rcC g bA bc dA dc r :: byC bA bc r.buf :: byC dA dc r.dat :: X
theorem t99 {g bc dc : Nat} {bA dA : Option Addr} (r : Rc) {Ax : Option Addr} {m cx : Nat} {num : Int} {xs : List Int} (hx : Shows (WH w0 B X) Ax m 1 (nums .u8 xs)) (hm : xs.length = m) (hb : r.dat.length + m ≤ 140737488355328) (hk1 : 0 ≤ r.blocks) (hk2 : r.blocks ≤ 1000000) (hn1 : 0 ≤ r.number) (hn2 : r.number ≤ 255) :
    TCall Try.prog w0 B 40 #[.pointer (some ⟨g, 0, none⟩), .agg #[.int .u8 num, .slice Ax m cx]] (fun v H' => RGives g (r.takeOut num) (r.take num xs) X v H') (rcC g bA bc dA dc r :: byC bA bc r.buf :: byC dA dc r.dat :: X) := by
  unfold Rc.take Rc.takeOut
  by_cases h1 : num = r.number
  · simp only [if_pos h1]
    subst h1
    have e27 : Value.int .u8 (IntKind.u8.wrap (r.number + 1)) = .int .u8 ((r.number + 1) % 256) := by rw [IntKind.wrap_u8]
    unfold Rc.done
    by_cases h2 : r.close = false ∧ r.blocks + 1 = r.want
    · have h2' : (r.took xs).close = false ∧ (r.took xs).blocks = (r.took xs).want := h2
      rw [if_pos h2']
      obtain ⟨h2a, h2b⟩ := h2
      refine TCall_intro (args := [_, _]) Try.func40 rfl Try.ntmps40 (Nat.le_of_ble_eq_true rfl) ?_
      refine T_seq ?_
      refine T_region ?_
      refine TL_cons rfl (TO_box rfl rfl fun g1 => ?_)
      refine TL_pure (d := (some 4)) rfl rfl rfl (PV_assign rfl) ?_
      refine TL_nil ?_
      refine T_seq ?_
      refine T_block ?_
      refine T_seq ?_
      refine T_drawnE2 1 3 mixed ?_
      refine TA_take (dd := (some 6)) 0 rfl (by kernel_rfl) (by kernel_rfl) (by kernel_rfl) rfl rfl rfl (PV_fieldAddr (D := 0) Try.underlying28 rfl sz5 (by decide) rfl rfl) ?_
      refine TA_take (dd := (some 7)) 1 rfl (by kernel_rfl) (by kernel_rfl) (by kernel_rfl) rfl rfl rfl (PV_load Try.underlying5 rfl rfl (Rd.at 0 rfl rfl)) ?_
      refine TA_take (dd := (some 8)) 2 rfl (by kernel_rfl) (by kernel_rfl) (by kernel_rfl) rfl rfl rfl (PV_move rfl) ?_
      refine TA_take (dd := (some 9)) 3 rfl (by kernel_rfl) (by kernel_rfl) (by kernel_rfl) rfl rfl rfl (PV_nilCheck rfl) ?_
      refine TA_take (dd := (some 10)) 4 rfl (by kernel_rfl) (by kernel_rfl) (by kernel_rfl) rfl rfl rfl (PV_fieldAddr (D := 4) Try.underlying72 rfl sz5 (by decide) rfl rfl) ?_
      refine TA_pure1 (dd := (some 11)) 5 (by kernel_rfl) rfl rfl rfl rfl (PV_load Try.underlying5 rfl rfl (Rd.at 1 rfl rfl)) ?_
      refine TA_take (dd := (some 12)) 6 rfl (by kernel_rfl) (by kernel_rfl) (by kernel_rfl) rfl rfl rfl (PV_bin rfl rfl bin_eql) ?_
      refine TA_take (dd := (some 5)) 7 rfl (by kernel_rfl) (by kernel_rfl) (by kernel_rfl) rfl rfl rfl (PV_assign rfl) ?_
      refine TA_done (by kernel_rfl) ?_
      refine T_then rfl (by (simp; done)) ?_
      refine T_seq ?_
      refine T_drawnE2 1 3 mixed ?_
      refine TA_take (dd := (some 13)) 0 rfl (by kernel_rfl) (by kernel_rfl) (by kernel_rfl) rfl rfl rfl (PV_move rfl) ?_
      refine TA_take (dd := (some 14)) 1 rfl (by kernel_rfl) (by kernel_rfl) (by kernel_rfl) rfl rfl rfl (PV_move rfl) ?_
      refine TA_take (dd := (some 15)) 2 rfl (by kernel_rfl) (by kernel_rfl) (by kernel_rfl) rfl rfl rfl (PV_nilCheck rfl) ?_
      refine TA_take (dd := (some 16)) 3 rfl (by kernel_rfl) (by kernel_rfl) (by kernel_rfl) rfl rfl rfl (PV_fieldAddr (D := 8) Try.underlying72 rfl sz26 (by decide) rfl rfl) ?_
      refine TA_take (dd := (some 18)) 5 rfl (by kernel_rfl) (by kernel_rfl) (by kernel_rfl) rfl rfl rfl (PV_fieldAddr (D := 1) Try.underlying28 rfl sz26 (by decide) rfl rfl) ?_
      refine TA_take (dd := (some 19)) 6 rfl (by kernel_rfl) (by kernel_rfl) (by kernel_rfl) rfl rfl rfl (PV_load Try.underlying26 rfl rfl (Rd.at 0 rfl rfl)) ?_
      refine TA_pure1 (dd := (some 17)) 4 (by kernel_rfl) rfl rfl rfl rfl (PV_load Try.underlying26 rfl rfl (Rd.at 1 rfl rfl)) ?_
      refine TA_one 7 (by kernel_rfl) rfl rfl (TO_appendB 3 rfl Try.underlying26 zb5 rfl rfl rfl rfl (Shows.mono hx (fun w h => h.sub (by (repeat (first | exact List.Sublist.refl _ | exact List.sublist_append_right _ _ | exact List.sublist_append_left _ _ | apply List.Sublist.cons | refine List.Sublist.trans ?_ (List.sublist_append_left _ _))); done))) ?bb2q30 ?bc2q30 fun A2 c2 hc2 => ?_)
      case bb2q30 => omega
      case bc2q30 => exact hb
      refine ⟨by intro w h; first | exact h | exact trivial | (refine WH.sub h ?_; (repeat (first | exact List.Sublist.refl _ | exact List.sublist_append_right _ _ | exact List.sublist_append_left _ _ | apply List.Sublist.cons | refine List.Sublist.trans ?_ (List.sublist_append_left _ _))); done) | (refine WH.sub h ?_; (repeat (first | exact List.Sublist.refl _ | exact List.sublist_append_right _ _ | exact List.sublist_append_left _ _ | apply List.Sublist.cons_cons | apply List.Sublist.cons | refine List.Sublist.trans ?_ (List.sublist_append_left _ _))); done), ?_⟩
      refine TA_take (dd := (some 21)) 8 rfl (by kernel_rfl) (by kernel_rfl) (by kernel_rfl) rfl rfl rfl (PV_nilCheck rfl) ?_
      refine TA_take (dd := (some 22)) 9 rfl (by kernel_rfl) (by kernel_rfl) (by kernel_rfl) rfl rfl rfl (PV_fieldAddr (D := 8) Try.underlying72 rfl sz26 (by decide) rfl rfl) ?_
      refine TA_one 10 (by kernel_rfl) rfl rfl (TO_store1 1 rfl rfl rfl sz26 rfl rfl rfl (by first | exact Nat.le_of_ble_eq_true rfl | (simp; done) | (simp; omega) | omega) ?_)
      refine ⟨by intro w h; first | exact h | exact trivial | (refine WH.sub h ?_; (repeat (first | exact List.Sublist.refl _ | exact List.sublist_append_right _ _ | exact List.sublist_append_left _ _ | apply List.Sublist.cons | refine List.Sublist.trans ?_ (List.sublist_append_left _ _))); done) | (refine WH.sub h ?_; (repeat (first | exact List.Sublist.refl _ | exact List.sublist_append_right _ _ | exact List.sublist_append_left _ _ | apply List.Sublist.cons_cons | apply List.Sublist.cons | refine List.Sublist.trans ?_ (List.sublist_append_left _ _))); done), ?_⟩
      refine TA_done (by kernel_rfl) ?_
      refine T_seq ?_
      refine T_region ?_
      refine TL_pure (d := (some 23)) rfl rfl rfl (PV_move rfl) ?_
      refine TL_pure (d := (some 24)) rfl rfl rfl (PV_nilCheck rfl) ?_
      refine TL_pure (d := (some 25)) rfl rfl rfl (PV_fieldAddr (D := 4) Try.underlying72 rfl sz5 (by decide) rfl rfl) ?_
      refine TL_pure (d := (some 26)) rfl rfl rfl (PV_load Try.underlying5 rfl rfl (Rd.at 1 rfl rfl)) ?_
      refine TL_pure (d := (some 27)) rfl rfl rfl (PV.cast (PV_bin rfl rfl bin_add) e27) ?_
      refine TL_pure (d := (some 28)) rfl rfl rfl (PV_nilCheck rfl) ?_
      refine TL_pure (d := (some 29)) rfl rfl rfl (PV_fieldAddr (D := 4) Try.underlying72 rfl sz5 (by decide) rfl rfl) ?_
      refine TL_cons rfl (TO_store1 1 rfl rfl rfl sz5 rfl rfl rfl (by first | exact Nat.le_of_ble_eq_true rfl | (simp; done) | (simp; omega) | omega) ?_)
      refine TL_nil ?_
      refine T_seq ?_
      refine T_region ?_
      refine TL_pure (d := (some 30)) rfl rfl rfl (PV_move rfl) ?_
      refine TL_pure (d := (some 31)) rfl rfl rfl (PV_nilCheck rfl) ?_
      refine TL_pure (d := (some 32)) rfl rfl rfl (PV_fieldAddr (D := 9) Try.underlying72 rfl sz3 (by decide) rfl rfl) ?_
      refine TL_pure (d := (some 33)) rfl rfl rfl (PV_load Try.underlying3 rfl rfl (Rd.at 1 rfl rfl)) ?_
      refine TL_pure (d := (some 34)) rfl rfl rfl (PV.cast (PV_bin rfl rfl bin_add) (wr64 (by omega))) ?_
      refine TL_pure (d := (some 35)) rfl rfl rfl (PV_nilCheck rfl) ?_
      refine TL_pure (d := (some 36)) rfl rfl rfl (PV_fieldAddr (D := 9) Try.underlying72 rfl sz3 (by decide) rfl rfl) ?_
      refine TL_cons rfl (TO_store1 1 rfl rfl rfl sz3 rfl rfl rfl (by first | exact Nat.le_of_ble_eq_true rfl | (simp; done) | (simp; omega) | omega) ?_)
      refine TL_nil ?_
      refine T_region ?_
      refine TL_pure (d := (some 37)) rfl rfl rfl (PV_move rfl) ?_
      refine TL_pure (d := (some 38)) rfl rfl rfl (PV_nilCheck rfl) ?_
      refine TL_pure (d := (some 39)) rfl rfl rfl (PV_fieldAddr (D := 5) Try.underlying72 rfl sz4 (by decide) rfl rfl) ?_
      refine TL_cons rfl (TO_store1 1 rfl rfl rfl sz4 rfl rfl rfl (by first | exact Nat.le_of_ble_eq_true rfl | (simp; done) | (simp; omega) | omega) ?_)
      refine TL_nil ?_
      refine T_seq ?_
      refine T_seq ?_
      refine T_drawnE2 1 3 mixed ?_
      refine TA_take (dd := (some 60)) 0 rfl (by kernel_rfl) (by kernel_rfl) (by kernel_rfl) rfl rfl rfl (PV_move rfl) ?_
      refine TA_take (dd := (some 61)) 1 rfl (by kernel_rfl) (by kernel_rfl) (by kernel_rfl) rfl rfl rfl (PV_nilCheck rfl) ?_
      refine TA_take (dd := (some 62)) 2 rfl (by kernel_rfl) (by kernel_rfl) (by kernel_rfl) rfl rfl rfl (PV_fieldAddr (D := 6) Try.underlying72 rfl sz4 (by decide) rfl rfl) ?_
      refine TA_pure1 (dd := (some 63)) 3 (by kernel_rfl) rfl rfl rfl rfl (PV_load Try.underlying4 rfl rfl (Rd.at 1 rfl rfl)) ?_
      refine TA_take (dd := (some 64)) 4 rfl (by kernel_rfl) (by kernel_rfl) (by kernel_rfl) rfl rfl rfl (PV_not rfl) ?_
      refine TA_take (dd := (some 65)) 5 rfl (by kernel_rfl) (by kernel_rfl) (by kernel_rfl) rfl rfl rfl (PV_move rfl) ?_
      refine TA_yes (dd := (some 66)) 6 rfl (by kernel_rfl) (by kernel_rfl) (by kernel_rfl) rfl rfl (gtrue (by (simp; omega))) rfl rfl (PV_move rfl) ?_
      refine TA_yes (dd := (some 67)) 7 rfl (by kernel_rfl) (by kernel_rfl) (by kernel_rfl) rfl rfl (gtrue (by (simp; omega))) rfl rfl (PV_nilCheck rfl) ?_
      refine TA_yes (dd := (some 68)) 8 rfl (by kernel_rfl) (by kernel_rfl) (by kernel_rfl) rfl rfl (gtrue (by (simp; omega))) rfl rfl (PV_fieldAddr (D := 9) Try.underlying72 rfl sz3 (by decide) rfl rfl) ?_
      refine TA_yes (dd := (some 70)) 10 rfl (by kernel_rfl) (by kernel_rfl) (by kernel_rfl) rfl rfl (gtrue (by (simp; omega))) rfl rfl (PV_move rfl) ?_
      refine TA_yes (dd := (some 71)) 11 rfl (by kernel_rfl) (by kernel_rfl) (by kernel_rfl) rfl rfl (gtrue (by (simp; omega))) rfl rfl (PV_nilCheck rfl) ?_
      refine TA_yes (dd := (some 72)) 12 rfl (by kernel_rfl) (by kernel_rfl) (by kernel_rfl) rfl rfl (gtrue (by (simp; omega))) rfl rfl (PV_fieldAddr (D := 10) Try.underlying72 rfl sz3 (by decide) rfl rfl) ?_
      refine TA_hardG (rs := [9, 13]) (by kernel_rfl) (by decide) ?_
      refine List.forall_mem_cons.2 ⟨?w7q30_9, List.forall_mem_cons.2 ⟨?w7q30_13, by simp⟩⟩
      refine ⟨_, rfl, Or.inr ⟨_, _, _, rfl, rfl, gtrue (by (simp; omega))⟩, (TO_pure rfl (PV_load Try.underlying3 rfl rfl (Rd.at 1 rfl rfl)) ?_)⟩
      refine ⟨by intro w h; first | exact h | exact trivial | (refine WH.sub h ?_; (repeat (first | exact List.Sublist.refl _ | exact List.sublist_append_right _ _ | exact List.sublist_append_left _ _ | apply List.Sublist.cons | refine List.Sublist.trans ?_ (List.sublist_append_left _ _))); done) | (refine WH.sub h ?_; (repeat (first | exact List.Sublist.refl _ | exact List.sublist_append_right _ _ | exact List.sublist_append_left _ _ | apply List.Sublist.cons_cons | apply List.Sublist.cons | refine List.Sublist.trans ?_ (List.sublist_append_left _ _))); done), ?_⟩
      refine TA_oneYes 13 (by kernel_rfl) rfl rfl rfl (gtrue (by (simp; omega))) (TO_pure rfl (PV_load Try.underlying3 rfl rfl (Rd.at 1 rfl rfl)) ?_)
      refine ⟨by intro w h; first | exact h | exact trivial | (refine WH.sub h ?_; (repeat (first | exact List.Sublist.refl _ | exact List.sublist_append_right _ _ | exact List.sublist_append_left _ _ | apply List.Sublist.cons | refine List.Sublist.trans ?_ (List.sublist_append_left _ _))); done) | (refine WH.sub h ?_; (repeat (first | exact List.Sublist.refl _ | exact List.sublist_append_right _ _ | exact List.sublist_append_left _ _ | apply List.Sublist.cons_cons | apply List.Sublist.cons | refine List.Sublist.trans ?_ (List.sublist_append_left _ _))); done), ?_⟩
      refine TA_yes (dd := (some 74)) 14 rfl (by kernel_rfl) (by kernel_rfl) (by kernel_rfl) rfl rfl (gtrue (by (simp; omega))) rfl rfl (PV_bin rfl rfl bin_eql) ?_
      refine TA_take (dd := (some 75)) 15 rfl (by kernel_rfl) (by kernel_rfl) (by kernel_rfl) rfl rfl rfl (PV_pickAnd rfl rfl rfl) ?_
      refine TA_done (by kernel_rfl) ?_
      refine T_then rfl (by (simp [*]; done)) ?_
      refine T_seq ?_
      refine T_region ?_
      refine TL_pure (d := (some 76)) rfl rfl rfl (PV_move rfl) ?_
      refine TL_cons rfl (TO_bs (cs := [_]) Try.underlying26 zs5 (by decide) rfl rfl rfl rfl rfl rfl fun g10 => ?_)
      refine TL_perm ((perm_pick (i := 2) rfl).trans (List.Perm.cons _ (List.Perm.refl _))) ?_
      refine TL_cons rfl (TO_call0 call38 rfl rfl (t96nil (r := r.took xs) _ _ _) ?_)
      rintro v78_13 H78_13 ⟨rfl, rfl⟩
      refine TL_pure (d := (some 4)) rfl rfl rfl (PV_assign rfl) ?_
      refine TL_nil ?_
      refine T.perm ((perm_pick (i := 1) rfl).trans (List.Perm.cons _ ((perm_pick (i := 0) rfl).trans (List.Perm.cons _ ((perm_pick (i := 1) rfl).trans (List.Perm.cons _ ((perm_pick (i := 1) rfl).trans (List.Perm.cons _ (List.Perm.refl _))))))))) ?_
      refine T_dropAt 4 ?_
      refine T_ret ?_
      refine ret_ret (ResV_one rfl rfl) ⟨_, List.Sublist.refl _, ⟨_, _, _, _, _, _, rfl, ?sd14q30_0, rfl⟩⟩
      case sd14q30_0 => decide
      refine ⟨_, rfl, Or.inr ⟨_, _, _, rfl, rfl, gtrue (by (simp; omega))⟩, (TO_pure rfl (PV_load Try.underlying3 rfl rfl (Rd.at 1 rfl rfl)) ?_)⟩
      refine ⟨by intro w h; first | exact h | exact trivial | (refine WH.sub h ?_; (repeat (first | exact List.Sublist.refl _ | exact List.sublist_append_right _ _ | exact List.sublist_append_left _ _ | apply List.Sublist.cons | refine List.Sublist.trans ?_ (List.sublist_append_left _ _))); done) | (refine WH.sub h ?_; (repeat (first | exact List.Sublist.refl _ | exact List.sublist_append_right _ _ | exact List.sublist_append_left _ _ | apply List.Sublist.cons_cons | apply List.Sublist.cons | refine List.Sublist.trans ?_ (List.sublist_append_left _ _))); done), ?_⟩
      refine TA_oneYes 9 (by kernel_rfl) rfl rfl rfl (gtrue (by (simp; omega))) (TO_pure rfl (PV_load Try.underlying3 rfl rfl (Rd.at 1 rfl rfl)) ?_)
      refine ⟨by intro w h; first | exact h | exact trivial | (refine WH.sub h ?_; (repeat (first | exact List.Sublist.refl _ | exact List.sublist_append_right _ _ | exact List.sublist_append_left _ _ | apply List.Sublist.cons | refine List.Sublist.trans ?_ (List.sublist_append_left _ _))); done) | (refine WH.sub h ?_; (repeat (first | exact List.Sublist.refl _ | exact List.sublist_append_right _ _ | exact List.sublist_append_left _ _ | apply List.Sublist.cons_cons | apply List.Sublist.cons | refine List.Sublist.trans ?_ (List.sublist_append_left _ _))); done), ?_⟩
      refine TA_yes (dd := (some 74)) 14 rfl (by kernel_rfl) (by kernel_rfl) (by kernel_rfl) rfl rfl (gtrue (by (simp; omega))) rfl rfl (PV_bin rfl rfl bin_eql) ?_
      refine TA_take (dd := (some 75)) 15 rfl (by kernel_rfl) (by kernel_rfl) (by kernel_rfl) rfl rfl rfl (PV_pickAnd rfl rfl rfl) ?_
      refine TA_done (by kernel_rfl) ?_
      refine T_then rfl (by (simp [*]; done)) ?_
      refine T_seq ?_
      refine T_region ?_
      refine TL_pure (d := (some 76)) rfl rfl rfl (PV_move rfl) ?_
      refine TL_cons rfl (TO_bs (cs := [_]) Try.underlying26 zs5 (by decide) rfl rfl rfl rfl rfl rfl fun g15 => ?_)
      refine TL_perm ((perm_pick (i := 2) rfl).trans (List.Perm.cons _ (List.Perm.refl _))) ?_
      refine TL_cons rfl (TO_call0 call38 rfl rfl (t96nil (r := r.took xs) _ _ _) ?_)
      rintro v78_18 H78_18 ⟨rfl, rfl⟩
      refine TL_pure (d := (some 4)) rfl rfl rfl (PV_assign rfl) ?_
      refine TL_nil ?_
      refine T.perm ((perm_pick (i := 1) rfl).trans (List.Perm.cons _ ((perm_pick (i := 0) rfl).trans (List.Perm.cons _ ((perm_pick (i := 1) rfl).trans (List.Perm.cons _ ((perm_pick (i := 1) rfl).trans (List.Perm.cons _ (List.Perm.refl _))))))))) ?_
      refine T_dropAt 4 ?_
      refine T_ret ?_
      refine ret_ret (ResV_one rfl rfl) ⟨_, List.Sublist.refl _, ⟨_, _, _, _, _, _, rfl, ?sd19q30_0, rfl⟩⟩
      case sd19q30_0 => decide
    · have h2' : ¬ ((r.took xs).close = false ∧ (r.took xs).blocks = (r.took xs).want) := h2
      rw [if_neg h2']
      refine TCall_intro (args := [_, _]) Try.func40 rfl Try.ntmps40 (Nat.le_of_ble_eq_true rfl) ?_
      refine T_seq ?_
      refine T_region ?_
      refine TL_cons rfl (TO_box rfl rfl fun g1 => ?_)
      refine TL_pure (d := (some 4)) rfl rfl rfl (PV_assign rfl) ?_
      refine TL_nil ?_
      refine T_seq ?_
      refine T_block ?_
      refine T_seq ?_
      refine T_drawnE2 1 3 mixed ?_
      refine TA_take (dd := (some 6)) 0 rfl (by kernel_rfl) (by kernel_rfl) (by kernel_rfl) rfl rfl rfl (PV_fieldAddr (D := 0) Try.underlying28 rfl sz5 (by decide) rfl rfl) ?_
      refine TA_take (dd := (some 7)) 1 rfl (by kernel_rfl) (by kernel_rfl) (by kernel_rfl) rfl rfl rfl (PV_load Try.underlying5 rfl rfl (Rd.at 0 rfl rfl)) ?_
      refine TA_take (dd := (some 8)) 2 rfl (by kernel_rfl) (by kernel_rfl) (by kernel_rfl) rfl rfl rfl (PV_move rfl) ?_
      refine TA_take (dd := (some 9)) 3 rfl (by kernel_rfl) (by kernel_rfl) (by kernel_rfl) rfl rfl rfl (PV_nilCheck rfl) ?_
      refine TA_take (dd := (some 10)) 4 rfl (by kernel_rfl) (by kernel_rfl) (by kernel_rfl) rfl rfl rfl (PV_fieldAddr (D := 4) Try.underlying72 rfl sz5 (by decide) rfl rfl) ?_
      refine TA_pure1 (dd := (some 11)) 5 (by kernel_rfl) rfl rfl rfl rfl (PV_load Try.underlying5 rfl rfl (Rd.at 1 rfl rfl)) ?_
      refine TA_take (dd := (some 12)) 6 rfl (by kernel_rfl) (by kernel_rfl) (by kernel_rfl) rfl rfl rfl (PV_bin rfl rfl bin_eql) ?_
      refine TA_take (dd := (some 5)) 7 rfl (by kernel_rfl) (by kernel_rfl) (by kernel_rfl) rfl rfl rfl (PV_assign rfl) ?_
      refine TA_done (by kernel_rfl) ?_
      refine T_then rfl (by (simp; done)) ?_
      refine T_seq ?_
      refine T_drawnE2 1 3 mixed ?_
      refine TA_take (dd := (some 13)) 0 rfl (by kernel_rfl) (by kernel_rfl) (by kernel_rfl) rfl rfl rfl (PV_move rfl) ?_
      refine TA_take (dd := (some 14)) 1 rfl (by kernel_rfl) (by kernel_rfl) (by kernel_rfl) rfl rfl rfl (PV_move rfl) ?_
      refine TA_take (dd := (some 15)) 2 rfl (by kernel_rfl) (by kernel_rfl) (by kernel_rfl) rfl rfl rfl (PV_nilCheck rfl) ?_
      refine TA_take (dd := (some 16)) 3 rfl (by kernel_rfl) (by kernel_rfl) (by kernel_rfl) rfl rfl rfl (PV_fieldAddr (D := 8) Try.underlying72 rfl sz26 (by decide) rfl rfl) ?_
      refine TA_take (dd := (some 18)) 5 rfl (by kernel_rfl) (by kernel_rfl) (by kernel_rfl) rfl rfl rfl (PV_fieldAddr (D := 1) Try.underlying28 rfl sz26 (by decide) rfl rfl) ?_
      refine TA_take (dd := (some 19)) 6 rfl (by kernel_rfl) (by kernel_rfl) (by kernel_rfl) rfl rfl rfl (PV_load Try.underlying26 rfl rfl (Rd.at 0 rfl rfl)) ?_
      refine TA_pure1 (dd := (some 17)) 4 (by kernel_rfl) rfl rfl rfl rfl (PV_load Try.underlying26 rfl rfl (Rd.at 1 rfl rfl)) ?_
      refine TA_one 7 (by kernel_rfl) rfl rfl (TO_appendB 3 rfl Try.underlying26 zb5 rfl rfl rfl rfl (Shows.mono hx (fun w h => h.sub (by (repeat (first | exact List.Sublist.refl _ | exact List.sublist_append_right _ _ | exact List.sublist_append_left _ _ | apply List.Sublist.cons | refine List.Sublist.trans ?_ (List.sublist_append_left _ _))); done))) ?bb2q35 ?bc2q35 fun A2 c2 hc2 => ?_)
      case bb2q35 => omega
      case bc2q35 => exact hb
      refine ⟨by intro w h; first | exact h | exact trivial | (refine WH.sub h ?_; (repeat (first | exact List.Sublist.refl _ | exact List.sublist_append_right _ _ | exact List.sublist_append_left _ _ | apply List.Sublist.cons | refine List.Sublist.trans ?_ (List.sublist_append_left _ _))); done) | (refine WH.sub h ?_; (repeat (first | exact List.Sublist.refl _ | exact List.sublist_append_right _ _ | exact List.sublist_append_left _ _ | apply List.Sublist.cons_cons | apply List.Sublist.cons | refine List.Sublist.trans ?_ (List.sublist_append_left _ _))); done), ?_⟩
      refine TA_take (dd := (some 21)) 8 rfl (by kernel_rfl) (by kernel_rfl) (by kernel_rfl) rfl rfl rfl (PV_nilCheck rfl) ?_
      refine TA_take (dd := (some 22)) 9 rfl (by kernel_rfl) (by kernel_rfl) (by kernel_rfl) rfl rfl rfl (PV_fieldAddr (D := 8) Try.underlying72 rfl sz26 (by decide) rfl rfl) ?_
      refine TA_one 10 (by kernel_rfl) rfl rfl (TO_store1 1 rfl rfl rfl sz26 rfl rfl rfl (by first | exact Nat.le_of_ble_eq_true rfl | (simp; done) | (simp; omega) | omega) ?_)
      refine ⟨by intro w h; first | exact h | exact trivial | (refine WH.sub h ?_; (repeat (first | exact List.Sublist.refl _ | exact List.sublist_append_right _ _ | exact List.sublist_append_left _ _ | apply List.Sublist.cons | refine List.Sublist.trans ?_ (List.sublist_append_left _ _))); done) | (refine WH.sub h ?_; (repeat (first | exact List.Sublist.refl _ | exact List.sublist_append_right _ _ | exact List.sublist_append_left _ _ | apply List.Sublist.cons_cons | apply List.Sublist.cons | refine List.Sublist.trans ?_ (List.sublist_append_left _ _))); done), ?_⟩
      refine TA_done (by kernel_rfl) ?_
      refine T_seq ?_
      refine T_region ?_
      refine TL_pure (d := (some 23)) rfl rfl rfl (PV_move rfl) ?_
      refine TL_pure (d := (some 24)) rfl rfl rfl (PV_nilCheck rfl) ?_
      refine TL_pure (d := (some 25)) rfl rfl rfl (PV_fieldAddr (D := 4) Try.underlying72 rfl sz5 (by decide) rfl rfl) ?_
      refine TL_pure (d := (some 26)) rfl rfl rfl (PV_load Try.underlying5 rfl rfl (Rd.at 1 rfl rfl)) ?_
      refine TL_pure (d := (some 27)) rfl rfl rfl (PV.cast (PV_bin rfl rfl bin_add) e27) ?_
      refine TL_pure (d := (some 28)) rfl rfl rfl (PV_nilCheck rfl) ?_
      refine TL_pure (d := (some 29)) rfl rfl rfl (PV_fieldAddr (D := 4) Try.underlying72 rfl sz5 (by decide) rfl rfl) ?_
      refine TL_cons rfl (TO_store1 1 rfl rfl rfl sz5 rfl rfl rfl (by first | exact Nat.le_of_ble_eq_true rfl | (simp; done) | (simp; omega) | omega) ?_)
      refine TL_nil ?_
      refine T_seq ?_
      refine T_region ?_
      refine TL_pure (d := (some 30)) rfl rfl rfl (PV_move rfl) ?_
      refine TL_pure (d := (some 31)) rfl rfl rfl (PV_nilCheck rfl) ?_
      refine TL_pure (d := (some 32)) rfl rfl rfl (PV_fieldAddr (D := 9) Try.underlying72 rfl sz3 (by decide) rfl rfl) ?_
      refine TL_pure (d := (some 33)) rfl rfl rfl (PV_load Try.underlying3 rfl rfl (Rd.at 1 rfl rfl)) ?_
      refine TL_pure (d := (some 34)) rfl rfl rfl (PV.cast (PV_bin rfl rfl bin_add) (wr64 (by omega))) ?_
      refine TL_pure (d := (some 35)) rfl rfl rfl (PV_nilCheck rfl) ?_
      refine TL_pure (d := (some 36)) rfl rfl rfl (PV_fieldAddr (D := 9) Try.underlying72 rfl sz3 (by decide) rfl rfl) ?_
      refine TL_cons rfl (TO_store1 1 rfl rfl rfl sz3 rfl rfl rfl (by first | exact Nat.le_of_ble_eq_true rfl | (simp; done) | (simp; omega) | omega) ?_)
      refine TL_nil ?_
      refine T_region ?_
      refine TL_pure (d := (some 37)) rfl rfl rfl (PV_move rfl) ?_
      refine TL_pure (d := (some 38)) rfl rfl rfl (PV_nilCheck rfl) ?_
      refine TL_pure (d := (some 39)) rfl rfl rfl (PV_fieldAddr (D := 5) Try.underlying72 rfl sz4 (by decide) rfl rfl) ?_
      refine TL_cons rfl (TO_store1 1 rfl rfl rfl sz4 rfl rfl rfl (by first | exact Nat.le_of_ble_eq_true rfl | (simp; done) | (simp; omega) | omega) ?_)
      refine TL_nil ?_
      refine T_seq ?_
      refine T_seq ?_
      refine T_drawnE2 1 3 mixed ?_
      refine TA_take (dd := (some 60)) 0 rfl (by kernel_rfl) (by kernel_rfl) (by kernel_rfl) rfl rfl rfl (PV_move rfl) ?_
      refine TA_take (dd := (some 61)) 1 rfl (by kernel_rfl) (by kernel_rfl) (by kernel_rfl) rfl rfl rfl (PV_nilCheck rfl) ?_
      refine TA_take (dd := (some 62)) 2 rfl (by kernel_rfl) (by kernel_rfl) (by kernel_rfl) rfl rfl rfl (PV_fieldAddr (D := 6) Try.underlying72 rfl sz4 (by decide) rfl rfl) ?_
      refine TA_pure1 (dd := (some 63)) 3 (by kernel_rfl) rfl rfl rfl rfl (PV_load Try.underlying4 rfl rfl (Rd.at 1 rfl rfl)) ?_
      refine TA_take (dd := (some 64)) 4 rfl (by kernel_rfl) (by kernel_rfl) (by kernel_rfl) rfl rfl rfl (PV_not rfl) ?_
      refine TA_take (dd := (some 65)) 5 rfl (by kernel_rfl) (by kernel_rfl) (by kernel_rfl) rfl rfl rfl (PV_move rfl) ?_
      refine TA_split (d := 65) rfl (fun c7 => ?w7q35y) (fun c7 => ?w7q35n)
      try simp only [decide_eq_true_eq, decide_eq_false_iff_not, beq_iff_eq, beq_eq_false_iff_ne, bne_iff_ne, bne_eq_false_iff_eq, ne_eq, Bool.not_eq_true', Bool.not_eq_false', Bool.not_not, Bool.not_true, Bool.not_false, Bool.and_eq_true, Bool.or_eq_true, Bool.and_eq_false_iff, Bool.or_eq_false_iff, Int.not_lt, Int.not_le, gt_iff_lt, ge_iff_le] at c7
      refine TA_yes (dd := (some 66)) 6 rfl (by kernel_rfl) (by kernel_rfl) (by kernel_rfl) rfl rfl (gtrue (by (simp; omega))) rfl rfl (PV_move rfl) ?_
      refine TA_yes (dd := (some 67)) 7 rfl (by kernel_rfl) (by kernel_rfl) (by kernel_rfl) rfl rfl (gtrue (by (simp; omega))) rfl rfl (PV_nilCheck rfl) ?_
      refine TA_yes (dd := (some 68)) 8 rfl (by kernel_rfl) (by kernel_rfl) (by kernel_rfl) rfl rfl (gtrue (by (simp; omega))) rfl rfl (PV_fieldAddr (D := 9) Try.underlying72 rfl sz3 (by decide) rfl rfl) ?_
      refine TA_yes (dd := (some 70)) 10 rfl (by kernel_rfl) (by kernel_rfl) (by kernel_rfl) rfl rfl (gtrue (by (simp; omega))) rfl rfl (PV_move rfl) ?_
      refine TA_yes (dd := (some 71)) 11 rfl (by kernel_rfl) (by kernel_rfl) (by kernel_rfl) rfl rfl (gtrue (by (simp; omega))) rfl rfl (PV_nilCheck rfl) ?_
      refine TA_yes (dd := (some 72)) 12 rfl (by kernel_rfl) (by kernel_rfl) (by kernel_rfl) rfl rfl (gtrue (by (simp; omega))) rfl rfl (PV_fieldAddr (D := 10) Try.underlying72 rfl sz3 (by decide) rfl rfl) ?_
      refine TA_hardG (rs := [9, 13]) (by kernel_rfl) (by decide) ?_
      refine List.forall_mem_cons.2 ⟨?w8q35_9, List.forall_mem_cons.2 ⟨?w8q35_13, by simp⟩⟩
      refine ⟨_, rfl, Or.inr ⟨_, _, _, rfl, rfl, gtrue (by (simp; omega))⟩, (TO_pure rfl (PV_load Try.underlying3 rfl rfl (Rd.at 1 rfl rfl)) ?_)⟩
      refine ⟨by intro w h; first | exact h | exact trivial | (refine WH.sub h ?_; (repeat (first | exact List.Sublist.refl _ | exact List.sublist_append_right _ _ | exact List.sublist_append_left _ _ | apply List.Sublist.cons | refine List.Sublist.trans ?_ (List.sublist_append_left _ _))); done) | (refine WH.sub h ?_; (repeat (first | exact List.Sublist.refl _ | exact List.sublist_append_right _ _ | exact List.sublist_append_left _ _ | apply List.Sublist.cons_cons | apply List.Sublist.cons | refine List.Sublist.trans ?_ (List.sublist_append_left _ _))); done), ?_⟩
      refine TA_oneYes 13 (by kernel_rfl) rfl rfl rfl (gtrue (by (simp; omega))) (TO_pure rfl (PV_load Try.underlying3 rfl rfl (Rd.at 1 rfl rfl)) ?_)
      refine ⟨by intro w h; first | exact h | exact trivial | (refine WH.sub h ?_; (repeat (first | exact List.Sublist.refl _ | exact List.sublist_append_right _ _ | exact List.sublist_append_left _ _ | apply List.Sublist.cons | refine List.Sublist.trans ?_ (List.sublist_append_left _ _))); done) | (refine WH.sub h ?_; (repeat (first | exact List.Sublist.refl _ | exact List.sublist_append_right _ _ | exact List.sublist_append_left _ _ | apply List.Sublist.cons_cons | apply List.Sublist.cons | refine List.Sublist.trans ?_ (List.sublist_append_left _ _))); done), ?_⟩
      refine TA_yes (dd := (some 74)) 14 rfl (by kernel_rfl) (by kernel_rfl) (by kernel_rfl) rfl rfl (gtrue (by (simp; omega))) rfl rfl (PV_bin rfl rfl bin_eql) ?_
      refine TA_take (dd := (some 75)) 15 rfl (by kernel_rfl) (by kernel_rfl) (by kernel_rfl) rfl rfl rfl (PV_pickAnd rfl rfl rfl) ?_
      refine TA_done (by kernel_rfl) ?_
      refine T_else rfl (by (simp_all; done)) ?_
      refine T_skip ?_
      refine T_seq ?_
      refine T_region ?_
      refine TL_cons rfl (TO_bs (cs := [_]) Try.underlying26 zs5 (by decide) rfl rfl rfl rfl rfl rfl fun g11 => ?_)
      refine TL_pure (d := (some 4)) rfl rfl rfl (PV_assign rfl) ?_
      refine TL_nil ?_
      refine T.perm ((perm_pick (i := 0) rfl).trans (List.Perm.cons _ ((perm_pick (i := 1) rfl).trans (List.Perm.cons _ ((perm_pick (i := 1) rfl).trans (List.Perm.cons _ ((perm_pick (i := 1) rfl).trans (List.Perm.cons _ (List.Perm.refl _))))))))) ?_
      refine T_dropAt 4 ?_
      refine T_ret ?_
      refine ret_ret (ResV_one rfl rfl) ⟨_, List.Sublist.refl _, ⟨_, _, _, _, _, _, rfl, ?sd12q35_0, rfl⟩⟩
      case sd12q35_0 => decide
      refine ⟨_, rfl, Or.inr ⟨_, _, _, rfl, rfl, gtrue (by (simp; omega))⟩, (TO_pure rfl (PV_load Try.underlying3 rfl rfl (Rd.at 1 rfl rfl)) ?_)⟩
      refine ⟨by intro w h; first | exact h | exact trivial | (refine WH.sub h ?_; (repeat (first | exact List.Sublist.refl _ | exact List.sublist_append_right _ _ | exact List.sublist_append_left _ _ | apply List.Sublist.cons | refine List.Sublist.trans ?_ (List.sublist_append_left _ _))); done) | (refine WH.sub h ?_; (repeat (first | exact List.Sublist.refl _ | exact List.sublist_append_right _ _ | exact List.sublist_append_left _ _ | apply List.Sublist.cons_cons | apply List.Sublist.cons | refine List.Sublist.trans ?_ (List.sublist_append_left _ _))); done), ?_⟩
      refine TA_oneYes 9 (by kernel_rfl) rfl rfl rfl (gtrue (by (simp; omega))) (TO_pure rfl (PV_load Try.underlying3 rfl rfl (Rd.at 1 rfl rfl)) ?_)
      refine ⟨by intro w h; first | exact h | exact trivial | (refine WH.sub h ?_; (repeat (first | exact List.Sublist.refl _ | exact List.sublist_append_right _ _ | exact List.sublist_append_left _ _ | apply List.Sublist.cons | refine List.Sublist.trans ?_ (List.sublist_append_left _ _))); done) | (refine WH.sub h ?_; (repeat (first | exact List.Sublist.refl _ | exact List.sublist_append_right _ _ | exact List.sublist_append_left _ _ | apply List.Sublist.cons_cons | apply List.Sublist.cons | refine List.Sublist.trans ?_ (List.sublist_append_left _ _))); done), ?_⟩
      refine TA_yes (dd := (some 74)) 14 rfl (by kernel_rfl) (by kernel_rfl) (by kernel_rfl) rfl rfl (gtrue (by (simp; omega))) rfl rfl (PV_bin rfl rfl bin_eql) ?_
      refine TA_take (dd := (some 75)) 15 rfl (by kernel_rfl) (by kernel_rfl) (by kernel_rfl) rfl rfl rfl (PV_pickAnd rfl rfl rfl) ?_
      refine TA_done (by kernel_rfl) ?_
      refine T_else rfl (by (simp_all; done)) ?_
      refine T_skip ?_
      refine T_seq ?_
      refine T_region ?_
      refine TL_cons rfl (TO_bs (cs := [_]) Try.underlying26 zs5 (by decide) rfl rfl rfl rfl rfl rfl fun g13 => ?_)
      refine TL_pure (d := (some 4)) rfl rfl rfl (PV_assign rfl) ?_
      refine TL_nil ?_
      refine T.perm ((perm_pick (i := 0) rfl).trans (List.Perm.cons _ ((perm_pick (i := 1) rfl).trans (List.Perm.cons _ ((perm_pick (i := 1) rfl).trans (List.Perm.cons _ ((perm_pick (i := 1) rfl).trans (List.Perm.cons _ (List.Perm.refl _))))))))) ?_
      refine T_dropAt 4 ?_
      refine T_ret ?_
      refine ret_ret (ResV_one rfl rfl) ⟨_, List.Sublist.refl _, ⟨_, _, _, _, _, _, rfl, ?sd14q35_0, rfl⟩⟩
      case sd14q35_0 => decide
      try simp only [decide_eq_true_eq, decide_eq_false_iff_not, beq_iff_eq, beq_eq_false_iff_ne, bne_iff_ne, bne_eq_false_iff_eq, ne_eq, Bool.not_eq_true', Bool.not_eq_false', Bool.not_not, Bool.not_true, Bool.not_false, Bool.and_eq_true, Bool.or_eq_true, Bool.and_eq_false_iff, Bool.or_eq_false_iff, Int.not_lt, Int.not_le, gt_iff_lt, ge_iff_le] at c7
      refine TA_no (dd := (some 66)) (b := false) 6 rfl (by kernel_rfl) (by kernel_rfl) (by kernel_rfl) rfl rfl (gfalse (by (simp; omega))) rfl rfl ?_
      refine TA_no (dd := (some 67)) (b := false) 7 rfl (by kernel_rfl) (by kernel_rfl) (by kernel_rfl) rfl rfl (gfalse (by (simp; omega))) rfl rfl ?_
      refine TA_no (dd := (some 68)) (b := false) 8 rfl (by kernel_rfl) (by kernel_rfl) (by kernel_rfl) rfl rfl (gfalse (by (simp; omega))) rfl rfl ?_
      refine TA_no (dd := (some 69)) (b := false) 9 rfl (by kernel_rfl) (by kernel_rfl) (by kernel_rfl) rfl rfl (gfalse (by (simp; omega))) rfl rfl ?_
      refine TA_no (dd := (some 70)) (b := false) 10 rfl (by kernel_rfl) (by kernel_rfl) (by kernel_rfl) rfl rfl (gfalse (by (simp; omega))) rfl rfl ?_
      refine TA_no (dd := (some 71)) (b := false) 11 rfl (by kernel_rfl) (by kernel_rfl) (by kernel_rfl) rfl rfl (gfalse (by (simp; omega))) rfl rfl ?_
      refine TA_no (dd := (some 72)) (b := false) 12 rfl (by kernel_rfl) (by kernel_rfl) (by kernel_rfl) rfl rfl (gfalse (by (simp; omega))) rfl rfl ?_
      refine TA_no (dd := (some 73)) (b := false) 13 rfl (by kernel_rfl) (by kernel_rfl) (by kernel_rfl) rfl rfl (gfalse (by (simp; omega))) rfl rfl ?_
      refine TA_no (dd := (some 74)) (b := false) 14 rfl (by kernel_rfl) (by kernel_rfl) (by kernel_rfl) rfl rfl (gfalse (by (simp; omega))) rfl rfl ?_
      refine TA_take (dd := (some 75)) 15 rfl (by kernel_rfl) (by kernel_rfl) (by kernel_rfl) rfl rfl rfl (PV_pickF rfl (by first | assumption | rfl | (simp; done) | (simp; omega) | (simp [*]; done) | (simp [*]; omega)) rfl rfl) ?_
      refine TA_done (by kernel_rfl) ?_
      refine T_else rfl (by rfl) ?_
      refine T_skip ?_
      refine T_seq ?_
      refine T_region ?_
      refine TL_cons rfl (TO_bs (cs := [_]) Try.underlying26 zs5 (by decide) rfl rfl rfl rfl rfl rfl fun g15 => ?_)
      refine TL_pure (d := (some 4)) rfl rfl rfl (PV_assign rfl) ?_
      refine TL_nil ?_
      refine T.perm ((perm_pick (i := 0) rfl).trans (List.Perm.cons _ ((perm_pick (i := 1) rfl).trans (List.Perm.cons _ ((perm_pick (i := 1) rfl).trans (List.Perm.cons _ ((perm_pick (i := 1) rfl).trans (List.Perm.cons _ (List.Perm.refl _))))))))) ?_
      refine T_dropAt 4 ?_
      refine T_ret ?_
      refine ret_ret (ResV_one rfl rfl) ⟨_, List.Sublist.refl _, ⟨_, _, _, _, _, _, rfl, ?sd16q35_0, rfl⟩⟩
      case sd16q35_0 => decide
  · simp only [if_neg h1]
    have e53 : Value.int .u8 (IntKind.u8.wrap (r.number - 1)) = .int .u8 ((r.number - 1) % 256) := by rw [IntKind.wrap_u8]
    by_cases h2 : r.begun = false ∨ num ≠ (r.number - 1) % 256
    · simp only [if_pos h2]
      refine TCall_intro (args := [_, _]) Try.func40 rfl Try.ntmps40 (Nat.le_of_ble_eq_true rfl) ?_
      refine T_seq ?_
      refine T_region ?_
      refine TL_cons rfl (TO_box rfl rfl fun g1 => ?_)
      refine TL_pure (d := (some 4)) rfl rfl rfl (PV_assign rfl) ?_
      refine TL_nil ?_
      refine T_seq ?_
      refine T_block ?_
      refine T_seq ?_
      refine T_drawn (WH _ _ _) mixed (fun w h => h) ?_
      refine TA_take (dd := (some 6)) 0 rfl (by kernel_rfl) (by kernel_rfl) (by kernel_rfl) rfl rfl rfl (PV_fieldAddr (D := 0) Try.underlying28 rfl sz5 (by decide) rfl rfl) ?_
      refine TA_take (dd := (some 7)) 1 rfl (by kernel_rfl) (by kernel_rfl) (by kernel_rfl) rfl rfl rfl (PV_load Try.underlying5 rfl rfl (Rd.at 0 rfl rfl)) ?_
      refine TA_take (dd := (some 8)) 2 rfl (by kernel_rfl) (by kernel_rfl) (by kernel_rfl) rfl rfl rfl (PV_move rfl) ?_
      refine TA_take (dd := (some 9)) 3 rfl (by kernel_rfl) (by kernel_rfl) (by kernel_rfl) rfl rfl rfl (PV_nilCheck rfl) ?_
      refine TA_take (dd := (some 10)) 4 rfl (by kernel_rfl) (by kernel_rfl) (by kernel_rfl) rfl rfl rfl (PV_fieldAddr (D := 4) Try.underlying72 rfl sz5 (by decide) rfl rfl) ?_
      refine TA_take (dd := (some 11)) 5 rfl (by kernel_rfl) (by kernel_rfl) (by kernel_rfl) rfl rfl rfl (PV_load Try.underlying5 rfl rfl (Rd.at 1 rfl rfl)) ?_
      refine TA_take (dd := (some 12)) 6 rfl (by kernel_rfl) (by kernel_rfl) (by kernel_rfl) rfl rfl rfl (PV_bin rfl rfl bin_eql) ?_
      refine TA_take (dd := (some 5)) 7 rfl (by kernel_rfl) (by kernel_rfl) (by kernel_rfl) rfl rfl rfl (PV_assign rfl) ?_
      refine TA_done (by kernel_rfl) ?_
      refine T_else rfl (by exact decide_eq_false (by omega)) ?_
      refine T_seq ?_
      refine T_drawn (WH _ _ _) mixed (fun w h => h) ?_
      refine TA_take (dd := (some 41)) 0 rfl (by kernel_rfl) (by kernel_rfl) (by kernel_rfl) rfl rfl rfl (PV_move rfl) ?_
      refine TA_take (dd := (some 42)) 1 rfl (by kernel_rfl) (by kernel_rfl) (by kernel_rfl) rfl rfl rfl (PV_nilCheck rfl) ?_
      refine TA_take (dd := (some 43)) 2 rfl (by kernel_rfl) (by kernel_rfl) (by kernel_rfl) rfl rfl rfl (PV_fieldAddr (D := 5) Try.underlying72 rfl sz4 (by decide) rfl rfl) ?_
      refine TA_take (dd := (some 44)) 3 rfl (by kernel_rfl) (by kernel_rfl) (by kernel_rfl) rfl rfl rfl (PV_load Try.underlying4 rfl rfl (Rd.at 1 rfl rfl)) ?_
      refine TA_take (dd := (some 45)) 4 rfl (by kernel_rfl) (by kernel_rfl) (by kernel_rfl) rfl rfl rfl (PV_not rfl) ?_
      refine TA_take (dd := (some 46)) 5 rfl (by kernel_rfl) (by kernel_rfl) (by kernel_rfl) rfl rfl rfl (PV_move rfl) ?_
      refine TA_split (d := 46) rfl (fun c2 => ?w2q41y) (fun c2 => ?w2q41n)
      try simp only [decide_eq_true_eq, decide_eq_false_iff_not, beq_iff_eq, beq_eq_false_iff_ne, bne_iff_ne, bne_eq_false_iff_eq, ne_eq, Bool.not_eq_true', Bool.not_eq_false', Bool.not_not, Bool.not_true, Bool.not_false, Bool.and_eq_true, Bool.or_eq_true, Bool.and_eq_false_iff, Bool.or_eq_false_iff, Int.not_lt, Int.not_le, gt_iff_lt, ge_iff_le] at c2
      refine TA_no (dd := (some 47)) (b := true) 6 rfl (by kernel_rfl) (by kernel_rfl) (by kernel_rfl) rfl rfl (gtrue (by (simp; omega))) rfl rfl ?_
      refine TA_no (dd := (some 48)) (b := true) 7 rfl (by kernel_rfl) (by kernel_rfl) (by kernel_rfl) rfl rfl (gtrue (by (simp; omega))) rfl rfl ?_
      refine TA_no (dd := (some 49)) (b := true) 8 rfl (by kernel_rfl) (by kernel_rfl) (by kernel_rfl) rfl rfl (gtrue (by (simp; omega))) rfl rfl ?_
      refine TA_no (dd := (some 50)) (b := true) 9 rfl (by kernel_rfl) (by kernel_rfl) (by kernel_rfl) rfl rfl (gtrue (by (simp; omega))) rfl rfl ?_
      refine TA_no (dd := (some 51)) (b := true) 10 rfl (by kernel_rfl) (by kernel_rfl) (by kernel_rfl) rfl rfl (gtrue (by (simp; omega))) rfl rfl ?_
      refine TA_no (dd := (some 52)) (b := true) 11 rfl (by kernel_rfl) (by kernel_rfl) (by kernel_rfl) rfl rfl (gtrue (by (simp; omega))) rfl rfl ?_
      refine TA_no (dd := (some 53)) (b := true) 12 rfl (by kernel_rfl) (by kernel_rfl) (by kernel_rfl) rfl rfl (gtrue (by (simp; omega))) rfl rfl ?_
      refine TA_no (dd := (some 54)) (b := true) 13 rfl (by kernel_rfl) (by kernel_rfl) (by kernel_rfl) rfl rfl (gtrue (by (simp; omega))) rfl rfl ?_
      refine TA_take (dd := (some 55)) 14 rfl (by kernel_rfl) (by kernel_rfl) (by kernel_rfl) rfl rfl rfl (PV_pickT rfl (by first | assumption | rfl | (simp; done) | (simp; omega) | (simp [*]; done) | (simp [*]; omega)) rfl rfl) ?_
      refine TA_take (dd := (some 40)) 15 rfl (by kernel_rfl) (by kernel_rfl) (by kernel_rfl) rfl rfl rfl (PV_assign rfl) ?_
      refine TA_done (by kernel_rfl) ?_
      refine T_then rfl (by rfl) ?_
      refine T_seq ?_
      refine T_region ?_
      refine TL_pure (d := (some 56)) rfl rfl rfl (PV_move rfl) ?_
      refine TL_pure (d := (some 57)) rfl rfl rfl (PV_makeInterface (by kernel_rfl) rfl) ?_
      refine TL_cons rfl (TO_bs (cs := [_, _]) Try.underlying26 zs5 (by decide) rfl rfl rfl rfl rfl rfl fun g3 => ?_)
      refine TL_perm ((perm_pick (i := 2) rfl).trans (List.Perm.cons _ (List.Perm.refl _))) ?_
      refine TL_cons rfl (TO_call0 call38 rfl rfl (t96arg _ _ _ _) ?_)
      rintro v59_6 H59_6 ⟨rfl, rfl⟩
      refine TL_pure (d := (some 4)) rfl rfl rfl (PV_assign rfl) ?_
      refine TL_nil ?_
      refine T.perm ((perm_pick (i := 1) rfl).trans (List.Perm.cons _ ((perm_pick (i := 0) rfl).trans (List.Perm.cons _ ((perm_pick (i := 1) rfl).trans (List.Perm.cons _ ((perm_pick (i := 1) rfl).trans (List.Perm.cons _ (List.Perm.refl _))))))))) ?_
      refine T_dropAt 4 ?_
      refine T_ret ?_
      refine ret_ret (ResV_one rfl rfl) ⟨_, List.Sublist.refl _, ⟨_, _, _, _, _, _, rfl, ?sd7q41_0, rfl⟩⟩
      case sd7q41_0 => decide
      try simp only [decide_eq_true_eq, decide_eq_false_iff_not, beq_iff_eq, beq_eq_false_iff_ne, bne_iff_ne, bne_eq_false_iff_eq, ne_eq, Bool.not_eq_true', Bool.not_eq_false', Bool.not_not, Bool.not_true, Bool.not_false, Bool.and_eq_true, Bool.or_eq_true, Bool.and_eq_false_iff, Bool.or_eq_false_iff, Int.not_lt, Int.not_le, gt_iff_lt, ge_iff_le] at c2
      refine TA_yes (dd := (some 47)) 6 rfl (by kernel_rfl) (by kernel_rfl) (by kernel_rfl) rfl rfl (gfalse (by (simp; omega))) rfl rfl (PV_fieldAddr (D := 0) Try.underlying28 rfl sz5 (by decide) rfl rfl) ?_
      refine TA_yes (dd := (some 48)) 7 rfl (by kernel_rfl) (by kernel_rfl) (by kernel_rfl) rfl rfl (gfalse (by (simp; omega))) rfl rfl (PV_load Try.underlying5 rfl rfl (Rd.at 0 rfl rfl)) ?_
      refine TA_yes (dd := (some 49)) 8 rfl (by kernel_rfl) (by kernel_rfl) (by kernel_rfl) rfl rfl (gfalse (by (simp; omega))) rfl rfl (PV_move rfl) ?_
      refine TA_yes (dd := (some 50)) 9 rfl (by kernel_rfl) (by kernel_rfl) (by kernel_rfl) rfl rfl (gfalse (by (simp; omega))) rfl rfl (PV_nilCheck rfl) ?_
      refine TA_yes (dd := (some 51)) 10 rfl (by kernel_rfl) (by kernel_rfl) (by kernel_rfl) rfl rfl (gfalse (by (simp; omega))) rfl rfl (PV_fieldAddr (D := 4) Try.underlying72 rfl sz5 (by decide) rfl rfl) ?_
      refine TA_yes (dd := (some 52)) 11 rfl (by kernel_rfl) (by kernel_rfl) (by kernel_rfl) rfl rfl (gfalse (by (simp; omega))) rfl rfl (PV_load Try.underlying5 rfl rfl (Rd.at 1 rfl rfl)) ?_
      refine TA_yes (dd := (some 53)) 12 rfl (by kernel_rfl) (by kernel_rfl) (by kernel_rfl) rfl rfl (gfalse (by (simp; omega))) rfl rfl (PV.cast (PV_bin rfl rfl bin_sub) e53) ?_
      refine TA_yes (dd := (some 54)) 13 rfl (by kernel_rfl) (by kernel_rfl) (by kernel_rfl) rfl rfl (gfalse (by (simp; omega))) rfl rfl (PV_bin rfl rfl bin_neq) ?_
      refine TA_take (dd := (some 55)) 14 rfl (by kernel_rfl) (by kernel_rfl) (by kernel_rfl) rfl rfl rfl (PV_pickOr rfl rfl rfl) ?_
      refine TA_take (dd := (some 40)) 15 rfl (by kernel_rfl) (by kernel_rfl) (by kernel_rfl) rfl rfl rfl (PV_assign rfl) ?_
      refine TA_done (by kernel_rfl) ?_
      refine T_then rfl (by (simp; omega)) ?_
      refine T_seq ?_
      refine T_region ?_
      refine TL_pure (d := (some 56)) rfl rfl rfl (PV_move rfl) ?_
      refine TL_pure (d := (some 57)) rfl rfl rfl (PV_makeInterface (by kernel_rfl) rfl) ?_
      refine TL_cons rfl (TO_bs (cs := [_, _]) Try.underlying26 zs5 (by decide) rfl rfl rfl rfl rfl rfl fun g8 => ?_)
      refine TL_perm ((perm_pick (i := 2) rfl).trans (List.Perm.cons _ (List.Perm.refl _))) ?_
      refine TL_cons rfl (TO_call0 call38 rfl rfl (t96arg _ _ _ _) ?_)
      rintro v59_11 H59_11 ⟨rfl, rfl⟩
      refine TL_pure (d := (some 4)) rfl rfl rfl (PV_assign rfl) ?_
      refine TL_nil ?_
      refine T.perm ((perm_pick (i := 1) rfl).trans (List.Perm.cons _ ((perm_pick (i := 0) rfl).trans (List.Perm.cons _ ((perm_pick (i := 1) rfl).trans (List.Perm.cons _ ((perm_pick (i := 1) rfl).trans (List.Perm.cons _ (List.Perm.refl _))))))))) ?_
      refine T_dropAt 4 ?_
      refine T_ret ?_
      refine ret_ret (ResV_one rfl rfl) ⟨_, List.Sublist.refl _, ⟨_, _, _, _, _, _, rfl, ?sd12q41_0, rfl⟩⟩
      case sd12q41_0 => decide
    · simp only [if_neg h2]
      have h3 : r.begun = true ∧ num = (r.number - 1) % 256 := by
        cases hb : r.begun <;> simp_all
      obtain ⟨h3a, h3b⟩ := h3
      unfold Rc.done
      by_cases h4 : r.close = false ∧ r.blocks = r.want
      · rw [if_pos h4]
        obtain ⟨h4a, h4b⟩ := h4
        refine TCall_intro (args := [_, _]) Try.func40 rfl Try.ntmps40 (Nat.le_of_ble_eq_true rfl) ?_
        refine T_seq ?_
        refine T_region ?_
        refine TL_cons rfl (TO_box rfl rfl fun g1 => ?_)
        refine TL_pure (d := (some 4)) rfl rfl rfl (PV_assign rfl) ?_
        refine TL_nil ?_
        refine T_seq ?_
        refine T_block ?_
        refine T_seq ?_
        refine T_drawn (WH _ _ _) mixed (fun w h => h) ?_
        refine TA_take (dd := (some 6)) 0 rfl (by kernel_rfl) (by kernel_rfl) (by kernel_rfl) rfl rfl rfl (PV_fieldAddr (D := 0) Try.underlying28 rfl sz5 (by decide) rfl rfl) ?_
        refine TA_take (dd := (some 7)) 1 rfl (by kernel_rfl) (by kernel_rfl) (by kernel_rfl) rfl rfl rfl (PV_load Try.underlying5 rfl rfl (Rd.at 0 rfl rfl)) ?_
        refine TA_take (dd := (some 8)) 2 rfl (by kernel_rfl) (by kernel_rfl) (by kernel_rfl) rfl rfl rfl (PV_move rfl) ?_
        refine TA_take (dd := (some 9)) 3 rfl (by kernel_rfl) (by kernel_rfl) (by kernel_rfl) rfl rfl rfl (PV_nilCheck rfl) ?_
        refine TA_take (dd := (some 10)) 4 rfl (by kernel_rfl) (by kernel_rfl) (by kernel_rfl) rfl rfl rfl (PV_fieldAddr (D := 4) Try.underlying72 rfl sz5 (by decide) rfl rfl) ?_
        refine TA_take (dd := (some 11)) 5 rfl (by kernel_rfl) (by kernel_rfl) (by kernel_rfl) rfl rfl rfl (PV_load Try.underlying5 rfl rfl (Rd.at 1 rfl rfl)) ?_
        refine TA_take (dd := (some 12)) 6 rfl (by kernel_rfl) (by kernel_rfl) (by kernel_rfl) rfl rfl rfl (PV_bin rfl rfl bin_eql) ?_
        refine TA_take (dd := (some 5)) 7 rfl (by kernel_rfl) (by kernel_rfl) (by kernel_rfl) rfl rfl rfl (PV_assign rfl) ?_
        refine TA_done (by kernel_rfl) ?_
        refine T_else rfl (by exact decide_eq_false (by omega)) ?_
        refine T_seq ?_
        refine T_drawn (WH _ _ _) mixed (fun w h => h) ?_
        refine TA_take (dd := (some 41)) 0 rfl (by kernel_rfl) (by kernel_rfl) (by kernel_rfl) rfl rfl rfl (PV_move rfl) ?_
        refine TA_take (dd := (some 42)) 1 rfl (by kernel_rfl) (by kernel_rfl) (by kernel_rfl) rfl rfl rfl (PV_nilCheck rfl) ?_
        refine TA_take (dd := (some 43)) 2 rfl (by kernel_rfl) (by kernel_rfl) (by kernel_rfl) rfl rfl rfl (PV_fieldAddr (D := 5) Try.underlying72 rfl sz4 (by decide) rfl rfl) ?_
        refine TA_take (dd := (some 44)) 3 rfl (by kernel_rfl) (by kernel_rfl) (by kernel_rfl) rfl rfl rfl (PV_load Try.underlying4 rfl rfl (Rd.at 1 rfl rfl)) ?_
        refine TA_take (dd := (some 45)) 4 rfl (by kernel_rfl) (by kernel_rfl) (by kernel_rfl) rfl rfl rfl (PV_not rfl) ?_
        refine TA_take (dd := (some 46)) 5 rfl (by kernel_rfl) (by kernel_rfl) (by kernel_rfl) rfl rfl rfl (PV_move rfl) ?_
        refine TA_yes (dd := (some 47)) 6 rfl (by kernel_rfl) (by kernel_rfl) (by kernel_rfl) rfl rfl (gfalse (by (simp; omega))) rfl rfl (PV_fieldAddr (D := 0) Try.underlying28 rfl sz5 (by decide) rfl rfl) ?_
        refine TA_yes (dd := (some 48)) 7 rfl (by kernel_rfl) (by kernel_rfl) (by kernel_rfl) rfl rfl (gfalse (by (simp; omega))) rfl rfl (PV_load Try.underlying5 rfl rfl (Rd.at 0 rfl rfl)) ?_
        refine TA_yes (dd := (some 49)) 8 rfl (by kernel_rfl) (by kernel_rfl) (by kernel_rfl) rfl rfl (gfalse (by (simp; omega))) rfl rfl (PV_move rfl) ?_
        refine TA_yes (dd := (some 50)) 9 rfl (by kernel_rfl) (by kernel_rfl) (by kernel_rfl) rfl rfl (gfalse (by (simp; omega))) rfl rfl (PV_nilCheck rfl) ?_
        refine TA_yes (dd := (some 51)) 10 rfl (by kernel_rfl) (by kernel_rfl) (by kernel_rfl) rfl rfl (gfalse (by (simp; omega))) rfl rfl (PV_fieldAddr (D := 4) Try.underlying72 rfl sz5 (by decide) rfl rfl) ?_
        refine TA_yes (dd := (some 52)) 11 rfl (by kernel_rfl) (by kernel_rfl) (by kernel_rfl) rfl rfl (gfalse (by (simp; omega))) rfl rfl (PV_load Try.underlying5 rfl rfl (Rd.at 1 rfl rfl)) ?_
        refine TA_yes (dd := (some 53)) 12 rfl (by kernel_rfl) (by kernel_rfl) (by kernel_rfl) rfl rfl (gfalse (by (simp; omega))) rfl rfl (PV.cast (PV_bin rfl rfl bin_sub) e53) ?_
        refine TA_yes (dd := (some 54)) 13 rfl (by kernel_rfl) (by kernel_rfl) (by kernel_rfl) rfl rfl (gfalse (by (simp; omega))) rfl rfl (PV_bin rfl rfl bin_neq) ?_
        refine TA_take (dd := (some 55)) 14 rfl (by kernel_rfl) (by kernel_rfl) (by kernel_rfl) rfl rfl rfl (PV_pickOr rfl rfl rfl) ?_
        refine TA_take (dd := (some 40)) 15 rfl (by kernel_rfl) (by kernel_rfl) (by kernel_rfl) rfl rfl rfl (PV_assign rfl) ?_
        refine TA_done (by kernel_rfl) ?_
        refine T_else rfl (by (simp [*]; done)) ?_
        refine T_skip ?_
        refine T_seq ?_
        refine T_seq ?_
        refine T_drawn (WH _ _ _) mixed (fun w h => h) ?_
        refine TA_take (dd := (some 60)) 0 rfl (by kernel_rfl) (by kernel_rfl) (by kernel_rfl) rfl rfl rfl (PV_move rfl) ?_
        refine TA_take (dd := (some 61)) 1 rfl (by kernel_rfl) (by kernel_rfl) (by kernel_rfl) rfl rfl rfl (PV_nilCheck rfl) ?_
        refine TA_take (dd := (some 62)) 2 rfl (by kernel_rfl) (by kernel_rfl) (by kernel_rfl) rfl rfl rfl (PV_fieldAddr (D := 6) Try.underlying72 rfl sz4 (by decide) rfl rfl) ?_
        refine TA_take (dd := (some 63)) 3 rfl (by kernel_rfl) (by kernel_rfl) (by kernel_rfl) rfl rfl rfl (PV_load Try.underlying4 rfl rfl (Rd.at 1 rfl rfl)) ?_
        refine TA_take (dd := (some 64)) 4 rfl (by kernel_rfl) (by kernel_rfl) (by kernel_rfl) rfl rfl rfl (PV_not rfl) ?_
        refine TA_take (dd := (some 65)) 5 rfl (by kernel_rfl) (by kernel_rfl) (by kernel_rfl) rfl rfl rfl (PV_move rfl) ?_
        refine TA_yes (dd := (some 66)) 6 rfl (by kernel_rfl) (by kernel_rfl) (by kernel_rfl) rfl rfl (gtrue (by (simp; omega))) rfl rfl (PV_move rfl) ?_
        refine TA_yes (dd := (some 67)) 7 rfl (by kernel_rfl) (by kernel_rfl) (by kernel_rfl) rfl rfl (gtrue (by (simp; omega))) rfl rfl (PV_nilCheck rfl) ?_
        refine TA_yes (dd := (some 68)) 8 rfl (by kernel_rfl) (by kernel_rfl) (by kernel_rfl) rfl rfl (gtrue (by (simp; omega))) rfl rfl (PV_fieldAddr (D := 9) Try.underlying72 rfl sz3 (by decide) rfl rfl) ?_
        refine TA_yes (dd := (some 69)) 9 rfl (by kernel_rfl) (by kernel_rfl) (by kernel_rfl) rfl rfl (gtrue (by (simp; omega))) rfl rfl (PV_load Try.underlying3 rfl rfl (Rd.at 1 rfl rfl)) ?_
        refine TA_yes (dd := (some 70)) 10 rfl (by kernel_rfl) (by kernel_rfl) (by kernel_rfl) rfl rfl (gtrue (by (simp; omega))) rfl rfl (PV_move rfl) ?_
        refine TA_yes (dd := (some 71)) 11 rfl (by kernel_rfl) (by kernel_rfl) (by kernel_rfl) rfl rfl (gtrue (by (simp; omega))) rfl rfl (PV_nilCheck rfl) ?_
        refine TA_yes (dd := (some 72)) 12 rfl (by kernel_rfl) (by kernel_rfl) (by kernel_rfl) rfl rfl (gtrue (by (simp; omega))) rfl rfl (PV_fieldAddr (D := 10) Try.underlying72 rfl sz3 (by decide) rfl rfl) ?_
        refine TA_yes (dd := (some 73)) 13 rfl (by kernel_rfl) (by kernel_rfl) (by kernel_rfl) rfl rfl (gtrue (by (simp; omega))) rfl rfl (PV_load Try.underlying3 rfl rfl (Rd.at 1 rfl rfl)) ?_
        refine TA_yes (dd := (some 74)) 14 rfl (by kernel_rfl) (by kernel_rfl) (by kernel_rfl) rfl rfl (gtrue (by (simp; omega))) rfl rfl (PV_bin rfl rfl bin_eql) ?_
        refine TA_take (dd := (some 75)) 15 rfl (by kernel_rfl) (by kernel_rfl) (by kernel_rfl) rfl rfl rfl (PV_pickAnd rfl rfl rfl) ?_
        refine TA_done (by kernel_rfl) ?_
        refine T_then rfl (by (simp [*]; done)) ?_
        refine T_seq ?_
        refine T_region ?_
        refine TL_pure (d := (some 76)) rfl rfl rfl (PV_move rfl) ?_
        refine TL_cons rfl (TO_bs (cs := [_]) Try.underlying26 zs5 (by decide) rfl rfl rfl rfl rfl rfl fun g2 => ?_)
        refine TL_perm ((perm_pick (i := 2) rfl).trans (List.Perm.cons _ (List.Perm.refl _))) ?_
        refine TL_cons rfl (TO_call0 call38 rfl rfl (t96nil _ _ _ _) ?_)
        rintro v78_5 H78_5 ⟨rfl, rfl⟩
        refine TL_pure (d := (some 4)) rfl rfl rfl (PV_assign rfl) ?_
        refine TL_nil ?_
        refine T.perm ((perm_pick (i := 1) rfl).trans (List.Perm.cons _ ((perm_pick (i := 0) rfl).trans (List.Perm.cons _ ((perm_pick (i := 1) rfl).trans (List.Perm.cons _ ((perm_pick (i := 1) rfl).trans (List.Perm.cons _ (List.Perm.refl _))))))))) ?_
        refine T_dropAt 4 ?_
        refine T_ret ?_
        refine ret_ret (ResV_one rfl rfl) ⟨_, List.Sublist.refl _, ⟨_, _, _, _, _, _, rfl, ?sd6q51_0, rfl⟩⟩
        case sd6q51_0 => decide
      · rw [if_neg h4]
        refine TCall_intro (args := [_, _]) Try.func40 rfl Try.ntmps40 (Nat.le_of_ble_eq_true rfl) ?_
        refine T_seq ?_
        refine T_region ?_
        refine TL_cons rfl (TO_box rfl rfl fun g1 => ?_)
        refine TL_pure (d := (some 4)) rfl rfl rfl (PV_assign rfl) ?_
        refine TL_nil ?_
        refine T_seq ?_
        refine T_block ?_
        refine T_seq ?_
        refine T_drawn (WH _ _ _) mixed (fun w h => h) ?_
        refine TA_take (dd := (some 6)) 0 rfl (by kernel_rfl) (by kernel_rfl) (by kernel_rfl) rfl rfl rfl (PV_fieldAddr (D := 0) Try.underlying28 rfl sz5 (by decide) rfl rfl) ?_
        refine TA_take (dd := (some 7)) 1 rfl (by kernel_rfl) (by kernel_rfl) (by kernel_rfl) rfl rfl rfl (PV_load Try.underlying5 rfl rfl (Rd.at 0 rfl rfl)) ?_
        refine TA_take (dd := (some 8)) 2 rfl (by kernel_rfl) (by kernel_rfl) (by kernel_rfl) rfl rfl rfl (PV_move rfl) ?_
        refine TA_take (dd := (some 9)) 3 rfl (by kernel_rfl) (by kernel_rfl) (by kernel_rfl) rfl rfl rfl (PV_nilCheck rfl) ?_
        refine TA_take (dd := (some 10)) 4 rfl (by kernel_rfl) (by kernel_rfl) (by kernel_rfl) rfl rfl rfl (PV_fieldAddr (D := 4) Try.underlying72 rfl sz5 (by decide) rfl rfl) ?_
        refine TA_take (dd := (some 11)) 5 rfl (by kernel_rfl) (by kernel_rfl) (by kernel_rfl) rfl rfl rfl (PV_load Try.underlying5 rfl rfl (Rd.at 1 rfl rfl)) ?_
        refine TA_take (dd := (some 12)) 6 rfl (by kernel_rfl) (by kernel_rfl) (by kernel_rfl) rfl rfl rfl (PV_bin rfl rfl bin_eql) ?_
        refine TA_take (dd := (some 5)) 7 rfl (by kernel_rfl) (by kernel_rfl) (by kernel_rfl) rfl rfl rfl (PV_assign rfl) ?_
        refine TA_done (by kernel_rfl) ?_
        refine T_else rfl (by exact decide_eq_false (by omega)) ?_
        refine T_seq ?_
        refine T_drawn (WH _ _ _) mixed (fun w h => h) ?_
        refine TA_take (dd := (some 41)) 0 rfl (by kernel_rfl) (by kernel_rfl) (by kernel_rfl) rfl rfl rfl (PV_move rfl) ?_
        refine TA_take (dd := (some 42)) 1 rfl (by kernel_rfl) (by kernel_rfl) (by kernel_rfl) rfl rfl rfl (PV_nilCheck rfl) ?_
        refine TA_take (dd := (some 43)) 2 rfl (by kernel_rfl) (by kernel_rfl) (by kernel_rfl) rfl rfl rfl (PV_fieldAddr (D := 5) Try.underlying72 rfl sz4 (by decide) rfl rfl) ?_
        refine TA_take (dd := (some 44)) 3 rfl (by kernel_rfl) (by kernel_rfl) (by kernel_rfl) rfl rfl rfl (PV_load Try.underlying4 rfl rfl (Rd.at 1 rfl rfl)) ?_
        refine TA_take (dd := (some 45)) 4 rfl (by kernel_rfl) (by kernel_rfl) (by kernel_rfl) rfl rfl rfl (PV_not rfl) ?_
        refine TA_take (dd := (some 46)) 5 rfl (by kernel_rfl) (by kernel_rfl) (by kernel_rfl) rfl rfl rfl (PV_move rfl) ?_
        refine TA_yes (dd := (some 47)) 6 rfl (by kernel_rfl) (by kernel_rfl) (by kernel_rfl) rfl rfl (gfalse (by (simp; omega))) rfl rfl (PV_fieldAddr (D := 0) Try.underlying28 rfl sz5 (by decide) rfl rfl) ?_
        refine TA_yes (dd := (some 48)) 7 rfl (by kernel_rfl) (by kernel_rfl) (by kernel_rfl) rfl rfl (gfalse (by (simp; omega))) rfl rfl (PV_load Try.underlying5 rfl rfl (Rd.at 0 rfl rfl)) ?_
        refine TA_yes (dd := (some 49)) 8 rfl (by kernel_rfl) (by kernel_rfl) (by kernel_rfl) rfl rfl (gfalse (by (simp; omega))) rfl rfl (PV_move rfl) ?_
        refine TA_yes (dd := (some 50)) 9 rfl (by kernel_rfl) (by kernel_rfl) (by kernel_rfl) rfl rfl (gfalse (by (simp; omega))) rfl rfl (PV_nilCheck rfl) ?_
        refine TA_yes (dd := (some 51)) 10 rfl (by kernel_rfl) (by kernel_rfl) (by kernel_rfl) rfl rfl (gfalse (by (simp; omega))) rfl rfl (PV_fieldAddr (D := 4) Try.underlying72 rfl sz5 (by decide) rfl rfl) ?_
        refine TA_yes (dd := (some 52)) 11 rfl (by kernel_rfl) (by kernel_rfl) (by kernel_rfl) rfl rfl (gfalse (by (simp; omega))) rfl rfl (PV_load Try.underlying5 rfl rfl (Rd.at 1 rfl rfl)) ?_
        refine TA_yes (dd := (some 53)) 12 rfl (by kernel_rfl) (by kernel_rfl) (by kernel_rfl) rfl rfl (gfalse (by (simp; omega))) rfl rfl (PV.cast (PV_bin rfl rfl bin_sub) e53) ?_
        refine TA_yes (dd := (some 54)) 13 rfl (by kernel_rfl) (by kernel_rfl) (by kernel_rfl) rfl rfl (gfalse (by (simp; omega))) rfl rfl (PV_bin rfl rfl bin_neq) ?_
        refine TA_take (dd := (some 55)) 14 rfl (by kernel_rfl) (by kernel_rfl) (by kernel_rfl) rfl rfl rfl (PV_pickOr rfl rfl rfl) ?_
        refine TA_take (dd := (some 40)) 15 rfl (by kernel_rfl) (by kernel_rfl) (by kernel_rfl) rfl rfl rfl (PV_assign rfl) ?_
        refine TA_done (by kernel_rfl) ?_
        refine T_else rfl (by (simp [*]; done)) ?_
        refine T_skip ?_
        refine T_seq ?_
        refine T_seq ?_
        refine T_drawn (WH _ _ _) mixed (fun w h => h) ?_
        refine TA_take (dd := (some 60)) 0 rfl (by kernel_rfl) (by kernel_rfl) (by kernel_rfl) rfl rfl rfl (PV_move rfl) ?_
        refine TA_take (dd := (some 61)) 1 rfl (by kernel_rfl) (by kernel_rfl) (by kernel_rfl) rfl rfl rfl (PV_nilCheck rfl) ?_
        refine TA_take (dd := (some 62)) 2 rfl (by kernel_rfl) (by kernel_rfl) (by kernel_rfl) rfl rfl rfl (PV_fieldAddr (D := 6) Try.underlying72 rfl sz4 (by decide) rfl rfl) ?_
        refine TA_take (dd := (some 63)) 3 rfl (by kernel_rfl) (by kernel_rfl) (by kernel_rfl) rfl rfl rfl (PV_load Try.underlying4 rfl rfl (Rd.at 1 rfl rfl)) ?_
        refine TA_take (dd := (some 64)) 4 rfl (by kernel_rfl) (by kernel_rfl) (by kernel_rfl) rfl rfl rfl (PV_not rfl) ?_
        refine TA_take (dd := (some 65)) 5 rfl (by kernel_rfl) (by kernel_rfl) (by kernel_rfl) rfl rfl rfl (PV_move rfl) ?_
        refine TA_split (d := 65) rfl (fun c2 => ?w2q54y) (fun c2 => ?w2q54n)
        try simp only [decide_eq_true_eq, decide_eq_false_iff_not, beq_iff_eq, beq_eq_false_iff_ne, bne_iff_ne, bne_eq_false_iff_eq, ne_eq, Bool.not_eq_true', Bool.not_eq_false', Bool.not_not, Bool.not_true, Bool.not_false, Bool.and_eq_true, Bool.or_eq_true, Bool.and_eq_false_iff, Bool.or_eq_false_iff, Int.not_lt, Int.not_le, gt_iff_lt, ge_iff_le] at c2
        refine TA_yes (dd := (some 66)) 6 rfl (by kernel_rfl) (by kernel_rfl) (by kernel_rfl) rfl rfl (gtrue (by (simp; omega))) rfl rfl (PV_move rfl) ?_
        refine TA_yes (dd := (some 67)) 7 rfl (by kernel_rfl) (by kernel_rfl) (by kernel_rfl) rfl rfl (gtrue (by (simp; omega))) rfl rfl (PV_nilCheck rfl) ?_
        refine TA_yes (dd := (some 68)) 8 rfl (by kernel_rfl) (by kernel_rfl) (by kernel_rfl) rfl rfl (gtrue (by (simp; omega))) rfl rfl (PV_fieldAddr (D := 9) Try.underlying72 rfl sz3 (by decide) rfl rfl) ?_
        refine TA_yes (dd := (some 69)) 9 rfl (by kernel_rfl) (by kernel_rfl) (by kernel_rfl) rfl rfl (gtrue (by (simp; omega))) rfl rfl (PV_load Try.underlying3 rfl rfl (Rd.at 1 rfl rfl)) ?_
        refine TA_yes (dd := (some 70)) 10 rfl (by kernel_rfl) (by kernel_rfl) (by kernel_rfl) rfl rfl (gtrue (by (simp; omega))) rfl rfl (PV_move rfl) ?_
        refine TA_yes (dd := (some 71)) 11 rfl (by kernel_rfl) (by kernel_rfl) (by kernel_rfl) rfl rfl (gtrue (by (simp; omega))) rfl rfl (PV_nilCheck rfl) ?_
        refine TA_yes (dd := (some 72)) 12 rfl (by kernel_rfl) (by kernel_rfl) (by kernel_rfl) rfl rfl (gtrue (by (simp; omega))) rfl rfl (PV_fieldAddr (D := 10) Try.underlying72 rfl sz3 (by decide) rfl rfl) ?_
        refine TA_yes (dd := (some 73)) 13 rfl (by kernel_rfl) (by kernel_rfl) (by kernel_rfl) rfl rfl (gtrue (by (simp; omega))) rfl rfl (PV_load Try.underlying3 rfl rfl (Rd.at 1 rfl rfl)) ?_
        refine TA_yes (dd := (some 74)) 14 rfl (by kernel_rfl) (by kernel_rfl) (by kernel_rfl) rfl rfl (gtrue (by (simp; omega))) rfl rfl (PV_bin rfl rfl bin_eql) ?_
        refine TA_take (dd := (some 75)) 15 rfl (by kernel_rfl) (by kernel_rfl) (by kernel_rfl) rfl rfl rfl (PV_pickAnd rfl rfl rfl) ?_
        refine TA_done (by kernel_rfl) ?_
        refine T_else rfl (by (simp_all; done)) ?_
        refine T_skip ?_
        refine T_seq ?_
        refine T_region ?_
        refine TL_cons rfl (TO_bs (cs := [_]) Try.underlying26 zs5 (by decide) rfl rfl rfl rfl rfl rfl fun g3 => ?_)
        refine TL_pure (d := (some 4)) rfl rfl rfl (PV_assign rfl) ?_
        refine TL_nil ?_
        refine T.perm ((perm_pick (i := 0) rfl).trans (List.Perm.cons _ ((perm_pick (i := 1) rfl).trans (List.Perm.cons _ ((perm_pick (i := 1) rfl).trans (List.Perm.cons _ ((perm_pick (i := 1) rfl).trans (List.Perm.cons _ (List.Perm.refl _))))))))) ?_
        refine T_dropAt 4 ?_
        refine T_ret ?_
        refine ret_ret (ResV_one rfl rfl) ⟨_, List.Sublist.refl _, ⟨_, _, _, _, _, _, rfl, ?sd4q54_0, rfl⟩⟩
        case sd4q54_0 => decide
        try simp only [decide_eq_true_eq, decide_eq_false_iff_not, beq_iff_eq, beq_eq_false_iff_ne, bne_iff_ne, bne_eq_false_iff_eq, ne_eq, Bool.not_eq_true', Bool.not_eq_false', Bool.not_not, Bool.not_true, Bool.not_false, Bool.and_eq_true, Bool.or_eq_true, Bool.and_eq_false_iff, Bool.or_eq_false_iff, Int.not_lt, Int.not_le, gt_iff_lt, ge_iff_le] at c2
        refine TA_no (dd := (some 66)) (b := false) 6 rfl (by kernel_rfl) (by kernel_rfl) (by kernel_rfl) rfl rfl (gfalse (by (simp; omega))) rfl rfl ?_
        refine TA_no (dd := (some 67)) (b := false) 7 rfl (by kernel_rfl) (by kernel_rfl) (by kernel_rfl) rfl rfl (gfalse (by (simp; omega))) rfl rfl ?_
        refine TA_no (dd := (some 68)) (b := false) 8 rfl (by kernel_rfl) (by kernel_rfl) (by kernel_rfl) rfl rfl (gfalse (by (simp; omega))) rfl rfl ?_
        refine TA_no (dd := (some 69)) (b := false) 9 rfl (by kernel_rfl) (by kernel_rfl) (by kernel_rfl) rfl rfl (gfalse (by (simp; omega))) rfl rfl ?_
        refine TA_no (dd := (some 70)) (b := false) 10 rfl (by kernel_rfl) (by kernel_rfl) (by kernel_rfl) rfl rfl (gfalse (by (simp; omega))) rfl rfl ?_
        refine TA_no (dd := (some 71)) (b := false) 11 rfl (by kernel_rfl) (by kernel_rfl) (by kernel_rfl) rfl rfl (gfalse (by (simp; omega))) rfl rfl ?_
        refine TA_no (dd := (some 72)) (b := false) 12 rfl (by kernel_rfl) (by kernel_rfl) (by kernel_rfl) rfl rfl (gfalse (by (simp; omega))) rfl rfl ?_
        refine TA_no (dd := (some 73)) (b := false) 13 rfl (by kernel_rfl) (by kernel_rfl) (by kernel_rfl) rfl rfl (gfalse (by (simp; omega))) rfl rfl ?_
        refine TA_no (dd := (some 74)) (b := false) 14 rfl (by kernel_rfl) (by kernel_rfl) (by kernel_rfl) rfl rfl (gfalse (by (simp; omega))) rfl rfl ?_
        refine TA_take (dd := (some 75)) 15 rfl (by kernel_rfl) (by kernel_rfl) (by kernel_rfl) rfl rfl rfl (PV_pickF rfl (by first | assumption | rfl | (simp; done) | (simp; omega) | (simp [*]; done) | (simp [*]; omega)) rfl rfl) ?_
        refine TA_done (by kernel_rfl) ?_
        refine T_else rfl (by rfl) ?_
        refine T_skip ?_
        refine T_seq ?_
        refine T_region ?_
        refine TL_cons rfl (TO_bs (cs := [_]) Try.underlying26 zs5 (by decide) rfl rfl rfl rfl rfl rfl fun g5 => ?_)
        refine TL_pure (d := (some 4)) rfl rfl rfl (PV_assign rfl) ?_
        refine TL_nil ?_
        refine T.perm ((perm_pick (i := 0) rfl).trans (List.Perm.cons _ ((perm_pick (i := 1) rfl).trans (List.Perm.cons _ ((perm_pick (i := 1) rfl).trans (List.Perm.cons _ ((perm_pick (i := 1) rfl).trans (List.Perm.cons _ (List.Perm.refl _))))))))) ?_
        refine T_dropAt 4 ?_
        refine T_ret ?_
        refine ret_ret (ResV_one rfl rfl) ⟨_, List.Sublist.refl _, ⟨_, _, _, _, _, _, rfl, ?sd6q54_0, rfl⟩⟩
        case sd6q54_0 => decide
end
end Go.Proofs.Ytcbkcggijejooaa.SL
