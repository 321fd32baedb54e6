import Derived.Test.YthdkmgeigdoglaaSLNum
/- The sender: what it does, function by function. No statement is proved here. -/
set_option linter.unusedVariables false
namespace Go.Proofs.Ythdkmgeigdoglaa.SL
open Go Go.RowKit Go.Proofs.YthdkmgeigdoglaaW.PrintWords H Hand
/-- a sender, as its cells are -/
structure Snd where
  ct : Int
  cw : Int
  A : Option Addr
  c : Nat
  qs : List Part
  close : Bool
  crc : Bool
  phase : Int
  at_ : Nat
  tries : Int
  left : Int
  can : Bool
  err : Value
def sndC (g : Nat) (s : Snd) : Chunk := .own g 11 [.int .i64 s.ct, .int .i64 s.cw, .slice s.A s.qs.length s.c, .bool s.close, .bool s.crc, .int .i64 s.phase, .int .i64 (s.at_ : Int), .int .i64 s.tries, .int .i64 s.left, .bool s.can, s.err]
structure Snd.Blk (s : Snd) (W : World → Prop) : Prop where
  row : Shows W s.A s.qs.length 2 (bCells 0 s.qs)
  all : ShowsAll W s.qs
  cap : s.qs.length ≤ s.c
  num : ∀ p ∈ s.qs, U8s p.2.2 ∧ (p.2.2.length = 128 ∨ p.2.2.length = 1024)
theorem Snd.Blk.mono {s : Snd} {W W' : World → Prop} (h : s.Blk W) (hw : ∀ w, W' w → W w) : s.Blk W' := ⟨h.row.mono hw, h.all.mono hw, h.cap, h.num⟩
structure Snd.Fit0 (s : Snd) : Prop where
  many : s.qs.length ≤ 65535
  ct1 : 1 ≤ s.ct ∧ s.ct ≤ 9
  cw1 : 1 ≤ s.cw ∧ s.cw ≤ 99
  ph : 0 ≤ s.phase ∧ s.phase ≤ 3
  at1 : s.at_ ≤ s.qs.length
  tr : 1 ≤ s.tries ∧ s.tries ≤ 9
  lf : s.phase = 3 ∨ 1 ≤ s.left ∧ s.left ≤ 99
structure Snd.Fit (s : Snd) : Prop extends Snd.Fit0 s where
  dat : s.phase = 1 → s.at_ < s.qs.length
/-- the bytes of its block -/
def Snd.bytes (s : Snd) : List Int := match s.qs[s.at_]? with
  | some p => blockL (leadOf p.2.2.length) (((0 + s.at_ + 1) % 256 : Nat) : Int) p.2.2 s.crc
  | none => []
def Snd.now (s : Snd) : List Int := if s.phase = 1 then s.bytes else if s.phase = 2 then [4] else []
def Snd.next (s : Snd) : Snd := if s.at_ < s.qs.length then { s with tries := 1, left := s.cw, phase := 1 } else if s.close = true ∧ s.phase ≠ 2 then { s with tries := 1, left := s.cw, phase := 2 } else { s with tries := 1, left := s.cw, phase := 3, err := .nilIface }
def Snd.again (s : Snd) : Snd := if s.tries ≥ s.ct then { s with phase := 3, err := .iface 135 (.int .i64 10) } else { s with tries := s.tries + 1, left := s.cw }
def Snd.againOut (s : Snd) : List Int := if s.tries ≥ s.ct then [24, 24] else s.now
section
variable {w0 : World} {B : Nat} {X : List Chunk}
theorem TL_noU {P : Program} {n : Nat} {ops : Array Oper} {o : Oper} {rest : List Oper} {Q : Exit → Fr → List Chunk → Prop} {fr : Fr} {H : List Chunk} {j d : Nat} {b : Bool} (hg : o.guard = some (j, b)) (hj : (ops[j]?).bind (·.dst) = some d) (hd : fr.lookup d = some undef) (hdo : dOk n o.dst = true) (h : TL P w0 B n ops rest Q (frPut o.dst undef fr) H) : TL P w0 B n ops (o :: rest) Q fr H := by
  intro HX a w hf hr
  refine wpList_step fun K hK => ?_
  have e : yielded ops a.tmps j = none := by
    unfold yielded
    rw [hj, Option.bind_some, hf.slot d _ hd]
    rfl
  rw [if_neg (by simp [Region.wanted, hg, e])]
  exact hK _ _ (h HX _ w (hf.put hdo undef) hr)
/-- what is given back: bytes in a row of their own -/
def Gives (out : List Int) (c : Chunk) (X : List Chunk) (r : Value) (H' : List Chunk) : Prop := ∃ (A : Option Addr) (k : Nat), r = .slice A out.length k ∧ out.length ≤ k ∧ H' = .sl (.slice A out.length k) 1 out.length (nums .u8 out) :: c :: X
set_option maxRecDepth 100000 in
theorem t60 {g : Nat} (s : Snd) : TCall Try.prog w0 B 60 #[.pointer (some ⟨g, 0, none⟩)] (fun r H' => r = .int .i64 (s.at_ : Int) ∧ H' = sndC g s :: X) (sndC g s :: X) := by
  obtain ⟨ct, cw, A, c, qs, close, crc, phase, at_, tries, left, can, err⟩ := s
  refine TCall_intro (args := [_]) Try.func60 rfl Try.ntmps60 (Nat.le_of_ble_eq_true rfl) ?_
  refine T_seq ?_
  refine T_region ?_
  refine TL_pure (d := (some 2)) rfl rfl rfl (PV_assign rfl) ?_
  refine TL_nil ?_
  refine T_seq ?_
  refine T_region ?_
  refine TL_pure (d := (some 3)) rfl rfl rfl (PV_move rfl) ?_
  refine TL_pure (d := (some 4)) rfl rfl rfl (PV_nilCheck rfl) ?_
  refine TL_pure (d := (some 5)) rfl rfl rfl (PV_fieldAddr (D := 6) Try.underlying133 rfl sz3 (by decide) rfl rfl) ?_
  refine TL_pure (d := (some 6)) rfl rfl rfl (PV_load Try.underlying3 rfl rfl (by first | exact Rd.at 0 rfl rfl | exact Rd.at 1 rfl rfl | exact Rd.at 2 rfl rfl | exact Rd.at 3 rfl rfl | exact Rd.at 4 rfl rfl | exact Rd.at 5 rfl rfl | exact Rd.at 6 rfl rfl | exact Rd.at 7 rfl rfl | exact Rd.at 8 rfl rfl)) ?_
  refine TL_pure (d := (some 2)) rfl rfl rfl (PV_assign rfl) ?_
  refine TL_nil ?_
  refine T_ret ?_
  -- ('ret',)
  refine ⟨_, _, ?_, ResV_one rfl rfl, ⟨rfl, rfl⟩⟩
  repeat (first | exact List.Sublist.refl _ | apply List.Sublist.cons_cons | apply List.Sublist.cons)
set_option maxRecDepth 100000 in
theorem t61 {g : Nat} (s : Snd) : TCall Try.prog w0 B 61 #[.pointer (some ⟨g, 0, none⟩)] (fun r H' => r = .tuple #[.bool (s.phase == 3), s.err] ∧ H' = sndC g s :: X) (sndC g s :: X) := by
  obtain ⟨ct, cw, A, c, qs, close, crc, phase, at_, tries, left, can, err⟩ := s
  refine TCall_intro (args := [_]) Try.func61 rfl Try.ntmps61 (Nat.le_of_ble_eq_true rfl) ?_
  refine T_seq ?_
  refine T_region ?_
  refine TL_pure (d := (some 2)) rfl rfl rfl (PV_assign rfl) ?_
  refine TL_pure (d := (some 3)) rfl rfl rfl (PV_assign rfl) ?_
  refine TL_nil ?_
  refine T_seq ?_
  refine T_drawn (WH _ _ _) mixed (by intro w h; exact h) ?_
  refine TA_take (dd := (some 4)) 0 rfl (by kernel_rfl) (by kernel_rfl) (by kernel_rfl) rfl rfl rfl (PV_move rfl) ?_
  refine TA_take (dd := (some 5)) 1 rfl (by kernel_rfl) (by kernel_rfl) (by kernel_rfl) rfl rfl rfl (PV_nilCheck rfl) ?_
  refine TA_take (dd := (some 6)) 2 rfl (by kernel_rfl) (by kernel_rfl) (by kernel_rfl) rfl rfl rfl (PV_fieldAddr (D := 5) Try.underlying133 rfl sz131 (by decide) rfl rfl) ?_
  first | (refine TA_take (dd := (some 7)) 3 rfl (by kernel_rfl) (by kernel_rfl) (by kernel_rfl) rfl rfl rfl (PV_load Try.underlying131 rfl rfl (by first | exact Rd.at 0 rfl rfl | exact Rd.at 1 rfl rfl | exact Rd.at 2 rfl rfl | exact Rd.at 3 rfl rfl | exact Rd.at 4 rfl rfl | exact Rd.at 5 rfl rfl | exact Rd.at 6 rfl rfl | exact Rd.at 7 rfl rfl | exact Rd.at 8 rfl rfl)) ?_) | (refine TA_pure1 (dd := (some 7)) 3 (by kernel_rfl) rfl rfl rfl rfl (PV_load Try.underlying131 rfl rfl (by first | exact Rd.at 0 rfl rfl | exact Rd.at 1 rfl rfl | exact Rd.at 2 rfl rfl | exact Rd.at 3 rfl rfl | exact Rd.at 4 rfl rfl | exact Rd.at 5 rfl rfl | exact Rd.at 6 rfl rfl | exact Rd.at 7 rfl rfl | exact Rd.at 8 rfl rfl)) ?_)
  refine TA_take (dd := (some 8)) 4 rfl (by kernel_rfl) (by kernel_rfl) (by kernel_rfl) rfl rfl rfl (PV_bin rfl rfl bin_eql) ?_
  refine TA_take (dd := (some 9)) 5 rfl (by kernel_rfl) (by kernel_rfl) (by kernel_rfl) rfl rfl rfl (PV_move rfl) ?_
  refine TA_take (dd := (some 10)) 6 rfl (by kernel_rfl) (by kernel_rfl) (by kernel_rfl) rfl rfl rfl (PV_nilCheck rfl) ?_
  refine TA_take (dd := (some 11)) 7 rfl (by kernel_rfl) (by kernel_rfl) (by kernel_rfl) rfl rfl rfl (PV_fieldAddr (D := 10) Try.underlying133 rfl sz83 (by decide) rfl rfl) ?_
  first | (refine TA_take (dd := (some 12)) 8 rfl (by kernel_rfl) (by kernel_rfl) (by kernel_rfl) rfl rfl rfl (PV_load Try.underlying83 rfl rfl (by first | exact Rd.at 0 rfl rfl | exact Rd.at 1 rfl rfl | exact Rd.at 2 rfl rfl | exact Rd.at 3 rfl rfl | exact Rd.at 4 rfl rfl | exact Rd.at 5 rfl rfl | exact Rd.at 6 rfl rfl | exact Rd.at 7 rfl rfl | exact Rd.at 8 rfl rfl)) ?_) | (refine TA_pure1 (dd := (some 12)) 8 (by kernel_rfl) rfl rfl rfl rfl (PV_load Try.underlying83 rfl rfl (by first | exact Rd.at 0 rfl rfl | exact Rd.at 1 rfl rfl | exact Rd.at 2 rfl rfl | exact Rd.at 3 rfl rfl | exact Rd.at 4 rfl rfl | exact Rd.at 5 rfl rfl | exact Rd.at 6 rfl rfl | exact Rd.at 7 rfl rfl | exact Rd.at 8 rfl rfl)) ?_)
  refine TA_take (dd := (some 2)) 9 rfl (by kernel_rfl) (by kernel_rfl) (by kernel_rfl) rfl rfl rfl (PV_assign rfl) ?_
  refine TA_take (dd := (some 3)) 10 rfl (by kernel_rfl) (by kernel_rfl) (by kernel_rfl) rfl rfl rfl (PV_assign rfl) ?_
  refine TA_done (by kernel_rfl) ?_
  refine T_ret ?_
  -- ('ret',)
  refine ⟨_, _, ?_, ResV_two rfl rfl rfl, ⟨rfl, rfl⟩⟩
  repeat (first | exact List.Sublist.refl _ | apply List.Sublist.cons_cons | apply List.Sublist.cons)
set_option maxRecDepth 100000 in
theorem t90nil {g : Nat} (s : Snd) : TCall Try.prog w0 B 90 #[.pointer (some ⟨g, 0, none⟩), .nilIface] (fun r H' => Gives [] (sndC g { s with phase := 3, err := .nilIface }) X r H') (sndC g s :: X) := by
  obtain ⟨ct, cw, A, c, qs, close, crc, phase, at_, tries, left, can, err⟩ := s
  refine TCall_intro (args := [_, _]) Try.func90 rfl Try.ntmps90 (Nat.le_of_ble_eq_true rfl) ?_
  refine T_addNil 1 ?_
  refine T_seq ?_
  refine T_region ?_
  refine TL_pure (d := (some 4)) rfl rfl rfl (PV_assign rfl) ?_
  refine TL_nil ?_
  refine T_seq ?_
  refine T_region ?_
  refine TL_pure (d := (some 5)) rfl rfl rfl (PV_move rfl) ?_
  refine TL_pure (d := (some 6)) rfl rfl rfl (PV_move rfl) ?_
  refine TL_pure (d := (some 7)) rfl rfl rfl (PV_move rfl) ?_
  refine TL_pure (d := (some 8)) rfl rfl rfl (PV_nilCheck rfl) ?_
  refine TL_pure (d := (some 9)) rfl rfl rfl (PV_fieldAddr (D := 5) Try.underlying133 rfl sz131 (by decide) rfl rfl) ?_
  first | (refine TL_cons rfl (TO_store1 0 rfl rfl rfl sz131 rfl rfl rfl (by first | exact Nat.le_of_ble_eq_true rfl | (simp; done) | (simp; omega) | omega) ?_)) | (refine TL_cons rfl (TO_store1 1 rfl rfl rfl sz131 rfl rfl rfl (by first | exact Nat.le_of_ble_eq_true rfl | (simp; done) | (simp; omega) | omega) ?_)) | (refine TL_cons rfl (TO_store1 2 rfl rfl rfl sz131 rfl rfl rfl (by first | exact Nat.le_of_ble_eq_true rfl | (simp; done) | (simp; omega) | omega) ?_)) | (refine TL_cons rfl (TO_store1 3 rfl rfl rfl sz131 rfl rfl rfl (by first | exact Nat.le_of_ble_eq_true rfl | (simp; done) | (simp; omega) | omega) ?_)) | (refine TL_cons rfl (TO_store1 4 rfl rfl rfl sz131 rfl rfl rfl (by first | exact Nat.le_of_ble_eq_true rfl | (simp; done) | (simp; omega) | omega) ?_)) | (refine TL_cons rfl (TO_store1 5 rfl rfl rfl sz131 rfl rfl rfl (by first | exact Nat.le_of_ble_eq_true rfl | (simp; done) | (simp; omega) | omega) ?_)) | (refine TL_cons rfl (TO_store1 6 rfl rfl rfl sz131 rfl rfl rfl (by first | exact Nat.le_of_ble_eq_true rfl | (simp; done) | (simp; omega) | omega) ?_)) | (refine TL_cons rfl (TO_store1 7 rfl rfl rfl sz131 rfl rfl rfl (by first | exact Nat.le_of_ble_eq_true rfl | (simp; done) | (simp; omega) | omega) ?_)) | (refine TL_cons rfl (TO_store1 8 rfl rfl rfl sz131 rfl rfl rfl (by first | exact Nat.le_of_ble_eq_true rfl | (simp; done) | (simp; omega) | omega) ?_))
  refine TL_pure (d := (some 10)) rfl rfl rfl (PV_nilCheck rfl) ?_
  refine TL_pure (d := (some 11)) rfl rfl rfl (PV_fieldAddr (D := 10) Try.underlying133 rfl sz83 (by decide) rfl rfl) ?_
  first | (refine TL_cons rfl (TO_store1 0 rfl rfl rfl sz83 rfl rfl rfl (by first | exact Nat.le_of_ble_eq_true rfl | (simp; done) | (simp; omega) | omega) ?_)) | (refine TL_cons rfl (TO_store1 1 rfl rfl rfl sz83 rfl rfl rfl (by first | exact Nat.le_of_ble_eq_true rfl | (simp; done) | (simp; omega) | omega) ?_)) | (refine TL_cons rfl (TO_store1 2 rfl rfl rfl sz83 rfl rfl rfl (by first | exact Nat.le_of_ble_eq_true rfl | (simp; done) | (simp; omega) | omega) ?_)) | (refine TL_cons rfl (TO_store1 3 rfl rfl rfl sz83 rfl rfl rfl (by first | exact Nat.le_of_ble_eq_true rfl | (simp; done) | (simp; omega) | omega) ?_)) | (refine TL_cons rfl (TO_store1 4 rfl rfl rfl sz83 rfl rfl rfl (by first | exact Nat.le_of_ble_eq_true rfl | (simp; done) | (simp; omega) | omega) ?_)) | (refine TL_cons rfl (TO_store1 5 rfl rfl rfl sz83 rfl rfl rfl (by first | exact Nat.le_of_ble_eq_true rfl | (simp; done) | (simp; omega) | omega) ?_)) | (refine TL_cons rfl (TO_store1 6 rfl rfl rfl sz83 rfl rfl rfl (by first | exact Nat.le_of_ble_eq_true rfl | (simp; done) | (simp; omega) | omega) ?_)) | (refine TL_cons rfl (TO_store1 7 rfl rfl rfl sz83 rfl rfl rfl (by first | exact Nat.le_of_ble_eq_true rfl | (simp; done) | (simp; omega) | omega) ?_)) | (refine TL_cons rfl (TO_store1 8 rfl rfl rfl sz83 rfl rfl rfl (by first | exact Nat.le_of_ble_eq_true rfl | (simp; done) | (simp; omega) | omega) ?_))
  refine TL_nil ?_
  refine T_seq ?_
  refine T_seq ?_
  refine T_region ?_
  refine TL_pure (d := (some 12)) rfl rfl rfl (PV_move rfl) ?_
  refine TL_pure (d := (some 13)) rfl rfl rfl (PV_makeInterface (by kernel_rfl) rfl) ?_
  first | (refine TL_pure (d := (some 14)) rfl rfl rfl (PV_bin rfl rfl (bin_nil_nil Try.underlying83)) ?_) | (refine TL_pure (d := (some 14)) rfl rfl rfl (PV_bin rfl rfl (bin_if_nil Try.underlying83)) ?_) | (refine TL_pure (d := (some 14)) rfl rfl rfl (PV_bin rfl rfl (bin_nil_if Try.underlying83)) ?_) | (refine TL_pure (d := (some 14)) rfl rfl rfl (PV_bin rfl rfl (bin_if_if Try.underlying83 (by first | exact Try.underlying135 | exact Try.underlying83) (by kernel_rfl))) ?_)
  refine TL_nil ?_
  -- IF t14
  refine T_else rfl (by rfl) ?_
  refine T_skip ?_
  refine T_seq ?_
  refine T_region ?_
  refine TL_pure (d := (some 4)) rfl rfl rfl (PV_assign rfl) ?_
  refine TL_nil ?_
  refine T_ret ?_
  -- ('ret',)
  refine ⟨_, _, ?_, ResV_one rfl rfl, ⟨none, 0, rfl, Nat.le_refl _, rfl⟩⟩
  repeat (first | exact List.Sublist.refl _ | apply List.Sublist.cons_cons | apply List.Sublist.cons)
set_option maxRecDepth 100000 in
theorem t90if {g : Nat} (s : Snd) (e : Int) (he : e ≠ 10) : TCall Try.prog w0 B 90 #[.pointer (some ⟨g, 0, none⟩), .iface 135 (.int .i64 e)] (fun r H' => Gives [] (sndC g { s with phase := 3, err := .iface 135 (.int .i64 e) }) X r H') (sndC g s :: X) := by
  obtain ⟨ct, cw, A, c, qs, close, crc, phase, at_, tries, left, can, err⟩ := s
  refine TCall_intro (args := [_, _]) Try.func90 rfl Try.ntmps90 (Nat.le_of_ble_eq_true rfl) ?_
  refine T_addNil 1 ?_
  refine T_seq ?_
  refine T_region ?_
  refine TL_pure (d := (some 4)) rfl rfl rfl (PV_assign rfl) ?_
  refine TL_nil ?_
  refine T_seq ?_
  refine T_region ?_
  refine TL_pure (d := (some 5)) rfl rfl rfl (PV_move rfl) ?_
  refine TL_pure (d := (some 6)) rfl rfl rfl (PV_move rfl) ?_
  refine TL_pure (d := (some 7)) rfl rfl rfl (PV_move rfl) ?_
  refine TL_pure (d := (some 8)) rfl rfl rfl (PV_nilCheck rfl) ?_
  refine TL_pure (d := (some 9)) rfl rfl rfl (PV_fieldAddr (D := 5) Try.underlying133 rfl sz131 (by decide) rfl rfl) ?_
  first | (refine TL_cons rfl (TO_store1 0 rfl rfl rfl sz131 rfl rfl rfl (by first | exact Nat.le_of_ble_eq_true rfl | (simp; done) | (simp; omega) | omega) ?_)) | (refine TL_cons rfl (TO_store1 1 rfl rfl rfl sz131 rfl rfl rfl (by first | exact Nat.le_of_ble_eq_true rfl | (simp; done) | (simp; omega) | omega) ?_)) | (refine TL_cons rfl (TO_store1 2 rfl rfl rfl sz131 rfl rfl rfl (by first | exact Nat.le_of_ble_eq_true rfl | (simp; done) | (simp; omega) | omega) ?_)) | (refine TL_cons rfl (TO_store1 3 rfl rfl rfl sz131 rfl rfl rfl (by first | exact Nat.le_of_ble_eq_true rfl | (simp; done) | (simp; omega) | omega) ?_)) | (refine TL_cons rfl (TO_store1 4 rfl rfl rfl sz131 rfl rfl rfl (by first | exact Nat.le_of_ble_eq_true rfl | (simp; done) | (simp; omega) | omega) ?_)) | (refine TL_cons rfl (TO_store1 5 rfl rfl rfl sz131 rfl rfl rfl (by first | exact Nat.le_of_ble_eq_true rfl | (simp; done) | (simp; omega) | omega) ?_)) | (refine TL_cons rfl (TO_store1 6 rfl rfl rfl sz131 rfl rfl rfl (by first | exact Nat.le_of_ble_eq_true rfl | (simp; done) | (simp; omega) | omega) ?_)) | (refine TL_cons rfl (TO_store1 7 rfl rfl rfl sz131 rfl rfl rfl (by first | exact Nat.le_of_ble_eq_true rfl | (simp; done) | (simp; omega) | omega) ?_)) | (refine TL_cons rfl (TO_store1 8 rfl rfl rfl sz131 rfl rfl rfl (by first | exact Nat.le_of_ble_eq_true rfl | (simp; done) | (simp; omega) | omega) ?_))
  refine TL_pure (d := (some 10)) rfl rfl rfl (PV_nilCheck rfl) ?_
  refine TL_pure (d := (some 11)) rfl rfl rfl (PV_fieldAddr (D := 10) Try.underlying133 rfl sz83 (by decide) rfl rfl) ?_
  first | (refine TL_cons rfl (TO_store1 0 rfl rfl rfl sz83 rfl rfl rfl (by first | exact Nat.le_of_ble_eq_true rfl | (simp; done) | (simp; omega) | omega) ?_)) | (refine TL_cons rfl (TO_store1 1 rfl rfl rfl sz83 rfl rfl rfl (by first | exact Nat.le_of_ble_eq_true rfl | (simp; done) | (simp; omega) | omega) ?_)) | (refine TL_cons rfl (TO_store1 2 rfl rfl rfl sz83 rfl rfl rfl (by first | exact Nat.le_of_ble_eq_true rfl | (simp; done) | (simp; omega) | omega) ?_)) | (refine TL_cons rfl (TO_store1 3 rfl rfl rfl sz83 rfl rfl rfl (by first | exact Nat.le_of_ble_eq_true rfl | (simp; done) | (simp; omega) | omega) ?_)) | (refine TL_cons rfl (TO_store1 4 rfl rfl rfl sz83 rfl rfl rfl (by first | exact Nat.le_of_ble_eq_true rfl | (simp; done) | (simp; omega) | omega) ?_)) | (refine TL_cons rfl (TO_store1 5 rfl rfl rfl sz83 rfl rfl rfl (by first | exact Nat.le_of_ble_eq_true rfl | (simp; done) | (simp; omega) | omega) ?_)) | (refine TL_cons rfl (TO_store1 6 rfl rfl rfl sz83 rfl rfl rfl (by first | exact Nat.le_of_ble_eq_true rfl | (simp; done) | (simp; omega) | omega) ?_)) | (refine TL_cons rfl (TO_store1 7 rfl rfl rfl sz83 rfl rfl rfl (by first | exact Nat.le_of_ble_eq_true rfl | (simp; done) | (simp; omega) | omega) ?_)) | (refine TL_cons rfl (TO_store1 8 rfl rfl rfl sz83 rfl rfl rfl (by first | exact Nat.le_of_ble_eq_true rfl | (simp; done) | (simp; omega) | omega) ?_))
  refine TL_nil ?_
  refine T_seq ?_
  refine T_seq ?_
  refine T_region ?_
  refine TL_pure (d := (some 12)) rfl rfl rfl (PV_move rfl) ?_
  refine TL_pure (d := (some 13)) rfl rfl rfl (PV_makeInterface (by kernel_rfl) rfl) ?_
  first | (refine TL_pure (d := (some 14)) rfl rfl rfl (PV_bin rfl rfl (bin_nil_nil Try.underlying83)) ?_) | (refine TL_pure (d := (some 14)) rfl rfl rfl (PV_bin rfl rfl (bin_if_nil Try.underlying83)) ?_) | (refine TL_pure (d := (some 14)) rfl rfl rfl (PV_bin rfl rfl (bin_nil_if Try.underlying83)) ?_) | (refine TL_pure (d := (some 14)) rfl rfl rfl (PV_bin rfl rfl (bin_if_if Try.underlying83 (by first | exact Try.underlying135 | exact Try.underlying83) (by kernel_rfl))) ?_)
  refine TL_nil ?_
  -- IF t14
  refine T_else rfl (by simpa using he) ?_
  refine T_skip ?_
  refine T_seq ?_
  refine T_region ?_
  refine TL_pure (d := (some 4)) rfl rfl rfl (PV_assign rfl) ?_
  refine TL_nil ?_
  refine T_ret ?_
  -- ('ret',)
  refine ⟨_, _, ?_, ResV_one rfl rfl, ⟨none, 0, rfl, Nat.le_refl _, rfl⟩⟩
  repeat (first | exact List.Sublist.refl _ | apply List.Sublist.cons_cons | apply List.Sublist.cons)
set_option maxRecDepth 100000 in
theorem t90tries {g : Nat} (s : Snd) : TCall Try.prog w0 B 90 #[.pointer (some ⟨g, 0, none⟩), .iface 135 (.int .i64 10)] (fun r H' => Gives [24, 24] (sndC g { s with phase := 3, err := .iface 135 (.int .i64 10) }) X r H') (sndC g s :: X) := by
  obtain ⟨ct, cw, A, c, qs, close, crc, phase, at_, tries, left, can, err⟩ := s
  refine TCall_intro (args := [_, _]) Try.func90 rfl Try.ntmps90 (Nat.le_of_ble_eq_true rfl) ?_
  refine T_seq ?_
  refine T_region ?_
  refine TL_pure (d := (some 4)) rfl rfl rfl (PV_assign rfl) ?_
  refine TL_nil ?_
  refine T_seq ?_
  refine T_region ?_
  refine TL_pure (d := (some 5)) rfl rfl rfl (PV_move rfl) ?_
  refine TL_pure (d := (some 6)) rfl rfl rfl (PV_move rfl) ?_
  refine TL_pure (d := (some 7)) rfl rfl rfl (PV_move rfl) ?_
  refine TL_pure (d := (some 8)) rfl rfl rfl (PV_nilCheck rfl) ?_
  refine TL_pure (d := (some 9)) rfl rfl rfl (PV_fieldAddr (D := 5) Try.underlying133 rfl sz131 (by decide) rfl rfl) ?_
  first | (refine TL_cons rfl (TO_store1 0 rfl rfl rfl sz131 rfl rfl rfl (by first | exact Nat.le_of_ble_eq_true rfl | (simp; done) | (simp; omega) | omega) ?_)) | (refine TL_cons rfl (TO_store1 1 rfl rfl rfl sz131 rfl rfl rfl (by first | exact Nat.le_of_ble_eq_true rfl | (simp; done) | (simp; omega) | omega) ?_)) | (refine TL_cons rfl (TO_store1 2 rfl rfl rfl sz131 rfl rfl rfl (by first | exact Nat.le_of_ble_eq_true rfl | (simp; done) | (simp; omega) | omega) ?_)) | (refine TL_cons rfl (TO_store1 3 rfl rfl rfl sz131 rfl rfl rfl (by first | exact Nat.le_of_ble_eq_true rfl | (simp; done) | (simp; omega) | omega) ?_)) | (refine TL_cons rfl (TO_store1 4 rfl rfl rfl sz131 rfl rfl rfl (by first | exact Nat.le_of_ble_eq_true rfl | (simp; done) | (simp; omega) | omega) ?_)) | (refine TL_cons rfl (TO_store1 5 rfl rfl rfl sz131 rfl rfl rfl (by first | exact Nat.le_of_ble_eq_true rfl | (simp; done) | (simp; omega) | omega) ?_)) | (refine TL_cons rfl (TO_store1 6 rfl rfl rfl sz131 rfl rfl rfl (by first | exact Nat.le_of_ble_eq_true rfl | (simp; done) | (simp; omega) | omega) ?_)) | (refine TL_cons rfl (TO_store1 7 rfl rfl rfl sz131 rfl rfl rfl (by first | exact Nat.le_of_ble_eq_true rfl | (simp; done) | (simp; omega) | omega) ?_)) | (refine TL_cons rfl (TO_store1 8 rfl rfl rfl sz131 rfl rfl rfl (by first | exact Nat.le_of_ble_eq_true rfl | (simp; done) | (simp; omega) | omega) ?_))
  refine TL_pure (d := (some 10)) rfl rfl rfl (PV_nilCheck rfl) ?_
  refine TL_pure (d := (some 11)) rfl rfl rfl (PV_fieldAddr (D := 10) Try.underlying133 rfl sz83 (by decide) rfl rfl) ?_
  first | (refine TL_cons rfl (TO_store1 0 rfl rfl rfl sz83 rfl rfl rfl (by first | exact Nat.le_of_ble_eq_true rfl | (simp; done) | (simp; omega) | omega) ?_)) | (refine TL_cons rfl (TO_store1 1 rfl rfl rfl sz83 rfl rfl rfl (by first | exact Nat.le_of_ble_eq_true rfl | (simp; done) | (simp; omega) | omega) ?_)) | (refine TL_cons rfl (TO_store1 2 rfl rfl rfl sz83 rfl rfl rfl (by first | exact Nat.le_of_ble_eq_true rfl | (simp; done) | (simp; omega) | omega) ?_)) | (refine TL_cons rfl (TO_store1 3 rfl rfl rfl sz83 rfl rfl rfl (by first | exact Nat.le_of_ble_eq_true rfl | (simp; done) | (simp; omega) | omega) ?_)) | (refine TL_cons rfl (TO_store1 4 rfl rfl rfl sz83 rfl rfl rfl (by first | exact Nat.le_of_ble_eq_true rfl | (simp; done) | (simp; omega) | omega) ?_)) | (refine TL_cons rfl (TO_store1 5 rfl rfl rfl sz83 rfl rfl rfl (by first | exact Nat.le_of_ble_eq_true rfl | (simp; done) | (simp; omega) | omega) ?_)) | (refine TL_cons rfl (TO_store1 6 rfl rfl rfl sz83 rfl rfl rfl (by first | exact Nat.le_of_ble_eq_true rfl | (simp; done) | (simp; omega) | omega) ?_)) | (refine TL_cons rfl (TO_store1 7 rfl rfl rfl sz83 rfl rfl rfl (by first | exact Nat.le_of_ble_eq_true rfl | (simp; done) | (simp; omega) | omega) ?_)) | (refine TL_cons rfl (TO_store1 8 rfl rfl rfl sz83 rfl rfl rfl (by first | exact Nat.le_of_ble_eq_true rfl | (simp; done) | (simp; omega) | omega) ?_))
  refine TL_nil ?_
  refine T_seq ?_
  refine T_seq ?_
  refine T_region ?_
  refine TL_pure (d := (some 12)) rfl rfl rfl (PV_move rfl) ?_
  refine TL_pure (d := (some 13)) rfl rfl rfl (PV_makeInterface (by kernel_rfl) rfl) ?_
  first | (refine TL_pure (d := (some 14)) rfl rfl rfl (PV_bin rfl rfl (bin_nil_nil Try.underlying83)) ?_) | (refine TL_pure (d := (some 14)) rfl rfl rfl (PV_bin rfl rfl (bin_if_nil Try.underlying83)) ?_) | (refine TL_pure (d := (some 14)) rfl rfl rfl (PV_bin rfl rfl (bin_nil_if Try.underlying83)) ?_) | (refine TL_pure (d := (some 14)) rfl rfl rfl (PV_bin rfl rfl (bin_if_if Try.underlying83 (by first | exact Try.underlying135 | exact Try.underlying83) (by kernel_rfl))) ?_)
  refine TL_nil ?_
  -- IF t14
  refine T_then rfl (by rfl) ?_
  refine T_seq ?_
  refine T_region ?_
  -- op 15 buildSlice 23 2 [(0 cu8:24) (1 cu8:24)]
  refine TL_cons rfl (TO_buildSlice (cells := #[.int .u8 24, .int .u8 24]) Try.underlying23 zs5 (by decide) rfl rfl rfl (by kernel_rfl) rfl fun g15 => ?_)
  refine TL_pure (d := (some 4)) rfl rfl rfl (PV_assign rfl) ?_
  refine TL_nil ?_
  refine T_ret ?_
  -- ('ret',)
  refine ⟨_, _, ?_, ResV_one rfl rfl, ⟨_, 2, rfl, Nat.le_refl _, rfl⟩⟩
  repeat (first | exact List.Sublist.refl _ | apply List.Sublist.cons_cons | apply List.Sublist.cons)
-- MORE
set_option maxRecDepth 100000 in
theorem t101data {g : Nat} (s : Snd) (hF : s.Fit) (hB : s.Blk (WH w0 B X)) (h1 : s.phase = 1) : TCall Try.prog w0 B 101 #[.pointer (some ⟨g, 0, none⟩)] (fun r H' => Gives s.bytes (sndC g s) X r H') (sndC g s :: X) := by
  obtain ⟨ct, cw, A, c, qs, close, crc, phase, at_, tries, left, can, err⟩ := s
  have hat := hF.dat h1
  have hrow := hB.row
  have hall := hB.all
  have hcap := hB.cap
  have hnum := hB.num
  have hmany := hF.many
  dsimp only at h1 hat hrow hall hcap hnum hmany
  subst h1
  obtain ⟨p, hp⟩ : ∃ p, qs[at_]? = some p := ⟨qs[at_], List.getElem?_eq_getElem hat⟩
  have hpm := List.mem_of_getElem? hp
  have hout : Snd.bytes ⟨ct, cw, A, c, qs, close, crc, 1, at_, tries, left, can, err⟩ = blockL (leadOf p.2.2.length) (((0 + at_ + 1) % 256 : Nat) : Int) p.2.2 crc := by
    unfold Snd.bytes
    dsimp only
    rw [hp]
  simp only [hout]
  have hbc := bCells_get 0 qs at_ p hp
  have hpS := (hall p hpm).1
  have hpC := (hall p hpm).2
  have hpU := hnum p hpm
  obtain ⟨Ap, cp, xs⟩ := p
  refine TCall_intro (args := [_]) Try.func101 rfl Try.ntmps101 (Nat.le_of_ble_eq_true rfl) ?_
  refine T_seq ?_
  refine T_region ?_
  refine TL_pure (d := (some 2)) rfl rfl rfl (PV_assign rfl) ?_
  refine TL_nil ?_
  refine T_seq ?_
  refine T_seq ?_
  refine T_region ?_
  refine TL_pure (d := (some 5)) rfl rfl rfl (PV_move rfl) ?_
  refine TL_pure (d := (some 6)) rfl rfl rfl (PV_nilCheck rfl) ?_
  refine TL_pure (d := (some 7)) rfl rfl rfl (PV_fieldAddr (D := 5) Try.underlying133 rfl sz131 (by decide) rfl rfl) ?_
  refine TL_pure (d := (some 8)) rfl rfl rfl (PV_load Try.underlying131 rfl rfl (by first | exact Rd.at 0 rfl rfl | exact Rd.at 1 rfl rfl | exact Rd.at 2 rfl rfl | exact Rd.at 3 rfl rfl | exact Rd.at 4 rfl rfl | exact Rd.at 5 rfl rfl | exact Rd.at 6 rfl rfl | exact Rd.at 7 rfl rfl | exact Rd.at 8 rfl rfl)) ?_
  refine TL_nil ?_
  refine T_block ?_
  refine T_seq ?_
  refine T_region ?_
  refine TL_pure (d := (some 10)) rfl rfl rfl (PV_bin rfl rfl bin_eql) ?_
  refine TL_pure (d := (some 9)) rfl rfl rfl (PV_assign rfl) ?_
  refine TL_nil ?_
  -- IF t9
  refine T_then rfl (by rfl) ?_
  refine T_shows (hrow.mono fun w h => h.tl) (by rw [bCells_len]; omega) fun g' off hA hrd => ?_
  subst hA
  have hg0 := hrd _ _ hbc.1
  have hg1 := hrd _ _ hbc.2
  have hds : RdsK (WH w0 B (sndC g ⟨ct, cw, some ⟨g', off, none⟩, c, qs, close, crc, 1, at_, tries, left, can, err⟩ :: X)) g' (off + at_ * 2) 2 [.int .u8 (((0 + at_ + 1) % 256 : Nat) : Int), .slice Ap xs.length cp] := by
    refine ⟨rfl, fun j v hj => ?_⟩
    rw [add_plain']
    match j, hj with
    | 0, hj => cases hj; exact hg0
    | 1, hj => cases hj; exact hg1
  refine T_seq ?_
  refine T_drawn (WH _ _ _) mixed (by intro w h; exact h) ?_
  refine TA_take (dd := (some 12)) 0 rfl (by kernel_rfl) (by kernel_rfl) (by kernel_rfl) rfl rfl rfl (PV_move rfl) ?_
  refine TA_take (dd := (some 13)) 1 rfl (by kernel_rfl) (by kernel_rfl) (by kernel_rfl) rfl rfl rfl (PV_nilCheck rfl) ?_
  refine TA_take (dd := (some 14)) 2 rfl (by kernel_rfl) (by kernel_rfl) (by kernel_rfl) rfl rfl rfl (PV_fieldAddr (D := 2) Try.underlying133 rfl sz69 (by decide) rfl rfl) ?_
  first | (refine TA_take (dd := (some 15)) 3 rfl (by kernel_rfl) (by kernel_rfl) (by kernel_rfl) rfl rfl rfl (PV_load Try.underlying69 rfl rfl (by first | exact Rd.at 0 rfl rfl | exact Rd.at 1 rfl rfl | exact Rd.at 2 rfl rfl | exact Rd.at 3 rfl rfl | exact Rd.at 4 rfl rfl | exact Rd.at 5 rfl rfl | exact Rd.at 6 rfl rfl | exact Rd.at 7 rfl rfl | exact Rd.at 8 rfl rfl)) ?_) | (refine TA_pure1 (dd := (some 15)) 3 (by kernel_rfl) rfl rfl rfl rfl (PV_load Try.underlying69 rfl rfl (by first | exact Rd.at 0 rfl rfl | exact Rd.at 1 rfl rfl | exact Rd.at 2 rfl rfl | exact Rd.at 3 rfl rfl | exact Rd.at 4 rfl rfl | exact Rd.at 5 rfl rfl | exact Rd.at 6 rfl rfl | exact Rd.at 7 rfl rfl | exact Rd.at 8 rfl rfl)) ?_)
  refine TA_take (dd := (some 16)) 4 rfl (by kernel_rfl) (by kernel_rfl) (by kernel_rfl) rfl rfl rfl (PV_move rfl) ?_
  refine TA_take (dd := (some 17)) 5 rfl (by kernel_rfl) (by kernel_rfl) (by kernel_rfl) rfl rfl rfl (PV_nilCheck rfl) ?_
  refine TA_take (dd := (some 18)) 6 rfl (by kernel_rfl) (by kernel_rfl) (by kernel_rfl) rfl rfl rfl (PV_fieldAddr (D := 6) Try.underlying133 rfl sz3 (by decide) rfl rfl) ?_
  first | (refine TA_take (dd := (some 19)) 7 rfl (by kernel_rfl) (by kernel_rfl) (by kernel_rfl) rfl rfl rfl (PV_load Try.underlying3 rfl rfl (by first | exact Rd.at 0 rfl rfl | exact Rd.at 1 rfl rfl | exact Rd.at 2 rfl rfl | exact Rd.at 3 rfl rfl | exact Rd.at 4 rfl rfl | exact Rd.at 5 rfl rfl | exact Rd.at 6 rfl rfl | exact Rd.at 7 rfl rfl | exact Rd.at 8 rfl rfl)) ?_) | (refine TA_pure1 (dd := (some 19)) 7 (by kernel_rfl) rfl rfl rfl rfl (PV_load Try.underlying3 rfl rfl (by first | exact Rd.at 0 rfl rfl | exact Rd.at 1 rfl rfl | exact Rd.at 2 rfl rfl | exact Rd.at 3 rfl rfl | exact Rd.at 4 rfl rfl | exact Rd.at 5 rfl rfl | exact Rd.at 6 rfl rfl | exact Rd.at 7 rfl rfl | exact Rd.at 8 rfl rfl)) ?_)
  refine TA_take (dd := (some 20)) 8 rfl (by kernel_rfl) (by kernel_rfl) (by kernel_rfl) rfl rfl rfl (PV_indexAddr Try.underlying69 sz58 rfl rfl rfl (by first | omega | decide | assumption)) ?_
  first | (refine TA_take (dd := (some 21)) 9 rfl (by kernel_rfl) (by kernel_rfl) (by kernel_rfl) rfl rfl rfl (PV_loadAt Try.underlying58 rfl sz58 rfl hds) ?_) | (refine TA_pure1 (dd := (some 21)) 9 (by kernel_rfl) rfl rfl rfl rfl (PV_loadAt Try.underlying58 rfl sz58 rfl hds) ?_)
  refine TA_take (dd := (some 22)) 10 rfl (by kernel_rfl) (by kernel_rfl) (by kernel_rfl) rfl rfl rfl (PV_move rfl) ?_
  refine TA_take (dd := (some 23)) 11 rfl (by kernel_rfl) (by kernel_rfl) (by kernel_rfl) rfl rfl rfl (PV_nilCheck rfl) ?_
  refine TA_take (dd := (some 24)) 12 rfl (by kernel_rfl) (by kernel_rfl) (by kernel_rfl) rfl rfl rfl (PV_fieldAddr (D := 4) Try.underlying133 rfl sz4 (by decide) rfl rfl) ?_
  first | (refine TA_take (dd := (some 25)) 13 rfl (by kernel_rfl) (by kernel_rfl) (by kernel_rfl) rfl rfl rfl (PV_load Try.underlying4 rfl rfl (by first | exact Rd.at 0 rfl rfl | exact Rd.at 1 rfl rfl | exact Rd.at 2 rfl rfl | exact Rd.at 3 rfl rfl | exact Rd.at 4 rfl rfl | exact Rd.at 5 rfl rfl | exact Rd.at 6 rfl rfl | exact Rd.at 7 rfl rfl | exact Rd.at 8 rfl rfl)) ?_) | (refine TA_pure1 (dd := (some 25)) 13 (by kernel_rfl) rfl rfl rfl rfl (PV_load Try.underlying4 rfl rfl (by first | exact Rd.at 0 rfl rfl | exact Rd.at 1 rfl rfl | exact Rd.at 2 rfl rfl | exact Rd.at 3 rfl rfl | exact Rd.at 4 rfl rfl | exact Rd.at 5 rfl rfl | exact Rd.at 6 rfl rfl | exact Rd.at 7 rfl rfl | exact Rd.at 8 rfl rfl)) ?_)
  -- dop 14 26 call F49(t21, t25)
  refine TA_one 14 (by kernel_rfl) rfl rfl (TO_call0 call49 rfl rfl (t49 crc (hpS.mono fun w h => h.tl) hpU.2 hpC hpU.1 (by omega)) ?_)
  rintro v26 H26 ⟨A26, k26, rfl, hk26, rfl⟩
  refine ⟨by intro w h; first | exact h | exact h.tl | exact h.tl.tl, ?_⟩
  refine TA_take (dd := (some 11)) 15 rfl (by kernel_rfl) (by kernel_rfl) (by kernel_rfl) rfl rfl rfl (PV_move rfl) ?_
  refine TA_take (dd := (some 27)) 16 rfl (by kernel_rfl) (by kernel_rfl) (by kernel_rfl) rfl rfl rfl (PV_extract rfl rfl) ?_
  refine TA_take (dd := (some 28)) 17 rfl (by kernel_rfl) (by kernel_rfl) (by kernel_rfl) rfl rfl rfl (PV_extract rfl rfl) ?_
  refine TA_take (dd := (some 3)) 18 rfl (by kernel_rfl) (by kernel_rfl) (by kernel_rfl) rfl rfl rfl (PV_assign rfl) ?_
  refine TA_take (dd := (some 4)) 19 rfl (by kernel_rfl) (by kernel_rfl) (by kernel_rfl) rfl rfl rfl (PV_assign rfl) ?_
  refine TA_done (by kernel_rfl) ?_
  refine T_seq ?_
  refine T_seq ?_
  refine T_region ?_
  refine TL_pure (d := (some 29)) rfl rfl rfl (PV_move rfl) ?_
  refine TL_pure (d := (some 30)) rfl rfl rfl (PV_not rfl) ?_
  refine TL_nil ?_
  -- IF t30
  refine T_else rfl (by rfl) ?_
  refine T_skip ?_
  refine T_seq ?_
  refine T_region ?_
  refine TL_pure (d := (some 34)) rfl rfl rfl (PV_move rfl) ?_
  refine TL_pure (d := (some 2)) rfl rfl rfl (PV_assign rfl) ?_
  refine TL_nil ?_
  refine T_ret ?_
  -- ('ret',)
  refine ⟨_, _, ?_, ResV_one rfl rfl, ⟨A26, k26, rfl, hk26, rfl⟩⟩
  repeat (first | exact List.Sublist.refl _ | apply List.Sublist.cons_cons | apply List.Sublist.cons)
set_option maxRecDepth 100000 in
theorem t101eot {g : Nat} (s : Snd) (h1 : s.phase = 2) : TCall Try.prog w0 B 101 #[.pointer (some ⟨g, 0, none⟩)] (fun r H' => Gives [4] (sndC g s) X r H') (sndC g s :: X) := by
  obtain ⟨ct, cw, A, c, qs, close, crc, phase, at_, tries, left, can, err⟩ := s
  dsimp only at h1
  subst h1
  refine TCall_intro (args := [_]) Try.func101 rfl Try.ntmps101 (Nat.le_of_ble_eq_true rfl) ?_
  refine T_seq ?_
  refine T_region ?_
  refine TL_pure (d := (some 2)) rfl rfl rfl (PV_assign rfl) ?_
  refine TL_nil ?_
  refine T_seq ?_
  refine T_seq ?_
  refine T_region ?_
  refine TL_pure (d := (some 5)) rfl rfl rfl (PV_move rfl) ?_
  refine TL_pure (d := (some 6)) rfl rfl rfl (PV_nilCheck rfl) ?_
  refine TL_pure (d := (some 7)) rfl rfl rfl (PV_fieldAddr (D := 5) Try.underlying133 rfl sz131 (by decide) rfl rfl) ?_
  refine TL_pure (d := (some 8)) rfl rfl rfl (PV_load Try.underlying131 rfl rfl (by first | exact Rd.at 0 rfl rfl | exact Rd.at 1 rfl rfl | exact Rd.at 2 rfl rfl | exact Rd.at 3 rfl rfl | exact Rd.at 4 rfl rfl | exact Rd.at 5 rfl rfl | exact Rd.at 6 rfl rfl | exact Rd.at 7 rfl rfl | exact Rd.at 8 rfl rfl)) ?_
  refine TL_nil ?_
  refine T_block ?_
  refine T_seq ?_
  refine T_region ?_
  refine TL_pure (d := (some 10)) rfl rfl rfl (PV_bin rfl rfl bin_eql) ?_
  refine TL_pure (d := (some 9)) rfl rfl rfl (PV_assign rfl) ?_
  refine TL_nil ?_
  -- IF t9
  refine T_else rfl (by rfl) ?_
  refine T_seq ?_
  refine T_region ?_
  refine TL_pure (d := (some 36)) rfl rfl rfl (PV_bin rfl rfl bin_eql) ?_
  refine TL_pure (d := (some 35)) rfl rfl rfl (PV_assign rfl) ?_
  refine TL_nil ?_
  -- IF t35
  refine T_then rfl (by rfl) ?_
  refine T_seq ?_
  refine T_region ?_
  -- op 37 buildSlice 23 1 [(0 cu8:4)]
  refine TL_cons rfl (TO_buildSlice (cells := #[.int .u8 4]) Try.underlying23 zs5 (by decide) rfl rfl rfl (by kernel_rfl) rfl fun g37 => ?_)
  refine TL_pure (d := (some 2)) rfl rfl rfl (PV_assign rfl) ?_
  refine TL_nil ?_
  refine T_ret ?_
  -- ('ret',)
  refine ⟨_, _, ?_, ResV_one rfl rfl, ⟨_, 1, rfl, Nat.le_refl _, rfl⟩⟩
  repeat (first | exact List.Sublist.refl _ | apply List.Sublist.cons_cons | apply List.Sublist.cons)
theorem t101 {g : Nat} (s : Snd) (hF : s.Fit) (hB : s.Blk (WH w0 B X)) (h12 : s.phase = 1 ∨ s.phase = 2) : TCall Try.prog w0 B 101 #[.pointer (some ⟨g, 0, none⟩)] (fun r H' => Gives s.now (sndC g s) X r H') (sndC g s :: X) := by
  unfold Snd.now
  rcases h12 with h1 | h1
  · rw [if_pos h1]; exact t101data s hF hB h1
  · rw [if_neg (by omega), if_pos h1]; exact t101eot s h1
theorem Snd.Fit0.next {s : Snd} (h : s.Fit0) : s.next.Fit := by
  have h2 := h.cw1
  unfold Snd.next
  split
  · exact ⟨⟨h.many, h.ct1, h.cw1, ⟨by show (0 : Int) ≤ 1; decide, by show (1 : Int) ≤ 3; decide⟩, h.at1, ⟨by show (1 : Int) ≤ 1; decide, by show (1 : Int) ≤ 9; decide⟩, Or.inr h2⟩, fun _ => by assumption⟩
  · split
    · exact ⟨⟨h.many, h.ct1, h.cw1, ⟨by show (0 : Int) ≤ 2; decide, by show (2 : Int) ≤ 3; decide⟩, h.at1, ⟨by show (1 : Int) ≤ 1; decide, by show (1 : Int) ≤ 9; decide⟩, Or.inr h2⟩, fun e => by exact absurd (show (2 : Int) = 1 from e) (by decide)⟩
    · exact ⟨⟨h.many, h.ct1, h.cw1, ⟨by show (0 : Int) ≤ 3; decide, by show (3 : Int) ≤ 3; decide⟩, h.at1, ⟨by show (1 : Int) ≤ 1; decide, by show (1 : Int) ≤ 9; decide⟩, Or.inl rfl⟩, fun e => by exact absurd (show (3 : Int) = 1 from e) (by decide)⟩
theorem Snd.Blk.next {s : Snd} {W : World → Prop} (h : s.Blk W) : s.next.Blk W := by
  unfold Snd.next
  split
  · exact ⟨h.row, h.all, h.cap, h.num⟩
  · split <;> exact ⟨h.row, h.all, h.cap, h.num⟩
set_option maxRecDepth 100000 in
theorem t91 {g : Nat} (s : Snd) (hF : s.Fit0) (hB : s.Blk (WH w0 B X)) : TCall Try.prog w0 B 91 #[.pointer (some ⟨g, 0, none⟩)] (fun r H' => Gives s.next.now (sndC g s.next) X r H') (sndC g s :: X) := by
  have hF2 := hF.next
  have hB2 := hB.next
  have hmany := hF.many
  obtain ⟨s', hs'⟩ : ∃ s', s.next = s' := ⟨_, rfl⟩
  rw [hs'] at hF2 hB2 ⊢
  unfold Snd.next at hs'
  obtain ⟨ct, cw, A, c, qs, close, crc, phase, at_, tries, left, can, err⟩ := s
  dsimp only at hs' hmany
  by_cases ha : at_ < qs.length
  · rw [if_pos ha] at hs'
    subst hs'
    refine TCall_intro (args := [_]) Try.func91 rfl Try.ntmps91 (Nat.le_of_ble_eq_true rfl) ?_
    refine T_seq ?_
    refine T_region ?_
    refine TL_pure (d := (some 2)) rfl rfl rfl (PV_assign rfl) ?_
    refine TL_nil ?_
    refine T_seq ?_
    refine T_region ?_
    refine TL_pure (d := (some 3)) rfl rfl rfl (PV_move rfl) ?_
    refine TL_pure (d := (some 4)) rfl rfl rfl (PV_move rfl) ?_
    refine TL_pure (d := (some 5)) rfl rfl rfl (PV_move rfl) ?_
    refine TL_pure (d := (some 6)) rfl rfl rfl (PV_nilCheck rfl) ?_
    refine TL_pure (d := (some 7)) rfl rfl rfl (PV_fieldAddr (D := 0) Try.underlying133 rfl sz79 (by decide) rfl rfl) ?_
    refine TL_pure (d := (some 8)) rfl rfl rfl (PV_fieldAddr (D := 1) Try.underlying79 rfl sz3 (by decide) rfl rfl) ?_
    refine TL_pure (d := (some 9)) rfl rfl rfl (PV_load Try.underlying3 rfl rfl (by first | exact Rd.at 0 rfl rfl | exact Rd.at 1 rfl rfl | exact Rd.at 2 rfl rfl | exact Rd.at 3 rfl rfl | exact Rd.at 4 rfl rfl | exact Rd.at 5 rfl rfl | exact Rd.at 6 rfl rfl | exact Rd.at 7 rfl rfl | exact Rd.at 8 rfl rfl)) ?_
    refine TL_pure (d := (some 10)) rfl rfl rfl (PV_nilCheck rfl) ?_
    refine TL_pure (d := (some 11)) rfl rfl rfl (PV_fieldAddr (D := 7) Try.underlying133 rfl sz3 (by decide) rfl rfl) ?_
    first | (refine TL_cons rfl (TO_store1 0 rfl rfl rfl sz3 rfl rfl rfl (by first | exact Nat.le_of_ble_eq_true rfl | (simp; done) | (simp; omega) | omega) ?_)) | (refine TL_cons rfl (TO_store1 1 rfl rfl rfl sz3 rfl rfl rfl (by first | exact Nat.le_of_ble_eq_true rfl | (simp; done) | (simp; omega) | omega) ?_)) | (refine TL_cons rfl (TO_store1 2 rfl rfl rfl sz3 rfl rfl rfl (by first | exact Nat.le_of_ble_eq_true rfl | (simp; done) | (simp; omega) | omega) ?_)) | (refine TL_cons rfl (TO_store1 3 rfl rfl rfl sz3 rfl rfl rfl (by first | exact Nat.le_of_ble_eq_true rfl | (simp; done) | (simp; omega) | omega) ?_)) | (refine TL_cons rfl (TO_store1 4 rfl rfl rfl sz3 rfl rfl rfl (by first | exact Nat.le_of_ble_eq_true rfl | (simp; done) | (simp; omega) | omega) ?_)) | (refine TL_cons rfl (TO_store1 5 rfl rfl rfl sz3 rfl rfl rfl (by first | exact Nat.le_of_ble_eq_true rfl | (simp; done) | (simp; omega) | omega) ?_)) | (refine TL_cons rfl (TO_store1 6 rfl rfl rfl sz3 rfl rfl rfl (by first | exact Nat.le_of_ble_eq_true rfl | (simp; done) | (simp; omega) | omega) ?_)) | (refine TL_cons rfl (TO_store1 7 rfl rfl rfl sz3 rfl rfl rfl (by first | exact Nat.le_of_ble_eq_true rfl | (simp; done) | (simp; omega) | omega) ?_)) | (refine TL_cons rfl (TO_store1 8 rfl rfl rfl sz3 rfl rfl rfl (by first | exact Nat.le_of_ble_eq_true rfl | (simp; done) | (simp; omega) | omega) ?_))
    refine TL_pure (d := (some 12)) rfl rfl rfl (PV_nilCheck rfl) ?_
    refine TL_pure (d := (some 13)) rfl rfl rfl (PV_fieldAddr (D := 8) Try.underlying133 rfl sz3 (by decide) rfl rfl) ?_
    first | (refine TL_cons rfl (TO_store1 0 rfl rfl rfl sz3 rfl rfl rfl (by first | exact Nat.le_of_ble_eq_true rfl | (simp; done) | (simp; omega) | omega) ?_)) | (refine TL_cons rfl (TO_store1 1 rfl rfl rfl sz3 rfl rfl rfl (by first | exact Nat.le_of_ble_eq_true rfl | (simp; done) | (simp; omega) | omega) ?_)) | (refine TL_cons rfl (TO_store1 2 rfl rfl rfl sz3 rfl rfl rfl (by first | exact Nat.le_of_ble_eq_true rfl | (simp; done) | (simp; omega) | omega) ?_)) | (refine TL_cons rfl (TO_store1 3 rfl rfl rfl sz3 rfl rfl rfl (by first | exact Nat.le_of_ble_eq_true rfl | (simp; done) | (simp; omega) | omega) ?_)) | (refine TL_cons rfl (TO_store1 4 rfl rfl rfl sz3 rfl rfl rfl (by first | exact Nat.le_of_ble_eq_true rfl | (simp; done) | (simp; omega) | omega) ?_)) | (refine TL_cons rfl (TO_store1 5 rfl rfl rfl sz3 rfl rfl rfl (by first | exact Nat.le_of_ble_eq_true rfl | (simp; done) | (simp; omega) | omega) ?_)) | (refine TL_cons rfl (TO_store1 6 rfl rfl rfl sz3 rfl rfl rfl (by first | exact Nat.le_of_ble_eq_true rfl | (simp; done) | (simp; omega) | omega) ?_)) | (refine TL_cons rfl (TO_store1 7 rfl rfl rfl sz3 rfl rfl rfl (by first | exact Nat.le_of_ble_eq_true rfl | (simp; done) | (simp; omega) | omega) ?_)) | (refine TL_cons rfl (TO_store1 8 rfl rfl rfl sz3 rfl rfl rfl (by first | exact Nat.le_of_ble_eq_true rfl | (simp; done) | (simp; omega) | omega) ?_))
    refine TL_nil ?_
    refine T_seq ?_
    refine T_block ?_
    refine T_seq ?_
    refine T_drawn (WH _ _ _) mixed (by intro w h; exact h) ?_
    refine TA_take (dd := (some 17)) 0 rfl (by kernel_rfl) (by kernel_rfl) (by kernel_rfl) rfl rfl rfl (PV_move rfl) ?_
    refine TA_take (dd := (some 18)) 1 rfl (by kernel_rfl) (by kernel_rfl) (by kernel_rfl) rfl rfl rfl (PV_nilCheck rfl) ?_
    refine TA_take (dd := (some 19)) 2 rfl (by kernel_rfl) (by kernel_rfl) (by kernel_rfl) rfl rfl rfl (PV_fieldAddr (D := 6) Try.underlying133 rfl sz3 (by decide) rfl rfl) ?_
    first | (refine TA_take (dd := (some 20)) 3 rfl (by kernel_rfl) (by kernel_rfl) (by kernel_rfl) rfl rfl rfl (PV_load Try.underlying3 rfl rfl (by first | exact Rd.at 0 rfl rfl | exact Rd.at 1 rfl rfl | exact Rd.at 2 rfl rfl | exact Rd.at 3 rfl rfl | exact Rd.at 4 rfl rfl | exact Rd.at 5 rfl rfl | exact Rd.at 6 rfl rfl | exact Rd.at 7 rfl rfl | exact Rd.at 8 rfl rfl)) ?_) | (refine TA_pure1 (dd := (some 20)) 3 (by kernel_rfl) rfl rfl rfl rfl (PV_load Try.underlying3 rfl rfl (by first | exact Rd.at 0 rfl rfl | exact Rd.at 1 rfl rfl | exact Rd.at 2 rfl rfl | exact Rd.at 3 rfl rfl | exact Rd.at 4 rfl rfl | exact Rd.at 5 rfl rfl | exact Rd.at 6 rfl rfl | exact Rd.at 7 rfl rfl | exact Rd.at 8 rfl rfl)) ?_)
    refine TA_take (dd := (some 21)) 4 rfl (by kernel_rfl) (by kernel_rfl) (by kernel_rfl) rfl rfl rfl (PV_move rfl) ?_
    refine TA_take (dd := (some 22)) 5 rfl (by kernel_rfl) (by kernel_rfl) (by kernel_rfl) rfl rfl rfl (PV_nilCheck rfl) ?_
    refine TA_take (dd := (some 23)) 6 rfl (by kernel_rfl) (by kernel_rfl) (by kernel_rfl) rfl rfl rfl (PV_fieldAddr (D := 2) Try.underlying133 rfl sz69 (by decide) rfl rfl) ?_
    first | (refine TA_take (dd := (some 24)) 7 rfl (by kernel_rfl) (by kernel_rfl) (by kernel_rfl) rfl rfl rfl (PV_load Try.underlying69 rfl rfl (by first | exact Rd.at 0 rfl rfl | exact Rd.at 1 rfl rfl | exact Rd.at 2 rfl rfl | exact Rd.at 3 rfl rfl | exact Rd.at 4 rfl rfl | exact Rd.at 5 rfl rfl | exact Rd.at 6 rfl rfl | exact Rd.at 7 rfl rfl | exact Rd.at 8 rfl rfl)) ?_) | (refine TA_pure1 (dd := (some 24)) 7 (by kernel_rfl) rfl rfl rfl rfl (PV_load Try.underlying69 rfl rfl (by first | exact Rd.at 0 rfl rfl | exact Rd.at 1 rfl rfl | exact Rd.at 2 rfl rfl | exact Rd.at 3 rfl rfl | exact Rd.at 4 rfl rfl | exact Rd.at 5 rfl rfl | exact Rd.at 6 rfl rfl | exact Rd.at 7 rfl rfl | exact Rd.at 8 rfl rfl)) ?_)
    refine TA_take (dd := (some 25)) 8 rfl (by kernel_rfl) (by kernel_rfl) (by kernel_rfl) rfl rfl rfl (PV_len_slice Try.underlying69 rfl) ?_
    refine TA_take (dd := (some 26)) 9 rfl (by kernel_rfl) (by kernel_rfl) (by kernel_rfl) rfl rfl rfl (PV_bin rfl rfl bin_lss) ?_
    refine TA_take (dd := (some 16)) 10 rfl (by kernel_rfl) (by kernel_rfl) (by kernel_rfl) rfl rfl rfl (PV_assign rfl) ?_
    refine TA_done (by kernel_rfl) ?_
    -- IF t16
    refine T_then rfl (by exact decide_eq_true (by show (at_ : Int) < (qs.length : Int); omega)) ?_
    refine T_region ?_
    refine TL_pure (d := (some 27)) rfl rfl rfl (PV_move rfl) ?_
    refine TL_pure (d := (some 28)) rfl rfl rfl (PV_nilCheck rfl) ?_
    refine TL_pure (d := (some 29)) rfl rfl rfl (PV_fieldAddr (D := 5) Try.underlying133 rfl sz131 (by decide) rfl rfl) ?_
    first | (refine TL_cons rfl (TO_store1 0 rfl rfl rfl sz131 rfl rfl rfl (by first | exact Nat.le_of_ble_eq_true rfl | (simp; done) | (simp; omega) | omega) ?_)) | (refine TL_cons rfl (TO_store1 1 rfl rfl rfl sz131 rfl rfl rfl (by first | exact Nat.le_of_ble_eq_true rfl | (simp; done) | (simp; omega) | omega) ?_)) | (refine TL_cons rfl (TO_store1 2 rfl rfl rfl sz131 rfl rfl rfl (by first | exact Nat.le_of_ble_eq_true rfl | (simp; done) | (simp; omega) | omega) ?_)) | (refine TL_cons rfl (TO_store1 3 rfl rfl rfl sz131 rfl rfl rfl (by first | exact Nat.le_of_ble_eq_true rfl | (simp; done) | (simp; omega) | omega) ?_)) | (refine TL_cons rfl (TO_store1 4 rfl rfl rfl sz131 rfl rfl rfl (by first | exact Nat.le_of_ble_eq_true rfl | (simp; done) | (simp; omega) | omega) ?_)) | (refine TL_cons rfl (TO_store1 5 rfl rfl rfl sz131 rfl rfl rfl (by first | exact Nat.le_of_ble_eq_true rfl | (simp; done) | (simp; omega) | omega) ?_)) | (refine TL_cons rfl (TO_store1 6 rfl rfl rfl sz131 rfl rfl rfl (by first | exact Nat.le_of_ble_eq_true rfl | (simp; done) | (simp; omega) | omega) ?_)) | (refine TL_cons rfl (TO_store1 7 rfl rfl rfl sz131 rfl rfl rfl (by first | exact Nat.le_of_ble_eq_true rfl | (simp; done) | (simp; omega) | omega) ?_)) | (refine TL_cons rfl (TO_store1 8 rfl rfl rfl sz131 rfl rfl rfl (by first | exact Nat.le_of_ble_eq_true rfl | (simp; done) | (simp; omega) | omega) ?_))
    refine TL_nil ?_
    refine T_seq ?_
    refine T_region ?_
    refine TL_pure (d := (some 45)) rfl rfl rfl (PV_move rfl) ?_
    -- op 46 call F101(t45)
    refine TL_cons rfl (TO_call0 call101 rfl rfl (t101 _ hF2 hB2 (Or.inl rfl)) ?_)
    rintro v46 H46 ⟨A46, k46, rfl, hk46, rfl⟩
    refine TL_pure (d := (some 2)) rfl rfl rfl (PV_assign rfl) ?_
    refine TL_nil ?_
    refine T_ret ?_
    -- ('ret',)
    refine ⟨_, _, ?_, ResV_one rfl rfl, ⟨A46, k46, rfl, hk46, rfl⟩⟩
    repeat (first | exact List.Sublist.refl _ | apply List.Sublist.cons_cons | apply List.Sublist.cons)
  rw [if_neg ha] at hs'
  by_cases hc : close = true ∧ phase ≠ 2
  · rw [if_pos hc] at hs'
    subst hs'
    obtain ⟨hc1, hc2⟩ := hc
    subst hc1
    refine TCall_intro (args := [_]) Try.func91 rfl Try.ntmps91 (Nat.le_of_ble_eq_true rfl) ?_
    refine T_seq ?_
    refine T_region ?_
    refine TL_pure (d := (some 2)) rfl rfl rfl (PV_assign rfl) ?_
    refine TL_nil ?_
    refine T_seq ?_
    refine T_region ?_
    refine TL_pure (d := (some 3)) rfl rfl rfl (PV_move rfl) ?_
    refine TL_pure (d := (some 4)) rfl rfl rfl (PV_move rfl) ?_
    refine TL_pure (d := (some 5)) rfl rfl rfl (PV_move rfl) ?_
    refine TL_pure (d := (some 6)) rfl rfl rfl (PV_nilCheck rfl) ?_
    refine TL_pure (d := (some 7)) rfl rfl rfl (PV_fieldAddr (D := 0) Try.underlying133 rfl sz79 (by decide) rfl rfl) ?_
    refine TL_pure (d := (some 8)) rfl rfl rfl (PV_fieldAddr (D := 1) Try.underlying79 rfl sz3 (by decide) rfl rfl) ?_
    refine TL_pure (d := (some 9)) rfl rfl rfl (PV_load Try.underlying3 rfl rfl (by first | exact Rd.at 0 rfl rfl | exact Rd.at 1 rfl rfl | exact Rd.at 2 rfl rfl | exact Rd.at 3 rfl rfl | exact Rd.at 4 rfl rfl | exact Rd.at 5 rfl rfl | exact Rd.at 6 rfl rfl | exact Rd.at 7 rfl rfl | exact Rd.at 8 rfl rfl)) ?_
    refine TL_pure (d := (some 10)) rfl rfl rfl (PV_nilCheck rfl) ?_
    refine TL_pure (d := (some 11)) rfl rfl rfl (PV_fieldAddr (D := 7) Try.underlying133 rfl sz3 (by decide) rfl rfl) ?_
    first | (refine TL_cons rfl (TO_store1 0 rfl rfl rfl sz3 rfl rfl rfl (by first | exact Nat.le_of_ble_eq_true rfl | (simp; done) | (simp; omega) | omega) ?_)) | (refine TL_cons rfl (TO_store1 1 rfl rfl rfl sz3 rfl rfl rfl (by first | exact Nat.le_of_ble_eq_true rfl | (simp; done) | (simp; omega) | omega) ?_)) | (refine TL_cons rfl (TO_store1 2 rfl rfl rfl sz3 rfl rfl rfl (by first | exact Nat.le_of_ble_eq_true rfl | (simp; done) | (simp; omega) | omega) ?_)) | (refine TL_cons rfl (TO_store1 3 rfl rfl rfl sz3 rfl rfl rfl (by first | exact Nat.le_of_ble_eq_true rfl | (simp; done) | (simp; omega) | omega) ?_)) | (refine TL_cons rfl (TO_store1 4 rfl rfl rfl sz3 rfl rfl rfl (by first | exact Nat.le_of_ble_eq_true rfl | (simp; done) | (simp; omega) | omega) ?_)) | (refine TL_cons rfl (TO_store1 5 rfl rfl rfl sz3 rfl rfl rfl (by first | exact Nat.le_of_ble_eq_true rfl | (simp; done) | (simp; omega) | omega) ?_)) | (refine TL_cons rfl (TO_store1 6 rfl rfl rfl sz3 rfl rfl rfl (by first | exact Nat.le_of_ble_eq_true rfl | (simp; done) | (simp; omega) | omega) ?_)) | (refine TL_cons rfl (TO_store1 7 rfl rfl rfl sz3 rfl rfl rfl (by first | exact Nat.le_of_ble_eq_true rfl | (simp; done) | (simp; omega) | omega) ?_)) | (refine TL_cons rfl (TO_store1 8 rfl rfl rfl sz3 rfl rfl rfl (by first | exact Nat.le_of_ble_eq_true rfl | (simp; done) | (simp; omega) | omega) ?_))
    refine TL_pure (d := (some 12)) rfl rfl rfl (PV_nilCheck rfl) ?_
    refine TL_pure (d := (some 13)) rfl rfl rfl (PV_fieldAddr (D := 8) Try.underlying133 rfl sz3 (by decide) rfl rfl) ?_
    first | (refine TL_cons rfl (TO_store1 0 rfl rfl rfl sz3 rfl rfl rfl (by first | exact Nat.le_of_ble_eq_true rfl | (simp; done) | (simp; omega) | omega) ?_)) | (refine TL_cons rfl (TO_store1 1 rfl rfl rfl sz3 rfl rfl rfl (by first | exact Nat.le_of_ble_eq_true rfl | (simp; done) | (simp; omega) | omega) ?_)) | (refine TL_cons rfl (TO_store1 2 rfl rfl rfl sz3 rfl rfl rfl (by first | exact Nat.le_of_ble_eq_true rfl | (simp; done) | (simp; omega) | omega) ?_)) | (refine TL_cons rfl (TO_store1 3 rfl rfl rfl sz3 rfl rfl rfl (by first | exact Nat.le_of_ble_eq_true rfl | (simp; done) | (simp; omega) | omega) ?_)) | (refine TL_cons rfl (TO_store1 4 rfl rfl rfl sz3 rfl rfl rfl (by first | exact Nat.le_of_ble_eq_true rfl | (simp; done) | (simp; omega) | omega) ?_)) | (refine TL_cons rfl (TO_store1 5 rfl rfl rfl sz3 rfl rfl rfl (by first | exact Nat.le_of_ble_eq_true rfl | (simp; done) | (simp; omega) | omega) ?_)) | (refine TL_cons rfl (TO_store1 6 rfl rfl rfl sz3 rfl rfl rfl (by first | exact Nat.le_of_ble_eq_true rfl | (simp; done) | (simp; omega) | omega) ?_)) | (refine TL_cons rfl (TO_store1 7 rfl rfl rfl sz3 rfl rfl rfl (by first | exact Nat.le_of_ble_eq_true rfl | (simp; done) | (simp; omega) | omega) ?_)) | (refine TL_cons rfl (TO_store1 8 rfl rfl rfl sz3 rfl rfl rfl (by first | exact Nat.le_of_ble_eq_true rfl | (simp; done) | (simp; omega) | omega) ?_))
    refine TL_nil ?_
    refine T_seq ?_
    refine T_block ?_
    refine T_seq ?_
    refine T_drawn (WH _ _ _) mixed (by intro w h; exact h) ?_
    refine TA_take (dd := (some 17)) 0 rfl (by kernel_rfl) (by kernel_rfl) (by kernel_rfl) rfl rfl rfl (PV_move rfl) ?_
    refine TA_take (dd := (some 18)) 1 rfl (by kernel_rfl) (by kernel_rfl) (by kernel_rfl) rfl rfl rfl (PV_nilCheck rfl) ?_
    refine TA_take (dd := (some 19)) 2 rfl (by kernel_rfl) (by kernel_rfl) (by kernel_rfl) rfl rfl rfl (PV_fieldAddr (D := 6) Try.underlying133 rfl sz3 (by decide) rfl rfl) ?_
    first | (refine TA_take (dd := (some 20)) 3 rfl (by kernel_rfl) (by kernel_rfl) (by kernel_rfl) rfl rfl rfl (PV_load Try.underlying3 rfl rfl (by first | exact Rd.at 0 rfl rfl | exact Rd.at 1 rfl rfl | exact Rd.at 2 rfl rfl | exact Rd.at 3 rfl rfl | exact Rd.at 4 rfl rfl | exact Rd.at 5 rfl rfl | exact Rd.at 6 rfl rfl | exact Rd.at 7 rfl rfl | exact Rd.at 8 rfl rfl)) ?_) | (refine TA_pure1 (dd := (some 20)) 3 (by kernel_rfl) rfl rfl rfl rfl (PV_load Try.underlying3 rfl rfl (by first | exact Rd.at 0 rfl rfl | exact Rd.at 1 rfl rfl | exact Rd.at 2 rfl rfl | exact Rd.at 3 rfl rfl | exact Rd.at 4 rfl rfl | exact Rd.at 5 rfl rfl | exact Rd.at 6 rfl rfl | exact Rd.at 7 rfl rfl | exact Rd.at 8 rfl rfl)) ?_)
    refine TA_take (dd := (some 21)) 4 rfl (by kernel_rfl) (by kernel_rfl) (by kernel_rfl) rfl rfl rfl (PV_move rfl) ?_
    refine TA_take (dd := (some 22)) 5 rfl (by kernel_rfl) (by kernel_rfl) (by kernel_rfl) rfl rfl rfl (PV_nilCheck rfl) ?_
    refine TA_take (dd := (some 23)) 6 rfl (by kernel_rfl) (by kernel_rfl) (by kernel_rfl) rfl rfl rfl (PV_fieldAddr (D := 2) Try.underlying133 rfl sz69 (by decide) rfl rfl) ?_
    first | (refine TA_take (dd := (some 24)) 7 rfl (by kernel_rfl) (by kernel_rfl) (by kernel_rfl) rfl rfl rfl (PV_load Try.underlying69 rfl rfl (by first | exact Rd.at 0 rfl rfl | exact Rd.at 1 rfl rfl | exact Rd.at 2 rfl rfl | exact Rd.at 3 rfl rfl | exact Rd.at 4 rfl rfl | exact Rd.at 5 rfl rfl | exact Rd.at 6 rfl rfl | exact Rd.at 7 rfl rfl | exact Rd.at 8 rfl rfl)) ?_) | (refine TA_pure1 (dd := (some 24)) 7 (by kernel_rfl) rfl rfl rfl rfl (PV_load Try.underlying69 rfl rfl (by first | exact Rd.at 0 rfl rfl | exact Rd.at 1 rfl rfl | exact Rd.at 2 rfl rfl | exact Rd.at 3 rfl rfl | exact Rd.at 4 rfl rfl | exact Rd.at 5 rfl rfl | exact Rd.at 6 rfl rfl | exact Rd.at 7 rfl rfl | exact Rd.at 8 rfl rfl)) ?_)
    refine TA_take (dd := (some 25)) 8 rfl (by kernel_rfl) (by kernel_rfl) (by kernel_rfl) rfl rfl rfl (PV_len_slice Try.underlying69 rfl) ?_
    refine TA_take (dd := (some 26)) 9 rfl (by kernel_rfl) (by kernel_rfl) (by kernel_rfl) rfl rfl rfl (PV_bin rfl rfl bin_lss) ?_
    refine TA_take (dd := (some 16)) 10 rfl (by kernel_rfl) (by kernel_rfl) (by kernel_rfl) rfl rfl rfl (PV_assign rfl) ?_
    refine TA_done (by kernel_rfl) ?_
    -- IF t16
    refine T_else rfl (by exact decide_eq_false (by show ¬ (at_ : Int) < (qs.length : Int); omega)) ?_
    refine T_seq ?_
    refine T_region ?_
    refine TL_pure (d := (some 31)) rfl rfl rfl (PV_move rfl) ?_
    refine TL_pure (d := (some 32)) rfl rfl rfl (PV_nilCheck rfl) ?_
    refine TL_pure (d := (some 33)) rfl rfl rfl (PV_fieldAddr (D := 3) Try.underlying133 rfl sz4 (by decide) rfl rfl) ?_
    refine TL_pure (d := (some 34)) rfl rfl rfl (PV_load Try.underlying4 rfl rfl (by first | exact Rd.at 0 rfl rfl | exact Rd.at 1 rfl rfl | exact Rd.at 2 rfl rfl | exact Rd.at 3 rfl rfl | exact Rd.at 4 rfl rfl | exact Rd.at 5 rfl rfl | exact Rd.at 6 rfl rfl | exact Rd.at 7 rfl rfl | exact Rd.at 8 rfl rfl)) ?_
    refine TL_pure (d := (some 35)) rfl rfl rfl (PV_move rfl) ?_
    -- guard 36 move t0
    refine TL_yes rfl rfl rfl (TO_pure rfl (PV_move rfl) ?_)
    refine TL_yes rfl rfl rfl (TO_pure rfl (PV_nilCheck rfl) ?_)
    refine TL_yes rfl rfl rfl (TO_pure rfl (PV_fieldAddr (D := 5) Try.underlying133 rfl sz131 (by decide) rfl rfl) ?_)
    refine TL_yes rfl rfl rfl (TO_pure rfl (PV_load Try.underlying131 rfl rfl (by first | exact Rd.at 0 rfl rfl | exact Rd.at 1 rfl rfl | exact Rd.at 2 rfl rfl | exact Rd.at 3 rfl rfl | exact Rd.at 4 rfl rfl | exact Rd.at 5 rfl rfl | exact Rd.at 6 rfl rfl | exact Rd.at 7 rfl rfl | exact Rd.at 8 rfl rfl)) ?_)
    refine TL_yes rfl rfl rfl (TO_pure rfl (PV.cast (PV_bin rfl rfl bin_neq) (congrArg Value.bool (show _ = true by exact bne_iff_ne.2 hc2))) ?_)
    first | (refine TL_pure (d := (some 41)) rfl rfl rfl (PV_pickAnd rfl rfl rfl) ?_) | (refine TL_pure (d := (some 41)) rfl rfl rfl (PV_pickF rfl (by first | assumption | rfl | (simp; done) | (simp; omega)) rfl rfl) ?_)
    refine TL_pure (d := (some 30)) rfl rfl rfl (PV_assign rfl) ?_
    refine TL_nil ?_
    -- IF t30
    refine T_then rfl (by rfl) ?_
    refine T_region ?_
    refine TL_pure (d := (some 42)) rfl rfl rfl (PV_move rfl) ?_
    refine TL_pure (d := (some 43)) rfl rfl rfl (PV_nilCheck rfl) ?_
    refine TL_pure (d := (some 44)) rfl rfl rfl (PV_fieldAddr (D := 5) Try.underlying133 rfl sz131 (by decide) rfl rfl) ?_
    first | (refine TL_cons rfl (TO_store1 0 rfl rfl rfl sz131 rfl rfl rfl (by first | exact Nat.le_of_ble_eq_true rfl | (simp; done) | (simp; omega) | omega) ?_)) | (refine TL_cons rfl (TO_store1 1 rfl rfl rfl sz131 rfl rfl rfl (by first | exact Nat.le_of_ble_eq_true rfl | (simp; done) | (simp; omega) | omega) ?_)) | (refine TL_cons rfl (TO_store1 2 rfl rfl rfl sz131 rfl rfl rfl (by first | exact Nat.le_of_ble_eq_true rfl | (simp; done) | (simp; omega) | omega) ?_)) | (refine TL_cons rfl (TO_store1 3 rfl rfl rfl sz131 rfl rfl rfl (by first | exact Nat.le_of_ble_eq_true rfl | (simp; done) | (simp; omega) | omega) ?_)) | (refine TL_cons rfl (TO_store1 4 rfl rfl rfl sz131 rfl rfl rfl (by first | exact Nat.le_of_ble_eq_true rfl | (simp; done) | (simp; omega) | omega) ?_)) | (refine TL_cons rfl (TO_store1 5 rfl rfl rfl sz131 rfl rfl rfl (by first | exact Nat.le_of_ble_eq_true rfl | (simp; done) | (simp; omega) | omega) ?_)) | (refine TL_cons rfl (TO_store1 6 rfl rfl rfl sz131 rfl rfl rfl (by first | exact Nat.le_of_ble_eq_true rfl | (simp; done) | (simp; omega) | omega) ?_)) | (refine TL_cons rfl (TO_store1 7 rfl rfl rfl sz131 rfl rfl rfl (by first | exact Nat.le_of_ble_eq_true rfl | (simp; done) | (simp; omega) | omega) ?_)) | (refine TL_cons rfl (TO_store1 8 rfl rfl rfl sz131 rfl rfl rfl (by first | exact Nat.le_of_ble_eq_true rfl | (simp; done) | (simp; omega) | omega) ?_))
    refine TL_nil ?_
    refine T_seq ?_
    refine T_region ?_
    refine TL_pure (d := (some 45)) rfl rfl rfl (PV_move rfl) ?_
    -- op 46 call F101(t45)
    refine TL_cons rfl (TO_call0 call101 rfl rfl (t101 _ hF2 hB2 (Or.inr rfl)) ?_)
    rintro v46 H46 ⟨A46, k46, rfl, hk46, rfl⟩
    refine TL_pure (d := (some 2)) rfl rfl rfl (PV_assign rfl) ?_
    refine TL_nil ?_
    refine T_ret ?_
    -- ('ret',)
    refine ⟨_, _, ?_, ResV_one rfl rfl, ⟨A46, k46, rfl, hk46, rfl⟩⟩
    repeat (first | exact List.Sublist.refl _ | apply List.Sublist.cons_cons | apply List.Sublist.cons)
  · rw [if_neg hc] at hs'
    subst hs'
    have hnow : Snd.now ⟨ct, cw, A, c, qs, close, crc, 3, at_, 1, cw, can, .nilIface⟩ = [] := rfl
    cases close with
    | false =>
      refine TCall_intro (args := [_]) Try.func91 rfl Try.ntmps91 (Nat.le_of_ble_eq_true rfl) ?_
      refine T_seq ?_
      refine T_region ?_
      refine TL_pure (d := (some 2)) rfl rfl rfl (PV_assign rfl) ?_
      refine TL_nil ?_
      refine T_seq ?_
      refine T_region ?_
      refine TL_pure (d := (some 3)) rfl rfl rfl (PV_move rfl) ?_
      refine TL_pure (d := (some 4)) rfl rfl rfl (PV_move rfl) ?_
      refine TL_pure (d := (some 5)) rfl rfl rfl (PV_move rfl) ?_
      refine TL_pure (d := (some 6)) rfl rfl rfl (PV_nilCheck rfl) ?_
      refine TL_pure (d := (some 7)) rfl rfl rfl (PV_fieldAddr (D := 0) Try.underlying133 rfl sz79 (by decide) rfl rfl) ?_
      refine TL_pure (d := (some 8)) rfl rfl rfl (PV_fieldAddr (D := 1) Try.underlying79 rfl sz3 (by decide) rfl rfl) ?_
      refine TL_pure (d := (some 9)) rfl rfl rfl (PV_load Try.underlying3 rfl rfl (by first | exact Rd.at 0 rfl rfl | exact Rd.at 1 rfl rfl | exact Rd.at 2 rfl rfl | exact Rd.at 3 rfl rfl | exact Rd.at 4 rfl rfl | exact Rd.at 5 rfl rfl | exact Rd.at 6 rfl rfl | exact Rd.at 7 rfl rfl | exact Rd.at 8 rfl rfl)) ?_
      refine TL_pure (d := (some 10)) rfl rfl rfl (PV_nilCheck rfl) ?_
      refine TL_pure (d := (some 11)) rfl rfl rfl (PV_fieldAddr (D := 7) Try.underlying133 rfl sz3 (by decide) rfl rfl) ?_
      first | (refine TL_cons rfl (TO_store1 0 rfl rfl rfl sz3 rfl rfl rfl (by first | exact Nat.le_of_ble_eq_true rfl | (simp; done) | (simp; omega) | omega) ?_)) | (refine TL_cons rfl (TO_store1 1 rfl rfl rfl sz3 rfl rfl rfl (by first | exact Nat.le_of_ble_eq_true rfl | (simp; done) | (simp; omega) | omega) ?_)) | (refine TL_cons rfl (TO_store1 2 rfl rfl rfl sz3 rfl rfl rfl (by first | exact Nat.le_of_ble_eq_true rfl | (simp; done) | (simp; omega) | omega) ?_)) | (refine TL_cons rfl (TO_store1 3 rfl rfl rfl sz3 rfl rfl rfl (by first | exact Nat.le_of_ble_eq_true rfl | (simp; done) | (simp; omega) | omega) ?_)) | (refine TL_cons rfl (TO_store1 4 rfl rfl rfl sz3 rfl rfl rfl (by first | exact Nat.le_of_ble_eq_true rfl | (simp; done) | (simp; omega) | omega) ?_)) | (refine TL_cons rfl (TO_store1 5 rfl rfl rfl sz3 rfl rfl rfl (by first | exact Nat.le_of_ble_eq_true rfl | (simp; done) | (simp; omega) | omega) ?_)) | (refine TL_cons rfl (TO_store1 6 rfl rfl rfl sz3 rfl rfl rfl (by first | exact Nat.le_of_ble_eq_true rfl | (simp; done) | (simp; omega) | omega) ?_)) | (refine TL_cons rfl (TO_store1 7 rfl rfl rfl sz3 rfl rfl rfl (by first | exact Nat.le_of_ble_eq_true rfl | (simp; done) | (simp; omega) | omega) ?_)) | (refine TL_cons rfl (TO_store1 8 rfl rfl rfl sz3 rfl rfl rfl (by first | exact Nat.le_of_ble_eq_true rfl | (simp; done) | (simp; omega) | omega) ?_))
      refine TL_pure (d := (some 12)) rfl rfl rfl (PV_nilCheck rfl) ?_
      refine TL_pure (d := (some 13)) rfl rfl rfl (PV_fieldAddr (D := 8) Try.underlying133 rfl sz3 (by decide) rfl rfl) ?_
      first | (refine TL_cons rfl (TO_store1 0 rfl rfl rfl sz3 rfl rfl rfl (by first | exact Nat.le_of_ble_eq_true rfl | (simp; done) | (simp; omega) | omega) ?_)) | (refine TL_cons rfl (TO_store1 1 rfl rfl rfl sz3 rfl rfl rfl (by first | exact Nat.le_of_ble_eq_true rfl | (simp; done) | (simp; omega) | omega) ?_)) | (refine TL_cons rfl (TO_store1 2 rfl rfl rfl sz3 rfl rfl rfl (by first | exact Nat.le_of_ble_eq_true rfl | (simp; done) | (simp; omega) | omega) ?_)) | (refine TL_cons rfl (TO_store1 3 rfl rfl rfl sz3 rfl rfl rfl (by first | exact Nat.le_of_ble_eq_true rfl | (simp; done) | (simp; omega) | omega) ?_)) | (refine TL_cons rfl (TO_store1 4 rfl rfl rfl sz3 rfl rfl rfl (by first | exact Nat.le_of_ble_eq_true rfl | (simp; done) | (simp; omega) | omega) ?_)) | (refine TL_cons rfl (TO_store1 5 rfl rfl rfl sz3 rfl rfl rfl (by first | exact Nat.le_of_ble_eq_true rfl | (simp; done) | (simp; omega) | omega) ?_)) | (refine TL_cons rfl (TO_store1 6 rfl rfl rfl sz3 rfl rfl rfl (by first | exact Nat.le_of_ble_eq_true rfl | (simp; done) | (simp; omega) | omega) ?_)) | (refine TL_cons rfl (TO_store1 7 rfl rfl rfl sz3 rfl rfl rfl (by first | exact Nat.le_of_ble_eq_true rfl | (simp; done) | (simp; omega) | omega) ?_)) | (refine TL_cons rfl (TO_store1 8 rfl rfl rfl sz3 rfl rfl rfl (by first | exact Nat.le_of_ble_eq_true rfl | (simp; done) | (simp; omega) | omega) ?_))
      refine TL_nil ?_
      refine T_seq ?_
      refine T_block ?_
      refine T_seq ?_
      refine T_drawn (WH _ _ _) mixed (by intro w h; exact h) ?_
      refine TA_take (dd := (some 17)) 0 rfl (by kernel_rfl) (by kernel_rfl) (by kernel_rfl) rfl rfl rfl (PV_move rfl) ?_
      refine TA_take (dd := (some 18)) 1 rfl (by kernel_rfl) (by kernel_rfl) (by kernel_rfl) rfl rfl rfl (PV_nilCheck rfl) ?_
      refine TA_take (dd := (some 19)) 2 rfl (by kernel_rfl) (by kernel_rfl) (by kernel_rfl) rfl rfl rfl (PV_fieldAddr (D := 6) Try.underlying133 rfl sz3 (by decide) rfl rfl) ?_
      first | (refine TA_take (dd := (some 20)) 3 rfl (by kernel_rfl) (by kernel_rfl) (by kernel_rfl) rfl rfl rfl (PV_load Try.underlying3 rfl rfl (by first | exact Rd.at 0 rfl rfl | exact Rd.at 1 rfl rfl | exact Rd.at 2 rfl rfl | exact Rd.at 3 rfl rfl | exact Rd.at 4 rfl rfl | exact Rd.at 5 rfl rfl | exact Rd.at 6 rfl rfl | exact Rd.at 7 rfl rfl | exact Rd.at 8 rfl rfl)) ?_) | (refine TA_pure1 (dd := (some 20)) 3 (by kernel_rfl) rfl rfl rfl rfl (PV_load Try.underlying3 rfl rfl (by first | exact Rd.at 0 rfl rfl | exact Rd.at 1 rfl rfl | exact Rd.at 2 rfl rfl | exact Rd.at 3 rfl rfl | exact Rd.at 4 rfl rfl | exact Rd.at 5 rfl rfl | exact Rd.at 6 rfl rfl | exact Rd.at 7 rfl rfl | exact Rd.at 8 rfl rfl)) ?_)
      refine TA_take (dd := (some 21)) 4 rfl (by kernel_rfl) (by kernel_rfl) (by kernel_rfl) rfl rfl rfl (PV_move rfl) ?_
      refine TA_take (dd := (some 22)) 5 rfl (by kernel_rfl) (by kernel_rfl) (by kernel_rfl) rfl rfl rfl (PV_nilCheck rfl) ?_
      refine TA_take (dd := (some 23)) 6 rfl (by kernel_rfl) (by kernel_rfl) (by kernel_rfl) rfl rfl rfl (PV_fieldAddr (D := 2) Try.underlying133 rfl sz69 (by decide) rfl rfl) ?_
      first | (refine TA_take (dd := (some 24)) 7 rfl (by kernel_rfl) (by kernel_rfl) (by kernel_rfl) rfl rfl rfl (PV_load Try.underlying69 rfl rfl (by first | exact Rd.at 0 rfl rfl | exact Rd.at 1 rfl rfl | exact Rd.at 2 rfl rfl | exact Rd.at 3 rfl rfl | exact Rd.at 4 rfl rfl | exact Rd.at 5 rfl rfl | exact Rd.at 6 rfl rfl | exact Rd.at 7 rfl rfl | exact Rd.at 8 rfl rfl)) ?_) | (refine TA_pure1 (dd := (some 24)) 7 (by kernel_rfl) rfl rfl rfl rfl (PV_load Try.underlying69 rfl rfl (by first | exact Rd.at 0 rfl rfl | exact Rd.at 1 rfl rfl | exact Rd.at 2 rfl rfl | exact Rd.at 3 rfl rfl | exact Rd.at 4 rfl rfl | exact Rd.at 5 rfl rfl | exact Rd.at 6 rfl rfl | exact Rd.at 7 rfl rfl | exact Rd.at 8 rfl rfl)) ?_)
      refine TA_take (dd := (some 25)) 8 rfl (by kernel_rfl) (by kernel_rfl) (by kernel_rfl) rfl rfl rfl (PV_len_slice Try.underlying69 rfl) ?_
      refine TA_take (dd := (some 26)) 9 rfl (by kernel_rfl) (by kernel_rfl) (by kernel_rfl) rfl rfl rfl (PV_bin rfl rfl bin_lss) ?_
      refine TA_take (dd := (some 16)) 10 rfl (by kernel_rfl) (by kernel_rfl) (by kernel_rfl) rfl rfl rfl (PV_assign rfl) ?_
      refine TA_done (by kernel_rfl) ?_
      -- IF t16
      refine T_else rfl (by exact decide_eq_false (by show ¬ (at_ : Int) < (qs.length : Int); omega)) ?_
      refine T_seq ?_
      refine T_region ?_
      refine TL_pure (d := (some 31)) rfl rfl rfl (PV_move rfl) ?_
      refine TL_pure (d := (some 32)) rfl rfl rfl (PV_nilCheck rfl) ?_
      refine TL_pure (d := (some 33)) rfl rfl rfl (PV_fieldAddr (D := 3) Try.underlying133 rfl sz4 (by decide) rfl rfl) ?_
      refine TL_pure (d := (some 34)) rfl rfl rfl (PV_load Try.underlying4 rfl rfl (by first | exact Rd.at 0 rfl rfl | exact Rd.at 1 rfl rfl | exact Rd.at 2 rfl rfl | exact Rd.at 3 rfl rfl | exact Rd.at 4 rfl rfl | exact Rd.at 5 rfl rfl | exact Rd.at 6 rfl rfl | exact Rd.at 7 rfl rfl | exact Rd.at 8 rfl rfl)) ?_
      refine TL_pure (d := (some 35)) rfl rfl rfl (PV_move rfl) ?_
      -- guard 36 move t0
      refine TL_no (b := false) rfl rfl rfl rfl ?_
      refine TL_no (b := false) rfl rfl rfl rfl ?_
      refine TL_no (b := false) rfl rfl rfl rfl ?_
      refine TL_no (b := false) rfl rfl rfl rfl ?_
      refine TL_no (b := false) rfl rfl rfl rfl ?_
      first | (refine TL_pure (d := (some 41)) rfl rfl rfl (PV_pickAnd rfl rfl rfl) ?_) | (refine TL_pure (d := (some 41)) rfl rfl rfl (PV_pickF rfl (by first | assumption | rfl | (simp; done) | (simp; omega)) rfl rfl) ?_)
      refine TL_pure (d := (some 30)) rfl rfl rfl (PV_assign rfl) ?_
      refine TL_nil ?_
      -- IF t30
      refine T_else rfl (by rfl) ?_
      refine T_seq ?_
      refine T_region ?_
      refine TL_pure (d := (some 14)) rfl rfl rfl (PV_move rfl) ?_
      -- op 15 call F90(t14, cnilIface)
      refine TL_cons rfl (TO_call0 call90 rfl rfl (t90nil ⟨ct, cw, A, c, qs, false, crc, phase, at_, 1, cw, can, err⟩) ?_)
      rintro v15 H15 ⟨A46, k46, rfl, hk46, rfl⟩
      refine TL_pure (d := (some 2)) rfl rfl rfl (PV_assign rfl) ?_
      refine TL_nil ?_
      refine T_ret ?_
      -- ('ret',)
      refine ⟨_, _, ?_, ResV_one rfl rfl, ⟨A46, k46, rfl, hk46, rfl⟩⟩
      repeat (first | exact List.Sublist.refl _ | apply List.Sublist.cons_cons | apply List.Sublist.cons)
    | true =>
      have hp2 : phase = 2 := by
        by_cases e : phase = 2
        · exact e
        · exact absurd ⟨rfl, e⟩ hc
      subst hp2
      refine TCall_intro (args := [_]) Try.func91 rfl Try.ntmps91 (Nat.le_of_ble_eq_true rfl) ?_
      refine T_seq ?_
      refine T_region ?_
      refine TL_pure (d := (some 2)) rfl rfl rfl (PV_assign rfl) ?_
      refine TL_nil ?_
      refine T_seq ?_
      refine T_region ?_
      refine TL_pure (d := (some 3)) rfl rfl rfl (PV_move rfl) ?_
      refine TL_pure (d := (some 4)) rfl rfl rfl (PV_move rfl) ?_
      refine TL_pure (d := (some 5)) rfl rfl rfl (PV_move rfl) ?_
      refine TL_pure (d := (some 6)) rfl rfl rfl (PV_nilCheck rfl) ?_
      refine TL_pure (d := (some 7)) rfl rfl rfl (PV_fieldAddr (D := 0) Try.underlying133 rfl sz79 (by decide) rfl rfl) ?_
      refine TL_pure (d := (some 8)) rfl rfl rfl (PV_fieldAddr (D := 1) Try.underlying79 rfl sz3 (by decide) rfl rfl) ?_
      refine TL_pure (d := (some 9)) rfl rfl rfl (PV_load Try.underlying3 rfl rfl (by first | exact Rd.at 0 rfl rfl | exact Rd.at 1 rfl rfl | exact Rd.at 2 rfl rfl | exact Rd.at 3 rfl rfl | exact Rd.at 4 rfl rfl | exact Rd.at 5 rfl rfl | exact Rd.at 6 rfl rfl | exact Rd.at 7 rfl rfl | exact Rd.at 8 rfl rfl)) ?_
      refine TL_pure (d := (some 10)) rfl rfl rfl (PV_nilCheck rfl) ?_
      refine TL_pure (d := (some 11)) rfl rfl rfl (PV_fieldAddr (D := 7) Try.underlying133 rfl sz3 (by decide) rfl rfl) ?_
      first | (refine TL_cons rfl (TO_store1 0 rfl rfl rfl sz3 rfl rfl rfl (by first | exact Nat.le_of_ble_eq_true rfl | (simp; done) | (simp; omega) | omega) ?_)) | (refine TL_cons rfl (TO_store1 1 rfl rfl rfl sz3 rfl rfl rfl (by first | exact Nat.le_of_ble_eq_true rfl | (simp; done) | (simp; omega) | omega) ?_)) | (refine TL_cons rfl (TO_store1 2 rfl rfl rfl sz3 rfl rfl rfl (by first | exact Nat.le_of_ble_eq_true rfl | (simp; done) | (simp; omega) | omega) ?_)) | (refine TL_cons rfl (TO_store1 3 rfl rfl rfl sz3 rfl rfl rfl (by first | exact Nat.le_of_ble_eq_true rfl | (simp; done) | (simp; omega) | omega) ?_)) | (refine TL_cons rfl (TO_store1 4 rfl rfl rfl sz3 rfl rfl rfl (by first | exact Nat.le_of_ble_eq_true rfl | (simp; done) | (simp; omega) | omega) ?_)) | (refine TL_cons rfl (TO_store1 5 rfl rfl rfl sz3 rfl rfl rfl (by first | exact Nat.le_of_ble_eq_true rfl | (simp; done) | (simp; omega) | omega) ?_)) | (refine TL_cons rfl (TO_store1 6 rfl rfl rfl sz3 rfl rfl rfl (by first | exact Nat.le_of_ble_eq_true rfl | (simp; done) | (simp; omega) | omega) ?_)) | (refine TL_cons rfl (TO_store1 7 rfl rfl rfl sz3 rfl rfl rfl (by first | exact Nat.le_of_ble_eq_true rfl | (simp; done) | (simp; omega) | omega) ?_)) | (refine TL_cons rfl (TO_store1 8 rfl rfl rfl sz3 rfl rfl rfl (by first | exact Nat.le_of_ble_eq_true rfl | (simp; done) | (simp; omega) | omega) ?_))
      refine TL_pure (d := (some 12)) rfl rfl rfl (PV_nilCheck rfl) ?_
      refine TL_pure (d := (some 13)) rfl rfl rfl (PV_fieldAddr (D := 8) Try.underlying133 rfl sz3 (by decide) rfl rfl) ?_
      first | (refine TL_cons rfl (TO_store1 0 rfl rfl rfl sz3 rfl rfl rfl (by first | exact Nat.le_of_ble_eq_true rfl | (simp; done) | (simp; omega) | omega) ?_)) | (refine TL_cons rfl (TO_store1 1 rfl rfl rfl sz3 rfl rfl rfl (by first | exact Nat.le_of_ble_eq_true rfl | (simp; done) | (simp; omega) | omega) ?_)) | (refine TL_cons rfl (TO_store1 2 rfl rfl rfl sz3 rfl rfl rfl (by first | exact Nat.le_of_ble_eq_true rfl | (simp; done) | (simp; omega) | omega) ?_)) | (refine TL_cons rfl (TO_store1 3 rfl rfl rfl sz3 rfl rfl rfl (by first | exact Nat.le_of_ble_eq_true rfl | (simp; done) | (simp; omega) | omega) ?_)) | (refine TL_cons rfl (TO_store1 4 rfl rfl rfl sz3 rfl rfl rfl (by first | exact Nat.le_of_ble_eq_true rfl | (simp; done) | (simp; omega) | omega) ?_)) | (refine TL_cons rfl (TO_store1 5 rfl rfl rfl sz3 rfl rfl rfl (by first | exact Nat.le_of_ble_eq_true rfl | (simp; done) | (simp; omega) | omega) ?_)) | (refine TL_cons rfl (TO_store1 6 rfl rfl rfl sz3 rfl rfl rfl (by first | exact Nat.le_of_ble_eq_true rfl | (simp; done) | (simp; omega) | omega) ?_)) | (refine TL_cons rfl (TO_store1 7 rfl rfl rfl sz3 rfl rfl rfl (by first | exact Nat.le_of_ble_eq_true rfl | (simp; done) | (simp; omega) | omega) ?_)) | (refine TL_cons rfl (TO_store1 8 rfl rfl rfl sz3 rfl rfl rfl (by first | exact Nat.le_of_ble_eq_true rfl | (simp; done) | (simp; omega) | omega) ?_))
      refine TL_nil ?_
      refine T_seq ?_
      refine T_block ?_
      refine T_seq ?_
      refine T_drawn (WH _ _ _) mixed (by intro w h; exact h) ?_
      refine TA_take (dd := (some 17)) 0 rfl (by kernel_rfl) (by kernel_rfl) (by kernel_rfl) rfl rfl rfl (PV_move rfl) ?_
      refine TA_take (dd := (some 18)) 1 rfl (by kernel_rfl) (by kernel_rfl) (by kernel_rfl) rfl rfl rfl (PV_nilCheck rfl) ?_
      refine TA_take (dd := (some 19)) 2 rfl (by kernel_rfl) (by kernel_rfl) (by kernel_rfl) rfl rfl rfl (PV_fieldAddr (D := 6) Try.underlying133 rfl sz3 (by decide) rfl rfl) ?_
      first | (refine TA_take (dd := (some 20)) 3 rfl (by kernel_rfl) (by kernel_rfl) (by kernel_rfl) rfl rfl rfl (PV_load Try.underlying3 rfl rfl (by first | exact Rd.at 0 rfl rfl | exact Rd.at 1 rfl rfl | exact Rd.at 2 rfl rfl | exact Rd.at 3 rfl rfl | exact Rd.at 4 rfl rfl | exact Rd.at 5 rfl rfl | exact Rd.at 6 rfl rfl | exact Rd.at 7 rfl rfl | exact Rd.at 8 rfl rfl)) ?_) | (refine TA_pure1 (dd := (some 20)) 3 (by kernel_rfl) rfl rfl rfl rfl (PV_load Try.underlying3 rfl rfl (by first | exact Rd.at 0 rfl rfl | exact Rd.at 1 rfl rfl | exact Rd.at 2 rfl rfl | exact Rd.at 3 rfl rfl | exact Rd.at 4 rfl rfl | exact Rd.at 5 rfl rfl | exact Rd.at 6 rfl rfl | exact Rd.at 7 rfl rfl | exact Rd.at 8 rfl rfl)) ?_)
      refine TA_take (dd := (some 21)) 4 rfl (by kernel_rfl) (by kernel_rfl) (by kernel_rfl) rfl rfl rfl (PV_move rfl) ?_
      refine TA_take (dd := (some 22)) 5 rfl (by kernel_rfl) (by kernel_rfl) (by kernel_rfl) rfl rfl rfl (PV_nilCheck rfl) ?_
      refine TA_take (dd := (some 23)) 6 rfl (by kernel_rfl) (by kernel_rfl) (by kernel_rfl) rfl rfl rfl (PV_fieldAddr (D := 2) Try.underlying133 rfl sz69 (by decide) rfl rfl) ?_
      first | (refine TA_take (dd := (some 24)) 7 rfl (by kernel_rfl) (by kernel_rfl) (by kernel_rfl) rfl rfl rfl (PV_load Try.underlying69 rfl rfl (by first | exact Rd.at 0 rfl rfl | exact Rd.at 1 rfl rfl | exact Rd.at 2 rfl rfl | exact Rd.at 3 rfl rfl | exact Rd.at 4 rfl rfl | exact Rd.at 5 rfl rfl | exact Rd.at 6 rfl rfl | exact Rd.at 7 rfl rfl | exact Rd.at 8 rfl rfl)) ?_) | (refine TA_pure1 (dd := (some 24)) 7 (by kernel_rfl) rfl rfl rfl rfl (PV_load Try.underlying69 rfl rfl (by first | exact Rd.at 0 rfl rfl | exact Rd.at 1 rfl rfl | exact Rd.at 2 rfl rfl | exact Rd.at 3 rfl rfl | exact Rd.at 4 rfl rfl | exact Rd.at 5 rfl rfl | exact Rd.at 6 rfl rfl | exact Rd.at 7 rfl rfl | exact Rd.at 8 rfl rfl)) ?_)
      refine TA_take (dd := (some 25)) 8 rfl (by kernel_rfl) (by kernel_rfl) (by kernel_rfl) rfl rfl rfl (PV_len_slice Try.underlying69 rfl) ?_
      refine TA_take (dd := (some 26)) 9 rfl (by kernel_rfl) (by kernel_rfl) (by kernel_rfl) rfl rfl rfl (PV_bin rfl rfl bin_lss) ?_
      refine TA_take (dd := (some 16)) 10 rfl (by kernel_rfl) (by kernel_rfl) (by kernel_rfl) rfl rfl rfl (PV_assign rfl) ?_
      refine TA_done (by kernel_rfl) ?_
      -- IF t16
      refine T_else rfl (by exact decide_eq_false (by show ¬ (at_ : Int) < (qs.length : Int); omega)) ?_
      refine T_seq ?_
      refine T_region ?_
      refine TL_pure (d := (some 31)) rfl rfl rfl (PV_move rfl) ?_
      refine TL_pure (d := (some 32)) rfl rfl rfl (PV_nilCheck rfl) ?_
      refine TL_pure (d := (some 33)) rfl rfl rfl (PV_fieldAddr (D := 3) Try.underlying133 rfl sz4 (by decide) rfl rfl) ?_
      refine TL_pure (d := (some 34)) rfl rfl rfl (PV_load Try.underlying4 rfl rfl (by first | exact Rd.at 0 rfl rfl | exact Rd.at 1 rfl rfl | exact Rd.at 2 rfl rfl | exact Rd.at 3 rfl rfl | exact Rd.at 4 rfl rfl | exact Rd.at 5 rfl rfl | exact Rd.at 6 rfl rfl | exact Rd.at 7 rfl rfl | exact Rd.at 8 rfl rfl)) ?_
      refine TL_pure (d := (some 35)) rfl rfl rfl (PV_move rfl) ?_
      -- guard 36 move t0
      refine TL_yes rfl rfl rfl (TO_pure rfl (PV_move rfl) ?_)
      refine TL_yes rfl rfl rfl (TO_pure rfl (PV_nilCheck rfl) ?_)
      refine TL_yes rfl rfl rfl (TO_pure rfl (PV_fieldAddr (D := 5) Try.underlying133 rfl sz131 (by decide) rfl rfl) ?_)
      refine TL_yes rfl rfl rfl (TO_pure rfl (PV_load Try.underlying131 rfl rfl (by first | exact Rd.at 0 rfl rfl | exact Rd.at 1 rfl rfl | exact Rd.at 2 rfl rfl | exact Rd.at 3 rfl rfl | exact Rd.at 4 rfl rfl | exact Rd.at 5 rfl rfl | exact Rd.at 6 rfl rfl | exact Rd.at 7 rfl rfl | exact Rd.at 8 rfl rfl)) ?_)
      refine TL_yes rfl rfl rfl (TO_pure rfl (PV.cast (PV_bin rfl rfl bin_neq) (congrArg Value.bool (show _ = false by rfl))) ?_)
      first | (refine TL_pure (d := (some 41)) rfl rfl rfl (PV_pickAnd rfl rfl rfl) ?_) | (refine TL_pure (d := (some 41)) rfl rfl rfl (PV_pickF rfl (by first | assumption | rfl | (simp; done) | (simp; omega)) rfl rfl) ?_)
      refine TL_pure (d := (some 30)) rfl rfl rfl (PV_assign rfl) ?_
      refine TL_nil ?_
      -- IF t30
      refine T_else rfl (by rfl) ?_
      refine T_seq ?_
      refine T_region ?_
      refine TL_pure (d := (some 14)) rfl rfl rfl (PV_move rfl) ?_
      -- op 15 call F90(t14, cnilIface)
      refine TL_cons rfl (TO_call0 call90 rfl rfl (t90nil ⟨ct, cw, A, c, qs, true, crc, 2, at_, 1, cw, can, err⟩) ?_)
      rintro v15 H15 ⟨A46, k46, rfl, hk46, rfl⟩
      refine TL_pure (d := (some 2)) rfl rfl rfl (PV_assign rfl) ?_
      refine TL_nil ?_
      refine T_ret ?_
      -- ('ret',)
      refine ⟨_, _, ?_, ResV_one rfl rfl, ⟨A46, k46, rfl, hk46, rfl⟩⟩
      repeat (first | exact List.Sublist.refl _ | apply List.Sublist.cons_cons | apply List.Sublist.cons)

theorem Snd.Fit.again {s : Snd} (h : s.Fit) : s.again.Fit := by
  have h2 := h.cw1
  have h3 := h.tr
  have h4 := h.ct1
  unfold Snd.again
  split
  · exact ⟨⟨h.many, h.ct1, h.cw1, ⟨by show (0 : Int) ≤ 3; decide, by show (3 : Int) ≤ 3; decide⟩, h.at1, h.tr, Or.inl rfl⟩, fun e => by exact absurd (show (3 : Int) = 1 from e) (by decide)⟩
  · exact ⟨⟨h.many, h.ct1, h.cw1, h.ph, h.at1, ⟨by show 1 ≤ s.tries + 1; omega, by show s.tries + 1 ≤ 9; omega⟩, Or.inr h2⟩, h.dat⟩
theorem Snd.Blk.again {s : Snd} {W : World → Prop} (h : s.Blk W) : s.again.Blk W := by
  unfold Snd.again
  split <;> exact ⟨h.row, h.all, h.cap, h.num⟩
set_option maxRecDepth 100000 in
theorem t92 {g : Nat} (s : Snd) (hF : s.Fit) (hB : s.Blk (WH w0 B X)) (h12 : s.phase = 1 ∨ s.phase = 2) : TCall Try.prog w0 B 92 #[.pointer (some ⟨g, 0, none⟩)] (fun r H' => Gives s.againOut (sndC g s.again) X r H') (sndC g s :: X) := by
  have hF2 := hF.again
  have hB2 := hB.again
  have htr := hF.tr
  have hct := hF.ct1
  obtain ⟨s', hs'⟩ : ∃ s', s.again = s' := ⟨_, rfl⟩
  obtain ⟨o', ho'⟩ : ∃ o', s.againOut = o' := ⟨_, rfl⟩
  rw [hs'] at hF2 hB2 ⊢
  rw [ho']
  unfold Snd.again at hs'
  unfold Snd.againOut at ho'
  obtain ⟨ct, cw, A, c, qs, close, crc, phase, at_, tries, left, can, err⟩ := s
  dsimp only at hs' ho' htr hct h12
  by_cases ha : tries ≥ ct
  · rw [if_pos ha] at hs' ho'
    subst hs'
    subst ho'
    refine TCall_intro (args := [_]) Try.func92 rfl Try.ntmps92 (Nat.le_of_ble_eq_true rfl) ?_
    refine T_seq ?_
    refine T_region ?_
    refine TL_pure (d := (some 2)) rfl rfl rfl (PV_assign rfl) ?_
    refine TL_nil ?_
    refine T_seq ?_
    refine T_seq ?_
    refine T_drawn (WH _ _ _) mixed (by intro w h; exact h) ?_
    refine TA_take (dd := (some 3)) 0 rfl (by kernel_rfl) (by kernel_rfl) (by kernel_rfl) rfl rfl rfl (PV_move rfl) ?_
    refine TA_take (dd := (some 4)) 1 rfl (by kernel_rfl) (by kernel_rfl) (by kernel_rfl) rfl rfl rfl (PV_nilCheck rfl) ?_
    refine TA_take (dd := (some 5)) 2 rfl (by kernel_rfl) (by kernel_rfl) (by kernel_rfl) rfl rfl rfl (PV_fieldAddr (D := 7) Try.underlying133 rfl sz3 (by decide) rfl rfl) ?_
    first | (refine TA_take (dd := (some 6)) 3 rfl (by kernel_rfl) (by kernel_rfl) (by kernel_rfl) rfl rfl rfl (PV_load Try.underlying3 rfl rfl (by first | exact Rd.at 0 rfl rfl | exact Rd.at 1 rfl rfl | exact Rd.at 2 rfl rfl | exact Rd.at 3 rfl rfl | exact Rd.at 4 rfl rfl | exact Rd.at 5 rfl rfl | exact Rd.at 6 rfl rfl | exact Rd.at 7 rfl rfl | exact Rd.at 8 rfl rfl)) ?_) | (refine TA_pure1 (dd := (some 6)) 3 (by kernel_rfl) rfl rfl rfl rfl (PV_load Try.underlying3 rfl rfl (by first | exact Rd.at 0 rfl rfl | exact Rd.at 1 rfl rfl | exact Rd.at 2 rfl rfl | exact Rd.at 3 rfl rfl | exact Rd.at 4 rfl rfl | exact Rd.at 5 rfl rfl | exact Rd.at 6 rfl rfl | exact Rd.at 7 rfl rfl | exact Rd.at 8 rfl rfl)) ?_)
    refine TA_take (dd := (some 7)) 4 rfl (by kernel_rfl) (by kernel_rfl) (by kernel_rfl) rfl rfl rfl (PV_move rfl) ?_
    refine TA_take (dd := (some 8)) 5 rfl (by kernel_rfl) (by kernel_rfl) (by kernel_rfl) rfl rfl rfl (PV_nilCheck rfl) ?_
    refine TA_take (dd := (some 9)) 6 rfl (by kernel_rfl) (by kernel_rfl) (by kernel_rfl) rfl rfl rfl (PV_fieldAddr (D := 0) Try.underlying133 rfl sz79 (by decide) rfl rfl) ?_
    refine TA_take (dd := (some 10)) 7 rfl (by kernel_rfl) (by kernel_rfl) (by kernel_rfl) rfl rfl rfl (PV_fieldAddr (D := 0) Try.underlying79 rfl sz3 (by decide) rfl rfl) ?_
    first | (refine TA_take (dd := (some 11)) 8 rfl (by kernel_rfl) (by kernel_rfl) (by kernel_rfl) rfl rfl rfl (PV_load Try.underlying3 rfl rfl (by first | exact Rd.at 0 rfl rfl | exact Rd.at 1 rfl rfl | exact Rd.at 2 rfl rfl | exact Rd.at 3 rfl rfl | exact Rd.at 4 rfl rfl | exact Rd.at 5 rfl rfl | exact Rd.at 6 rfl rfl | exact Rd.at 7 rfl rfl | exact Rd.at 8 rfl rfl)) ?_) | (refine TA_pure1 (dd := (some 11)) 8 (by kernel_rfl) rfl rfl rfl rfl (PV_load Try.underlying3 rfl rfl (by first | exact Rd.at 0 rfl rfl | exact Rd.at 1 rfl rfl | exact Rd.at 2 rfl rfl | exact Rd.at 3 rfl rfl | exact Rd.at 4 rfl rfl | exact Rd.at 5 rfl rfl | exact Rd.at 6 rfl rfl | exact Rd.at 7 rfl rfl | exact Rd.at 8 rfl rfl)) ?_)
    refine TA_take (dd := (some 12)) 9 rfl (by kernel_rfl) (by kernel_rfl) (by kernel_rfl) rfl rfl rfl (PV_bin rfl rfl bin_geq) ?_
    refine TA_done (by kernel_rfl) ?_
    -- IF t12
    refine T_then rfl (by exact decide_eq_true ha) ?_
    refine T_seq ?_
    refine T_region ?_
    refine TL_pure (d := (some 13)) rfl rfl rfl (PV_move rfl) ?_
    refine TL_pure (d := (some 14)) rfl rfl rfl (PV_makeInterface (by kernel_rfl) rfl) ?_
    -- op 15 call F90(t13, t14)
    refine TL_cons rfl (TO_call0 call90 rfl rfl (t90tries ⟨ct, cw, A, c, qs, close, crc, phase, at_, tries, left, can, err⟩) ?_)
    rintro v15 H15 ⟨A46, k46, rfl, hk46, rfl⟩
    refine TL_pure (d := (some 2)) rfl rfl rfl (PV_assign rfl) ?_
    refine TL_nil ?_
    refine T_ret ?_
    -- ('ret',)
    refine ⟨_, _, ?_, ResV_one rfl rfl, ⟨A46, k46, rfl, hk46, rfl⟩⟩
    repeat (first | exact List.Sublist.refl _ | apply List.Sublist.cons_cons | apply List.Sublist.cons)
  · rw [if_neg ha] at hs' ho'
    subst hs'
    subst ho'
    refine TCall_intro (args := [_]) Try.func92 rfl Try.ntmps92 (Nat.le_of_ble_eq_true rfl) ?_
    refine T_seq ?_
    refine T_region ?_
    refine TL_pure (d := (some 2)) rfl rfl rfl (PV_assign rfl) ?_
    refine TL_nil ?_
    refine T_seq ?_
    refine T_seq ?_
    refine T_drawn (WH _ _ _) mixed (by intro w h; exact h) ?_
    refine TA_take (dd := (some 3)) 0 rfl (by kernel_rfl) (by kernel_rfl) (by kernel_rfl) rfl rfl rfl (PV_move rfl) ?_
    refine TA_take (dd := (some 4)) 1 rfl (by kernel_rfl) (by kernel_rfl) (by kernel_rfl) rfl rfl rfl (PV_nilCheck rfl) ?_
    refine TA_take (dd := (some 5)) 2 rfl (by kernel_rfl) (by kernel_rfl) (by kernel_rfl) rfl rfl rfl (PV_fieldAddr (D := 7) Try.underlying133 rfl sz3 (by decide) rfl rfl) ?_
    first | (refine TA_take (dd := (some 6)) 3 rfl (by kernel_rfl) (by kernel_rfl) (by kernel_rfl) rfl rfl rfl (PV_load Try.underlying3 rfl rfl (by first | exact Rd.at 0 rfl rfl | exact Rd.at 1 rfl rfl | exact Rd.at 2 rfl rfl | exact Rd.at 3 rfl rfl | exact Rd.at 4 rfl rfl | exact Rd.at 5 rfl rfl | exact Rd.at 6 rfl rfl | exact Rd.at 7 rfl rfl | exact Rd.at 8 rfl rfl)) ?_) | (refine TA_pure1 (dd := (some 6)) 3 (by kernel_rfl) rfl rfl rfl rfl (PV_load Try.underlying3 rfl rfl (by first | exact Rd.at 0 rfl rfl | exact Rd.at 1 rfl rfl | exact Rd.at 2 rfl rfl | exact Rd.at 3 rfl rfl | exact Rd.at 4 rfl rfl | exact Rd.at 5 rfl rfl | exact Rd.at 6 rfl rfl | exact Rd.at 7 rfl rfl | exact Rd.at 8 rfl rfl)) ?_)
    refine TA_take (dd := (some 7)) 4 rfl (by kernel_rfl) (by kernel_rfl) (by kernel_rfl) rfl rfl rfl (PV_move rfl) ?_
    refine TA_take (dd := (some 8)) 5 rfl (by kernel_rfl) (by kernel_rfl) (by kernel_rfl) rfl rfl rfl (PV_nilCheck rfl) ?_
    refine TA_take (dd := (some 9)) 6 rfl (by kernel_rfl) (by kernel_rfl) (by kernel_rfl) rfl rfl rfl (PV_fieldAddr (D := 0) Try.underlying133 rfl sz79 (by decide) rfl rfl) ?_
    refine TA_take (dd := (some 10)) 7 rfl (by kernel_rfl) (by kernel_rfl) (by kernel_rfl) rfl rfl rfl (PV_fieldAddr (D := 0) Try.underlying79 rfl sz3 (by decide) rfl rfl) ?_
    first | (refine TA_take (dd := (some 11)) 8 rfl (by kernel_rfl) (by kernel_rfl) (by kernel_rfl) rfl rfl rfl (PV_load Try.underlying3 rfl rfl (by first | exact Rd.at 0 rfl rfl | exact Rd.at 1 rfl rfl | exact Rd.at 2 rfl rfl | exact Rd.at 3 rfl rfl | exact Rd.at 4 rfl rfl | exact Rd.at 5 rfl rfl | exact Rd.at 6 rfl rfl | exact Rd.at 7 rfl rfl | exact Rd.at 8 rfl rfl)) ?_) | (refine TA_pure1 (dd := (some 11)) 8 (by kernel_rfl) rfl rfl rfl rfl (PV_load Try.underlying3 rfl rfl (by first | exact Rd.at 0 rfl rfl | exact Rd.at 1 rfl rfl | exact Rd.at 2 rfl rfl | exact Rd.at 3 rfl rfl | exact Rd.at 4 rfl rfl | exact Rd.at 5 rfl rfl | exact Rd.at 6 rfl rfl | exact Rd.at 7 rfl rfl | exact Rd.at 8 rfl rfl)) ?_)
    refine TA_take (dd := (some 12)) 9 rfl (by kernel_rfl) (by kernel_rfl) (by kernel_rfl) rfl rfl rfl (PV_bin rfl rfl bin_geq) ?_
    refine TA_done (by kernel_rfl) ?_
    -- IF t12
    refine T_else rfl (by exact decide_eq_false ha) ?_
    refine T_skip ?_
    refine T_seq ?_
    refine T_region ?_
    refine TL_pure (d := (some 16)) rfl rfl rfl (PV_move rfl) ?_
    refine TL_pure (d := (some 17)) rfl rfl rfl (PV_nilCheck rfl) ?_
    refine TL_pure (d := (some 18)) rfl rfl rfl (PV_fieldAddr (D := 7) Try.underlying133 rfl sz3 (by decide) rfl rfl) ?_
    refine TL_pure (d := (some 19)) rfl rfl rfl (PV_load Try.underlying3 rfl rfl (by first | exact Rd.at 0 rfl rfl | exact Rd.at 1 rfl rfl | exact Rd.at 2 rfl rfl | exact Rd.at 3 rfl rfl | exact Rd.at 4 rfl rfl | exact Rd.at 5 rfl rfl | exact Rd.at 6 rfl rfl | exact Rd.at 7 rfl rfl | exact Rd.at 8 rfl rfl)) ?_
    refine TL_pure (d := (some 20)) rfl rfl rfl (PV.cast (PV_bin rfl rfl bin_add) (wr64 (show -9223372036854775808 ≤ tries + 1 ∧ tries + 1 ≤ 9223372036854775807 by omega))) ?_
    refine TL_pure (d := (some 21)) rfl rfl rfl (PV_nilCheck rfl) ?_
    refine TL_pure (d := (some 22)) rfl rfl rfl (PV_fieldAddr (D := 7) Try.underlying133 rfl sz3 (by decide) rfl rfl) ?_
    first | (refine TL_cons rfl (TO_store1 0 rfl rfl rfl sz3 rfl rfl rfl (by first | exact Nat.le_of_ble_eq_true rfl | (simp; done) | (simp; omega) | omega) ?_)) | (refine TL_cons rfl (TO_store1 1 rfl rfl rfl sz3 rfl rfl rfl (by first | exact Nat.le_of_ble_eq_true rfl | (simp; done) | (simp; omega) | omega) ?_)) | (refine TL_cons rfl (TO_store1 2 rfl rfl rfl sz3 rfl rfl rfl (by first | exact Nat.le_of_ble_eq_true rfl | (simp; done) | (simp; omega) | omega) ?_)) | (refine TL_cons rfl (TO_store1 3 rfl rfl rfl sz3 rfl rfl rfl (by first | exact Nat.le_of_ble_eq_true rfl | (simp; done) | (simp; omega) | omega) ?_)) | (refine TL_cons rfl (TO_store1 4 rfl rfl rfl sz3 rfl rfl rfl (by first | exact Nat.le_of_ble_eq_true rfl | (simp; done) | (simp; omega) | omega) ?_)) | (refine TL_cons rfl (TO_store1 5 rfl rfl rfl sz3 rfl rfl rfl (by first | exact Nat.le_of_ble_eq_true rfl | (simp; done) | (simp; omega) | omega) ?_)) | (refine TL_cons rfl (TO_store1 6 rfl rfl rfl sz3 rfl rfl rfl (by first | exact Nat.le_of_ble_eq_true rfl | (simp; done) | (simp; omega) | omega) ?_)) | (refine TL_cons rfl (TO_store1 7 rfl rfl rfl sz3 rfl rfl rfl (by first | exact Nat.le_of_ble_eq_true rfl | (simp; done) | (simp; omega) | omega) ?_)) | (refine TL_cons rfl (TO_store1 8 rfl rfl rfl sz3 rfl rfl rfl (by first | exact Nat.le_of_ble_eq_true rfl | (simp; done) | (simp; omega) | omega) ?_))
    refine TL_nil ?_
    refine T_seq ?_
    refine T_region ?_
    refine TL_pure (d := (some 23)) rfl rfl rfl (PV_move rfl) ?_
    refine TL_pure (d := (some 24)) rfl rfl rfl (PV_move rfl) ?_
    refine TL_pure (d := (some 25)) rfl rfl rfl (PV_nilCheck rfl) ?_
    refine TL_pure (d := (some 26)) rfl rfl rfl (PV_fieldAddr (D := 0) Try.underlying133 rfl sz79 (by decide) rfl rfl) ?_
    refine TL_pure (d := (some 27)) rfl rfl rfl (PV_fieldAddr (D := 1) Try.underlying79 rfl sz3 (by decide) rfl rfl) ?_
    refine TL_pure (d := (some 28)) rfl rfl rfl (PV_load Try.underlying3 rfl rfl (by first | exact Rd.at 0 rfl rfl | exact Rd.at 1 rfl rfl | exact Rd.at 2 rfl rfl | exact Rd.at 3 rfl rfl | exact Rd.at 4 rfl rfl | exact Rd.at 5 rfl rfl | exact Rd.at 6 rfl rfl | exact Rd.at 7 rfl rfl | exact Rd.at 8 rfl rfl)) ?_
    refine TL_pure (d := (some 29)) rfl rfl rfl (PV_nilCheck rfl) ?_
    refine TL_pure (d := (some 30)) rfl rfl rfl (PV_fieldAddr (D := 8) Try.underlying133 rfl sz3 (by decide) rfl rfl) ?_
    first | (refine TL_cons rfl (TO_store1 0 rfl rfl rfl sz3 rfl rfl rfl (by first | exact Nat.le_of_ble_eq_true rfl | (simp; done) | (simp; omega) | omega) ?_)) | (refine TL_cons rfl (TO_store1 1 rfl rfl rfl sz3 rfl rfl rfl (by first | exact Nat.le_of_ble_eq_true rfl | (simp; done) | (simp; omega) | omega) ?_)) | (refine TL_cons rfl (TO_store1 2 rfl rfl rfl sz3 rfl rfl rfl (by first | exact Nat.le_of_ble_eq_true rfl | (simp; done) | (simp; omega) | omega) ?_)) | (refine TL_cons rfl (TO_store1 3 rfl rfl rfl sz3 rfl rfl rfl (by first | exact Nat.le_of_ble_eq_true rfl | (simp; done) | (simp; omega) | omega) ?_)) | (refine TL_cons rfl (TO_store1 4 rfl rfl rfl sz3 rfl rfl rfl (by first | exact Nat.le_of_ble_eq_true rfl | (simp; done) | (simp; omega) | omega) ?_)) | (refine TL_cons rfl (TO_store1 5 rfl rfl rfl sz3 rfl rfl rfl (by first | exact Nat.le_of_ble_eq_true rfl | (simp; done) | (simp; omega) | omega) ?_)) | (refine TL_cons rfl (TO_store1 6 rfl rfl rfl sz3 rfl rfl rfl (by first | exact Nat.le_of_ble_eq_true rfl | (simp; done) | (simp; omega) | omega) ?_)) | (refine TL_cons rfl (TO_store1 7 rfl rfl rfl sz3 rfl rfl rfl (by first | exact Nat.le_of_ble_eq_true rfl | (simp; done) | (simp; omega) | omega) ?_)) | (refine TL_cons rfl (TO_store1 8 rfl rfl rfl sz3 rfl rfl rfl (by first | exact Nat.le_of_ble_eq_true rfl | (simp; done) | (simp; omega) | omega) ?_))
    refine TL_nil ?_
    refine T_seq ?_
    refine T_region ?_
    refine TL_pure (d := (some 31)) rfl rfl rfl (PV_move rfl) ?_
    -- op 32 call F101(t31)
    refine TL_cons rfl (TO_call0 call101 rfl rfl (t101 _ hF2 hB2 h12) ?_)
    rintro v32 H32 ⟨A46, k46, rfl, hk46, rfl⟩
    refine TL_pure (d := (some 2)) rfl rfl rfl (PV_assign rfl) ?_
    refine TL_nil ?_
    refine T_ret ?_
    -- ('ret',)
    refine ⟨_, _, ?_, ResV_one rfl rfl, ⟨A46, k46, rfl, hk46, rfl⟩⟩
    repeat (first | exact List.Sublist.refl _ | apply List.Sublist.cons_cons | apply List.Sublist.cons)
def Snd.tick (s : Snd) : Snd := if s.phase = 3 then s else if s.left - 1 > 0 then { s with left := s.left - 1 } else ({ s with left := s.left - 1 } : Snd).again
def Snd.tickOut (s : Snd) : List Int := if s.phase = 3 then [] else if s.left - 1 > 0 then [] else ({ s with left := s.left - 1 } : Snd).againOut
def Snd.put1 (s : Snd) (c : Int) : Snd := { s with can := c == 24 }
/-- what a byte does that goes on -/
def Snd.go (s : Snd) (c : Int) : Option Snd := if s.phase = 3 then none else if s.can = true ∧ c = 24 then none else if s.phase = 0 then (if c = 21 then some { s.put1 c with crc := false } else if c = 67 ∧ s.crc = true then some { s.put1 c with crc := true } else none) else if c = 6 then (if s.phase = 1 then some { s.put1 c with at_ := s.at_ + 1 } else some (s.put1 c)) else none
def Snd.put (s : Snd) (c : Int) : Snd := match s.go c with
  | some t => t.next
  | none => if s.phase = 3 then s.put1 c else if s.can = true ∧ c = 24 then { s.put1 c with phase := 3, err := .iface 135 (.int .i64 9) } else if s.phase ≠ 0 ∧ c = 21 then (s.put1 c).again else s.put1 c
def Snd.putOut (s : Snd) (c : Int) : List Int := match s.go c with
  | some t => t.next.now
  | none => if s.phase = 3 then [] else if s.can = true ∧ c = 24 then [] else if s.phase ≠ 0 ∧ c = 21 then (s.put1 c).againOut else []
set_option maxRecDepth 100000 in
theorem t59start {g : Nat} (s : Snd) (c : Int) (hF : s.Fit) (hB : s.Blk (WH w0 B X)) (h0 : s.phase = 0) (hc : c = 21 ∨ c = 67 ∧ s.crc = true) : TCall Try.prog w0 B 59 #[.pointer (some ⟨g, 0, none⟩), .int .u8 c] (fun r H' => Gives ({ s.put1 c with crc := c == 67 } : Snd).next.now (sndC g ({ s.put1 c with crc := c == 67 } : Snd).next) X r H') (sndC g s :: X) := by
  have hF2 : ({ s.put1 c with crc := c == 67 } : Snd).Fit0 := ⟨hF.many, hF.ct1, hF.cw1, hF.ph, hF.at1, hF.tr, hF.lf⟩
  have hB2 : ({ s.put1 c with crc := c == 67 } : Snd).Blk (WH w0 B X) := ⟨hB.row, hB.all, hB.cap, hB.num⟩
  obtain ⟨ct, cw, A, c, qs, close, crc, phase, at_, tries, left, can, err⟩ := s
  unfold Snd.put1 at *
  dsimp only at h0 hc hF2 hB2
  subst h0
  rcases hc with rfl | ⟨rfl, rfl⟩
  · cases can with
    | false =>
      refine TCall_intro (args := [_, _]) Try.func59 rfl Try.ntmps59 (Nat.le_of_ble_eq_true rfl) ?_
      refine T_seq ?_
      refine T_region ?_
      refine TL_pure (d := (some 4)) rfl rfl rfl (PV_assign rfl) ?_
      refine TL_nil ?_
      refine T_seq ?_
      refine T_region ?_
      refine TL_pure (d := (some 6)) rfl rfl rfl (PV_move rfl) ?_
      refine TL_pure (d := (some 7)) rfl rfl rfl (PV_nilCheck rfl) ?_
      refine TL_pure (d := (some 8)) rfl rfl rfl (PV_fieldAddr (D := 9) Try.underlying133 rfl sz4 (by decide) rfl rfl) ?_
      refine TL_pure (d := (some 9)) rfl rfl rfl (PV_load Try.underlying4 rfl rfl (by first | exact Rd.at 0 rfl rfl | exact Rd.at 1 rfl rfl | exact Rd.at 2 rfl rfl | exact Rd.at 3 rfl rfl | exact Rd.at 4 rfl rfl | exact Rd.at 5 rfl rfl | exact Rd.at 6 rfl rfl | exact Rd.at 7 rfl rfl | exact Rd.at 8 rfl rfl)) ?_
      refine TL_pure (d := (some 10)) rfl rfl rfl (PV_move rfl) ?_
      -- guard 11 move t1
      refine TL_no (b := false) rfl rfl rfl rfl ?_
      refine TL_no (b := false) rfl rfl rfl rfl ?_
      first | (refine TL_pure (d := (some 13)) rfl rfl rfl (PV_pickAnd rfl rfl rfl) ?_) | (refine TL_pure (d := (some 13)) rfl rfl rfl (PV_pickF rfl (by first | assumption | rfl | (simp; done) | (simp; omega)) rfl rfl) ?_)
      refine TL_pure (d := (some 5)) rfl rfl rfl (PV_assign rfl) ?_
      refine TL_nil ?_
      refine T_seq ?_
      refine T_region ?_
      refine TL_pure (d := (some 14)) rfl rfl rfl (PV_move rfl) ?_
      refine TL_pure (d := (some 15)) rfl rfl rfl (PV_move rfl) ?_
      refine TL_pure (d := (some 16)) rfl rfl rfl (PV_bin rfl rfl bin_eql) ?_
      refine TL_pure (d := (some 17)) rfl rfl rfl (PV_nilCheck rfl) ?_
      refine TL_pure (d := (some 18)) rfl rfl rfl (PV_fieldAddr (D := 9) Try.underlying133 rfl sz4 (by decide) rfl rfl) ?_
      first | (refine TL_cons rfl (TO_store1 0 rfl rfl rfl sz4 rfl rfl rfl (by first | exact Nat.le_of_ble_eq_true rfl | (simp; done) | (simp; omega) | omega) ?_)) | (refine TL_cons rfl (TO_store1 1 rfl rfl rfl sz4 rfl rfl rfl (by first | exact Nat.le_of_ble_eq_true rfl | (simp; done) | (simp; omega) | omega) ?_)) | (refine TL_cons rfl (TO_store1 2 rfl rfl rfl sz4 rfl rfl rfl (by first | exact Nat.le_of_ble_eq_true rfl | (simp; done) | (simp; omega) | omega) ?_)) | (refine TL_cons rfl (TO_store1 3 rfl rfl rfl sz4 rfl rfl rfl (by first | exact Nat.le_of_ble_eq_true rfl | (simp; done) | (simp; omega) | omega) ?_)) | (refine TL_cons rfl (TO_store1 4 rfl rfl rfl sz4 rfl rfl rfl (by first | exact Nat.le_of_ble_eq_true rfl | (simp; done) | (simp; omega) | omega) ?_)) | (refine TL_cons rfl (TO_store1 5 rfl rfl rfl sz4 rfl rfl rfl (by first | exact Nat.le_of_ble_eq_true rfl | (simp; done) | (simp; omega) | omega) ?_)) | (refine TL_cons rfl (TO_store1 6 rfl rfl rfl sz4 rfl rfl rfl (by first | exact Nat.le_of_ble_eq_true rfl | (simp; done) | (simp; omega) | omega) ?_)) | (refine TL_cons rfl (TO_store1 7 rfl rfl rfl sz4 rfl rfl rfl (by first | exact Nat.le_of_ble_eq_true rfl | (simp; done) | (simp; omega) | omega) ?_)) | (refine TL_cons rfl (TO_store1 8 rfl rfl rfl sz4 rfl rfl rfl (by first | exact Nat.le_of_ble_eq_true rfl | (simp; done) | (simp; omega) | omega) ?_))
      refine TL_nil ?_
      refine T_seq ?_
      refine T_block ?_
      refine T_seq ?_
      refine T_region ?_
      refine TL_pure (d := (some 20)) rfl rfl rfl (PV_move rfl) ?_
      refine TL_pure (d := (some 21)) rfl rfl rfl (PV_nilCheck rfl) ?_
      refine TL_pure (d := (some 22)) rfl rfl rfl (PV_fieldAddr (D := 5) Try.underlying133 rfl sz131 (by decide) rfl rfl) ?_
      refine TL_pure (d := (some 23)) rfl rfl rfl (PV_load Try.underlying131 rfl rfl (by first | exact Rd.at 0 rfl rfl | exact Rd.at 1 rfl rfl | exact Rd.at 2 rfl rfl | exact Rd.at 3 rfl rfl | exact Rd.at 4 rfl rfl | exact Rd.at 5 rfl rfl | exact Rd.at 6 rfl rfl | exact Rd.at 7 rfl rfl | exact Rd.at 8 rfl rfl)) ?_
      refine TL_pure (d := (some 24)) rfl rfl rfl (PV_bin rfl rfl bin_eql) ?_
      refine TL_pure (d := (some 19)) rfl rfl rfl (PV_assign rfl) ?_
      refine TL_nil ?_
      -- IF t19
      refine T_else rfl (by rfl) ?_
      refine T_seq ?_
      refine T_region ?_
      refine TL_pure (d := (some 26)) rfl rfl rfl (PV_move rfl) ?_
      refine TL_pure (d := (some 25)) rfl rfl rfl (PV_assign rfl) ?_
      refine TL_nil ?_
      -- IF t25
      refine T_else rfl (by rfl) ?_
      refine T_seq ?_
      refine T_region ?_
      refine TL_pure (d := (some 31)) rfl rfl rfl (PV_move rfl) ?_
      refine TL_pure (d := (some 32)) rfl rfl rfl (PV_nilCheck rfl) ?_
      refine TL_pure (d := (some 33)) rfl rfl rfl (PV_fieldAddr (D := 5) Try.underlying133 rfl sz131 (by decide) rfl rfl) ?_
      refine TL_pure (d := (some 34)) rfl rfl rfl (PV_load Try.underlying131 rfl rfl (by first | exact Rd.at 0 rfl rfl | exact Rd.at 1 rfl rfl | exact Rd.at 2 rfl rfl | exact Rd.at 3 rfl rfl | exact Rd.at 4 rfl rfl | exact Rd.at 5 rfl rfl | exact Rd.at 6 rfl rfl | exact Rd.at 7 rfl rfl | exact Rd.at 8 rfl rfl)) ?_
      refine TL_pure (d := (some 35)) rfl rfl rfl (PV.cast (PV_bin rfl rfl bin_eql) (congrArg Value.bool (show _ = true by rfl))) ?_
      refine TL_pure (d := (some 36)) rfl rfl rfl (PV_move rfl) ?_
      -- guard 37 move t1
      refine TL_yes rfl rfl rfl (TO_pure rfl (PV_move rfl) ?_)
      refine TL_yes rfl rfl rfl (TO_pure rfl (PV.cast (PV_bin rfl rfl bin_eql) (congrArg Value.bool (show _ = true by rfl))) ?_)
      refine TL_yes rfl rfl rfl (TO_pure rfl (PV_move rfl) ?_)
      refine TL_no (b := true) rfl rfl rfl rfl ?_
      refine TL_no (b := true) rfl rfl rfl rfl ?_
      refine TL_no (b := true) rfl rfl rfl rfl ?_
      refine TL_noU rfl rfl rfl rfl ?_
      refine TL_noU rfl rfl rfl rfl ?_
      refine TL_noU rfl rfl rfl rfl ?_
      refine TL_noU rfl rfl rfl rfl ?_
      refine TL_no (b := true) rfl rfl rfl rfl ?_
      first | (refine TL_yes rfl rfl rfl (TO_pure rfl (PV_pickOr rfl rfl rfl) ?_)) | (refine TL_yes rfl rfl rfl (TO_pure rfl (PV_pickT rfl (by first | assumption | rfl | (simp; done) | (simp; omega)) rfl rfl) ?_))
      first | (refine TL_pure (d := (some 49)) rfl rfl rfl (PV_pickAnd rfl rfl rfl) ?_) | (refine TL_pure (d := (some 49)) rfl rfl rfl (PV_pickF rfl (by first | assumption | rfl | (simp; done) | (simp; omega)) rfl rfl) ?_)
      refine TL_pure (d := (some 30)) rfl rfl rfl (PV_assign rfl) ?_
      refine TL_nil ?_
      -- IF t30
      refine T_then rfl (by rfl) ?_
      refine T_seq ?_
      refine T_region ?_
      refine TL_pure (d := (some 50)) rfl rfl rfl (PV_move rfl) ?_
      refine TL_pure (d := (some 51)) rfl rfl rfl (PV_move rfl) ?_
      refine TL_pure (d := (some 52)) rfl rfl rfl (PV_bin rfl rfl bin_eql) ?_
      refine TL_pure (d := (some 53)) rfl rfl rfl (PV_nilCheck rfl) ?_
      refine TL_pure (d := (some 54)) rfl rfl rfl (PV_fieldAddr (D := 4) Try.underlying133 rfl sz4 (by decide) rfl rfl) ?_
      first | (refine TL_cons rfl (TO_store1 0 rfl rfl rfl sz4 rfl rfl rfl (by first | exact Nat.le_of_ble_eq_true rfl | (simp; done) | (simp; omega) | omega) ?_)) | (refine TL_cons rfl (TO_store1 1 rfl rfl rfl sz4 rfl rfl rfl (by first | exact Nat.le_of_ble_eq_true rfl | (simp; done) | (simp; omega) | omega) ?_)) | (refine TL_cons rfl (TO_store1 2 rfl rfl rfl sz4 rfl rfl rfl (by first | exact Nat.le_of_ble_eq_true rfl | (simp; done) | (simp; omega) | omega) ?_)) | (refine TL_cons rfl (TO_store1 3 rfl rfl rfl sz4 rfl rfl rfl (by first | exact Nat.le_of_ble_eq_true rfl | (simp; done) | (simp; omega) | omega) ?_)) | (refine TL_cons rfl (TO_store1 4 rfl rfl rfl sz4 rfl rfl rfl (by first | exact Nat.le_of_ble_eq_true rfl | (simp; done) | (simp; omega) | omega) ?_)) | (refine TL_cons rfl (TO_store1 5 rfl rfl rfl sz4 rfl rfl rfl (by first | exact Nat.le_of_ble_eq_true rfl | (simp; done) | (simp; omega) | omega) ?_)) | (refine TL_cons rfl (TO_store1 6 rfl rfl rfl sz4 rfl rfl rfl (by first | exact Nat.le_of_ble_eq_true rfl | (simp; done) | (simp; omega) | omega) ?_)) | (refine TL_cons rfl (TO_store1 7 rfl rfl rfl sz4 rfl rfl rfl (by first | exact Nat.le_of_ble_eq_true rfl | (simp; done) | (simp; omega) | omega) ?_)) | (refine TL_cons rfl (TO_store1 8 rfl rfl rfl sz4 rfl rfl rfl (by first | exact Nat.le_of_ble_eq_true rfl | (simp; done) | (simp; omega) | omega) ?_))
      refine TL_nil ?_
      refine T_seq ?_
      refine T_region ?_
      refine TL_pure (d := (some 55)) rfl rfl rfl (PV_move rfl) ?_
      -- op 56 call F91(t55)
      refine TL_cons rfl (TO_call0 call91 rfl rfl (t91 _ hF2 hB2) ?_)
      rintro v56 H56 ⟨A46, k46, rfl, hk46, rfl⟩
      refine TL_pure (d := (some 4)) rfl rfl rfl (PV_assign rfl) ?_
      refine TL_nil ?_
      refine T_ret ?_
      -- ('ret',)
      refine ⟨_, _, ?_, ResV_one rfl rfl, ⟨A46, k46, rfl, hk46, rfl⟩⟩
      repeat (first | exact List.Sublist.refl _ | apply List.Sublist.cons_cons | apply List.Sublist.cons)
    | true =>
      refine TCall_intro (args := [_, _]) Try.func59 rfl Try.ntmps59 (Nat.le_of_ble_eq_true rfl) ?_
      refine T_seq ?_
      refine T_region ?_
      refine TL_pure (d := (some 4)) rfl rfl rfl (PV_assign rfl) ?_
      refine TL_nil ?_
      refine T_seq ?_
      refine T_region ?_
      refine TL_pure (d := (some 6)) rfl rfl rfl (PV_move rfl) ?_
      refine TL_pure (d := (some 7)) rfl rfl rfl (PV_nilCheck rfl) ?_
      refine TL_pure (d := (some 8)) rfl rfl rfl (PV_fieldAddr (D := 9) Try.underlying133 rfl sz4 (by decide) rfl rfl) ?_
      refine TL_pure (d := (some 9)) rfl rfl rfl (PV_load Try.underlying4 rfl rfl (by first | exact Rd.at 0 rfl rfl | exact Rd.at 1 rfl rfl | exact Rd.at 2 rfl rfl | exact Rd.at 3 rfl rfl | exact Rd.at 4 rfl rfl | exact Rd.at 5 rfl rfl | exact Rd.at 6 rfl rfl | exact Rd.at 7 rfl rfl | exact Rd.at 8 rfl rfl)) ?_
      refine TL_pure (d := (some 10)) rfl rfl rfl (PV_move rfl) ?_
      -- guard 11 move t1
      -- guard 11 move t1
      refine TL_yes rfl rfl rfl (TO_pure rfl (PV_move rfl) ?_)
      refine TL_yes rfl rfl rfl (TO_pure rfl (PV.cast (PV_bin rfl rfl bin_eql) (congrArg Value.bool (show _ = false by rfl))) ?_)
      first | (refine TL_pure (d := (some 13)) rfl rfl rfl (PV_pickAnd rfl rfl rfl) ?_) | (refine TL_pure (d := (some 13)) rfl rfl rfl (PV_pickF rfl (by first | assumption | rfl | (simp; done) | (simp; omega)) rfl rfl) ?_)
      refine TL_pure (d := (some 5)) rfl rfl rfl (PV_assign rfl) ?_
      refine TL_nil ?_
      refine T_seq ?_
      refine T_region ?_
      refine TL_pure (d := (some 14)) rfl rfl rfl (PV_move rfl) ?_
      refine TL_pure (d := (some 15)) rfl rfl rfl (PV_move rfl) ?_
      refine TL_pure (d := (some 16)) rfl rfl rfl (PV_bin rfl rfl bin_eql) ?_
      refine TL_pure (d := (some 17)) rfl rfl rfl (PV_nilCheck rfl) ?_
      refine TL_pure (d := (some 18)) rfl rfl rfl (PV_fieldAddr (D := 9) Try.underlying133 rfl sz4 (by decide) rfl rfl) ?_
      first | (refine TL_cons rfl (TO_store1 0 rfl rfl rfl sz4 rfl rfl rfl (by first | exact Nat.le_of_ble_eq_true rfl | (simp; done) | (simp; omega) | omega) ?_)) | (refine TL_cons rfl (TO_store1 1 rfl rfl rfl sz4 rfl rfl rfl (by first | exact Nat.le_of_ble_eq_true rfl | (simp; done) | (simp; omega) | omega) ?_)) | (refine TL_cons rfl (TO_store1 2 rfl rfl rfl sz4 rfl rfl rfl (by first | exact Nat.le_of_ble_eq_true rfl | (simp; done) | (simp; omega) | omega) ?_)) | (refine TL_cons rfl (TO_store1 3 rfl rfl rfl sz4 rfl rfl rfl (by first | exact Nat.le_of_ble_eq_true rfl | (simp; done) | (simp; omega) | omega) ?_)) | (refine TL_cons rfl (TO_store1 4 rfl rfl rfl sz4 rfl rfl rfl (by first | exact Nat.le_of_ble_eq_true rfl | (simp; done) | (simp; omega) | omega) ?_)) | (refine TL_cons rfl (TO_store1 5 rfl rfl rfl sz4 rfl rfl rfl (by first | exact Nat.le_of_ble_eq_true rfl | (simp; done) | (simp; omega) | omega) ?_)) | (refine TL_cons rfl (TO_store1 6 rfl rfl rfl sz4 rfl rfl rfl (by first | exact Nat.le_of_ble_eq_true rfl | (simp; done) | (simp; omega) | omega) ?_)) | (refine TL_cons rfl (TO_store1 7 rfl rfl rfl sz4 rfl rfl rfl (by first | exact Nat.le_of_ble_eq_true rfl | (simp; done) | (simp; omega) | omega) ?_)) | (refine TL_cons rfl (TO_store1 8 rfl rfl rfl sz4 rfl rfl rfl (by first | exact Nat.le_of_ble_eq_true rfl | (simp; done) | (simp; omega) | omega) ?_))
      refine TL_nil ?_
      refine T_seq ?_
      refine T_block ?_
      refine T_seq ?_
      refine T_region ?_
      refine TL_pure (d := (some 20)) rfl rfl rfl (PV_move rfl) ?_
      refine TL_pure (d := (some 21)) rfl rfl rfl (PV_nilCheck rfl) ?_
      refine TL_pure (d := (some 22)) rfl rfl rfl (PV_fieldAddr (D := 5) Try.underlying133 rfl sz131 (by decide) rfl rfl) ?_
      refine TL_pure (d := (some 23)) rfl rfl rfl (PV_load Try.underlying131 rfl rfl (by first | exact Rd.at 0 rfl rfl | exact Rd.at 1 rfl rfl | exact Rd.at 2 rfl rfl | exact Rd.at 3 rfl rfl | exact Rd.at 4 rfl rfl | exact Rd.at 5 rfl rfl | exact Rd.at 6 rfl rfl | exact Rd.at 7 rfl rfl | exact Rd.at 8 rfl rfl)) ?_
      refine TL_pure (d := (some 24)) rfl rfl rfl (PV_bin rfl rfl bin_eql) ?_
      refine TL_pure (d := (some 19)) rfl rfl rfl (PV_assign rfl) ?_
      refine TL_nil ?_
      -- IF t19
      refine T_else rfl (by rfl) ?_
      refine T_seq ?_
      refine T_region ?_
      refine TL_pure (d := (some 26)) rfl rfl rfl (PV_move rfl) ?_
      refine TL_pure (d := (some 25)) rfl rfl rfl (PV_assign rfl) ?_
      refine TL_nil ?_
      -- IF t25
      refine T_else rfl (by rfl) ?_
      refine T_seq ?_
      refine T_region ?_
      refine TL_pure (d := (some 31)) rfl rfl rfl (PV_move rfl) ?_
      refine TL_pure (d := (some 32)) rfl rfl rfl (PV_nilCheck rfl) ?_
      refine TL_pure (d := (some 33)) rfl rfl rfl (PV_fieldAddr (D := 5) Try.underlying133 rfl sz131 (by decide) rfl rfl) ?_
      refine TL_pure (d := (some 34)) rfl rfl rfl (PV_load Try.underlying131 rfl rfl (by first | exact Rd.at 0 rfl rfl | exact Rd.at 1 rfl rfl | exact Rd.at 2 rfl rfl | exact Rd.at 3 rfl rfl | exact Rd.at 4 rfl rfl | exact Rd.at 5 rfl rfl | exact Rd.at 6 rfl rfl | exact Rd.at 7 rfl rfl | exact Rd.at 8 rfl rfl)) ?_
      refine TL_pure (d := (some 35)) rfl rfl rfl (PV.cast (PV_bin rfl rfl bin_eql) (congrArg Value.bool (show _ = true by rfl))) ?_
      refine TL_pure (d := (some 36)) rfl rfl rfl (PV_move rfl) ?_
      -- guard 37 move t1
      refine TL_yes rfl rfl rfl (TO_pure rfl (PV_move rfl) ?_)
      refine TL_yes rfl rfl rfl (TO_pure rfl (PV.cast (PV_bin rfl rfl bin_eql) (congrArg Value.bool (show _ = true by rfl))) ?_)
      refine TL_yes rfl rfl rfl (TO_pure rfl (PV_move rfl) ?_)
      refine TL_no (b := true) rfl rfl rfl rfl ?_
      refine TL_no (b := true) rfl rfl rfl rfl ?_
      refine TL_no (b := true) rfl rfl rfl rfl ?_
      refine TL_noU rfl rfl rfl rfl ?_
      refine TL_noU rfl rfl rfl rfl ?_
      refine TL_noU rfl rfl rfl rfl ?_
      refine TL_noU rfl rfl rfl rfl ?_
      refine TL_no (b := true) rfl rfl rfl rfl ?_
      first | (refine TL_yes rfl rfl rfl (TO_pure rfl (PV_pickOr rfl rfl rfl) ?_)) | (refine TL_yes rfl rfl rfl (TO_pure rfl (PV_pickT rfl (by first | assumption | rfl | (simp; done) | (simp; omega)) rfl rfl) ?_))
      first | (refine TL_pure (d := (some 49)) rfl rfl rfl (PV_pickAnd rfl rfl rfl) ?_) | (refine TL_pure (d := (some 49)) rfl rfl rfl (PV_pickF rfl (by first | assumption | rfl | (simp; done) | (simp; omega)) rfl rfl) ?_)
      refine TL_pure (d := (some 30)) rfl rfl rfl (PV_assign rfl) ?_
      refine TL_nil ?_
      -- IF t30
      refine T_then rfl (by rfl) ?_
      refine T_seq ?_
      refine T_region ?_
      refine TL_pure (d := (some 50)) rfl rfl rfl (PV_move rfl) ?_
      refine TL_pure (d := (some 51)) rfl rfl rfl (PV_move rfl) ?_
      refine TL_pure (d := (some 52)) rfl rfl rfl (PV_bin rfl rfl bin_eql) ?_
      refine TL_pure (d := (some 53)) rfl rfl rfl (PV_nilCheck rfl) ?_
      refine TL_pure (d := (some 54)) rfl rfl rfl (PV_fieldAddr (D := 4) Try.underlying133 rfl sz4 (by decide) rfl rfl) ?_
      first | (refine TL_cons rfl (TO_store1 0 rfl rfl rfl sz4 rfl rfl rfl (by first | exact Nat.le_of_ble_eq_true rfl | (simp; done) | (simp; omega) | omega) ?_)) | (refine TL_cons rfl (TO_store1 1 rfl rfl rfl sz4 rfl rfl rfl (by first | exact Nat.le_of_ble_eq_true rfl | (simp; done) | (simp; omega) | omega) ?_)) | (refine TL_cons rfl (TO_store1 2 rfl rfl rfl sz4 rfl rfl rfl (by first | exact Nat.le_of_ble_eq_true rfl | (simp; done) | (simp; omega) | omega) ?_)) | (refine TL_cons rfl (TO_store1 3 rfl rfl rfl sz4 rfl rfl rfl (by first | exact Nat.le_of_ble_eq_true rfl | (simp; done) | (simp; omega) | omega) ?_)) | (refine TL_cons rfl (TO_store1 4 rfl rfl rfl sz4 rfl rfl rfl (by first | exact Nat.le_of_ble_eq_true rfl | (simp; done) | (simp; omega) | omega) ?_)) | (refine TL_cons rfl (TO_store1 5 rfl rfl rfl sz4 rfl rfl rfl (by first | exact Nat.le_of_ble_eq_true rfl | (simp; done) | (simp; omega) | omega) ?_)) | (refine TL_cons rfl (TO_store1 6 rfl rfl rfl sz4 rfl rfl rfl (by first | exact Nat.le_of_ble_eq_true rfl | (simp; done) | (simp; omega) | omega) ?_)) | (refine TL_cons rfl (TO_store1 7 rfl rfl rfl sz4 rfl rfl rfl (by first | exact Nat.le_of_ble_eq_true rfl | (simp; done) | (simp; omega) | omega) ?_)) | (refine TL_cons rfl (TO_store1 8 rfl rfl rfl sz4 rfl rfl rfl (by first | exact Nat.le_of_ble_eq_true rfl | (simp; done) | (simp; omega) | omega) ?_))
      refine TL_nil ?_
      refine T_seq ?_
      refine T_region ?_
      refine TL_pure (d := (some 55)) rfl rfl rfl (PV_move rfl) ?_
      -- op 56 call F91(t55)
      refine TL_cons rfl (TO_call0 call91 rfl rfl (t91 _ hF2 hB2) ?_)
      rintro v56 H56 ⟨A46, k46, rfl, hk46, rfl⟩
      refine TL_pure (d := (some 4)) rfl rfl rfl (PV_assign rfl) ?_
      refine TL_nil ?_
      refine T_ret ?_
      -- ('ret',)
      refine ⟨_, _, ?_, ResV_one rfl rfl, ⟨A46, k46, rfl, hk46, rfl⟩⟩
      repeat (first | exact List.Sublist.refl _ | apply List.Sublist.cons_cons | apply List.Sublist.cons)
  · cases can with
    | false =>
      refine TCall_intro (args := [_, _]) Try.func59 rfl Try.ntmps59 (Nat.le_of_ble_eq_true rfl) ?_
      refine T_seq ?_
      refine T_region ?_
      refine TL_pure (d := (some 4)) rfl rfl rfl (PV_assign rfl) ?_
      refine TL_nil ?_
      refine T_seq ?_
      refine T_region ?_
      refine TL_pure (d := (some 6)) rfl rfl rfl (PV_move rfl) ?_
      refine TL_pure (d := (some 7)) rfl rfl rfl (PV_nilCheck rfl) ?_
      refine TL_pure (d := (some 8)) rfl rfl rfl (PV_fieldAddr (D := 9) Try.underlying133 rfl sz4 (by decide) rfl rfl) ?_
      refine TL_pure (d := (some 9)) rfl rfl rfl (PV_load Try.underlying4 rfl rfl (by first | exact Rd.at 0 rfl rfl | exact Rd.at 1 rfl rfl | exact Rd.at 2 rfl rfl | exact Rd.at 3 rfl rfl | exact Rd.at 4 rfl rfl | exact Rd.at 5 rfl rfl | exact Rd.at 6 rfl rfl | exact Rd.at 7 rfl rfl | exact Rd.at 8 rfl rfl)) ?_
      refine TL_pure (d := (some 10)) rfl rfl rfl (PV_move rfl) ?_
      -- guard 11 move t1
      refine TL_no (b := false) rfl rfl rfl rfl ?_
      refine TL_no (b := false) rfl rfl rfl rfl ?_
      first | (refine TL_pure (d := (some 13)) rfl rfl rfl (PV_pickAnd rfl rfl rfl) ?_) | (refine TL_pure (d := (some 13)) rfl rfl rfl (PV_pickF rfl (by first | assumption | rfl | (simp; done) | (simp; omega)) rfl rfl) ?_)
      refine TL_pure (d := (some 5)) rfl rfl rfl (PV_assign rfl) ?_
      refine TL_nil ?_
      refine T_seq ?_
      refine T_region ?_
      refine TL_pure (d := (some 14)) rfl rfl rfl (PV_move rfl) ?_
      refine TL_pure (d := (some 15)) rfl rfl rfl (PV_move rfl) ?_
      refine TL_pure (d := (some 16)) rfl rfl rfl (PV_bin rfl rfl bin_eql) ?_
      refine TL_pure (d := (some 17)) rfl rfl rfl (PV_nilCheck rfl) ?_
      refine TL_pure (d := (some 18)) rfl rfl rfl (PV_fieldAddr (D := 9) Try.underlying133 rfl sz4 (by decide) rfl rfl) ?_
      first | (refine TL_cons rfl (TO_store1 0 rfl rfl rfl sz4 rfl rfl rfl (by first | exact Nat.le_of_ble_eq_true rfl | (simp; done) | (simp; omega) | omega) ?_)) | (refine TL_cons rfl (TO_store1 1 rfl rfl rfl sz4 rfl rfl rfl (by first | exact Nat.le_of_ble_eq_true rfl | (simp; done) | (simp; omega) | omega) ?_)) | (refine TL_cons rfl (TO_store1 2 rfl rfl rfl sz4 rfl rfl rfl (by first | exact Nat.le_of_ble_eq_true rfl | (simp; done) | (simp; omega) | omega) ?_)) | (refine TL_cons rfl (TO_store1 3 rfl rfl rfl sz4 rfl rfl rfl (by first | exact Nat.le_of_ble_eq_true rfl | (simp; done) | (simp; omega) | omega) ?_)) | (refine TL_cons rfl (TO_store1 4 rfl rfl rfl sz4 rfl rfl rfl (by first | exact Nat.le_of_ble_eq_true rfl | (simp; done) | (simp; omega) | omega) ?_)) | (refine TL_cons rfl (TO_store1 5 rfl rfl rfl sz4 rfl rfl rfl (by first | exact Nat.le_of_ble_eq_true rfl | (simp; done) | (simp; omega) | omega) ?_)) | (refine TL_cons rfl (TO_store1 6 rfl rfl rfl sz4 rfl rfl rfl (by first | exact Nat.le_of_ble_eq_true rfl | (simp; done) | (simp; omega) | omega) ?_)) | (refine TL_cons rfl (TO_store1 7 rfl rfl rfl sz4 rfl rfl rfl (by first | exact Nat.le_of_ble_eq_true rfl | (simp; done) | (simp; omega) | omega) ?_)) | (refine TL_cons rfl (TO_store1 8 rfl rfl rfl sz4 rfl rfl rfl (by first | exact Nat.le_of_ble_eq_true rfl | (simp; done) | (simp; omega) | omega) ?_))
      refine TL_nil ?_
      refine T_seq ?_
      refine T_block ?_
      refine T_seq ?_
      refine T_region ?_
      refine TL_pure (d := (some 20)) rfl rfl rfl (PV_move rfl) ?_
      refine TL_pure (d := (some 21)) rfl rfl rfl (PV_nilCheck rfl) ?_
      refine TL_pure (d := (some 22)) rfl rfl rfl (PV_fieldAddr (D := 5) Try.underlying133 rfl sz131 (by decide) rfl rfl) ?_
      refine TL_pure (d := (some 23)) rfl rfl rfl (PV_load Try.underlying131 rfl rfl (by first | exact Rd.at 0 rfl rfl | exact Rd.at 1 rfl rfl | exact Rd.at 2 rfl rfl | exact Rd.at 3 rfl rfl | exact Rd.at 4 rfl rfl | exact Rd.at 5 rfl rfl | exact Rd.at 6 rfl rfl | exact Rd.at 7 rfl rfl | exact Rd.at 8 rfl rfl)) ?_
      refine TL_pure (d := (some 24)) rfl rfl rfl (PV_bin rfl rfl bin_eql) ?_
      refine TL_pure (d := (some 19)) rfl rfl rfl (PV_assign rfl) ?_
      refine TL_nil ?_
      -- IF t19
      refine T_else rfl (by rfl) ?_
      refine T_seq ?_
      refine T_region ?_
      refine TL_pure (d := (some 26)) rfl rfl rfl (PV_move rfl) ?_
      refine TL_pure (d := (some 25)) rfl rfl rfl (PV_assign rfl) ?_
      refine TL_nil ?_
      -- IF t25
      refine T_else rfl (by rfl) ?_
      refine T_seq ?_
      refine T_region ?_
      refine TL_pure (d := (some 31)) rfl rfl rfl (PV_move rfl) ?_
      refine TL_pure (d := (some 32)) rfl rfl rfl (PV_nilCheck rfl) ?_
      refine TL_pure (d := (some 33)) rfl rfl rfl (PV_fieldAddr (D := 5) Try.underlying133 rfl sz131 (by decide) rfl rfl) ?_
      refine TL_pure (d := (some 34)) rfl rfl rfl (PV_load Try.underlying131 rfl rfl (by first | exact Rd.at 0 rfl rfl | exact Rd.at 1 rfl rfl | exact Rd.at 2 rfl rfl | exact Rd.at 3 rfl rfl | exact Rd.at 4 rfl rfl | exact Rd.at 5 rfl rfl | exact Rd.at 6 rfl rfl | exact Rd.at 7 rfl rfl | exact Rd.at 8 rfl rfl)) ?_
      refine TL_pure (d := (some 35)) rfl rfl rfl (PV.cast (PV_bin rfl rfl bin_eql) (congrArg Value.bool (show _ = true by rfl))) ?_
      refine TL_pure (d := (some 36)) rfl rfl rfl (PV_move rfl) ?_
      -- guard 37 move t1
      refine TL_yes rfl rfl rfl (TO_pure rfl (PV_move rfl) ?_)
      refine TL_yes rfl rfl rfl (TO_pure rfl (PV.cast (PV_bin rfl rfl bin_eql) (congrArg Value.bool (show _ = false by rfl))) ?_)
      refine TL_yes rfl rfl rfl (TO_pure rfl (PV_move rfl) ?_)
      refine TL_yes rfl rfl rfl (TO_pure rfl (PV_move rfl) ?_)
      refine TL_yes rfl rfl rfl (TO_pure rfl (PV.cast (PV_bin rfl rfl bin_eql) (congrArg Value.bool (show _ = true by rfl))) ?_)
      refine TL_yes rfl rfl rfl (TO_pure rfl (PV_move rfl) ?_)
      refine TL_yes rfl rfl rfl (TO_pure rfl (PV_move rfl) ?_)
      refine TL_yes rfl rfl rfl (TO_pure rfl (PV_nilCheck rfl) ?_)
      refine TL_yes rfl rfl rfl (TO_pure rfl (PV_fieldAddr (D := 4) Try.underlying133 rfl sz4 (by decide) rfl rfl) ?_)
      refine TL_yes rfl rfl rfl (TO_pure rfl (PV_load Try.underlying4 rfl rfl (by first | exact Rd.at 0 rfl rfl | exact Rd.at 1 rfl rfl | exact Rd.at 2 rfl rfl | exact Rd.at 3 rfl rfl | exact Rd.at 4 rfl rfl | exact Rd.at 5 rfl rfl | exact Rd.at 6 rfl rfl | exact Rd.at 7 rfl rfl | exact Rd.at 8 rfl rfl)) ?_)
      first | (refine TL_yes rfl rfl rfl (TO_pure rfl (PV_pickAnd rfl rfl rfl) ?_)) | (refine TL_yes rfl rfl rfl (TO_pure rfl (PV_pickF rfl (by first | assumption | rfl | (simp; done) | (simp; omega)) rfl rfl) ?_))
      first | (refine TL_yes rfl rfl rfl (TO_pure rfl (PV_pickOr rfl rfl rfl) ?_)) | (refine TL_yes rfl rfl rfl (TO_pure rfl (PV_pickT rfl (by first | assumption | rfl | (simp; done) | (simp; omega)) rfl rfl) ?_))
      first | (refine TL_pure (d := (some 49)) rfl rfl rfl (PV_pickAnd rfl rfl rfl) ?_) | (refine TL_pure (d := (some 49)) rfl rfl rfl (PV_pickF rfl (by first | assumption | rfl | (simp; done) | (simp; omega)) rfl rfl) ?_)
      refine TL_pure (d := (some 30)) rfl rfl rfl (PV_assign rfl) ?_
      refine TL_nil ?_
      -- IF t30
      refine T_then rfl (by rfl) ?_
      refine T_seq ?_
      refine T_region ?_
      refine TL_pure (d := (some 50)) rfl rfl rfl (PV_move rfl) ?_
      refine TL_pure (d := (some 51)) rfl rfl rfl (PV_move rfl) ?_
      refine TL_pure (d := (some 52)) rfl rfl rfl (PV_bin rfl rfl bin_eql) ?_
      refine TL_pure (d := (some 53)) rfl rfl rfl (PV_nilCheck rfl) ?_
      refine TL_pure (d := (some 54)) rfl rfl rfl (PV_fieldAddr (D := 4) Try.underlying133 rfl sz4 (by decide) rfl rfl) ?_
      first | (refine TL_cons rfl (TO_store1 0 rfl rfl rfl sz4 rfl rfl rfl (by first | exact Nat.le_of_ble_eq_true rfl | (simp; done) | (simp; omega) | omega) ?_)) | (refine TL_cons rfl (TO_store1 1 rfl rfl rfl sz4 rfl rfl rfl (by first | exact Nat.le_of_ble_eq_true rfl | (simp; done) | (simp; omega) | omega) ?_)) | (refine TL_cons rfl (TO_store1 2 rfl rfl rfl sz4 rfl rfl rfl (by first | exact Nat.le_of_ble_eq_true rfl | (simp; done) | (simp; omega) | omega) ?_)) | (refine TL_cons rfl (TO_store1 3 rfl rfl rfl sz4 rfl rfl rfl (by first | exact Nat.le_of_ble_eq_true rfl | (simp; done) | (simp; omega) | omega) ?_)) | (refine TL_cons rfl (TO_store1 4 rfl rfl rfl sz4 rfl rfl rfl (by first | exact Nat.le_of_ble_eq_true rfl | (simp; done) | (simp; omega) | omega) ?_)) | (refine TL_cons rfl (TO_store1 5 rfl rfl rfl sz4 rfl rfl rfl (by first | exact Nat.le_of_ble_eq_true rfl | (simp; done) | (simp; omega) | omega) ?_)) | (refine TL_cons rfl (TO_store1 6 rfl rfl rfl sz4 rfl rfl rfl (by first | exact Nat.le_of_ble_eq_true rfl | (simp; done) | (simp; omega) | omega) ?_)) | (refine TL_cons rfl (TO_store1 7 rfl rfl rfl sz4 rfl rfl rfl (by first | exact Nat.le_of_ble_eq_true rfl | (simp; done) | (simp; omega) | omega) ?_)) | (refine TL_cons rfl (TO_store1 8 rfl rfl rfl sz4 rfl rfl rfl (by first | exact Nat.le_of_ble_eq_true rfl | (simp; done) | (simp; omega) | omega) ?_))
      refine TL_nil ?_
      refine T_seq ?_
      refine T_region ?_
      refine TL_pure (d := (some 55)) rfl rfl rfl (PV_move rfl) ?_
      -- op 56 call F91(t55)
      refine TL_cons rfl (TO_call0 call91 rfl rfl (t91 _ hF2 hB2) ?_)
      rintro v56 H56 ⟨A46, k46, rfl, hk46, rfl⟩
      refine TL_pure (d := (some 4)) rfl rfl rfl (PV_assign rfl) ?_
      refine TL_nil ?_
      refine T_ret ?_
      -- ('ret',)
      refine ⟨_, _, ?_, ResV_one rfl rfl, ⟨A46, k46, rfl, hk46, rfl⟩⟩
      repeat (first | exact List.Sublist.refl _ | apply List.Sublist.cons_cons | apply List.Sublist.cons)
    | true =>
      refine TCall_intro (args := [_, _]) Try.func59 rfl Try.ntmps59 (Nat.le_of_ble_eq_true rfl) ?_
      refine T_seq ?_
      refine T_region ?_
      refine TL_pure (d := (some 4)) rfl rfl rfl (PV_assign rfl) ?_
      refine TL_nil ?_
      refine T_seq ?_
      refine T_region ?_
      refine TL_pure (d := (some 6)) rfl rfl rfl (PV_move rfl) ?_
      refine TL_pure (d := (some 7)) rfl rfl rfl (PV_nilCheck rfl) ?_
      refine TL_pure (d := (some 8)) rfl rfl rfl (PV_fieldAddr (D := 9) Try.underlying133 rfl sz4 (by decide) rfl rfl) ?_
      refine TL_pure (d := (some 9)) rfl rfl rfl (PV_load Try.underlying4 rfl rfl (by first | exact Rd.at 0 rfl rfl | exact Rd.at 1 rfl rfl | exact Rd.at 2 rfl rfl | exact Rd.at 3 rfl rfl | exact Rd.at 4 rfl rfl | exact Rd.at 5 rfl rfl | exact Rd.at 6 rfl rfl | exact Rd.at 7 rfl rfl | exact Rd.at 8 rfl rfl)) ?_
      refine TL_pure (d := (some 10)) rfl rfl rfl (PV_move rfl) ?_
      -- guard 11 move t1
      -- guard 11 move t1
      refine TL_yes rfl rfl rfl (TO_pure rfl (PV_move rfl) ?_)
      refine TL_yes rfl rfl rfl (TO_pure rfl (PV.cast (PV_bin rfl rfl bin_eql) (congrArg Value.bool (show _ = false by rfl))) ?_)
      first | (refine TL_pure (d := (some 13)) rfl rfl rfl (PV_pickAnd rfl rfl rfl) ?_) | (refine TL_pure (d := (some 13)) rfl rfl rfl (PV_pickF rfl (by first | assumption | rfl | (simp; done) | (simp; omega)) rfl rfl) ?_)
      refine TL_pure (d := (some 5)) rfl rfl rfl (PV_assign rfl) ?_
      refine TL_nil ?_
      refine T_seq ?_
      refine T_region ?_
      refine TL_pure (d := (some 14)) rfl rfl rfl (PV_move rfl) ?_
      refine TL_pure (d := (some 15)) rfl rfl rfl (PV_move rfl) ?_
      refine TL_pure (d := (some 16)) rfl rfl rfl (PV_bin rfl rfl bin_eql) ?_
      refine TL_pure (d := (some 17)) rfl rfl rfl (PV_nilCheck rfl) ?_
      refine TL_pure (d := (some 18)) rfl rfl rfl (PV_fieldAddr (D := 9) Try.underlying133 rfl sz4 (by decide) rfl rfl) ?_
      first | (refine TL_cons rfl (TO_store1 0 rfl rfl rfl sz4 rfl rfl rfl (by first | exact Nat.le_of_ble_eq_true rfl | (simp; done) | (simp; omega) | omega) ?_)) | (refine TL_cons rfl (TO_store1 1 rfl rfl rfl sz4 rfl rfl rfl (by first | exact Nat.le_of_ble_eq_true rfl | (simp; done) | (simp; omega) | omega) ?_)) | (refine TL_cons rfl (TO_store1 2 rfl rfl rfl sz4 rfl rfl rfl (by first | exact Nat.le_of_ble_eq_true rfl | (simp; done) | (simp; omega) | omega) ?_)) | (refine TL_cons rfl (TO_store1 3 rfl rfl rfl sz4 rfl rfl rfl (by first | exact Nat.le_of_ble_eq_true rfl | (simp; done) | (simp; omega) | omega) ?_)) | (refine TL_cons rfl (TO_store1 4 rfl rfl rfl sz4 rfl rfl rfl (by first | exact Nat.le_of_ble_eq_true rfl | (simp; done) | (simp; omega) | omega) ?_)) | (refine TL_cons rfl (TO_store1 5 rfl rfl rfl sz4 rfl rfl rfl (by first | exact Nat.le_of_ble_eq_true rfl | (simp; done) | (simp; omega) | omega) ?_)) | (refine TL_cons rfl (TO_store1 6 rfl rfl rfl sz4 rfl rfl rfl (by first | exact Nat.le_of_ble_eq_true rfl | (simp; done) | (simp; omega) | omega) ?_)) | (refine TL_cons rfl (TO_store1 7 rfl rfl rfl sz4 rfl rfl rfl (by first | exact Nat.le_of_ble_eq_true rfl | (simp; done) | (simp; omega) | omega) ?_)) | (refine TL_cons rfl (TO_store1 8 rfl rfl rfl sz4 rfl rfl rfl (by first | exact Nat.le_of_ble_eq_true rfl | (simp; done) | (simp; omega) | omega) ?_))
      refine TL_nil ?_
      refine T_seq ?_
      refine T_block ?_
      refine T_seq ?_
      refine T_region ?_
      refine TL_pure (d := (some 20)) rfl rfl rfl (PV_move rfl) ?_
      refine TL_pure (d := (some 21)) rfl rfl rfl (PV_nilCheck rfl) ?_
      refine TL_pure (d := (some 22)) rfl rfl rfl (PV_fieldAddr (D := 5) Try.underlying133 rfl sz131 (by decide) rfl rfl) ?_
      refine TL_pure (d := (some 23)) rfl rfl rfl (PV_load Try.underlying131 rfl rfl (by first | exact Rd.at 0 rfl rfl | exact Rd.at 1 rfl rfl | exact Rd.at 2 rfl rfl | exact Rd.at 3 rfl rfl | exact Rd.at 4 rfl rfl | exact Rd.at 5 rfl rfl | exact Rd.at 6 rfl rfl | exact Rd.at 7 rfl rfl | exact Rd.at 8 rfl rfl)) ?_
      refine TL_pure (d := (some 24)) rfl rfl rfl (PV_bin rfl rfl bin_eql) ?_
      refine TL_pure (d := (some 19)) rfl rfl rfl (PV_assign rfl) ?_
      refine TL_nil ?_
      -- IF t19
      refine T_else rfl (by rfl) ?_
      refine T_seq ?_
      refine T_region ?_
      refine TL_pure (d := (some 26)) rfl rfl rfl (PV_move rfl) ?_
      refine TL_pure (d := (some 25)) rfl rfl rfl (PV_assign rfl) ?_
      refine TL_nil ?_
      -- IF t25
      refine T_else rfl (by rfl) ?_
      refine T_seq ?_
      refine T_region ?_
      refine TL_pure (d := (some 31)) rfl rfl rfl (PV_move rfl) ?_
      refine TL_pure (d := (some 32)) rfl rfl rfl (PV_nilCheck rfl) ?_
      refine TL_pure (d := (some 33)) rfl rfl rfl (PV_fieldAddr (D := 5) Try.underlying133 rfl sz131 (by decide) rfl rfl) ?_
      refine TL_pure (d := (some 34)) rfl rfl rfl (PV_load Try.underlying131 rfl rfl (by first | exact Rd.at 0 rfl rfl | exact Rd.at 1 rfl rfl | exact Rd.at 2 rfl rfl | exact Rd.at 3 rfl rfl | exact Rd.at 4 rfl rfl | exact Rd.at 5 rfl rfl | exact Rd.at 6 rfl rfl | exact Rd.at 7 rfl rfl | exact Rd.at 8 rfl rfl)) ?_
      refine TL_pure (d := (some 35)) rfl rfl rfl (PV.cast (PV_bin rfl rfl bin_eql) (congrArg Value.bool (show _ = true by rfl))) ?_
      refine TL_pure (d := (some 36)) rfl rfl rfl (PV_move rfl) ?_
      -- guard 37 move t1
      refine TL_yes rfl rfl rfl (TO_pure rfl (PV_move rfl) ?_)
      refine TL_yes rfl rfl rfl (TO_pure rfl (PV.cast (PV_bin rfl rfl bin_eql) (congrArg Value.bool (show _ = false by rfl))) ?_)
      refine TL_yes rfl rfl rfl (TO_pure rfl (PV_move rfl) ?_)
      refine TL_yes rfl rfl rfl (TO_pure rfl (PV_move rfl) ?_)
      refine TL_yes rfl rfl rfl (TO_pure rfl (PV.cast (PV_bin rfl rfl bin_eql) (congrArg Value.bool (show _ = true by rfl))) ?_)
      refine TL_yes rfl rfl rfl (TO_pure rfl (PV_move rfl) ?_)
      refine TL_yes rfl rfl rfl (TO_pure rfl (PV_move rfl) ?_)
      refine TL_yes rfl rfl rfl (TO_pure rfl (PV_nilCheck rfl) ?_)
      refine TL_yes rfl rfl rfl (TO_pure rfl (PV_fieldAddr (D := 4) Try.underlying133 rfl sz4 (by decide) rfl rfl) ?_)
      refine TL_yes rfl rfl rfl (TO_pure rfl (PV_load Try.underlying4 rfl rfl (by first | exact Rd.at 0 rfl rfl | exact Rd.at 1 rfl rfl | exact Rd.at 2 rfl rfl | exact Rd.at 3 rfl rfl | exact Rd.at 4 rfl rfl | exact Rd.at 5 rfl rfl | exact Rd.at 6 rfl rfl | exact Rd.at 7 rfl rfl | exact Rd.at 8 rfl rfl)) ?_)
      first | (refine TL_yes rfl rfl rfl (TO_pure rfl (PV_pickAnd rfl rfl rfl) ?_)) | (refine TL_yes rfl rfl rfl (TO_pure rfl (PV_pickF rfl (by first | assumption | rfl | (simp; done) | (simp; omega)) rfl rfl) ?_))
      first | (refine TL_yes rfl rfl rfl (TO_pure rfl (PV_pickOr rfl rfl rfl) ?_)) | (refine TL_yes rfl rfl rfl (TO_pure rfl (PV_pickT rfl (by first | assumption | rfl | (simp; done) | (simp; omega)) rfl rfl) ?_))
      first | (refine TL_pure (d := (some 49)) rfl rfl rfl (PV_pickAnd rfl rfl rfl) ?_) | (refine TL_pure (d := (some 49)) rfl rfl rfl (PV_pickF rfl (by first | assumption | rfl | (simp; done) | (simp; omega)) rfl rfl) ?_)
      refine TL_pure (d := (some 30)) rfl rfl rfl (PV_assign rfl) ?_
      refine TL_nil ?_
      -- IF t30
      refine T_then rfl (by rfl) ?_
      refine T_seq ?_
      refine T_region ?_
      refine TL_pure (d := (some 50)) rfl rfl rfl (PV_move rfl) ?_
      refine TL_pure (d := (some 51)) rfl rfl rfl (PV_move rfl) ?_
      refine TL_pure (d := (some 52)) rfl rfl rfl (PV_bin rfl rfl bin_eql) ?_
      refine TL_pure (d := (some 53)) rfl rfl rfl (PV_nilCheck rfl) ?_
      refine TL_pure (d := (some 54)) rfl rfl rfl (PV_fieldAddr (D := 4) Try.underlying133 rfl sz4 (by decide) rfl rfl) ?_
      first | (refine TL_cons rfl (TO_store1 0 rfl rfl rfl sz4 rfl rfl rfl (by first | exact Nat.le_of_ble_eq_true rfl | (simp; done) | (simp; omega) | omega) ?_)) | (refine TL_cons rfl (TO_store1 1 rfl rfl rfl sz4 rfl rfl rfl (by first | exact Nat.le_of_ble_eq_true rfl | (simp; done) | (simp; omega) | omega) ?_)) | (refine TL_cons rfl (TO_store1 2 rfl rfl rfl sz4 rfl rfl rfl (by first | exact Nat.le_of_ble_eq_true rfl | (simp; done) | (simp; omega) | omega) ?_)) | (refine TL_cons rfl (TO_store1 3 rfl rfl rfl sz4 rfl rfl rfl (by first | exact Nat.le_of_ble_eq_true rfl | (simp; done) | (simp; omega) | omega) ?_)) | (refine TL_cons rfl (TO_store1 4 rfl rfl rfl sz4 rfl rfl rfl (by first | exact Nat.le_of_ble_eq_true rfl | (simp; done) | (simp; omega) | omega) ?_)) | (refine TL_cons rfl (TO_store1 5 rfl rfl rfl sz4 rfl rfl rfl (by first | exact Nat.le_of_ble_eq_true rfl | (simp; done) | (simp; omega) | omega) ?_)) | (refine TL_cons rfl (TO_store1 6 rfl rfl rfl sz4 rfl rfl rfl (by first | exact Nat.le_of_ble_eq_true rfl | (simp; done) | (simp; omega) | omega) ?_)) | (refine TL_cons rfl (TO_store1 7 rfl rfl rfl sz4 rfl rfl rfl (by first | exact Nat.le_of_ble_eq_true rfl | (simp; done) | (simp; omega) | omega) ?_)) | (refine TL_cons rfl (TO_store1 8 rfl rfl rfl sz4 rfl rfl rfl (by first | exact Nat.le_of_ble_eq_true rfl | (simp; done) | (simp; omega) | omega) ?_))
      refine TL_nil ?_
      refine T_seq ?_
      refine T_region ?_
      refine TL_pure (d := (some 55)) rfl rfl rfl (PV_move rfl) ?_
      -- op 56 call F91(t55)
      refine TL_cons rfl (TO_call0 call91 rfl rfl (t91 _ hF2 hB2) ?_)
      rintro v56 H56 ⟨A46, k46, rfl, hk46, rfl⟩
      refine TL_pure (d := (some 4)) rfl rfl rfl (PV_assign rfl) ?_
      refine TL_nil ?_
      refine T_ret ?_
      -- ('ret',)
      refine ⟨_, _, ?_, ResV_one rfl rfl, ⟨A46, k46, rfl, hk46, rfl⟩⟩
      repeat (first | exact List.Sublist.refl _ | apply List.Sublist.cons_cons | apply List.Sublist.cons)

set_option maxRecDepth 100000 in
theorem t59ack1 {g : Nat} (s : Snd) (hF : s.Fit) (hB : s.Blk (WH w0 B X)) (h0 : s.phase = 1) : TCall Try.prog w0 B 59 #[.pointer (some ⟨g, 0, none⟩), .int .u8 6] (fun r H' => Gives ({ s.put1 6 with at_ := s.at_ + 1 } : Snd).next.now (sndC g ({ s.put1 6 with at_ := s.at_ + 1 } : Snd).next) X r H') (sndC g s :: X) := by
  have hat := hF.dat h0
  have hmany := hF.many
  have hF2 : ({ s.put1 6 with at_ := s.at_ + 1 } : Snd).Fit0 := ⟨hF.many, hF.ct1, hF.cw1, hF.ph, by show s.at_ + 1 ≤ s.qs.length; omega, hF.tr, hF.lf⟩
  have hB2 : ({ s.put1 6 with at_ := s.at_ + 1 } : Snd).Blk (WH w0 B X) := ⟨hB.row, hB.all, hB.cap, hB.num⟩
  obtain ⟨ct, cw, A, c, qs, close, crc, phase, at_, tries, left, can, err⟩ := s
  unfold Snd.put1 at *
  dsimp only at h0 hat hmany
  subst h0
  cases can with
  | false =>
      refine TCall_intro (args := [_, _]) Try.func59 rfl Try.ntmps59 (Nat.le_of_ble_eq_true rfl) ?_
      refine T_seq ?_
      refine T_region ?_
      refine TL_pure (d := (some 4)) rfl rfl rfl (PV_assign rfl) ?_
      refine TL_nil ?_
      refine T_seq ?_
      refine T_region ?_
      refine TL_pure (d := (some 6)) rfl rfl rfl (PV_move rfl) ?_
      refine TL_pure (d := (some 7)) rfl rfl rfl (PV_nilCheck rfl) ?_
      refine TL_pure (d := (some 8)) rfl rfl rfl (PV_fieldAddr (D := 9) Try.underlying133 rfl sz4 (by decide) rfl rfl) ?_
      refine TL_pure (d := (some 9)) rfl rfl rfl (PV_load Try.underlying4 rfl rfl (by first | exact Rd.at 0 rfl rfl | exact Rd.at 1 rfl rfl | exact Rd.at 2 rfl rfl | exact Rd.at 3 rfl rfl | exact Rd.at 4 rfl rfl | exact Rd.at 5 rfl rfl | exact Rd.at 6 rfl rfl | exact Rd.at 7 rfl rfl | exact Rd.at 8 rfl rfl)) ?_
      refine TL_pure (d := (some 10)) rfl rfl rfl (PV_move rfl) ?_
      -- guard 11 move t1
      refine TL_no (b := false) rfl rfl rfl rfl ?_
      refine TL_no (b := false) rfl rfl rfl rfl ?_
      first | (refine TL_pure (d := (some 13)) rfl rfl rfl (PV_pickAnd rfl rfl rfl) ?_) | (refine TL_pure (d := (some 13)) rfl rfl rfl (PV_pickF rfl (by first | assumption | rfl | (simp; done) | (simp; omega)) rfl rfl) ?_)
      refine TL_pure (d := (some 5)) rfl rfl rfl (PV_assign rfl) ?_
      refine TL_nil ?_
      refine T_seq ?_
      refine T_region ?_
      refine TL_pure (d := (some 14)) rfl rfl rfl (PV_move rfl) ?_
      refine TL_pure (d := (some 15)) rfl rfl rfl (PV_move rfl) ?_
      refine TL_pure (d := (some 16)) rfl rfl rfl (PV_bin rfl rfl bin_eql) ?_
      refine TL_pure (d := (some 17)) rfl rfl rfl (PV_nilCheck rfl) ?_
      refine TL_pure (d := (some 18)) rfl rfl rfl (PV_fieldAddr (D := 9) Try.underlying133 rfl sz4 (by decide) rfl rfl) ?_
      first | (refine TL_cons rfl (TO_store1 0 rfl rfl rfl sz4 rfl rfl rfl (by first | exact Nat.le_of_ble_eq_true rfl | (simp; done) | (simp; omega) | omega) ?_)) | (refine TL_cons rfl (TO_store1 1 rfl rfl rfl sz4 rfl rfl rfl (by first | exact Nat.le_of_ble_eq_true rfl | (simp; done) | (simp; omega) | omega) ?_)) | (refine TL_cons rfl (TO_store1 2 rfl rfl rfl sz4 rfl rfl rfl (by first | exact Nat.le_of_ble_eq_true rfl | (simp; done) | (simp; omega) | omega) ?_)) | (refine TL_cons rfl (TO_store1 3 rfl rfl rfl sz4 rfl rfl rfl (by first | exact Nat.le_of_ble_eq_true rfl | (simp; done) | (simp; omega) | omega) ?_)) | (refine TL_cons rfl (TO_store1 4 rfl rfl rfl sz4 rfl rfl rfl (by first | exact Nat.le_of_ble_eq_true rfl | (simp; done) | (simp; omega) | omega) ?_)) | (refine TL_cons rfl (TO_store1 5 rfl rfl rfl sz4 rfl rfl rfl (by first | exact Nat.le_of_ble_eq_true rfl | (simp; done) | (simp; omega) | omega) ?_)) | (refine TL_cons rfl (TO_store1 6 rfl rfl rfl sz4 rfl rfl rfl (by first | exact Nat.le_of_ble_eq_true rfl | (simp; done) | (simp; omega) | omega) ?_)) | (refine TL_cons rfl (TO_store1 7 rfl rfl rfl sz4 rfl rfl rfl (by first | exact Nat.le_of_ble_eq_true rfl | (simp; done) | (simp; omega) | omega) ?_)) | (refine TL_cons rfl (TO_store1 8 rfl rfl rfl sz4 rfl rfl rfl (by first | exact Nat.le_of_ble_eq_true rfl | (simp; done) | (simp; omega) | omega) ?_))
      refine TL_nil ?_
      refine T_seq ?_
      refine T_block ?_
      refine T_seq ?_
      refine T_region ?_
      refine TL_pure (d := (some 20)) rfl rfl rfl (PV_move rfl) ?_
      refine TL_pure (d := (some 21)) rfl rfl rfl (PV_nilCheck rfl) ?_
      refine TL_pure (d := (some 22)) rfl rfl rfl (PV_fieldAddr (D := 5) Try.underlying133 rfl sz131 (by decide) rfl rfl) ?_
      refine TL_pure (d := (some 23)) rfl rfl rfl (PV_load Try.underlying131 rfl rfl (by first | exact Rd.at 0 rfl rfl | exact Rd.at 1 rfl rfl | exact Rd.at 2 rfl rfl | exact Rd.at 3 rfl rfl | exact Rd.at 4 rfl rfl | exact Rd.at 5 rfl rfl | exact Rd.at 6 rfl rfl | exact Rd.at 7 rfl rfl | exact Rd.at 8 rfl rfl)) ?_
      refine TL_pure (d := (some 24)) rfl rfl rfl (PV_bin rfl rfl bin_eql) ?_
      refine TL_pure (d := (some 19)) rfl rfl rfl (PV_assign rfl) ?_
      refine TL_nil ?_
      -- IF t19
      refine T_else rfl (by rfl) ?_
      refine T_seq ?_
      refine T_region ?_
      refine TL_pure (d := (some 26)) rfl rfl rfl (PV_move rfl) ?_
      refine TL_pure (d := (some 25)) rfl rfl rfl (PV_assign rfl) ?_
      refine TL_nil ?_
      -- IF t25
      refine T_else rfl (by rfl) ?_
      refine T_seq ?_
      refine T_region ?_
      refine TL_pure (d := (some 31)) rfl rfl rfl (PV_move rfl) ?_
      refine TL_pure (d := (some 32)) rfl rfl rfl (PV_nilCheck rfl) ?_
      refine TL_pure (d := (some 33)) rfl rfl rfl (PV_fieldAddr (D := 5) Try.underlying133 rfl sz131 (by decide) rfl rfl) ?_
      refine TL_pure (d := (some 34)) rfl rfl rfl (PV_load Try.underlying131 rfl rfl (by first | exact Rd.at 0 rfl rfl | exact Rd.at 1 rfl rfl | exact Rd.at 2 rfl rfl | exact Rd.at 3 rfl rfl | exact Rd.at 4 rfl rfl | exact Rd.at 5 rfl rfl | exact Rd.at 6 rfl rfl | exact Rd.at 7 rfl rfl | exact Rd.at 8 rfl rfl)) ?_
      refine TL_pure (d := (some 35)) rfl rfl rfl (PV.cast (PV_bin rfl rfl bin_eql) (congrArg Value.bool (show _ = false by rfl))) ?_
      refine TL_pure (d := (some 36)) rfl rfl rfl (PV_move rfl) ?_
      -- guard 37 move t1
      refine TL_no (b := false) rfl rfl rfl rfl ?_
      refine TL_no (b := false) rfl rfl rfl rfl ?_
      refine TL_no (b := false) rfl rfl rfl rfl ?_
      refine TL_noU rfl rfl rfl rfl ?_
      refine TL_noU rfl rfl rfl rfl ?_
      refine TL_noU rfl rfl rfl rfl ?_
      refine TL_noU rfl rfl rfl rfl ?_
      refine TL_noU rfl rfl rfl rfl ?_
      refine TL_noU rfl rfl rfl rfl ?_
      refine TL_noU rfl rfl rfl rfl ?_
      refine TL_noU rfl rfl rfl rfl ?_
      refine TL_no (b := false) rfl rfl rfl rfl ?_
      first | (refine TL_pure (d := (some 49)) rfl rfl rfl (PV_pickAnd rfl rfl rfl) ?_) | (refine TL_pure (d := (some 49)) rfl rfl rfl (PV_pickF rfl (by first | assumption | rfl | (simp; done) | (simp; omega)) rfl rfl) ?_)
      refine TL_pure (d := (some 30)) rfl rfl rfl (PV_assign rfl) ?_
      refine TL_nil ?_
      -- IF t30
      refine T_else rfl (by rfl) ?_
      refine T_seq ?_
      refine T_region ?_
      refine TL_pure (d := (some 58)) rfl rfl rfl (PV_move rfl) ?_
      refine TL_pure (d := (some 59)) rfl rfl rfl (PV_nilCheck rfl) ?_
      refine TL_pure (d := (some 60)) rfl rfl rfl (PV_fieldAddr (D := 5) Try.underlying133 rfl sz131 (by decide) rfl rfl) ?_
      refine TL_pure (d := (some 61)) rfl rfl rfl (PV_load Try.underlying131 rfl rfl (by first | exact Rd.at 0 rfl rfl | exact Rd.at 1 rfl rfl | exact Rd.at 2 rfl rfl | exact Rd.at 3 rfl rfl | exact Rd.at 4 rfl rfl | exact Rd.at 5 rfl rfl | exact Rd.at 6 rfl rfl | exact Rd.at 7 rfl rfl | exact Rd.at 8 rfl rfl)) ?_
      refine TL_pure (d := (some 62)) rfl rfl rfl (PV_bin rfl rfl bin_eql) ?_
      refine TL_pure (d := (some 57)) rfl rfl rfl (PV_assign rfl) ?_
      refine TL_nil ?_
      -- IF t57
      refine T_else rfl (by rfl) ?_
      refine T_seq ?_
      refine T_region ?_
      refine TL_pure (d := (some 64)) rfl rfl rfl (PV_move rfl) ?_
      refine TL_pure (d := (some 65)) rfl rfl rfl (PV_bin rfl rfl bin_eql) ?_
      refine TL_pure (d := (some 63)) rfl rfl rfl (PV_assign rfl) ?_
      refine TL_nil ?_
      -- IF t63
      refine T_then rfl (by rfl) ?_
      refine T_seq ?_
      refine T_seq ?_
      refine T_region ?_
      refine TL_pure (d := (some 66)) rfl rfl rfl (PV_move rfl) ?_
      refine TL_pure (d := (some 67)) rfl rfl rfl (PV_nilCheck rfl) ?_
      refine TL_pure (d := (some 68)) rfl rfl rfl (PV_fieldAddr (D := 5) Try.underlying133 rfl sz131 (by decide) rfl rfl) ?_
      refine TL_pure (d := (some 69)) rfl rfl rfl (PV_load Try.underlying131 rfl rfl (by first | exact Rd.at 0 rfl rfl | exact Rd.at 1 rfl rfl | exact Rd.at 2 rfl rfl | exact Rd.at 3 rfl rfl | exact Rd.at 4 rfl rfl | exact Rd.at 5 rfl rfl | exact Rd.at 6 rfl rfl | exact Rd.at 7 rfl rfl | exact Rd.at 8 rfl rfl)) ?_
      refine TL_pure (d := (some 70)) rfl rfl rfl (PV_bin rfl rfl bin_eql) ?_
      refine TL_nil ?_
      -- IF t70
      refine T_then rfl (by rfl) ?_
      refine T_region ?_
      refine TL_pure (d := (some 71)) rfl rfl rfl (PV_move rfl) ?_
      refine TL_pure (d := (some 72)) rfl rfl rfl (PV_nilCheck rfl) ?_
      refine TL_pure (d := (some 73)) rfl rfl rfl (PV_fieldAddr (D := 6) Try.underlying133 rfl sz3 (by decide) rfl rfl) ?_
      refine TL_pure (d := (some 74)) rfl rfl rfl (PV_load Try.underlying3 rfl rfl (by first | exact Rd.at 0 rfl rfl | exact Rd.at 1 rfl rfl | exact Rd.at 2 rfl rfl | exact Rd.at 3 rfl rfl | exact Rd.at 4 rfl rfl | exact Rd.at 5 rfl rfl | exact Rd.at 6 rfl rfl | exact Rd.at 7 rfl rfl | exact Rd.at 8 rfl rfl)) ?_
      refine TL_pure (d := (some 75)) rfl rfl rfl (PV.cast (PV_bin rfl rfl bin_add) (wr64n (at_ + 1) (by rfl) (by omega))) ?_
      refine TL_pure (d := (some 76)) rfl rfl rfl (PV_nilCheck rfl) ?_
      refine TL_pure (d := (some 77)) rfl rfl rfl (PV_fieldAddr (D := 6) Try.underlying133 rfl sz3 (by decide) rfl rfl) ?_
      first | (refine TL_cons rfl (TO_store1 0 rfl rfl rfl sz3 rfl rfl rfl (by first | exact Nat.le_of_ble_eq_true rfl | (simp; done) | (simp; omega) | omega) ?_)) | (refine TL_cons rfl (TO_store1 1 rfl rfl rfl sz3 rfl rfl rfl (by first | exact Nat.le_of_ble_eq_true rfl | (simp; done) | (simp; omega) | omega) ?_)) | (refine TL_cons rfl (TO_store1 2 rfl rfl rfl sz3 rfl rfl rfl (by first | exact Nat.le_of_ble_eq_true rfl | (simp; done) | (simp; omega) | omega) ?_)) | (refine TL_cons rfl (TO_store1 3 rfl rfl rfl sz3 rfl rfl rfl (by first | exact Nat.le_of_ble_eq_true rfl | (simp; done) | (simp; omega) | omega) ?_)) | (refine TL_cons rfl (TO_store1 4 rfl rfl rfl sz3 rfl rfl rfl (by first | exact Nat.le_of_ble_eq_true rfl | (simp; done) | (simp; omega) | omega) ?_)) | (refine TL_cons rfl (TO_store1 5 rfl rfl rfl sz3 rfl rfl rfl (by first | exact Nat.le_of_ble_eq_true rfl | (simp; done) | (simp; omega) | omega) ?_)) | (refine TL_cons rfl (TO_store1 6 rfl rfl rfl sz3 rfl rfl rfl (by first | exact Nat.le_of_ble_eq_true rfl | (simp; done) | (simp; omega) | omega) ?_)) | (refine TL_cons rfl (TO_store1 7 rfl rfl rfl sz3 rfl rfl rfl (by first | exact Nat.le_of_ble_eq_true rfl | (simp; done) | (simp; omega) | omega) ?_)) | (refine TL_cons rfl (TO_store1 8 rfl rfl rfl sz3 rfl rfl rfl (by first | exact Nat.le_of_ble_eq_true rfl | (simp; done) | (simp; omega) | omega) ?_))
      refine TL_nil ?_
      refine T_seq ?_
      refine T_region ?_
      refine TL_pure (d := (some 78)) rfl rfl rfl (PV_move rfl) ?_
      -- op 79 call F91(t78)
      refine TL_cons rfl (TO_call0 call91 rfl rfl (t91 _ hF2 hB2) ?_)
      rintro v79 H79 ⟨A46, k46, rfl, hk46, rfl⟩
      refine TL_pure (d := (some 4)) rfl rfl rfl (PV_assign rfl) ?_
      refine TL_nil ?_
      refine T_ret ?_
      -- ('ret',)
      refine ⟨_, _, ?_, ResV_one rfl rfl, ⟨A46, k46, rfl, hk46, rfl⟩⟩
      repeat (first | exact List.Sublist.refl _ | apply List.Sublist.cons_cons | apply List.Sublist.cons)
  | true =>
      refine TCall_intro (args := [_, _]) Try.func59 rfl Try.ntmps59 (Nat.le_of_ble_eq_true rfl) ?_
      refine T_seq ?_
      refine T_region ?_
      refine TL_pure (d := (some 4)) rfl rfl rfl (PV_assign rfl) ?_
      refine TL_nil ?_
      refine T_seq ?_
      refine T_region ?_
      refine TL_pure (d := (some 6)) rfl rfl rfl (PV_move rfl) ?_
      refine TL_pure (d := (some 7)) rfl rfl rfl (PV_nilCheck rfl) ?_
      refine TL_pure (d := (some 8)) rfl rfl rfl (PV_fieldAddr (D := 9) Try.underlying133 rfl sz4 (by decide) rfl rfl) ?_
      refine TL_pure (d := (some 9)) rfl rfl rfl (PV_load Try.underlying4 rfl rfl (by first | exact Rd.at 0 rfl rfl | exact Rd.at 1 rfl rfl | exact Rd.at 2 rfl rfl | exact Rd.at 3 rfl rfl | exact Rd.at 4 rfl rfl | exact Rd.at 5 rfl rfl | exact Rd.at 6 rfl rfl | exact Rd.at 7 rfl rfl | exact Rd.at 8 rfl rfl)) ?_
      refine TL_pure (d := (some 10)) rfl rfl rfl (PV_move rfl) ?_
      -- guard 11 move t1
      -- guard 11 move t1
      refine TL_yes rfl rfl rfl (TO_pure rfl (PV_move rfl) ?_)
      refine TL_yes rfl rfl rfl (TO_pure rfl (PV.cast (PV_bin rfl rfl bin_eql) (congrArg Value.bool (show _ = false by rfl))) ?_)
      first | (refine TL_pure (d := (some 13)) rfl rfl rfl (PV_pickAnd rfl rfl rfl) ?_) | (refine TL_pure (d := (some 13)) rfl rfl rfl (PV_pickF rfl (by first | assumption | rfl | (simp; done) | (simp; omega)) rfl rfl) ?_)
      refine TL_pure (d := (some 5)) rfl rfl rfl (PV_assign rfl) ?_
      refine TL_nil ?_
      refine T_seq ?_
      refine T_region ?_
      refine TL_pure (d := (some 14)) rfl rfl rfl (PV_move rfl) ?_
      refine TL_pure (d := (some 15)) rfl rfl rfl (PV_move rfl) ?_
      refine TL_pure (d := (some 16)) rfl rfl rfl (PV_bin rfl rfl bin_eql) ?_
      refine TL_pure (d := (some 17)) rfl rfl rfl (PV_nilCheck rfl) ?_
      refine TL_pure (d := (some 18)) rfl rfl rfl (PV_fieldAddr (D := 9) Try.underlying133 rfl sz4 (by decide) rfl rfl) ?_
      first | (refine TL_cons rfl (TO_store1 0 rfl rfl rfl sz4 rfl rfl rfl (by first | exact Nat.le_of_ble_eq_true rfl | (simp; done) | (simp; omega) | omega) ?_)) | (refine TL_cons rfl (TO_store1 1 rfl rfl rfl sz4 rfl rfl rfl (by first | exact Nat.le_of_ble_eq_true rfl | (simp; done) | (simp; omega) | omega) ?_)) | (refine TL_cons rfl (TO_store1 2 rfl rfl rfl sz4 rfl rfl rfl (by first | exact Nat.le_of_ble_eq_true rfl | (simp; done) | (simp; omega) | omega) ?_)) | (refine TL_cons rfl (TO_store1 3 rfl rfl rfl sz4 rfl rfl rfl (by first | exact Nat.le_of_ble_eq_true rfl | (simp; done) | (simp; omega) | omega) ?_)) | (refine TL_cons rfl (TO_store1 4 rfl rfl rfl sz4 rfl rfl rfl (by first | exact Nat.le_of_ble_eq_true rfl | (simp; done) | (simp; omega) | omega) ?_)) | (refine TL_cons rfl (TO_store1 5 rfl rfl rfl sz4 rfl rfl rfl (by first | exact Nat.le_of_ble_eq_true rfl | (simp; done) | (simp; omega) | omega) ?_)) | (refine TL_cons rfl (TO_store1 6 rfl rfl rfl sz4 rfl rfl rfl (by first | exact Nat.le_of_ble_eq_true rfl | (simp; done) | (simp; omega) | omega) ?_)) | (refine TL_cons rfl (TO_store1 7 rfl rfl rfl sz4 rfl rfl rfl (by first | exact Nat.le_of_ble_eq_true rfl | (simp; done) | (simp; omega) | omega) ?_)) | (refine TL_cons rfl (TO_store1 8 rfl rfl rfl sz4 rfl rfl rfl (by first | exact Nat.le_of_ble_eq_true rfl | (simp; done) | (simp; omega) | omega) ?_))
      refine TL_nil ?_
      refine T_seq ?_
      refine T_block ?_
      refine T_seq ?_
      refine T_region ?_
      refine TL_pure (d := (some 20)) rfl rfl rfl (PV_move rfl) ?_
      refine TL_pure (d := (some 21)) rfl rfl rfl (PV_nilCheck rfl) ?_
      refine TL_pure (d := (some 22)) rfl rfl rfl (PV_fieldAddr (D := 5) Try.underlying133 rfl sz131 (by decide) rfl rfl) ?_
      refine TL_pure (d := (some 23)) rfl rfl rfl (PV_load Try.underlying131 rfl rfl (by first | exact Rd.at 0 rfl rfl | exact Rd.at 1 rfl rfl | exact Rd.at 2 rfl rfl | exact Rd.at 3 rfl rfl | exact Rd.at 4 rfl rfl | exact Rd.at 5 rfl rfl | exact Rd.at 6 rfl rfl | exact Rd.at 7 rfl rfl | exact Rd.at 8 rfl rfl)) ?_
      refine TL_pure (d := (some 24)) rfl rfl rfl (PV_bin rfl rfl bin_eql) ?_
      refine TL_pure (d := (some 19)) rfl rfl rfl (PV_assign rfl) ?_
      refine TL_nil ?_
      -- IF t19
      refine T_else rfl (by rfl) ?_
      refine T_seq ?_
      refine T_region ?_
      refine TL_pure (d := (some 26)) rfl rfl rfl (PV_move rfl) ?_
      refine TL_pure (d := (some 25)) rfl rfl rfl (PV_assign rfl) ?_
      refine TL_nil ?_
      -- IF t25
      refine T_else rfl (by rfl) ?_
      refine T_seq ?_
      refine T_region ?_
      refine TL_pure (d := (some 31)) rfl rfl rfl (PV_move rfl) ?_
      refine TL_pure (d := (some 32)) rfl rfl rfl (PV_nilCheck rfl) ?_
      refine TL_pure (d := (some 33)) rfl rfl rfl (PV_fieldAddr (D := 5) Try.underlying133 rfl sz131 (by decide) rfl rfl) ?_
      refine TL_pure (d := (some 34)) rfl rfl rfl (PV_load Try.underlying131 rfl rfl (by first | exact Rd.at 0 rfl rfl | exact Rd.at 1 rfl rfl | exact Rd.at 2 rfl rfl | exact Rd.at 3 rfl rfl | exact Rd.at 4 rfl rfl | exact Rd.at 5 rfl rfl | exact Rd.at 6 rfl rfl | exact Rd.at 7 rfl rfl | exact Rd.at 8 rfl rfl)) ?_
      refine TL_pure (d := (some 35)) rfl rfl rfl (PV.cast (PV_bin rfl rfl bin_eql) (congrArg Value.bool (show _ = false by rfl))) ?_
      refine TL_pure (d := (some 36)) rfl rfl rfl (PV_move rfl) ?_
      -- guard 37 move t1
      refine TL_no (b := false) rfl rfl rfl rfl ?_
      refine TL_no (b := false) rfl rfl rfl rfl ?_
      refine TL_no (b := false) rfl rfl rfl rfl ?_
      refine TL_noU rfl rfl rfl rfl ?_
      refine TL_noU rfl rfl rfl rfl ?_
      refine TL_noU rfl rfl rfl rfl ?_
      refine TL_noU rfl rfl rfl rfl ?_
      refine TL_noU rfl rfl rfl rfl ?_
      refine TL_noU rfl rfl rfl rfl ?_
      refine TL_noU rfl rfl rfl rfl ?_
      refine TL_noU rfl rfl rfl rfl ?_
      refine TL_no (b := false) rfl rfl rfl rfl ?_
      first | (refine TL_pure (d := (some 49)) rfl rfl rfl (PV_pickAnd rfl rfl rfl) ?_) | (refine TL_pure (d := (some 49)) rfl rfl rfl (PV_pickF rfl (by first | assumption | rfl | (simp; done) | (simp; omega)) rfl rfl) ?_)
      refine TL_pure (d := (some 30)) rfl rfl rfl (PV_assign rfl) ?_
      refine TL_nil ?_
      -- IF t30
      refine T_else rfl (by rfl) ?_
      refine T_seq ?_
      refine T_region ?_
      refine TL_pure (d := (some 58)) rfl rfl rfl (PV_move rfl) ?_
      refine TL_pure (d := (some 59)) rfl rfl rfl (PV_nilCheck rfl) ?_
      refine TL_pure (d := (some 60)) rfl rfl rfl (PV_fieldAddr (D := 5) Try.underlying133 rfl sz131 (by decide) rfl rfl) ?_
      refine TL_pure (d := (some 61)) rfl rfl rfl (PV_load Try.underlying131 rfl rfl (by first | exact Rd.at 0 rfl rfl | exact Rd.at 1 rfl rfl | exact Rd.at 2 rfl rfl | exact Rd.at 3 rfl rfl | exact Rd.at 4 rfl rfl | exact Rd.at 5 rfl rfl | exact Rd.at 6 rfl rfl | exact Rd.at 7 rfl rfl | exact Rd.at 8 rfl rfl)) ?_
      refine TL_pure (d := (some 62)) rfl rfl rfl (PV_bin rfl rfl bin_eql) ?_
      refine TL_pure (d := (some 57)) rfl rfl rfl (PV_assign rfl) ?_
      refine TL_nil ?_
      -- IF t57
      refine T_else rfl (by rfl) ?_
      refine T_seq ?_
      refine T_region ?_
      refine TL_pure (d := (some 64)) rfl rfl rfl (PV_move rfl) ?_
      refine TL_pure (d := (some 65)) rfl rfl rfl (PV_bin rfl rfl bin_eql) ?_
      refine TL_pure (d := (some 63)) rfl rfl rfl (PV_assign rfl) ?_
      refine TL_nil ?_
      -- IF t63
      refine T_then rfl (by rfl) ?_
      refine T_seq ?_
      refine T_seq ?_
      refine T_region ?_
      refine TL_pure (d := (some 66)) rfl rfl rfl (PV_move rfl) ?_
      refine TL_pure (d := (some 67)) rfl rfl rfl (PV_nilCheck rfl) ?_
      refine TL_pure (d := (some 68)) rfl rfl rfl (PV_fieldAddr (D := 5) Try.underlying133 rfl sz131 (by decide) rfl rfl) ?_
      refine TL_pure (d := (some 69)) rfl rfl rfl (PV_load Try.underlying131 rfl rfl (by first | exact Rd.at 0 rfl rfl | exact Rd.at 1 rfl rfl | exact Rd.at 2 rfl rfl | exact Rd.at 3 rfl rfl | exact Rd.at 4 rfl rfl | exact Rd.at 5 rfl rfl | exact Rd.at 6 rfl rfl | exact Rd.at 7 rfl rfl | exact Rd.at 8 rfl rfl)) ?_
      refine TL_pure (d := (some 70)) rfl rfl rfl (PV_bin rfl rfl bin_eql) ?_
      refine TL_nil ?_
      -- IF t70
      refine T_then rfl (by rfl) ?_
      refine T_region ?_
      refine TL_pure (d := (some 71)) rfl rfl rfl (PV_move rfl) ?_
      refine TL_pure (d := (some 72)) rfl rfl rfl (PV_nilCheck rfl) ?_
      refine TL_pure (d := (some 73)) rfl rfl rfl (PV_fieldAddr (D := 6) Try.underlying133 rfl sz3 (by decide) rfl rfl) ?_
      refine TL_pure (d := (some 74)) rfl rfl rfl (PV_load Try.underlying3 rfl rfl (by first | exact Rd.at 0 rfl rfl | exact Rd.at 1 rfl rfl | exact Rd.at 2 rfl rfl | exact Rd.at 3 rfl rfl | exact Rd.at 4 rfl rfl | exact Rd.at 5 rfl rfl | exact Rd.at 6 rfl rfl | exact Rd.at 7 rfl rfl | exact Rd.at 8 rfl rfl)) ?_
      refine TL_pure (d := (some 75)) rfl rfl rfl (PV.cast (PV_bin rfl rfl bin_add) (wr64n (at_ + 1) (by rfl) (by omega))) ?_
      refine TL_pure (d := (some 76)) rfl rfl rfl (PV_nilCheck rfl) ?_
      refine TL_pure (d := (some 77)) rfl rfl rfl (PV_fieldAddr (D := 6) Try.underlying133 rfl sz3 (by decide) rfl rfl) ?_
      first | (refine TL_cons rfl (TO_store1 0 rfl rfl rfl sz3 rfl rfl rfl (by first | exact Nat.le_of_ble_eq_true rfl | (simp; done) | (simp; omega) | omega) ?_)) | (refine TL_cons rfl (TO_store1 1 rfl rfl rfl sz3 rfl rfl rfl (by first | exact Nat.le_of_ble_eq_true rfl | (simp; done) | (simp; omega) | omega) ?_)) | (refine TL_cons rfl (TO_store1 2 rfl rfl rfl sz3 rfl rfl rfl (by first | exact Nat.le_of_ble_eq_true rfl | (simp; done) | (simp; omega) | omega) ?_)) | (refine TL_cons rfl (TO_store1 3 rfl rfl rfl sz3 rfl rfl rfl (by first | exact Nat.le_of_ble_eq_true rfl | (simp; done) | (simp; omega) | omega) ?_)) | (refine TL_cons rfl (TO_store1 4 rfl rfl rfl sz3 rfl rfl rfl (by first | exact Nat.le_of_ble_eq_true rfl | (simp; done) | (simp; omega) | omega) ?_)) | (refine TL_cons rfl (TO_store1 5 rfl rfl rfl sz3 rfl rfl rfl (by first | exact Nat.le_of_ble_eq_true rfl | (simp; done) | (simp; omega) | omega) ?_)) | (refine TL_cons rfl (TO_store1 6 rfl rfl rfl sz3 rfl rfl rfl (by first | exact Nat.le_of_ble_eq_true rfl | (simp; done) | (simp; omega) | omega) ?_)) | (refine TL_cons rfl (TO_store1 7 rfl rfl rfl sz3 rfl rfl rfl (by first | exact Nat.le_of_ble_eq_true rfl | (simp; done) | (simp; omega) | omega) ?_)) | (refine TL_cons rfl (TO_store1 8 rfl rfl rfl sz3 rfl rfl rfl (by first | exact Nat.le_of_ble_eq_true rfl | (simp; done) | (simp; omega) | omega) ?_))
      refine TL_nil ?_
      refine T_seq ?_
      refine T_region ?_
      refine TL_pure (d := (some 78)) rfl rfl rfl (PV_move rfl) ?_
      -- op 79 call F91(t78)
      refine TL_cons rfl (TO_call0 call91 rfl rfl (t91 _ hF2 hB2) ?_)
      rintro v79 H79 ⟨A46, k46, rfl, hk46, rfl⟩
      refine TL_pure (d := (some 4)) rfl rfl rfl (PV_assign rfl) ?_
      refine TL_nil ?_
      refine T_ret ?_
      -- ('ret',)
      refine ⟨_, _, ?_, ResV_one rfl rfl, ⟨A46, k46, rfl, hk46, rfl⟩⟩
      repeat (first | exact List.Sublist.refl _ | apply List.Sublist.cons_cons | apply List.Sublist.cons)

set_option maxRecDepth 100000 in
theorem t59ack2 {g : Nat} (s : Snd) (hF : s.Fit) (hB : s.Blk (WH w0 B X)) (h0 : s.phase = 2) : TCall Try.prog w0 B 59 #[.pointer (some ⟨g, 0, none⟩), .int .u8 6] (fun r H' => Gives (s.put1 6).next.now (sndC g (s.put1 6).next) X r H') (sndC g s :: X) := by
  have hF2 : (s.put1 6).Fit0 := ⟨hF.many, hF.ct1, hF.cw1, hF.ph, hF.at1, hF.tr, hF.lf⟩
  have hB2 : (s.put1 6).Blk (WH w0 B X) := ⟨hB.row, hB.all, hB.cap, hB.num⟩
  obtain ⟨ct, cw, A, c, qs, close, crc, phase, at_, tries, left, can, err⟩ := s
  unfold Snd.put1 at *
  dsimp only at h0
  subst h0
  cases can with
  | false =>
      refine TCall_intro (args := [_, _]) Try.func59 rfl Try.ntmps59 (Nat.le_of_ble_eq_true rfl) ?_
      refine T_seq ?_
      refine T_region ?_
      refine TL_pure (d := (some 4)) rfl rfl rfl (PV_assign rfl) ?_
      refine TL_nil ?_
      refine T_seq ?_
      refine T_region ?_
      refine TL_pure (d := (some 6)) rfl rfl rfl (PV_move rfl) ?_
      refine TL_pure (d := (some 7)) rfl rfl rfl (PV_nilCheck rfl) ?_
      refine TL_pure (d := (some 8)) rfl rfl rfl (PV_fieldAddr (D := 9) Try.underlying133 rfl sz4 (by decide) rfl rfl) ?_
      refine TL_pure (d := (some 9)) rfl rfl rfl (PV_load Try.underlying4 rfl rfl (by first | exact Rd.at 0 rfl rfl | exact Rd.at 1 rfl rfl | exact Rd.at 2 rfl rfl | exact Rd.at 3 rfl rfl | exact Rd.at 4 rfl rfl | exact Rd.at 5 rfl rfl | exact Rd.at 6 rfl rfl | exact Rd.at 7 rfl rfl | exact Rd.at 8 rfl rfl)) ?_
      refine TL_pure (d := (some 10)) rfl rfl rfl (PV_move rfl) ?_
      -- guard 11 move t1
      refine TL_no (b := false) rfl rfl rfl rfl ?_
      refine TL_no (b := false) rfl rfl rfl rfl ?_
      first | (refine TL_pure (d := (some 13)) rfl rfl rfl (PV_pickAnd rfl rfl rfl) ?_) | (refine TL_pure (d := (some 13)) rfl rfl rfl (PV_pickF rfl (by first | assumption | rfl | (simp; done) | (simp; omega)) rfl rfl) ?_)
      refine TL_pure (d := (some 5)) rfl rfl rfl (PV_assign rfl) ?_
      refine TL_nil ?_
      refine T_seq ?_
      refine T_region ?_
      refine TL_pure (d := (some 14)) rfl rfl rfl (PV_move rfl) ?_
      refine TL_pure (d := (some 15)) rfl rfl rfl (PV_move rfl) ?_
      refine TL_pure (d := (some 16)) rfl rfl rfl (PV_bin rfl rfl bin_eql) ?_
      refine TL_pure (d := (some 17)) rfl rfl rfl (PV_nilCheck rfl) ?_
      refine TL_pure (d := (some 18)) rfl rfl rfl (PV_fieldAddr (D := 9) Try.underlying133 rfl sz4 (by decide) rfl rfl) ?_
      first | (refine TL_cons rfl (TO_store1 0 rfl rfl rfl sz4 rfl rfl rfl (by first | exact Nat.le_of_ble_eq_true rfl | (simp; done) | (simp; omega) | omega) ?_)) | (refine TL_cons rfl (TO_store1 1 rfl rfl rfl sz4 rfl rfl rfl (by first | exact Nat.le_of_ble_eq_true rfl | (simp; done) | (simp; omega) | omega) ?_)) | (refine TL_cons rfl (TO_store1 2 rfl rfl rfl sz4 rfl rfl rfl (by first | exact Nat.le_of_ble_eq_true rfl | (simp; done) | (simp; omega) | omega) ?_)) | (refine TL_cons rfl (TO_store1 3 rfl rfl rfl sz4 rfl rfl rfl (by first | exact Nat.le_of_ble_eq_true rfl | (simp; done) | (simp; omega) | omega) ?_)) | (refine TL_cons rfl (TO_store1 4 rfl rfl rfl sz4 rfl rfl rfl (by first | exact Nat.le_of_ble_eq_true rfl | (simp; done) | (simp; omega) | omega) ?_)) | (refine TL_cons rfl (TO_store1 5 rfl rfl rfl sz4 rfl rfl rfl (by first | exact Nat.le_of_ble_eq_true rfl | (simp; done) | (simp; omega) | omega) ?_)) | (refine TL_cons rfl (TO_store1 6 rfl rfl rfl sz4 rfl rfl rfl (by first | exact Nat.le_of_ble_eq_true rfl | (simp; done) | (simp; omega) | omega) ?_)) | (refine TL_cons rfl (TO_store1 7 rfl rfl rfl sz4 rfl rfl rfl (by first | exact Nat.le_of_ble_eq_true rfl | (simp; done) | (simp; omega) | omega) ?_)) | (refine TL_cons rfl (TO_store1 8 rfl rfl rfl sz4 rfl rfl rfl (by first | exact Nat.le_of_ble_eq_true rfl | (simp; done) | (simp; omega) | omega) ?_))
      refine TL_nil ?_
      refine T_seq ?_
      refine T_block ?_
      refine T_seq ?_
      refine T_region ?_
      refine TL_pure (d := (some 20)) rfl rfl rfl (PV_move rfl) ?_
      refine TL_pure (d := (some 21)) rfl rfl rfl (PV_nilCheck rfl) ?_
      refine TL_pure (d := (some 22)) rfl rfl rfl (PV_fieldAddr (D := 5) Try.underlying133 rfl sz131 (by decide) rfl rfl) ?_
      refine TL_pure (d := (some 23)) rfl rfl rfl (PV_load Try.underlying131 rfl rfl (by first | exact Rd.at 0 rfl rfl | exact Rd.at 1 rfl rfl | exact Rd.at 2 rfl rfl | exact Rd.at 3 rfl rfl | exact Rd.at 4 rfl rfl | exact Rd.at 5 rfl rfl | exact Rd.at 6 rfl rfl | exact Rd.at 7 rfl rfl | exact Rd.at 8 rfl rfl)) ?_
      refine TL_pure (d := (some 24)) rfl rfl rfl (PV_bin rfl rfl bin_eql) ?_
      refine TL_pure (d := (some 19)) rfl rfl rfl (PV_assign rfl) ?_
      refine TL_nil ?_
      -- IF t19
      refine T_else rfl (by rfl) ?_
      refine T_seq ?_
      refine T_region ?_
      refine TL_pure (d := (some 26)) rfl rfl rfl (PV_move rfl) ?_
      refine TL_pure (d := (some 25)) rfl rfl rfl (PV_assign rfl) ?_
      refine TL_nil ?_
      -- IF t25
      refine T_else rfl (by rfl) ?_
      refine T_seq ?_
      refine T_region ?_
      refine TL_pure (d := (some 31)) rfl rfl rfl (PV_move rfl) ?_
      refine TL_pure (d := (some 32)) rfl rfl rfl (PV_nilCheck rfl) ?_
      refine TL_pure (d := (some 33)) rfl rfl rfl (PV_fieldAddr (D := 5) Try.underlying133 rfl sz131 (by decide) rfl rfl) ?_
      refine TL_pure (d := (some 34)) rfl rfl rfl (PV_load Try.underlying131 rfl rfl (by first | exact Rd.at 0 rfl rfl | exact Rd.at 1 rfl rfl | exact Rd.at 2 rfl rfl | exact Rd.at 3 rfl rfl | exact Rd.at 4 rfl rfl | exact Rd.at 5 rfl rfl | exact Rd.at 6 rfl rfl | exact Rd.at 7 rfl rfl | exact Rd.at 8 rfl rfl)) ?_
      refine TL_pure (d := (some 35)) rfl rfl rfl (PV.cast (PV_bin rfl rfl bin_eql) (congrArg Value.bool (show _ = false by rfl))) ?_
      refine TL_pure (d := (some 36)) rfl rfl rfl (PV_move rfl) ?_
      -- guard 37 move t1
      refine TL_no (b := false) rfl rfl rfl rfl ?_
      refine TL_no (b := false) rfl rfl rfl rfl ?_
      refine TL_no (b := false) rfl rfl rfl rfl ?_
      refine TL_noU rfl rfl rfl rfl ?_
      refine TL_noU rfl rfl rfl rfl ?_
      refine TL_noU rfl rfl rfl rfl ?_
      refine TL_noU rfl rfl rfl rfl ?_
      refine TL_noU rfl rfl rfl rfl ?_
      refine TL_noU rfl rfl rfl rfl ?_
      refine TL_noU rfl rfl rfl rfl ?_
      refine TL_noU rfl rfl rfl rfl ?_
      refine TL_no (b := false) rfl rfl rfl rfl ?_
      first | (refine TL_pure (d := (some 49)) rfl rfl rfl (PV_pickAnd rfl rfl rfl) ?_) | (refine TL_pure (d := (some 49)) rfl rfl rfl (PV_pickF rfl (by first | assumption | rfl | (simp; done) | (simp; omega)) rfl rfl) ?_)
      refine TL_pure (d := (some 30)) rfl rfl rfl (PV_assign rfl) ?_
      refine TL_nil ?_
      -- IF t30
      refine T_else rfl (by rfl) ?_
      refine T_seq ?_
      refine T_region ?_
      refine TL_pure (d := (some 58)) rfl rfl rfl (PV_move rfl) ?_
      refine TL_pure (d := (some 59)) rfl rfl rfl (PV_nilCheck rfl) ?_
      refine TL_pure (d := (some 60)) rfl rfl rfl (PV_fieldAddr (D := 5) Try.underlying133 rfl sz131 (by decide) rfl rfl) ?_
      refine TL_pure (d := (some 61)) rfl rfl rfl (PV_load Try.underlying131 rfl rfl (by first | exact Rd.at 0 rfl rfl | exact Rd.at 1 rfl rfl | exact Rd.at 2 rfl rfl | exact Rd.at 3 rfl rfl | exact Rd.at 4 rfl rfl | exact Rd.at 5 rfl rfl | exact Rd.at 6 rfl rfl | exact Rd.at 7 rfl rfl | exact Rd.at 8 rfl rfl)) ?_
      refine TL_pure (d := (some 62)) rfl rfl rfl (PV_bin rfl rfl bin_eql) ?_
      refine TL_pure (d := (some 57)) rfl rfl rfl (PV_assign rfl) ?_
      refine TL_nil ?_
      -- IF t57
      refine T_else rfl (by rfl) ?_
      refine T_seq ?_
      refine T_region ?_
      refine TL_pure (d := (some 64)) rfl rfl rfl (PV_move rfl) ?_
      refine TL_pure (d := (some 65)) rfl rfl rfl (PV_bin rfl rfl bin_eql) ?_
      refine TL_pure (d := (some 63)) rfl rfl rfl (PV_assign rfl) ?_
      refine TL_nil ?_
      -- IF t63
      refine T_then rfl (by rfl) ?_
      refine T_seq ?_
      refine T_seq ?_
      refine T_region ?_
      refine TL_pure (d := (some 66)) rfl rfl rfl (PV_move rfl) ?_
      refine TL_pure (d := (some 67)) rfl rfl rfl (PV_nilCheck rfl) ?_
      refine TL_pure (d := (some 68)) rfl rfl rfl (PV_fieldAddr (D := 5) Try.underlying133 rfl sz131 (by decide) rfl rfl) ?_
      refine TL_pure (d := (some 69)) rfl rfl rfl (PV_load Try.underlying131 rfl rfl (by first | exact Rd.at 0 rfl rfl | exact Rd.at 1 rfl rfl | exact Rd.at 2 rfl rfl | exact Rd.at 3 rfl rfl | exact Rd.at 4 rfl rfl | exact Rd.at 5 rfl rfl | exact Rd.at 6 rfl rfl | exact Rd.at 7 rfl rfl | exact Rd.at 8 rfl rfl)) ?_
      refine TL_pure (d := (some 70)) rfl rfl rfl (PV_bin rfl rfl bin_eql) ?_
      refine TL_nil ?_
      -- IF t70
      refine T_else rfl (by rfl) ?_
      refine T_skip ?_
      refine T_seq ?_
      refine T_region ?_
      refine TL_pure (d := (some 78)) rfl rfl rfl (PV_move rfl) ?_
      -- op 79 call F91(t78)
      refine TL_cons rfl (TO_call0 call91 rfl rfl (t91 _ hF2 hB2) ?_)
      rintro v79 H79 ⟨A46, k46, rfl, hk46, rfl⟩
      refine TL_pure (d := (some 4)) rfl rfl rfl (PV_assign rfl) ?_
      refine TL_nil ?_
      refine T_ret ?_
      -- ('ret',)
      refine ⟨_, _, ?_, ResV_one rfl rfl, ⟨A46, k46, rfl, hk46, rfl⟩⟩
      repeat (first | exact List.Sublist.refl _ | apply List.Sublist.cons_cons | apply List.Sublist.cons)
  | true =>
      refine TCall_intro (args := [_, _]) Try.func59 rfl Try.ntmps59 (Nat.le_of_ble_eq_true rfl) ?_
      refine T_seq ?_
      refine T_region ?_
      refine TL_pure (d := (some 4)) rfl rfl rfl (PV_assign rfl) ?_
      refine TL_nil ?_
      refine T_seq ?_
      refine T_region ?_
      refine TL_pure (d := (some 6)) rfl rfl rfl (PV_move rfl) ?_
      refine TL_pure (d := (some 7)) rfl rfl rfl (PV_nilCheck rfl) ?_
      refine TL_pure (d := (some 8)) rfl rfl rfl (PV_fieldAddr (D := 9) Try.underlying133 rfl sz4 (by decide) rfl rfl) ?_
      refine TL_pure (d := (some 9)) rfl rfl rfl (PV_load Try.underlying4 rfl rfl (by first | exact Rd.at 0 rfl rfl | exact Rd.at 1 rfl rfl | exact Rd.at 2 rfl rfl | exact Rd.at 3 rfl rfl | exact Rd.at 4 rfl rfl | exact Rd.at 5 rfl rfl | exact Rd.at 6 rfl rfl | exact Rd.at 7 rfl rfl | exact Rd.at 8 rfl rfl)) ?_
      refine TL_pure (d := (some 10)) rfl rfl rfl (PV_move rfl) ?_
      -- guard 11 move t1
      -- guard 11 move t1
      refine TL_yes rfl rfl rfl (TO_pure rfl (PV_move rfl) ?_)
      refine TL_yes rfl rfl rfl (TO_pure rfl (PV.cast (PV_bin rfl rfl bin_eql) (congrArg Value.bool (show _ = false by rfl))) ?_)
      first | (refine TL_pure (d := (some 13)) rfl rfl rfl (PV_pickAnd rfl rfl rfl) ?_) | (refine TL_pure (d := (some 13)) rfl rfl rfl (PV_pickF rfl (by first | assumption | rfl | (simp; done) | (simp; omega)) rfl rfl) ?_)
      refine TL_pure (d := (some 5)) rfl rfl rfl (PV_assign rfl) ?_
      refine TL_nil ?_
      refine T_seq ?_
      refine T_region ?_
      refine TL_pure (d := (some 14)) rfl rfl rfl (PV_move rfl) ?_
      refine TL_pure (d := (some 15)) rfl rfl rfl (PV_move rfl) ?_
      refine TL_pure (d := (some 16)) rfl rfl rfl (PV_bin rfl rfl bin_eql) ?_
      refine TL_pure (d := (some 17)) rfl rfl rfl (PV_nilCheck rfl) ?_
      refine TL_pure (d := (some 18)) rfl rfl rfl (PV_fieldAddr (D := 9) Try.underlying133 rfl sz4 (by decide) rfl rfl) ?_
      first | (refine TL_cons rfl (TO_store1 0 rfl rfl rfl sz4 rfl rfl rfl (by first | exact Nat.le_of_ble_eq_true rfl | (simp; done) | (simp; omega) | omega) ?_)) | (refine TL_cons rfl (TO_store1 1 rfl rfl rfl sz4 rfl rfl rfl (by first | exact Nat.le_of_ble_eq_true rfl | (simp; done) | (simp; omega) | omega) ?_)) | (refine TL_cons rfl (TO_store1 2 rfl rfl rfl sz4 rfl rfl rfl (by first | exact Nat.le_of_ble_eq_true rfl | (simp; done) | (simp; omega) | omega) ?_)) | (refine TL_cons rfl (TO_store1 3 rfl rfl rfl sz4 rfl rfl rfl (by first | exact Nat.le_of_ble_eq_true rfl | (simp; done) | (simp; omega) | omega) ?_)) | (refine TL_cons rfl (TO_store1 4 rfl rfl rfl sz4 rfl rfl rfl (by first | exact Nat.le_of_ble_eq_true rfl | (simp; done) | (simp; omega) | omega) ?_)) | (refine TL_cons rfl (TO_store1 5 rfl rfl rfl sz4 rfl rfl rfl (by first | exact Nat.le_of_ble_eq_true rfl | (simp; done) | (simp; omega) | omega) ?_)) | (refine TL_cons rfl (TO_store1 6 rfl rfl rfl sz4 rfl rfl rfl (by first | exact Nat.le_of_ble_eq_true rfl | (simp; done) | (simp; omega) | omega) ?_)) | (refine TL_cons rfl (TO_store1 7 rfl rfl rfl sz4 rfl rfl rfl (by first | exact Nat.le_of_ble_eq_true rfl | (simp; done) | (simp; omega) | omega) ?_)) | (refine TL_cons rfl (TO_store1 8 rfl rfl rfl sz4 rfl rfl rfl (by first | exact Nat.le_of_ble_eq_true rfl | (simp; done) | (simp; omega) | omega) ?_))
      refine TL_nil ?_
      refine T_seq ?_
      refine T_block ?_
      refine T_seq ?_
      refine T_region ?_
      refine TL_pure (d := (some 20)) rfl rfl rfl (PV_move rfl) ?_
      refine TL_pure (d := (some 21)) rfl rfl rfl (PV_nilCheck rfl) ?_
      refine TL_pure (d := (some 22)) rfl rfl rfl (PV_fieldAddr (D := 5) Try.underlying133 rfl sz131 (by decide) rfl rfl) ?_
      refine TL_pure (d := (some 23)) rfl rfl rfl (PV_load Try.underlying131 rfl rfl (by first | exact Rd.at 0 rfl rfl | exact Rd.at 1 rfl rfl | exact Rd.at 2 rfl rfl | exact Rd.at 3 rfl rfl | exact Rd.at 4 rfl rfl | exact Rd.at 5 rfl rfl | exact Rd.at 6 rfl rfl | exact Rd.at 7 rfl rfl | exact Rd.at 8 rfl rfl)) ?_
      refine TL_pure (d := (some 24)) rfl rfl rfl (PV_bin rfl rfl bin_eql) ?_
      refine TL_pure (d := (some 19)) rfl rfl rfl (PV_assign rfl) ?_
      refine TL_nil ?_
      -- IF t19
      refine T_else rfl (by rfl) ?_
      refine T_seq ?_
      refine T_region ?_
      refine TL_pure (d := (some 26)) rfl rfl rfl (PV_move rfl) ?_
      refine TL_pure (d := (some 25)) rfl rfl rfl (PV_assign rfl) ?_
      refine TL_nil ?_
      -- IF t25
      refine T_else rfl (by rfl) ?_
      refine T_seq ?_
      refine T_region ?_
      refine TL_pure (d := (some 31)) rfl rfl rfl (PV_move rfl) ?_
      refine TL_pure (d := (some 32)) rfl rfl rfl (PV_nilCheck rfl) ?_
      refine TL_pure (d := (some 33)) rfl rfl rfl (PV_fieldAddr (D := 5) Try.underlying133 rfl sz131 (by decide) rfl rfl) ?_
      refine TL_pure (d := (some 34)) rfl rfl rfl (PV_load Try.underlying131 rfl rfl (by first | exact Rd.at 0 rfl rfl | exact Rd.at 1 rfl rfl | exact Rd.at 2 rfl rfl | exact Rd.at 3 rfl rfl | exact Rd.at 4 rfl rfl | exact Rd.at 5 rfl rfl | exact Rd.at 6 rfl rfl | exact Rd.at 7 rfl rfl | exact Rd.at 8 rfl rfl)) ?_
      refine TL_pure (d := (some 35)) rfl rfl rfl (PV.cast (PV_bin rfl rfl bin_eql) (congrArg Value.bool (show _ = false by rfl))) ?_
      refine TL_pure (d := (some 36)) rfl rfl rfl (PV_move rfl) ?_
      -- guard 37 move t1
      refine TL_no (b := false) rfl rfl rfl rfl ?_
      refine TL_no (b := false) rfl rfl rfl rfl ?_
      refine TL_no (b := false) rfl rfl rfl rfl ?_
      refine TL_noU rfl rfl rfl rfl ?_
      refine TL_noU rfl rfl rfl rfl ?_
      refine TL_noU rfl rfl rfl rfl ?_
      refine TL_noU rfl rfl rfl rfl ?_
      refine TL_noU rfl rfl rfl rfl ?_
      refine TL_noU rfl rfl rfl rfl ?_
      refine TL_noU rfl rfl rfl rfl ?_
      refine TL_noU rfl rfl rfl rfl ?_
      refine TL_no (b := false) rfl rfl rfl rfl ?_
      first | (refine TL_pure (d := (some 49)) rfl rfl rfl (PV_pickAnd rfl rfl rfl) ?_) | (refine TL_pure (d := (some 49)) rfl rfl rfl (PV_pickF rfl (by first | assumption | rfl | (simp; done) | (simp; omega)) rfl rfl) ?_)
      refine TL_pure (d := (some 30)) rfl rfl rfl (PV_assign rfl) ?_
      refine TL_nil ?_
      -- IF t30
      refine T_else rfl (by rfl) ?_
      refine T_seq ?_
      refine T_region ?_
      refine TL_pure (d := (some 58)) rfl rfl rfl (PV_move rfl) ?_
      refine TL_pure (d := (some 59)) rfl rfl rfl (PV_nilCheck rfl) ?_
      refine TL_pure (d := (some 60)) rfl rfl rfl (PV_fieldAddr (D := 5) Try.underlying133 rfl sz131 (by decide) rfl rfl) ?_
      refine TL_pure (d := (some 61)) rfl rfl rfl (PV_load Try.underlying131 rfl rfl (by first | exact Rd.at 0 rfl rfl | exact Rd.at 1 rfl rfl | exact Rd.at 2 rfl rfl | exact Rd.at 3 rfl rfl | exact Rd.at 4 rfl rfl | exact Rd.at 5 rfl rfl | exact Rd.at 6 rfl rfl | exact Rd.at 7 rfl rfl | exact Rd.at 8 rfl rfl)) ?_
      refine TL_pure (d := (some 62)) rfl rfl rfl (PV_bin rfl rfl bin_eql) ?_
      refine TL_pure (d := (some 57)) rfl rfl rfl (PV_assign rfl) ?_
      refine TL_nil ?_
      -- IF t57
      refine T_else rfl (by rfl) ?_
      refine T_seq ?_
      refine T_region ?_
      refine TL_pure (d := (some 64)) rfl rfl rfl (PV_move rfl) ?_
      refine TL_pure (d := (some 65)) rfl rfl rfl (PV_bin rfl rfl bin_eql) ?_
      refine TL_pure (d := (some 63)) rfl rfl rfl (PV_assign rfl) ?_
      refine TL_nil ?_
      -- IF t63
      refine T_then rfl (by rfl) ?_
      refine T_seq ?_
      refine T_seq ?_
      refine T_region ?_
      refine TL_pure (d := (some 66)) rfl rfl rfl (PV_move rfl) ?_
      refine TL_pure (d := (some 67)) rfl rfl rfl (PV_nilCheck rfl) ?_
      refine TL_pure (d := (some 68)) rfl rfl rfl (PV_fieldAddr (D := 5) Try.underlying133 rfl sz131 (by decide) rfl rfl) ?_
      refine TL_pure (d := (some 69)) rfl rfl rfl (PV_load Try.underlying131 rfl rfl (by first | exact Rd.at 0 rfl rfl | exact Rd.at 1 rfl rfl | exact Rd.at 2 rfl rfl | exact Rd.at 3 rfl rfl | exact Rd.at 4 rfl rfl | exact Rd.at 5 rfl rfl | exact Rd.at 6 rfl rfl | exact Rd.at 7 rfl rfl | exact Rd.at 8 rfl rfl)) ?_
      refine TL_pure (d := (some 70)) rfl rfl rfl (PV_bin rfl rfl bin_eql) ?_
      refine TL_nil ?_
      -- IF t70
      refine T_else rfl (by rfl) ?_
      refine T_skip ?_
      refine T_seq ?_
      refine T_region ?_
      refine TL_pure (d := (some 78)) rfl rfl rfl (PV_move rfl) ?_
      -- op 79 call F91(t78)
      refine TL_cons rfl (TO_call0 call91 rfl rfl (t91 _ hF2 hB2) ?_)
      rintro v79 H79 ⟨A46, k46, rfl, hk46, rfl⟩
      refine TL_pure (d := (some 4)) rfl rfl rfl (PV_assign rfl) ?_
      refine TL_nil ?_
      refine T_ret ?_
      -- ('ret',)
      refine ⟨_, _, ?_, ResV_one rfl rfl, ⟨A46, k46, rfl, hk46, rfl⟩⟩
      repeat (first | exact List.Sublist.refl _ | apply List.Sublist.cons_cons | apply List.Sublist.cons)

end
end Go.Proofs.Ythdkmgeigdoglaa.SL
