import Derived.Test.YtpfcpookdocikaaB3
/- The sender: what it does, function by function. No statement is proved here. -/
set_option linter.unusedVariables false
set_option linter.unusedSimpArgs false
set_option maxRecDepth 100000
namespace Go.Proofs.Ytpfcpookdocikaa.SL
open Go Go.RowKit
abbrev Part := Option Addr × Nat × List Int
def pCh (p : Part) : Chunk := .sl (.slice p.1 p.2.2.length p.2.1) 1 p.2.2.length (nums .u8 p.2.2)
def pVal (p : Part) : Value := .slice p.1 p.2.2.length p.2.1
theorem pVal_one {ps : List Part} : ∀ u ∈ ps.map pVal, u.oneCell' = true := fun u hu => by
  obtain ⟨p, _, rfl⟩ := List.mem_map.1 hu
  rfl
/-- the cells of a row of blocks -/
def bCells : Nat → List Part → List Value
  | _, [] => []
  | k, p :: ps => .int .u8 (((k + 1) % 256 : Nat) : Int) :: pVal p :: bCells (k + 1) ps
theorem bCells_app : ∀ (k : Nat) (ps : List Part) (p : Part), bCells k (ps ++ [p]) = bCells k ps ++ [.int .u8 (((k + ps.length + 1) % 256 : Nat) : Int), pVal p]
  | k, [], p => rfl
  | k, q :: ps, p => by
    simp only [List.cons_append, bCells, bCells_app (k + 1) ps p, List.length_cons]
    rw [show k + 1 + ps.length + 1 = k + (ps.length + 1) + 1 by omega]
theorem bCells_len : ∀ (k : Nat) (ps : List Part), (bCells k ps).length = ps.length * 2
  | k, [] => rfl
  | k, q :: ps => by simp only [bCells, List.length_cons, bCells_len (k + 1) ps]; omega
theorem bCells_get : ∀ (k : Nat) (ps : List Part) (i : Nat) (p : Part), ps[i]? = some p → (bCells k ps)[i * 2]? = some (.int .u8 (((k + i + 1) % 256 : Nat) : Int)) ∧ (bCells k ps)[i * 2 + 1]? = some (pVal p)
  | k, [], i, p, h => by simp at h
  | k, q :: ps, 0, p, h => by
    simp only [List.getElem?_cons_zero, Option.some.injEq] at h
    subst h
    exact ⟨rfl, rfl⟩
  | k, q :: ps, i + 1, p, h => by
    rw [List.getElem?_cons_succ] at h
    have := bCells_get (k + 1) ps i p h
    rw [show k + 1 + i + 1 = k + (i + 1) + 1 by omega] at this
    rw [show (i + 1) * 2 = i * 2 + 1 + 1 by omega]
    exact this
theorem bCells_one : ∀ (k : Nat) (ps : List Part), ∀ u ∈ bCells k ps, u.oneCell' = true
  | k, [], u, h => by cases h
  | k, q :: ps, u, h => by
    rcases List.mem_cons.1 h with rfl | h
    · rfl
    · rcases List.mem_cons.1 h with rfl | h
      · rfl
      · exact bCells_one _ _ u h
theorem wrapu8 (i : Nat) : Value.int .u8 (IntKind.u8.wrap ((i : Nat) : Int)) = Value.int .u8 (((i % 256 : Nat)) : Int) := by rw [IntKind.wrap_u8]; congr 1
/-- rows that can be read -/
def ShowsAll (W : World → Prop) (ps : List Part) : Prop := ∀ p ∈ ps, Shows W p.1 p.2.2.length 1 (nums .u8 p.2.2) ∧ p.2.2.length ≤ p.2.1
theorem ShowsAll.mono {W W' : World → Prop} {ps : List Part} (h : ShowsAll W ps) (hw : ∀ w, W' w → W w) : ShowsAll W' ps := fun p hp => ⟨(h p hp).1.mono hw, (h p hp).2⟩
section
variable {w0 : World} {B : Nat} {H X : List Chunk}
theorem ShowsAll.mem {ps : List Part} (hc : ∀ p ∈ ps, p.2.2.length ≤ p.2.1) (hm : ∀ p ∈ ps, pCh p ∈ H) : ShowsAll (WH w0 B H) ps := fun p hp => ⟨Shows.mem (c := p.2.1) (hm p hp), hc p hp⟩
/-- blocks that can be read: their data -/
def SBlk (W : World → Prop) (A : Option Addr) (c : Nat) (qs : List (List Int)) : Prop := qs.length ≤ c ∧ ∃ ps : List Part, ps.map (·.2.2) = qs ∧ Shows W A qs.length 2 (bCells 0 ps) ∧ ShowsAll W ps
theorem SBlk.mono {W W' : World → Prop} {A : Option Addr} {c : Nat} {qs : List (List Int)} (h : SBlk W A c qs) (hw : ∀ w, W' w → W w) : SBlk W' A c qs := by
  obtain ⟨h1, ps, h2, h3, h4⟩ := h
  exact ⟨h1, ps, h2, h3.mono hw, h4.mono hw⟩
/-- an error by its number -/
def errV (e : Int) : Value := if e = 0 then .nilIface else .iface 56 (.int .i64 e)
/-- a sender -/
structure Sn where
  ct : Int
  cw : Int
  qs : List (List Int)
  close : Bool
  crc : Bool
  phase : Int
  at_ : Nat
  tries : Int
  left : Int
  can : Bool
  err : Int
def sC (g : Nat) (A : Option Addr) (c : Nat) (s : Sn) : Chunk := .own g 11 [.int .i64 s.ct, .int .i64 s.cw, .slice A s.qs.length c, .bool s.close, .bool s.crc, .int .i64 s.phase, .int .i64 (s.at_ : Int), .int .i64 s.tries, .int .i64 s.left, .bool s.can, errV s.err]
structure Sn.Fit0 (s : Sn) : Prop where
  many : s.qs.length ≤ 65535
  num : ∀ q ∈ s.qs, U8s q ∧ (q.length = 128 ∨ q.length = 1024)
  ct1 : 1 ≤ s.ct ∧ s.ct ≤ 9
  cw1 : 1 ≤ s.cw ∧ s.cw ≤ 99
  ph : 0 ≤ s.phase ∧ s.phase ≤ 3
  at1 : s.at_ ≤ s.qs.length
  tr : 1 ≤ s.tries ∧ s.tries ≤ 9
  lf : s.phase = 3 ∨ 1 ≤ s.left ∧ s.left ≤ 99
structure Sn.Fit (s : Sn) : Prop extends Sn.Fit0 s where
  dat : s.phase = 1 → s.at_ < s.qs.length
/-- the bytes of its block -/
def Sn.bytes (s : Sn) : List Int := match s.qs[s.at_]? with
  | some q => blockL (leadOf q.length) (((0 + s.at_ + 1) % 256 : Nat) : Int) q s.crc
  | none => []
def Sn.now (s : Sn) : List Int := if s.phase = 1 then s.bytes else if s.phase = 2 then [4] else []
def Sn.fin (s : Sn) (e : Int) : Sn := { s with phase := 3, err := e }
def Sn.next (s : Sn) : Sn :=
  if s.at_ < s.qs.length then { s with tries := 1, left := s.cw, phase := 1 }
  else if s.close = true ∧ s.phase ≠ 2 then { s with tries := 1, left := s.cw, phase := 2 }
  else { s with tries := 1, left := s.cw, phase := 3, err := 0 }
def Sn.again (s : Sn) : Sn := if s.tries ≥ s.ct then { s with phase := 3, err := 10 } else { s with tries := s.tries + 1, left := s.cw }
def Sn.againOut (s : Sn) : List Int := if s.tries ≥ s.ct then [24, 24] else s.now
def Sn.tick (s : Sn) : Sn := if s.phase = 3 then s else if s.left - 1 > 0 then { s with left := s.left - 1 } else ({ s with left := s.left - 1 } : Sn).again
def Sn.tickOut (s : Sn) : List Int := if s.phase = 3 then [] else if s.left - 1 > 0 then [] else ({ s with left := s.left - 1 } : Sn).againOut
def Sn.can1 (s : Sn) (c : Int) : Sn := { s with can := c == 24 }
/-- a byte at which it goes on: to this -/
def Sn.put (s : Sn) (c : Int) : Sn :=
  if s.phase = 3 then s.can1 c
  else if s.can = true ∧ c = 24 then (s.can1 c).fin 9
  else if s.phase = 0 ∧ (c = 21 ∨ c = 67 ∧ s.crc = true) then ({ s.can1 c with crc := c == 67 } : Sn).next
  else if s.phase = 0 then s.can1 c
  else if c = 6 then (if s.phase = 1 then ({ s.can1 c with at_ := s.at_ + 1 } : Sn).next else (s.can1 c).next)
  else if c = 21 then (s.can1 c).again
  else s.can1 c
def Sn.putOut (s : Sn) (c : Int) : List Int :=
  if s.phase = 3 then []
  else if s.can = true ∧ c = 24 then []
  else if s.phase = 0 ∧ (c = 21 ∨ c = 67 ∧ s.crc = true) then ({ s.can1 c with crc := c == 67 } : Sn).next.now
  else if s.phase = 0 then []
  else if c = 6 then (if s.phase = 1 then ({ s.can1 c with at_ := s.at_ + 1 } : Sn).next.now else (s.can1 c).next.now)
  else if c = 21 then (s.can1 c).againOut
  else []
theorem Sn.Fit0.next {s : Sn} (h : s.Fit0) : s.next.Fit := by
  have h2 := h.cw1
  unfold Sn.next
  split
  · exact ⟨⟨h.many, h.num, h.ct1, h.cw1, ⟨by show (0 : Int) ≤ 1; decide, by show (1 : Int) ≤ 3; decide⟩, h.at1, ⟨by show (1 : Int) ≤ 1; decide, by show (1 : Int) ≤ 9; decide⟩, Or.inr h2⟩, fun _ => by assumption⟩
  · split
    · exact ⟨⟨h.many, h.num, h.ct1, h.cw1, ⟨by show (0 : Int) ≤ 2; decide, by show (2 : Int) ≤ 3; decide⟩, h.at1, ⟨by show (1 : Int) ≤ 1; decide, by show (1 : Int) ≤ 9; decide⟩, Or.inr h2⟩, fun e => by exact absurd (show (2 : Int) = 1 from e) (by decide)⟩
    · exact ⟨⟨h.many, h.num, h.ct1, h.cw1, ⟨by show (0 : Int) ≤ 3; decide, by show (3 : Int) ≤ 3; decide⟩, h.at1, ⟨by show (1 : Int) ≤ 1; decide, by show (1 : Int) ≤ 9; decide⟩, Or.inl rfl⟩, fun e => by exact absurd (show (3 : Int) = 1 from e) (by decide)⟩
theorem Sn.Fit.again {s : Sn} (h : s.Fit) : s.again.Fit := by
  have h2 := h.cw1
  have h3 := h.ct1
  have h4 := h.tr
  unfold Sn.again
  split
  · exact ⟨⟨h.many, h.num, h.ct1, h.cw1, ⟨by show (0 : Int) ≤ 3; decide, by show (3 : Int) ≤ 3; decide⟩, h.at1, h.tr, Or.inl rfl⟩, fun e => by exact absurd (show (3 : Int) = 1 from e) (by decide)⟩
  · exact ⟨⟨h.many, h.num, h.ct1, h.cw1, h.ph, h.at1, ⟨by show 1 ≤ s.tries + 1; omega, by show s.tries + 1 ≤ 9; omega⟩, Or.inr h2⟩, h.dat⟩
theorem Sn.Fit.tick {s : Sn} (h : s.Fit) : s.tick.Fit := by
  have h2 := h.lf
  unfold Sn.tick
  split
  · exact h
  · split
    · refine ⟨⟨h.many, h.num, h.ct1, h.cw1, h.ph, h.at1, h.tr, Or.inr ⟨?_, ?_⟩⟩, h.dat⟩
      · show 1 ≤ s.left - 1; omega
      · show s.left - 1 ≤ 99; omega
    · have h2 := h.cw1
      have h3 := h.ct1
      have h4 := h.tr
      unfold Sn.again
      split
      · exact ⟨⟨h.many, h.num, h.ct1, h.cw1, ⟨by show (0 : Int) ≤ 3; decide, by show (3 : Int) ≤ 3; decide⟩, h.at1, h.tr, Or.inl rfl⟩, fun e => by exact absurd (show (3 : Int) = 1 from e) (by decide)⟩
      · refine ⟨⟨h.many, h.num, h.ct1, h.cw1, h.ph, h.at1, ⟨by show 1 ≤ s.tries + 1; omega, ?_⟩, Or.inr h2⟩, h.dat⟩
        show s.tries + 1 ≤ 9
        have : ¬ s.tries ≥ s.ct := by assumption
        omega
theorem Sn.Fit.put {s : Sn} (h : s.Fit) (c : Int) : (s.put c).Fit := by
  have hc : (s.can1 c).Fit := ⟨⟨h.many, h.num, h.ct1, h.cw1, h.ph, h.at1, h.tr, h.lf⟩, h.dat⟩
  unfold Sn.put
  split
  · exact hc
  · split
    · exact ⟨⟨h.many, h.num, h.ct1, h.cw1, ⟨by show (0 : Int) ≤ 3; decide, by show (3 : Int) ≤ 3; decide⟩, h.at1, h.tr, Or.inl rfl⟩, fun e => by exact absurd (show (3 : Int) = 1 from e) (by decide)⟩
    · split
      · exact Sn.Fit0.next ⟨h.many, h.num, h.ct1, h.cw1, h.ph, h.at1, h.tr, h.lf⟩
      · split
        · exact hc
        · split
          · split
            · rename_i h1
              have := h.dat h1
              exact Sn.Fit0.next ⟨h.many, h.num, h.ct1, h.cw1, h.ph, this, h.tr, h.lf⟩
            · exact hc.toFit0.next
          · split
            · exact hc.again
            · exact hc
theorem t60 {g : Nat} {A : Option Addr} {c : Nat} (s : Sn) : TCall Try.prog w0 B 10 #[.pointer (some ⟨g, 0, none⟩)] (fun r H' => r = .int .i64 (s.at_ : Int) ∧ H' = sC g A c s :: X) (sC g A c s :: X) := by
  refine TCall_intro (args := [_]) Try.func10 rfl Try.ntmps10 (Nat.le_of_ble_eq_true rfl) ?_
  refine T_seq ?_
  refine T_region ?_
  refine TL_p (PV_assign rfl) ?_
  refine TL_nil ?_
  refine T_seq ?_
  refine T_region ?_
  refine TL_p (PV_move rfl) ?_
  refine TL_p (PV_nilCheck rfl) ?_
  refine TL_p (PV_fieldAddr (D := 6) Try.underlying54 rfl sz3 (by decide) rfl rfl) ?_
  refine TL_p (PV_load Try.underlying3 rfl rfl (Rd.at 0 rfl rfl)) ?_
  refine TL_p (PV_assign rfl) ?_
  refine TL_nil ?_
  refine T_ret ?_
  refine ret_ret (ResV_one rfl rfl) ⟨_, List.Sublist.refl _, ⟨rfl, rfl⟩⟩
theorem t61 {g : Nat} {A : Option Addr} {c : Nat} (s : Sn) : TCall Try.prog w0 B 16 #[.pointer (some ⟨g, 0, none⟩)] (fun r H' => r = .tuple #[.bool (s.phase == 3), errV s.err] ∧ H' = sC g A c s :: X) (sC g A c s :: X) := by
  refine TCall_intro (args := [_]) Try.func16 rfl Try.ntmps16 (Nat.le_of_ble_eq_true rfl) ?_
  refine T_seq ?_
  refine T_region ?_
  refine TL_p (PV_assign rfl) ?_
  refine TL_p (PV_assign rfl) ?_
  refine TL_nil ?_
  refine T_seq ?_
  refine T_drawn (WH _ _ _) mixed (fun w h => h) ?_
  refine TA_p 0 rfl (by kernel_rfl) (PV_move rfl) ?_
  refine TA_p 1 rfl (by kernel_rfl) (PV_nilCheck rfl) ?_
  refine TA_p 2 rfl (by kernel_rfl) (PV_fieldAddr (D := 5) Try.underlying54 rfl sz52 (by decide) rfl rfl) ?_
  refine TA_p 3 rfl (by kernel_rfl) (PV_load Try.underlying52 rfl rfl (Rd.at 0 rfl rfl)) ?_
  refine TA_p 4 rfl (by kernel_rfl) (PV_bin rfl rfl bin_eql) ?_
  refine TA_p 5 rfl (by kernel_rfl) (PV_move rfl) ?_
  refine TA_p 6 rfl (by kernel_rfl) (PV_nilCheck rfl) ?_
  refine TA_p 7 rfl (by kernel_rfl) (PV_fieldAddr (D := 10) Try.underlying54 rfl sz47 (by decide) rfl rfl) ?_
  refine TA_p 8 rfl (by kernel_rfl) (PV_load Try.underlying47 rfl rfl (Rd.at 0 rfl rfl)) ?_
  refine TA_p 9 rfl (by kernel_rfl) (PV_assign rfl) ?_
  refine TA_p 10 rfl (by kernel_rfl) (PV_assign rfl) ?_
  refine TA_done (by kernel_rfl) ?_
  refine T_ret ?_
  refine ret_ret (ResV_two rfl rfl rfl) ⟨_, List.Sublist.refl _, ⟨rfl, rfl⟩⟩
theorem bin_erri {e : Int} (he : e ≠ 0) {xt : TypeId} {x y : Operand} {ms : Array (String × TypeId)} (h : Try.prog.underlying xt = some (.interface ms)) (b : Int) : BinR Try.prog .eql xt x y (errV e) (.iface 56 (.int .i64 b)) (.bool (e == b)) := by
  unfold errV
  rw [if_neg he]
  exact bin_if_if h Try.underlying56 (by kernel_rfl)
/-- what is given back: bytes in a row of their own -/
def Gives (out : List Int) (c : Chunk) (X : List Chunk) (r : Value) (H' : List Chunk) : Prop := ∃ (A : Option Addr) (k : Nat), r = .slice A out.length k ∧ out.length ≤ k ∧ H' = byC A k out :: c :: X
theorem t90nil {g : Nat} {A : Option Addr} {c : Nat} (s : Sn) : TCall Try.prog w0 B 20 #[.pointer (some ⟨g, 0, none⟩), .nilIface] (fun r H' => Gives [] (sC g A c (s.fin 0)) X r H') (sC g A c s :: X) := by
  refine TCall_intro (args := [_, _]) Try.func20 rfl Try.ntmps20 (Nat.le_of_ble_eq_true rfl) ?_
  refine T_addNil 1 ?_
  refine T_seq ?_
  refine T_region ?_
  refine TL_p (PV_assign rfl) ?_
  refine TL_nil ?_
  refine T_seq ?_
  refine T_region ?_
  refine TL_p (PV_move rfl) ?_
  refine TL_p (PV_move rfl) ?_
  refine TL_p (PV_move rfl) ?_
  refine TL_p (PV_nilCheck rfl) ?_
  refine TL_p (PV_fieldAddr (D := 5) Try.underlying54 rfl sz52 (by decide) rfl rfl) ?_
  refine TL_cons rfl (TO_store1 1 rfl rfl rfl sz52 rfl rfl rfl (by first | exact Nat.le_of_ble_eq_true rfl | (simp; done) | (simp; omega) | omega) ?_)
  refine TL_p (PV_nilCheck rfl) ?_
  refine TL_p (PV_fieldAddr (D := 10) Try.underlying54 rfl sz47 (by decide) rfl rfl) ?_
  refine TL_cons rfl (TO_store1 1 rfl rfl rfl sz47 rfl rfl rfl (by first | exact Nat.le_of_ble_eq_true rfl | (simp; done) | (simp; omega) | omega) ?_)
  refine TL_nil ?_
  refine T_seq ?_
  refine T_seq ?_
  refine T_region ?_
  refine TL_p (PV_move rfl) ?_
  refine TL_p (PV_makeInterface (by kernel_rfl) rfl) ?_
  refine TL_p (PV_bin rfl rfl (bin_nil_if Try.underlying47)) ?_
  refine TL_nil ?_
  refine T_else rfl (by rfl) ?_
  refine T_skip ?_
  refine T_seq ?_
  refine T_region ?_
  refine TL_p (PV_assign rfl) ?_
  refine TL_nil ?_
  refine T_ret ?_
  refine ret_ret (ResV_one rfl rfl) ⟨_, List.Sublist.refl _, ⟨_, _, rfl, ?sd3q184_0, rfl⟩⟩
  case sd3q184_0 => decide
theorem t90can {g : Nat} {A : Option Addr} {c : Nat} (s : Sn) : TCall Try.prog w0 B 20 #[.pointer (some ⟨g, 0, none⟩), .iface 56 (.int .i64 9)] (fun r H' => Gives [] (sC g A c (s.fin 9)) X r H') (sC g A c s :: X) := by
  refine TCall_intro (args := [_, _]) Try.func20 rfl Try.ntmps20 (Nat.le_of_ble_eq_true rfl) ?_
  refine T_addNil 1 ?_
  refine T_seq ?_
  refine T_region ?_
  refine TL_p (PV_assign rfl) ?_
  refine TL_nil ?_
  refine T_seq ?_
  refine T_region ?_
  refine TL_p (PV_move rfl) ?_
  refine TL_p (PV_move rfl) ?_
  refine TL_p (PV_move rfl) ?_
  refine TL_p (PV_nilCheck rfl) ?_
  refine TL_p (PV_fieldAddr (D := 5) Try.underlying54 rfl sz52 (by decide) rfl rfl) ?_
  refine TL_cons rfl (TO_store1 1 rfl rfl rfl sz52 rfl rfl rfl (by first | exact Nat.le_of_ble_eq_true rfl | (simp; done) | (simp; omega) | omega) ?_)
  refine TL_p (PV_nilCheck rfl) ?_
  refine TL_p (PV_fieldAddr (D := 10) Try.underlying54 rfl sz47 (by decide) rfl rfl) ?_
  refine TL_cons rfl (TO_store1 1 rfl rfl rfl sz47 rfl rfl rfl (by first | exact Nat.le_of_ble_eq_true rfl | (simp; done) | (simp; omega) | omega) ?_)
  refine TL_nil ?_
  refine T_seq ?_
  refine T_seq ?_
  refine T_region ?_
  refine TL_p (PV_move rfl) ?_
  refine TL_p (PV_makeInterface (by kernel_rfl) rfl) ?_
  refine TL_p (PV_bin rfl rfl (bin_if_if Try.underlying47 (by first | exact Try.underlying56 | exact Try.underlying47) (by kernel_rfl))) ?_
  refine TL_nil ?_
  refine T_else rfl (by rfl) ?_
  refine T_skip ?_
  refine T_seq ?_
  refine T_region ?_
  refine TL_p (PV_assign rfl) ?_
  refine TL_nil ?_
  refine T_ret ?_
  refine ret_ret (ResV_one rfl rfl) ⟨_, List.Sublist.refl _, ⟨_, _, rfl, ?sd3q186_0, rfl⟩⟩
  case sd3q186_0 => decide
theorem t90tries {g : Nat} {A : Option Addr} {c : Nat} (s : Sn) : TCall Try.prog w0 B 20 #[.pointer (some ⟨g, 0, none⟩), .iface 56 (.int .i64 10)] (fun r H' => Gives [24, 24] (sC g A c (s.fin 10)) X r H') (sC g A c s :: X) := by
  refine TCall_intro (args := [_, _]) Try.func20 rfl Try.ntmps20 (Nat.le_of_ble_eq_true rfl) ?_
  refine T_seq ?_
  refine T_region ?_
  refine TL_p (PV_assign rfl) ?_
  refine TL_nil ?_
  refine T_seq ?_
  refine T_region ?_
  refine TL_p (PV_move rfl) ?_
  refine TL_p (PV_move rfl) ?_
  refine TL_p (PV_move rfl) ?_
  refine TL_p (PV_nilCheck rfl) ?_
  refine TL_p (PV_fieldAddr (D := 5) Try.underlying54 rfl sz52 (by decide) rfl rfl) ?_
  refine TL_cons rfl (TO_store1 0 rfl rfl rfl sz52 rfl rfl rfl (by first | exact Nat.le_of_ble_eq_true rfl | (simp; done) | (simp; omega) | omega) ?_)
  refine TL_p (PV_nilCheck rfl) ?_
  refine TL_p (PV_fieldAddr (D := 10) Try.underlying54 rfl sz47 (by decide) rfl rfl) ?_
  refine TL_cons rfl (TO_store1 0 rfl rfl rfl sz47 rfl rfl rfl (by first | exact Nat.le_of_ble_eq_true rfl | (simp; done) | (simp; omega) | omega) ?_)
  refine TL_nil ?_
  refine T_seq ?_
  refine T_seq ?_
  refine T_region ?_
  refine TL_p (PV_move rfl) ?_
  refine TL_p (PV_makeInterface (by kernel_rfl) rfl) ?_
  refine TL_p (PV_bin rfl rfl (bin_if_if Try.underlying47 (by first | exact Try.underlying56 | exact Try.underlying47) (by kernel_rfl))) ?_
  refine TL_nil ?_
  refine T_then rfl (by rfl) ?_
  refine T_seq ?_
  refine T_region ?_
  refine TL_cons rfl (TO_bs (cs := [_, _]) Try.underlying26 zs5 (by decide) rfl rfl rfl rfl rfl rfl fun g3 => ?_)
  refine TL_p (PV_assign rfl) ?_
  refine TL_nil ?_
  refine T_ret ?_
  refine ret_ret (ResV_one rfl rfl) ⟨_, List.Sublist.refl _, ⟨_, _, rfl, ?sd4q188_0, rfl⟩⟩
  case sd4q188_0 => decide
theorem now_data {g : Nat} {A : Option Addr} {c : Nat} (s : Sn) (hF : s.Fit) (hB : SBlk (WH w0 B X) A c s.qs) (h1 : s.phase = 1) : TCall Try.prog w0 B 24 #[.pointer (some ⟨g, 0, none⟩)] (fun r H' => Gives s.bytes (sC g A c s) X r H') (sC g A c s :: X) := by
  have hat := hF.dat h1
  have hmany := hF.many
  obtain ⟨hcap, ps, hps, hrow, hall⟩ := hB
  have hlen : ps.length = s.qs.length := by rw [← hps]; simp
  obtain ⟨p, hp⟩ : ∃ p, ps[s.at_]? = some p := ⟨ps[s.at_], List.getElem?_eq_getElem (by omega)⟩
  have hpm := List.mem_of_getElem? hp
  have hq : s.qs[s.at_]? = some p.2.2 := by rw [← hps, List.getElem?_map, hp]; rfl
  have hout : s.bytes = blockL (leadOf p.2.2.length) (((0 + s.at_ + 1) % 256 : Nat) : Int) p.2.2 s.crc := by
    unfold Sn.bytes
    rw [hq]
  rw [hout]
  have hbc := bCells_get 0 ps s.at_ p hp
  have hpS := (hall p hpm).1
  have hpC := (hall p hpm).2
  have hpU := hF.num _ (List.mem_of_getElem? hq)
  have hpU1 := hpU.1
  have hpU2 := hpU.2
  have hN : (0 : Int) ≤ (((0 + s.at_ + 1) % 256 : Nat) : Int) ∧ (((0 + s.at_ + 1) % 256 : Nat) : Int) ≤ 255 := by omega
  obtain ⟨Ap, cp, xs⟩ := p
  dsimp only at hq hout hpS hpC hpU hpU1 hpU2 ⊢
  refine TCall_intro (args := [_]) Try.func24 rfl Try.ntmps24 (Nat.le_of_ble_eq_true rfl) ?_
  refine T_shows (hrow.mono fun w h => h.tl) (by rw [bCells_len]; omega) fun g' off hA hrd => ?_
  subst hA
  have hg0 := hrd _ _ hbc.1
  have hg1 := hrd _ _ hbc.2
  have hds : RdsK (WH w0 B (sC g (some ⟨g', off, none⟩) c s :: X)) g' (off + s.at_ * 2) 2 [.int .u8 (((0 + s.at_ + 1) % 256 : Nat) : Int), .slice Ap xs.length cp] := by
    refine ⟨rfl, fun j v hj => ?_⟩
    rw [add_plain']
    match j, hj with
    | 0, hj => cases hj; exact hg0
    | 1, hj => cases hj; exact hg1
  refine T_seq ?_
  refine T_region ?_
  refine TL_p (PV_assign rfl) ?_
  refine TL_nil ?_
  refine T_seq ?_
  refine T_seq ?_
  refine T_region ?_
  refine TL_p (PV_move rfl) ?_
  refine TL_p (PV_nilCheck rfl) ?_
  refine TL_p (PV_fieldAddr (D := 5) Try.underlying54 rfl sz52 (by decide) rfl rfl) ?_
  refine TL_p (PV_load Try.underlying52 rfl rfl (Rd.at 0 rfl rfl)) ?_
  refine TL_nil ?_
  refine T_block ?_
  refine T_seq ?_
  refine T_region ?_
  refine TL_p (PV_bin rfl rfl bin_eql) ?_
  refine TL_p (PV_assign rfl) ?_
  refine TL_nil ?_
  refine T_then rfl (by exact decide_eq_true (by omega)) ?_
  refine T_seq ?_
  refine T_drawn (WH _ _ _) mixed (fun w h => h) ?_
  refine TA_p 0 rfl (by kernel_rfl) (PV_move rfl) ?_
  refine TA_p 1 rfl (by kernel_rfl) (PV_nilCheck rfl) ?_
  refine TA_p 2 rfl (by kernel_rfl) (PV_fieldAddr (D := 2) Try.underlying54 rfl sz24 (by decide) rfl rfl) ?_
  refine TA_p 3 rfl (by kernel_rfl) (PV_load Try.underlying24 rfl rfl (Rd.at 0 rfl rfl)) ?_
  refine TA_p 4 rfl (by kernel_rfl) (PV_move rfl) ?_
  refine TA_p 5 rfl (by kernel_rfl) (PV_nilCheck rfl) ?_
  refine TA_p 6 rfl (by kernel_rfl) (PV_fieldAddr (D := 6) Try.underlying54 rfl sz3 (by decide) rfl rfl) ?_
  refine TA_p 7 rfl (by kernel_rfl) (PV_load Try.underlying3 rfl rfl (Rd.at 0 rfl rfl)) ?_
  refine TA_p 8 rfl (by kernel_rfl) (PV_indexAddr Try.underlying24 sz28 rfl rfl rfl (by first | omega | decide | assumption)) ?_
  refine TA_p 9 rfl (by kernel_rfl) (PV_loadAt Try.underlying28 rfl sz28 rfl hds) ?_
  refine TA_p 10 rfl (by kernel_rfl) (PV_move rfl) ?_
  refine TA_p 11 rfl (by kernel_rfl) (PV_nilCheck rfl) ?_
  refine TA_p 12 rfl (by kernel_rfl) (PV_fieldAddr (D := 4) Try.underlying54 rfl sz4 (by decide) rfl rfl) ?_
  refine TA_p 13 rfl (by kernel_rfl) (PV_load Try.underlying4 rfl rfl (Rd.at 0 rfl rfl)) ?_
  refine TA_one 14 (by kernel_rfl) rfl rfl (TO_call0 call15 rfl rfl (t49 _ (Shows.mono hpS (fun w h => h.sub (by (repeat (first | exact Sb.r | exact Sb.ar | exact Sb.al | apply Sb.d | refine Sb.t ?_)); done))) ?sd2q221_2 ?sd2q221_3 ?sd2q221_4 ?sd2q221_5 ?sd2q221_6) ?_)
  case sd2q221_2 => omega
  case sd2q221_3 => exact hpU2
  case sd2q221_4 => exact hpC
  case sd2q221_5 => exact hpU1
  case sd2q221_6 => omega
  rintro v26_3 H26_3 ⟨A_3, c'_3, rfl, h_3_0, rfl⟩
  refine ⟨fun _ h => h.sub (by (repeat (first | exact Sb.r | exact Sb.ar | exact Sb.al | apply Sb.d | refine Sb.t ?_)); done), ?_⟩
  refine TA_p 15 rfl (by kernel_rfl) (PV_move rfl) ?_
  refine TA_p 16 rfl (by kernel_rfl) (PV_extract rfl rfl) ?_
  refine TA_p 17 rfl (by kernel_rfl) (PV_extract rfl rfl) ?_
  refine TA_p 18 rfl (by kernel_rfl) (PV_assign rfl) ?_
  refine TA_p 19 rfl (by kernel_rfl) (PV_assign rfl) ?_
  refine TA_done (by kernel_rfl) ?_
  refine T_seq ?_
  refine T_seq ?_
  refine T_region ?_
  refine TL_p (PV_move rfl) ?_
  refine TL_p (PV_not rfl) ?_
  refine TL_nil ?_
  refine T_else rfl (by rfl) ?_
  refine T_skip ?_
  refine T_seq ?_
  refine T_region ?_
  refine TL_p (PV_move rfl) ?_
  refine TL_p (PV_assign rfl) ?_
  refine TL_nil ?_
  refine T_ret ?_
  refine ret_ret (ResV_one rfl rfl) ⟨_, List.Sublist.refl _, ⟨_, _, rfl, ?sd4q221_0, rfl⟩⟩
  case sd4q221_0 => exact h_3_0
theorem t101 {g : Nat} {A : Option Addr} {c : Nat} (s : Sn) (hF : s.Fit) (hB : SBlk (WH w0 B X) A c s.qs) : TCall Try.prog w0 B 24 #[.pointer (some ⟨g, 0, none⟩)] (fun r H' => Gives s.now (sC g A c s) X r H') (sC g A c s :: X) := by
  unfold Sn.now
  by_cases h1 : s.phase = 1
  · rw [if_pos h1]; exact now_data s hF hB h1
  · rw [if_neg h1]
    by_cases h2 : s.phase = 2
    · rw [if_pos h2]
      refine TCall_intro (args := [_]) Try.func24 rfl Try.ntmps24 (Nat.le_of_ble_eq_true rfl) ?_
      refine T_seq ?_
      refine T_region ?_
      refine TL_p (PV_assign rfl) ?_
      refine TL_nil ?_
      refine T_seq ?_
      refine T_seq ?_
      refine T_region ?_
      refine TL_p (PV_move rfl) ?_
      refine TL_p (PV_nilCheck rfl) ?_
      refine TL_p (PV_fieldAddr (D := 5) Try.underlying54 rfl sz52 (by decide) rfl rfl) ?_
      refine TL_p (PV_load Try.underlying52 rfl rfl (Rd.at 0 rfl rfl)) ?_
      refine TL_nil ?_
      refine T_block ?_
      refine T_seq ?_
      refine T_region ?_
      refine TL_p (PV_bin rfl rfl bin_eql) ?_
      refine TL_p (PV_assign rfl) ?_
      refine TL_nil ?_
      refine T_else rfl (by exact decide_eq_false (by omega)) ?_
      refine T_seq ?_
      refine T_region ?_
      refine TL_p (PV_bin rfl rfl bin_eql) ?_
      refine TL_p (PV_assign rfl) ?_
      refine TL_nil ?_
      refine T_then rfl (by exact decide_eq_true (by omega)) ?_
      refine T_seq ?_
      refine T_region ?_
      refine TL_cons rfl (TO_bs (cs := [_]) Try.underlying26 zs5 (by decide) rfl rfl rfl rfl rfl rfl fun g1 => ?_)
      refine TL_p (PV_assign rfl) ?_
      refine TL_nil ?_
      refine T_ret ?_
      refine ret_ret (ResV_one rfl rfl) ⟨_, List.Sublist.refl _, ⟨_, _, rfl, ?sd2q229_0, rfl⟩⟩
      case sd2q229_0 => decide
    · rw [if_neg h2]
      refine TCall_intro (args := [_]) Try.func24 rfl Try.ntmps24 (Nat.le_of_ble_eq_true rfl) ?_
      refine T_addNil 1 ?_
      refine T_seq ?_
      refine T_region ?_
      refine TL_p (PV_assign rfl) ?_
      refine TL_nil ?_
      refine T_seq ?_
      refine T_seq ?_
      refine T_region ?_
      refine TL_p (PV_move rfl) ?_
      refine TL_p (PV_nilCheck rfl) ?_
      refine TL_p (PV_fieldAddr (D := 5) Try.underlying54 rfl sz52 (by decide) rfl rfl) ?_
      refine TL_p (PV_load Try.underlying52 rfl rfl (Rd.at 1 rfl rfl)) ?_
      refine TL_nil ?_
      refine T_block ?_
      refine T_seq ?_
      refine T_region ?_
      refine TL_p (PV_bin rfl rfl bin_eql) ?_
      refine TL_p (PV_assign rfl) ?_
      refine TL_nil ?_
      refine T_else rfl (by exact decide_eq_false (by omega)) ?_
      refine T_seq ?_
      refine T_region ?_
      refine TL_p (PV_bin rfl rfl bin_eql) ?_
      refine TL_p (PV_assign rfl) ?_
      refine TL_nil ?_
      refine T_else rfl (by exact decide_eq_false (by omega)) ?_
      refine T_skip ?_
      refine T_seq ?_
      refine T_region ?_
      refine TL_p (PV_assign rfl) ?_
      refine TL_nil ?_
      refine T_ret ?_
      refine ret_ret (ResV_one rfl rfl) ⟨_, List.Sublist.refl _, ⟨_, _, rfl, ?sd1q231_0, rfl⟩⟩
      case sd1q231_0 => decide
theorem t91 {g : Nat} {A : Option Addr} {c : Nat} (s : Sn) (hF : s.Fit0) (hB : SBlk (WH w0 B X) A c s.qs) : TCall Try.prog w0 B 21 #[.pointer (some ⟨g, 0, none⟩)] (fun r H' => Gives s.next.now (sC g A c s.next) X r H') (sC g A c s :: X) := by
  have hF2 := hF.next
  have hB2 : SBlk (WH w0 B X) A c s.next.qs := by
    unfold Sn.next
    split
    · exact hB
    · split <;> exact hB
  unfold Sn.next at hF2 hB2 ⊢
  by_cases h1 : s.at_ < s.qs.length
  · simp only [if_pos h1] at hF2 hB2 ⊢
    refine TCall_intro (args := [_]) Try.func21 rfl Try.ntmps21 (Nat.le_of_ble_eq_true rfl) ?_
    refine T_seq ?_
    refine T_region ?_
    refine TL_p (PV_assign rfl) ?_
    refine TL_nil ?_
    refine T_seq ?_
    refine T_region ?_
    refine TL_p (PV_move rfl) ?_
    refine TL_p (PV_move rfl) ?_
    refine TL_p (PV_move rfl) ?_
    refine TL_p (PV_nilCheck rfl) ?_
    refine TL_p (PV_fieldAddr (D := 0) Try.underlying54 rfl sz31 (by decide) rfl rfl) ?_
    refine TL_p (PV_fieldAddr (D := 1) Try.underlying31 rfl sz3 (by decide) rfl rfl) ?_
    refine TL_p (PV_load Try.underlying3 rfl rfl (Rd.at 0 rfl rfl)) ?_
    refine TL_p (PV_nilCheck rfl) ?_
    refine TL_p (PV_fieldAddr (D := 7) Try.underlying54 rfl sz3 (by decide) rfl rfl) ?_
    refine TL_cons rfl (TO_store1 0 rfl rfl rfl sz3 rfl rfl rfl (by first | exact Nat.le_of_ble_eq_true rfl | (simp; done) | (simp; omega) | omega) ?_)
    refine TL_p (PV_nilCheck rfl) ?_
    refine TL_p (PV_fieldAddr (D := 8) Try.underlying54 rfl sz3 (by decide) rfl rfl) ?_
    refine TL_cons rfl (TO_store1 0 rfl rfl rfl sz3 rfl rfl rfl (by first | exact Nat.le_of_ble_eq_true rfl | (simp; done) | (simp; omega) | omega) ?_)
    refine TL_nil ?_
    refine T_seq ?_
    refine T_block ?_
    refine T_seq ?_
    refine T_drawn (WH _ _ _) mixed (fun w h => h) ?_
    refine TA_p 0 rfl (by kernel_rfl) (PV_move rfl) ?_
    refine TA_p 1 rfl (by kernel_rfl) (PV_nilCheck rfl) ?_
    refine TA_p 2 rfl (by kernel_rfl) (PV_fieldAddr (D := 6) Try.underlying54 rfl sz3 (by decide) rfl rfl) ?_
    refine TA_p 3 rfl (by kernel_rfl) (PV_load Try.underlying3 rfl rfl (Rd.at 0 rfl rfl)) ?_
    refine TA_p 4 rfl (by kernel_rfl) (PV_move rfl) ?_
    refine TA_p 5 rfl (by kernel_rfl) (PV_nilCheck rfl) ?_
    refine TA_p 6 rfl (by kernel_rfl) (PV_fieldAddr (D := 2) Try.underlying54 rfl sz24 (by decide) rfl rfl) ?_
    refine TA_p 7 rfl (by kernel_rfl) (PV_load Try.underlying24 rfl rfl (Rd.at 0 rfl rfl)) ?_
    refine TA_p 8 rfl (by kernel_rfl) (PV_len_slice Try.underlying24 rfl) ?_
    refine TA_p 9 rfl (by kernel_rfl) (PV_bin rfl rfl bin_lss) ?_
    refine TA_p 10 rfl (by kernel_rfl) (PV_assign rfl) ?_
    refine TA_done (by kernel_rfl) ?_
    refine T_then rfl (by exact decide_eq_true (by omega)) ?_
    refine T_region ?_
    refine TL_p (PV_move rfl) ?_
    refine TL_p (PV_nilCheck rfl) ?_
    refine TL_p (PV_fieldAddr (D := 5) Try.underlying54 rfl sz52 (by decide) rfl rfl) ?_
    refine TL_cons rfl (TO_store1 0 rfl rfl rfl sz52 rfl rfl rfl (by first | exact Nat.le_of_ble_eq_true rfl | (simp; done) | (simp; omega) | omega) ?_)
    refine TL_nil ?_
    refine T_seq ?_
    refine T_region ?_
    refine TL_p (PV_move rfl) ?_
    refine TL_cons rfl (TO_call0 call24 rfl rfl (t101 (s := { s with tries := 1, left := s.cw, phase := 1 }) ?sd5q242_0 ?sd5q242_1) ?_)
    case sd5q242_0 => exact hF2
    case sd5q242_1 => exact hB2
    rintro v46_6 H46_6 ⟨A_6, k_6, rfl, h_6_0, rfl⟩
    refine TL_p (PV_assign rfl) ?_
    refine TL_nil ?_
    refine T_ret ?_
    refine ret_ret (ResV_one rfl rfl) ⟨_, List.Sublist.refl _, ⟨_, _, rfl, ?sd7q242_0, rfl⟩⟩
    case sd7q242_0 => exact h_6_0
  · simp only [if_neg h1] at hF2 hB2 ⊢
    by_cases h2 : s.close = true ∧ s.phase ≠ 2
    · simp only [if_pos h2] at hF2 hB2 ⊢
      obtain ⟨h3, h4⟩ := h2
      refine TCall_intro (args := [_]) Try.func21 rfl Try.ntmps21 (Nat.le_of_ble_eq_true rfl) ?_
      refine T_seq ?_
      refine T_region ?_
      refine TL_p (PV_assign rfl) ?_
      refine TL_nil ?_
      refine T_seq ?_
      refine T_region ?_
      refine TL_p (PV_move rfl) ?_
      refine TL_p (PV_move rfl) ?_
      refine TL_p (PV_move rfl) ?_
      refine TL_p (PV_nilCheck rfl) ?_
      refine TL_p (PV_fieldAddr (D := 0) Try.underlying54 rfl sz31 (by decide) rfl rfl) ?_
      refine TL_p (PV_fieldAddr (D := 1) Try.underlying31 rfl sz3 (by decide) rfl rfl) ?_
      refine TL_p (PV_load Try.underlying3 rfl rfl (Rd.at 0 rfl rfl)) ?_
      refine TL_p (PV_nilCheck rfl) ?_
      refine TL_p (PV_fieldAddr (D := 7) Try.underlying54 rfl sz3 (by decide) rfl rfl) ?_
      refine TL_cons rfl (TO_store1 0 rfl rfl rfl sz3 rfl rfl rfl (by first | exact Nat.le_of_ble_eq_true rfl | (simp; done) | (simp; omega) | omega) ?_)
      refine TL_p (PV_nilCheck rfl) ?_
      refine TL_p (PV_fieldAddr (D := 8) Try.underlying54 rfl sz3 (by decide) rfl rfl) ?_
      refine TL_cons rfl (TO_store1 0 rfl rfl rfl sz3 rfl rfl rfl (by first | exact Nat.le_of_ble_eq_true rfl | (simp; done) | (simp; omega) | omega) ?_)
      refine TL_nil ?_
      refine T_seq ?_
      refine T_block ?_
      refine T_seq ?_
      refine T_drawn (WH _ _ _) mixed (fun w h => h) ?_
      refine TA_p 0 rfl (by kernel_rfl) (PV_move rfl) ?_
      refine TA_p 1 rfl (by kernel_rfl) (PV_nilCheck rfl) ?_
      refine TA_p 2 rfl (by kernel_rfl) (PV_fieldAddr (D := 6) Try.underlying54 rfl sz3 (by decide) rfl rfl) ?_
      refine TA_p 3 rfl (by kernel_rfl) (PV_load Try.underlying3 rfl rfl (Rd.at 0 rfl rfl)) ?_
      refine TA_p 4 rfl (by kernel_rfl) (PV_move rfl) ?_
      refine TA_p 5 rfl (by kernel_rfl) (PV_nilCheck rfl) ?_
      refine TA_p 6 rfl (by kernel_rfl) (PV_fieldAddr (D := 2) Try.underlying54 rfl sz24 (by decide) rfl rfl) ?_
      refine TA_p 7 rfl (by kernel_rfl) (PV_load Try.underlying24 rfl rfl (Rd.at 0 rfl rfl)) ?_
      refine TA_p 8 rfl (by kernel_rfl) (PV_len_slice Try.underlying24 rfl) ?_
      refine TA_p 9 rfl (by kernel_rfl) (PV_bin rfl rfl bin_lss) ?_
      refine TA_p 10 rfl (by kernel_rfl) (PV_assign rfl) ?_
      refine TA_done (by kernel_rfl) ?_
      refine T_else rfl (by exact decide_eq_false (by omega)) ?_
      refine T_seq ?_
      refine T_region ?_
      refine TL_p (PV_move rfl) ?_
      refine TL_p (PV_nilCheck rfl) ?_
      refine TL_p (PV_fieldAddr (D := 3) Try.underlying54 rfl sz4 (by decide) rfl rfl) ?_
      refine TL_p (PV_load Try.underlying4 rfl rfl (Rd.at 0 rfl rfl)) ?_
      refine TL_p (PV_move rfl) ?_
      refine TL_yes rfl rfl (gtrue (by with_reducible assumption)) (TO_pure rfl (PV_move rfl) ?_)
      refine TL_yes rfl rfl (gtrue (by with_reducible assumption)) (TO_pure rfl (PV_nilCheck rfl) ?_)
      refine TL_yes rfl rfl (gtrue (by with_reducible assumption)) (TO_pure rfl (PV_fieldAddr (D := 5) Try.underlying54 rfl sz52 (by decide) rfl rfl) ?_)
      refine TL_yes rfl rfl (gtrue (by with_reducible assumption)) (TO_pure rfl (PV_load Try.underlying52 rfl rfl (Rd.at 0 rfl rfl)) ?_)
      refine TL_yes rfl rfl (gtrue (by with_reducible assumption)) (TO_pure rfl (PV_bin rfl rfl bin_neq) ?_)
      refine TL_p (PV_pickAnd rfl rfl rfl) ?_
      refine TL_p (PV_assign rfl) ?_
      refine TL_nil ?_
      refine T_then rfl (by (simp [*]; done)) ?_
      refine T_region ?_
      refine TL_p (PV_move rfl) ?_
      refine TL_p (PV_nilCheck rfl) ?_
      refine TL_p (PV_fieldAddr (D := 5) Try.underlying54 rfl sz52 (by decide) rfl rfl) ?_
      refine TL_cons rfl (TO_store1 0 rfl rfl rfl sz52 rfl rfl rfl (by first | exact Nat.le_of_ble_eq_true rfl | (simp; done) | (simp; omega) | omega) ?_)
      refine TL_nil ?_
      refine T_seq ?_
      refine T_region ?_
      refine TL_p (PV_move rfl) ?_
      refine TL_cons rfl (TO_call0 call24 rfl rfl (t101 (s := { s with tries := 1, left := s.cw, phase := 2 }) ?sd5q247_0 ?sd5q247_1) ?_)
      case sd5q247_0 => exact hF2
      case sd5q247_1 => exact hB2
      rintro v46_6 H46_6 ⟨A_6, k_6, rfl, h_6_0, rfl⟩
      refine TL_p (PV_assign rfl) ?_
      refine TL_nil ?_
      refine T_ret ?_
      refine ret_ret (ResV_one rfl rfl) ⟨_, List.Sublist.refl _, ⟨_, _, rfl, ?sd7q247_0, rfl⟩⟩
      case sd7q247_0 => exact h_6_0
    · simp only [if_neg h2] at hF2 hB2 ⊢
      rcases Bool.eq_false_or_eq_true s.close with h3 | h3
      · have h4 : s.phase = 2 := by
          by_cases h4 : s.phase = 2
          · exact h4
          · exact absurd ⟨h3, h4⟩ h2
        refine TCall_intro (args := [_]) Try.func21 rfl Try.ntmps21 (Nat.le_of_ble_eq_true rfl) ?_
        refine T_seq ?_
        refine T_region ?_
        refine TL_p (PV_assign rfl) ?_
        refine TL_nil ?_
        refine T_seq ?_
        refine T_region ?_
        refine TL_p (PV_move rfl) ?_
        refine TL_p (PV_move rfl) ?_
        refine TL_p (PV_move rfl) ?_
        refine TL_p (PV_nilCheck rfl) ?_
        refine TL_p (PV_fieldAddr (D := 0) Try.underlying54 rfl sz31 (by decide) rfl rfl) ?_
        refine TL_p (PV_fieldAddr (D := 1) Try.underlying31 rfl sz3 (by decide) rfl rfl) ?_
        refine TL_p (PV_load Try.underlying3 rfl rfl (Rd.at 0 rfl rfl)) ?_
        refine TL_p (PV_nilCheck rfl) ?_
        refine TL_p (PV_fieldAddr (D := 7) Try.underlying54 rfl sz3 (by decide) rfl rfl) ?_
        refine TL_cons rfl (TO_store1 0 rfl rfl rfl sz3 rfl rfl rfl (by first | exact Nat.le_of_ble_eq_true rfl | (simp; done) | (simp; omega) | omega) ?_)
        refine TL_p (PV_nilCheck rfl) ?_
        refine TL_p (PV_fieldAddr (D := 8) Try.underlying54 rfl sz3 (by decide) rfl rfl) ?_
        refine TL_cons rfl (TO_store1 0 rfl rfl rfl sz3 rfl rfl rfl (by first | exact Nat.le_of_ble_eq_true rfl | (simp; done) | (simp; omega) | omega) ?_)
        refine TL_nil ?_
        refine T_seq ?_
        refine T_block ?_
        refine T_seq ?_
        refine T_drawn (WH _ _ _) mixed (fun w h => h) ?_
        refine TA_p 0 rfl (by kernel_rfl) (PV_move rfl) ?_
        refine TA_p 1 rfl (by kernel_rfl) (PV_nilCheck rfl) ?_
        refine TA_p 2 rfl (by kernel_rfl) (PV_fieldAddr (D := 6) Try.underlying54 rfl sz3 (by decide) rfl rfl) ?_
        refine TA_p 3 rfl (by kernel_rfl) (PV_load Try.underlying3 rfl rfl (Rd.at 0 rfl rfl)) ?_
        refine TA_p 4 rfl (by kernel_rfl) (PV_move rfl) ?_
        refine TA_p 5 rfl (by kernel_rfl) (PV_nilCheck rfl) ?_
        refine TA_p 6 rfl (by kernel_rfl) (PV_fieldAddr (D := 2) Try.underlying54 rfl sz24 (by decide) rfl rfl) ?_
        refine TA_p 7 rfl (by kernel_rfl) (PV_load Try.underlying24 rfl rfl (Rd.at 0 rfl rfl)) ?_
        refine TA_p 8 rfl (by kernel_rfl) (PV_len_slice Try.underlying24 rfl) ?_
        refine TA_p 9 rfl (by kernel_rfl) (PV_bin rfl rfl bin_lss) ?_
        refine TA_p 10 rfl (by kernel_rfl) (PV_assign rfl) ?_
        refine TA_done (by kernel_rfl) ?_
        refine T_else rfl (by exact decide_eq_false (by omega)) ?_
        refine T_seq ?_
        refine T_region ?_
        refine TL_p (PV_move rfl) ?_
        refine TL_p (PV_nilCheck rfl) ?_
        refine TL_p (PV_fieldAddr (D := 3) Try.underlying54 rfl sz4 (by decide) rfl rfl) ?_
        refine TL_p (PV_load Try.underlying4 rfl rfl (Rd.at 0 rfl rfl)) ?_
        refine TL_p (PV_move rfl) ?_
        refine TL_yes rfl rfl (gtrue (by with_reducible assumption)) (TO_pure rfl (PV_move rfl) ?_)
        refine TL_yes rfl rfl (gtrue (by with_reducible assumption)) (TO_pure rfl (PV_nilCheck rfl) ?_)
        refine TL_yes rfl rfl (gtrue (by with_reducible assumption)) (TO_pure rfl (PV_fieldAddr (D := 5) Try.underlying54 rfl sz52 (by decide) rfl rfl) ?_)
        refine TL_yes rfl rfl (gtrue (by with_reducible assumption)) (TO_pure rfl (PV_load Try.underlying52 rfl rfl (Rd.at 0 rfl rfl)) ?_)
        refine TL_yes rfl rfl (gtrue (by with_reducible assumption)) (TO_pure rfl (PV_bin rfl rfl bin_neq) ?_)
        refine TL_p (PV_pickAnd rfl rfl rfl) ?_
        refine TL_p (PV_assign rfl) ?_
        refine TL_nil ?_
        refine T_else rfl (by (simp; omega)) ?_
        refine T_seq ?_
        refine T_region ?_
        refine TL_p (PV_move rfl) ?_
        refine TL_cons rfl (TO_call0 call20 rfl rfl (t90nil (s := { s with tries := 1, left := s.cw })) ?_)
        rintro v15_5 H15_5 ⟨A_5, k_5, rfl, h_5_0, rfl⟩
        refine TL_p (PV_assign rfl) ?_
        refine TL_nil ?_
        refine T_ret ?_
        refine ret_ret (ResV_one rfl rfl) ⟨_, List.Sublist.refl _, ⟨_, _, rfl, ?sd6q254_0, rfl⟩⟩
        case sd6q254_0 => exact h_5_0
      · refine TCall_intro (args := [_]) Try.func21 rfl Try.ntmps21 (Nat.le_of_ble_eq_true rfl) ?_
        refine T_seq ?_
        refine T_region ?_
        refine TL_p (PV_assign rfl) ?_
        refine TL_nil ?_
        refine T_seq ?_
        refine T_region ?_
        refine TL_p (PV_move rfl) ?_
        refine TL_p (PV_move rfl) ?_
        refine TL_p (PV_move rfl) ?_
        refine TL_p (PV_nilCheck rfl) ?_
        refine TL_p (PV_fieldAddr (D := 0) Try.underlying54 rfl sz31 (by decide) rfl rfl) ?_
        refine TL_p (PV_fieldAddr (D := 1) Try.underlying31 rfl sz3 (by decide) rfl rfl) ?_
        refine TL_p (PV_load Try.underlying3 rfl rfl (Rd.at 0 rfl rfl)) ?_
        refine TL_p (PV_nilCheck rfl) ?_
        refine TL_p (PV_fieldAddr (D := 7) Try.underlying54 rfl sz3 (by decide) rfl rfl) ?_
        refine TL_cons rfl (TO_store1 0 rfl rfl rfl sz3 rfl rfl rfl (by first | exact Nat.le_of_ble_eq_true rfl | (simp; done) | (simp; omega) | omega) ?_)
        refine TL_p (PV_nilCheck rfl) ?_
        refine TL_p (PV_fieldAddr (D := 8) Try.underlying54 rfl sz3 (by decide) rfl rfl) ?_
        refine TL_cons rfl (TO_store1 0 rfl rfl rfl sz3 rfl rfl rfl (by first | exact Nat.le_of_ble_eq_true rfl | (simp; done) | (simp; omega) | omega) ?_)
        refine TL_nil ?_
        refine T_seq ?_
        refine T_block ?_
        refine T_seq ?_
        refine T_drawn (WH _ _ _) mixed (fun w h => h) ?_
        refine TA_p 0 rfl (by kernel_rfl) (PV_move rfl) ?_
        refine TA_p 1 rfl (by kernel_rfl) (PV_nilCheck rfl) ?_
        refine TA_p 2 rfl (by kernel_rfl) (PV_fieldAddr (D := 6) Try.underlying54 rfl sz3 (by decide) rfl rfl) ?_
        refine TA_p 3 rfl (by kernel_rfl) (PV_load Try.underlying3 rfl rfl (Rd.at 0 rfl rfl)) ?_
        refine TA_p 4 rfl (by kernel_rfl) (PV_move rfl) ?_
        refine TA_p 5 rfl (by kernel_rfl) (PV_nilCheck rfl) ?_
        refine TA_p 6 rfl (by kernel_rfl) (PV_fieldAddr (D := 2) Try.underlying54 rfl sz24 (by decide) rfl rfl) ?_
        refine TA_p 7 rfl (by kernel_rfl) (PV_load Try.underlying24 rfl rfl (Rd.at 0 rfl rfl)) ?_
        refine TA_p 8 rfl (by kernel_rfl) (PV_len_slice Try.underlying24 rfl) ?_
        refine TA_p 9 rfl (by kernel_rfl) (PV_bin rfl rfl bin_lss) ?_
        refine TA_p 10 rfl (by kernel_rfl) (PV_assign rfl) ?_
        refine TA_done (by kernel_rfl) ?_
        refine T_else rfl (by exact decide_eq_false (by omega)) ?_
        refine T_seq ?_
        refine T_region ?_
        refine TL_p (PV_move rfl) ?_
        refine TL_p (PV_nilCheck rfl) ?_
        refine TL_p (PV_fieldAddr (D := 3) Try.underlying54 rfl sz4 (by decide) rfl rfl) ?_
        refine TL_p (PV_load Try.underlying4 rfl rfl (Rd.at 0 rfl rfl)) ?_
        refine TL_p (PV_move rfl) ?_
        refine TL_no (b := false) rfl rfl (gfalse (by with_reducible assumption)) rfl ?_
        refine TL_no (b := false) rfl rfl (gfalse (by with_reducible assumption)) rfl ?_
        refine TL_no (b := false) rfl rfl (gfalse (by with_reducible assumption)) rfl ?_
        refine TL_no (b := false) rfl rfl (gfalse (by with_reducible assumption)) rfl ?_
        refine TL_no (b := false) rfl rfl (gfalse (by with_reducible assumption)) rfl ?_
        refine TL_p (PV_pickF rfl (by first | assumption | rfl | (simp; done) | (simp; omega) | (simp [*]; done) | (simp [*]; omega)) rfl rfl) ?_
        refine TL_p (PV_assign rfl) ?_
        refine TL_nil ?_
        refine T_else rfl (by rfl) ?_
        refine T_seq ?_
        refine T_region ?_
        refine TL_p (PV_move rfl) ?_
        refine TL_cons rfl (TO_call0 call20 rfl rfl (t90nil (s := { s with tries := 1, left := s.cw })) ?_)
        rintro v15_5 H15_5 ⟨A_5, k_5, rfl, h_5_0, rfl⟩
        refine TL_p (PV_assign rfl) ?_
        refine TL_nil ?_
        refine T_ret ?_
        refine ret_ret (ResV_one rfl rfl) ⟨_, List.Sublist.refl _, ⟨_, _, rfl, ?sd6q255_0, rfl⟩⟩
        case sd6q255_0 => exact h_5_0
theorem again_fit {s : Sn} (h : s.Fit) : ({ s with left := s.left - 1 } : Sn).again.Fit := by
  have h2 := h.cw1
  have h3 := h.ct1
  have h4 := h.tr
  unfold Sn.again
  split
  · exact ⟨⟨h.many, h.num, h.ct1, h.cw1, ⟨by show (0 : Int) ≤ 3; decide, by show (3 : Int) ≤ 3; decide⟩, h.at1, h.tr, Or.inl rfl⟩, fun e => by exact absurd (show (3 : Int) = 1 from e) (by decide)⟩
  · rename_i hn
    have hn2 : ¬ s.tries ≥ s.ct := hn
    exact ⟨⟨h.many, h.num, h.ct1, h.cw1, h.ph, h.at1, ⟨by show 1 ≤ s.tries + 1; omega, by show s.tries + 1 ≤ 9; omega⟩, Or.inr h2⟩, h.dat⟩
theorem t92 {g : Nat} {A : Option Addr} {c : Nat} (s : Sn) (hF2 : s.again.Fit) (hct : s.ct ≤ 9) (htr : 1 ≤ s.tries) (hB : SBlk (WH w0 B X) A c s.qs) : TCall Try.prog w0 B 19 #[.pointer (some ⟨g, 0, none⟩)] (fun r H' => Gives s.againOut (sC g A c s.again) X r H') (sC g A c s :: X) := by
  unfold Sn.againOut
  by_cases h1 : s.tries ≥ s.ct
  · have e : s.again = s.fin 10 := by unfold Sn.again; rw [if_pos h1]; rfl
    rw [if_pos h1, e]
    refine TCall_intro (args := [_]) Try.func19 rfl Try.ntmps19 (Nat.le_of_ble_eq_true rfl) ?_
    refine T_seq ?_
    refine T_region ?_
    refine TL_p (PV_assign rfl) ?_
    refine TL_nil ?_
    refine T_seq ?_
    refine T_seq ?_
    refine T_drawn (WH _ _ _) mixed (fun w h => h) ?_
    refine TA_p 0 rfl (by kernel_rfl) (PV_move rfl) ?_
    refine TA_p 1 rfl (by kernel_rfl) (PV_nilCheck rfl) ?_
    refine TA_p 2 rfl (by kernel_rfl) (PV_fieldAddr (D := 7) Try.underlying54 rfl sz3 (by decide) rfl rfl) ?_
    refine TA_p 3 rfl (by kernel_rfl) (PV_load Try.underlying3 rfl rfl (Rd.at 0 rfl rfl)) ?_
    refine TA_p 4 rfl (by kernel_rfl) (PV_move rfl) ?_
    refine TA_p 5 rfl (by kernel_rfl) (PV_nilCheck rfl) ?_
    refine TA_p 6 rfl (by kernel_rfl) (PV_fieldAddr (D := 0) Try.underlying54 rfl sz31 (by decide) rfl rfl) ?_
    refine TA_p 7 rfl (by kernel_rfl) (PV_fieldAddr (D := 0) Try.underlying31 rfl sz3 (by decide) rfl rfl) ?_
    refine TA_p 8 rfl (by kernel_rfl) (PV_load Try.underlying3 rfl rfl (Rd.at 0 rfl rfl)) ?_
    refine TA_p 9 rfl (by kernel_rfl) (PV_bin rfl rfl bin_geq) ?_
    refine TA_done (by kernel_rfl) ?_
    refine T_then rfl (by exact decide_eq_true (by omega)) ?_
    refine T_seq ?_
    refine T_region ?_
    refine TL_p (PV_move rfl) ?_
    refine TL_p (PV_makeInterface (by kernel_rfl) rfl) ?_
    refine TL_cons rfl (TO_call0 call20 rfl rfl (t90tries (s := s)) ?_)
    rintro v15_3 H15_3 ⟨A_3, k_3, rfl, h_3_0, rfl⟩
    refine TL_p (PV_assign rfl) ?_
    refine TL_nil ?_
    refine T_ret ?_
    refine ret_ret (ResV_one rfl rfl) ⟨_, List.Sublist.refl _, ⟨_, _, rfl, ?sd4q271_0, rfl⟩⟩
    case sd4q271_0 => exact h_3_0
  · have e : s.again = { s with tries := s.tries + 1, left := s.cw } := by unfold Sn.again; rw [if_neg h1]
    have en : s.now = s.again.now := by rw [e]; rfl
    have hB2 : SBlk (WH w0 B X) A c s.again.qs := by rw [e]; exact hB
    rw [if_neg h1, en]
    rw [e] at hF2 hB2 ⊢
    refine TCall_intro (args := [_]) Try.func19 rfl Try.ntmps19 (Nat.le_of_ble_eq_true rfl) ?_
    refine T_seq ?_
    refine T_region ?_
    refine TL_p (PV_assign rfl) ?_
    refine TL_nil ?_
    refine T_seq ?_
    refine T_seq ?_
    refine T_drawn (WH _ _ _) mixed (fun w h => h) ?_
    refine TA_p 0 rfl (by kernel_rfl) (PV_move rfl) ?_
    refine TA_p 1 rfl (by kernel_rfl) (PV_nilCheck rfl) ?_
    refine TA_p 2 rfl (by kernel_rfl) (PV_fieldAddr (D := 7) Try.underlying54 rfl sz3 (by decide) rfl rfl) ?_
    refine TA_p 3 rfl (by kernel_rfl) (PV_load Try.underlying3 rfl rfl (Rd.at 0 rfl rfl)) ?_
    refine TA_p 4 rfl (by kernel_rfl) (PV_move rfl) ?_
    refine TA_p 5 rfl (by kernel_rfl) (PV_nilCheck rfl) ?_
    refine TA_p 6 rfl (by kernel_rfl) (PV_fieldAddr (D := 0) Try.underlying54 rfl sz31 (by decide) rfl rfl) ?_
    refine TA_p 7 rfl (by kernel_rfl) (PV_fieldAddr (D := 0) Try.underlying31 rfl sz3 (by decide) rfl rfl) ?_
    refine TA_p 8 rfl (by kernel_rfl) (PV_load Try.underlying3 rfl rfl (Rd.at 0 rfl rfl)) ?_
    refine TA_p 9 rfl (by kernel_rfl) (PV_bin rfl rfl bin_geq) ?_
    refine TA_done (by kernel_rfl) ?_
    refine T_else rfl (by exact decide_eq_false (by omega)) ?_
    refine T_skip ?_
    refine T_seq ?_
    refine T_region ?_
    refine TL_p (PV_move rfl) ?_
    refine TL_p (PV_nilCheck rfl) ?_
    refine TL_p (PV_fieldAddr (D := 7) Try.underlying54 rfl sz3 (by decide) rfl rfl) ?_
    refine TL_p (PV_load Try.underlying3 rfl rfl (Rd.at 0 rfl rfl)) ?_
    refine TL_p (PV.cast (PV_bin rfl rfl bin_add) (wr64 (by omega))) ?_
    refine TL_p (PV_nilCheck rfl) ?_
    refine TL_p (PV_fieldAddr (D := 7) Try.underlying54 rfl sz3 (by decide) rfl rfl) ?_
    refine TL_cons rfl (TO_store1 0 rfl rfl rfl sz3 rfl rfl rfl (by first | exact Nat.le_of_ble_eq_true rfl | (simp; done) | (simp; omega) | omega) ?_)
    refine TL_nil ?_
    refine T_seq ?_
    refine T_region ?_
    refine TL_p (PV_move rfl) ?_
    refine TL_p (PV_move rfl) ?_
    refine TL_p (PV_nilCheck rfl) ?_
    refine TL_p (PV_fieldAddr (D := 0) Try.underlying54 rfl sz31 (by decide) rfl rfl) ?_
    refine TL_p (PV_fieldAddr (D := 1) Try.underlying31 rfl sz3 (by decide) rfl rfl) ?_
    refine TL_p (PV_load Try.underlying3 rfl rfl (Rd.at 0 rfl rfl)) ?_
    refine TL_p (PV_nilCheck rfl) ?_
    refine TL_p (PV_fieldAddr (D := 8) Try.underlying54 rfl sz3 (by decide) rfl rfl) ?_
    refine TL_cons rfl (TO_store1 0 rfl rfl rfl sz3 rfl rfl rfl (by first | exact Nat.le_of_ble_eq_true rfl | (simp; done) | (simp; omega) | omega) ?_)
    refine TL_nil ?_
    refine T_seq ?_
    refine T_region ?_
    refine TL_p (PV_move rfl) ?_
    refine TL_cons rfl (TO_call0 call24 rfl rfl (t101 (s := { s with tries := s.tries + 1, left := s.cw }) ?sd4q277_0 ?sd4q277_1) ?_)
    case sd4q277_0 => exact hF2
    case sd4q277_1 => exact hB2
    rintro v32_5 H32_5 ⟨A_5, k_5, rfl, h_5_0, rfl⟩
    refine TL_p (PV_assign rfl) ?_
    refine TL_nil ?_
    refine T_ret ?_
    refine ret_ret (ResV_one rfl rfl) ⟨_, List.Sublist.refl _, ⟨_, _, rfl, ?sd6q277_0, rfl⟩⟩
    case sd6q277_0 => exact h_5_0
theorem Sn.Fit.can1 {s : Sn} (h : s.Fit) (c : Int) : (s.can1 c).Fit := ⟨⟨h.many, h.num, h.ct1, h.cw1, h.ph, h.at1, h.tr, h.lf⟩, h.dat⟩
theorem t59 {g : Nat} {A : Option Addr} {c : Nat} (s : Sn) (b : Int) (hF : s.Fit) (hB : SBlk (WH w0 B X) A c s.qs) : TCall Try.prog w0 B 12 #[.pointer (some ⟨g, 0, none⟩), .int .u8 b] (fun r H' => Gives (s.putOut b) (sC g A c (s.put b)) X r H') (sC g A c s :: X) := by
  have hmany := hF.many
  have hat := hF.at1
  have hF1 := hF.can1 b
  unfold Sn.put Sn.putOut
  by_cases h3 : s.phase = 3
  · rw [if_pos h3, if_pos h3]
    refine TCall_intro (args := [_, _]) Try.func12 rfl Try.ntmps12 (Nat.le_of_ble_eq_true rfl) ?_
    refine T_addNil 1 ?_
    refine T_seq ?_
    refine T_region ?_
    refine TL_p (PV_assign rfl) ?_
    refine TL_nil ?_
    refine T_seq ?_
    refine T_region ?_
    refine TL_p (PV_move rfl) ?_
    refine TL_p (PV_nilCheck rfl) ?_
    refine TL_p (PV_fieldAddr (D := 9) Try.underlying54 rfl sz4 (by decide) rfl rfl) ?_
    refine TL_p (PV_load Try.underlying4 rfl rfl (Rd.at 1 rfl rfl)) ?_
    refine TL_p (PV_move rfl) ?_
    refine TL_split (d := 10) rfl (fun c1 => ?w1q286y) (fun c1 => ?w1q286n)
    try simp only [decide_eq_true_eq, decide_eq_false_iff_not, beq_iff_eq, beq_eq_false_iff_ne, bne_iff_ne, bne_eq_false_iff_eq, ne_eq, Bool.not_eq_true', Bool.not_eq_false', Bool.not_not, Bool.not_true, Bool.not_false, Bool.and_eq_true, Bool.or_eq_true, Bool.and_eq_false_iff, Bool.or_eq_false_iff, Int.not_lt, Int.not_le, gt_iff_lt, ge_iff_le] at c1
    refine TL_yes rfl rfl (gtrue (by with_reducible assumption)) (TO_pure rfl (PV_move rfl) ?_)
    refine TL_yes rfl rfl (gtrue (by with_reducible assumption)) (TO_pure rfl (PV_bin rfl rfl bin_eql) ?_)
    refine TL_p (PV_pickAnd rfl rfl rfl) ?_
    refine TL_p (PV_assign rfl) ?_
    refine TL_nil ?_
    refine T_seq ?_
    refine T_region ?_
    refine TL_p (PV_move rfl) ?_
    refine TL_p (PV_move rfl) ?_
    refine TL_p (PV_bin rfl rfl bin_eql) ?_
    refine TL_p (PV_nilCheck rfl) ?_
    refine TL_p (PV_fieldAddr (D := 9) Try.underlying54 rfl sz4 (by decide) rfl rfl) ?_
    refine TL_cons rfl (TO_store1 1 rfl rfl rfl sz4 rfl rfl rfl (by first | exact Nat.le_of_ble_eq_true rfl | (simp; done) | (simp; omega) | omega) ?_)
    refine TL_nil ?_
    refine T_seq ?_
    refine T_block ?_
    refine T_seq ?_
    refine T_region ?_
    refine TL_p (PV_move rfl) ?_
    refine TL_p (PV_nilCheck rfl) ?_
    refine TL_p (PV_fieldAddr (D := 5) Try.underlying54 rfl sz52 (by decide) rfl rfl) ?_
    refine TL_p (PV_load Try.underlying52 rfl rfl (Rd.at 1 rfl rfl)) ?_
    refine TL_p (PV_bin rfl rfl bin_eql) ?_
    refine TL_p (PV_assign rfl) ?_
    refine TL_nil ?_
    refine T_then rfl (by exact decide_eq_true (by omega)) ?_
    refine T_seq ?_
    refine T_region ?_
    refine TL_p (PV_assign rfl) ?_
    refine TL_nil ?_
    refine T_ret ?_
    refine ret_ret (ResV_one rfl rfl) ⟨_, List.Sublist.refl _, ⟨_, _, rfl, ?sd3q286_0, rfl⟩⟩
    case sd3q286_0 => decide
    try simp only [decide_eq_true_eq, decide_eq_false_iff_not, beq_iff_eq, beq_eq_false_iff_ne, bne_iff_ne, bne_eq_false_iff_eq, ne_eq, Bool.not_eq_true', Bool.not_eq_false', Bool.not_not, Bool.not_true, Bool.not_false, Bool.and_eq_true, Bool.or_eq_true, Bool.and_eq_false_iff, Bool.or_eq_false_iff, Int.not_lt, Int.not_le, gt_iff_lt, ge_iff_le] at c1
    refine TL_no (b := false) rfl rfl (gfalse (by with_reducible assumption)) rfl ?_
    refine TL_no (b := false) rfl rfl (gfalse (by with_reducible assumption)) rfl ?_
    refine TL_p (PV_pickF rfl (by first | assumption | rfl | (simp; done) | (simp; omega) | (simp [*]; done) | (simp [*]; omega)) rfl rfl) ?_
    refine TL_p (PV_assign rfl) ?_
    refine TL_nil ?_
    refine T_seq ?_
    refine T_region ?_
    refine TL_p (PV_move rfl) ?_
    refine TL_p (PV_move rfl) ?_
    refine TL_p (PV_bin rfl rfl bin_eql) ?_
    refine TL_p (PV_nilCheck rfl) ?_
    refine TL_p (PV_fieldAddr (D := 9) Try.underlying54 rfl sz4 (by decide) rfl rfl) ?_
    refine TL_cons rfl (TO_store1 1 rfl rfl rfl sz4 rfl rfl rfl (by first | exact Nat.le_of_ble_eq_true rfl | (simp; done) | (simp; omega) | omega) ?_)
    refine TL_nil ?_
    refine T_seq ?_
    refine T_block ?_
    refine T_seq ?_
    refine T_region ?_
    refine TL_p (PV_move rfl) ?_
    refine TL_p (PV_nilCheck rfl) ?_
    refine TL_p (PV_fieldAddr (D := 5) Try.underlying54 rfl sz52 (by decide) rfl rfl) ?_
    refine TL_p (PV_load Try.underlying52 rfl rfl (Rd.at 1 rfl rfl)) ?_
    refine TL_p (PV_bin rfl rfl bin_eql) ?_
    refine TL_p (PV_assign rfl) ?_
    refine TL_nil ?_
    refine T_then rfl (by exact decide_eq_true (by omega)) ?_
    refine T_seq ?_
    refine T_region ?_
    refine TL_p (PV_assign rfl) ?_
    refine TL_nil ?_
    refine T_ret ?_
    refine ret_ret (ResV_one rfl rfl) ⟨_, List.Sublist.refl _, ⟨_, _, rfl, ?sd5q286_0, rfl⟩⟩
    case sd5q286_0 => decide
  rw [if_neg h3, if_neg h3]
  by_cases h2 : s.can = true ∧ b = 24
  · rw [if_pos h2, if_pos h2]
    obtain ⟨hcan, rfl⟩ := h2
    refine TCall_intro (args := [_, _]) Try.func12 rfl Try.ntmps12 (Nat.le_of_ble_eq_true rfl) ?_
    refine T_seq ?_
    refine T_region ?_
    refine TL_p (PV_assign rfl) ?_
    refine TL_nil ?_
    refine T_seq ?_
    refine T_region ?_
    refine TL_p (PV_move rfl) ?_
    refine TL_p (PV_nilCheck rfl) ?_
    refine TL_p (PV_fieldAddr (D := 9) Try.underlying54 rfl sz4 (by decide) rfl rfl) ?_
    refine TL_p (PV_load Try.underlying4 rfl rfl (Rd.at 0 rfl rfl)) ?_
    refine TL_p (PV_move rfl) ?_
    refine TL_yes rfl rfl (gtrue (by with_reducible assumption)) (TO_pure rfl (PV_move rfl) ?_)
    refine TL_yes rfl rfl (gtrue (by with_reducible assumption)) (TO_pure rfl (PV_bin rfl rfl bin_eql) ?_)
    refine TL_p (PV_pickAnd rfl rfl rfl) ?_
    refine TL_p (PV_assign rfl) ?_
    refine TL_nil ?_
    refine T_seq ?_
    refine T_region ?_
    refine TL_p (PV_move rfl) ?_
    refine TL_p (PV_move rfl) ?_
    refine TL_p (PV_bin rfl rfl bin_eql) ?_
    refine TL_p (PV_nilCheck rfl) ?_
    refine TL_p (PV_fieldAddr (D := 9) Try.underlying54 rfl sz4 (by decide) rfl rfl) ?_
    refine TL_cons rfl (TO_store1 0 rfl rfl rfl sz4 rfl rfl rfl (by first | exact Nat.le_of_ble_eq_true rfl | (simp; done) | (simp; omega) | omega) ?_)
    refine TL_nil ?_
    refine T_seq ?_
    refine T_block ?_
    refine T_seq ?_
    refine T_region ?_
    refine TL_p (PV_move rfl) ?_
    refine TL_p (PV_nilCheck rfl) ?_
    refine TL_p (PV_fieldAddr (D := 5) Try.underlying54 rfl sz52 (by decide) rfl rfl) ?_
    refine TL_p (PV_load Try.underlying52 rfl rfl (Rd.at 0 rfl rfl)) ?_
    refine TL_p (PV_bin rfl rfl bin_eql) ?_
    refine TL_p (PV_assign rfl) ?_
    refine TL_nil ?_
    refine T_else rfl (by exact decide_eq_false (by omega)) ?_
    refine T_seq ?_
    refine T_region ?_
    refine TL_p (PV_move rfl) ?_
    refine TL_p (PV_assign rfl) ?_
    refine TL_nil ?_
    refine T_then rfl (by (simp; omega)) ?_
    refine T_seq ?_
    refine T_region ?_
    refine TL_p (PV_move rfl) ?_
    refine TL_p (PV_makeInterface (by kernel_rfl) rfl) ?_
    refine TL_cons rfl (TO_call0 call20 rfl rfl (t90can (s := s.can1 24)) ?_)
    rintro v29_4 H29_4 ⟨A_4, k_4, rfl, h_4_0, rfl⟩
    refine TL_p (PV_assign rfl) ?_
    refine TL_nil ?_
    refine T_ret ?_
    refine ret_ret (ResV_one rfl rfl) ⟨_, List.Sublist.refl _, ⟨_, _, rfl, ?sd5q291_0, rfl⟩⟩
    case sd5q291_0 => exact h_4_0
  rw [if_neg h2, if_neg h2]
  by_cases h0 : s.phase = 0 ∧ (b = 21 ∨ b = 67 ∧ s.crc = true)
  · rw [if_pos h0, if_pos h0]
    have hF3 : ({ s.can1 b with crc := b == 67 } : Sn).Fit0 := ⟨hF.many, hF.num, hF.ct1, hF.cw1, hF.ph, hF.at1, hF.tr, hF.lf⟩
    obtain ⟨h00, h0b⟩ := h0
    refine TCall_intro (args := [_, _]) Try.func12 rfl Try.ntmps12 (Nat.le_of_ble_eq_true rfl) ?_
    refine T_seq ?_
    refine T_region ?_
    refine TL_p (PV_assign rfl) ?_
    refine TL_nil ?_
    refine T_seq ?_
    refine T_region ?_
    refine TL_p (PV_move rfl) ?_
    refine TL_p (PV_nilCheck rfl) ?_
    refine TL_p (PV_fieldAddr (D := 9) Try.underlying54 rfl sz4 (by decide) rfl rfl) ?_
    refine TL_p (PV_load Try.underlying4 rfl rfl (Rd.at 0 rfl rfl)) ?_
    refine TL_p (PV_move rfl) ?_
    refine TL_split (d := 10) rfl (fun c1 => ?w1q297y) (fun c1 => ?w1q297n)
    try simp only [decide_eq_true_eq, decide_eq_false_iff_not, beq_iff_eq, beq_eq_false_iff_ne, bne_iff_ne, bne_eq_false_iff_eq, ne_eq, Bool.not_eq_true', Bool.not_eq_false', Bool.not_not, Bool.not_true, Bool.not_false, Bool.and_eq_true, Bool.or_eq_true, Bool.and_eq_false_iff, Bool.or_eq_false_iff, Int.not_lt, Int.not_le, gt_iff_lt, ge_iff_le] at c1
    refine TL_yes rfl rfl (gtrue (by with_reducible assumption)) (TO_pure rfl (PV_move rfl) ?_)
    refine TL_yes rfl rfl (gtrue (by with_reducible assumption)) (TO_pure rfl (PV_bin rfl rfl bin_eql) ?_)
    refine TL_p (PV_pickAnd rfl rfl rfl) ?_
    refine TL_p (PV_assign rfl) ?_
    refine TL_nil ?_
    refine T_seq ?_
    refine T_region ?_
    refine TL_p (PV_move rfl) ?_
    refine TL_p (PV_move rfl) ?_
    refine TL_p (PV_bin rfl rfl bin_eql) ?_
    refine TL_p (PV_nilCheck rfl) ?_
    refine TL_p (PV_fieldAddr (D := 9) Try.underlying54 rfl sz4 (by decide) rfl rfl) ?_
    refine TL_cons rfl (TO_store1 0 rfl rfl rfl sz4 rfl rfl rfl (by first | exact Nat.le_of_ble_eq_true rfl | (simp; done) | (simp; omega) | omega) ?_)
    refine TL_nil ?_
    refine T_seq ?_
    refine T_block ?_
    refine T_seq ?_
    refine T_region ?_
    refine TL_p (PV_move rfl) ?_
    refine TL_p (PV_nilCheck rfl) ?_
    refine TL_p (PV_fieldAddr (D := 5) Try.underlying54 rfl sz52 (by decide) rfl rfl) ?_
    refine TL_p (PV_load Try.underlying52 rfl rfl (Rd.at 0 rfl rfl)) ?_
    refine TL_p (PV_bin rfl rfl bin_eql) ?_
    refine TL_p (PV_assign rfl) ?_
    refine TL_nil ?_
    refine T_else rfl (by exact decide_eq_false (by omega)) ?_
    refine T_seq ?_
    refine T_region ?_
    refine TL_p (PV_move rfl) ?_
    refine TL_p (PV_assign rfl) ?_
    refine TL_nil ?_
    refine T_else rfl (by (simp; omega)) ?_
    refine T_seq ?_
    refine T_region ?_
    refine TL_p (PV_move rfl) ?_
    refine TL_p (PV_nilCheck rfl) ?_
    refine TL_p (PV_fieldAddr (D := 5) Try.underlying54 rfl sz52 (by decide) rfl rfl) ?_
    refine TL_p (PV_load Try.underlying52 rfl rfl (Rd.at 0 rfl rfl)) ?_
    refine TL_p (PV_bin rfl rfl bin_eql) ?_
    refine TL_p (PV_move rfl) ?_
    refine TL_yes rfl rfl (gtrue (by exact decide_eq_true (by omega))) (TO_pure rfl (PV_move rfl) ?_)
    refine TL_yes rfl rfl (gtrue (by exact decide_eq_true (by omega))) (TO_pure rfl (PV_bin rfl rfl bin_eql) ?_)
    refine TL_yes rfl rfl (gtrue (by exact decide_eq_true (by omega))) (TO_pure rfl (PV_move rfl) ?_)
    refine TL_split (d := 39) rfl (fun c3 => ?w3q297y) (fun c3 => ?w3q297n)
    try simp only [decide_eq_true_eq, decide_eq_false_iff_not, beq_iff_eq, beq_eq_false_iff_ne, bne_iff_ne, bne_eq_false_iff_eq, ne_eq, Bool.not_eq_true', Bool.not_eq_false', Bool.not_not, Bool.not_true, Bool.not_false, Bool.and_eq_true, Bool.or_eq_true, Bool.and_eq_false_iff, Bool.or_eq_false_iff, Int.not_lt, Int.not_le, gt_iff_lt, ge_iff_le] at c3
    refine TL_no (b := true) rfl rfl (gtrue (by exact decide_eq_true (by omega))) rfl ?_
    refine TL_no (b := true) rfl rfl (gtrue (by exact decide_eq_true (by omega))) rfl ?_
    refine TL_no (b := true) rfl rfl (gtrue (by exact decide_eq_true (by omega))) rfl ?_
    refine TL_noU rfl rfl rfl rfl ?_
    refine TL_noU rfl rfl rfl rfl ?_
    refine TL_noU rfl rfl rfl rfl ?_
    refine TL_noU rfl rfl rfl rfl ?_
    refine TL_no (b := true) rfl rfl (gtrue (by exact decide_eq_true (by omega))) rfl ?_
    refine TL_yes rfl rfl (gtrue (by exact decide_eq_true (by omega))) (TO_pure rfl (PV_pickT rfl (by first | assumption | rfl | (simp; done) | (simp; omega) | (simp [*]; done) | (simp [*]; omega)) rfl rfl) ?_)
    refine TL_p (PV_pickAnd rfl rfl rfl) ?_
    refine TL_p (PV_assign rfl) ?_
    refine TL_nil ?_
    refine T_then rfl (by (simp; omega)) ?_
    refine T_seq ?_
    refine T_region ?_
    refine TL_p (PV_move rfl) ?_
    refine TL_p (PV_move rfl) ?_
    refine TL_p (PV_bin rfl rfl bin_eql) ?_
    refine TL_p (PV_nilCheck rfl) ?_
    refine TL_p (PV_fieldAddr (D := 4) Try.underlying54 rfl sz4 (by decide) rfl rfl) ?_
    refine TL_cons rfl (TO_store1 0 rfl rfl rfl sz4 rfl rfl rfl (by first | exact Nat.le_of_ble_eq_true rfl | (simp; done) | (simp; omega) | omega) ?_)
    refine TL_nil ?_
    refine T_seq ?_
    refine T_region ?_
    refine TL_p (PV_move rfl) ?_
    refine TL_cons rfl (TO_call0 call21 rfl rfl (t91 (s := { s.can1 b with crc := b == 67 }) ?sd6q297_0 ?sd6q297_1) ?_)
    case sd6q297_0 => exact hF3
    case sd6q297_1 => exact hB
    rintro v56_7 H56_7 ⟨A_7, k_7, rfl, h_7_0, rfl⟩
    refine TL_p (PV_assign rfl) ?_
    refine TL_nil ?_
    refine T_ret ?_
    refine ret_ret (ResV_one rfl rfl) ⟨_, List.Sublist.refl _, ⟨_, _, rfl, ?sd8q297_0, rfl⟩⟩
    case sd8q297_0 => exact h_7_0
    try simp only [decide_eq_true_eq, decide_eq_false_iff_not, beq_iff_eq, beq_eq_false_iff_ne, bne_iff_ne, bne_eq_false_iff_eq, ne_eq, Bool.not_eq_true', Bool.not_eq_false', Bool.not_not, Bool.not_true, Bool.not_false, Bool.and_eq_true, Bool.or_eq_true, Bool.and_eq_false_iff, Bool.or_eq_false_iff, Int.not_lt, Int.not_le, gt_iff_lt, ge_iff_le] at c3
    refine TL_yes rfl rfl (gfalse (by exact decide_eq_false (by omega))) (TO_pure rfl (PV_move rfl) ?_)
    refine TL_yes rfl rfl (gfalse (by exact decide_eq_false (by omega))) (TO_pure rfl (PV_bin rfl rfl bin_eql) ?_)
    refine TL_yes rfl rfl (gfalse (by exact decide_eq_false (by omega))) (TO_pure rfl (PV_move rfl) ?_)
    refine TL_yes rfl rfl (gtrue (by exact decide_eq_true (by omega))) (TO_pure rfl (PV_move rfl) ?_)
    refine TL_yes rfl rfl (gtrue (by exact decide_eq_true (by omega))) (TO_pure rfl (PV_nilCheck rfl) ?_)
    refine TL_yes rfl rfl (gtrue (by exact decide_eq_true (by omega))) (TO_pure rfl (PV_fieldAddr (D := 4) Try.underlying54 rfl sz4 (by decide) rfl rfl) ?_)
    refine TL_yes rfl rfl (gtrue (by exact decide_eq_true (by omega))) (TO_pure rfl (PV_load Try.underlying4 rfl rfl (Rd.at 0 rfl rfl)) ?_)
    refine TL_yes rfl rfl (gfalse (by exact decide_eq_false (by omega))) (TO_pure rfl (PV_pickAnd rfl rfl rfl) ?_)
    refine TL_yes rfl rfl (gtrue (by exact decide_eq_true (by omega))) (TO_pure rfl (PV_pickOr rfl rfl rfl) ?_)
    refine TL_p (PV_pickAnd rfl rfl rfl) ?_
    refine TL_p (PV_assign rfl) ?_
    refine TL_nil ?_
    refine T_then rfl (by (simp_all; done)) ?_
    refine T_seq ?_
    refine T_region ?_
    refine TL_p (PV_move rfl) ?_
    refine TL_p (PV_move rfl) ?_
    refine TL_p (PV_bin rfl rfl bin_eql) ?_
    refine TL_p (PV_nilCheck rfl) ?_
    refine TL_p (PV_fieldAddr (D := 4) Try.underlying54 rfl sz4 (by decide) rfl rfl) ?_
    refine TL_cons rfl (TO_store1 0 rfl rfl rfl sz4 rfl rfl rfl (by first | exact Nat.le_of_ble_eq_true rfl | (simp; done) | (simp; omega) | omega) ?_)
    refine TL_nil ?_
    refine T_seq ?_
    refine T_region ?_
    refine TL_p (PV_move rfl) ?_
    refine TL_cons rfl (TO_call0 call21 rfl rfl (t91 (s := { s.can1 b with crc := b == 67 }) ?sd11q297_0 ?sd11q297_1) ?_)
    case sd11q297_0 => exact hF3
    case sd11q297_1 => exact hB
    rintro v56_12 H56_12 ⟨A_12, k_12, rfl, h_12_0, rfl⟩
    refine TL_p (PV_assign rfl) ?_
    refine TL_nil ?_
    refine T_ret ?_
    refine ret_ret (ResV_one rfl rfl) ⟨_, List.Sublist.refl _, ⟨_, _, rfl, ?sd13q297_0, rfl⟩⟩
    case sd13q297_0 => exact h_12_0
    try simp only [decide_eq_true_eq, decide_eq_false_iff_not, beq_iff_eq, beq_eq_false_iff_ne, bne_iff_ne, bne_eq_false_iff_eq, ne_eq, Bool.not_eq_true', Bool.not_eq_false', Bool.not_not, Bool.not_true, Bool.not_false, Bool.and_eq_true, Bool.or_eq_true, Bool.and_eq_false_iff, Bool.or_eq_false_iff, Int.not_lt, Int.not_le, gt_iff_lt, ge_iff_le] at c1
    refine TL_no (b := false) rfl rfl (gfalse (by with_reducible assumption)) rfl ?_
    refine TL_no (b := false) rfl rfl (gfalse (by with_reducible assumption)) rfl ?_
    refine TL_p (PV_pickF rfl (by first | assumption | rfl | (simp; done) | (simp; omega) | (simp [*]; done) | (simp [*]; omega)) rfl rfl) ?_
    refine TL_p (PV_assign rfl) ?_
    refine TL_nil ?_
    refine T_seq ?_
    refine T_region ?_
    refine TL_p (PV_move rfl) ?_
    refine TL_p (PV_move rfl) ?_
    refine TL_p (PV_bin rfl rfl bin_eql) ?_
    refine TL_p (PV_nilCheck rfl) ?_
    refine TL_p (PV_fieldAddr (D := 9) Try.underlying54 rfl sz4 (by decide) rfl rfl) ?_
    refine TL_cons rfl (TO_store1 0 rfl rfl rfl sz4 rfl rfl rfl (by first | exact Nat.le_of_ble_eq_true rfl | (simp; done) | (simp; omega) | omega) ?_)
    refine TL_nil ?_
    refine T_seq ?_
    refine T_block ?_
    refine T_seq ?_
    refine T_region ?_
    refine TL_p (PV_move rfl) ?_
    refine TL_p (PV_nilCheck rfl) ?_
    refine TL_p (PV_fieldAddr (D := 5) Try.underlying54 rfl sz52 (by decide) rfl rfl) ?_
    refine TL_p (PV_load Try.underlying52 rfl rfl (Rd.at 0 rfl rfl)) ?_
    refine TL_p (PV_bin rfl rfl bin_eql) ?_
    refine TL_p (PV_assign rfl) ?_
    refine TL_nil ?_
    refine T_else rfl (by exact decide_eq_false (by omega)) ?_
    refine T_seq ?_
    refine T_region ?_
    refine TL_p (PV_move rfl) ?_
    refine TL_p (PV_assign rfl) ?_
    refine TL_nil ?_
    refine T_else rfl (by rfl) ?_
    refine T_seq ?_
    refine T_region ?_
    refine TL_p (PV_move rfl) ?_
    refine TL_p (PV_nilCheck rfl) ?_
    refine TL_p (PV_fieldAddr (D := 5) Try.underlying54 rfl sz52 (by decide) rfl rfl) ?_
    refine TL_p (PV_load Try.underlying52 rfl rfl (Rd.at 0 rfl rfl)) ?_
    refine TL_p (PV_bin rfl rfl bin_eql) ?_
    refine TL_p (PV_move rfl) ?_
    refine TL_yes rfl rfl (gtrue (by exact decide_eq_true (by omega))) (TO_pure rfl (PV_move rfl) ?_)
    refine TL_yes rfl rfl (gtrue (by exact decide_eq_true (by omega))) (TO_pure rfl (PV_bin rfl rfl bin_eql) ?_)
    refine TL_yes rfl rfl (gtrue (by exact decide_eq_true (by omega))) (TO_pure rfl (PV_move rfl) ?_)
    refine TL_split (d := 39) rfl (fun c15 => ?w15q297y) (fun c15 => ?w15q297n)
    try simp only [decide_eq_true_eq, decide_eq_false_iff_not, beq_iff_eq, beq_eq_false_iff_ne, bne_iff_ne, bne_eq_false_iff_eq, ne_eq, Bool.not_eq_true', Bool.not_eq_false', Bool.not_not, Bool.not_true, Bool.not_false, Bool.and_eq_true, Bool.or_eq_true, Bool.and_eq_false_iff, Bool.or_eq_false_iff, Int.not_lt, Int.not_le, gt_iff_lt, ge_iff_le] at c15
    refine TL_no (b := true) rfl rfl (gtrue (by exact decide_eq_true (by omega))) rfl ?_
    refine TL_no (b := true) rfl rfl (gtrue (by exact decide_eq_true (by omega))) rfl ?_
    refine TL_no (b := true) rfl rfl (gtrue (by exact decide_eq_true (by omega))) rfl ?_
    refine TL_noU rfl rfl rfl rfl ?_
    refine TL_noU rfl rfl rfl rfl ?_
    refine TL_noU rfl rfl rfl rfl ?_
    refine TL_noU rfl rfl rfl rfl ?_
    refine TL_no (b := true) rfl rfl (gtrue (by exact decide_eq_true (by omega))) rfl ?_
    refine TL_yes rfl rfl (gtrue (by exact decide_eq_true (by omega))) (TO_pure rfl (PV_pickT rfl (by first | assumption | rfl | (simp; done) | (simp; omega) | (simp [*]; done) | (simp [*]; omega)) rfl rfl) ?_)
    refine TL_p (PV_pickAnd rfl rfl rfl) ?_
    refine TL_p (PV_assign rfl) ?_
    refine TL_nil ?_
    refine T_then rfl (by (simp; omega)) ?_
    refine T_seq ?_
    refine T_region ?_
    refine TL_p (PV_move rfl) ?_
    refine TL_p (PV_move rfl) ?_
    refine TL_p (PV_bin rfl rfl bin_eql) ?_
    refine TL_p (PV_nilCheck rfl) ?_
    refine TL_p (PV_fieldAddr (D := 4) Try.underlying54 rfl sz4 (by decide) rfl rfl) ?_
    refine TL_cons rfl (TO_store1 0 rfl rfl rfl sz4 rfl rfl rfl (by first | exact Nat.le_of_ble_eq_true rfl | (simp; done) | (simp; omega) | omega) ?_)
    refine TL_nil ?_
    refine T_seq ?_
    refine T_region ?_
    refine TL_p (PV_move rfl) ?_
    refine TL_cons rfl (TO_call0 call21 rfl rfl (t91 (s := { s.can1 b with crc := b == 67 }) ?sd18q297_0 ?sd18q297_1) ?_)
    case sd18q297_0 => exact hF3
    case sd18q297_1 => exact hB
    rintro v56_19 H56_19 ⟨A_19, k_19, rfl, h_19_0, rfl⟩
    refine TL_p (PV_assign rfl) ?_
    refine TL_nil ?_
    refine T_ret ?_
    refine ret_ret (ResV_one rfl rfl) ⟨_, List.Sublist.refl _, ⟨_, _, rfl, ?sd20q297_0, rfl⟩⟩
    case sd20q297_0 => exact h_19_0
    try simp only [decide_eq_true_eq, decide_eq_false_iff_not, beq_iff_eq, beq_eq_false_iff_ne, bne_iff_ne, bne_eq_false_iff_eq, ne_eq, Bool.not_eq_true', Bool.not_eq_false', Bool.not_not, Bool.not_true, Bool.not_false, Bool.and_eq_true, Bool.or_eq_true, Bool.and_eq_false_iff, Bool.or_eq_false_iff, Int.not_lt, Int.not_le, gt_iff_lt, ge_iff_le] at c15
    refine TL_yes rfl rfl (gfalse (by exact decide_eq_false (by omega))) (TO_pure rfl (PV_move rfl) ?_)
    refine TL_yes rfl rfl (gfalse (by exact decide_eq_false (by omega))) (TO_pure rfl (PV_bin rfl rfl bin_eql) ?_)
    refine TL_yes rfl rfl (gfalse (by exact decide_eq_false (by omega))) (TO_pure rfl (PV_move rfl) ?_)
    refine TL_yes rfl rfl (gtrue (by exact decide_eq_true (by omega))) (TO_pure rfl (PV_move rfl) ?_)
    refine TL_yes rfl rfl (gtrue (by exact decide_eq_true (by omega))) (TO_pure rfl (PV_nilCheck rfl) ?_)
    refine TL_yes rfl rfl (gtrue (by exact decide_eq_true (by omega))) (TO_pure rfl (PV_fieldAddr (D := 4) Try.underlying54 rfl sz4 (by decide) rfl rfl) ?_)
    refine TL_yes rfl rfl (gtrue (by exact decide_eq_true (by omega))) (TO_pure rfl (PV_load Try.underlying4 rfl rfl (Rd.at 0 rfl rfl)) ?_)
    refine TL_yes rfl rfl (gfalse (by exact decide_eq_false (by omega))) (TO_pure rfl (PV_pickAnd rfl rfl rfl) ?_)
    refine TL_yes rfl rfl (gtrue (by exact decide_eq_true (by omega))) (TO_pure rfl (PV_pickOr rfl rfl rfl) ?_)
    refine TL_p (PV_pickAnd rfl rfl rfl) ?_
    refine TL_p (PV_assign rfl) ?_
    refine TL_nil ?_
    refine T_then rfl (by (simp_all; done)) ?_
    refine T_seq ?_
    refine T_region ?_
    refine TL_p (PV_move rfl) ?_
    refine TL_p (PV_move rfl) ?_
    refine TL_p (PV_bin rfl rfl bin_eql) ?_
    refine TL_p (PV_nilCheck rfl) ?_
    refine TL_p (PV_fieldAddr (D := 4) Try.underlying54 rfl sz4 (by decide) rfl rfl) ?_
    refine TL_cons rfl (TO_store1 0 rfl rfl rfl sz4 rfl rfl rfl (by first | exact Nat.le_of_ble_eq_true rfl | (simp; done) | (simp; omega) | omega) ?_)
    refine TL_nil ?_
    refine T_seq ?_
    refine T_region ?_
    refine TL_p (PV_move rfl) ?_
    refine TL_cons rfl (TO_call0 call21 rfl rfl (t91 (s := { s.can1 b with crc := b == 67 }) ?sd23q297_0 ?sd23q297_1) ?_)
    case sd23q297_0 => exact hF3
    case sd23q297_1 => exact hB
    rintro v56_24 H56_24 ⟨A_24, k_24, rfl, h_24_0, rfl⟩
    refine TL_p (PV_assign rfl) ?_
    refine TL_nil ?_
    refine T_ret ?_
    refine ret_ret (ResV_one rfl rfl) ⟨_, List.Sublist.refl _, ⟨_, _, rfl, ?sd25q297_0, rfl⟩⟩
    case sd25q297_0 => exact h_24_0
  rw [if_neg h0, if_neg h0]
  by_cases h00 : s.phase = 0
  · rw [if_pos h00, if_pos h00]
    have h0b : ¬ (b = 21 ∨ b = 67 ∧ s.crc = true) := fun h => h0 ⟨h00, h⟩
    refine TCall_intro (args := [_, _]) Try.func12 rfl Try.ntmps12 (Nat.le_of_ble_eq_true rfl) ?_
    refine T_addNil 1 ?_
    refine T_seq ?_
    refine T_region ?_
    refine TL_p (PV_assign rfl) ?_
    refine TL_nil ?_
    refine T_seq ?_
    refine T_region ?_
    refine TL_p (PV_move rfl) ?_
    refine TL_p (PV_nilCheck rfl) ?_
    refine TL_p (PV_fieldAddr (D := 9) Try.underlying54 rfl sz4 (by decide) rfl rfl) ?_
    refine TL_p (PV_load Try.underlying4 rfl rfl (Rd.at 1 rfl rfl)) ?_
    refine TL_p (PV_move rfl) ?_
    refine TL_split (d := 10) rfl (fun c1 => ?w1q302y) (fun c1 => ?w1q302n)
    try simp only [decide_eq_true_eq, decide_eq_false_iff_not, beq_iff_eq, beq_eq_false_iff_ne, bne_iff_ne, bne_eq_false_iff_eq, ne_eq, Bool.not_eq_true', Bool.not_eq_false', Bool.not_not, Bool.not_true, Bool.not_false, Bool.and_eq_true, Bool.or_eq_true, Bool.and_eq_false_iff, Bool.or_eq_false_iff, Int.not_lt, Int.not_le, gt_iff_lt, ge_iff_le] at c1
    refine TL_yes rfl rfl (gtrue (by with_reducible assumption)) (TO_pure rfl (PV_move rfl) ?_)
    refine TL_yes rfl rfl (gtrue (by with_reducible assumption)) (TO_pure rfl (PV_bin rfl rfl bin_eql) ?_)
    refine TL_p (PV_pickAnd rfl rfl rfl) ?_
    refine TL_p (PV_assign rfl) ?_
    refine TL_nil ?_
    refine T_seq ?_
    refine T_region ?_
    refine TL_p (PV_move rfl) ?_
    refine TL_p (PV_move rfl) ?_
    refine TL_p (PV_bin rfl rfl bin_eql) ?_
    refine TL_p (PV_nilCheck rfl) ?_
    refine TL_p (PV_fieldAddr (D := 9) Try.underlying54 rfl sz4 (by decide) rfl rfl) ?_
    refine TL_cons rfl (TO_store1 1 rfl rfl rfl sz4 rfl rfl rfl (by first | exact Nat.le_of_ble_eq_true rfl | (simp; done) | (simp; omega) | omega) ?_)
    refine TL_nil ?_
    refine T_seq ?_
    refine T_block ?_
    refine T_seq ?_
    refine T_region ?_
    refine TL_p (PV_move rfl) ?_
    refine TL_p (PV_nilCheck rfl) ?_
    refine TL_p (PV_fieldAddr (D := 5) Try.underlying54 rfl sz52 (by decide) rfl rfl) ?_
    refine TL_p (PV_load Try.underlying52 rfl rfl (Rd.at 1 rfl rfl)) ?_
    refine TL_p (PV_bin rfl rfl bin_eql) ?_
    refine TL_p (PV_assign rfl) ?_
    refine TL_nil ?_
    refine T_else rfl (by exact decide_eq_false (by omega)) ?_
    refine T_seq ?_
    refine T_region ?_
    refine TL_p (PV_move rfl) ?_
    refine TL_p (PV_assign rfl) ?_
    refine TL_nil ?_
    refine T_else rfl (by (simp_all; done)) ?_
    refine T_seq ?_
    refine T_region ?_
    refine TL_p (PV_move rfl) ?_
    refine TL_p (PV_nilCheck rfl) ?_
    refine TL_p (PV_fieldAddr (D := 5) Try.underlying54 rfl sz52 (by decide) rfl rfl) ?_
    refine TL_p (PV_load Try.underlying52 rfl rfl (Rd.at 1 rfl rfl)) ?_
    refine TL_p (PV_bin rfl rfl bin_eql) ?_
    refine TL_p (PV_move rfl) ?_
    refine TL_yes rfl rfl (gtrue (by exact decide_eq_true (by omega))) (TO_pure rfl (PV_move rfl) ?_)
    refine TL_yes rfl rfl (gtrue (by exact decide_eq_true (by omega))) (TO_pure rfl (PV_bin rfl rfl bin_eql) ?_)
    refine TL_yes rfl rfl (gtrue (by exact decide_eq_true (by omega))) (TO_pure rfl (PV_move rfl) ?_)
    refine TL_yes rfl rfl (gfalse (by exact decide_eq_false (by omega))) (TO_pure rfl (PV_move rfl) ?_)
    refine TL_yes rfl rfl (gfalse (by exact decide_eq_false (by omega))) (TO_pure rfl (PV_bin rfl rfl bin_eql) ?_)
    refine TL_yes rfl rfl (gfalse (by exact decide_eq_false (by omega))) (TO_pure rfl (PV_move rfl) ?_)
    refine TL_split (d := 42) rfl (fun c3 => ?w3q302y) (fun c3 => ?w3q302n)
    try simp only [decide_eq_true_eq, decide_eq_false_iff_not, beq_iff_eq, beq_eq_false_iff_ne, bne_iff_ne, bne_eq_false_iff_eq, ne_eq, Bool.not_eq_true', Bool.not_eq_false', Bool.not_not, Bool.not_true, Bool.not_false, Bool.and_eq_true, Bool.or_eq_true, Bool.and_eq_false_iff, Bool.or_eq_false_iff, Int.not_lt, Int.not_le, gt_iff_lt, ge_iff_le] at c3
    refine TL_yes rfl rfl (gtrue (by exact decide_eq_true (by omega))) (TO_pure rfl (PV_move rfl) ?_)
    refine TL_yes rfl rfl (gtrue (by exact decide_eq_true (by omega))) (TO_pure rfl (PV_nilCheck rfl) ?_)
    refine TL_yes rfl rfl (gtrue (by exact decide_eq_true (by omega))) (TO_pure rfl (PV_fieldAddr (D := 4) Try.underlying54 rfl sz4 (by decide) rfl rfl) ?_)
    refine TL_yes rfl rfl (gtrue (by exact decide_eq_true (by omega))) (TO_pure rfl (PV_load Try.underlying4 rfl rfl (Rd.at 1 rfl rfl)) ?_)
    refine TL_yes rfl rfl (gfalse (by exact decide_eq_false (by omega))) (TO_pure rfl (PV_pickAnd rfl rfl rfl) ?_)
    refine TL_yes rfl rfl (gtrue (by exact decide_eq_true (by omega))) (TO_pure rfl (PV_pickOr rfl rfl rfl) ?_)
    refine TL_p (PV_pickAnd rfl rfl rfl) ?_
    refine TL_p (PV_assign rfl) ?_
    refine TL_nil ?_
    refine T_else rfl (by (simp_all; done)) ?_
    refine T_seq ?_
    refine T_region ?_
    refine TL_p (PV_move rfl) ?_
    refine TL_p (PV_nilCheck rfl) ?_
    refine TL_p (PV_fieldAddr (D := 5) Try.underlying54 rfl sz52 (by decide) rfl rfl) ?_
    refine TL_p (PV_load Try.underlying52 rfl rfl (Rd.at 1 rfl rfl)) ?_
    refine TL_p (PV_bin rfl rfl bin_eql) ?_
    refine TL_p (PV_assign rfl) ?_
    refine TL_nil ?_
    refine T_then rfl (by exact decide_eq_true (by omega)) ?_
    refine T_seq ?_
    refine T_region ?_
    refine TL_p (PV_assign rfl) ?_
    refine TL_nil ?_
    refine T_ret ?_
    refine ret_ret (ResV_one rfl rfl) ⟨_, List.Sublist.refl _, ⟨_, _, rfl, ?sd4q302_0, rfl⟩⟩
    case sd4q302_0 => decide
    try simp only [decide_eq_true_eq, decide_eq_false_iff_not, beq_iff_eq, beq_eq_false_iff_ne, bne_iff_ne, bne_eq_false_iff_eq, ne_eq, Bool.not_eq_true', Bool.not_eq_false', Bool.not_not, Bool.not_true, Bool.not_false, Bool.and_eq_true, Bool.or_eq_true, Bool.and_eq_false_iff, Bool.or_eq_false_iff, Int.not_lt, Int.not_le, gt_iff_lt, ge_iff_le] at c3
    refine TL_no (b := false) rfl rfl (gfalse (by exact decide_eq_false (by omega))) rfl ?_
    refine TL_no (b := false) rfl rfl (gfalse (by exact decide_eq_false (by omega))) rfl ?_
    refine TL_no (b := false) rfl rfl (gfalse (by exact decide_eq_false (by omega))) rfl ?_
    refine TL_no (b := false) rfl rfl (gfalse (by exact decide_eq_false (by omega))) rfl ?_
    refine TL_yes rfl rfl (gfalse (by exact decide_eq_false (by omega))) (TO_pure rfl (PV_pickF rfl (by first | assumption | rfl | (simp; done) | (simp; omega) | (simp [*]; done) | (simp [*]; omega)) rfl rfl) ?_)
    refine TL_yes rfl rfl (gtrue (by exact decide_eq_true (by omega))) (TO_pure rfl (PV_pickOr rfl rfl rfl) ?_)
    refine TL_p (PV_pickAnd rfl rfl rfl) ?_
    refine TL_p (PV_assign rfl) ?_
    refine TL_nil ?_
    refine T_else rfl (by (simp; omega)) ?_
    refine T_seq ?_
    refine T_region ?_
    refine TL_p (PV_move rfl) ?_
    refine TL_p (PV_nilCheck rfl) ?_
    refine TL_p (PV_fieldAddr (D := 5) Try.underlying54 rfl sz52 (by decide) rfl rfl) ?_
    refine TL_p (PV_load Try.underlying52 rfl rfl (Rd.at 1 rfl rfl)) ?_
    refine TL_p (PV_bin rfl rfl bin_eql) ?_
    refine TL_p (PV_assign rfl) ?_
    refine TL_nil ?_
    refine T_then rfl (by exact decide_eq_true (by omega)) ?_
    refine T_seq ?_
    refine T_region ?_
    refine TL_p (PV_assign rfl) ?_
    refine TL_nil ?_
    refine T_ret ?_
    refine ret_ret (ResV_one rfl rfl) ⟨_, List.Sublist.refl _, ⟨_, _, rfl, ?sd5q302_0, rfl⟩⟩
    case sd5q302_0 => decide
    try simp only [decide_eq_true_eq, decide_eq_false_iff_not, beq_iff_eq, beq_eq_false_iff_ne, bne_iff_ne, bne_eq_false_iff_eq, ne_eq, Bool.not_eq_true', Bool.not_eq_false', Bool.not_not, Bool.not_true, Bool.not_false, Bool.and_eq_true, Bool.or_eq_true, Bool.and_eq_false_iff, Bool.or_eq_false_iff, Int.not_lt, Int.not_le, gt_iff_lt, ge_iff_le] at c1
    refine TL_no (b := false) rfl rfl (gfalse (by with_reducible assumption)) rfl ?_
    refine TL_no (b := false) rfl rfl (gfalse (by with_reducible assumption)) rfl ?_
    refine TL_p (PV_pickF rfl (by first | assumption | rfl | (simp; done) | (simp; omega) | (simp [*]; done) | (simp [*]; omega)) rfl rfl) ?_
    refine TL_p (PV_assign rfl) ?_
    refine TL_nil ?_
    refine T_seq ?_
    refine T_region ?_
    refine TL_p (PV_move rfl) ?_
    refine TL_p (PV_move rfl) ?_
    refine TL_p (PV_bin rfl rfl bin_eql) ?_
    refine TL_p (PV_nilCheck rfl) ?_
    refine TL_p (PV_fieldAddr (D := 9) Try.underlying54 rfl sz4 (by decide) rfl rfl) ?_
    refine TL_cons rfl (TO_store1 1 rfl rfl rfl sz4 rfl rfl rfl (by first | exact Nat.le_of_ble_eq_true rfl | (simp; done) | (simp; omega) | omega) ?_)
    refine TL_nil ?_
    refine T_seq ?_
    refine T_block ?_
    refine T_seq ?_
    refine T_region ?_
    refine TL_p (PV_move rfl) ?_
    refine TL_p (PV_nilCheck rfl) ?_
    refine TL_p (PV_fieldAddr (D := 5) Try.underlying54 rfl sz52 (by decide) rfl rfl) ?_
    refine TL_p (PV_load Try.underlying52 rfl rfl (Rd.at 1 rfl rfl)) ?_
    refine TL_p (PV_bin rfl rfl bin_eql) ?_
    refine TL_p (PV_assign rfl) ?_
    refine TL_nil ?_
    refine T_else rfl (by exact decide_eq_false (by omega)) ?_
    refine T_seq ?_
    refine T_region ?_
    refine TL_p (PV_move rfl) ?_
    refine TL_p (PV_assign rfl) ?_
    refine TL_nil ?_
    refine T_else rfl (by rfl) ?_
    refine T_seq ?_
    refine T_region ?_
    refine TL_p (PV_move rfl) ?_
    refine TL_p (PV_nilCheck rfl) ?_
    refine TL_p (PV_fieldAddr (D := 5) Try.underlying54 rfl sz52 (by decide) rfl rfl) ?_
    refine TL_p (PV_load Try.underlying52 rfl rfl (Rd.at 1 rfl rfl)) ?_
    refine TL_p (PV_bin rfl rfl bin_eql) ?_
    refine TL_p (PV_move rfl) ?_
    refine TL_yes rfl rfl (gtrue (by exact decide_eq_true (by omega))) (TO_pure rfl (PV_move rfl) ?_)
    refine TL_yes rfl rfl (gtrue (by exact decide_eq_true (by omega))) (TO_pure rfl (PV_bin rfl rfl bin_eql) ?_)
    refine TL_yes rfl rfl (gtrue (by exact decide_eq_true (by omega))) (TO_pure rfl (PV_move rfl) ?_)
    refine TL_yes rfl rfl (gfalse (by exact decide_eq_false (by omega))) (TO_pure rfl (PV_move rfl) ?_)
    refine TL_yes rfl rfl (gfalse (by exact decide_eq_false (by omega))) (TO_pure rfl (PV_bin rfl rfl bin_eql) ?_)
    refine TL_yes rfl rfl (gfalse (by exact decide_eq_false (by omega))) (TO_pure rfl (PV_move rfl) ?_)
    refine TL_split (d := 42) rfl (fun c7 => ?w7q302y) (fun c7 => ?w7q302n)
    try simp only [decide_eq_true_eq, decide_eq_false_iff_not, beq_iff_eq, beq_eq_false_iff_ne, bne_iff_ne, bne_eq_false_iff_eq, ne_eq, Bool.not_eq_true', Bool.not_eq_false', Bool.not_not, Bool.not_true, Bool.not_false, Bool.and_eq_true, Bool.or_eq_true, Bool.and_eq_false_iff, Bool.or_eq_false_iff, Int.not_lt, Int.not_le, gt_iff_lt, ge_iff_le] at c7
    refine TL_yes rfl rfl (gtrue (by exact decide_eq_true (by omega))) (TO_pure rfl (PV_move rfl) ?_)
    refine TL_yes rfl rfl (gtrue (by exact decide_eq_true (by omega))) (TO_pure rfl (PV_nilCheck rfl) ?_)
    refine TL_yes rfl rfl (gtrue (by exact decide_eq_true (by omega))) (TO_pure rfl (PV_fieldAddr (D := 4) Try.underlying54 rfl sz4 (by decide) rfl rfl) ?_)
    refine TL_yes rfl rfl (gtrue (by exact decide_eq_true (by omega))) (TO_pure rfl (PV_load Try.underlying4 rfl rfl (Rd.at 1 rfl rfl)) ?_)
    refine TL_yes rfl rfl (gfalse (by exact decide_eq_false (by omega))) (TO_pure rfl (PV_pickAnd rfl rfl rfl) ?_)
    refine TL_yes rfl rfl (gtrue (by exact decide_eq_true (by omega))) (TO_pure rfl (PV_pickOr rfl rfl rfl) ?_)
    refine TL_p (PV_pickAnd rfl rfl rfl) ?_
    refine TL_p (PV_assign rfl) ?_
    refine TL_nil ?_
    refine T_else rfl (by (simp_all; done)) ?_
    refine T_seq ?_
    refine T_region ?_
    refine TL_p (PV_move rfl) ?_
    refine TL_p (PV_nilCheck rfl) ?_
    refine TL_p (PV_fieldAddr (D := 5) Try.underlying54 rfl sz52 (by decide) rfl rfl) ?_
    refine TL_p (PV_load Try.underlying52 rfl rfl (Rd.at 1 rfl rfl)) ?_
    refine TL_p (PV_bin rfl rfl bin_eql) ?_
    refine TL_p (PV_assign rfl) ?_
    refine TL_nil ?_
    refine T_then rfl (by exact decide_eq_true (by omega)) ?_
    refine T_seq ?_
    refine T_region ?_
    refine TL_p (PV_assign rfl) ?_
    refine TL_nil ?_
    refine T_ret ?_
    refine ret_ret (ResV_one rfl rfl) ⟨_, List.Sublist.refl _, ⟨_, _, rfl, ?sd8q302_0, rfl⟩⟩
    case sd8q302_0 => decide
    try simp only [decide_eq_true_eq, decide_eq_false_iff_not, beq_iff_eq, beq_eq_false_iff_ne, bne_iff_ne, bne_eq_false_iff_eq, ne_eq, Bool.not_eq_true', Bool.not_eq_false', Bool.not_not, Bool.not_true, Bool.not_false, Bool.and_eq_true, Bool.or_eq_true, Bool.and_eq_false_iff, Bool.or_eq_false_iff, Int.not_lt, Int.not_le, gt_iff_lt, ge_iff_le] at c7
    refine TL_no (b := false) rfl rfl (gfalse (by exact decide_eq_false (by omega))) rfl ?_
    refine TL_no (b := false) rfl rfl (gfalse (by exact decide_eq_false (by omega))) rfl ?_
    refine TL_no (b := false) rfl rfl (gfalse (by exact decide_eq_false (by omega))) rfl ?_
    refine TL_no (b := false) rfl rfl (gfalse (by exact decide_eq_false (by omega))) rfl ?_
    refine TL_yes rfl rfl (gfalse (by exact decide_eq_false (by omega))) (TO_pure rfl (PV_pickF rfl (by first | assumption | rfl | (simp; done) | (simp; omega) | (simp [*]; done) | (simp [*]; omega)) rfl rfl) ?_)
    refine TL_yes rfl rfl (gtrue (by exact decide_eq_true (by omega))) (TO_pure rfl (PV_pickOr rfl rfl rfl) ?_)
    refine TL_p (PV_pickAnd rfl rfl rfl) ?_
    refine TL_p (PV_assign rfl) ?_
    refine TL_nil ?_
    refine T_else rfl (by (simp; omega)) ?_
    refine T_seq ?_
    refine T_region ?_
    refine TL_p (PV_move rfl) ?_
    refine TL_p (PV_nilCheck rfl) ?_
    refine TL_p (PV_fieldAddr (D := 5) Try.underlying54 rfl sz52 (by decide) rfl rfl) ?_
    refine TL_p (PV_load Try.underlying52 rfl rfl (Rd.at 1 rfl rfl)) ?_
    refine TL_p (PV_bin rfl rfl bin_eql) ?_
    refine TL_p (PV_assign rfl) ?_
    refine TL_nil ?_
    refine T_then rfl (by exact decide_eq_true (by omega)) ?_
    refine T_seq ?_
    refine T_region ?_
    refine TL_p (PV_assign rfl) ?_
    refine TL_nil ?_
    refine T_ret ?_
    refine ret_ret (ResV_one rfl rfl) ⟨_, List.Sublist.refl _, ⟨_, _, rfl, ?sd9q302_0, rfl⟩⟩
    case sd9q302_0 => decide
  rw [if_neg h00, if_neg h00]
  by_cases h6 : b = 6
  · subst h6
    rw [if_pos rfl, if_pos rfl]
    by_cases h1 : s.phase = 1
    · rw [if_pos h1, if_pos h1]
      have hlt := hF.dat h1
      have hF3 : ({ s.can1 6 with at_ := s.at_ + 1 } : Sn).Fit0 := ⟨hF.many, hF.num, hF.ct1, hF.cw1, hF.ph, hlt, hF.tr, hF.lf⟩
      refine TCall_intro (args := [_, _]) Try.func12 rfl Try.ntmps12 (Nat.le_of_ble_eq_true rfl) ?_
      refine T_seq ?_
      refine T_region ?_
      refine TL_p (PV_assign rfl) ?_
      refine TL_nil ?_
      refine T_seq ?_
      refine T_region ?_
      refine TL_p (PV_move rfl) ?_
      refine TL_p (PV_nilCheck rfl) ?_
      refine TL_p (PV_fieldAddr (D := 9) Try.underlying54 rfl sz4 (by decide) rfl rfl) ?_
      refine TL_p (PV_load Try.underlying4 rfl rfl (Rd.at 0 rfl rfl)) ?_
      refine TL_p (PV_move rfl) ?_
      refine TL_split (d := 10) rfl (fun c1 => ?w1q311y) (fun c1 => ?w1q311n)
      try simp only [decide_eq_true_eq, decide_eq_false_iff_not, beq_iff_eq, beq_eq_false_iff_ne, bne_iff_ne, bne_eq_false_iff_eq, ne_eq, Bool.not_eq_true', Bool.not_eq_false', Bool.not_not, Bool.not_true, Bool.not_false, Bool.and_eq_true, Bool.or_eq_true, Bool.and_eq_false_iff, Bool.or_eq_false_iff, Int.not_lt, Int.not_le, gt_iff_lt, ge_iff_le] at c1
      refine TL_yes rfl rfl (gtrue (by with_reducible assumption)) (TO_pure rfl (PV_move rfl) ?_)
      refine TL_yes rfl rfl (gtrue (by with_reducible assumption)) (TO_pure rfl (PV_bin rfl rfl bin_eql) ?_)
      refine TL_p (PV_pickAnd rfl rfl rfl) ?_
      refine TL_p (PV_assign rfl) ?_
      refine TL_nil ?_
      refine T_seq ?_
      refine T_region ?_
      refine TL_p (PV_move rfl) ?_
      refine TL_p (PV_move rfl) ?_
      refine TL_p (PV_bin rfl rfl bin_eql) ?_
      refine TL_p (PV_nilCheck rfl) ?_
      refine TL_p (PV_fieldAddr (D := 9) Try.underlying54 rfl sz4 (by decide) rfl rfl) ?_
      refine TL_cons rfl (TO_store1 0 rfl rfl rfl sz4 rfl rfl rfl (by first | exact Nat.le_of_ble_eq_true rfl | (simp; done) | (simp; omega) | omega) ?_)
      refine TL_nil ?_
      refine T_seq ?_
      refine T_block ?_
      refine T_seq ?_
      refine T_region ?_
      refine TL_p (PV_move rfl) ?_
      refine TL_p (PV_nilCheck rfl) ?_
      refine TL_p (PV_fieldAddr (D := 5) Try.underlying54 rfl sz52 (by decide) rfl rfl) ?_
      refine TL_p (PV_load Try.underlying52 rfl rfl (Rd.at 0 rfl rfl)) ?_
      refine TL_p (PV_bin rfl rfl bin_eql) ?_
      refine TL_p (PV_assign rfl) ?_
      refine TL_nil ?_
      refine T_else rfl (by exact decide_eq_false (by omega)) ?_
      refine T_seq ?_
      refine T_region ?_
      refine TL_p (PV_move rfl) ?_
      refine TL_p (PV_assign rfl) ?_
      refine TL_nil ?_
      refine T_else rfl (by (simp; done)) ?_
      refine T_seq ?_
      refine T_region ?_
      refine TL_p (PV_move rfl) ?_
      refine TL_p (PV_nilCheck rfl) ?_
      refine TL_p (PV_fieldAddr (D := 5) Try.underlying54 rfl sz52 (by decide) rfl rfl) ?_
      refine TL_p (PV_load Try.underlying52 rfl rfl (Rd.at 0 rfl rfl)) ?_
      refine TL_p (PV_bin rfl rfl bin_eql) ?_
      refine TL_p (PV_move rfl) ?_
      refine TL_no (b := false) rfl rfl (gfalse (by exact decide_eq_false (by omega))) rfl ?_
      refine TL_no (b := false) rfl rfl (gfalse (by exact decide_eq_false (by omega))) rfl ?_
      refine TL_no (b := false) rfl rfl (gfalse (by exact decide_eq_false (by omega))) rfl ?_
      refine TL_noU rfl rfl rfl rfl ?_
      refine TL_noU rfl rfl rfl rfl ?_
      refine TL_noU rfl rfl rfl rfl ?_
      refine TL_noU rfl rfl rfl rfl ?_
      refine TL_noU rfl rfl rfl rfl ?_
      refine TL_noU rfl rfl rfl rfl ?_
      refine TL_noU rfl rfl rfl rfl ?_
      refine TL_noU rfl rfl rfl rfl ?_
      refine TL_no (b := false) rfl rfl (gfalse (by exact decide_eq_false (by omega))) rfl ?_
      refine TL_p (PV_pickF rfl (by first | assumption | rfl | (simp; done) | (simp; omega) | (simp [*]; done) | (simp [*]; omega)) rfl rfl) ?_
      refine TL_p (PV_assign rfl) ?_
      refine TL_nil ?_
      refine T_else rfl (by rfl) ?_
      refine T_seq ?_
      refine T_region ?_
      refine TL_p (PV_move rfl) ?_
      refine TL_p (PV_nilCheck rfl) ?_
      refine TL_p (PV_fieldAddr (D := 5) Try.underlying54 rfl sz52 (by decide) rfl rfl) ?_
      refine TL_p (PV_load Try.underlying52 rfl rfl (Rd.at 0 rfl rfl)) ?_
      refine TL_p (PV_bin rfl rfl bin_eql) ?_
      refine TL_p (PV_assign rfl) ?_
      refine TL_nil ?_
      refine T_else rfl (by exact decide_eq_false (by omega)) ?_
      refine T_seq ?_
      refine T_region ?_
      refine TL_p (PV_move rfl) ?_
      refine TL_p (PV_bin rfl rfl bin_eql) ?_
      refine TL_p (PV_assign rfl) ?_
      refine TL_nil ?_
      refine T_then rfl (by rfl) ?_
      refine T_seq ?_
      refine T_seq ?_
      refine T_region ?_
      refine TL_p (PV_move rfl) ?_
      refine TL_p (PV_nilCheck rfl) ?_
      refine TL_p (PV_fieldAddr (D := 5) Try.underlying54 rfl sz52 (by decide) rfl rfl) ?_
      refine TL_p (PV_load Try.underlying52 rfl rfl (Rd.at 0 rfl rfl)) ?_
      refine TL_p (PV_bin rfl rfl bin_eql) ?_
      refine TL_nil ?_
      refine T_then rfl (by exact decide_eq_true (by omega)) ?_
      refine T_region ?_
      refine TL_p (PV_move rfl) ?_
      refine TL_p (PV_nilCheck rfl) ?_
      refine TL_p (PV_fieldAddr (D := 6) Try.underlying54 rfl sz3 (by decide) rfl rfl) ?_
      refine TL_p (PV_load Try.underlying3 rfl rfl (Rd.at 0 rfl rfl)) ?_
      refine TL_p (PV.cast (PV_bin rfl rfl bin_add) (wr64 (by omega))) ?_
      refine TL_p (PV_nilCheck rfl) ?_
      refine TL_p (PV_fieldAddr (D := 6) Try.underlying54 rfl sz3 (by decide) rfl rfl) ?_
      refine TL_cons rfl (TO_store1 0 rfl rfl rfl sz3 rfl rfl rfl (by first | exact Nat.le_of_ble_eq_true rfl | (simp; done) | (simp; omega) | omega) ?_)
      refine TL_nil ?_
      refine T_seq ?_
      refine T_region ?_
      refine TL_p (PV_move rfl) ?_
      refine TL_cons rfl (TO_call0 call21 rfl rfl (t91 (s := { s.can1 6 with at_ := s.at_ + 1 }) ?sd5q311_0 ?sd5q311_1) ?_)
      case sd5q311_0 => exact hF3
      case sd5q311_1 => exact hB
      rintro v79_6 H79_6 ⟨A_6, k_6, rfl, h_6_0, rfl⟩
      refine TL_p (PV_assign rfl) ?_
      refine TL_nil ?_
      refine T_ret ?_
      refine ret_ret (ResV_one rfl rfl) ⟨_, List.Sublist.refl _, ⟨_, _, rfl, ?sd7q311_0, rfl⟩⟩
      case sd7q311_0 => exact h_6_0
      try simp only [decide_eq_true_eq, decide_eq_false_iff_not, beq_iff_eq, beq_eq_false_iff_ne, bne_iff_ne, bne_eq_false_iff_eq, ne_eq, Bool.not_eq_true', Bool.not_eq_false', Bool.not_not, Bool.not_true, Bool.not_false, Bool.and_eq_true, Bool.or_eq_true, Bool.and_eq_false_iff, Bool.or_eq_false_iff, Int.not_lt, Int.not_le, gt_iff_lt, ge_iff_le] at c1
      refine TL_no (b := false) rfl rfl (gfalse (by with_reducible assumption)) rfl ?_
      refine TL_no (b := false) rfl rfl (gfalse (by with_reducible assumption)) rfl ?_
      refine TL_p (PV_pickF rfl (by first | assumption | rfl | (simp; done) | (simp; omega) | (simp [*]; done) | (simp [*]; omega)) rfl rfl) ?_
      refine TL_p (PV_assign rfl) ?_
      refine TL_nil ?_
      refine T_seq ?_
      refine T_region ?_
      refine TL_p (PV_move rfl) ?_
      refine TL_p (PV_move rfl) ?_
      refine TL_p (PV_bin rfl rfl bin_eql) ?_
      refine TL_p (PV_nilCheck rfl) ?_
      refine TL_p (PV_fieldAddr (D := 9) Try.underlying54 rfl sz4 (by decide) rfl rfl) ?_
      refine TL_cons rfl (TO_store1 0 rfl rfl rfl sz4 rfl rfl rfl (by first | exact Nat.le_of_ble_eq_true rfl | (simp; done) | (simp; omega) | omega) ?_)
      refine TL_nil ?_
      refine T_seq ?_
      refine T_block ?_
      refine T_seq ?_
      refine T_region ?_
      refine TL_p (PV_move rfl) ?_
      refine TL_p (PV_nilCheck rfl) ?_
      refine TL_p (PV_fieldAddr (D := 5) Try.underlying54 rfl sz52 (by decide) rfl rfl) ?_
      refine TL_p (PV_load Try.underlying52 rfl rfl (Rd.at 0 rfl rfl)) ?_
      refine TL_p (PV_bin rfl rfl bin_eql) ?_
      refine TL_p (PV_assign rfl) ?_
      refine TL_nil ?_
      refine T_else rfl (by exact decide_eq_false (by omega)) ?_
      refine T_seq ?_
      refine T_region ?_
      refine TL_p (PV_move rfl) ?_
      refine TL_p (PV_assign rfl) ?_
      refine TL_nil ?_
      refine T_else rfl (by rfl) ?_
      refine T_seq ?_
      refine T_region ?_
      refine TL_p (PV_move rfl) ?_
      refine TL_p (PV_nilCheck rfl) ?_
      refine TL_p (PV_fieldAddr (D := 5) Try.underlying54 rfl sz52 (by decide) rfl rfl) ?_
      refine TL_p (PV_load Try.underlying52 rfl rfl (Rd.at 0 rfl rfl)) ?_
      refine TL_p (PV_bin rfl rfl bin_eql) ?_
      refine TL_p (PV_move rfl) ?_
      refine TL_no (b := false) rfl rfl (gfalse (by exact decide_eq_false (by omega))) rfl ?_
      refine TL_no (b := false) rfl rfl (gfalse (by exact decide_eq_false (by omega))) rfl ?_
      refine TL_no (b := false) rfl rfl (gfalse (by exact decide_eq_false (by omega))) rfl ?_
      refine TL_noU rfl rfl rfl rfl ?_
      refine TL_noU rfl rfl rfl rfl ?_
      refine TL_noU rfl rfl rfl rfl ?_
      refine TL_noU rfl rfl rfl rfl ?_
      refine TL_noU rfl rfl rfl rfl ?_
      refine TL_noU rfl rfl rfl rfl ?_
      refine TL_noU rfl rfl rfl rfl ?_
      refine TL_noU rfl rfl rfl rfl ?_
      refine TL_no (b := false) rfl rfl (gfalse (by exact decide_eq_false (by omega))) rfl ?_
      refine TL_p (PV_pickF rfl (by first | assumption | rfl | (simp; done) | (simp; omega) | (simp [*]; done) | (simp [*]; omega)) rfl rfl) ?_
      refine TL_p (PV_assign rfl) ?_
      refine TL_nil ?_
      refine T_else rfl (by rfl) ?_
      refine T_seq ?_
      refine T_region ?_
      refine TL_p (PV_move rfl) ?_
      refine TL_p (PV_nilCheck rfl) ?_
      refine TL_p (PV_fieldAddr (D := 5) Try.underlying54 rfl sz52 (by decide) rfl rfl) ?_
      refine TL_p (PV_load Try.underlying52 rfl rfl (Rd.at 0 rfl rfl)) ?_
      refine TL_p (PV_bin rfl rfl bin_eql) ?_
      refine TL_p (PV_assign rfl) ?_
      refine TL_nil ?_
      refine T_else rfl (by exact decide_eq_false (by omega)) ?_
      refine T_seq ?_
      refine T_region ?_
      refine TL_p (PV_move rfl) ?_
      refine TL_p (PV_bin rfl rfl bin_eql) ?_
      refine TL_p (PV_assign rfl) ?_
      refine TL_nil ?_
      refine T_then rfl (by rfl) ?_
      refine T_seq ?_
      refine T_seq ?_
      refine T_region ?_
      refine TL_p (PV_move rfl) ?_
      refine TL_p (PV_nilCheck rfl) ?_
      refine TL_p (PV_fieldAddr (D := 5) Try.underlying54 rfl sz52 (by decide) rfl rfl) ?_
      refine TL_p (PV_load Try.underlying52 rfl rfl (Rd.at 0 rfl rfl)) ?_
      refine TL_p (PV_bin rfl rfl bin_eql) ?_
      refine TL_nil ?_
      refine T_then rfl (by exact decide_eq_true (by omega)) ?_
      refine T_region ?_
      refine TL_p (PV_move rfl) ?_
      refine TL_p (PV_nilCheck rfl) ?_
      refine TL_p (PV_fieldAddr (D := 6) Try.underlying54 rfl sz3 (by decide) rfl rfl) ?_
      refine TL_p (PV_load Try.underlying3 rfl rfl (Rd.at 0 rfl rfl)) ?_
      refine TL_p (PV.cast (PV_bin rfl rfl bin_add) (wr64 (by omega))) ?_
      refine TL_p (PV_nilCheck rfl) ?_
      refine TL_p (PV_fieldAddr (D := 6) Try.underlying54 rfl sz3 (by decide) rfl rfl) ?_
      refine TL_cons rfl (TO_store1 0 rfl rfl rfl sz3 rfl rfl rfl (by first | exact Nat.le_of_ble_eq_true rfl | (simp; done) | (simp; omega) | omega) ?_)
      refine TL_nil ?_
      refine T_seq ?_
      refine T_region ?_
      refine TL_p (PV_move rfl) ?_
      refine TL_cons rfl (TO_call0 call21 rfl rfl (t91 (s := { s.can1 6 with at_ := s.at_ + 1 }) ?sd11q311_0 ?sd11q311_1) ?_)
      case sd11q311_0 => exact hF3
      case sd11q311_1 => exact hB
      rintro v79_12 H79_12 ⟨A_12, k_12, rfl, h_12_0, rfl⟩
      refine TL_p (PV_assign rfl) ?_
      refine TL_nil ?_
      refine T_ret ?_
      refine ret_ret (ResV_one rfl rfl) ⟨_, List.Sublist.refl _, ⟨_, _, rfl, ?sd13q311_0, rfl⟩⟩
      case sd13q311_0 => exact h_12_0
    · rw [if_neg h1, if_neg h1]
      have hF3 : (s.can1 6).Fit0 := hF1.toFit0
      refine TCall_intro (args := [_, _]) Try.func12 rfl Try.ntmps12 (Nat.le_of_ble_eq_true rfl) ?_
      refine T_seq ?_
      refine T_region ?_
      refine TL_p (PV_assign rfl) ?_
      refine TL_nil ?_
      refine T_seq ?_
      refine T_region ?_
      refine TL_p (PV_move rfl) ?_
      refine TL_p (PV_nilCheck rfl) ?_
      refine TL_p (PV_fieldAddr (D := 9) Try.underlying54 rfl sz4 (by decide) rfl rfl) ?_
      refine TL_p (PV_load Try.underlying4 rfl rfl (Rd.at 0 rfl rfl)) ?_
      refine TL_p (PV_move rfl) ?_
      refine TL_split (d := 10) rfl (fun c1 => ?w1q314y) (fun c1 => ?w1q314n)
      try simp only [decide_eq_true_eq, decide_eq_false_iff_not, beq_iff_eq, beq_eq_false_iff_ne, bne_iff_ne, bne_eq_false_iff_eq, ne_eq, Bool.not_eq_true', Bool.not_eq_false', Bool.not_not, Bool.not_true, Bool.not_false, Bool.and_eq_true, Bool.or_eq_true, Bool.and_eq_false_iff, Bool.or_eq_false_iff, Int.not_lt, Int.not_le, gt_iff_lt, ge_iff_le] at c1
      refine TL_yes rfl rfl (gtrue (by with_reducible assumption)) (TO_pure rfl (PV_move rfl) ?_)
      refine TL_yes rfl rfl (gtrue (by with_reducible assumption)) (TO_pure rfl (PV_bin rfl rfl bin_eql) ?_)
      refine TL_p (PV_pickAnd rfl rfl rfl) ?_
      refine TL_p (PV_assign rfl) ?_
      refine TL_nil ?_
      refine T_seq ?_
      refine T_region ?_
      refine TL_p (PV_move rfl) ?_
      refine TL_p (PV_move rfl) ?_
      refine TL_p (PV_bin rfl rfl bin_eql) ?_
      refine TL_p (PV_nilCheck rfl) ?_
      refine TL_p (PV_fieldAddr (D := 9) Try.underlying54 rfl sz4 (by decide) rfl rfl) ?_
      refine TL_cons rfl (TO_store1 0 rfl rfl rfl sz4 rfl rfl rfl (by first | exact Nat.le_of_ble_eq_true rfl | (simp; done) | (simp; omega) | omega) ?_)
      refine TL_nil ?_
      refine T_seq ?_
      refine T_block ?_
      refine T_seq ?_
      refine T_region ?_
      refine TL_p (PV_move rfl) ?_
      refine TL_p (PV_nilCheck rfl) ?_
      refine TL_p (PV_fieldAddr (D := 5) Try.underlying54 rfl sz52 (by decide) rfl rfl) ?_
      refine TL_p (PV_load Try.underlying52 rfl rfl (Rd.at 0 rfl rfl)) ?_
      refine TL_p (PV_bin rfl rfl bin_eql) ?_
      refine TL_p (PV_assign rfl) ?_
      refine TL_nil ?_
      refine T_else rfl (by exact decide_eq_false (by omega)) ?_
      refine T_seq ?_
      refine T_region ?_
      refine TL_p (PV_move rfl) ?_
      refine TL_p (PV_assign rfl) ?_
      refine TL_nil ?_
      refine T_else rfl (by (simp; done)) ?_
      refine T_seq ?_
      refine T_region ?_
      refine TL_p (PV_move rfl) ?_
      refine TL_p (PV_nilCheck rfl) ?_
      refine TL_p (PV_fieldAddr (D := 5) Try.underlying54 rfl sz52 (by decide) rfl rfl) ?_
      refine TL_p (PV_load Try.underlying52 rfl rfl (Rd.at 0 rfl rfl)) ?_
      refine TL_p (PV_bin rfl rfl bin_eql) ?_
      refine TL_p (PV_move rfl) ?_
      refine TL_no (b := false) rfl rfl (gfalse (by exact decide_eq_false (by omega))) rfl ?_
      refine TL_no (b := false) rfl rfl (gfalse (by exact decide_eq_false (by omega))) rfl ?_
      refine TL_no (b := false) rfl rfl (gfalse (by exact decide_eq_false (by omega))) rfl ?_
      refine TL_noU rfl rfl rfl rfl ?_
      refine TL_noU rfl rfl rfl rfl ?_
      refine TL_noU rfl rfl rfl rfl ?_
      refine TL_noU rfl rfl rfl rfl ?_
      refine TL_noU rfl rfl rfl rfl ?_
      refine TL_noU rfl rfl rfl rfl ?_
      refine TL_noU rfl rfl rfl rfl ?_
      refine TL_noU rfl rfl rfl rfl ?_
      refine TL_no (b := false) rfl rfl (gfalse (by exact decide_eq_false (by omega))) rfl ?_
      refine TL_p (PV_pickF rfl (by first | assumption | rfl | (simp; done) | (simp; omega) | (simp [*]; done) | (simp [*]; omega)) rfl rfl) ?_
      refine TL_p (PV_assign rfl) ?_
      refine TL_nil ?_
      refine T_else rfl (by rfl) ?_
      refine T_seq ?_
      refine T_region ?_
      refine TL_p (PV_move rfl) ?_
      refine TL_p (PV_nilCheck rfl) ?_
      refine TL_p (PV_fieldAddr (D := 5) Try.underlying54 rfl sz52 (by decide) rfl rfl) ?_
      refine TL_p (PV_load Try.underlying52 rfl rfl (Rd.at 0 rfl rfl)) ?_
      refine TL_p (PV_bin rfl rfl bin_eql) ?_
      refine TL_p (PV_assign rfl) ?_
      refine TL_nil ?_
      refine T_else rfl (by exact decide_eq_false (by omega)) ?_
      refine T_seq ?_
      refine T_region ?_
      refine TL_p (PV_move rfl) ?_
      refine TL_p (PV_bin rfl rfl bin_eql) ?_
      refine TL_p (PV_assign rfl) ?_
      refine TL_nil ?_
      refine T_then rfl (by rfl) ?_
      refine T_seq ?_
      refine T_seq ?_
      refine T_region ?_
      refine TL_p (PV_move rfl) ?_
      refine TL_p (PV_nilCheck rfl) ?_
      refine TL_p (PV_fieldAddr (D := 5) Try.underlying54 rfl sz52 (by decide) rfl rfl) ?_
      refine TL_p (PV_load Try.underlying52 rfl rfl (Rd.at 0 rfl rfl)) ?_
      refine TL_p (PV_bin rfl rfl bin_eql) ?_
      refine TL_nil ?_
      refine T_else rfl (by exact decide_eq_false (by omega)) ?_
      refine T_skip ?_
      refine T_seq ?_
      refine T_region ?_
      refine TL_p (PV_move rfl) ?_
      refine TL_cons rfl (TO_call0 call21 rfl rfl (t91 (s := s.can1 6) ?sd4q314_0 ?sd4q314_1) ?_)
      case sd4q314_0 => exact hF3
      case sd4q314_1 => exact hB
      rintro v79_5 H79_5 ⟨A_5, k_5, rfl, h_5_0, rfl⟩
      refine TL_p (PV_assign rfl) ?_
      refine TL_nil ?_
      refine T_ret ?_
      refine ret_ret (ResV_one rfl rfl) ⟨_, List.Sublist.refl _, ⟨_, _, rfl, ?sd6q314_0, rfl⟩⟩
      case sd6q314_0 => exact h_5_0
      try simp only [decide_eq_true_eq, decide_eq_false_iff_not, beq_iff_eq, beq_eq_false_iff_ne, bne_iff_ne, bne_eq_false_iff_eq, ne_eq, Bool.not_eq_true', Bool.not_eq_false', Bool.not_not, Bool.not_true, Bool.not_false, Bool.and_eq_true, Bool.or_eq_true, Bool.and_eq_false_iff, Bool.or_eq_false_iff, Int.not_lt, Int.not_le, gt_iff_lt, ge_iff_le] at c1
      refine TL_no (b := false) rfl rfl (gfalse (by with_reducible assumption)) rfl ?_
      refine TL_no (b := false) rfl rfl (gfalse (by with_reducible assumption)) rfl ?_
      refine TL_p (PV_pickF rfl (by first | assumption | rfl | (simp; done) | (simp; omega) | (simp [*]; done) | (simp [*]; omega)) rfl rfl) ?_
      refine TL_p (PV_assign rfl) ?_
      refine TL_nil ?_
      refine T_seq ?_
      refine T_region ?_
      refine TL_p (PV_move rfl) ?_
      refine TL_p (PV_move rfl) ?_
      refine TL_p (PV_bin rfl rfl bin_eql) ?_
      refine TL_p (PV_nilCheck rfl) ?_
      refine TL_p (PV_fieldAddr (D := 9) Try.underlying54 rfl sz4 (by decide) rfl rfl) ?_
      refine TL_cons rfl (TO_store1 0 rfl rfl rfl sz4 rfl rfl rfl (by first | exact Nat.le_of_ble_eq_true rfl | (simp; done) | (simp; omega) | omega) ?_)
      refine TL_nil ?_
      refine T_seq ?_
      refine T_block ?_
      refine T_seq ?_
      refine T_region ?_
      refine TL_p (PV_move rfl) ?_
      refine TL_p (PV_nilCheck rfl) ?_
      refine TL_p (PV_fieldAddr (D := 5) Try.underlying54 rfl sz52 (by decide) rfl rfl) ?_
      refine TL_p (PV_load Try.underlying52 rfl rfl (Rd.at 0 rfl rfl)) ?_
      refine TL_p (PV_bin rfl rfl bin_eql) ?_
      refine TL_p (PV_assign rfl) ?_
      refine TL_nil ?_
      refine T_else rfl (by exact decide_eq_false (by omega)) ?_
      refine T_seq ?_
      refine T_region ?_
      refine TL_p (PV_move rfl) ?_
      refine TL_p (PV_assign rfl) ?_
      refine TL_nil ?_
      refine T_else rfl (by rfl) ?_
      refine T_seq ?_
      refine T_region ?_
      refine TL_p (PV_move rfl) ?_
      refine TL_p (PV_nilCheck rfl) ?_
      refine TL_p (PV_fieldAddr (D := 5) Try.underlying54 rfl sz52 (by decide) rfl rfl) ?_
      refine TL_p (PV_load Try.underlying52 rfl rfl (Rd.at 0 rfl rfl)) ?_
      refine TL_p (PV_bin rfl rfl bin_eql) ?_
      refine TL_p (PV_move rfl) ?_
      refine TL_no (b := false) rfl rfl (gfalse (by exact decide_eq_false (by omega))) rfl ?_
      refine TL_no (b := false) rfl rfl (gfalse (by exact decide_eq_false (by omega))) rfl ?_
      refine TL_no (b := false) rfl rfl (gfalse (by exact decide_eq_false (by omega))) rfl ?_
      refine TL_noU rfl rfl rfl rfl ?_
      refine TL_noU rfl rfl rfl rfl ?_
      refine TL_noU rfl rfl rfl rfl ?_
      refine TL_noU rfl rfl rfl rfl ?_
      refine TL_noU rfl rfl rfl rfl ?_
      refine TL_noU rfl rfl rfl rfl ?_
      refine TL_noU rfl rfl rfl rfl ?_
      refine TL_noU rfl rfl rfl rfl ?_
      refine TL_no (b := false) rfl rfl (gfalse (by exact decide_eq_false (by omega))) rfl ?_
      refine TL_p (PV_pickF rfl (by first | assumption | rfl | (simp; done) | (simp; omega) | (simp [*]; done) | (simp [*]; omega)) rfl rfl) ?_
      refine TL_p (PV_assign rfl) ?_
      refine TL_nil ?_
      refine T_else rfl (by rfl) ?_
      refine T_seq ?_
      refine T_region ?_
      refine TL_p (PV_move rfl) ?_
      refine TL_p (PV_nilCheck rfl) ?_
      refine TL_p (PV_fieldAddr (D := 5) Try.underlying54 rfl sz52 (by decide) rfl rfl) ?_
      refine TL_p (PV_load Try.underlying52 rfl rfl (Rd.at 0 rfl rfl)) ?_
      refine TL_p (PV_bin rfl rfl bin_eql) ?_
      refine TL_p (PV_assign rfl) ?_
      refine TL_nil ?_
      refine T_else rfl (by exact decide_eq_false (by omega)) ?_
      refine T_seq ?_
      refine T_region ?_
      refine TL_p (PV_move rfl) ?_
      refine TL_p (PV_bin rfl rfl bin_eql) ?_
      refine TL_p (PV_assign rfl) ?_
      refine TL_nil ?_
      refine T_then rfl (by rfl) ?_
      refine T_seq ?_
      refine T_seq ?_
      refine T_region ?_
      refine TL_p (PV_move rfl) ?_
      refine TL_p (PV_nilCheck rfl) ?_
      refine TL_p (PV_fieldAddr (D := 5) Try.underlying54 rfl sz52 (by decide) rfl rfl) ?_
      refine TL_p (PV_load Try.underlying52 rfl rfl (Rd.at 0 rfl rfl)) ?_
      refine TL_p (PV_bin rfl rfl bin_eql) ?_
      refine TL_nil ?_
      refine T_else rfl (by exact decide_eq_false (by omega)) ?_
      refine T_skip ?_
      refine T_seq ?_
      refine T_region ?_
      refine TL_p (PV_move rfl) ?_
      refine TL_cons rfl (TO_call0 call21 rfl rfl (t91 (s := s.can1 6) ?sd9q314_0 ?sd9q314_1) ?_)
      case sd9q314_0 => exact hF3
      case sd9q314_1 => exact hB
      rintro v79_10 H79_10 ⟨A_10, k_10, rfl, h_10_0, rfl⟩
      refine TL_p (PV_assign rfl) ?_
      refine TL_nil ?_
      refine T_ret ?_
      refine ret_ret (ResV_one rfl rfl) ⟨_, List.Sublist.refl _, ⟨_, _, rfl, ?sd11q314_0, rfl⟩⟩
      case sd11q314_0 => exact h_10_0
  rw [if_neg h6, if_neg h6]
  by_cases h21 : b = 21
  · rw [if_pos h21, if_pos h21]
    have hF4 := hF1.again
    have hct := hF.ct1.2
    have htr := hF.tr.1
    refine TCall_intro (args := [_, _]) Try.func12 rfl Try.ntmps12 (Nat.le_of_ble_eq_true rfl) ?_
    refine T_seq ?_
    refine T_region ?_
    refine TL_p (PV_assign rfl) ?_
    refine TL_nil ?_
    refine T_seq ?_
    refine T_region ?_
    refine TL_p (PV_move rfl) ?_
    refine TL_p (PV_nilCheck rfl) ?_
    refine TL_p (PV_fieldAddr (D := 9) Try.underlying54 rfl sz4 (by decide) rfl rfl) ?_
    refine TL_p (PV_load Try.underlying4 rfl rfl (Rd.at 0 rfl rfl)) ?_
    refine TL_p (PV_move rfl) ?_
    refine TL_split (d := 10) rfl (fun c1 => ?w1q321y) (fun c1 => ?w1q321n)
    try simp only [decide_eq_true_eq, decide_eq_false_iff_not, beq_iff_eq, beq_eq_false_iff_ne, bne_iff_ne, bne_eq_false_iff_eq, ne_eq, Bool.not_eq_true', Bool.not_eq_false', Bool.not_not, Bool.not_true, Bool.not_false, Bool.and_eq_true, Bool.or_eq_true, Bool.and_eq_false_iff, Bool.or_eq_false_iff, Int.not_lt, Int.not_le, gt_iff_lt, ge_iff_le] at c1
    refine TL_yes rfl rfl (gtrue (by with_reducible assumption)) (TO_pure rfl (PV_move rfl) ?_)
    refine TL_yes rfl rfl (gtrue (by with_reducible assumption)) (TO_pure rfl (PV_bin rfl rfl bin_eql) ?_)
    refine TL_p (PV_pickAnd rfl rfl rfl) ?_
    refine TL_p (PV_assign rfl) ?_
    refine TL_nil ?_
    refine T_seq ?_
    refine T_region ?_
    refine TL_p (PV_move rfl) ?_
    refine TL_p (PV_move rfl) ?_
    refine TL_p (PV_bin rfl rfl bin_eql) ?_
    refine TL_p (PV_nilCheck rfl) ?_
    refine TL_p (PV_fieldAddr (D := 9) Try.underlying54 rfl sz4 (by decide) rfl rfl) ?_
    refine TL_cons rfl (TO_store1 0 rfl rfl rfl sz4 rfl rfl rfl (by first | exact Nat.le_of_ble_eq_true rfl | (simp; done) | (simp; omega) | omega) ?_)
    refine TL_nil ?_
    refine T_seq ?_
    refine T_block ?_
    refine T_seq ?_
    refine T_region ?_
    refine TL_p (PV_move rfl) ?_
    refine TL_p (PV_nilCheck rfl) ?_
    refine TL_p (PV_fieldAddr (D := 5) Try.underlying54 rfl sz52 (by decide) rfl rfl) ?_
    refine TL_p (PV_load Try.underlying52 rfl rfl (Rd.at 0 rfl rfl)) ?_
    refine TL_p (PV_bin rfl rfl bin_eql) ?_
    refine TL_p (PV_assign rfl) ?_
    refine TL_nil ?_
    refine T_else rfl (by exact decide_eq_false (by omega)) ?_
    refine T_seq ?_
    refine T_region ?_
    refine TL_p (PV_move rfl) ?_
    refine TL_p (PV_assign rfl) ?_
    refine TL_nil ?_
    refine T_else rfl (by (simp; omega)) ?_
    refine T_seq ?_
    refine T_region ?_
    refine TL_p (PV_move rfl) ?_
    refine TL_p (PV_nilCheck rfl) ?_
    refine TL_p (PV_fieldAddr (D := 5) Try.underlying54 rfl sz52 (by decide) rfl rfl) ?_
    refine TL_p (PV_load Try.underlying52 rfl rfl (Rd.at 0 rfl rfl)) ?_
    refine TL_p (PV_bin rfl rfl bin_eql) ?_
    refine TL_p (PV_move rfl) ?_
    refine TL_no (b := false) rfl rfl (gfalse (by exact decide_eq_false (by omega))) rfl ?_
    refine TL_no (b := false) rfl rfl (gfalse (by exact decide_eq_false (by omega))) rfl ?_
    refine TL_no (b := false) rfl rfl (gfalse (by exact decide_eq_false (by omega))) rfl ?_
    refine TL_noU rfl rfl rfl rfl ?_
    refine TL_noU rfl rfl rfl rfl ?_
    refine TL_noU rfl rfl rfl rfl ?_
    refine TL_noU rfl rfl rfl rfl ?_
    refine TL_noU rfl rfl rfl rfl ?_
    refine TL_noU rfl rfl rfl rfl ?_
    refine TL_noU rfl rfl rfl rfl ?_
    refine TL_noU rfl rfl rfl rfl ?_
    refine TL_no (b := false) rfl rfl (gfalse (by exact decide_eq_false (by omega))) rfl ?_
    refine TL_p (PV_pickF rfl (by first | assumption | rfl | (simp; done) | (simp; omega) | (simp [*]; done) | (simp [*]; omega)) rfl rfl) ?_
    refine TL_p (PV_assign rfl) ?_
    refine TL_nil ?_
    refine T_else rfl (by rfl) ?_
    refine T_seq ?_
    refine T_region ?_
    refine TL_p (PV_move rfl) ?_
    refine TL_p (PV_nilCheck rfl) ?_
    refine TL_p (PV_fieldAddr (D := 5) Try.underlying54 rfl sz52 (by decide) rfl rfl) ?_
    refine TL_p (PV_load Try.underlying52 rfl rfl (Rd.at 0 rfl rfl)) ?_
    refine TL_p (PV_bin rfl rfl bin_eql) ?_
    refine TL_p (PV_assign rfl) ?_
    refine TL_nil ?_
    refine T_else rfl (by exact decide_eq_false (by omega)) ?_
    refine T_seq ?_
    refine T_region ?_
    refine TL_p (PV_move rfl) ?_
    refine TL_p (PV_bin rfl rfl bin_eql) ?_
    refine TL_p (PV_assign rfl) ?_
    refine TL_nil ?_
    refine T_else rfl (by exact decide_eq_false (by omega)) ?_
    refine T_seq ?_
    refine T_region ?_
    refine TL_p (PV_move rfl) ?_
    refine TL_p (PV_bin rfl rfl bin_eql) ?_
    refine TL_p (PV_assign rfl) ?_
    refine TL_nil ?_
    refine T_then rfl (by exact decide_eq_true (by omega)) ?_
    refine T_seq ?_
    refine T_region ?_
    refine TL_p (PV_move rfl) ?_
    refine TL_cons rfl (TO_call0 call19 rfl rfl (t92 (s := s.can1 b) ?sd4q321_0 ?sd4q321_1 ?sd4q321_2 ?sd4q321_3) ?_)
    case sd4q321_0 => exact hF4
    case sd4q321_1 => exact hct
    case sd4q321_2 => exact htr
    case sd4q321_3 => exact hB
    rintro v84_5 H84_5 ⟨A_5, k_5, rfl, h_5_0, rfl⟩
    refine TL_p (PV_assign rfl) ?_
    refine TL_nil ?_
    refine T_ret ?_
    refine ret_ret (ResV_one rfl rfl) ⟨_, List.Sublist.refl _, ⟨_, _, rfl, ?sd6q321_0, rfl⟩⟩
    case sd6q321_0 => exact h_5_0
    try simp only [decide_eq_true_eq, decide_eq_false_iff_not, beq_iff_eq, beq_eq_false_iff_ne, bne_iff_ne, bne_eq_false_iff_eq, ne_eq, Bool.not_eq_true', Bool.not_eq_false', Bool.not_not, Bool.not_true, Bool.not_false, Bool.and_eq_true, Bool.or_eq_true, Bool.and_eq_false_iff, Bool.or_eq_false_iff, Int.not_lt, Int.not_le, gt_iff_lt, ge_iff_le] at c1
    refine TL_no (b := false) rfl rfl (gfalse (by with_reducible assumption)) rfl ?_
    refine TL_no (b := false) rfl rfl (gfalse (by with_reducible assumption)) rfl ?_
    refine TL_p (PV_pickF rfl (by first | assumption | rfl | (simp; done) | (simp; omega) | (simp [*]; done) | (simp [*]; omega)) rfl rfl) ?_
    refine TL_p (PV_assign rfl) ?_
    refine TL_nil ?_
    refine T_seq ?_
    refine T_region ?_
    refine TL_p (PV_move rfl) ?_
    refine TL_p (PV_move rfl) ?_
    refine TL_p (PV_bin rfl rfl bin_eql) ?_
    refine TL_p (PV_nilCheck rfl) ?_
    refine TL_p (PV_fieldAddr (D := 9) Try.underlying54 rfl sz4 (by decide) rfl rfl) ?_
    refine TL_cons rfl (TO_store1 0 rfl rfl rfl sz4 rfl rfl rfl (by first | exact Nat.le_of_ble_eq_true rfl | (simp; done) | (simp; omega) | omega) ?_)
    refine TL_nil ?_
    refine T_seq ?_
    refine T_block ?_
    refine T_seq ?_
    refine T_region ?_
    refine TL_p (PV_move rfl) ?_
    refine TL_p (PV_nilCheck rfl) ?_
    refine TL_p (PV_fieldAddr (D := 5) Try.underlying54 rfl sz52 (by decide) rfl rfl) ?_
    refine TL_p (PV_load Try.underlying52 rfl rfl (Rd.at 0 rfl rfl)) ?_
    refine TL_p (PV_bin rfl rfl bin_eql) ?_
    refine TL_p (PV_assign rfl) ?_
    refine TL_nil ?_
    refine T_else rfl (by exact decide_eq_false (by omega)) ?_
    refine T_seq ?_
    refine T_region ?_
    refine TL_p (PV_move rfl) ?_
    refine TL_p (PV_assign rfl) ?_
    refine TL_nil ?_
    refine T_else rfl (by rfl) ?_
    refine T_seq ?_
    refine T_region ?_
    refine TL_p (PV_move rfl) ?_
    refine TL_p (PV_nilCheck rfl) ?_
    refine TL_p (PV_fieldAddr (D := 5) Try.underlying54 rfl sz52 (by decide) rfl rfl) ?_
    refine TL_p (PV_load Try.underlying52 rfl rfl (Rd.at 0 rfl rfl)) ?_
    refine TL_p (PV_bin rfl rfl bin_eql) ?_
    refine TL_p (PV_move rfl) ?_
    refine TL_no (b := false) rfl rfl (gfalse (by exact decide_eq_false (by omega))) rfl ?_
    refine TL_no (b := false) rfl rfl (gfalse (by exact decide_eq_false (by omega))) rfl ?_
    refine TL_no (b := false) rfl rfl (gfalse (by exact decide_eq_false (by omega))) rfl ?_
    refine TL_noU rfl rfl rfl rfl ?_
    refine TL_noU rfl rfl rfl rfl ?_
    refine TL_noU rfl rfl rfl rfl ?_
    refine TL_noU rfl rfl rfl rfl ?_
    refine TL_noU rfl rfl rfl rfl ?_
    refine TL_noU rfl rfl rfl rfl ?_
    refine TL_noU rfl rfl rfl rfl ?_
    refine TL_noU rfl rfl rfl rfl ?_
    refine TL_no (b := false) rfl rfl (gfalse (by exact decide_eq_false (by omega))) rfl ?_
    refine TL_p (PV_pickF rfl (by first | assumption | rfl | (simp; done) | (simp; omega) | (simp [*]; done) | (simp [*]; omega)) rfl rfl) ?_
    refine TL_p (PV_assign rfl) ?_
    refine TL_nil ?_
    refine T_else rfl (by rfl) ?_
    refine T_seq ?_
    refine T_region ?_
    refine TL_p (PV_move rfl) ?_
    refine TL_p (PV_nilCheck rfl) ?_
    refine TL_p (PV_fieldAddr (D := 5) Try.underlying54 rfl sz52 (by decide) rfl rfl) ?_
    refine TL_p (PV_load Try.underlying52 rfl rfl (Rd.at 0 rfl rfl)) ?_
    refine TL_p (PV_bin rfl rfl bin_eql) ?_
    refine TL_p (PV_assign rfl) ?_
    refine TL_nil ?_
    refine T_else rfl (by exact decide_eq_false (by omega)) ?_
    refine T_seq ?_
    refine T_region ?_
    refine TL_p (PV_move rfl) ?_
    refine TL_p (PV_bin rfl rfl bin_eql) ?_
    refine TL_p (PV_assign rfl) ?_
    refine TL_nil ?_
    refine T_else rfl (by exact decide_eq_false (by omega)) ?_
    refine T_seq ?_
    refine T_region ?_
    refine TL_p (PV_move rfl) ?_
    refine TL_p (PV_bin rfl rfl bin_eql) ?_
    refine TL_p (PV_assign rfl) ?_
    refine TL_nil ?_
    refine T_then rfl (by exact decide_eq_true (by omega)) ?_
    refine T_seq ?_
    refine T_region ?_
    refine TL_p (PV_move rfl) ?_
    refine TL_cons rfl (TO_call0 call19 rfl rfl (t92 (s := s.can1 b) ?sd9q321_0 ?sd9q321_1 ?sd9q321_2 ?sd9q321_3) ?_)
    case sd9q321_0 => exact hF4
    case sd9q321_1 => exact hct
    case sd9q321_2 => exact htr
    case sd9q321_3 => exact hB
    rintro v84_10 H84_10 ⟨A_10, k_10, rfl, h_10_0, rfl⟩
    refine TL_p (PV_assign rfl) ?_
    refine TL_nil ?_
    refine T_ret ?_
    refine ret_ret (ResV_one rfl rfl) ⟨_, List.Sublist.refl _, ⟨_, _, rfl, ?sd11q321_0, rfl⟩⟩
    case sd11q321_0 => exact h_10_0
  · rw [if_neg h21, if_neg h21]
    refine TCall_intro (args := [_, _]) Try.func12 rfl Try.ntmps12 (Nat.le_of_ble_eq_true rfl) ?_
    refine T_addNil 1 ?_
    refine T_seq ?_
    refine T_region ?_
    refine TL_p (PV_assign rfl) ?_
    refine TL_nil ?_
    refine T_seq ?_
    refine T_region ?_
    refine TL_p (PV_move rfl) ?_
    refine TL_p (PV_nilCheck rfl) ?_
    refine TL_p (PV_fieldAddr (D := 9) Try.underlying54 rfl sz4 (by decide) rfl rfl) ?_
    refine TL_p (PV_load Try.underlying4 rfl rfl (Rd.at 1 rfl rfl)) ?_
    refine TL_p (PV_move rfl) ?_
    refine TL_split (d := 10) rfl (fun c1 => ?w1q323y) (fun c1 => ?w1q323n)
    try simp only [decide_eq_true_eq, decide_eq_false_iff_not, beq_iff_eq, beq_eq_false_iff_ne, bne_iff_ne, bne_eq_false_iff_eq, ne_eq, Bool.not_eq_true', Bool.not_eq_false', Bool.not_not, Bool.not_true, Bool.not_false, Bool.and_eq_true, Bool.or_eq_true, Bool.and_eq_false_iff, Bool.or_eq_false_iff, Int.not_lt, Int.not_le, gt_iff_lt, ge_iff_le] at c1
    refine TL_yes rfl rfl (gtrue (by with_reducible assumption)) (TO_pure rfl (PV_move rfl) ?_)
    refine TL_yes rfl rfl (gtrue (by with_reducible assumption)) (TO_pure rfl (PV_bin rfl rfl bin_eql) ?_)
    refine TL_p (PV_pickAnd rfl rfl rfl) ?_
    refine TL_p (PV_assign rfl) ?_
    refine TL_nil ?_
    refine T_seq ?_
    refine T_region ?_
    refine TL_p (PV_move rfl) ?_
    refine TL_p (PV_move rfl) ?_
    refine TL_p (PV_bin rfl rfl bin_eql) ?_
    refine TL_p (PV_nilCheck rfl) ?_
    refine TL_p (PV_fieldAddr (D := 9) Try.underlying54 rfl sz4 (by decide) rfl rfl) ?_
    refine TL_cons rfl (TO_store1 1 rfl rfl rfl sz4 rfl rfl rfl (by first | exact Nat.le_of_ble_eq_true rfl | (simp; done) | (simp; omega) | omega) ?_)
    refine TL_nil ?_
    refine T_seq ?_
    refine T_block ?_
    refine T_seq ?_
    refine T_region ?_
    refine TL_p (PV_move rfl) ?_
    refine TL_p (PV_nilCheck rfl) ?_
    refine TL_p (PV_fieldAddr (D := 5) Try.underlying54 rfl sz52 (by decide) rfl rfl) ?_
    refine TL_p (PV_load Try.underlying52 rfl rfl (Rd.at 1 rfl rfl)) ?_
    refine TL_p (PV_bin rfl rfl bin_eql) ?_
    refine TL_p (PV_assign rfl) ?_
    refine TL_nil ?_
    refine T_else rfl (by exact decide_eq_false (by omega)) ?_
    refine T_seq ?_
    refine T_region ?_
    refine TL_p (PV_move rfl) ?_
    refine TL_p (PV_assign rfl) ?_
    refine TL_nil ?_
    refine T_else rfl (by (simp_all; done)) ?_
    refine T_seq ?_
    refine T_region ?_
    refine TL_p (PV_move rfl) ?_
    refine TL_p (PV_nilCheck rfl) ?_
    refine TL_p (PV_fieldAddr (D := 5) Try.underlying54 rfl sz52 (by decide) rfl rfl) ?_
    refine TL_p (PV_load Try.underlying52 rfl rfl (Rd.at 1 rfl rfl)) ?_
    refine TL_p (PV_bin rfl rfl bin_eql) ?_
    refine TL_p (PV_move rfl) ?_
    refine TL_no (b := false) rfl rfl (gfalse (by exact decide_eq_false (by omega))) rfl ?_
    refine TL_no (b := false) rfl rfl (gfalse (by exact decide_eq_false (by omega))) rfl ?_
    refine TL_no (b := false) rfl rfl (gfalse (by exact decide_eq_false (by omega))) rfl ?_
    refine TL_noU rfl rfl rfl rfl ?_
    refine TL_noU rfl rfl rfl rfl ?_
    refine TL_noU rfl rfl rfl rfl ?_
    refine TL_noU rfl rfl rfl rfl ?_
    refine TL_noU rfl rfl rfl rfl ?_
    refine TL_noU rfl rfl rfl rfl ?_
    refine TL_noU rfl rfl rfl rfl ?_
    refine TL_noU rfl rfl rfl rfl ?_
    refine TL_no (b := false) rfl rfl (gfalse (by exact decide_eq_false (by omega))) rfl ?_
    refine TL_p (PV_pickF rfl (by first | assumption | rfl | (simp; done) | (simp; omega) | (simp [*]; done) | (simp [*]; omega)) rfl rfl) ?_
    refine TL_p (PV_assign rfl) ?_
    refine TL_nil ?_
    refine T_else rfl (by rfl) ?_
    refine T_seq ?_
    refine T_region ?_
    refine TL_p (PV_move rfl) ?_
    refine TL_p (PV_nilCheck rfl) ?_
    refine TL_p (PV_fieldAddr (D := 5) Try.underlying54 rfl sz52 (by decide) rfl rfl) ?_
    refine TL_p (PV_load Try.underlying52 rfl rfl (Rd.at 1 rfl rfl)) ?_
    refine TL_p (PV_bin rfl rfl bin_eql) ?_
    refine TL_p (PV_assign rfl) ?_
    refine TL_nil ?_
    refine T_else rfl (by exact decide_eq_false (by omega)) ?_
    refine T_seq ?_
    refine T_region ?_
    refine TL_p (PV_move rfl) ?_
    refine TL_p (PV_bin rfl rfl bin_eql) ?_
    refine TL_p (PV_assign rfl) ?_
    refine TL_nil ?_
    refine T_else rfl (by exact decide_eq_false (by omega)) ?_
    refine T_seq ?_
    refine T_region ?_
    refine TL_p (PV_move rfl) ?_
    refine TL_p (PV_bin rfl rfl bin_eql) ?_
    refine TL_p (PV_assign rfl) ?_
    refine TL_nil ?_
    refine T_else rfl (by exact decide_eq_false (by omega)) ?_
    refine T_skip ?_
    refine T_seq ?_
    refine T_region ?_
    refine TL_p (PV_assign rfl) ?_
    refine TL_nil ?_
    refine T_ret ?_
    refine ret_ret (ResV_one rfl rfl) ⟨_, List.Sublist.refl _, ⟨_, _, rfl, ?sd3q323_0, rfl⟩⟩
    case sd3q323_0 => decide
    try simp only [decide_eq_true_eq, decide_eq_false_iff_not, beq_iff_eq, beq_eq_false_iff_ne, bne_iff_ne, bne_eq_false_iff_eq, ne_eq, Bool.not_eq_true', Bool.not_eq_false', Bool.not_not, Bool.not_true, Bool.not_false, Bool.and_eq_true, Bool.or_eq_true, Bool.and_eq_false_iff, Bool.or_eq_false_iff, Int.not_lt, Int.not_le, gt_iff_lt, ge_iff_le] at c1
    refine TL_no (b := false) rfl rfl (gfalse (by with_reducible assumption)) rfl ?_
    refine TL_no (b := false) rfl rfl (gfalse (by with_reducible assumption)) rfl ?_
    refine TL_p (PV_pickF rfl (by first | assumption | rfl | (simp; done) | (simp; omega) | (simp [*]; done) | (simp [*]; omega)) rfl rfl) ?_
    refine TL_p (PV_assign rfl) ?_
    refine TL_nil ?_
    refine T_seq ?_
    refine T_region ?_
    refine TL_p (PV_move rfl) ?_
    refine TL_p (PV_move rfl) ?_
    refine TL_p (PV_bin rfl rfl bin_eql) ?_
    refine TL_p (PV_nilCheck rfl) ?_
    refine TL_p (PV_fieldAddr (D := 9) Try.underlying54 rfl sz4 (by decide) rfl rfl) ?_
    refine TL_cons rfl (TO_store1 1 rfl rfl rfl sz4 rfl rfl rfl (by first | exact Nat.le_of_ble_eq_true rfl | (simp; done) | (simp; omega) | omega) ?_)
    refine TL_nil ?_
    refine T_seq ?_
    refine T_block ?_
    refine T_seq ?_
    refine T_region ?_
    refine TL_p (PV_move rfl) ?_
    refine TL_p (PV_nilCheck rfl) ?_
    refine TL_p (PV_fieldAddr (D := 5) Try.underlying54 rfl sz52 (by decide) rfl rfl) ?_
    refine TL_p (PV_load Try.underlying52 rfl rfl (Rd.at 1 rfl rfl)) ?_
    refine TL_p (PV_bin rfl rfl bin_eql) ?_
    refine TL_p (PV_assign rfl) ?_
    refine TL_nil ?_
    refine T_else rfl (by exact decide_eq_false (by omega)) ?_
    refine T_seq ?_
    refine T_region ?_
    refine TL_p (PV_move rfl) ?_
    refine TL_p (PV_assign rfl) ?_
    refine TL_nil ?_
    refine T_else rfl (by rfl) ?_
    refine T_seq ?_
    refine T_region ?_
    refine TL_p (PV_move rfl) ?_
    refine TL_p (PV_nilCheck rfl) ?_
    refine TL_p (PV_fieldAddr (D := 5) Try.underlying54 rfl sz52 (by decide) rfl rfl) ?_
    refine TL_p (PV_load Try.underlying52 rfl rfl (Rd.at 1 rfl rfl)) ?_
    refine TL_p (PV_bin rfl rfl bin_eql) ?_
    refine TL_p (PV_move rfl) ?_
    refine TL_no (b := false) rfl rfl (gfalse (by exact decide_eq_false (by omega))) rfl ?_
    refine TL_no (b := false) rfl rfl (gfalse (by exact decide_eq_false (by omega))) rfl ?_
    refine TL_no (b := false) rfl rfl (gfalse (by exact decide_eq_false (by omega))) rfl ?_
    refine TL_noU rfl rfl rfl rfl ?_
    refine TL_noU rfl rfl rfl rfl ?_
    refine TL_noU rfl rfl rfl rfl ?_
    refine TL_noU rfl rfl rfl rfl ?_
    refine TL_noU rfl rfl rfl rfl ?_
    refine TL_noU rfl rfl rfl rfl ?_
    refine TL_noU rfl rfl rfl rfl ?_
    refine TL_noU rfl rfl rfl rfl ?_
    refine TL_no (b := false) rfl rfl (gfalse (by exact decide_eq_false (by omega))) rfl ?_
    refine TL_p (PV_pickF rfl (by first | assumption | rfl | (simp; done) | (simp; omega) | (simp [*]; done) | (simp [*]; omega)) rfl rfl) ?_
    refine TL_p (PV_assign rfl) ?_
    refine TL_nil ?_
    refine T_else rfl (by rfl) ?_
    refine T_seq ?_
    refine T_region ?_
    refine TL_p (PV_move rfl) ?_
    refine TL_p (PV_nilCheck rfl) ?_
    refine TL_p (PV_fieldAddr (D := 5) Try.underlying54 rfl sz52 (by decide) rfl rfl) ?_
    refine TL_p (PV_load Try.underlying52 rfl rfl (Rd.at 1 rfl rfl)) ?_
    refine TL_p (PV_bin rfl rfl bin_eql) ?_
    refine TL_p (PV_assign rfl) ?_
    refine TL_nil ?_
    refine T_else rfl (by exact decide_eq_false (by omega)) ?_
    refine T_seq ?_
    refine T_region ?_
    refine TL_p (PV_move rfl) ?_
    refine TL_p (PV_bin rfl rfl bin_eql) ?_
    refine TL_p (PV_assign rfl) ?_
    refine TL_nil ?_
    refine T_else rfl (by exact decide_eq_false (by omega)) ?_
    refine T_seq ?_
    refine T_region ?_
    refine TL_p (PV_move rfl) ?_
    refine TL_p (PV_bin rfl rfl bin_eql) ?_
    refine TL_p (PV_assign rfl) ?_
    refine TL_nil ?_
    refine T_else rfl (by exact decide_eq_false (by omega)) ?_
    refine T_skip ?_
    refine T_seq ?_
    refine T_region ?_
    refine TL_p (PV_assign rfl) ?_
    refine TL_nil ?_
    refine T_ret ?_
    refine ret_ret (ResV_one rfl rfl) ⟨_, List.Sublist.refl _, ⟨_, _, rfl, ?sd5q323_0, rfl⟩⟩
    case sd5q323_0 => decide
theorem t65 {g : Nat} {A : Option Addr} {c : Nat} (s : Sn) (hF : s.Fit) (hB : SBlk (WH w0 B X) A c s.qs) : TCall Try.prog w0 B 11 #[.pointer (some ⟨g, 0, none⟩)] (fun r H' => Gives s.tickOut (sC g A c s.tick) X r H') (sC g A c s :: X) := by
  have hlf := hF.lf
  unfold Sn.tick Sn.tickOut
  by_cases h3 : s.phase = 3
  · rw [if_pos h3, if_pos h3]
    refine TCall_intro (args := [_]) Try.func11 rfl Try.ntmps11 (Nat.le_of_ble_eq_true rfl) ?_
    refine T_addNil 1 ?_
    refine T_seq ?_
    refine T_region ?_
    refine TL_p (PV_assign rfl) ?_
    refine TL_nil ?_
    refine T_seq ?_
    refine T_seq ?_
    refine T_region ?_
    refine TL_p (PV_move rfl) ?_
    refine TL_p (PV_nilCheck rfl) ?_
    refine TL_p (PV_fieldAddr (D := 5) Try.underlying54 rfl sz52 (by decide) rfl rfl) ?_
    refine TL_p (PV_load Try.underlying52 rfl rfl (Rd.at 1 rfl rfl)) ?_
    refine TL_p (PV_bin rfl rfl bin_eql) ?_
    refine TL_nil ?_
    refine T_then rfl (by exact decide_eq_true (by omega)) ?_
    refine T_seq ?_
    refine T_region ?_
    refine TL_p (PV_assign rfl) ?_
    refine TL_nil ?_
    refine T_ret ?_
    refine ret_ret (ResV_one rfl rfl) ⟨_, List.Sublist.refl _, ⟨_, _, rfl, ?sd1q329_0, rfl⟩⟩
    case sd1q329_0 => decide
  rw [if_neg h3, if_neg h3]
  have hl : 1 ≤ s.left ∧ s.left ≤ 99 := hlf.resolve_left h3
  obtain ⟨hl1, hl2⟩ := hl
  by_cases h1 : s.left - 1 > 0
  · rw [if_pos h1, if_pos h1]
    refine TCall_intro (args := [_]) Try.func11 rfl Try.ntmps11 (Nat.le_of_ble_eq_true rfl) ?_
    refine T_addNil 1 ?_
    refine T_seq ?_
    refine T_region ?_
    refine TL_p (PV_assign rfl) ?_
    refine TL_nil ?_
    refine T_seq ?_
    refine T_seq ?_
    refine T_region ?_
    refine TL_p (PV_move rfl) ?_
    refine TL_p (PV_nilCheck rfl) ?_
    refine TL_p (PV_fieldAddr (D := 5) Try.underlying54 rfl sz52 (by decide) rfl rfl) ?_
    refine TL_p (PV_load Try.underlying52 rfl rfl (Rd.at 1 rfl rfl)) ?_
    refine TL_p (PV_bin rfl rfl bin_eql) ?_
    refine TL_nil ?_
    refine T_else rfl (by exact decide_eq_false (by omega)) ?_
    refine T_skip ?_
    refine T_seq ?_
    refine T_region ?_
    refine TL_p (PV_move rfl) ?_
    refine TL_p (PV_nilCheck rfl) ?_
    refine TL_p (PV_fieldAddr (D := 8) Try.underlying54 rfl sz3 (by decide) rfl rfl) ?_
    refine TL_p (PV_load Try.underlying3 rfl rfl (Rd.at 1 rfl rfl)) ?_
    refine TL_p (PV.cast (PV_bin rfl rfl bin_sub) (wr64 (by omega))) ?_
    refine TL_p (PV_nilCheck rfl) ?_
    refine TL_p (PV_fieldAddr (D := 8) Try.underlying54 rfl sz3 (by decide) rfl rfl) ?_
    refine TL_cons rfl (TO_store1 1 rfl rfl rfl sz3 rfl rfl rfl (by first | exact Nat.le_of_ble_eq_true rfl | (simp; done) | (simp; omega) | omega) ?_)
    refine TL_nil ?_
    refine T_seq ?_
    refine T_seq ?_
    refine T_region ?_
    refine TL_p (PV_move rfl) ?_
    refine TL_p (PV_nilCheck rfl) ?_
    refine TL_p (PV_fieldAddr (D := 8) Try.underlying54 rfl sz3 (by decide) rfl rfl) ?_
    refine TL_p (PV_load Try.underlying3 rfl rfl (Rd.at 1 rfl rfl)) ?_
    refine TL_p (PV_bin rfl rfl bin_gtr) ?_
    refine TL_nil ?_
    refine T_then rfl (by exact decide_eq_true (by omega)) ?_
    refine T_seq ?_
    refine T_region ?_
    refine TL_p (PV_assign rfl) ?_
    refine TL_nil ?_
    refine T_ret ?_
    refine ret_ret (ResV_one rfl rfl) ⟨_, List.Sublist.refl _, ⟨_, _, rfl, ?sd2q335_0, rfl⟩⟩
    case sd2q335_0 => decide
  · rw [if_neg h1, if_neg h1]
    have hle : s.left = 1 := by omega
    have hF4 := again_fit hF
    have hct := hF.ct1.2
    have htr := hF.tr.1
    refine TCall_intro (args := [_]) Try.func11 rfl Try.ntmps11 (Nat.le_of_ble_eq_true rfl) ?_
    refine T_seq ?_
    refine T_region ?_
    refine TL_p (PV_assign rfl) ?_
    refine TL_nil ?_
    refine T_seq ?_
    refine T_seq ?_
    refine T_region ?_
    refine TL_p (PV_move rfl) ?_
    refine TL_p (PV_nilCheck rfl) ?_
    refine TL_p (PV_fieldAddr (D := 5) Try.underlying54 rfl sz52 (by decide) rfl rfl) ?_
    refine TL_p (PV_load Try.underlying52 rfl rfl (Rd.at 0 rfl rfl)) ?_
    refine TL_p (PV_bin rfl rfl bin_eql) ?_
    refine TL_nil ?_
    refine T_else rfl (by exact decide_eq_false (by omega)) ?_
    refine T_skip ?_
    refine T_seq ?_
    refine T_region ?_
    refine TL_p (PV_move rfl) ?_
    refine TL_p (PV_nilCheck rfl) ?_
    refine TL_p (PV_fieldAddr (D := 8) Try.underlying54 rfl sz3 (by decide) rfl rfl) ?_
    refine TL_p (PV_load Try.underlying3 rfl rfl (Rd.at 0 rfl rfl)) ?_
    refine TL_p (PV.cast (PV_bin rfl rfl bin_sub) (wr64 (by omega))) ?_
    refine TL_p (PV_nilCheck rfl) ?_
    refine TL_p (PV_fieldAddr (D := 8) Try.underlying54 rfl sz3 (by decide) rfl rfl) ?_
    refine TL_cons rfl (TO_store1 0 rfl rfl rfl sz3 rfl rfl rfl (by first | exact Nat.le_of_ble_eq_true rfl | (simp; done) | (simp; omega) | omega) ?_)
    refine TL_nil ?_
    refine T_seq ?_
    refine T_seq ?_
    refine T_region ?_
    refine TL_p (PV_move rfl) ?_
    refine TL_p (PV_nilCheck rfl) ?_
    refine TL_p (PV_fieldAddr (D := 8) Try.underlying54 rfl sz3 (by decide) rfl rfl) ?_
    refine TL_p (PV_load Try.underlying3 rfl rfl (Rd.at 0 rfl rfl)) ?_
    refine TL_p (PV_bin rfl rfl bin_gtr) ?_
    refine TL_nil ?_
    refine T_else rfl (by exact decide_eq_false (by omega)) ?_
    refine T_skip ?_
    refine T_seq ?_
    refine T_region ?_
    refine TL_p (PV_move rfl) ?_
    refine TL_cons rfl (TO_call0 call19 rfl rfl (t92 (s := { s with left := s.left - 1 }) ?sd3q341_0 ?sd3q341_1 ?sd3q341_2 ?sd3q341_3) ?_)
    case sd3q341_0 => exact hF4
    case sd3q341_1 => exact hct
    case sd3q341_2 => exact htr
    case sd3q341_3 => exact hB
    rintro v21_4 H21_4 ⟨A_4, k_4, rfl, h_4_0, rfl⟩
    refine TL_p (PV_assign rfl) ?_
    refine TL_nil ?_
    refine T_ret ?_
    refine ret_ret (ResV_one rfl rfl) ⟨_, List.Sublist.refl _, ⟨_, _, rfl, ?sd5q341_0, rfl⟩⟩
    case sd5q341_0 => exact h_4_0
end
end Go.Proofs.Ytpfcpookdocikaa.SL
