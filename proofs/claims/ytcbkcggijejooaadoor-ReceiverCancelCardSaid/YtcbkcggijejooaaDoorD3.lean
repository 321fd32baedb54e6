import Derived.Test.YtcbkcggijejooaaDoorL4
import Derived.Test.YtcbkcggijejooaaDoorD2
/- ReceiverCancel: two that cancel. No statement is proved here. -/
set_option linter.unusedVariables false
set_option linter.unusedSimpArgs false
set_option maxRecDepth 100000
set_option maxHeartbeats 4000000
namespace Go.Proofs.YtcbkcggijejooaaDoor.SL
open Go Go.RowKit
section
variable {w0 : World} {B : Nat} {H X : List Chunk}
/-- a receiver that took k blocks of 128 -/
structure RInv (num : Int) (k : Nat) (r : Rc) : Prop where
  crc : r.crc = true
  close : r.close = true
  over : r.over = false
  buf : r.buf = []
  number : r.number = (num + (k : Nat)) % 256
  dat : r.dat.length = 128 * k
  blocks : r.blocks = (k : Int)
  wait : r.wait = 9
  tries : 0 ≤ r.tries ∧ r.tries ≤ 9
theorem RInv.next {num : Int} {k : Nat} {r : Rc} {d : List Int} (h : RInv num k r) (hd : d.length = 128) : RInv num (k + 1) (r.put (blockL 1 ((num + (k : Nat)) % 256) d true)) := by
  have h1 := (Rc.put_block (num := (num + (k : Nat)) % 256) (q := d) h.buf h.over h.close h.number.symm (by omega) (Or.inl hd)).1
  rw [h.crc, show leadOf d.length = 1 by rw [hd]; rfl] at h1
  rw [h1]
  exact ⟨rfl, h.close, h.over, rfl, by show (r.number + 1) % 256 = _; rw [h.number]; push_cast; omega, by show (r.dat ++ d).length = _; rw [List.length_append, h.dat, hd]; omega, by show r.blocks + 1 = _; rw [h.blocks]; push_cast; rfl, h.wait, h.tries⟩
def rA (r : Rc) : Rc := { r with left := r.wait, buf := [24] }
def rB (r : Rc) : Rc := { r with left := r.wait, buf := [24, 24], over := true, err := 9 }
theorem rput1 {num : Int} {k : Nat} {r : Rc} (h : RInv num k r) : r.put [24] = rA r ∧ r.putOut [24] = [] := by
  have hb := h.buf
  have ho := h.over
  constructor
  · unfold Rc.put rA
    rw [hb, List.nil_append, if_neg (by rw [ho]; simp), if_neg (fun q => by exact absurd (show (24 : Int) = 4 from q.1) (by decide)), if_neg (fun q => by exact absurd (show 1 > 1 from q.2.1) (by decide)), if_pos ⟨rfl, rfl⟩]
    unfold Rc.got
    rw [hb]
    rfl
  · unfold Rc.putOut
    rw [hb, List.nil_append, if_neg (by rw [ho]; simp), if_neg (fun q => by exact absurd (show (24 : Int) = 4 from q.1) (by decide)), if_neg (fun q => by exact absurd (show 1 > 1 from q.2.1) (by decide)), if_pos ⟨rfl, rfl⟩]
theorem rput2 {num : Int} {k : Nat} {r : Rc} (h : RInv num k r) : (rA r).put [24] = rB r ∧ (rA r).putOut [24] = [] := by
  have ho : (rA r).over = false := h.over
  constructor
  · unfold Rc.put
    rw [if_neg (by rw [ho]; simp), if_neg (fun q => by exact absurd (show (24 : Int) = 4 from q.1) (by decide)), if_pos ⟨rfl, (by show 2 > 1; decide), rfl⟩]
    rfl
  · unfold Rc.putOut
    rw [if_neg (by rw [ho]; simp), if_neg (fun q => by exact absurd (show (24 : Int) = 4 from q.1) (by decide)), if_pos ⟨rfl, (by show 2 > 1; decide), rfl⟩]
theorem rput3 {r : Rc} (b : List Int) : (rB r).put b = rB r ∧ (rB r).putOut b = [] := by
  constructor
  · unfold Rc.put
    exact if_pos (Or.inl rfl)
  · unfold Rc.putOut
    exact if_pos (Or.inl rfl)
theorem rtick3 {r : Rc} : (rB r).tick = rB r ∧ (rB r).tickOut = [] := by
  constructor
  · unfold Rc.tick
    exact if_pos rfl
  · unfold Rc.tickOut
    exact if_pos rfl
theorem t75s {g bc dc : Nat} {bA dA : Option Addr} (r r' : Rc) (out : List Int) {Ab : Option Addr} {cb : Nat} {b : Int} (e : r.put [b] = r' ∧ r.putOut [b] = out) (hx : Shows (WH w0 B X) Ab 1 1 (nums .u8 [b])) (hu : U8s (r.buf ++ [b])) (hlb : r.buf.length ≤ 1000) (hdl : r.dat.length ≤ 1000000000) (hk1 : 0 ≤ r.blocks) (hk2 : r.blocks ≤ 1000000) (hn1 : 0 ≤ r.number) (hn2 : r.number ≤ 255) :
    TCall Tryd.prog w0 B 21 #[.pointer (some ⟨g, 0, none⟩), .slice Ab 1 cb] (fun v H' => RGives g out r' X v H') (rcC g bA bc dA dc r :: byC bA bc r.buf :: byC dA dc r.dat :: X) := by
  have h := t75 (w0 := w0) (B := B) (X := X) (g := g) (bA := bA) (bc := bc) (dA := dA) (dc := dc) (cb := cb) r hx rfl hu (by omega) hdl hk1 hk2 hn1 hn2
  rw [e.1, e.2] at h
  exact h
theorem t78b {g bc dc : Nat} {bA dA : Option Addr} {r : Rc} : TCall Tryd.prog w0 B 17 #[.pointer (some ⟨g, 0, none⟩)] (fun v H' => v = .tuple #[.bool true, .iface 35 (.int .i64 9)] ∧ H' = rcC g bA bc dA dc (rB r) :: X) (rcC g bA bc dA dc (rB r) :: X) := by
  refine (t78 (w0 := w0) (B := B) (X := X) (g := g) (bA := bA) (bc := bc) (dA := dA) (dc := dc) (rB r)).mono fun v h' q => ⟨?_, q.2⟩
  rw [q.1]
  rfl
theorem t72b {g bc dc : Nat} {bA dA : Option Addr} {r : Rc} (hl : 0 ≤ r.wait ∧ r.wait ≤ 99) (ht : 0 ≤ r.tries ∧ r.tries ≤ 9) :
    TCall Tryd.prog w0 B 16 #[.pointer (some ⟨g, 0, none⟩)] (fun v H' => RGives g [] (rB r) X v H') (rcC g bA bc dA dc (rB r) :: byC bA bc (rB r).buf :: byC dA dc (rB r).dat :: X) := by
  have h1 := t72 (w0 := w0) (B := B) (X := X) (g := g) (bA := bA) (bc := bc) (dA := dA) (dc := dc) (rB r) hl.1 (by show r.wait ≤ 1000; omega) ht.1 (by show r.tries ≤ 1000; omega)
  rw [rtick3.1, rtick3.2] at h1
  exact h1
theorem t49o {num : Int} {A : Option Addr} {m c : Nat} {l bs : List Int} (crc : Bool) (hbs : blockL (leadOf m) num l crc = bs) (h : Shows (WH w0 B H) A m 1 (nums .u8 l)) (hlm : l.length = m) (hm : m = 128 ∨ m = 1024) (hc : m ≤ c) (hu : U8s l) (hn : 0 ≤ num ∧ num ≤ 255) : TCall Tryd.prog w0 B 19 #[.agg #[.int .u8 num, .slice A m c], .bool crc] (fun r H' => ∃ (A : Option Addr) (c' : Nat), r = .tuple #[.slice A bs.length c', .bool true] ∧ bs.length ≤ c' ∧ H' = .sl (.slice A bs.length c') 1 bs.length (nums .u8 bs) :: H) H := by
  subst hbs
  exact t49 crc h hlm hm hc hu hn
theorem t48o {A : Option Addr} {m c : Nat} {l d : List Int} (hd : dataL l false = d) (h : Shows (WH w0 B H) A m 1 (nums .u8 l)) (hlm : l.length = m) (hm : m ≤ 9223372036854775807) (hc : m ≤ c) (hu : U8s l) : TCall Tryd.prog w0 B 20 #[.slice A m c, .bool false] (fun r H' => ∃ (A : Option Addr) (c : Nat), r = .slice A 128 c ∧ 128 ≤ c ∧ H' = .sl (.slice A 128 c) 1 128 (nums .u8 d) :: H) H := by
  subst hd
  exact t48 false h hlm hm hc hu
theorem trailL_u8' (l : List Int) (crc : Bool) : U8s (trailL l crc) := by
  have h1 := crcI_range l
  have h2 := sumI_range l
  intro x hx
  unfold trailL at hx
  split at hx
  · simp at hx; rcases hx with rfl | rfl <;> omega
  · simp at hx; subst hx; exact h2
theorem blockL_u8' {lead num : Int} {l : List Int} {crc : Bool} (h1 : 0 ≤ lead ∧ lead ≤ 255) (h2 : 0 ≤ num ∧ num ≤ 255) (hu : U8s l) : U8s (blockL lead num l crc) := by
  unfold blockL
  refine U8s.append (U8s.append (fun x hx => ?_) hu) (trailL_u8' l crc)
  simp only [List.mem_cons, List.not_mem_nil, or_false] at hx
  rcases hx with rfl | rfl | rfl <;> omega
theorem U8s_24 : U8s [24] := U8s.one (by decide) (by decide)
theorem U8s_rA {r : Rc} : U8s ((rA r).buf ++ [24]) := U8s.append U8s_24 U8s_24
theorem U8s_rB {r : Rc} : U8s ((rB r).buf ++ [4]) := U8s.append (U8s.append U8s_24 U8s_24) (U8s.one (by decide) (by decide))
theorem t75a {g bc dc : Nat} {bA dA : Option Addr} {r : Rc} {num : Int} {k : Nat} (hi : RInv num k r) (hk : k ≤ 5) {Ab : Option Addr} {cb : Nat} (hx : Shows (WH w0 B X) Ab 1 1 (nums .u8 [24])) :
    TCall Tryd.prog w0 B 21 #[.pointer (some ⟨g, 0, none⟩), .slice Ab 1 cb] (fun v H' => RGives g [] (rA r) X v H') (rcC g bA bc dA dc r :: byC bA bc r.buf :: byC dA dc r.dat :: X) :=
  t75s r (rA r) [] (rput1 hi) hx (by rw [hi.buf]; exact U8s_24) (by rw [hi.buf]; decide) (by rw [hi.dat]; omega) (by rw [hi.blocks]; omega) (by rw [hi.blocks]; omega) (by rw [hi.number]; omega) (by rw [hi.number]; omega)
theorem t75b {g bc dc : Nat} {bA dA : Option Addr} {r : Rc} {num : Int} {k : Nat} (hi : RInv num k r) (hk : k ≤ 5) {Ab : Option Addr} {cb : Nat} (hx : Shows (WH w0 B X) Ab 1 1 (nums .u8 [24])) :
    TCall Tryd.prog w0 B 21 #[.pointer (some ⟨g, 0, none⟩), .slice Ab 1 cb] (fun v H' => RGives g [] (rB r) X v H') (rcC g bA bc dA dc (rA r) :: byC bA bc (rA r).buf :: byC dA dc (rA r).dat :: X) :=
  t75s (rA r) (rB r) [] (rput2 hi) hx U8s_rA (by show 1 ≤ 1000; decide) (by show r.dat.length ≤ 1000000000; rw [hi.dat]; omega) (by show 0 ≤ r.blocks; rw [hi.blocks]; omega) (by show r.blocks ≤ 1000000; rw [hi.blocks]; omega) (by show 0 ≤ r.number; rw [hi.number]; omega) (by show r.number ≤ 255; rw [hi.number]; omega)
theorem t75c {g bc dc : Nat} {bA dA : Option Addr} {r : Rc} {num : Int} {k : Nat} (hi : RInv num k r) (hk : k ≤ 5) {Ab : Option Addr} {cb : Nat} (hx : Shows (WH w0 B X) Ab 1 1 (nums .u8 [4])) :
    TCall Tryd.prog w0 B 21 #[.pointer (some ⟨g, 0, none⟩), .slice Ab 1 cb] (fun v H' => RGives g [] (rB r) X v H') (rcC g bA bc dA dc (rB r) :: byC bA bc (rB r).buf :: byC dA dc (rB r).dat :: X) :=
  t75s (rB r) (rB r) [] (rput3 [4]) hx U8s_rB (by show 2 ≤ 1000; decide) (by show r.dat.length ≤ 1000000000; rw [hi.dat]; omega) (by show 0 ≤ r.blocks; rw [hi.blocks]; omega) (by show r.blocks ≤ 1000000; rw [hi.blocks]; omega) (by show 0 ≤ r.number; rw [hi.number]; omega) (by show r.number ≤ 255; rw [hi.number]; omega)
theorem t77b {g bc dc : Nat} {bA dA : Option Addr} {r : Rc} {num : Int} {k : Nat} (hi : RInv num k r) (hk : k ≤ 5) : TCall Tryd.prog w0 B 18 #[.pointer (some ⟨g, 0, none⟩)] (fun v H' => ∃ (A : Option Addr) (c : Nat), v = .slice A (128 * k) c ∧ 128 * k ≤ c ∧ H' = byC A c r.dat :: rcC g bA bc dA dc (rB r) :: byC dA dc (rB r).dat :: X) (rcC g bA bc dA dc (rB r) :: byC dA dc (rB r).dat :: X) := by
  have h := t77 (w0 := w0) (B := B) (X := X) (g := g) (bA := bA) (bc := bc) (dA := dA) (dc := dc) (rB r) (by show r.dat.length ≤ _; rw [hi.dat]; omega)
  have e : (rB r).dat.length = 128 * k := hi.dat
  rw [e] at h
  exact h
theorem ReceiverCancel_t {A : Option Addr} {m c : Nat} {l : List Int} (a b : Int) (num : Int) (mn : Nat) (hL : Laid w0) (hB0 : 0 < B) (hS : Shows (WH w0 B H) A m 1 (nums .u8 l)) (hlm : l.length = m) (hl : m ≤ 9223372036854775807) (hc : m ≤ c) (hu : U8s l) (hmn : mn ≤ 255) (hnum : 0 ≤ num ∧ num ≤ 255) :
    TCall Tryd.prog w0 B 5 #[.agg #[.int .i64 a, .int .i64 b], .int .u8 num, .slice A m c, .int .u8 (mn : Int)] (fun r H' => r = .bool true ∧ H' = H) H := by
  obtain ⟨n, hn⟩ : ∃ n, mn % 5 = n := ⟨_, rfl⟩
  have hn5 : n < 5 := by omega
  have e26 : Value.int .u8 (Int.tmod (mn : Int) 5) = .int .u8 (n : Int) := by rw [← hn]; rfl
  have e27 : Value.int .i64 (IntKind.i64.wrap (n : Int)) = .int .i64 (n : Int) := wr64 (by omega)
  obtain ⟨d, hd⟩ : ∃ d, dataL l false = d := ⟨_, rfl⟩
  have hdl : d.length = 128 := by rw [← hd]; exact dataL_len l false
  have hdu : U8s d := by rw [← hd]; exact dataL_u8 l false
  have h0 : RInv num 0 (Rc.of a 9 num true true 1) := ⟨rfl, rfl, rfl, rfl, by show num = _; omega, rfl, rfl, by show max 1 (min 9 99) = (9 : Int); decide, by show 0 ≤ max 1 (min a 9) ∧ max 1 (min a 9) ≤ 9; omega⟩
  refine TCall_intro (args := [_, _, _, _]) Tryd.func5 rfl Tryd.ntmps5 (Nat.le_of_ble_eq_true rfl) ?_
  refine T_seq ?_
  refine T_region ?_
  refine TL_cons rfl (TO_box rfl rfl fun g1 => ?_)
  refine TL_pure (d := (some 8)) rfl rfl rfl (PV_assign rfl) ?_
  refine TL_nil ?_
  refine T_seq ?_
  refine T_seq ?_
  refine T_region ?_
  refine TL_cons rfl (TO_call0 call14 rfl rfl (awake11) ?_)
  rintro v18_4 H18_4 ⟨rfl, rfl⟩
  refine TL_pure (d := (some 19)) rfl rfl rfl (PV_not rfl) ?_
  refine TL_nil ?_
  refine T_else rfl (by rfl) ?_
  refine T_skip ?_
  refine T_seq ?_
  refine T_region ?_
  refine TL_pure (d := (some 20)) rfl rfl rfl (PV_fieldAddr (D := 0) Tryd.underlying23 rfl sz3 (by decide) rfl rfl) ?_
  refine TL_pure (d := (some 21)) rfl rfl rfl (PV_load Tryd.underlying3 rfl rfl (Rd.at 0 rfl rfl)) ?_
  refine TL_pure (d := (some 22)) rfl rfl rfl (PV_bld (cs := [_, _]) Tryd.underlying23 pl23 zr23 rfl rfl) ?_
  refine TL_pure (d := (some 23)) rfl rfl rfl (PV_move rfl) ?_
  refine TL_cons rfl (TO_call0 call15 rfl rfl (t69 _ _ _ _ _ _) ?_)
  rintro v24_7 H24_7 ⟨g_7, rfl, rfl⟩
  refine TL_pure (d := (some 9)) rfl rfl rfl (PV_assign rfl) ?_
  refine TL_nil ?_
  refine T_seq ?_
  refine T_region ?_
  refine TL_pure (d := (some 25)) rfl rfl rfl (PV_move rfl) ?_
  refine TL_pure (d := (some 26)) rfl rfl rfl (PV.cast (PV_bin rfl rfl (bin_rem (by decide))) e26) ?_
  refine TL_pure (d := (some 27)) rfl rfl rfl (PV.cast (PV_conv (by rw [Tryd.underlying5]; rfl) Tryd.underlying3 rfl) e27) ?_
  refine TL_pure (d := (some 10)) rfl rfl rfl (PV_assign rfl) ?_
  refine TL_nil ?_
  refine T_seq ?_
  refine T_seq ?_
  refine T_region ?_
  refine TL_pure (d := (some 11)) rfl rfl rfl (PV_assign rfl) ?_
  refine TL_nil ?_
  refine T_block ?_
  refine ?L1
  case L1 =>
    refine T_loopP6 (fun (k : Nat) (r : Rc) (bA : Option Addr) (bc : Nat) (dA : Option Addr) (dc : Nat) => k ≤ n ∧ RInv num k r) (fun k _ _ _ _ _ => n - k) (fun k _ _ _ _ _ => [(1, .int .u8 num), (2, .slice A m c), (8, .bool false), (9, .pointer (some ⟨g_7, 0, none⟩)), (10, .int .i64 (n : Int)), (11, .int .i64 (k : Int))]) (fun k r bA bc dA dc => rcC g_7 bA bc dA dc r :: byC bA bc r.buf :: byC dA dc r.dat :: .own g1 2 [.int .i64 a, .int .i64 b] :: H) 0 _ none 0 none 0 ⟨Nat.zero_le _, h0⟩ (by repeat (first | exact FrSub.nil _ | refine FrSub.cons rfl ?_)) (Has.of_sub (by repeat (first | exact List.Sublist.refl _ | exact List.sublist_append_right _ _ | exact List.sublist_append_left _ _ | apply List.Sublist.cons_cons | apply List.Sublist.cons | refine List.Sublist.trans ?_ (List.sublist_append_left _ _)))) ?_
    rintro k r bA bc dA dc ⟨hk, hi⟩
    obtain ⟨nk, hnk⟩ : ∃ nk, (num + (k : Nat)) % 256 = nk := ⟨_, rfl⟩
    have hnk2 : 0 ≤ nk ∧ nk ≤ 255 := by omega
    have e37 : Value.int .u8 (IntKind.u8.wrap (num + (k : Int))) = .int .u8 nk := by rw [IntKind.wrap_u8]; congr 1
    obtain ⟨bs, hbs⟩ : ∃ bs, blockL (leadOf 128) nk d true = bs := ⟨_, rfl⟩
    have hbl : bs.length = 133 := by rw [← hbs, blockL_len', hdl]; rfl
    have hbu : U8s bs := by rw [← hbs]; exact blockL_u8' (by decide) hnk2 hdu
    have hrb : r.buf.length = 0 := by rw [hi.buf]; rfl
    have hu2 : U8s (r.buf ++ bs) := by rw [hi.buf]; exact hbu
    have hrd := hi.dat
    have hrn := hi.number
    have hrk := hi.blocks
    have hrw := hi.wait
    have hrt := hi.tries
    by_cases hkn : k < n
    · have hin : RInv num (k + 1) (r.put bs) := by rw [← hbs, ← hnk]; exact hi.next hdl
      refine T_seq ?_
      refine T_seq ?_
      refine T_region ?_
      refine TL_pure (d := (some 28)) rfl rfl rfl (PV_move rfl) ?_
      refine TL_pure (d := (some 29)) rfl rfl rfl (PV_move rfl) ?_
      refine TL_pure (d := (some 30)) rfl rfl rfl (PV_bin rfl rfl bin_lss) ?_
      refine TL_nil ?_
      refine T_then rfl (by exact decide_eq_true (by omega)) ?_
      refine T_skip ?_
      refine T_seq ?_
      refine T_block ?_
      refine T_seq ?_
      refine T_region ?_
      refine TL_pure (d := (some 34)) rfl rfl rfl (PV_move rfl) ?_
      refine TL_pure (d := (some 35)) rfl rfl rfl (PV_move rfl) ?_
      refine TL_pure (d := (some 36)) rfl rfl rfl (PV.cast (PV_conv (by rw [Tryd.underlying3]; rfl) Tryd.underlying5 rfl) (wru8 (by omega))) ?_
      refine TL_pure (d := (some 37)) rfl rfl rfl (PV.cast (PV_bin rfl rfl bin_add) e37) ?_
      refine TL_pure (d := (some 38)) rfl rfl rfl (PV_move rfl) ?_
      refine TL_cons rfl (TO_call0 call20 rfl rfl (t48o (l := l) hd (Shows.mono hS (fun w h => h.sub (by (repeat (first | exact List.Sublist.refl _ | exact List.sublist_append_right _ _ | exact List.sublist_append_left _ _ | apply List.Sublist.cons | refine List.Sublist.trans ?_ (List.sublist_append_left _ _))); done))) ?sd102q144_1 ?sd102q144_2 ?sd102q144_3 ?sd102q144_4) ?_)
      case sd102q144_1 => omega
      case sd102q144_2 => exact hl
      case sd102q144_3 => exact hc
      case sd102q144_4 => exact hu
      rintro v39_103 H39_103 ⟨A_103, c_103, rfl, h_103_0, rfl⟩
      refine TL_pure (d := (some 40)) rfl rfl rfl (PV_bld (cs := [_, _]) Tryd.underlying46 pl46 zr46 rfl rfl) ?_
      refine TL_cons rfl (TO_call0 call19 rfl rfl (t49o (l := d) (num := nk) true hbs (Shows.at 0 rfl) ?sd105q144_1 ?sd105q144_2 ?sd105q144_3 ?sd105q144_4 ?sd105q144_5) ?_)
      case sd105q144_1 => omega
      case sd105q144_2 => omega
      case sd105q144_3 => exact h_103_0
      case sd105q144_4 => exact hdu
      case sd105q144_5 => omega
      rintro v41_106 H41_106 ⟨A_106, c'_106, rfl, h_106_0, rfl⟩
      refine TL_pure (d := (some 33)) rfl rfl rfl (PV_move rfl) ?_
      refine TL_pure (d := (some 42)) rfl rfl rfl (PV_extract rfl rfl) ?_
      refine TL_pure (d := (some 43)) rfl rfl rfl (PV_extract rfl rfl) ?_
      refine TL_pure (d := (some 12)) rfl rfl rfl (PV_assign rfl) ?_
      refine TL_pure (d := (some 13)) rfl rfl rfl (PV_assign rfl) ?_
      refine TL_nil ?_
      refine T_region ?_
      refine TL_pure (d := (some 44)) rfl rfl rfl (PV_move rfl) ?_
      refine TL_pure (d := (some 45)) rfl rfl rfl (PV_move rfl) ?_
      refine TL_perm ((perm_pick (i := 2) rfl).trans (List.Perm.cons _ ((perm_pick (i := 2) rfl).trans (List.Perm.cons _ ((perm_pick (i := 2) rfl).trans (List.Perm.cons _ (List.Perm.refl _))))))) ?_
      refine TL_cons rfl (TO_call0 call21 rfl rfl (t75 r (bs := bs) (Shows.at 0 rfl) ?sd108q144_1 ?sd108q144_2 ?sd108q144_3 ?sd108q144_4 ?sd108q144_5 ?sd108q144_6 ?sd108q144_7 ?sd108q144_8) ?_)
      case sd108q144_1 => omega
      case sd108q144_2 => exact hu2
      case sd108q144_3 => omega
      case sd108q144_4 => omega
      case sd108q144_5 => omega
      case sd108q144_6 => omega
      case sd108q144_7 => omega
      case sd108q144_8 => omega
      rintro v46_109 H46_109 ⟨A_109, k_109, bA_109, bc_109, dA_109, dc_109, rfl, h_109_0, rfl⟩
      refine TL_nil ?_
      refine T_region ?_
      refine TL_pure (d := (some 31)) rfl rfl rfl (PV_move rfl) ?_
      refine TL_pure (d := (some 32)) rfl rfl rfl (PV.cast (PV_bin rfl rfl bin_add) (wr64 (by omega))) ?_
      refine TL_pure (d := (some 11)) rfl rfl rfl (PV_assign rfl) ?_
      refine TL_nil ?_
      refine ?L2
      all_goals (exact ⟨k + 1, _, _, _, _, _, ⟨by omega, hin⟩, by omega, (by repeat (first | exact FrSub.nil _ | refine FrSub.cons rfl ?_)), Has.of_sub (by repeat (first | exact List.Sublist.refl _ | exact List.sublist_append_right _ _ | exact List.sublist_append_left _ _ | apply List.Sublist.cons_cons | apply List.Sublist.cons | refine List.Sublist.trans ?_ (List.sublist_append_left _ _)))⟩)
    · obtain rfl : k = n := by omega
      have e79 : Value.int .i64 (IntKind.i64.wrap (128 * (k : Int))) = .int .i64 ((128 * k : Nat) : Int) := by
        rw [show (128 : Int) * (k : Int) = ((128 * k : Nat) : Int) by push_cast; rfl]
        exact wr64 (by omega)
      have hk5 : k ≤ 5 := by omega
      have hw9 : 0 ≤ r.wait ∧ r.wait ≤ 99 := by omega
      refine T_seq ?_
      refine T_seq ?_
      refine T_region ?_
      refine TL_pure (d := (some 28)) rfl rfl rfl (PV_move rfl) ?_
      refine TL_pure (d := (some 29)) rfl rfl rfl (PV_move rfl) ?_
      refine TL_pure (d := (some 30)) rfl rfl rfl (PV_bin rfl rfl bin_lss) ?_
      refine TL_nil ?_
      refine T_else rfl (by (simp; done)) ?_
      refine T_exit ?_
      refine T_seq ?_
      refine T_region ?_
      refine TL_pure (d := (some 47)) rfl rfl rfl (PV_move rfl) ?_
      refine TL_cons rfl (TO_bs (cs := [_]) Tryd.underlying24 zs5 (by decide) rfl rfl rfl rfl rfl rfl fun g201 => ?_)
      refine TL_perm ((perm_pick (i := 1) rfl).trans (List.Perm.cons _ ((perm_pick (i := 1) rfl).trans (List.Perm.cons _ ((perm_pick (i := 1) rfl).trans (List.Perm.cons _ (List.Perm.refl _))))))) ?_
      refine TL_cons rfl (TO_call0 call21 rfl rfl (t75a hi ?sd203q156_0 (Shows.at 0 rfl)) ?_)
      case sd203q156_0 => exact hk5
      rintro v49_204 H49_204 ⟨A_204, k_204, bA_204, bc_204, dA_204, dc_204, rfl, h_204_0, rfl⟩
      refine TL_pure (d := (some 14)) rfl rfl rfl (PV_assign rfl) ?_
      refine TL_nil ?_
      refine T_seq ?_
      refine T_region ?_
      refine TL_pure (d := (some 50)) rfl rfl rfl (PV_move rfl) ?_
      refine TL_cons rfl (TO_bs (cs := [_]) Tryd.underlying24 zs5 (by decide) rfl rfl rfl rfl rfl rfl fun g205 => ?_)
      refine TL_perm ((perm_pick (i := 2) rfl).trans (List.Perm.cons _ ((perm_pick (i := 2) rfl).trans (List.Perm.cons _ ((perm_pick (i := 2) rfl).trans (List.Perm.cons _ (List.Perm.refl _))))))) ?_
      refine TL_cons rfl (TO_call0 call21 rfl rfl (t75b hi ?sd207q156_0 (Shows.at 0 rfl)) ?_)
      case sd207q156_0 => exact hk5
      rintro v52_208 H52_208 ⟨A_208, k_208, bA_208, bc_208, dA_208, dc_208, rfl, h_208_0, rfl⟩
      refine TL_pure (d := (some 15)) rfl rfl rfl (PV_assign rfl) ?_
      refine TL_nil ?_
      refine T_seq ?_
      refine T_region ?_
      refine TL_pure (d := (some 54)) rfl rfl rfl (PV_move rfl) ?_
      refine TL_perm ((perm_pick (i := 1) rfl).trans (List.Perm.cons _ (List.Perm.refl _))) ?_
      refine TL_cons rfl (TO_call0 call17 rfl rfl (t78b) ?_)
      rintro v55_211 H55_211 ⟨rfl, rfl⟩
      refine TL_pure (d := (some 53)) rfl rfl rfl (PV_move rfl) ?_
      refine TL_pure (d := (some 56)) rfl rfl rfl (PV_extract rfl rfl) ?_
      refine TL_pure (d := (some 57)) rfl rfl rfl (PV_extract rfl rfl) ?_
      refine TL_pure (d := (some 16)) rfl rfl rfl (PV_assign rfl) ?_
      refine TL_pure (d := (some 17)) rfl rfl rfl (PV_assign rfl) ?_
      refine TL_nil ?_
      refine T_seq ?_
      refine T_region ?_
      refine TL_pure (d := (some 58)) rfl rfl rfl (PV_move rfl) ?_
      refine TL_pure (d := (some 59)) rfl rfl rfl (PV_len_slice Tryd.underlying24 rfl) ?_
      refine TL_pure (d := (some 60)) rfl rfl rfl (PV_bin rfl rfl bin_eql) ?_
      refine TL_pure (d := (some 61)) rfl rfl rfl (PV_move rfl) ?_
      refine TL_yes rfl rfl rfl (TO_pure rfl (PV_move rfl) ?_)
      refine TL_yes rfl rfl rfl (TO_pure rfl (PV_len_slice Tryd.underlying24 rfl) ?_)
      refine TL_yes rfl rfl rfl (TO_pure rfl (PV_bin rfl rfl bin_eql) ?_)
      refine TL_pure (d := (some 65)) rfl rfl rfl (PV_pickAnd rfl rfl rfl) ?_
      refine TL_pure (d := (some 66)) rfl rfl rfl (PV_move rfl) ?_
      refine TL_yes rfl rfl rfl (TO_pure rfl (PV_move rfl) ?_)
      refine TL_pure (d := (some 68)) rfl rfl rfl (PV_pickAnd rfl rfl rfl) ?_
      refine TL_pure (d := (some 69)) rfl rfl rfl (PV_move rfl) ?_
      refine TL_yes rfl rfl rfl (TO_pure rfl (PV_move rfl) ?_)
      refine TL_yes rfl rfl rfl (TO_call0 call12 rfl rfl (number_t ?sd213q156_0 ?sd213q156_1 _) ?_)
      case sd213q156_0 => exact hL
      case sd213q156_1 => exact hB0
      rintro v71_214 H71_214 ⟨rfl, rfl⟩
      refine TL_yes rfl rfl rfl (TO_pure rfl (PV_bin rfl rfl bin_eql) ?_)
      refine TL_pure (d := (some 73)) rfl rfl rfl (PV_pickAnd rfl rfl rfl) ?_
      refine TL_pure (d := (some 74)) rfl rfl rfl (PV_move rfl) ?_
      refine TL_yes rfl rfl rfl (TO_pure rfl (PV_move rfl) ?_)
      refine TL_perm ((perm_pick (i := 0) rfl).trans (List.Perm.cons _ ((perm_pick (i := 2) rfl).trans (List.Perm.cons _ (List.Perm.refl _))))) ?_
      refine TL_yes rfl rfl rfl (TO_call0 call18 rfl rfl (t77b hi ?sd216q156_0) ?_)
      case sd216q156_0 => exact hk5
      rintro v76_217 H76_217 ⟨A_217, c_217, rfl, h_217_0, rfl⟩
      refine TL_yes rfl rfl rfl (TO_pure rfl (PV_len_slice Tryd.underlying24 rfl) ?_)
      refine TL_yes rfl rfl rfl (TO_pure rfl (PV_move rfl) ?_)
      refine TL_yes rfl rfl rfl (TO_pure rfl (PV.cast (PV_bin rfl rfl bin_mul) e79) ?_)
      refine TL_yes rfl rfl rfl (TO_pure rfl (PV_bin rfl rfl bin_eql) ?_)
      refine TL_pure (d := (some 81)) rfl rfl rfl (PV_pickAnd rfl rfl rfl) ?_
      refine TL_pure (d := (some 82)) rfl rfl rfl (PV_move rfl) ?_
      refine TL_yes rfl rfl (gtrue (by (simp; done))) (TO_pure rfl (PV_move rfl) ?_)
      refine TL_yes rfl rfl (gtrue (by (simp; done))) (TO_bs (cs := [_]) Tryd.underlying24 zs5 (by decide) rfl rfl rfl rfl rfl rfl fun g218 => ?_)
      refine TL_perm ((perm_pick (i := 2) rfl).trans (List.Perm.cons _ ((perm_pick (i := 4) rfl).trans (List.Perm.cons _ ((perm_pick (i := 2) rfl).trans (List.Perm.cons _ (List.Perm.refl _))))))) ?_
      refine TL_yes rfl rfl (gtrue (by (simp; done))) (TO_call0 call21 rfl rfl (t75c hi ?sd220q156_0 (Shows.at 0 rfl)) ?_)
      case sd220q156_0 => exact hk5
      rintro v85_221 H85_221 ⟨A_221, k_221, bA_221, bc_221, dA_221, dc_221, rfl, h_221_0, rfl⟩
      refine TL_yes rfl rfl (gtrue (by (simp; done))) (TO_pure rfl (PV_len_slice Tryd.underlying24 rfl) ?_)
      refine TL_yes rfl rfl (gtrue (by (simp; done))) (TO_pure rfl (PV_bin rfl rfl bin_eql) ?_)
      refine TL_pure (d := (some 88)) rfl rfl rfl (PV_pickAnd rfl rfl rfl) ?_
      refine TL_pure (d := (some 89)) rfl rfl rfl (PV_move rfl) ?_
      refine TL_yes rfl rfl (gtrue (by (simp; done))) (TO_pure rfl (PV_move rfl) ?_)
      refine TL_perm ((perm_pick (i := 1) rfl).trans (List.Perm.cons _ ((perm_pick (i := 1) rfl).trans (List.Perm.cons _ ((perm_pick (i := 1) rfl).trans (List.Perm.cons _ (List.Perm.refl _))))))) ?_
      refine TL_yes rfl rfl (gtrue (by (simp; done))) (TO_call0 call16 rfl rfl (t72b (r := r) ?sd223q156_0 ?sd223q156_1) ?_)
      case sd223q156_0 => omega
      case sd223q156_1 => omega
      rintro v91_224 H91_224 ⟨A_224, k_224, bA_224, bc_224, dA_224, dc_224, rfl, h_224_0, rfl⟩
      refine TL_yes rfl rfl (gtrue (by (simp; done))) (TO_pure rfl (PV_len_slice Tryd.underlying24 rfl) ?_)
      refine TL_yes rfl rfl (gtrue (by (simp; done))) (TO_pure rfl (PV_bin rfl rfl bin_eql) ?_)
      refine TL_pure (d := (some 94)) rfl rfl rfl (PV_pickAnd rfl rfl rfl) ?_
      refine TL_pure (d := (some 8)) rfl rfl rfl (PV_assign rfl) ?_
      refine TL_nil ?_
      refine T_ret ?_
      refine ret_ret (ResV_one rfl rfl) ⟨_, ?zb225q156, ⟨?L3, rfl⟩⟩
      case zb225q156 => exact (by (repeat (first | exact List.Sublist.refl _ | exact List.sublist_append_right _ _ | exact List.sublist_append_left _ _ | apply List.Sublist.cons_cons | apply List.Sublist.cons | refine List.Sublist.trans ?_ (List.sublist_append_left _ _))); done)
      case L3 => simp
end
end Go.Proofs.YtcbkcggijejooaaDoor.SL
