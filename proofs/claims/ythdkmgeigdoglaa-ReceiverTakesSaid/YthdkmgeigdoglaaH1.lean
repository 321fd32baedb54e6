import Derived.Test.YthdkmgeigdoglaaH0
import Derived.Lib.SlBytesConst
/-
  The hand walks, first part: sums. No statement is proved here.
-/
namespace Go.Proofs.Ythdkmgeigdoglaa.H
open Go.RowKit Go.Proofs.YthdkmgeigdoglaaW.PrintWords Go.Proofs.YthdkmgeigdoglaaW.PrintLast Go.Proofs.YthdkmgeigdoglaaW.PrintMore
attribute [local go_sem] max2_int min2_int max_two min_two max_three min_three max_four min_four
set_option linter.unusedVariables false
set_option linter.unusedSimpArgs false
/-- what a call keeps: all but the blocks of S -/
structure Ch (S : Nat → Prop) (w w' : World) : Prop where
  os : w'.os = w.os
  tape : w'.tape = w.tape
  output : w'.output = w.output
  size : w.heap.size ≤ w'.heap.size
  block : ∀ k, k < w.heap.size → ¬ S k → w'.heap[k]? = w.heap[k]?
section
variable {S S2 : Nat → Prop} {w w1 w2 : World}
theorem Ch.refl (S : Nat → Prop) (w : World) : Ch S w w := ⟨rfl, rfl, rfl, Nat.le_refl _, fun _ _ _ => rfl⟩
theorem Ch.trans (h : Ch S w w1) (k : Ch S2 w1 w2) (hs : ∀ i, i < w.heap.size → S2 i → S i) : Ch S w w2 :=
  ⟨k.os.trans h.os, k.tape.trans h.tape, k.output.trans h.output, Nat.le_trans h.size k.size, fun i hi hn => (k.block i (Nat.lt_of_lt_of_le hi h.size) (fun h2 => hn (hs i hi h2))).trans (h.block i hi hn)⟩
theorem Ch.cell (h : Ch S w w1) {a : Addr} {v : Value} (hc : w.cell? a = some v) (hn : ¬ S a.block) : w1.cell? a = some v := by
  have := h.block a.block (World.block_lt_of_cell? w a hc) hn
  simpa [World.cell?, this] using hc
theorem Ch.drew (h : Ch S w w1) : Ch S w w1.drew := ⟨h.os, h.tape, h.output, h.size, h.block⟩
theorem Ch.drewN (h : Ch S w w1) (n : Nat) : Ch S w (w1.drewN n) := ⟨h.os, h.tape, h.output, h.size, h.block⟩
theorem Ch.below (h : Ch S w w1) (hb : Below w1.heap.size w1 w2) : Ch S w w2 :=
  ⟨hb.os.trans h.os, hb.tape.trans h.tape, hb.output.trans h.output, Nat.le_trans h.size hb.size, fun i hi hn => (hb.block i (Nat.lt_of_lt_of_le hi h.size)).trans (h.block i hi hn)⟩
theorem Ch.alloc (h : Ch S w w1) (o : Obj) : Ch S w (w1.alloc o) := h.below (below_alloc (Below.refl _ _) o)
theorem Ch.toBelow {B : Nat} (h : Ch S w w1) (hs : ∀ i, i < B → i < w.heap.size ∧ ¬ S i) : Below B w w1 := ⟨h.os, h.tape, h.output, h.size, fun i hi => h.block i (hs i hi).1 (hs i hi).2⟩
theorem Ch.setCell (h : Ch S w w1) {p : Addr} (hp : p.block < w.heap.size → S p.block) (u : Value) : Ch S w (w1.setCell p u) :=
  h.trans (S2 := fun k => k = p.block) ⟨rfl, rfl, rfl, by simp [World.setCell], fun i _ hn => Below.heap_setCell w1 p u i hn⟩ (fun i hi he => by subst he; exact hp hi)
end
def adl (p : Int × Int) (c : Int) : Int × Int := ((p.1 + c) % 65521, (p.2 + (p.1 + c) % 65521 + 1) % 65521)
def adler (p : Int × Int) (l : List Int) : Int × Int := l.foldl adl p
theorem adler_snoc (p : Int × Int) (l : List Int) (k : Nat) (hk : k < l.length) : adler p (l.take (k + 1)) = adl (adler p (l.take k)) (rd l k) := by
  rw [take_snoc_rd l k hk]
  unfold adler
  rw [List.foldl_append]
  rfl
theorem adl_range (p : Int × Int) (c : Int) : 0 ≤ (adl p c).1 ∧ (adl p c).1 < 65521 ∧ 0 ≤ (adl p c).2 ∧ (adl p c).2 < 65521 := by
  unfold adl; simp only; omega
theorem adler_range (p : Int × Int) (l : List Int) (h1 : 0 ≤ p.1) (h2 : p.1 < 65521) (h3 : 0 ≤ p.2) (h4 : p.2 < 65521) : 0 ≤ (adler p l).1 ∧ (adler p l).1 < 65521 ∧ 0 ≤ (adler p l).2 ∧ (adler p l).2 < 65521 := by
  induction l generalizing p with
  | nil => exact ⟨h1, h2, h3, h4⟩
  | cons c l ih =>
    obtain ⟨a, b, c, d⟩ := adl_range p c
    exact ih _ a b c d
set_option maxHeartbeats 1000000 in
theorem write_calls (g : Nat) (p1 p2 : Int) (A : Option Addr) (c : Nat) (l : List Int) (w : World)
    (hb : w.heap[g]? = some (.cells #[.int .u32 p1, .int .u32 p2] 43 (0, 0))) (hr : ReadsInt w .u8 A l.length l) (hA : ∀ ad, A = some ad → 0 < l.length → ad.block ≠ g)
    (hc : l.length ≤ c) (hu : U8s l) (h1 : 0 ≤ p1) (h2 : p1 < 65521) (h3 : 0 ≤ p2) (h4 : p2 < 65521) :
    Calls Try.prog 39 #[.pointer (some ⟨g, 0, none⟩), .slice A l.length c] w fun e w' => e = .returned (.tuple #[]) ∧
      w'.heap[g]? = some (.cells #[.int .u32 (adler (p1, p2) l).1, .int .u32 (adler (p1, p2) l).2] 43 (0, 0)) ∧ Ch (· = g) w w' := by
  have hl := hr.2.1
  have HR := Aside0.mk hr
  have HB := Aside0.mk hb
  have HA := Aside0.mk hA
  have HU := Aside0.mk hu
  clear hr hb hA hu
  go_enter Try.func39, Try.ntmps39
  go_wp2
  go_loopw [8] (fun i wr => ∃ k : Nat, k ≤ l.length ∧ i = .int .i64 k ∧ Aside0 (wr.heap[g]? = some (.cells #[.int .u32 (adler (p1, p2) (l.take k)).1, .int .u32 (adler (p1, p2) (l.take k)).2] 43 (0, 0))) ∧ Aside0 (Ch (· = g) w wr)) (fun i _ => l.length - (intOf i).toNat)
  case atStart => exact ⟨0, Nat.zero_le _, rfl, ⟨HB.out⟩, ⟨Ch.refl _ _⟩⟩
  case round =>
    obtain ⟨k, hk, rfl, HB1, HC1⟩ := hrel
    by_cases hlt : k < l.length
    · obtain ⟨ad, e0, hx⟩ := HR.out.at_ k (by omega) (by omega)
      have hne := HA.out ad e0 (by omega)
      cases e0
      have hu := HU.out.at_ k
      have hrng := adler_range (p1, p2) (l.take k) h1 h2 h3 h4
      have hx1 : wr.cell? (ad.add k) = some (.int .u8 (rd l k)) := HC1.out.cell hx (by rw [add_block]; exact hne)
      have hc0 := blk_cell HB1.out 0
      have hc1 := blk_cell HB1.out 1
      have hf0 := blk_frozen HB1.out 0
      have hf1 := blk_frozen HB1.out 1
      clear hx
      go_wp2
      have hB2 := blk_set HB1.out 0 (.int .u32 (((adler (p1, p2) (List.take k l)).fst + rd l ↑k) % 65521))
      have hC2 := HC1.out.setCell (p := ⟨g, 0, none⟩) (fun _ => rfl) (.int .u32 (((adler (p1, p2) (List.take k l)).fst + rd l ↑k) % 65521))
      clear hc0 hc1 hf0 hf1 hx1
      generalize wr.setCell { block := g, off := 0 } (.int .u32 (((adler (p1, p2) (List.take k l)).fst + rd l ↑k) % 65521)) = w2 at *
      have hc0 := blk_cell hB2 0
      have hc1 := blk_cell hB2 1
      have hf0 := blk_frozen hB2 0
      have hf1 := blk_frozen hB2 1
      simp at hc0 hc1
      have HB2 := Aside0.mk hB2
      have HC2 := Aside0.mk hC2
      clear hB2 hC2 HB1 HC1
      go_region
      go_wp2
      go_roundw
      case rel =>
        refine ⟨k + 1, by omega, by go_num, ⟨?_⟩, ⟨?_⟩⟩
        · have h := blk_drew (blk_set HB2.out 1 (.int .u32 (((adler (p1, p2) (List.take k l)).snd + ((adler (p1, p2) (List.take k l)).fst + rd l ↑k) % 65521 + 1) % 65521)))
          rw [adler_snoc _ _ _ hlt]
          exact h
        · exact (HC2.out.setCell (fun _ => rfl) _).drew
      case measure => simp [intOf]; omega
    · go_wp2
      go_end0
      have h : l.take k = l := List.take_of_length_le (by omega)
      have h1 := HB1.out
      rw [h] at h1
      exact ⟨rfl, h1, HC1.out⟩
theorem check_calls (A : Option Addr) (c : Nat) (l : List Int) (w : World) (hr : ReadsInt w .u8 A l.length l) (hc : l.length ≤ c) :
    Calls Try.prog 38 #[.slice A l.length c] w fun e w' => e = .returned (.int .u8 (sumI l)) ∧ Drawn0 w w' :=
  PBlockAny.sum_Check.calls (l.length + 1) A c l (sumI l) w (Kd.C_of_reads (d := (0 : Int)) (h1 := fun _ => rfl) hr) hc (check_f l hr.2.1 _ (by omega))
theorem crc_calls (A : Option Addr) (c : Nat) (l : List Int) (w : World) (hr : ReadsInt w .u8 A l.length l) (hc : l.length ≤ c) (hu : U8s l) :
    Calls Try.prog 43 #[.slice A l.length c] w fun e w' => e = .returned (.int .u16 (crcI l)) ∧ Drawn0 w w' :=
  PBlockAny.sum_Crc.calls (l.length + 10) A c l (crcI l) w (Kd.C_of_reads (d := (0 : Int)) (h1 := fun _ => rfl) hr) hc (crc_f l hr.2.1 hu _ (by omega))
theorem or_print (a b : Int) (h1 : 0 ≤ a) (h2 : a < 65521) (h3 : 0 ≤ b) (h4 : b < 65521) : Go.bits .or .u32 ((b * 65536) % 4294967296) a = b * 65536 + a := by
  rw [Int.emod_eq_of_lt (by omega) (by omega)]
  exact bits_join .u32 32 (by decide) (fun n h0 h1 => by rw [IntKind.wrap_u32]; omega) 16 _ _ (by omega) (by omega) (by omega) (by omega) (by omega) (by omega)
theorem reads_lit (w : World) (k : IntKind) (e : TypeId) (xs : List Int) (hm : xs.length ≤ 9223372036854775807) : ReadsInt (w.alloc (.cells (nums k xs).toArray e)) k (some ⟨w.heap.size, 0, none⟩) xs.length xs :=
  own_reads' (own_lit w 0 e k xs (Nat.zero_le _) hm)
theorem reads_mark (w : World) (k : IntKind) (e : TypeId) (xs : List Int) (hm : xs.length ≤ 9223372036854775807) (fr : Nat × Nat := (xs.length, xs.length + 1)) : ReadsInt (w.alloc (.cells (nums k xs).toArray e fr)) k (some ⟨w.heap.size, 0, none⟩) xs.length xs := by
  refine ⟨rfl, hm, fun _ => ⟨_, rfl, fun j hj => ?_⟩⟩
  rw [add_plain, World.cell?_alloc_mark]
  simp [nums, hj]
theorem reads_lit_lt (w : World) (o : Obj) (n : Nat) : ∀ ad, some (⟨w.heap.size, 0, none⟩ : Addr) = some ad → 0 < n → ad.block < (w.alloc o).heap.size := by
  rintro ad h _
  injection h with h
  subst h
  simp
def prI (l : List Int) : Int := (adler (0, 0) l).2 * 65536 + (adler (0, 0) l).1
set_option maxHeartbeats 1000000 in
theorem print_calls (A : Option Addr) (c : Nat) (l : List Int) (w : World) (hr : ReadsInt w .u8 A l.length l) (hA : ∀ ad, A = some ad → 0 < l.length → ad.block < w.heap.size) (hc : l.length ≤ c) (hu : U8s l) :
    Calls Try.prog 40 #[.slice A l.length c] w fun e w' => e = .returned (.int .u32 (prI l)) ∧ Below w.heap.size w w' := by
  have hl := hr.2.1
  have HR := Aside0.mk hr
  have HA := Aside0.mk hA
  have HU := Aside0.mk hu
  clear hr hA hu
  go_enter Try.func40, Try.ntmps40
  go_wp2_with fail
  have hR1 := (HR.out.allocS (.cells #[.int .u32 0, .int .u32 0] 43))
  refine (write_calls w.heap.size 0 0 A c l _ (blk_new _ _) hR1 (fun ad h1 h2 => by have := HA.out ad h1 h2; omega) hc HU.out (by omega) (by omega) (by omega) (by omega)).mono ?_
  rintro e w1 ⟨rfl, hb, hch⟩
  have HB := Aside0.mk hb
  have HC := Aside0.mk hch
  clear hb hch
  go_wp2_with fail
  refine (PSumPrint.sum_Printer_Sum.calls w.heap.size _ _ _ _ _ w w1 ⟨HB.out, Nat.le_refl _⟩ ?_ rfl).mono ?_
  · exact (below_alloc (Below.refl _ _) _).trans (HC.out.toBelow (fun i hi => ⟨by simp; omega, by omega⟩))
  rintro e w2 ⟨rfl, hI, hB, hK⟩
  go_wp2
  go_ret
  refine ⟨?_, hB⟩
  have hrg := adler_range (0, 0) l (by simp) (by simp) (by simp) (by simp)
  rw [or_print _ _ hrg.1 hrg.2.1 hrg.2.2.1 hrg.2.2.2]
  rfl
set_option maxHeartbeats 1000000 in
set_option maxRecDepth 100000 in
theorem awake01_calls (w : World) : Calls Try.prog 37 #[] w fun e w' => e = .returned (.bool true) ∧ Below w.heap.size w w' := by
  have kc := fun (w : World) (C : Array Value) (n c : Nat) => Lib.run_convert_bytes_const (P := Try.prog) w 23 5 C n c Try.underlying23 Try.underlying5
  go_enter Try.func37, Try.ntmps37
  go_wp2_with fail
  refine (check_calls _ 2 [200, 100] _ (reads_lit w .u8 5 [200, 100] (by decide)) (by decide)).mono ?_
  rw [show sumI [200, 100] = 44 from by decide]
  rintro e w1 ⟨rfl, hd⟩
  have HB := Aside0.mk ((below_alloc (Below.refl w.heap.size w) (.cells (nums .u8 [200, 100]).toArray 5)).trans (hd.below.mono (by simp)))
  have HL := Aside0.mk HB.out.size
  clear hd
  go_wp2_with fail
  refine (crc_calls _ 9 [49, 50, 51, 52, 53, 54, 55, 56, 57] _ (reads_mark w1 .u8 5 [49, 50, 51, 52, 53, 54, 55, 56, 57] (by decide)) (by decide) (by unfold U8s; decide)).mono ?_
  rw [show crcI [49, 50, 51, 52, 53, 54, 55, 56, 57] = 12739 from by decide]
  rintro e w2 ⟨rfl, hd⟩
  have HB2 := Aside0.mk (HB.out.trans ((below_alloc (Below.refl w1.heap.size w1) (.cells (nums .u8 [49, 50, 51, 52, 53, 54, 55, 56, 57]).toArray 5 (9, 10))).mono HL.out |>.trans (hd.below.mono (by have := HL.out; simp; omega))))
  clear hd HB
  go_wp2_with fail
  refine (print_calls _ 1 [97] _ (reads_mark w2 .u8 5 [97] (by decide)) (reads_lit_lt _ _ _) (by decide) (by unfold U8s; decide)).mono ?_
  rw [show prI [97] = 6422625 from by decide]
  rintro e w3 ⟨rfl, hd⟩
  have HB3 := Aside0.mk (HB2.out.trans ((below_alloc (Below.refl w2.heap.size w2) (.cells (nums .u8 [97]).toArray 5 (1, 2))).mono HB2.out.size |>.trans (hd.mono (by have := HB2.out.size; simp; omega))))
  clear hd HB2
  go_wp2
  go_ret
  exact ⟨rfl, HB3.out⟩
end Go.Proofs.Ythdkmgeigdoglaa.H
