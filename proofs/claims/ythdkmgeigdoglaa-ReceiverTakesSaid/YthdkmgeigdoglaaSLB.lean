import Derived.Test.YthdkmgeigdoglaaSLF
import Derived.Test.YthdkmgeigdoglaaHB5
/- The contracts of blocks, told of pieces of memory. No statement is proved here. -/
namespace Go.Proofs.Ythdkmgeigdoglaa.SL
open Go Go.RowKit Go.Proofs.YthdkmgeigdoglaaW.PrintWords H Hand
set_option linter.unusedVariables false
section
variable {w0 : World} {B : Nat} {H : List Chunk}
theorem ok_of_row {w : World} {base e n : Nat} {v : Value} {xs : List Value} (h : w.ownsRow base e 1 v n xs) : (Chunk.sl v 1 n xs).Ok w ∧ ∀ k, (Chunk.sl v 1 n xs).blk = some k → base ≤ k := by
  refine ⟨⟨h.1, ?_⟩, fun k hk => ?_⟩
  · rcases h.2 with h2 | ⟨g, cap, cur, rfl, hb, hg, hn, _, hc, ht⟩
    · exact .inl h2
    · refine .inr ⟨g, cap, rfl, hn, cur.toList.drop (n * 1), e, (0, 0), ?_, ?_, .inr rfl⟩
      · rw [hg, ← ht, List.take_append_drop, Array.toArray_toList]
      · rw [← ht, ← List.length_append, List.take_append_drop, Array.length_toList, hc]
  · rcases h.2 with ⟨rfl, _⟩ | ⟨g, cap, cur, rfl, hb, _⟩
    · cases hk
    · cases hk; exact hb
/-- a call that makes a slice of bytes -/
theorem lift_own {f : FuncId} {args : Array Value} {k : Nat} {xs : List Int} {F : Value → Value} (h : ∀ w, WH w0 B H w → Calls Try.prog f args w fun e w' => ∃ v, e = .returned (F v) ∧ Own w.heap.size w' v k xs ∧ Below w.heap.size w w') :
    TCall Try.prog w0 B f args (fun r H' => ∃ A c, r = F (.slice A k c) ∧ k ≤ c ∧ H' = .sl (.slice A k c) 1 k (nums .u8 xs) :: H) H :=
  fun HX w hr => (h w ⟨HX, hr⟩).mono fun e w' ⟨v, he, ho, hb⟩ => by
    obtain ⟨A, c, rfl, hc, hl, how⟩ := ho
    obtain ⟨h1, h2⟩ := ok_of_row how
    exact ⟨_, _, he, ⟨_, _, rfl, hc, rfl⟩, hr.cons hb h1 h2⟩
/-- a call that gives plain values -/
theorem lift_val {f : FuncId} {args : Array Value} {v : Value} (h : ∀ w, WH w0 B H w → Calls Try.prog f args w fun e w' => e = .returned v ∧ Below w.heap.size w w') : TCall Try.prog w0 B f args (fun r H' => r = v ∧ H' = H) H :=
  fun HX w hr => (h w ⟨HX, hr⟩).mono fun e w' ⟨he, hb⟩ => ⟨_, _, he, ⟨rfl, rfl⟩, hr.grew hb⟩
theorem nums_one {k : IntKind} {xs : List Int} : ∀ u ∈ nums k xs, u.oneCell' = true := fun u hu => by
  obtain ⟨x, _, rfl⟩ := List.mem_map.1 hu
  rfl
@[simp] theorem nums_len (k : IntKind) (xs : List Int) : (nums k xs).length = xs.length := by simp [nums]
theorem nums_at {k : IntKind} {xs : List Int} (i : Nat) (hi : i < xs.length) : (nums k xs)[i]? = some (.int k (rd xs i)) := by
  simp [nums, rd, List.getElem?_eq_getElem hi, List.getD_eq_getElem?_getD]
theorem reads_of {W : World → Prop} {k : IntKind} {A : Option Addr} {m : Nat} {l : List Int} (h : Shows W A m 1 (nums k l)) (hm : m ≤ 9223372036854775807) {w : World} (hw : W w) : ReadsInt w k A m l := by
  have hl : l.length = m := by simpa [nums] using (h w hw).1
  refine ⟨hl, hm, fun h0 => ?_⟩
  obtain ⟨p, rfl, hc⟩ := h.run (by intro e; have := congrArg List.length e; simp [nums] at this; rw [this] at hl; simp at hl; omega) hw
  exact ⟨p, rfl, fun j hj => hc j _ (by simp [nums, List.getElem?_eq_getElem (show j < l.length by omega), List.getD_eq_getElem?_getD])⟩
/-- what was there when the law began -/
theorem shows_old {k : IntKind} {A : Option Addr} {m : Nat} {l : List Int} (h : ReadsInt w0 k A m l) (hb : ∀ p, A = some p → 0 < m → p.block < B) : Shows (WH w0 B H) A m 1 (nums k l) := fun w ⟨HX, hr⟩ => by
  refine ⟨by simp [nums, h.1], fun j v hj => ?_⟩
  have hj' : j < l.length := by have := (List.getElem?_eq_some_iff.1 hj).1; simpa [nums] using this
  obtain ⟨p, rfl, hc⟩ := h.2.2 (by have := h.1; omega)
  refine ⟨p, rfl, ?_⟩
  have h2 := hc j (by have := h.1; omega)
  have hbl : (p.add j).block = p.block := by unfold Addr.add; split <;> rfl
  rw [hr.old h2 (by rw [hbl]; exact hb p rfl (by have := h.1; omega))]
  simp [nums, List.getElem?_eq_getElem hj'] at hj
  rw [← hj, List.getD_eq_getElem?_getD, List.getElem?_eq_getElem hj']
  rfl
theorem shows_start {w : World} {H : List Chunk} {k : IntKind} {A : Option Addr} {m : Nat} {l : List Int} (h : ReadsInt w k A m l) : Shows (WH w w.heap.size H) A m 1 (nums k l) :=
  shows_old h fun p hp h0 => by
    obtain ⟨ad, e, hc⟩ := h.2.2 h0
    rw [hp] at e
    cases e
    have := World.block_lt_of_cell? w _ (hc 0 h0)
    simpa [Addr.add] using this
theorem t38 {A : Option Addr} {m c : Nat} {l : List Int} (h : Shows (WH w0 B H) A m 1 (nums .u8 l)) (hm : m ≤ 9223372036854775807) (hc : m ≤ c) : TCall Try.prog w0 B 38 #[.slice A m c] (fun r H' => r = .int .u8 (sumI l) ∧ H' = H) H :=
  lift_val fun w hw => (check_any A m c l w (reads_of h hm hw) hc).mono fun e w' ⟨he, hd⟩ => ⟨he, hd.below⟩
theorem t43 {A : Option Addr} {m c : Nat} {l : List Int} (h : Shows (WH w0 B H) A m 1 (nums .u8 l)) (hm : m ≤ 9223372036854775807) (hc : m ≤ c) (hu : U8s l) : TCall Try.prog w0 B 43 #[.slice A m c] (fun r H' => r = .int .u16 (crcI l) ∧ H' = H) H :=
  lift_val fun w hw => (crc_any A m c l w (reads_of h hm hw) hc hu).mono fun e w' ⟨he, hd⟩ => ⟨he, hd.below⟩
theorem t88 {A : Option Addr} {m c : Nat} {l : List Int} (crc : Bool) (h : Shows (WH w0 B H) A m 1 (nums .u8 l)) (hm : m ≤ 9223372036854775807) (hc : m ≤ c) (hu : U8s l) : TCall Try.prog w0 B 88 #[.slice A m c, .bool crc] (fun r H' => ∃ A c, r = .slice A (trailL l crc).length c ∧ (trailL l crc).length ≤ c ∧ H' = .sl (.slice A (trailL l crc).length c) 1 (trailL l crc).length (nums .u8 (trailL l crc)) :: H) H :=
  lift_own (F := id) fun w hw => trail_any A m c l crc w (reads_of h hm hw) hc hu
theorem t50 {num : Int} {A : Option Addr} {m c : Nat} {l : List Int} (crc : Bool) (h : Shows (WH w0 B H) A m 1 (nums .u8 l)) (hm : m ≤ 2000) (hc : m ≤ c) (hu : U8s l) (hn : 0 ≤ num ∧ num ≤ 255) : TCall Try.prog w0 B 50 #[.int .u8 num, .slice A m c, .bool crc] (fun r H' => r = .string (strOfNums (blockL (if m = 1024 then 2 else 1) num l crc)) ∧ H' = H) H :=
  lift_val fun w hw => made_any num A m c l crc w (reads_of h (by omega) hw) hc hm hu hn
theorem t48 {A : Option Addr} {m c : Nat} {l : List Int} (long : Bool) (h : Shows (WH w0 B H) A m 1 (nums .u8 l)) (hm : m ≤ 9223372036854775807) (hc : m ≤ c) (hu : U8s l) : TCall Try.prog w0 B 48 #[.slice A m c, .bool long] (fun r H' => ∃ A c, r = .slice A (dataN long) c ∧ dataN long ≤ c ∧ H' = .sl (.slice A (dataN long) c) 1 (dataN long) (nums .u8 (dataL l long)) :: H) H :=
  lift_own (F := id) fun w hw => data_any A m c l long w (reads_of h hm hw) hc hu
theorem t51 (lead : Int) (crc : Bool) : TCall Try.prog w0 B 51 #[.int .u8 lead, .bool crc] (fun r H' => r = .int .i64 ((sizeL lead crc : Nat) : Int) ∧ H' = H) H :=
  lift_val fun w hw => (PBlockAny.block_Size.calls lead crc _ w (size_f lead crc)).mono fun e w' ⟨he, hd⟩ => ⟨he, by obtain ⟨k, rfl⟩ := hd; exact pw_below_drewN (Below.refl _ _) k⟩
theorem t49 {num : Int} {A : Option Addr} {m c : Nat} {l : List Int} (crc : Bool) (h : Shows (WH w0 B H) A m 1 (nums .u8 l)) (hm : m = 128 ∨ m = 1024) (hc : m ≤ c) (hu : U8s l) (hn : 0 ≤ num ∧ num ≤ 255) : TCall Try.prog w0 B 49 #[.agg #[.int .u8 num, .slice A m c], .bool crc] (fun r H' => ∃ A c', r = .tuple #[.slice A (blockL (leadOf m) num l crc).length c', .bool true] ∧ (blockL (leadOf m) num l crc).length ≤ c' ∧ H' = .sl (.slice A (blockL (leadOf m) num l crc).length c') 1 (blockL (leadOf m) num l crc).length (nums .u8 (blockL (leadOf m) num l crc)) :: H) H := by
  rcases hm with rfl | rfl
  · exact lift_own (F := fun v => .tuple #[v, .bool true]) fun w hw => make_128 num A c l crc w (reads_of h (by omega) hw) hc hu hn
  · exact lift_own (F := fun v => .tuple #[v, .bool true]) fun w hw => make_1024 num A c l crc w (reads_of h (by omega) hw) hc hu hn
theorem t49no {num : Int} {A : Option Addr} {m c : Nat} (crc : Bool) (h1 : m ≠ 128) (h2 : m ≠ 1024) : TCall Try.prog w0 B 49 #[.agg #[.int .u8 num, .slice A m c], .bool crc] (fun r H' => r = .tuple #[.slice none 0 0, .bool false] ∧ H' = H) H :=
  lift_val fun w hw => make_no num A m c crc w h1 h2
end
end Go.Proofs.Ythdkmgeigdoglaa.SL
