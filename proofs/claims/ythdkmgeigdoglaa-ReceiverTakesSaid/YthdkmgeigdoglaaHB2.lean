import Derived.Test.YthdkmgeigdoglaaHB

/- Blocks: Make. No statement is proved here. -/
namespace Go.Proofs.Ythdkmgeigdoglaa.Hand
open Go.RowKit Go.Proofs.YthdkmgeigdoglaaW.PrintWords Go.Proofs.YthdkmgeigdoglaaW.PrintLast Go.Proofs.YthdkmgeigdoglaaW.PrintMore H
attribute [local go_sem] max_two min_two max_three min_three max_four min_four
set_option linter.unusedVariables false
set_option linter.unusedSimpArgs false
def trailL (l : List Int) (crc : Bool) : List Int := if crc = true then [crcI l / 256, crcI l % 256] else [sumI l]
def blockL (lead num : Int) (l : List Int) (crc : Bool) : List Int := [lead, num, 255 - num] ++ l ++ trailL l crc
theorem trail_any (A : Option Addr) (m c : Nat) (l : List Int) (crc : Bool) (w : World) (hr : ReadsInt w .u8 A m l) (hc : m ≤ c) (hu : U8s l) :
    Calls Try.prog 88 #[.slice A m c, .bool crc] w fun e w' => ∃ v, e = .returned v ∧ Own w.heap.size w' v (trailL l crc).length (trailL l crc) ∧ Below w.heap.size w w' := by
  obtain rfl := hr.1
  have hcr := crcI_range l
  have h : PBlockAny.block_trailer.f (l.length + 10) l crc = some (trailL l crc) := by
    unfold PBlockAny.block_trailer.f trailL
    cases crc with
    | true =>
      rw [if_pos rfl, if_pos rfl, crc_f l hr.2.1 hu _ (by omega)]
      simp only [Option.bind_some]
      rw [Int.emod_eq_of_lt (by omega) (by omega)]
    | false =>
      rw [if_neg (by simp), if_neg (by simp), check_f l hr.2.1 _ (by omega)]
      rfl
  refine (PBlockAny.block_trailer.calls (l.length + 10) A c l crc (trailL l crc) w (Kd.C_of_reads (d := (0 : Int)) (h1 := fun _ => rfl) hr) hc h).mono ?_
  rintro e w' ⟨v, rfl, hR, hB⟩
  exact ⟨v, rfl, Own.of (Kd.own_of_R hR) rfl, hB⟩
theorem trailL_len (l : List Int) (crc : Bool) : (trailL l crc).length = if crc = true then 2 else 1 := by unfold trailL; split <;> rfl
def leadOf (m : Nat) : Int := if m = 1024 then 2 else 1
theorem nblk_alloc (w : World) (o : Obj) : (w.alloc o).heap.size = w.heap.size + 1 := by
  show (w.heap.push o).size = _
  simp
theorem own_below {w w' : World} {B e size n : Nat} {v : Value} {xs : List Value} (h : w.ownsRow B e size v n xs) (hb : Below w.heap.size w w') : w'.ownsRow B e size v n xs := by
  refine ⟨h.1, ?_⟩
  rcases h.2 with hn | ⟨g, cap, cur, rfl, hg, hgg, rest⟩
  · exact .inl hn
  · exact .inr ⟨g, cap, cur, rfl, hg, by rw [hb.block g (Array.getElem?_eq_some_iff.1 hgg).1]; exact hgg, rest⟩
theorem xor_max8_nat : ∀ k : Fin 256, bits .xor .u8 IntKind.u8.max ((k.val : Nat) : Int) = 255 - ((k.val : Nat) : Int) := by decide +kernel
theorem bits_xor_max8 (n : Int) (h : 0 ≤ n ∧ n ≤ 255) : bits .xor .u8 IntKind.u8.max n = 255 - n := by
  have h1 := xor_max8_nat ⟨n.toNat, by omega⟩
  simp only at h1
  rwa [Int.toNat_of_nonneg h.1] at h1
theorem make_own (W : World) (xs : List Int) (hb : xs.length ≤ 9223372036854775807) (o : List Value) (ho : o = nums .u8 xs) (n : Nat) (hn : n = xs.length) (base : Nat) (h : base ≤ W.heap.size) : (W.alloc (.cells o.toArray 5)).ownsRow base 5 1 (.slice (some ⟨W.heap.size, 0, none⟩) n n) xs.length (nums .u8 xs) := by
  subst ho hn
  exact own_lit W base 5 .u8 xs h hb
theorem trailL_le (l : List Int) (crc : Bool) : (trailL l crc).length ≤ 2 := by rw [trailL_len]; split <;> omega
theorem make_lit (w : World) (base : Nat) (o : Obj) (lead num : Int) (hn : 0 ≤ num ∧ num ≤ 255) (h : base ≤ w.heap.size) :
    ((w.alloc o).alloc (.cells #[.int .u8 lead, .int .u8 num, .int .u8 (bits .xor .u8 IntKind.u8.max num)] 5)).ownsRow base 5 1 (.slice (some ⟨w.heap.size + 1, 0, none⟩) 3 3) [lead, num, 255 - num].length (nums .u8 [lead, num, 255 - num]) := by
  rw [bits_xor_max8 num hn]
  have hs : (w.alloc o).heap.size = w.heap.size + 1 := nblk_alloc w o
  have h1 := own_lit (w.alloc o) base 5 .u8 [lead, num, 255 - num] (by omega) (by simp)
  rw [hs] at h1
  exact h1
theorem make_lt2 (w : World) (o o' : Obj) : (⟨w.heap.size, 1, none⟩ : Addr).block < ((w.alloc o).alloc o').heap.size := by
  rw [nblk_alloc, nblk_alloc]
  show w.heap.size < _
  omega
theorem make_ne (w : World) : some (⟨w.heap.size, 1, none⟩ : Addr).block ≠ (Value.slice (some ⟨w.heap.size + 1, 0, none⟩) 3 3).ownBlock := by
  show some w.heap.size ≠ some (w.heap.size + 1)
  simp
theorem make_cell (w : World) (num : Int) (v : Value) (o' : Obj) : ((w.alloc (.cells #[.int .u8 num, v] 58)).alloc o').cell? ⟨w.heap.size, 1, none⟩ = some v := by
  have h := blk_alloc (blk_new w (.cells #[.int .u8 num, v] 58)) o'
  unfold World.cell?
  rw [h]
  rfl
set_option maxHeartbeats 2000000 in
set_option maxRecDepth 100000 in
theorem make_128 (num : Int) (A : Option Addr) (c : Nat) (l : List Int) (crc : Bool) (w : World) (hr : ReadsInt w .u8 A 128 l) (hc : 128 ≤ c) (hu : U8s l) (hn : 0 ≤ num ∧ num ≤ 255) :
    Calls Try.prog 49 #[.agg #[.int .u8 num, .slice A 128 c], .bool crc] w fun e w' => ∃ v, e = .returned (.tuple #[v, .bool true]) ∧ Own w.heap.size w' v (blockL 1 num l crc).length (blockL 1 num l crc) ∧ Below w.heap.size w w' := by
  have hl := hr.1
  have HR := Aside0.mk hr
  have HU := Aside0.mk hu
  have HL := Aside0.mk hl
  have HT := Aside0.mk (trailL_le l crc)
  clear hr hu hl
  have H0 := Aside0.mk (make_lit w w.heap.size (.cells #[.int .u8 num, .slice A 128 c] 58) 1 num hn (Nat.le_refl _))
  have HB := Aside0.mk (below_alloc (below_alloc (Below.refl w.heap.size w) (.cells #[.int .u8 num, .slice A 128 c] 58)) (.cells #[.int .u8 1, .int .u8 num, .int .u8 (bits .xor .u8 IntKind.u8.max num)] 5))
  have HC := Aside0.mk (make_cell w num (.slice A 128 c) (.cells #[.int .u8 1, .int .u8 num, .int .u8 (bits .xor .u8 IntKind.u8.max num)] 5))
  go_enter Try.func49, Try.ntmps49
  go_wp2_with (at_builtin; refine app_bytes (w0 := w) w.heap.size rfl (.tmp 21) (.tmp 23) rfl _ [1, num, 255 - num] l A 128 c rfl rfl H0.out (HR.out.below HB.out) HB.out HB.out.size (by simp) ?_; intro v1 w1 ho hb hg he; have hc1 := (hg.cell_far ⟨w.heap.size, 1, none⟩ (make_lt2 _ _ _) (make_ne w)).trans HC.out; have HO := Aside0.mk ho; have HB1 := Aside0.mk hb; clear ho hb hg he HB H0 HC)
  refine (trail_any A 128 c l crc _ (HR.out.below HB1.out) hc HU.out).mono ?_
  rintro e w2 ⟨v2, rfl, ⟨A2, c2, rfl, hc2, ht2, ho2⟩, hb2⟩
  have HO1 := Aside0.mk (own_below HO.out hb2)
  have HB2 := Aside0.mk (below_then HB1.out HB1.out.size hb2)
  have HR2 := Aside0.mk (own_reads' ho2)
  clear HB1 HO hb2 ho2 hc1
  go_wp2_with (at_builtin; refine app_bytes (w0 := w) w.heap.size rfl (.tmp 25) (.tmp 29) rfl _ ([1, num, 255 - num] ++ l) (trailL l crc) A2 _ c2 rfl rfl HO1.out HR2.out HB2.out HB2.out.size (by have := HT.out; have := HL.out; simp only [List.length_append, List.length_cons, List.length_nil]; omega) ?_; intro v3 w3 ho hb hg he; have HO3 := Aside0.mk ho; have HB3 := Aside0.mk hb; clear ho hb hg he)
  go_ret2
  exact ⟨_, rfl, Own.of HO3.out rfl, HB3.out⟩
set_option maxHeartbeats 2000000 in
set_option maxRecDepth 100000 in
theorem make_1024 (num : Int) (A : Option Addr) (c : Nat) (l : List Int) (crc : Bool) (w : World) (hr : ReadsInt w .u8 A 1024 l) (hc : 1024 ≤ c) (hu : U8s l) (hn : 0 ≤ num ∧ num ≤ 255) :
    Calls Try.prog 49 #[.agg #[.int .u8 num, .slice A 1024 c], .bool crc] w fun e w' => ∃ v, e = .returned (.tuple #[v, .bool true]) ∧ Own w.heap.size w' v (blockL 2 num l crc).length (blockL 2 num l crc) ∧ Below w.heap.size w w' := by
  have hl := hr.1
  have HR := Aside0.mk hr
  have HU := Aside0.mk hu
  have HL := Aside0.mk hl
  have HT := Aside0.mk (trailL_le l crc)
  clear hr hu hl
  have H0 := Aside0.mk (make_lit w w.heap.size (.cells #[.int .u8 num, .slice A 1024 c] 58) 2 num hn (Nat.le_refl _))
  have HB := Aside0.mk (below_alloc (below_alloc (Below.refl w.heap.size w) (.cells #[.int .u8 num, .slice A 1024 c] 58)) (.cells #[.int .u8 2, .int .u8 num, .int .u8 (bits .xor .u8 IntKind.u8.max num)] 5))
  have HC := Aside0.mk (make_cell w num (.slice A 1024 c) (.cells #[.int .u8 2, .int .u8 num, .int .u8 (bits .xor .u8 IntKind.u8.max num)] 5))
  go_enter Try.func49, Try.ntmps49
  go_wp2_with (at_builtin; refine app_bytes (w0 := w) w.heap.size rfl (.tmp 21) (.tmp 23) rfl _ [2, num, 255 - num] l A 1024 c rfl rfl H0.out (HR.out.below HB.out) HB.out HB.out.size (by simp) ?_; intro v1 w1 ho hb hg he; have hc1 := (hg.cell_far ⟨w.heap.size, 1, none⟩ (make_lt2 _ _ _) (make_ne w)).trans HC.out; have HO := Aside0.mk ho; have HB1 := Aside0.mk hb; clear ho hb hg he HB H0 HC)
  refine (trail_any A 1024 c l crc _ (HR.out.below HB1.out) hc HU.out).mono ?_
  rintro e w2 ⟨v2, rfl, ⟨A2, c2, rfl, hc2, ht2, ho2⟩, hb2⟩
  have HO1 := Aside0.mk (own_below HO.out hb2)
  have HB2 := Aside0.mk (below_then HB1.out HB1.out.size hb2)
  have HR2 := Aside0.mk (own_reads' ho2)
  clear HB1 HO hb2 ho2 hc1
  go_wp2_with (at_builtin; refine app_bytes (w0 := w) w.heap.size rfl (.tmp 25) (.tmp 29) rfl _ ([2, num, 255 - num] ++ l) (trailL l crc) A2 _ c2 rfl rfl HO1.out HR2.out HB2.out HB2.out.size (by have := HT.out; have := HL.out; simp only [List.length_append, List.length_cons, List.length_nil]; omega) ?_; intro v3 w3 ho hb hg he; have HO3 := Aside0.mk ho; have HB3 := Aside0.mk hb; clear ho hb hg he)
  go_ret2
  exact ⟨_, rfl, Own.of HO3.out rfl, HB3.out⟩

end Go.Proofs.Ythdkmgeigdoglaa.Hand
