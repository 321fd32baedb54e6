import Derived.Test.YthdkmgeigdoglaaHS
/- The awake of layer 19; append of one byte. No statement is proved here. -/
namespace Go.Proofs.Ythdkmgeigdoglaa.Hand
open Go.RowKit Go.Proofs.YthdkmgeigdoglaaW.PrintWords Go.Proofs.YthdkmgeigdoglaaW.PrintLast Go.Proofs.YthdkmgeigdoglaaW.PrintMore H
attribute [local go_sem] max_two min_two max_three min_three max_four min_four
set_option linter.unusedVariables false
set_option linter.unusedSimpArgs false
def isZ8 : Value → Bool | .int .u8 n => n == 0 | _ => false
theorem isZ8_eq (v : Value) (h : isZ8 v = true) : v = .int .u8 0 := by
  unfold isZ8 at h
  split at h
  · have := beq_iff_eq.1 h
    subst this; rfl
  · cases h
theorem z28_size : Try.zeroCells28.toList.length = 16384 := by kernel_rfl
theorem z28_all : Try.zeroCells28.toList.all isZ8 = true := by kernel_rfl
theorem z28 : Try.zeroCells28 = (nums .u8 (List.replicate 16384 0)).toArray := by
  apply Array.ext'
  rw [List.toList_toArray]
  unfold nums
  rw [List.map_replicate]
  exact List.eq_replicate_iff.2 ⟨z28_size, fun b hb => isZ8_eq b (List.all_eq_true.1 z28_all b hb)⟩
def zer16 : List Int := List.replicate 16384 0
theorem zer16_len : zer16.length = 16384 := by unfold zer16; exact List.length_replicate
theorem zer16_u8 : U8s zer16 := fun x hx => by obtain ⟨_, rfl⟩ := List.mem_replicate.1 hx; omega
theorem stor_new (w : World) : Stor (w.alloc (.cells Try.zeroCells28 28)) w.heap.size zer16 := by
  refine ⟨?_, zer16_len⟩
  unfold zer16
  rw [← z28]
  exact blk_new _ _
theorem Stor.below_ {w w1 : World} {g : Nat} {bs : List Int} (h : Stor w g bs) (hb : Below w.heap.size w w1) : Stor w1 g bs := ⟨blk_below h.1 hb, h.2⟩
theorem Stor.alloc_ {w : World} {g : Nat} {bs : List Int} (h : Stor w g bs) (o : Obj) : Stor (w.alloc o) g bs := ⟨blk_alloc h.1 o, h.2⟩
theorem Stor.lt_ {w : World} {g : Nat} {bs : List Int} (h : Stor w g bs) : g < w.heap.size := blk_lt h.1
theorem below_ch {w w1 w2 : World} {g : Nat} (h : Below w.heap.size w w1) (hc : Ch (· = g) w1 w2) (hg : w.heap.size ≤ g) : Below w.heap.size w w2 :=
  h.trans (hc.toBelow (fun i hi => ⟨Nat.lt_of_lt_of_le hi h.size, by omega⟩))
/-- What was written is read. -/
theorem spl_read (bs : List Int) (q : Nat) (l : List Int) (h : q + l.length ≤ bs.length) : ((spl bs q l).drop q).take l.length = l := by
  unfold spl
  rw [List.append_assoc, List.drop_append_of_le_length (by simp; omega), List.drop_of_length_le (by simp; omega), List.nil_append, List.take_append_of_le_length (by omega), List.take_length]
set_option maxHeartbeats 2000000 in
set_option maxRecDepth 100000 in
theorem awake19_calls (w : World) : Calls Try.prog 33 #[] w fun e w' => e = .returned (.bool true) ∧ Below w.heap.size w w' := by
  go_enter Try.func33, Try.ntmps33
  go_wp2_with fail
  have HS0 := Aside0.mk ((stor_new w).alloc_ (.cells (nums .u8 [1, 2]).toArray 5))
  have HB0 := Aside0.mk (below_alloc (below_alloc (Below.refl w.heap.size w) (.cells Try.zeroCells28 28)) (.cells (nums .u8 [1, 2]).toArray 5))
  refine (store_write_no w.heap.size 16383 _ 2 2 _ (by omega) (by omega)).mono ?_
  rintro e w1 ⟨rfl, hd⟩
  have HS1 := Aside0.mk (HS0.out.below_ hd.below)
  have HB1 := Aside0.mk (below_then HB0.out HB0.out.size hd.below)
  clear hd HS0 HB0
  go_wp2_with fail
  have HS2 := Aside0.mk (HS1.out.alloc_ (.cells (nums .u8 [1, 2]).toArray 5))
  have HB2 := Aside0.mk (below_alloc HB1.out (.cells (nums .u8 [1, 2]).toArray 5))
  refine (store_write w.heap.size _ 16382 _ 2 2 [1, 2] _ HS2.out (reads_lit w1 .u8 5 [1, 2] (by decide)) (by omega) (by omega)).mono ?_
  rintro e w2 ⟨rfl, hs, hc⟩
  have HS3 := Aside0.mk hs
  have HB3 := Aside0.mk (below_ch HB2.out hc (Nat.le_refl _))
  clear hs hc HS1 HS2 HB1 HB2
  go_wp2_with fail
  refine (store_read w.heap.size _ 16382 2 w2 HS3.out (by omega)).mono ?_
  have e1 : ((spl zer16 16382 [1, 2]).drop 16382).take 2 = [1, 2] := spl_read zer16 16382 [1, 2] (by rw [zer16_len]; decide)
  rw [e1]
  rintro e w3 ⟨v, rfl, ⟨A, c, rfl, hlc, _, ho⟩, hb⟩
  have HB4 := Aside0.mk (below_then HB3.out HB3.out.size hb)
  have hcv := own_string (P := Try.prog) (src := 23) (dst := 9) (e := 5) Try.underlying23 Try.underlying5 Try.underlying9 ho
  have e2 : strOfNums [1, 2] = ⟨#[1, 2]⟩ := by decide
  rw [e2] at hcv
  clear ho hb e1 e2
  go_wp2
  go_ret
  exact ⟨rfl, HB4.out⟩
theorem spl_before (bs : List Int) (t : Nat) (l : List Int) (q n : Nat) (h : q + n ≤ t) (ht : t ≤ bs.length) : ((spl bs t l).drop q).take n = (bs.drop q).take n := by
  unfold spl
  rw [List.append_assoc, List.drop_append_of_le_length (by simp; omega), List.take_append_of_le_length (by simp; omega), List.drop_take, List.take_take, Nat.min_eq_left (by omega)]
theorem store_write_at (g : Nat) (bs : List Int) (d : Int) (q : Nat) (A : Option Addr) (m c : Nat) (l : List Int) (w : World) (hd : d = (q : Int))
    (hg : Stor w g bs) (hr : ReadsInt w .u8 A m l) (hc : m ≤ c) (h1 : q + m ≤ 16384) :
    Calls Try.prog 34 #[.pointer (some ⟨g, 0, none⟩), .int .i64 d, .slice A m c] w fun e w' => e = .returned (.bool true) ∧ Stor w' g (spl bs q l) ∧ Ch (· = g) w w' := by
  subst hd
  exact store_write g bs q A m c l w hg hr hc h1
theorem store_read_at (g : Nat) (bs : List Int) (d : Int) (q : Nat) (k : Int) (n : Nat) (w : World) (hd : d = (q : Int)) (hk : k = (n : Int)) (hg : Stor w g bs) (h1 : q + n ≤ 16384) :
    Calls Try.prog 35 #[.pointer (some ⟨g, 0, none⟩), .int .i64 d, .int .i64 k] w fun e w' => ∃ v, e = .returned (.tuple #[v, .bool true]) ∧ Own w.heap.size w' v n ((bs.drop q).take n) ∧ Below w.heap.size w w' := by
  subst hd hk
  exact store_read g bs q n w hg h1
theorem min_const (n k m : Nat) (h : m = min n k) : Builtin.min2 (.int .i64 (n : Int)) (.int .i64 (k : Int)) = pure (.int .i64 (m : Int)) := by
  rw [min2_int]; congr 2; split <;> omega
theorem Ch_reads {w w1 : World} {g : Nat} {k : IntKind} {A : Option Addr} {n : Nat} {xs : List Int} (hc : Ch (· = g) w w1) (h : ReadsInt w k A n xs) (hf : ∀ ad, A = some ad → 0 < n → ad.block ≠ g) : ReadsInt w1 k A n xs :=
  ⟨h.1, h.2.1, fun hn => by
    obtain ⟨ad, he, hcell⟩ := h.2.2 hn
    exact ⟨ad, he, fun j hj => hc.cell (hcell j hj) (by rw [add_block]; exact hf ad he hn)⟩⟩
/-- append(v, y) of a byte. -/
theorem app_one {ops : Array Oper} {rest : List Oper} {o : Oper} {a : Act} {Q : Exit → Act → World → Prop} {w0 W : World} (base : Nat) (hgd : o.guard = none) (s x : Operand)
    (ho : o.op = .call { callee := .builtin .append, args := #[s, x], argTypes := #[23, 23] })
    (v : Value) (xs : List Int) (y : Int) (hs : a.eval s = v) (hx : a.eval x = .slice (some ⟨W.heap.size, 0, none⟩) 1 1)
    (HO : W.ownsRow base 5 1 v xs.length (nums .u8 xs)) (HB : Below base w0 W) (hbase : base ≤ W.heap.size) (hl : xs.length + 1 ≤ 140737488355328)
    (h : ∀ v1 w1, w1.ownsRow base 5 1 v1 (xs ++ [y]).length (nums .u8 (xs ++ [y])) → Below base w0 w1 → W.grownBy w1 v.ownBlock → (v1.ownBlock = v.ownBlock ∨ ∃ b, v1.ownBlock = some b ∧ W.heap.size ≤ b) → wpList Try.prog ops Q rest (a.put o.dst v1) w1) :
    wpList Try.prog ops Q (o :: rest) a (W.alloc (.cells #[.int .u8 y] 5)) :=
  print_append_num base hgd s x 23 5 .u8 1 ho Try.underlying23 info5 (by decide) v xs y hs hx HO HB hbase (by omega) h
theorem own_ch {w w1 : World} {base : Nat} {e : TypeId} {size n g : Nat} {v : Value} {xs : List Value} (h : w.ownsRow base e size v n xs) (hc : Ch (· = g) w w1) (hne : some g ≠ v.ownBlock) : w1.ownsRow base e size v n xs :=
  own_move h fun k hk => hc.block k (own_lt h k hk) (fun he => hne (by rw [hk, he]))
theorem Stor.own_ne_ {w : World} {g base n size : Nat} {bs : List Int} {v : Value} {xs : List Value} (h : Stor w g bs) (ho : w.ownsRow base 5 size v n xs) : some g ≠ v.ownBlock := own_ne ho h.1 (by decide)
theorem Stor.grown_ {w w1 : World} {g : Nat} {bs : List Int} {row : Option Nat} (h : Stor w g bs) (hg : w.grownBy w1 row) (hne : some g ≠ row) : Stor w1 g bs := ⟨blk_grown h.1 hg hne, h.2⟩
theorem Stor.far_ {w : World} {g : Nat} {bs : List Int} (h : Stor w g bs) {p : Addr} (hne : g ≠ p.block) (u : Value) : Stor (w.setCell p u) g bs := ⟨blk_far h.1 hne u, h.2⟩
theorem str_size (xs : List Int) : (strOfNums xs).size = xs.length := by
  unfold strOfNums
  simp [ByteArray.size]
end Go.Proofs.Ythdkmgeigdoglaa.Hand
