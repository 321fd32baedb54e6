import Derived.Test.YthdkmgeigdoglaaH2
/- A byte that is turned: what the sums tell of it. Plain. No statement is proved here. -/
namespace Go.Proofs.Ythdkmgeigdoglaa.Hand
open Go.RowKit Go.Proofs.YthdkmgeigdoglaaW.PrintWords Go.Proofs.YthdkmgeigdoglaaW.PrintLast Go.Proofs.YthdkmgeigdoglaaW.PrintMore H
set_option linter.unusedVariables false
set_option linter.unusedSimpArgs false
theorem foldl_sum (l : List Int) (a : Int) (ha : 0 ≤ a) (hb : a < 256) : l.foldl (fun a x => (a + x) % 256) a = (a + l.sum) % 256 := by
  induction l generalizing a with
  | nil => simp; omega
  | cons x l ih =>
    simp only [List.foldl_cons, List.sum_cons]
    rw [ih _ (by omega) (by omega)]
    omega
theorem sumI_eq (l : List Int) : sumI l = l.sum % 256 := by
  unfold sumI
  rw [foldl_sum l 0 (by omega) (by omega), Int.zero_add]
theorem split_at (l : List Int) (k : Nat) (hk : k < l.length) : l = l.take k ++ rd l k :: l.drop (k + 1) := by
  have h : rd l k = l[k] := by simp [rd, List.getD_eq_getElem?_getD, hk]
  rw [h, List.getElem_cons_drop, List.take_append_drop]
theorem set_at (l : List Int) (k : Nat) (hk : k < l.length) (v : Int) : l.set k v = l.take k ++ v :: l.drop (k + 1) := by
  rw [List.set_eq_take_append_cons_drop, if_pos hk]
theorem ofInt8_inj (x y : Int) (hx : 0 ≤ x) (hx1 : x ≤ 255) (hy : 0 ≤ y) (hy1 : y ≤ 255) (h : BitVec.ofInt 8 x = BitVec.ofInt 8 y) : x = y := by
  have h1 := congrArg BitVec.toNat h
  simp [BitVec.toNat_ofInt] at h1
  omega
theorem ofInt_xor8 (x y : Int) : BitVec.ofInt 8 (Go.bits .xor .u8 x y) = BitVec.ofInt 8 x ^^^ BitVec.ofInt 8 y := by
  rw [xor8, ofInt_toNat]
theorem xor8_same (x y : Int) (hx : 0 ≤ x) (hx1 : x ≤ 255) (hy : 0 ≤ y) (hy1 : y ≤ 255) : Go.bits .xor .u8 x y = x ↔ y = 0 := by
  constructor
  · intro h
    have h1 := congrArg (BitVec.ofInt 8) h
    rw [ofInt_xor8] at h1
    have h2 : BitVec.ofInt 8 y = BitVec.ofInt 8 0 := by
      have h3 := congrArg (fun z => BitVec.ofInt 8 x ^^^ z) h1
      simp only [← BitVec.xor_assoc, BitVec.xor_self, BitVec.zero_xor] at h3
      rw [h3]
      decide
    exact ofInt8_inj _ _ hy hy1 (by omega) (by omega) h2
  · rintro rfl
    apply ofInt8_inj _ _ (xor8_range _ _).1 (xor8_range _ _).2 hx hx1
    rw [ofInt_xor8, show BitVec.ofInt 8 0 = 0#8 from by decide, BitVec.xor_zero]
/-- The CRC of bytes of which one is other. -/
theorem crcI_set (l : List Int) (k : Nat) (hk : k < l.length) (v : Int) (hu : U8s l) (h0 : 0 ≤ v) (h1 : v ≤ 255) : crcI l = crcI (l.set k v) ↔ v = rd l k := by
  have hr := hu.at_ k
  have e : crcI l = crcI (l.take k ++ rd l k :: l.drop (k + 1)) := by rw [← split_at l k hk]
  rw [e, set_at l k hk]
  unfold crcI bv
  simp only [List.map_append, List.map_cons]
  constructor
  · intro h
    have h2 : (Crc.crc 0#16 (List.map (fun x => BitVec.ofInt 8 x) (List.take k l) ++ BitVec.ofInt 8 (rd l k) :: List.map (fun x => BitVec.ofInt 8 x) (List.drop (k + 1) l))) = (Crc.crc 0#16 (List.map (fun x => BitVec.ofInt 8 x) (List.take k l) ++ BitVec.ofInt 8 v :: List.map (fun x => BitVec.ofInt 8 x) (List.drop (k + 1) l))) := BitVec.eq_of_toNat_eq (by omega)
    have h3 := (Crc.crc_byte _ _ _ _ _).1 h2
    exact (ofInt8_inj _ _ hr.1 hr.2 h0 h1 h3).symm
  · rintro rfl; rfl
/-- Their sum. -/
theorem sumI_set (l : List Int) (k : Nat) (hk : k < l.length) (v : Int) (hu : U8s l) (h0 : 0 ≤ v) (h1 : v ≤ 255) : sumI l = sumI (l.set k v) ↔ v = rd l k := by
  have hr := hu.at_ k
  have e : sumI l = sumI (l.take k ++ rd l k :: l.drop (k + 1)) := by rw [← split_at l k hk]
  rw [e, set_at l k hk, sumI_eq, sumI_eq]
  simp only [List.sum_append, List.sum_cons]
  omega
theorem U8s_set {l : List Int} (h : U8s l) (k : Nat) (v : Int) (h0 : 0 ≤ v) (h1 : v ≤ 255) : U8s (l.set k v) := fun x hx => by
  rcases List.mem_or_eq_of_mem_set hx with h2 | rfl
  · exact h x h2
  · exact ⟨h0, h1⟩
/-- append(v, ys...) of bytes. -/
theorem app_bytes {ops : Array Oper} {rest : List Oper} {o : Oper} {a : Act} {Q : Exit → Act → World → Prop} {w0 W : World} (base : Nat) (hgd : o.guard = none) (s x : Operand)
    (ho : o.op = .call { callee := .builtin .append, args := #[s, x], argTypes := #[23, 23] })
    (v : Value) (xs ys : List Int) (A : Option Addr) (m c : Nat) (hs : a.eval s = v) (hx : a.eval x = .slice A m c)
    (HO : W.ownsRow base 5 1 v xs.length (nums .u8 xs)) (HR : ReadsInt W .u8 A m ys) (HB : Below base w0 W) (hbase : base ≤ W.heap.size) (hl : xs.length + m ≤ 140737488355328)
    (h : ∀ v1 w1, w1.ownsRow base 5 1 v1 (xs ++ ys).length (nums .u8 (xs ++ ys)) → Below base w0 w1 → W.grownBy w1 v.ownBlock → (v1.ownBlock = v.ownBlock ∨ ∃ b, v1.ownBlock = some b ∧ W.heap.size ≤ b) → wpList Try.prog ops Q rest (a.put o.dst v1) w1) :
    wpList Try.prog ops Q (o :: rest) a W :=
  print_append_row base hgd s x 23 5 .u8 1 ho Try.underlying23 info5 (by decide) v xs ys A m c hs hx HO HR HB hbase (by omega) h
theorem crc_any (A : Option Addr) (m c : Nat) (l : List Int) (w : World) (hr : ReadsInt w .u8 A m l) (hc : m ≤ c) (hu : U8s l) :
    Calls Try.prog 43 #[.slice A m c] w fun e w' => e = .returned (.int .u16 (crcI l)) ∧ Drawn0 w w' := by
  obtain rfl := hr.1
  exact crc_calls A c l w hr hc hu
theorem check_any (A : Option Addr) (m c : Nat) (l : List Int) (w : World) (hr : ReadsInt w .u8 A m l) (hc : m ≤ c) :
    Calls Try.prog 38 #[.slice A m c] w fun e w' => e = .returned (.int .u8 (sumI l)) ∧ Drawn0 w w' := by
  obtain rfl := hr.1
  exact check_calls A c l w hr hc
end Go.Proofs.Ythdkmgeigdoglaa.Hand
