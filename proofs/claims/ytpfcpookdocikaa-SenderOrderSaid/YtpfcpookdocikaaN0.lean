import Derived.WalkKit
import Derived.SizedLaws
import Derived.ChangeSlices
import Derived.Laws.BytesArg
import Derived.Below
/- Words of bytes, sums and blocks: plain Lean. No statement is proved here. -/
set_option linter.unusedVariables false
set_option linter.unusedSimpArgs false
namespace Go.Proofs.Ytpfcpookdocikaa.SL
open Go Go.RowKit
namespace Crc
/-- one bit of the remainder -/
def bv1 (r : BitVec 16) : BitVec 16 := (r <<< 1) ^^^ (if r.msb then 0x1021#16 else 0#16)
theorem bv1_xor (a b : BitVec 16) : bv1 (a ^^^ b) = bv1 a ^^^ bv1 b := by
  unfold bv1
  have e : (if (a.msb ^^ b.msb) then 0x1021#16 else 0#16) = (if a.msb then 0x1021#16 else 0#16) ^^^ (if b.msb then 0x1021#16 else 0#16) := by
    cases a.msb <;> cases b.msb <;> decide
  rw [BitVec.shiftLeft_xor_distrib, BitVec.msb_xor, e]
  ac_rfl
theorem bv1_zero : bv1 0#16 = 0#16 := by decide
theorem bv1_inj0 (a : BitVec 16) (h : bv1 a = 0#16) : a = 0#16 := by
  unfold bv1 at h
  by_cases hm : a.msb = true
  · rw [if_pos hm] at h
    have h0 := congrArg (fun x : BitVec 16 => x.getLsbD 0) h
    simp at h0
  · rw [if_neg hm] at h
    apply BitVec.eq_of_toNat_eq
    have h1 := congrArg BitVec.toNat h
    simp [BitVec.toNat_shiftLeft, Nat.shiftLeft_eq] at h1
    have hlt := a.isLt
    have hms : ¬ 2 ^ 15 ≤ a.toNat := by simpa [BitVec.msb_eq_decide] using hm
    simp
    omega
def bvn : Nat → BitVec 16 → BitVec 16
  | 0, r => r
  | n + 1, r => bvn n (bv1 r)
theorem bvn_xor (n : Nat) (a b : BitVec 16) : bvn n (a ^^^ b) = bvn n a ^^^ bvn n b := by
  induction n generalizing a b with
  | zero => rfl
  | succ n ih => simp only [bvn]; rw [bv1_xor, ih]
theorem bvn_inj0 (n : Nat) (a : BitVec 16) (h : bvn n a = 0#16) : a = 0#16 := by
  induction n generalizing a with
  | zero => exact h
  | succ n ih => exact bv1_inj0 _ (ih _ h)
theorem bvn_zero (n : Nat) : bvn n 0#16 = 0#16 := by
  induction n with
  | zero => rfl
  | succ n ih => simp only [bvn]; rw [bv1_zero, ih]
/-- a byte in front -/
def put (r : BitVec 16) (c : BitVec 8) : BitVec 16 := bvn 8 (r ^^^ (c.setWidth 16 <<< 8))
def crc (r : BitVec 16) (l : List (BitVec 8)) : BitVec 16 := l.foldl put r
def zip (a b : List (BitVec 8)) : List (BitVec 8) := List.zipWith (· ^^^ ·) a b
theorem put_xor (r s : BitVec 16) (c d : BitVec 8) : put (r ^^^ s) (c ^^^ d) = put r c ^^^ put s d := by
  unfold put
  rw [← bvn_xor, BitVec.setWidth_xor, BitVec.shiftLeft_xor_distrib]
  congr 1
  ac_rfl
theorem crc_xor (a b : List (BitVec 8)) (h : a.length = b.length) (r s : BitVec 16) : crc (r ^^^ s) (zip a b) = crc r a ^^^ crc s b := by
  induction a generalizing b r s with
  | nil => cases b with
    | nil => rfl
    | cons _ _ => simp at h
  | cons c a ih => cases b with
    | nil => simp at h
    | cons d b =>
      simp only [crc, zip, List.zipWith_cons_cons, List.foldl_cons]
      rw [put_xor]
      exact ih b (by simpa using h) _ _
theorem put_inj (r s : BitVec 16) (c : BitVec 8) (h : put r c = put s c) : r = s := by
  have h2 := put_xor r s c c
  rw [h, BitVec.xor_self, BitVec.xor_self] at h2
  have h3 := bvn_inj0 _ _ h2
  simp at h3
  exact h3
theorem crc_inj (l : List (BitVec 8)) (r s : BitVec 16) (h : crc r l = crc s l) : r = s := by
  induction l generalizing r s with
  | nil => exact h
  | cons c l ih => exact put_inj _ _ c (ih _ _ h)
theorem put_inj_byte (r : BitVec 16) (c d : BitVec 8) (h : put r c = put r d) : c = d := by
  have h2 := put_xor r r c d
  rw [h, BitVec.xor_self, BitVec.xor_self] at h2
  have h3 := bvn_inj0 _ _ h2
  simp only [BitVec.zero_xor] at h3
  have h4 : c ^^^ d = 0#8 := by
    generalize c ^^^ d = e at *
    apply BitVec.eq_of_toNat_eq
    have h5 := congrArg BitVec.toNat h3
    simp [BitVec.toNat_shiftLeft, Nat.shiftLeft_eq] at h5
    have := e.isLt
    simp at this ⊢
    omega
  exact BitVec.xor_eq_zero_iff.1 h4
theorem crc_byte (p q : List (BitVec 8)) (r : BitVec 16) (c d : BitVec 8) : crc r (p ++ c :: q) = crc r (p ++ d :: q) ↔ c = d := by
  constructor
  · intro h
    simp only [crc, List.foldl_append, List.foldl_cons] at h
    exact put_inj_byte _ _ _ (crc_inj q _ _ h)
  · rintro rfl; rfl
end Crc
def rd (xs : List Int) (i : Int) : Int := xs.getD i.toNat 0
def nums (k : IntKind) (xs : List Int) : List Value := xs.map fun x => .int k x
theorem nums_length (k : IntKind) (xs : List Int) : (nums k xs).length = xs.length := by simp [nums]
theorem nums_app (k : IntKind) (xs ys : List Int) : nums k (xs ++ ys) = nums k xs ++ nums k ys := by simp [nums]
def ReadsInt (w : World) (k : IntKind) (A : Option Addr) (n : Nat) (xs : List Int) : Prop :=
  xs.length = n ∧ n ≤ 9223372036854775807 ∧ (0 < n → ∃ ad, A = some ad ∧ ∀ j, j < n → w.cell? (ad.add j) = some (.int k (xs.getD j 0)))
theorem ofRowC {k : IntKind} {w : World} {a : Option Addr} {len cap : Nat} {zs : List Int} (h : (a = none ∧ len = 0 ∧ cap = 0 ∧ zs = []) ∨ ∃ x, a = some x ∧ len ≤ cap ∧ cap ≤ maxLen ∧ zs.length = cap ∧ (∀ i, i < zs.length → w.cell? (x.add i) = some (.int k (zs.getD i 0))) ∧ ∀ n ∈ zs, (Lit.int k n).wf = true) :
    ∃ l : List Int, len = l.length ∧ ReadsInt w k a l.length l ∧ l.length ≤ maxLen ∧ (∀ x ∈ l, (Lit.int k x).wf = true) ∧ l.length ≤ cap := by
  rcases h with ⟨rfl, rfl, rfl, rfl⟩ | ⟨x, rfl, hl, hm, hz, hc, hw⟩
  · exact ⟨[], rfl, ⟨rfl, by simp, fun h => absurd h (by simp)⟩, Nat.zero_le _, fun x hx => by simp at hx, by simp⟩
  · have e : (zs.take len).length = len := by simp; omega
    have hm' : len ≤ maxLen := Nat.le_trans hl hm
    refine ⟨zs.take len, e.symm, ⟨rfl, by rw [e]; simpa [maxLen] using hm', fun _ => ⟨x, rfl, fun j hj => ?_⟩⟩, by rw [e]; exact hm', fun y hy => hw y (List.mem_of_mem_take hy), by rw [e]; exact hl⟩
    rw [e] at hj
    rw [hc j (by omega)]
    simp [List.getD, List.getElem?_take, hj]
theorem wrap_u16 (n : Int) : IntKind.u16.wrap n = n % 65536 := by simp [IntKind.wrap, IntKind.bits, IntKind.signed]
theorem ofInt_toNat {n : Nat} (a : BitVec n) : BitVec.ofInt n (a.toNat : Int) = a := by
  apply BitVec.eq_of_toNat_eq; simp
theorem xor16 (a b : BitVec 16) : Go.bits .xor .u16 (a.toNat : Int) (b.toNat : Int) = ((a ^^^ b).toNat : Int) := by
  unfold Go.bits
  show IntKind.u16.wrap ((BitVec.ofInt 16 (a.toNat : Int) ^^^ BitVec.ofInt 16 (b.toNat : Int)).toNat : Int) = _
  rw [ofInt_toNat, ofInt_toNat, wrap_u16]
  have := (a ^^^ b).isLt
  omega
theorem and16 (a b : BitVec 16) : Go.bits .and .u16 (a.toNat : Int) (b.toNat : Int) = ((a &&& b).toNat : Int) := by
  unfold Go.bits
  show IntKind.u16.wrap ((BitVec.ofInt 16 (a.toNat : Int) &&& BitVec.ofInt 16 (b.toNat : Int)).toNat : Int) = _
  rw [ofInt_toNat, ofInt_toNat, wrap_u16]
  have := (a &&& b).isLt
  omega
theorem shl16 (a : BitVec 16) : IntKind.u16.wrap ((a.toNat : Int) * 2) = ((a <<< 1).toNat : Int) := by
  rw [wrap_u16, BitVec.toNat_shiftLeft, Nat.shiftLeft_eq]
  omega
theorem top16 (a : BitVec 16) : ((a &&& 32768#16).toNat : Int) = 0 ↔ a.msb = false := by
  have h : (a &&& 32768#16) = if a.msb then 32768#16 else 0#16 := by
    apply BitVec.eq_of_getLsbD_eq
    intro i hi
    rw [BitVec.msb_eq_getLsbD_last]
    have e : (32768#16).getLsbD i = decide (i = 15) := by
      have : i = 0 ∨ i = 1 ∨ i = 2 ∨ i = 3 ∨ i = 4 ∨ i = 5 ∨ i = 6 ∨ i = 7 ∨ i = 8 ∨ i = 9 ∨ i = 10 ∨ i = 11 ∨ i = 12 ∨ i = 13 ∨ i = 14 ∨ i = 15 := by omega
      rcases this with rfl | rfl | rfl | rfl | rfl | rfl | rfl | rfl | rfl | rfl | rfl | rfl | rfl | rfl | rfl | rfl <;> decide
    rw [BitVec.getLsbD_and, e]
    by_cases hi15 : i = 15
    · subst hi15
      cases hb : a.getLsbD 15 <;> simp [hb, e]
    · cases hb : a.getLsbD (16 - 1) <;> simp [hi15, e]
  rw [h]
  cases a.msb <;> simp
/-- bytes as numbers -/
def U8s (l : List Int) : Prop := ∀ x ∈ l, 0 ≤ x ∧ x ≤ 255
theorem U8s.at_ {l : List Int} (h : U8s l) (i : Int) : 0 ≤ rd l i ∧ rd l i ≤ 255 := by
  unfold rd
  rw [List.getD_eq_getElem?_getD]
  by_cases hi : i.toNat < l.length
  · rw [List.getElem?_eq_getElem hi]; exact h _ (List.getElem_mem _)
  · rw [List.getElem?_eq_none (by omega)]; simp
theorem U8s.take {l : List Int} (h : U8s l) (n : Nat) : U8s (l.take n) := fun x hx => h x (List.mem_of_mem_take hx)
theorem U8s.drop {l : List Int} (h : U8s l) (n : Nat) : U8s (l.drop n) := fun x hx => h x (List.mem_of_mem_drop hx)
theorem U8s.append {l m : List Int} (h : U8s l) (k : U8s m) : U8s (l ++ m) := fun x hx => (List.mem_append.1 hx).elim (h x) (k x)
theorem U8s.nil : U8s [] := fun x hx => by simp at hx
theorem U8s.one {x : Int} (h0 : 0 ≤ x) (h1 : x ≤ 255) : U8s [x] := fun y hy => by rw [List.mem_singleton.1 hy]; exact ⟨h0, h1⟩
theorem U8s.of_wf {l : List Int} (h : ∀ x ∈ l, (Lit.int .u8 x).wf = true) : U8s l := fun x hx => by
  have := h x hx
  simp [Lit.wf, IntKind.min, IntKind.max, IntKind.signed, IntKind.bits] at this
  omega
def bv (l : List Int) : List (BitVec 8) := l.map fun x => BitVec.ofInt 8 x
def crcI (l : List Int) : Int := ((Crc.crc 0#16 (bv l)).toNat : Int)
def sumI (l : List Int) : Int := l.foldl (fun a x => (a + x) % 256) 0
theorem sumI_range (l : List Int) : 0 ≤ sumI l ∧ sumI l ≤ 255 := by
  unfold sumI
  rcases List.eq_nil_or_concat l with rfl | ⟨l', x, rfl⟩
  · simp
  · rw [List.concat_eq_append, List.foldl_append]; simp only [List.foldl_cons, List.foldl_nil]; omega
theorem crcI_range (l : List Int) : 0 ≤ crcI l ∧ crcI l ≤ 65535 := by
  unfold crcI
  have := (Crc.crc 0#16 (bv l)).isLt
  omega
theorem take_snoc_rd (l : List Int) (k : Nat) (hk : k < l.length) : l.take (k + 1) = l.take k ++ [rd l k] := by
  unfold rd
  rw [List.take_succ_eq_append_getElem hk]
  simp [List.getD_eq_getElem?_getD, hk]
theorem xor8 (x y : Int) : Go.bits .xor .u8 x y = (((BitVec.ofInt 8 x ^^^ BitVec.ofInt 8 y).toNat : Nat) : Int) := by
  unfold Go.bits
  show IntKind.u8.wrap ((BitVec.ofInt 8 x ^^^ BitVec.ofInt 8 y).toNat : Int) = _
  rw [IntKind.wrap_u8]
  have := (BitVec.ofInt 8 x ^^^ BitVec.ofInt 8 y).isLt
  omega
theorem xor8_range (x y : Int) : 0 ≤ Go.bits .xor .u8 x y ∧ Go.bits .xor .u8 x y ≤ 255 := by
  rw [xor8]
  have := (BitVec.ofInt 8 x ^^^ BitVec.ofInt 8 y).isLt
  omega
theorem foldl_sum (l : List Int) (a : Int) (ha : 0 ≤ a) (hb : a < 256) : l.foldl (fun a x => (a + x) % 256) a = (a + l.sum) % 256 := by
  induction l generalizing a with
  | nil => simp; omega
  | cons x l ih =>
    simp only [List.foldl_cons, List.sum_cons]
    rw [ih _ (by omega) (by omega)]
    omega
theorem sumI_eq (l : List Int) : sumI l = l.sum % 256 := by
  unfold sumI
  rw [foldl_sum l 0 (by omega) (by omega), Int.zero_add]
theorem split_at (l : List Int) (k : Nat) (hk : k < l.length) : l = l.take k ++ rd l k :: l.drop (k + 1) := by
  have h : rd l k = l[k] := by simp [rd, List.getD_eq_getElem?_getD, hk]
  rw [h, List.getElem_cons_drop, List.take_append_drop]
theorem set_at (l : List Int) (k : Nat) (hk : k < l.length) (v : Int) : l.set k v = l.take k ++ v :: l.drop (k + 1) := by
  rw [List.set_eq_take_append_cons_drop, if_pos hk]
theorem ofInt8_inj (x y : Int) (hx : 0 ≤ x) (hx1 : x ≤ 255) (hy : 0 ≤ y) (hy1 : y ≤ 255) (h : BitVec.ofInt 8 x = BitVec.ofInt 8 y) : x = y := by
  have h1 := congrArg BitVec.toNat h
  simp [BitVec.toNat_ofInt] at h1
  omega
theorem ofInt_xor8 (x y : Int) : BitVec.ofInt 8 (Go.bits .xor .u8 x y) = BitVec.ofInt 8 x ^^^ BitVec.ofInt 8 y := by
  rw [xor8, ofInt_toNat]
theorem xor8_same (x y : Int) (hx : 0 ≤ x) (hx1 : x ≤ 255) (hy : 0 ≤ y) (hy1 : y ≤ 255) : Go.bits .xor .u8 x y = x ↔ y = 0 := by
  constructor
  · intro h
    have h1 := congrArg (BitVec.ofInt 8) h
    rw [ofInt_xor8] at h1
    have h2 : BitVec.ofInt 8 y = BitVec.ofInt 8 0 := by
      have h3 := congrArg (fun z => BitVec.ofInt 8 x ^^^ z) h1
      simp only [← BitVec.xor_assoc, BitVec.xor_self, BitVec.zero_xor] at h3
      rw [h3]
      decide
    exact ofInt8_inj _ _ hy hy1 (by omega) (by omega) h2
  · rintro rfl
    apply ofInt8_inj _ _ (xor8_range _ _).1 (xor8_range _ _).2 hx hx1
    rw [ofInt_xor8, show BitVec.ofInt 8 0 = 0#8 from by decide, BitVec.xor_zero]
/-- The CRC of bytes of which one is other. -/
theorem crcI_set (l : List Int) (k : Nat) (hk : k < l.length) (v : Int) (hu : U8s l) (h0 : 0 ≤ v) (h1 : v ≤ 255) : crcI l = crcI (l.set k v) ↔ v = rd l k := by
  have hr := hu.at_ k
  have e : crcI l = crcI (l.take k ++ rd l k :: l.drop (k + 1)) := by rw [← split_at l k hk]
  rw [e, set_at l k hk]
  unfold crcI bv
  simp only [List.map_append, List.map_cons]
  constructor
  · intro h
    have h2 : (Crc.crc 0#16 (List.map (fun x => BitVec.ofInt 8 x) (List.take k l) ++ BitVec.ofInt 8 (rd l k) :: List.map (fun x => BitVec.ofInt 8 x) (List.drop (k + 1) l))) = (Crc.crc 0#16 (List.map (fun x => BitVec.ofInt 8 x) (List.take k l) ++ BitVec.ofInt 8 v :: List.map (fun x => BitVec.ofInt 8 x) (List.drop (k + 1) l))) := BitVec.eq_of_toNat_eq (by omega)
    have h3 := (Crc.crc_byte _ _ _ _ _).1 h2
    exact (ofInt8_inj _ _ hr.1 hr.2 h0 h1 h3).symm
  · rintro rfl; rfl
/-- Their sum. -/
theorem sumI_set (l : List Int) (k : Nat) (hk : k < l.length) (v : Int) (hu : U8s l) (h0 : 0 ≤ v) (h1 : v ≤ 255) : sumI l = sumI (l.set k v) ↔ v = rd l k := by
  have hr := hu.at_ k
  have e : sumI l = sumI (l.take k ++ rd l k :: l.drop (k + 1)) := by rw [← split_at l k hk]
  rw [e, set_at l k hk, sumI_eq, sumI_eq]
  simp only [List.sum_append, List.sum_cons]
  omega
theorem U8s_set {l : List Int} (h : U8s l) (k : Nat) (v : Int) (h0 : 0 ≤ v) (h1 : v ≤ 255) : U8s (l.set k v) := fun x hx => by
  rcases List.mem_or_eq_of_mem_set hx with h2 | rfl
  · exact h x h2
  · exact ⟨h0, h1⟩
def dataN (long : Bool) : Nat := if long then 1024 else 128
def dataAt (l : List Int) (k : Nat) : Int := if l.length = 0 then 0 else (rd l ((k % l.length : Nat) : Int) + ((k / l.length : Nat) : Int)) % 256
def dataL (l : List Int) (long : Bool) : List Int := (List.range (dataN long)).map (dataAt l)
def dataP (l : List Int) (n k : Nat) : List Int := ((List.range k).map (dataAt l)) ++ List.replicate (n - k) 0
theorem dataP_zero (l : List Int) (n : Nat) : dataP l n 0 = List.replicate n 0 := by simp [dataP]
theorem dataP_full (l : List Int) (n : Nat) : dataP l n n = (List.range n).map (dataAt l) := by simp [dataP]
theorem dataP_succ (l : List Int) (n k : Nat) (h : k < n) : (dataP l n k).set k (dataAt l k) = dataP l n (k + 1) := by
  unfold dataP
  rw [List.set_append_right _ _ (by simp), List.range_succ, List.map_append, List.append_assoc]
  congr 1
  obtain ⟨m, hm⟩ : ∃ m, n - k = m + 1 := ⟨n - k - 1, by omega⟩
  have hm2 : n - (k + 1) = m := by omega
  rw [hm, hm2]
  simp [List.replicate_succ]
theorem dataP_nil (l : List Int) (n k : Nat) (h : k < n) (hl : l.length = 0) : dataP l n (k + 1) = dataP l n k := by
  have h1 := dataP_succ l n k h
  rw [← h1]
  apply List.ext_getElem?
  intro i
  rw [List.getElem?_set]
  split
  · rename_i hi
    subst hi
    simp only [dataAt, if_pos hl]
    unfold dataP
    rw [List.getElem?_append_right (by simp)]
    simp only [List.length_map, List.length_range, Nat.sub_self, List.length_append, List.length_replicate]
    rw [List.getElem?_replicate, if_pos (by omega), if_pos (by omega)]
  · rfl
theorem dataL_len (l : List Int) (long : Bool) : (dataL l long).length = dataN long := by simp [dataL]
theorem dataAt_range (l : List Int) (k : Nat) : 0 ≤ dataAt l k ∧ dataAt l k ≤ 255 := by
  unfold dataAt
  split
  · omega
  · omega
theorem dataL_u8 (l : List Int) (long : Bool) : U8s (dataL l long) := by
  intro x hx
  obtain ⟨k, _, rfl⟩ := List.mem_map.1 hx
  exact dataAt_range l k
def trailL (l : List Int) (crc : Bool) : List Int := if crc = true then [crcI l / 256, crcI l % 256] else [sumI l]
def blockL (lead num : Int) (l : List Int) (crc : Bool) : List Int := [lead, num, 255 - num] ++ l ++ trailL l crc
theorem trailL_len (l : List Int) (crc : Bool) : (trailL l crc).length = if crc = true then 2 else 1 := by unfold trailL; split <;> rfl
def leadOf (m : Nat) : Int := if m = 1024 then 2 else 1
theorem xor_max8_nat : ∀ k : Fin 256, bits .xor .u8 IntKind.u8.max ((k.val : Nat) : Int) = 255 - ((k.val : Nat) : Int) := by decide +kernel
theorem bits_xor_max8 (n : Int) (h : 0 ≤ n ∧ n ≤ 255) : bits .xor .u8 IntKind.u8.max n = 255 - n := by
  have h1 := xor_max8_nat ⟨n.toNat, by omega⟩
  simp only at h1
  rwa [Int.toNat_of_nonneg h.1] at h1
theorem trailL_le (l : List Int) (crc : Bool) : (trailL l crc).length ≤ 2 := by rw [trailL_len]; split <;> omega
def sizeL (lead : Int) (crc : Bool) : Nat := if lead = 1 then (if crc = true then 133 else 132) else if lead = 2 then (if crc = true then 1029 else 1028) else 0
theorem str_len (xs : List Int) : (strOfNums xs).size = xs.length := by
  unfold strOfNums
  simp [ByteArray.size]
theorem str_app (xs ys : List Int) : strOfNums xs ++ strOfNums ys = strOfNums (xs ++ ys) := by
  apply ByteArray.ext
  rw [ByteArray.data_append]
  unfold strOfNums
  simp
end Go.Proofs.Ytpfcpookdocikaa.SL
