import Derived.Test.YthdkmgeigdoglaaPBlockAnyx1
import Derived.Test.YthdkmgeigdoglaaPSumPrintx1
import Derived.Test.YthdkmgeigdoglaaPSumCrcx1
import Derived.Test.YthdkmgeigdoglaaPStorePrintx1
/-
  The plain side of the sums: what the printed functions come to. No statement is proved here.
-/
namespace Go.Proofs.Ythdkmgeigdoglaa
namespace Crc
/-- one bit of the remainder -/
def bv1 (r : BitVec 16) : BitVec 16 := (r <<< 1) ^^^ (if r.msb then 0x1021#16 else 0#16)
theorem bv1_xor (a b : BitVec 16) : bv1 (a ^^^ b) = bv1 a ^^^ bv1 b := by
  unfold bv1
  have e : (if (a.msb ^^ b.msb) then 0x1021#16 else 0#16) = (if a.msb then 0x1021#16 else 0#16) ^^^ (if b.msb then 0x1021#16 else 0#16) := by
    cases a.msb <;> cases b.msb <;> decide
  rw [BitVec.shiftLeft_xor_distrib, BitVec.msb_xor, e]
  ac_rfl
theorem bv1_zero : bv1 0#16 = 0#16 := by decide
theorem bv1_inj0 (a : BitVec 16) (h : bv1 a = 0#16) : a = 0#16 := by
  unfold bv1 at h
  by_cases hm : a.msb = true
  · rw [if_pos hm] at h
    have h0 := congrArg (fun x : BitVec 16 => x.getLsbD 0) h
    simp at h0
  · rw [if_neg hm] at h
    apply BitVec.eq_of_toNat_eq
    have h1 := congrArg BitVec.toNat h
    simp [BitVec.toNat_shiftLeft, Nat.shiftLeft_eq] at h1
    have hlt := a.isLt
    have hms : ¬ 2 ^ 15 ≤ a.toNat := by simpa [BitVec.msb_eq_decide] using hm
    simp
    omega
def bvn : Nat → BitVec 16 → BitVec 16
  | 0, r => r
  | n + 1, r => bvn n (bv1 r)
theorem bvn_xor (n : Nat) (a b : BitVec 16) : bvn n (a ^^^ b) = bvn n a ^^^ bvn n b := by
  induction n generalizing a b with
  | zero => rfl
  | succ n ih => simp only [bvn]; rw [bv1_xor, ih]
theorem bvn_inj0 (n : Nat) (a : BitVec 16) (h : bvn n a = 0#16) : a = 0#16 := by
  induction n generalizing a with
  | zero => exact h
  | succ n ih => exact bv1_inj0 _ (ih _ h)
theorem bvn_zero (n : Nat) : bvn n 0#16 = 0#16 := by
  induction n with
  | zero => rfl
  | succ n ih => simp only [bvn]; rw [bv1_zero, ih]
/-- a byte in front -/
def put (r : BitVec 16) (c : BitVec 8) : BitVec 16 := bvn 8 (r ^^^ (c.setWidth 16 <<< 8))
def crc (r : BitVec 16) (l : List (BitVec 8)) : BitVec 16 := l.foldl put r
def zip (a b : List (BitVec 8)) : List (BitVec 8) := List.zipWith (· ^^^ ·) a b
theorem put_xor (r s : BitVec 16) (c d : BitVec 8) : put (r ^^^ s) (c ^^^ d) = put r c ^^^ put s d := by
  unfold put
  rw [← bvn_xor, BitVec.setWidth_xor, BitVec.shiftLeft_xor_distrib]
  congr 1
  ac_rfl
theorem crc_xor (a b : List (BitVec 8)) (h : a.length = b.length) (r s : BitVec 16) : crc (r ^^^ s) (zip a b) = crc r a ^^^ crc s b := by
  induction a generalizing b r s with
  | nil => cases b with
    | nil => rfl
    | cons _ _ => simp at h
  | cons c a ih => cases b with
    | nil => simp at h
    | cons d b =>
      simp only [crc, zip, List.zipWith_cons_cons, List.foldl_cons]
      rw [put_xor]
      exact ih b (by simpa using h) _ _
theorem put_inj (r s : BitVec 16) (c : BitVec 8) (h : put r c = put s c) : r = s := by
  have h2 := put_xor r s c c
  rw [h, BitVec.xor_self, BitVec.xor_self] at h2
  have h3 := bvn_inj0 _ _ h2
  simp at h3
  exact h3
theorem crc_inj (l : List (BitVec 8)) (r s : BitVec 16) (h : crc r l = crc s l) : r = s := by
  induction l generalizing r s with
  | nil => exact h
  | cons c l ih => exact put_inj _ _ c (ih _ _ h)
theorem put_inj_byte (r : BitVec 16) (c d : BitVec 8) (h : put r c = put r d) : c = d := by
  have h2 := put_xor r r c d
  rw [h, BitVec.xor_self, BitVec.xor_self] at h2
  have h3 := bvn_inj0 _ _ h2
  simp only [BitVec.zero_xor] at h3
  have h4 : c ^^^ d = 0#8 := by
    generalize c ^^^ d = e at *
    apply BitVec.eq_of_toNat_eq
    have h5 := congrArg BitVec.toNat h3
    simp [BitVec.toNat_shiftLeft, Nat.shiftLeft_eq] at h5
    have := e.isLt
    simp at this ⊢
    omega
  exact BitVec.xor_eq_zero_iff.1 h4
theorem crc_byte (p q : List (BitVec 8)) (r : BitVec 16) (c d : BitVec 8) : crc r (p ++ c :: q) = crc r (p ++ d :: q) ↔ c = d := by
  constructor
  · intro h
    simp only [crc, List.foldl_append, List.foldl_cons] at h
    exact put_inj_byte _ _ _ (crc_inj q _ _ h)
  · rintro rfl; rfl
end Crc
namespace H
open Go.RowKit Go.Proofs.YthdkmgeigdoglaaW.PrintWords Go.Proofs.YthdkmgeigdoglaaW.PrintLast Go.Proofs.YthdkmgeigdoglaaW.PrintMore
set_option linter.unusedVariables false
set_option linter.unusedSimpArgs false
theorem wrap_u16 (n : Int) : IntKind.u16.wrap n = n % 65536 := by simp [IntKind.wrap, IntKind.bits, IntKind.signed]
theorem ofInt_toNat {n : Nat} (a : BitVec n) : BitVec.ofInt n (a.toNat : Int) = a := by
  apply BitVec.eq_of_toNat_eq; simp
theorem xor16 (a b : BitVec 16) : Go.bits .xor .u16 (a.toNat : Int) (b.toNat : Int) = ((a ^^^ b).toNat : Int) := by
  unfold Go.bits
  show IntKind.u16.wrap ((BitVec.ofInt 16 (a.toNat : Int) ^^^ BitVec.ofInt 16 (b.toNat : Int)).toNat : Int) = _
  rw [ofInt_toNat, ofInt_toNat, wrap_u16]
  have := (a ^^^ b).isLt
  omega
theorem and16 (a b : BitVec 16) : Go.bits .and .u16 (a.toNat : Int) (b.toNat : Int) = ((a &&& b).toNat : Int) := by
  unfold Go.bits
  show IntKind.u16.wrap ((BitVec.ofInt 16 (a.toNat : Int) &&& BitVec.ofInt 16 (b.toNat : Int)).toNat : Int) = _
  rw [ofInt_toNat, ofInt_toNat, wrap_u16]
  have := (a &&& b).isLt
  omega
theorem shl16 (a : BitVec 16) : IntKind.u16.wrap ((a.toNat : Int) * 2) = ((a <<< 1).toNat : Int) := by
  rw [wrap_u16, BitVec.toNat_shiftLeft, Nat.shiftLeft_eq]
  omega
theorem top16 (a : BitVec 16) : ((a &&& 32768#16).toNat : Int) = 0 ↔ a.msb = false := by
  have h : (a &&& 32768#16) = if a.msb then 32768#16 else 0#16 := by
    apply BitVec.eq_of_getLsbD_eq
    intro i hi
    rw [BitVec.msb_eq_getLsbD_last]
    have e : (32768#16).getLsbD i = decide (i = 15) := by
      have : i = 0 ∨ i = 1 ∨ i = 2 ∨ i = 3 ∨ i = 4 ∨ i = 5 ∨ i = 6 ∨ i = 7 ∨ i = 8 ∨ i = 9 ∨ i = 10 ∨ i = 11 ∨ i = 12 ∨ i = 13 ∨ i = 14 ∨ i = 15 := by omega
      rcases this with rfl | rfl | rfl | rfl | rfl | rfl | rfl | rfl | rfl | rfl | rfl | rfl | rfl | rfl | rfl | rfl <;> decide
    rw [BitVec.getLsbD_and, e]
    by_cases hi15 : i = 15
    · subst hi15
      cases hb : a.getLsbD 15 <;> simp [hb, e]
    · cases hb : a.getLsbD (16 - 1) <;> simp [hi15, e]
  rw [h]
  cases a.msb <;> simp
theorem step_loop (d : Nat) : ∀ (k i : Nat) (a : BitVec 16), i + d = 8 → d < k → PBlockAny.sum_step.l0 k (a.toNat : Int) (i : Int) = some ((Crc.bvn d a).toNat : Int) := by
  induction d with
  | zero =>
    intro k i a hi hk
    obtain ⟨k, rfl⟩ : ∃ m, k = m + 1 := ⟨k - 1, by omega⟩
    simp only [PBlockAny.sum_step.l0]
    rw [if_neg (by omega)]
    rfl
  | succ d ih =>
    intro k i a hi hk
    obtain ⟨k, rfl⟩ : ∃ m, k = m + 1 := ⟨k - 1, by omega⟩
    have hw : wrap64 ((i : Int) + 1) = ((i + 1 : Nat) : Int) := by unfold wrap64; omega
    simp only [PBlockAny.sum_step.l0]
    rw [if_pos (by omega), hw, shl16]
    have e1 : (32768 : Int) = ((32768#16).toNat : Int) := by decide
    have e2 : (4129 : Int) = ((4129#16).toNat : Int) := by decide
    rw [e1, and16, e2, xor16]
    have hm := top16 a
    have hb : Crc.bvn (d + 1) a = Crc.bvn d (Crc.bv1 a) := rfl
    rw [hb]
    by_cases h : a.msb = true
    · rw [if_neg (by rw [hm]; simp [h]), ih k (i + 1) _ (by omega) (by omega)]
      unfold Crc.bv1
      rw [if_pos h]
    · rw [if_pos (hm.2 (by simpa using h)), ih k (i + 1) _ (by omega) (by omega)]
      unfold Crc.bv1
      rw [if_neg h, BitVec.xor_zero]
theorem step_f (k : Nat) (hk : 8 < k) (a : BitVec 16) : PBlockAny.sum_step.f k (a.toNat : Int) = some ((Crc.bvn 8 a).toNat : Int) := step_loop 8 k 0 a (by omega) hk
/-- bytes as numbers -/
def U8s (l : List Int) : Prop := ∀ x ∈ l, 0 ≤ x ∧ x ≤ 255
theorem U8s.at_ {l : List Int} (h : U8s l) (i : Int) : 0 ≤ rd l i ∧ rd l i ≤ 255 := by
  unfold rd
  rw [List.getD_eq_getElem?_getD]
  by_cases hi : i.toNat < l.length
  · rw [List.getElem?_eq_getElem hi]; exact h _ (List.getElem_mem _)
  · rw [List.getElem?_eq_none (by omega)]; simp
theorem U8s.take {l : List Int} (h : U8s l) (n : Nat) : U8s (l.take n) := fun x hx => h x (List.mem_of_mem_take hx)
theorem U8s.drop {l : List Int} (h : U8s l) (n : Nat) : U8s (l.drop n) := fun x hx => h x (List.mem_of_mem_drop hx)
theorem U8s.append {l m : List Int} (h : U8s l) (k : U8s m) : U8s (l ++ m) := fun x hx => (List.mem_append.1 hx).elim (h x) (k x)
theorem U8s.nil : U8s [] := fun x hx => by simp at hx
theorem U8s.one {x : Int} (h0 : 0 ≤ x) (h1 : x ≤ 255) : U8s [x] := fun y hy => by rw [List.mem_singleton.1 hy]; exact ⟨h0, h1⟩
theorem U8s.of_wf {l : List Int} (h : ∀ x ∈ l, (Lit.int .u8 x).wf = true) : U8s l := fun x hx => by
  have := h x hx
  simp [Lit.wf, IntKind.min, IntKind.max, IntKind.signed, IntKind.bits] at this
  omega
def bv (l : List Int) : List (BitVec 8) := l.map fun x => BitVec.ofInt 8 x
def crcI (l : List Int) : Int := ((Crc.crc 0#16 (bv l)).toNat : Int)
def sumI (l : List Int) : Int := l.foldl (fun a x => (a + x) % 256) 0
theorem sumI_range (l : List Int) : 0 ≤ sumI l ∧ sumI l ≤ 255 := by
  unfold sumI
  rcases List.eq_nil_or_concat l with rfl | ⟨l', x, rfl⟩
  · simp
  · rw [List.concat_eq_append, List.foldl_append]; simp only [List.foldl_cons, List.foldl_nil]; omega
theorem crcI_range (l : List Int) : 0 ≤ crcI l ∧ crcI l ≤ 65535 := by
  unfold crcI
  have := (Crc.crc 0#16 (bv l)).isLt
  omega
theorem take_snoc_rd (l : List Int) (k : Nat) (hk : k < l.length) : l.take (k + 1) = l.take k ++ [rd l k] := by
  unfold rd
  rw [List.take_succ_eq_append_getElem hk]
  simp [List.getD_eq_getElem?_getD, hk]
theorem check_loop (l : List Int) (hl : l.length ≤ 9223372036854775807) (d : Nat) : ∀ (k i : Nat) (s : Int), s = sumI (l.take i) → i + d = l.length → d < k → PBlockAny.sum_Check.l0 k s l (l.length : Int) (i : Int) = some (sumI l) := by
  induction d with
  | zero =>
    intro k i s hs hi hk
    obtain ⟨k, rfl⟩ : ∃ m, k = m + 1 := ⟨k - 1, by omega⟩
    simp only [PBlockAny.sum_Check.l0]
    rw [if_neg (by omega), hs, List.take_of_length_le (by omega)]
  | succ d ih =>
    intro k i s hs hi hk
    obtain ⟨k, rfl⟩ : ∃ m, k = m + 1 := ⟨k - 1, by omega⟩
    have hw : wrap64 ((i : Int) + 1) = ((i + 1 : Nat) : Int) := by unfold wrap64; omega
    simp only [PBlockAny.sum_Check.l0]
    rw [if_pos (by omega), if_pos (by omega), if_pos (by omega), hw]
    refine ih k (i + 1) _ ?_ (by omega) (by omega)
    rw [take_snoc_rd l i (by omega), hs]
    unfold sumI
    rw [List.foldl_append]
    rfl
theorem check_f (l : List Int) (hl : l.length ≤ 9223372036854775807) (k : Nat) (hk : l.length < k) : PBlockAny.sum_Check.f k l = some (sumI l) :=
  check_loop l hl l.length k 0 0 (by simp [sumI]) (by omega) hk
theorem put_I (a : BitVec 16) (c : Int) (h0 : 0 ≤ c) (h1 : c ≤ 255) (k : Nat) (hk : 8 < k) :
    PBlockAny.sum_step.f k (Go.bits .xor .u16 (a.toNat : Int) (IntKind.u16.wrap ((IntKind.u16.wrap c) * 256))) = some ((Crc.put a (BitVec.ofInt 8 c)).toNat : Int) := by
  obtain ⟨n, rfl⟩ := Int.eq_ofNat_of_zero_le h0
  have e : IntKind.u16.wrap ((IntKind.u16.wrap (n : Int)) * 256) = (((BitVec.ofInt 8 (n : Int)).setWidth 16 <<< 8).toNat : Int) := by
    rw [wrap_u16, wrap_u16, BitVec.toNat_shiftLeft, Nat.shiftLeft_eq]
    simp
    omega
  rw [e, xor16]
  exact step_f k hk _
theorem crc_loop (l : List Int) (hl : l.length ≤ 9223372036854775807) (hu : U8s l) (d : Nat) : ∀ (k i : Nat) (s : Int), s = crcI (l.take i) → i + d = l.length → d + 9 < k → PBlockAny.sum_Crc.l0 k s l (l.length : Int) (i : Int) = some (crcI l) := by
  induction d with
  | zero =>
    intro k i s hs hi hk
    obtain ⟨k, rfl⟩ : ∃ m, k = m + 1 := ⟨k - 1, by omega⟩
    simp only [PBlockAny.sum_Crc.l0]
    rw [if_neg (by omega), hs, List.take_of_length_le (by omega)]
  | succ d ih =>
    intro k i s hs hi hk
    obtain ⟨k, rfl⟩ : ∃ m, k = m + 1 := ⟨k - 1, by omega⟩
    have hw : wrap64 ((i : Int) + 1) = ((i + 1 : Nat) : Int) := by unfold wrap64; omega
    have hr := hu.at_ i
    simp only [PBlockAny.sum_Crc.l0]
    rw [if_pos (by omega), if_pos (by omega), if_pos (by omega), hw, hs]
    unfold crcI
    rw [put_I _ _ hr.1 hr.2 k (by omega)]
    simp only [Option.bind_some]
    refine ih k (i + 1) _ ?_ (by omega) (by omega)
    rw [take_snoc_rd l i (by omega)]
    unfold crcI bv Crc.crc
    rw [List.map_append, List.foldl_append]
    rfl
theorem crc_f (l : List Int) (hl : l.length ≤ 9223372036854775807) (hu : U8s l) (k : Nat) (hk : l.length + 9 < k) : PBlockAny.sum_Crc.f k l = some (crcI l) :=
  crc_loop l hl hu l.length k 0 0 (by simp [crcI, bv, Crc.crc]) (by omega) hk
end H
end Go.Proofs.Ythdkmgeigdoglaa
