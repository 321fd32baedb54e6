import Derived.Test.YtijpbpnfachlkaaDoorN1
import Derived.Shelf.Lay
import Derived.Shelf.Strings.Builder1
import Derived.Shelf.Strings.BuilderF
import Derived.Shelf.Strings.BuilderK
import Derived.Shelf.Small.Strs
import Derived.BigCall
/- A text that is quoted: what is computed. No statement is proved here. -/
set_option linter.unusedVariables false
set_option linter.unusedSimpArgs false
set_option maxRecDepth 100000
set_option maxHeartbeats 8000000
namespace Go.Proofs
open Go.Shelf Go.RowKit
theorem Tryd.bld_size : (Tryd.prog.info? 82).map (·.size) = some 2 := by kernel_rfl
theorem Tryd.bld_lies : liesAt Tryd.prog Tryd.prog.depth 82 (2 / Tryd.prog.cellsOf 82) 0 82 1 = true := by kernel_rfl
theorem Tryd.bld_byte : (Tryd.prog.info? 5).map (fun i => (i.zero, i.size, i.bytes)) = some (some (.int .u8 0), 1, 1) := by kernel_rfl
theorem Tryd.copyCheck_used (b : Nat) (w : World) (h0 : w.cell? ⟨b, 0, none⟩ = some (.pointer (some ⟨b, 0, none⟩))) :
    Calls Tryd.prog 51 #[.pointer (some ⟨b, 0, none⟩)] w fun e w' => e = .returned (.tuple #[]) ∧ w' = w := by
  obtain ⟨j, hj, _⟩ := Option.map_eq_some_iff.1 Tryd.bld_size
  go_enter Tryd.func51, Tryd.ntmps51
  go_wp2
  rw [Lib.run_neq_ptr_same w _ Tryd.underlying80 hj]
  go_wp2
  go_end0
  exact ⟨rfl, rfl⟩
theorem Tryd.copyCheck_fresh (b : Nat) (w : World) (h0 : w.cell? ⟨b, 0, none⟩ = some (.pointer none)) (hsh : w.shape? b = some (82, 2)) (hfz : w.frozen? ⟨b, 0, none⟩ = false) :
    Calls Tryd.prog 51 #[.pointer (some ⟨b, 0, none⟩)] w fun e w' => e = .returned (.tuple #[]) ∧ w' = w.setCell ⟨b, 0, none⟩ (.pointer (some ⟨b, 0, none⟩)) := by
  obtain ⟨j, hj, hjs⟩ := Option.map_eq_some_iff.1 Tryd.bld_size
  go_enter Tryd.func51, Tryd.ntmps51
  go_wp2
  rw [Lib.run_to_unsafe w ⟨b, 0, none⟩ Tryd.underlying80 Tryd.underlying106 hj (by rw [hjs]; decide) hsh (Nat.zero_lt_succ 1)]
  simp only [Result.andThen]
  rw [Oper.upon_value]
  go_wp2
  rw [run_callFunc_extern Tryd.func61 (by kernel_rfl) (by kernel_rfl) (by kernel_rfl) (e := Extern.AbiNoEscape.same) (by kernel_rfl)]
  rw [Lib.run_noEscape]
  simp only [Result.andThen]
  rw [Oper.upon_value]
  go_wp2
  rw [Lib.run_from_unsafe w ⟨b, 0, none⟩ Tryd.underlying106 Tryd.underlying80 hj hsh Tryd.bld_lies]
  simp only [Result.andThen]
  rw [Oper.upon_value]
  go_wp2
  go_end0
  exact ⟨rfl, rfl⟩
theorem Tryd.copyCheck_k (B b : Nat) (bs : List Value) (w : World) (h : Lib.IsBuilderF 82 5 B b bs w) :
    Calls Tryd.prog 51 #[.pointer (some ⟨b, 0, none⟩)] w fun e w' => e = .returned (.tuple #[]) ∧ (Lib.BuilderAtF 82 5 B b (.pointer (some ⟨b, 0, none⟩)) bs w' ∧ Below B w w') := by
  rcases h with h | h
  · refine (Tryd.copyCheck_fresh b w h.cell0 h.shape h.frozen0).mono ?_
    rintro e w' ⟨rfl, rfl⟩
    exact ⟨rfl, h.used _, (Below.refl B w).setCell (p := ⟨b, 0, none⟩) h.1 _⟩
  · refine (Tryd.copyCheck_used b w h.cell0).mono ?_
    rintro e w' ⟨rfl, rfl⟩
    exact ⟨rfl, h, Below.refl B _⟩
theorem Tryd.Builder_WriteByte_k (B b : Nat) (bs : List Value) (c : Int) (w : World) (h : Lib.IsBuilderF 82 5 B b bs w) (hlen : bs.length + 1 ≤ 140737488355328) (hBw : B ≤ w.heap.size) :
    Calls Tryd.prog 38 #[.pointer (some ⟨b, 0, none⟩), .int .u8 c] w fun e w' => e = .returned .nilIface ∧ (Lib.BuilderAtF 82 5 B b (.pointer (some ⟨b, 0, none⟩)) (bs ++ [.int .u8 c]) w' ∧ Below B w w') := by
  obtain ⟨i0, hi, hz0, hz1, hz2⟩ := info_parts Tryd.bld_byte
  go_enter Tryd.func38, Tryd.ntmps38
  go_wp2_with (go_at_call 51; refine (Tryd.copyCheck_k B b bs _ h).mono ?_)
  rintro e w1 ⟨rfl, h1, hb1⟩
  obtain ⟨hB, v, hbk, hown, hne⟩ := h1
  have c0 : w1.cell? ⟨b, 0, none⟩ = some (.pointer (some ⟨b, 0, none⟩)) := by rw [Lib.cell_of_heap hbk]; rfl
  have c1 : w1.cell? ⟨b, 1, none⟩ = some v := by rw [Lib.cell_of_heap hbk]; rfl
  go_wp2_with (at_builtin; refine wpList_append_ownF _ rfl _ _ 22 rfl B 5 i0 (.int .u8 0) 1 1 Tryd.underlying22 hi hz0 hz1 hz2 rfl (by decide) _ _ _ rfl (hown.alloc _) ⟨w1.heap.size, 0, none⟩ 1 1 [.int .u8 c] rfl rfl ?c1 ?c2 ?c3 ?c4 ?c5 ?_)
  case c1 =>
    intro j u hj
    match j, hj with
    | 0, hj => simp at hj; subst hj; simp [Addr.add]
  case c2 => intro u hu; simp at hu; subst hu; rfl
  case c3 => unfold maxLen; omega
  case c4 => omega
  case c5 => have := hb1.size; simp; omega
  intro v' w2 hown' hgrow _
  have hlt : b < w1.heap.size := by
    rcases Nat.lt_or_ge b w1.heap.size with h' | h'
    · exact h'
    · simp [Array.getElem?_eq_none h'] at hbk
  have hb2 : w2.heap[b]? = some (.cells #[.pointer (some ⟨b, 0, none⟩), v] 82 (0, 0)) := by
    rw [hgrow.block b (by simp; omega) (fun e => hne e.symm), Lib.alloc_old w1 _ b hlt]
    exact hbk
  have d0 : w2.cell? ⟨b, 0, none⟩ = some (.pointer (some ⟨b, 0, none⟩)) := by rw [Lib.cell_of_heap hb2]; rfl
  have d1 : w2.cell? ⟨b, 1, none⟩ = some v := by rw [Lib.cell_of_heap hb2]; rfl
  have f1 : w2.frozen? ⟨b, 1, none⟩ = false := Lib.frozen_of_heap hb2 1
  obtain ⟨g, cap, rfl⟩ : ∃ g cap, v' = .slice (some ⟨g, 0, none⟩) (bs.length + 1) cap := by
    rcases hown'.2 with ⟨_, h0⟩ | ⟨g, cap, cur, fz, hv, _⟩
    · omega
    · exact ⟨g, cap, hv⟩
  go_wp2
  go_ret
  refine ⟨rfl, ?_, ?_⟩
  · exact Lib.BuilderAtF.put (T := 82) (e := 5) hB hb2 (bs' := bs ++ [.int .u8 c]) (by simpa using hown') (by decide)
  · exact ((hb1.alloc (by have := hb1.size; omega) _).grown hgrow (by have := hb1.size; simp; omega) (fun k hk => (hown.lt k hk).1)).setCell (p := ⟨b, 1, none⟩) hB _
shelf_lay Lays.n169 Nm 169 at Tryd as Tryd.lays169
theorem Tryd.Builder_Extra_169 : Builder.Extra Tryd.prog Tryd.lays169_ren where
  sizeBuilder := by kernel_rfl
  liesBuilder := by kernel_rfl
  t5 := Tryd.underlying5
  a5 := Tryd.isAgg5
  z5 := Tryd.sizeOf5
  v5 := Tryd.zeroValue5
  infoByte := by kernel_rfl
  cellsByte := by kernel_rfl
  sizeByte := by kernel_rfl
  neB5 := by decide
shelf_lay Lays.n137 Nm 137 at Tryd as Tryd.lays137
theorem Tryd.Builder_String_any_k (B b : Nat) (l : List UInt8) (w : World) (h : Lib.IsBuilderF 82 5 B b (Lib.byteCells l) w) (hBw : B ≤ w.heap.size) :
    Calls Tryd.prog 39 #[.pointer (some ⟨b, 0, none⟩)] w fun e w' => e = .returned (.string ⟨l.toArray⟩) ∧ Below B w w' :=
  (Any.Builder_String_any_k Tryd.lays169 Tryd.Builder_Extra_169 B b l w h hBw).mono fun e w' q => ⟨q.1, q.2.2.1⟩
theorem Tryd.strings_IndexByte (s : ByteArray) (c : Int) (w : World) :
    Calls Tryd.prog 37 #[.string s, .int .u8 c] w fun e w' => e = .returned (.int .i64 (Lib.indexByte s.data.toList c.toNat.toUInt8)) ∧ w' = w := Any.strings_IndexByte Tryd.lays137 s c w
namespace YtijpbpnfachlkaaDoor.SL
def metaU : List UInt8 := [40, 41, 91, 93, 46, 42, 43, 63, 124, 92]
def quote1 (c : UInt8) : List UInt8 := if 0 ≤ Lib.indexByte metaU c then [92, c] else [c]
def quoteU (l : List UInt8) : List UInt8 := l.flatMap quote1
theorem quote1_len (c : UInt8) : (quote1 c).length ≤ 2 := by
  unfold quote1; split <;> simp
theorem quoteU_len : ∀ l : List UInt8, (quoteU l).length ≤ 2 * l.length
  | [] => by simp [quoteU]
  | c :: l => by
    have h1 := quote1_len c
    have h2 := quoteU_len l
    simp only [quoteU, List.flatMap_cons, List.length_append, List.length_cons] at *
    omega
theorem quoteU_take (l : List UInt8) (i : Nat) (h : i < l.length) : quoteU (l.take (i + 1)) = quoteU (l.take i) ++ quote1 l[i] := by
  have : l.take (i + 1) = l.take i ++ [l[i]] := by simp
  unfold quoteU
  rw [this, List.flatMap_append]
  simp
set_option maxHeartbeats 1000000 in
set_option maxRecDepth 1000000 in
theorem Quote_walk (s : ByteArray) (w : World) (hs : s.size ≤ 35184372088832) :
    Calls Tryd.prog 20 #[.string s] w fun e w' => e = .returned (.string ⟨(quoteU s.data.toList).toArray⟩) ∧ Below w.heap.size w w' := by
  have hLn : s.data.toList.length = s.size := (Lib.size_eq s).symm
  go_enter Tryd.func20, Tryd.ntmps20
  go_wp2
  go_loopw [7] (fun v wr => ∃ i : Nat, v = .int .i64 i ∧ i ≤ s.size ∧ Lib.IsBuilderF 82 5 w.heap.size w.heap.size (Lib.byteCells (quoteU (s.data.toList.take i))) wr ∧ Below w.heap.size w wr) (fun v _ => s.size - (intOf v).toNat)
  case atStart =>
    exact ⟨0, by go_num, Nat.zero_le _, Lib.IsBuilderF.of (Lib.fresh_isBuilder 82 5 w), (Below.refl _ w).alloc (Nat.le_refl _) _⟩
  case round =>
    obtain ⟨i, rfl, his, hI, hbw⟩ := hrel
    have hle := quoteU_len (s.data.toList.take i)
    have hlt2 : (s.data.toList.take i).length ≤ i := by rw [List.length_take]; omega
    have hlen : (Lib.byteCells (quoteU (s.data.toList.take i))).length ≤ 2 * i := by rw [Lib.byteCells_length]; omega
    have hBw := hbw.size
    by_cases hp : i < s.size
    · have e5 : s.data.toList[i]'(by omega) = s[i]'hp := rfl
      have hq := quoteU_take s.data.toList i (by omega)
      rw [e5] at hq
      have hx : Lib.byteCells [s[i]'hp] = [.int .u8 ((s[i]'hp).toNat : Int)] := rfl
      have hx2 : Lib.byteCells [92, s[i]'hp] = [.int .u8 92, .int .u8 ((s[i]'hp).toNat : Int)] := rfl
      have hcc : ((s[i]'hp).toNat : Int).toNat.toUInt8 = s[i]'hp := by simp
      have hmeta : (⟨#[40, 41, 91, 93, 46, 42, 43, 63, 124, 92]⟩ : ByteArray).data.toList = metaU := rfl
      by_cases hm : 0 ≤ Lib.indexByte metaU (s[i]'hp)
      · go_wp2_with (go_at_call 37; refine (Tryd.strings_IndexByte _ _ _).mono ?_; rintro e w' ⟨rfl, rfl⟩; rw [hcc])
        refine (Tryd.Builder_WriteByte_k w.heap.size w.heap.size _ 92 _ hI (by omega) hBw).mono ?_
        rintro e W1 ⟨rfl, h1, b1⟩
        go_wp2_with (go_at_call 38; refine (Tryd.Builder_WriteByte_k w.heap.size w.heap.size _ _ _ (Or.inr h1) (by rw [List.length_append]; simp only [List.length_singleton]; omega) (by have := b1.size; omega)).mono ?_; rintro e W2 ⟨rfl, h2, b2⟩)
        go_wp2
        go_roundw
        case rel =>
          refine ⟨i + 1, by go_num, by omega, ?_, hbw.trans (b1.trans b2)⟩
          rw [hq]
          unfold quote1
          rw [if_pos hm, Lib.byteCells_append, hx2]
          exact Or.inr (by simpa using h2)
        case measure =>
          simp only [intOf]
          omega
      · go_wp2_with (go_at_call 37; refine (Tryd.strings_IndexByte _ _ _).mono ?_; rintro e w' ⟨rfl, rfl⟩; rw [hcc])
        refine (Tryd.Builder_WriteByte_k w.heap.size w.heap.size _ _ _ hI (by omega) hBw).mono ?_
        rintro e W2 ⟨rfl, h2, b2⟩
        go_wp2
        go_roundw
        case rel =>
          refine ⟨i + 1, by go_num, by omega, ?_, hbw.trans b2⟩
          rw [hq]
          unfold quote1
          rw [if_neg (by omega), Lib.byteCells_append, hx]
          exact Or.inr h2
        case measure =>
          simp only [intOf]
          omega
    · go_wp2_with (go_at_call 39; refine (Tryd.Builder_String_any_k w.heap.size w.heap.size _ _ hI hBw).mono ?_; rintro e W1 ⟨rfl, b1⟩)
      go_wp2
      go_ret
      have : s.data.toList.take i = s.data.toList := List.take_of_length_le (by omega)
      rw [this]
      exact ⟨rfl, hbw.trans b1⟩
/-- the bytes that are quoted -/
def isMeta (c : Int) : Bool := c == 40 || c == 41 || c == 91 || c == 93 || c == 46 || c == 42 || c == 43 || c == 63 || c == 124 || c == 92
def quoteL (s : List Int) : List Int := s.flatMap fun c => if isMeta c then [92, c] else [c]
theorem meta_u8 : ∀ n, n < 256 → (decide (0 ≤ Lib.indexByte metaU (UInt8.ofNat n))) = isMeta (n : Int) := by decide +kernel
theorem quote_u8 {s : List Int} (hu : U8s s) : quoteU (strOfNums s).data.toList = (quoteL s).map fun n => UInt8.ofNat n.toNat := by
  show quoteU (s.map fun n => UInt8.ofNat n.toNat) = _
  induction s with
  | nil => rfl
  | cons c l ih =>
    have hc := hu c (by simp)
    obtain ⟨k, rfl⟩ := Int.eq_ofNat_of_zero_le hc.1
    have hk : k < 256 := by omega
    have ih2 := ih fun x hx => hu x (by simp [hx])
    have hm := meta_u8 k hk
    unfold quoteU quoteL at *
    rw [List.map_cons, List.flatMap_cons, List.flatMap_cons, List.map_append, ih2]
    congr 1
    unfold quote1
    show (if 0 ≤ Lib.indexByte metaU (UInt8.ofNat k) then [92, UInt8.ofNat k] else [UInt8.ofNat k]) = _
    by_cases h : 0 ≤ Lib.indexByte metaU (UInt8.ofNat k)
    · rw [decide_eq_true h] at hm
      rw [if_pos h, if_pos hm.symm]
      rfl
    · rw [decide_eq_false h] at hm
      rw [if_neg h, if_neg (by rw [← hm]; decide)]
      rfl
theorem quoteL_len (s : List Int) : s.length ≤ (quoteL s).length ∧ (quoteL s).length ≤ 2 * s.length := by
  induction s with
  | nil => simp [quoteL]
  | cons c l ih =>
    unfold quoteL at *
    rw [List.flatMap_cons, List.length_append, List.length_cons]
    split <;> simp only [List.length_cons, List.length_nil] <;> omega
theorem quoteL_u8 {s : List Int} (hu : U8s s) : U8s (quoteL s) := fun x hx => by
  unfold quoteL at hx
  obtain ⟨c, hc, hx⟩ := List.mem_flatMap.1 hx
  have := hu c hc
  split at hx
  · simp at hx; omega
  · simp at hx; omega
theorem Quote_t {w0 : World} {B : Nat} {H : List Chunk} {s : List Int} (hu : U8s s) (hs : s.length ≤ 35184372088832) : TCall Tryd.prog w0 B 20 [.string (strOfNums s)].toArray (fun r H' => r = .string (strOfNums (quoteL s)) ∧ H' = H) H := by
  refine TCall.below fun w hw => (Quote_walk (strOfNums s) w ?_).mono ?_
  · rw [str_len]; exact hs
  · rintro e w' ⟨rfl, hb⟩
    refine ⟨_, rfl, ?_, hb⟩
    rw [quote_u8 hu]
    rfl
end YtijpbpnfachlkaaDoor.SL
end Go.Proofs
