import Derived.Test.YthdkmgeigdoglaaH3
/- Blocks: Data, Make. No statement is proved here. -/
namespace Go.Proofs.Ythdkmgeigdoglaa.Hand
open Go.RowKit Go.Proofs.YthdkmgeigdoglaaW.PrintWords Go.Proofs.YthdkmgeigdoglaaW.PrintLast Go.Proofs.YthdkmgeigdoglaaW.PrintMore H
attribute [local go_sem] max_two min_two max_three min_three max_four min_four
set_option linter.unusedVariables false
set_option linter.unusedSimpArgs false
/-- a slice of bytes of the call's own -/
def Own (base : Nat) (w : World) (v : Value) (n : Nat) (xs : List Int) : Prop := ∃ A c, v = .slice A n c ∧ n ≤ c ∧ xs.length = n ∧ w.ownsRow base 5 1 v n (nums .u8 xs)
theorem Own.of {base n : Nat} {w : World} {v : Value} {xs : List Int} (h : w.ownsRow base 5 1 v xs.length (nums .u8 xs)) (hn : xs.length = n) : Own base w v n xs := by
  subst hn
  obtain ⟨A, c, rfl⟩ := own_slice h
  exact ⟨A, c, rfl, own_le h, rfl, h⟩
def dataN (long : Bool) : Nat := if long then 1024 else 128
def dataAt (l : List Int) (k : Nat) : Int := if l.length = 0 then 0 else (rd l ((k % l.length : Nat) : Int) + ((k / l.length : Nat) : Int)) % 256
def dataL (l : List Int) (long : Bool) : List Int := (List.range (dataN long)).map (dataAt l)
def dataP (l : List Int) (n k : Nat) : List Int := ((List.range k).map (dataAt l)) ++ List.replicate (n - k) 0
theorem dataP_zero (l : List Int) (n : Nat) : dataP l n 0 = List.replicate n 0 := by simp [dataP]
theorem dataP_full (l : List Int) (n : Nat) : dataP l n n = (List.range n).map (dataAt l) := by simp [dataP]
theorem dataP_succ (l : List Int) (n k : Nat) (h : k < n) : (dataP l n k).set k (dataAt l k) = dataP l n (k + 1) := by
  unfold dataP
  rw [List.set_append_right _ _ (by simp), List.range_succ, List.map_append, List.append_assoc]
  congr 1
  obtain ⟨m, hm⟩ : ∃ m, n - k = m + 1 := ⟨n - k - 1, by omega⟩
  have hm2 : n - (k + 1) = m := by omega
  rw [hm, hm2]
  simp [List.replicate_succ]
theorem dataP_nil (l : List Int) (n k : Nat) (h : k < n) (hl : l.length = 0) : dataP l n (k + 1) = dataP l n k := by
  have h1 := dataP_succ l n k h
  rw [← h1]
  apply List.ext_getElem?
  intro i
  rw [List.getElem?_set]
  split
  · rename_i hi
    subst hi
    simp only [dataAt, if_pos hl]
    unfold dataP
    rw [List.getElem?_append_right (by simp)]
    simp only [List.length_map, List.length_range, Nat.sub_self, List.length_append, List.length_replicate]
    rw [List.getElem?_replicate, if_pos (by omega), if_pos (by omega)]
  · rfl
theorem dataL_len (l : List Int) (long : Bool) : (dataL l long).length = dataN long := by simp [dataL]
theorem dataAt_range (l : List Int) (k : Nat) : 0 ≤ dataAt l k ∧ dataAt l k ≤ 255 := by
  unfold dataAt
  split
  · omega
  · omega
theorem dataL_u8 (l : List Int) (long : Bool) : U8s (dataL l long) := by
  intro x hx
  obtain ⟨k, _, rfl⟩ := List.mem_map.1 hx
  exact dataAt_range l k
def mk8 (n : Nat) : Array Value := madeCells #[Value.int .u8 0] n
theorem mk8_run (n : Nat) (k : Int) (hk : k = (n : Int)) (hn : n ≤ 281474976710656) (W : World) : (Instr.makeSlice 23 (.int .i64 k) (.int .i64 k)).run Try.prog W = .ok (.slice (some ⟨W.heap.size, 0, none⟩) n n) (W.alloc (.cells (mk8 n) 5)) := by
  subst hk
  exact print_make (P := Try.prog) 23 5 .u8 1 Try.underlying23 info5 (by decide) n (by omega) W
theorem mk8_own (W : World) (base n : Nat) (hb : base ≤ W.heap.size) (hm : n ≤ 9223372036854775807) : (W.alloc (.cells (mk8 n) 5)).ownsRow base 5 1 (.slice (some ⟨W.heap.size, 0, none⟩) n n) n (nums .u8 (List.replicate n 0)) := own_made W base 5 .u8 n hb hm
set_option maxHeartbeats 2000000 in
set_option maxRecDepth 100000 in
theorem data_1024 (A : Option Addr) (m c : Nat) (l : List Int) (w : World) (hr : ReadsInt w .u8 A m l) (hc : m ≤ c) (hu : U8s l) :
    Calls Try.prog 48 #[.slice A m c, .bool true] w fun e w' => ∃ v, e = .returned v ∧ Own w.heap.size w' v 1024 (dataP l 1024 1024) ∧ Below w.heap.size w w' := by
  obtain rfl := hr.1
  have hl := hr.2.1
  have HR := Aside0.mk hr
  have HU := Aside0.mk hu
  clear hr hu
  have hk1 := mk8_run 1024 1024 rfl (by decide)
  have HO := Aside0.mk (mk8_own w w.heap.size 1024 (Nat.le_refl _) (by omega))
  have HB := Aside0.mk (below_alloc (Below.refl w.heap.size w) (.cells (mk8 1024) 5))
  rw [← dataP_zero l 1024] at HO
  obtain ⟨g, hg⟩ : ∃ g, g = w.heap.size := ⟨_, rfl⟩
  go_enter Try.func48, Try.ntmps48
  go_wp2
  rw [← hg]
  have HO := Aside0.mk (own_less (base := w.heap.size) HO.out (by omega))
  rw [show (some (⟨w.heap.size, 0, none⟩ : Addr)) = some ⟨g, 0, none⟩ from by rw [hg]] at HO
  have HG := Aside0.mk (show w.heap.size ≤ g by omega)
  clear hg hk1
  generalize w.alloc (.cells (mk8 1024) 5) = w1 at *
  go_loopw [13] (fun i wr => ∃ k : Nat, k ≤ 1024 ∧ i = .int .i64 k ∧ Aside0 (wr.ownsRow w.heap.size 5 1 (.slice (some ⟨g, 0, none⟩) 1024 1024) 1024 (nums .u8 (dataP l 1024 k))) ∧ Aside0 (Below w.heap.size w wr)) (fun i _ => 1024 - (intOf i).toNat)
  case atStart => exact ⟨0, Nat.zero_le _, rfl, HO, HB⟩
  case round =>
    obtain ⟨k, hk, rfl, HO1, HB1⟩ := hrel
    clear HO HB
    by_cases hlt : k < 1024
    · by_cases hz : l.length = 0
      · have HE := Aside0.mk (dataP_nil l 1024 k hlt hz)
        have hz1 : ¬ (0 : Int) < (l.length : Int) := by omega
        clear hz
        go_wp2
        go_roundw
        case rel => exact ⟨k + 1, by omega, by go_num, ⟨by rw [HE.out]; exact HO1.out⟩, HB1⟩
        case measure => simp [intOf]; omega
      · have hz1 : (0 : Int) < (l.length : Int) := by omega
        obtain ⟨q, hq⟩ : ∃ q : Nat, q = k % l.length := ⟨_, rfl⟩
        obtain ⟨r, hr⟩ : ∃ r : Nat, r = k / l.length := ⟨_, rfl⟩
        have hql : q < l.length := by rw [hq]; exact Nat.mod_lt _ (by omega)
        have hrk : r ≤ k := by rw [hr]; exact Nat.div_le_self _ _
        have hqi : (k : Int) % (l.length : Int) = (q : Int) := by rw [hq]; omega
        have hri : (k : Int) / (l.length : Int) = (r : Int) := by rw [hr]; omega
        have HD := Aside0.mk (show dataAt l k = (rd l (q : Int) + (r : Int)) % 256 by unfold dataAt; rw [if_neg hz, ← hq, ← hr])
        clear hq hr hz
        obtain ⟨ad, e0, hx⟩ := HR.out.at_ q (by omega) (by omega)
        cases e0
        have hy := pw_cell_below HB1.out hx
        obtain ⟨hz2, hz3⟩ := own_at HO1.out k (by omega) (by omega)
        simp only [Int.toNat_natCast] at hy hz2 hz3
        have hu := HU.out.at_ q
        have hql' : (q : Int) < (l.length : Int) := by omega
        clear hx
        go_wp2
        go_region
        go_wp2
        go_roundw
        case rel =>
          have h := (own_store HO1.out k (dataAt l k)).1
          simp only [Int.toNat_natCast] at h
          rw [dataP_succ _ _ _ hlt, HD.out] at h
          exact ⟨k + 1, by omega, by go_num, ⟨h⟩, ⟨(HB1.out.setCell (by exact HG.out) _).drew⟩⟩
        case measure => simp [intOf]; omega
    · obtain rfl : k = 1024 := by omega
      go_wp2
      go_ret
      exact ⟨_, rfl, ⟨_, _, rfl, Nat.le_refl _, by simp [dataP], HO1.out⟩, HB1.out⟩
set_option maxHeartbeats 2000000 in
set_option maxRecDepth 100000 in
theorem data_128 (A : Option Addr) (m c : Nat) (l : List Int) (w : World) (hr : ReadsInt w .u8 A m l) (hc : m ≤ c) (hu : U8s l) :
    Calls Try.prog 48 #[.slice A m c, .bool false] w fun e w' => ∃ v, e = .returned v ∧ Own w.heap.size w' v 128 (dataP l 128 128) ∧ Below w.heap.size w w' := by
  obtain rfl := hr.1
  have hl := hr.2.1
  have HR := Aside0.mk hr
  have HU := Aside0.mk hu
  clear hr hu
  have hk1 := mk8_run 128 128 rfl (by decide)
  have HO := Aside0.mk (mk8_own w w.heap.size 128 (Nat.le_refl _) (by omega))
  have HB := Aside0.mk (below_alloc (Below.refl w.heap.size w) (.cells (mk8 128) 5))
  rw [← dataP_zero l 128] at HO
  obtain ⟨g, hg⟩ : ∃ g, g = w.heap.size := ⟨_, rfl⟩
  go_enter Try.func48, Try.ntmps48
  go_wp2
  rw [← hg]
  have HO := Aside0.mk (own_less (base := w.heap.size) HO.out (by omega))
  rw [show (some (⟨w.heap.size, 0, none⟩ : Addr)) = some ⟨g, 0, none⟩ from by rw [hg]] at HO
  have HG := Aside0.mk (show w.heap.size ≤ g by omega)
  clear hg hk1
  generalize w.alloc (.cells (mk8 128) 5) = w1 at *
  go_loopw [13] (fun i wr => ∃ k : Nat, k ≤ 128 ∧ i = .int .i64 k ∧ Aside0 (wr.ownsRow w.heap.size 5 1 (.slice (some ⟨g, 0, none⟩) 128 128) 128 (nums .u8 (dataP l 128 k))) ∧ Aside0 (Below w.heap.size w wr)) (fun i _ => 128 - (intOf i).toNat)
  case atStart => exact ⟨0, Nat.zero_le _, rfl, HO, HB⟩
  case round =>
    obtain ⟨k, hk, rfl, HO1, HB1⟩ := hrel
    clear HO HB
    by_cases hlt : k < 128
    · by_cases hz : l.length = 0
      · have HE := Aside0.mk (dataP_nil l 128 k hlt hz)
        have hz1 : ¬ (0 : Int) < (l.length : Int) := by omega
        clear hz
        go_wp2
        go_roundw
        case rel => exact ⟨k + 1, by omega, by go_num, ⟨by rw [HE.out]; exact HO1.out⟩, HB1⟩
        case measure => simp [intOf]; omega
      · have hz1 : (0 : Int) < (l.length : Int) := by omega
        obtain ⟨q, hq⟩ : ∃ q : Nat, q = k % l.length := ⟨_, rfl⟩
        obtain ⟨r, hr⟩ : ∃ r : Nat, r = k / l.length := ⟨_, rfl⟩
        have hql : q < l.length := by rw [hq]; exact Nat.mod_lt _ (by omega)
        have hrk : r ≤ k := by rw [hr]; exact Nat.div_le_self _ _
        have hqi : (k : Int) % (l.length : Int) = (q : Int) := by rw [hq]; omega
        have hri : (k : Int) / (l.length : Int) = (r : Int) := by rw [hr]; omega
        have HD := Aside0.mk (show dataAt l k = (rd l (q : Int) + (r : Int)) % 256 by unfold dataAt; rw [if_neg hz, ← hq, ← hr])
        clear hq hr hz
        obtain ⟨ad, e0, hx⟩ := HR.out.at_ q (by omega) (by omega)
        cases e0
        have hy := pw_cell_below HB1.out hx
        obtain ⟨hz2, hz3⟩ := own_at HO1.out k (by omega) (by omega)
        simp only [Int.toNat_natCast] at hy hz2 hz3
        have hu := HU.out.at_ q
        have hql' : (q : Int) < (l.length : Int) := by omega
        clear hx
        go_wp2
        go_region
        go_wp2
        go_roundw
        case rel =>
          have h := (own_store HO1.out k (dataAt l k)).1
          simp only [Int.toNat_natCast] at h
          rw [dataP_succ _ _ _ hlt, HD.out] at h
          exact ⟨k + 1, by omega, by go_num, ⟨h⟩, ⟨(HB1.out.setCell (by exact HG.out) _).drew⟩⟩
        case measure => simp [intOf]; omega
    · obtain rfl : k = 128 := by omega
      go_wp2
      go_ret
      exact ⟨_, rfl, ⟨_, _, rfl, Nat.le_refl _, by simp [dataP], HO1.out⟩, HB1.out⟩
theorem data_any (A : Option Addr) (m c : Nat) (l : List Int) (long : Bool) (w : World) (hr : ReadsInt w .u8 A m l) (hc : m ≤ c) (hu : U8s l) :
    Calls Try.prog 48 #[.slice A m c, .bool long] w fun e w' => ∃ v, e = .returned v ∧ Own w.heap.size w' v (dataN long) (dataL l long) ∧ Below w.heap.size w w' := by
  cases long with
  | true =>
    have h := data_1024 A m c l w hr hc hu
    rw [dataP_full] at h
    exact h
  | false =>
    have h := data_128 A m c l w hr hc hu
    rw [dataP_full] at h
    exact h
end Go.Proofs.Ythdkmgeigdoglaa.Hand
