import Derived.Test.YthdkmgeigdoglaaH2
/- SumTwo, walked. -/
namespace Go.Proofs.Ythdkmgeigdoglaa.Hand
open Go.RowKit Go.Proofs.YthdkmgeigdoglaaW.PrintWords Go.Proofs.YthdkmgeigdoglaaW.PrintLast Go.Proofs.YthdkmgeigdoglaaW.PrintMore H
attribute [local go_sem] max_two min_two max_three min_three max_four min_four
set_option linter.unusedVariables false
set_option linter.unusedSimpArgs false
/-- the bytes of two, turned into one another, the first k of n -/
def xz (a b : List Int) (n k : Nat) : List Int := ((List.range k).map fun (i : Nat) => Go.bits .xor .u8 (rd a i) (rd b i)) ++ List.replicate (n - k) 0
theorem xz_zero (a b : List Int) (n : Nat) : xz a b n 0 = List.replicate n 0 := by simp [xz]
theorem xz_succ (a b : List Int) (n k : Nat) (h : k < n) : (xz a b n k).set k (Go.bits .xor .u8 (rd a k) (rd b k)) = xz a b n (k + 1) := by
  unfold xz
  rw [List.set_append_right _ _ (by simp), List.range_succ, List.map_append, List.append_assoc]
  congr 1
  obtain ⟨m, hm⟩ : ∃ m, n - k = m + 1 := ⟨n - k - 1, by omega⟩
  have hm2 : n - (k + 1) = m := by omega
  rw [hm, hm2]
  simp [List.replicate_succ]
theorem xz_u8 (a b : List Int) (n k : Nat) : U8s (xz a b n k) := by
  intro x hx
  unfold xz at hx
  rcases List.mem_append.1 hx with h | h
  · obtain ⟨i, _, rfl⟩ := List.mem_map.1 h
    exact xor8_range _ _
  · obtain ⟨_, rfl⟩ := List.mem_replicate.1 h
    omega
theorem xz_crc (a b : List Int) (n : Nat) (ha : n ≤ a.length) (hb : n ≤ b.length) : crcI (xz a b n n) = Go.bits .xor .u16 (crcI (a.take n)) (crcI (b.take n)) := by
  unfold crcI
  rw [xor16, ← Crc.crc_xor _ _ (by simp [bv]; omega)]
  congr 3
  apply List.ext_getElem
  · simp [bv, xz, Crc.zip]; omega
  · intro i h1 h2
    have hi : i < n := by simpa [bv, xz] using h1
    have e : rd a i = a[i] := by simp [rd, List.getD_eq_getElem?_getD, show i < a.length by omega]
    have e' : rd b i = b[i] := by simp [rd, List.getD_eq_getElem?_getD, show i < b.length by omega]
    have key : ∀ x : Int, BitVec.ofNat 8 (x % 256).toNat = BitVec.ofInt 8 x := by
      intro x
      apply BitVec.eq_of_toNat_eq
      simp [BitVec.toNat_ofInt]
      omega
    simp [bv, xz, Crc.zip, xor8, e, e', key]
set_option maxHeartbeats 2000000 in
set_option maxRecDepth 100000 in
theorem SumTwo_walk (a0 : Option Addr) (c0 : Nat) (l0 : List Int) (a1 : Option Addr) (c1 : Nat) (l1 : List Int) (w : World)
    (hr0 : ReadsInt w .u8 a0 l0.length l0) (hc0 : l0.length ≤ c0) (y0 : l0.length * 1 ≤ 140737488351232) (hw0 : ∀ x ∈ l0, (Lit.int .u8 x).wf = true)
    (hr1 : ReadsInt w .u8 a1 l1.length l1) (hc1 : l1.length ≤ c1) (y1 : l1.length * 1 ≤ 140737488351232) (hw1 : ∀ x ∈ l1, (Lit.int .u8 x).wf = true) :
    Calls Try.prog 10 #[.slice a0 l0.length c0, .slice a1 l1.length c1] w fun e w' => e = .returned (.bool true) ∧ Below w.heap.size w w' := by
  have HR0 := Aside0.mk hr0
  have HR1 := Aside0.mk hr1
  have HU0 := Aside0.mk (U8s.of_wf hw0)
  have HU1 := Aside0.mk (U8s.of_wf hw1)
  clear hr0 hr1 hw0 hw1
  obtain ⟨n, hn⟩ : ∃ n, n = min l0.length l1.length := ⟨_, rfl⟩
  have hn0 : n ≤ l0.length := by omega
  have hn1 : n ≤ l1.length := by omega
  have hmin : Builtin.min2 (.int .i64 (l0.length : Int)) (.int .i64 (l1.length : Int)) = pure (.int .i64 (n : Int)) := by
    rw [min2_int]; congr 2; split <;> omega
  clear hn
  have hmk := print_make (P := Try.prog) 23 5 .u8 1 Try.underlying23 info5 (by decide) n (by omega)
  go_enter Try.func10, Try.ntmps10
  go_wp2_with fail
  refine (awake01_calls w).mono ?_
  rintro e w1 ⟨rfl, hb⟩
  have HB := Aside0.mk hb
  have HL := Aside0.mk hb.size
  clear hb
  go_wp2_with fail
  go_wp2
  have hmk1 := own_made w1 w.heap.size 5 .u8 n HL.out (by omega)
  have HO := Aside0.mk hmk1
  have HB1 := Aside0.mk (HB.out.alloc HL.out (.cells (madeCells #[Value.int .u8 0] n) 5))
  have HG := Aside0.mk (Nat.lt_succ_self w1.heap.size)
  clear hmk1 hmk hmin
  generalize w1.heap.size = g at *
  go_loopw [19] (fun i wr => ∃ k : Nat, k ≤ n ∧ i = .int .i64 k ∧ Aside0 (wr.ownsRow w.heap.size 5 1 (.slice (some ⟨g, 0, none⟩) n n) n (nums .u8 (xz l0 l1 n k))) ∧ Aside0 (Below w.heap.size w wr)) (fun i _ => n - (intOf i).toNat)
  case atStart => exact ⟨0, Nat.zero_le _, rfl, ⟨by rw [xz_zero]; exact HO.out⟩, ⟨HB1.out⟩⟩
  case round =>
    obtain ⟨k, hk, rfl, HO1, HB2⟩ := hrel
    clear HB1 HO
    by_cases hlt : k < n
    · obtain ⟨ad0, e0, hx0⟩ := HR0.out.at_ k (by omega) (by omega)
      obtain ⟨ad1, e1, hx1⟩ := HR1.out.at_ k (by omega) (by omega)
      cases e0
      cases e1
      have hy0 := pw_cell_below HB2.out hx0
      have hy1 := pw_cell_below HB2.out hx1
      have hz := own_at HO1.out k (by omega) (by omega)
      obtain ⟨hz1, hz2⟩ := hz
      simp only [Int.toNat_natCast] at hy0 hy1 hz1 hz2
      clear hx0 hx1
      have q0 : (k : Int) < (l0.length : Int) := by omega
      have q1 : (k : Int) < (l1.length : Int) := by omega
      go_wp2
      go_region
      go_wp2
      go_roundw
      case rel =>
        have h := (own_store HO1.out k (Go.bits .xor .u8 (rd l0 k) (rd l1 k))).1
        simp only [Int.toNat_natCast] at h
        rw [xz_succ _ _ _ _ hlt] at h
        exact ⟨k + 1, by omega, by go_num, ⟨h⟩, ⟨(HB2.out.setCell (by exact HL.out) _).drew⟩⟩
      case measure => simp [intOf]; omega
    · obtain rfl : n = k := by omega
      have hO := own_reads' HO1.out
      have R0 := Aside0.mk ((HR0.out.below HB2.out).take_ n hn0)
      have R1 := Aside0.mk ((HR1.out.below HB2.out).take_ n hn1)
      have R2 := Aside0.mk hO
      clear hO
      go_wp2
      go_quiet ((go_at_call 43; (first | (with_reducible exact crc_quiet _ _ _ _ _ _ R2.out (Nat.le_refl _) (xz_u8 _ _ _ _)) | (with_reducible exact crc_quiet _ _ _ _ _ _ R0.out (by omega) (HU0.out.take _)) | (with_reducible exact crc_quiet _ _ _ _ _ _ R1.out (by omega) (HU1.out.take _)))))
      go_wp2
      go_ret
      rw [xz_crc _ _ _ hn0 hn1, beq_self_eq_true]
      exact ⟨rfl, pw_below_drewN HB2.out _⟩
end Go.Proofs.Ythdkmgeigdoglaa.Hand
