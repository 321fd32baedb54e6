import Derived.Test.YthdkmgeigdoglaaH3
/- Arrays: laws for the walks, and the table of remainders. No statement is proved here. -/
namespace Go.Proofs.Ythdkmgeigdoglaa.Hand
open Go.RowKit Go.Proofs.YthdkmgeigdoglaaW.PrintWords Go.Proofs.YthdkmgeigdoglaaW.PrintLast Go.Proofs.YthdkmgeigdoglaaW.PrintMore H
attribute [local go_sem] max_two min_two max_three min_three max_four min_four
set_option linter.unusedVariables false
set_option linter.unusedSimpArgs false
section
variable {P : Program} {ops : Array Oper} {rest : List Oper} {o : Oper} {a : Act} {Q : Exit → Act → World → Prop} {W : World}
/-- a run of cells written: what is in the block then, and that all else is as it was -/
theorem Ch_setCells (g o : Nat) (vs : List Value) (W : World) : Ch (· = g) W (W.setCells g o vs) := by
  obtain ⟨h1, h2, h3, h4⟩ := setCells_same g vs o W
  exact ⟨h1, h2, h3, by rw [h4]; exact Nat.le_refl _, fun k _ hk => setCells_far vs o k hk⟩
theorem wpList_store_cells (hgd : o.guard = none) (hN : o.dst = none) (t : TypeId) (p x : Operand) (ho : o.op = .store t p x) (g off : Nat) (hp : a.eval p = .pointer (some ⟨g, off, none⟩)) (cs : Array Value) (hx : a.eval x = .agg cs)
    (old : Array Value) (e : TypeId) (hg : W.heap[g]? = some (.cells old e (0, 0))) (hsz : off + cs.size ≤ old.size) (ht : (P.info? t).map (·.size) = some cs.size) (h1 : ∀ q ∈ cs.toList, q.oneCell' = true)
    (h : ∀ w1, w1.heap[g]? = some (.cells (old.toList.take off ++ cs.toList ++ old.toList.drop (off + cs.size)).toArray e (0, 0)) → Ch (· = g) W w1 → wpList P ops Q rest a w1) : wpList P ops Q (o :: rest) a W := by
  refine wpList_plain hgd fun K hK => ?_
  have hrun := run_store_run (P := P) (o := off) t (.agg cs) cs.toList hg rfl (by rw [Array.length_toList]; exact ht) (by rw [Array.length_toList]; exact hsz) h1
  unfold Oper.wp execOp
  simp only [ho, hp, hx, Sem.run_bind, Sem.run_pure, Result.andThen_ok, hrun]
  show K (a.put o.dst undef) _
  rw [hN]
  refine hK a _ (h _ ?_ (Ch_setCells g off cs.toList W))
  obtain ⟨cur, h2, _, h3⟩ := setCells_row cs.toList off W old hg (by rw [Array.length_toList]; exact hsz)
  rw [h2, Array.length_toList] at *
  have e1 : cur = (old.toList.take off ++ cs.toList ++ old.toList.drop (off + cs.size)).toArray := by
    rw [← h3]
  rw [e1]
end
/-- The remainder of one byte, eight bits up. -/
def tabI (k : Nat) : Int := ((Crc.put 0#16 (BitVec.ofInt 8 (k : Int))).toNat : Int)
def tabP (k : Nat) : List Int := ((List.range k).map tabI) ++ List.replicate (256 - k) 0
theorem tabP_zero : tabP 0 = List.replicate 256 0 := by
  unfold tabP
  rw [Nat.sub_zero, List.range_zero, List.map_nil, List.nil_append]
theorem tabP_len (k : Nat) (h : k ≤ 256) : (tabP k).length = 256 := by simp [tabP]; omega
theorem tabP_succ (k : Nat) (h : k < 256) : (tabP k).set k (tabI k) = tabP (k + 1) := by
  unfold tabP
  rw [List.set_append_right _ _ (by simp), List.range_succ, List.map_append, List.append_assoc]
  congr 1
  obtain ⟨m, hm⟩ : ∃ m, 256 - k = m + 1 := ⟨256 - k - 1, by omega⟩
  have hm2 : 256 - (k + 1) = m := by omega
  rw [hm, hm2]
  simp [List.replicate_succ]
theorem tabI_range (k : Nat) : 0 ≤ tabI k ∧ tabI k ≤ 65535 := by
  unfold tabI
  have := (Crc.put 0#16 (BitVec.ofInt 8 (k : Int))).isLt
  omega
theorem tab_at (k : Nat) (h : k < 256) : rd (tabP 256) k = tabI k := by
  have e : tabP 256 = (List.range 256).map tabI := by simp [tabP]
  rw [e]
  unfold rd
  rw [List.getD_eq_getElem?_getD, Int.toNat_natCast, List.getElem?_map, List.getElem?_range h]
  rfl
theorem step_any (k : Nat) (w : World) (h : k < 256) : Calls Try.prog 87 #[.int .u16 (((k : Int) * 256))] w fun e w' => e = .returned (.int .u16 (tabI k)) ∧ Drawn0 w w' := by
  refine PBlockAny.sum_step.calls 9 _ (tabI k) w ?_
  have hp := put_I 0#16 (k : Int) (by omega) (by omega) 9 (by omega)
  have e : Go.bits .xor .u16 ((0#16).toNat : Int) (IntKind.u16.wrap ((IntKind.u16.wrap (k : Int)) * 256)) = (k : Int) * 256 := by
    have e1 : IntKind.u16.wrap ((IntKind.u16.wrap (k : Int)) * 256) = ((BitVec.ofNat 16 (k * 256)).toNat : Int) := by
      rw [wrap_u16, wrap_u16, BitVec.toNat_ofNat]; omega
    rw [e1, xor16, BitVec.zero_xor, BitVec.toNat_ofNat]
    omega
  rw [e] at hp
  exact hp
theorem zer_eq : Try.zeroCells50 = (nums .u16 (tabP 0)).toArray := by
  rw [tabP_zero]
  kernel_rfl
theorem info50 : (Try.prog.info? 50).map (·.size) = some 256 := by kernel_rfl
/-- A block that holds a table. -/
def Tabl (w : World) (g : Nat) (t : List Int) : Prop := w.heap[g]? = some (.cells (nums .u16 t).toArray 50 (0, 0))
theorem Tabl.cell {w : World} {g : Nat} {t : List Int} (h : Tabl w g t) (i : Nat) (hi : i < t.length) : w.cell? ⟨g, i, none⟩ = some (.int .u16 (rd t i)) := by
  rw [blk_cell h i]
  simp [nums, rd, List.getD_eq_getElem?_getD, hi]
theorem Tabl.set_ {w : World} {g : Nat} {t : List Int} (h : Tabl w g t) (i : Nat) (x : Int) : Tabl (w.setCell ⟨g, i, none⟩ (.int .u16 x)) g (t.set i x) := by
  have := blk_set h i (.int .u16 x)
  unfold Tabl
  rw [this]
  simp [nums, List.map_set]
theorem one_nums (k : IntKind) (t : List Int) : ∀ q ∈ (nums k t).toArray.toList, q.oneCell' = true := by
  intro q hq
  simp only [nums, List.mem_map] at hq
  obtain ⟨x, _, rfl⟩ := hq
  rfl
set_option maxHeartbeats 2000000 in
set_option maxRecDepth 100000 in
theorem table_any (w : World) :
    Calls Try.prog 44 #[] w fun e w' => e = .returned (.agg (nums .u16 (tabP 256)).toArray) ∧ Below w.heap.size w w' := by
  go_enter Try.func44, Try.ntmps44
  go_wp2
  have hB := below_alloc (below_alloc (Below.refl w.heap.size w) (.cells Try.zeroCells50 50)) (.cells Try.zeroCells50 50)
  have h0 : Tabl ((w.alloc (.cells Try.zeroCells50 50)).alloc (.cells Try.zeroCells50 50)) w.heap.size (tabP 0) := by
    unfold Tabl; rw [← zer_eq]; exact blk_alloc (blk_new _ _) _
  have h1 : Tabl ((w.alloc (.cells Try.zeroCells50 50)).alloc (.cells Try.zeroCells50 50)) (w.heap.size + 1) (tabP 0) := by
    unfold Tabl; rw [← zer_eq]; have := blk_new (w.alloc (.cells Try.zeroCells50 50)) (.cells Try.zeroCells50 50); simpa using this
  generalize (w.alloc (.cells Try.zeroCells50 50)).alloc (.cells Try.zeroCells50 50) = w1 at *
  have HB := Aside0.mk hB
  have H0 := Aside0.mk h0
  have H1 := Aside0.mk h1
  clear hB h0 h1
  go_loopw [3] (fun i wr => ∃ k : Nat, k ≤ 256 ∧ i = .int .i64 k ∧ Aside0 (Tabl wr w.heap.size (tabP 0)) ∧ Aside0 (Tabl wr (w.heap.size + 1) (tabP k)) ∧ Aside0 (Below w.heap.size w wr)) (fun i _ => 256 - (intOf i).toNat)
  case atStart => exact ⟨0, by omega, rfl, H0, H1, HB⟩
  case round =>
    obtain ⟨k, hk, rfl, H2, H3, HB2⟩ := hrel
    clear H0 H1 HB
    by_cases hlt : k < 256
    · have hc := H3.out.cell k (by rw [tabP_len k (by omega)]; exact hlt)
      have hf := blk_frozen H3.out k
      go_wp2_with fail
      refine (step_any k wr hlt).mono ?_
      rintro e w2 ⟨rfl, hd⟩
      have hc2 := pw_cell_below hd.below hc
      have H4 := Aside0.mk (show Tabl w2 w.heap.size (tabP 0) from blk_below H2.out hd.below)
      have h5 : Tabl w2 (w.heap.size + 1) (tabP k) := blk_below H3.out hd.below
      have hf2 := blk_frozen h5 k
      have H5 := Aside0.mk h5
      have HB3 := Aside0.mk (below_then HB2.out HB2.out.size hd.below)
      clear hc hf hd h5
      go_wp2
      go_roundw
      case rel =>
        have h6 := H5.out.set_ k (tabI k)
        rw [tabP_succ k hlt] at h6
        exact ⟨k + 1, by omega, by go_num, ⟨blk_far H4.out (by simp) _⟩, ⟨h6⟩, ⟨HB3.out.setCell (by simp) _⟩⟩
      case measure => simp [intOf]; omega
    · obtain rfl : k = 256 := by omega
      have hsz : (nums IntKind.u16 (tabP 256)).toArray.size = 256 := by rw [List.size_toArray, nums_length, tabP_len _ (by omega)]
      have hsz0 : (nums IntKind.u16 (tabP 0)).toArray.size = 256 := by rw [List.size_toArray, nums_length, tabP_len _ (by omega)]
      have hi : (Try.prog.info? 50).map (·.size) = some (nums IntKind.u16 (tabP 256)).toArray.size := by rw [hsz]; exact info50
      have HS := Aside0.mk hsz
      have HS0 := Aside0.mk hsz0
      have HI := Aside0.mk hi
      clear hsz hsz0 hi
      go_wp2_with (first | ((with_reducible refine gate_dst (N := 13) rfl ?_); refine wpList_load_row rfl 50 (.tmp 1) rfl (w.heap.size + 1) rfl 50 (nums .u16 (tabP 256)).toArray (0, 0) _ H3.out Try.underlying50 rfl HI.out ?_) | ((with_reducible refine gate_ (.store 50 (.tmp 0) (.tmp 13)) rfl ?_); refine wpList_store_cells rfl rfl 50 (.tmp 0) (.tmp 13) rfl w.heap.size 0 rfl (nums .u16 (tabP 256)).toArray rfl (nums .u16 (tabP 0)).toArray 50 H2.out (by rw [HS.out, HS0.out]; omega) HI.out (one_nums _ _) ?_; intro w2 h2 hch; have H6 := Aside0.mk h2; have H7 := Aside0.mk hch; clear h2 hch))
      have h8 : w2.heap[w.heap.size]? = some (.cells (nums .u16 (tabP 256)).toArray 50 (0, 0)) := by
        have := H6.out
        rw [List.take_zero, List.nil_append, List.drop_eq_nil_of_le (by rw [Array.length_toList, HS.out, HS0.out]; omega), List.append_nil, Array.toArray_toList] at this
        exact this
      refine bodyPost_ret (v := .agg (nums .u16 (tabP 256)).toArray) (results_cell_row Try.results44 _ _ w.heap.size 50 _ (0, 0) _ rfl h8 Try.underlying50 rfl HI.out) rfl ⟨rfl, ?_⟩
      exact HB2.out.trans (H7.out.toBelow (fun i hi => ⟨Nat.lt_of_lt_of_le hi HB2.out.size, by omega⟩))
end Go.Proofs.Ythdkmgeigdoglaa.Hand
