import Derived.Test.YthdkmgeigdoglaaH5
/- SumCrc, walked. -/
namespace Go.Proofs.Ythdkmgeigdoglaa.Hand
open Go.RowKit Go.Proofs.YthdkmgeigdoglaaW.PrintWords Go.Proofs.YthdkmgeigdoglaaW.PrintLast Go.Proofs.YthdkmgeigdoglaaW.PrintMore H
attribute [local go_sem] max_two min_two max_three min_three max_four min_four
set_option linter.unusedVariables false
set_option linter.unusedSimpArgs false
set_option maxHeartbeats 2000000 in
set_option maxRecDepth 100000 in
theorem SumCrc_walk (a0 : Option Addr) (c0 : Nat) (l0 : List Int) (w : World)
    (hr0 : ReadsInt w .u8 a0 l0.length l0) (hc0 : l0.length ≤ c0) (y0 : l0.length * 1 ≤ 140737488351232) (hw0 : ∀ x ∈ l0, (Lit.int .u8 x).wf = true) :
    Calls Try.prog 11 #[.slice a0 l0.length c0] w fun e w' => e = .returned (.bool true) ∧ Below w.heap.size w w' := by
  have HR0 := Aside0.mk hr0
  have HU0 := Aside0.mk (U8s.of_wf hw0)
  clear hr0 hw0
  go_enter Try.func11, Try.ntmps11
  go_wp2_with fail
  refine (awake01_calls w).mono ?_
  rintro e w1 ⟨rfl, hb⟩
  have HB := Aside0.mk hb
  clear hb
  go_wp2_with fail
  refine (table_any w1).mono ?_
  rintro e w2 ⟨rfl, hb⟩
  have HB2 := Aside0.mk (below_then HB.out HB.out.size hb)
  have HL2 := Aside0.mk HB2.out.size
  clear hb
  have HN := Aside0.mk (blk_new w2 (.cells Try.zeroCells50 50))
  go_wp2_with ((with_reducible refine gate_ (.store 50 (.tmp 3) (.tmp 6)) rfl ?_); refine wpList_store_all rfl rfl 50 (.tmp 3) (.tmp 6) rfl w2.heap.size rfl (nums .u16 (tabP 256)).toArray rfl Try.zeroCells50 50 HN.out (by rw [zsize, tabSize]) infoTab (one_nums _ _) ?_; intro w3 h3 hch; have H3 := Aside0.mk (show Tabl w3 w2.heap.size (tabP 256) from h3); have HB3 := Aside0.mk ((below_alloc HB2.out (.cells Try.zeroCells50 50)).trans (hch.toBelow (fun i hi => ⟨by have := HL2.out; simp; omega, by have := HL2.out; omega⟩))); clear h3 hch)
  refine (crc_calls a0 c0 l0 w3 (HR0.out.below HB3.out) hc0 HU0.out).mono ?_
  rintro e w4 ⟨rfl, hd⟩
  have HB4 := Aside0.mk (below_then HB3.out HB3.out.size hd.below)
  have H4 := Aside0.mk (show Tabl w4 w2.heap.size (tabP 256) from blk_below H3.out hd.below)
  clear hd
  go_wp2_with fail
  refine (lawcrc_any a0 l0.length c0 l0 w4 (HR0.out.below HB4.out) hc0 HU0.out).mono ?_
  rintro e w5 ⟨rfl, hd⟩
  have HB5 := Aside0.mk (below_then HB4.out HB4.out.size hd.below)
  have H5 := Aside0.mk (show Tabl w5 w2.heap.size (tabP 256) from blk_below H4.out hd.below)
  clear hd
  go_wp2_with fail
  refine (by_any w2.heap.size (tabP 256) a0 l0.length c0 l0 w5 H5.out (tabP_len _ (by omega)) (HR0.out.below HB5.out) hc0 HU0.out).mono ?_
  rw [byI_tab l0 HU0.out]
  rintro e w6 ⟨rfl, rfl⟩
  go_wp2_with fail
  refine (lawcrc_any a0 l0.length c0 l0 w5 (HR0.out.below HB5.out) hc0 HU0.out).mono ?_
  rintro e w6 ⟨rfl, hd⟩
  have HB6 := Aside0.mk (below_then HB5.out HB5.out.size hd.below)
  clear hd
  go_wp2
  go_ret
  exact ⟨rfl, HB6.out⟩
end Go.Proofs.Ythdkmgeigdoglaa.Hand
