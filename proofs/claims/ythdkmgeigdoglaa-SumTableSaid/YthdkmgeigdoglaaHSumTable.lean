import Derived.OpenShut
import Derived.WideShapes
import Derived.Test.YthdkmgeigdoglaaH5
/- SumTable, walked; an array that comes in by value. -/
namespace Go.Proofs.Ythdkmgeigdoglaa.Hand
open Go.RowKit Go.Proofs.YthdkmgeigdoglaaW.PrintWords Go.Proofs.YthdkmgeigdoglaaW.PrintLast Go.Proofs.YthdkmgeigdoglaaW.PrintMore H
attribute [local go_sem] max_two min_two max_three min_three max_four min_four
set_option linter.unusedVariables false
set_option linter.unusedSimpArgs false
/-- An array of whole numbers that comes in by value. -/
theorem open_arr {H : Type} {enc : TypeId × Value → H} {P : Program} {w : World} {base b0 : Nat} {spare : Nat → Bool} {held : Bool} {r : Reach} {t e : TypeId} {n : Nat} {k : IntKind} {v : Value} {d : DataW H} {p : List MemPlace}
    (ht : P.underlying t = some (.array n e)) (he : P.underlying e = some (.int k)) (hce : P.cellsOf e = 1) (hct : P.cellsOf t = n) (hv : Value.okWide P w r b0 t v) (h : DataW.Trod enc P w base spare held t v d p) :
    ∃ xs : List Int, xs.length = n ∧ v = .agg (nums k xs).toArray ∧ ∀ x ∈ xs, (Lit.int k x).wf = true := by
  simp only [Value.okWide, ht] at hv
  obtain ⟨cs, rfl, hs, _⟩ := hv
  obtain ⟨fuel, hf⟩ := h
  obtain ⟨ys, m, _, _, _, hyl, hg⟩ := DataW.trod_array ht hf
  have hs' : cs.toList.length = n := by rw [Array.length_toList, hs, hct]
  have key : ∀ i, i < n → ∃ x : Int, cs.toList[i]? = some (.int k x) ∧ (Lit.int k x).wf = true := by
    intro i hi
    have h1 := hg i hi
    rw [hce, Nat.mul_one] at h1
    have hy : ys[i]? = some (ys[i]'(by omega)) := List.getElem?_eq_getElem (by omega)
    rw [hy] at h1
    have hone : ((Value.agg cs).cells.toList.drop i).take 1 = [cs.toList[i]'(by omega)] := by
      show (cs.toList.drop i).take 1 = _
      rw [List.drop_eq_getElem_cons (by omega)]
      rfl
    rw [hone] at h1
    obtain ⟨x, hx, _, hw⟩ := DataW.trod_int he h1
    refine ⟨x, ?_, hw⟩
    rw [List.getElem?_eq_getElem (by omega)]
    injection hx with hx
    rw [hx]
  let f : Nat → Int := fun i => match cs.toList[i]? with | some (.int _ x) => x | _ => 0
  refine ⟨(List.range n).map f, by simp, ?_, ?_⟩
  · congr 1
    apply Array.ext'
    apply List.ext_getElem?
    intro i
    by_cases hi : i < n
    · obtain ⟨x, hx, _⟩ := key i hi
      have hfx : f i = x := by simp only [f, hx]
      rw [hx]
      simp [nums, List.getElem?_range hi, hfx]
    · rw [List.getElem?_eq_none (by omega)]
      simp [nums, hi]
  · intro x hx
    obtain ⟨i, hi, rfl⟩ := List.mem_map.1 hx
    obtain ⟨y, hy, hw⟩ := key i (by simpa using hi)
    have hfx : f i = y := by simp only [f, hy]
    rw [hfx]
    exact hw
theorem U16s_of_wf {l : List Int} (h : ∀ x ∈ l, (Lit.int .u16 x).wf = true) : U16s l := fun x hx => by
  have := h x hx
  simp [Lit.wf, IntKind.min, IntKind.max, IntKind.signed, IntKind.bits] at this
  omega
theorem byStep_law (t : List Int) (r c : Int) (h0 : 0 ≤ r) (h1 : r ≤ 65535) : byStep t r c = Go.bits .xor .u16 (r % 256 * 256) (rd t (Go.bits .xor .u8 (r / 256) c)) := by
  unfold byStep
  rw [wrap_u16, show (r * 256) % 65536 = r % 256 * 256 from by omega]
theorem crc_one (q : Nat) : crcI [(q : Int)] = tabI q := rfl
set_option maxHeartbeats 2000000 in
set_option maxRecDepth 100000 in
theorem SumTable_walk (a0 : Int) (a1 : Option Addr) (c1 : Nat) (l1 : List Int) (t2 : List Int) (w : World) (hw0 : (Lit.int .u8 a0).wf = true)
    (hr1 : ReadsInt w .u8 a1 l1.length l1) (hc1 : l1.length ≤ c1) (y1 : l1.length * 1 ≤ 140737488351232) (hw1 : ∀ x ∈ l1, (Lit.int .u8 x).wf = true)
    (ht2 : t2.length = 256) (hw2 : ∀ x ∈ t2, (Lit.int .u16 x).wf = true) :
    Calls Try.prog 12 #[.int .u8 a0, .slice a1 l1.length c1, .agg (nums .u16 t2).toArray] w fun e w' => e = .returned (.bool true) ∧ Below w.heap.size w w' := by
  have HR1 := Aside0.mk hr1
  have HU1 := Aside0.mk (U8s.of_wf hw1)
  have HU2 := Aside0.mk (U16s_of_wf hw2)
  have HT2 := Aside0.mk ht2
  have b0 : 0 ≤ a0 ∧ a0 ≤ 255 := by simp [Lit.wf, IntKind.min, IntKind.max, IntKind.signed, IntKind.bits] at hw0; omega
  clear hr1 hw1 hw2 ht2 hw0
  go_enter Try.func12, Try.ntmps12
  go_wp2_with fail
  have HN0 := Aside0.mk (show Tabl (w.alloc (.cells (nums .u16 t2).toArray 50)) w.heap.size t2 from blk_new w _)
  have HB0 := Aside0.mk (below_alloc (Below.refl w.heap.size w) (.cells (nums .u16 t2).toArray 50))
  refine (awake01_calls _).mono ?_
  rintro e w1 ⟨rfl, hb⟩
  have HB := Aside0.mk (below_then HB0.out HB0.out.size hb)
  have HN1 := Aside0.mk (show Tabl w1 w.heap.size t2 from blk_below HN0.out hb)
  clear hb HN0 HB0
  go_wp2_with fail
  refine (table_any w1).mono ?_
  rintro e w2 ⟨rfl, hb⟩
  have HB2 := Aside0.mk (below_then HB.out HB.out.size hb)
  have HL2 := Aside0.mk HB2.out.size
  have HN2 := Aside0.mk (show Tabl w2 w.heap.size t2 from blk_below HN1.out hb)
  clear hb HN1
  have HN := Aside0.mk (blk_new w2 (.cells Try.zeroCells50 50))
  have HG := Aside0.mk (blk_lt HN2.out)
  go_wp2_with ((with_reducible refine gate_ (.store 50 (.tmp 7) (.tmp 13)) rfl ?_); refine wpList_store_all rfl rfl 50 (.tmp 7) (.tmp 13) rfl w2.heap.size rfl (nums .u16 (tabP 256)).toArray rfl Try.zeroCells50 50 HN.out (by rw [zsize, tabSize]) infoTab (one_nums _ _) ?_; intro w3 h3 hch; have H3 := Aside0.mk (show Tabl w3 w2.heap.size (tabP 256) from h3); have HB3 := Aside0.mk ((below_alloc HB2.out (.cells Try.zeroCells50 50)).trans (hch.toBelow (fun i hi => ⟨by have := HL2.out; simp; omega, by have := HL2.out; omega⟩))); have HN3 := Aside0.mk (show Tabl w3 w.heap.size t2 from (hch.block w.heap.size (by have := HG.out; simp; omega) (by have := HG.out; omega)).trans (blk_alloc HN2.out _)); clear h3 hch)
  clear HN HN2 HB2
  generalize w2.heap.size = g at *
  go_loop [8, 16] (fun r i => ∃ k : Nat, k ≤ l1.length ∧ i = .int .i64 k ∧ r = .int .u16 (byI t2 (l1.take k))) (fun _ i => l1.length - (intOf i).toNat)
  case atStart => exact ⟨0, Nat.zero_le _, rfl, rfl⟩
  case round =>
    obtain ⟨k, hk, rfl, rfl⟩ := hrel
    have hr := byI_range t2 (l1.take k)
    by_cases hlt : k < l1.length
    · obtain ⟨ad, e0, hx⟩ := HR1.out.at_ k (by omega) (by omega)
      cases e0
      have hy := pw_cell_below HB3.out hx
      simp only [Int.toNat_natCast] at hy
      have hu := HU1.out.at_ k
      have hx8 := xor8_range (byI t2 (l1.take k) / 256) (rd l1 k)
      obtain ⟨q, hq⟩ : ∃ q : Nat, Go.bits .xor .u8 (byI t2 (l1.take k) / 256) (rd l1 k) = q := ⟨(Go.bits .xor .u8 (byI t2 (l1.take k) / 256) (rd l1 k)).toNat, by omega⟩
      have hq1 : q < 256 := by omega
      have hcell := HN3.out.cell q (by rw [HT2.out]; exact hq1)
      have HS := Aside0.mk (byI_snoc t2 l1 k hlt)
      have HQ := Aside0.mk hq
      have HE := Aside0.mk (byStep_law t2 (byI t2 (l1.take k)) (rd l1 k) hr.1 hr.2)
      clear hx8 hx
      have hd : IntKind.u16.wrap ((byI t2 (l1.take k)).tdiv 256) % 256 = byI t2 (l1.take k) / 256 := by
        rw [wrap_u16, Int.tdiv_eq_ediv_of_nonneg hr.1]; omega
      go_wp2
      go_round
      case rel => exact ⟨k + 1, by omega, by go_num, by rw [HS.out, HE.out, HQ.out]⟩
      case measure => simp [intOf]; omega
    · have HS := Aside0.mk (show l1.take k = l1 from List.take_of_length_le (by omega))
      obtain ⟨q, rfl⟩ := Int.eq_ofNat_of_zero_le b0.1
      have hq1 : q < 256 := by omega
      have hcell := H3.out.cell q (by rw [tabP_len _ (by omega)]; exact hq1)
      rw [tab_at q hq1] at hcell
      have hcell2 : (w3.alloc (.cells #[.int .u8 (q : Int)] 5)).cell? ⟨g, q, none⟩ = some (.int .u16 (tabI q)) := pw_cell_below (below_alloc (Below.refl _ _) _) hcell
      rw [HS.out]
      go_wp2_with fail
      go_region_with (first | (go_at_call 45; refine (lawcrc_any _ 1 1 [(q : Int)] _ (by exact reads_lit w3 .u8 5 [(q : Int)] (by simp)) (Nat.le_refl _) (U8s.one (by omega) (by omega))).mono ?_; rw [crc_one]; rintro e w5 ⟨rfl, ⟨n5, rfl⟩⟩) | (go_at_call 46; refine (by_any w.heap.size t2 a1 l1.length c1 l1 _ (by exact blk_drewN (blk_alloc HN3.out _) _) HT2.out (by exact ((HR1.out.below HB3.out).allocS _).drewN _) hc1 HU1.out).mono ?_; rintro e w6 ⟨rfl, rfl⟩))
      all_goals (go_wp2; go_ret; exact ⟨by first | rfl | (simp [Act.put]; done) | (simp [Act.put, Act.eval]; done), by repeat (first | exact HB3.out | apply pw_below_drewN | apply below_drew | apply below_alloc)⟩)
end Go.Proofs.Ythdkmgeigdoglaa.Hand
