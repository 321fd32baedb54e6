import Derived.Test.YthdkmgeigdoglaaH3
/- SumPrint, walked. -/
namespace Go.Proofs.Ythdkmgeigdoglaa.Hand
open Go.RowKit Go.Proofs.YthdkmgeigdoglaaW.PrintWords Go.Proofs.YthdkmgeigdoglaaW.PrintLast Go.Proofs.YthdkmgeigdoglaaW.PrintMore H
attribute [local go_sem] max_two min_two max_three min_three max_four min_four
set_option linter.unusedVariables false
set_option linter.unusedSimpArgs false
theorem print_loop (l : List Int) (hl : l.length ≤ 9223372036854775807) (hu : U8s l) (d : Nat) : ∀ (k i : Nat) (s t : Int), (s, t) = adler (0, 0) (l.take i) → i + d = l.length → d < k →
    PSumPrint.lifelinelaw01_print.l0 k s t l (l.length : Int) (i : Int) = some (prI l) := by
  induction d with
  | zero =>
    intro k i s t hs hi hk
    obtain ⟨k, rfl⟩ : ∃ m, k = m + 1 := ⟨k - 1, by omega⟩
    simp only [PSumPrint.lifelinelaw01_print.l0]
    rw [if_neg (by omega)]
    rw [List.take_of_length_le (by omega)] at hs
    have hr := adler_range (0, 0) l (by simp) (by simp) (by simp) (by simp)
    unfold prI
    rw [← hs] at hr ⊢
    simp only at hr ⊢
    congr 1
    unfold wrap64
    omega
  | succ d ih =>
    intro k i s t hs hi hk
    obtain ⟨k, rfl⟩ : ∃ m, k = m + 1 := ⟨k - 1, by omega⟩
    have hw : wrap64 ((i : Int) + 1) = ((i + 1 : Nat) : Int) := by unfold wrap64; omega
    have hr := adler_range (0, 0) (l.take i) (by simp) (by simp) (by simp) (by simp)
    have hu1 := hu.at_ i
    rw [← hs] at hr
    simp only at hr
    simp only [PSumPrint.lifelinelaw01_print.l0]
    rw [if_pos (by omega), if_pos (by omega), if_pos (by omega), hw]
    have w1 : wrap64 (rd l i) = rd l i := by unfold wrap64; omega
    have w2 : wrap64 (s + rd l i) = s + rd l i := by unfold wrap64; omega
    have w3 : Int.tmod (s + rd l i) 65521 = (s + rd l i) % 65521 := Int.tmod_eq_emod_of_nonneg (by omega)
    rw [w1, w2, w3]
    have w4 : wrap64 (wrap64 (t + (s + rd l i) % 65521) + 1) = t + (s + rd l i) % 65521 + 1 := by unfold wrap64; omega
    rw [w4, Int.tmod_eq_emod_of_nonneg (by omega)]
    refine ih k (i + 1) _ _ ?_ (by omega) (by omega)
    rw [adler_snoc _ _ _ (by omega), ← hs]
    rfl
theorem lawprint_any (A : Option Addr) (m c : Nat) (l : List Int) (w : World) (hr : ReadsInt w .u8 A m l) (hc : m ≤ c) (hu : U8s l) :
    Calls Try.prog 41 #[.slice A m c] w fun e w' => e = .returned (.int .u32 (prI l)) ∧ Drawn0 w w' := by
  obtain rfl := hr.1
  exact PSumPrint.lifelinelaw01_print.calls (l.length + 1) A c l (prI l) w (Kd.C_of_reads (d := (0 : Int)) (h1 := fun _ => rfl) hr) hc (print_loop l hr.2.1 hu l.length _ 0 0 0 (by simp [adler]) (by omega) (by omega))
theorem write_any (g : Nat) (p : Int × Int) (A : Option Addr) (m c : Nat) (l : List Int) (w : World)
    (hb : w.heap[g]? = some (.cells #[.int .u32 p.1, .int .u32 p.2] 43 (0, 0))) (hr : ReadsInt w .u8 A m l) (hA : ∀ ad, A = some ad → 0 < m → ad.block ≠ g)
    (hc : m ≤ c) (hu : U8s l) (hp : 0 ≤ p.1 ∧ p.1 < 65521 ∧ 0 ≤ p.2 ∧ p.2 < 65521) :
    Calls Try.prog 39 #[.pointer (some ⟨g, 0, none⟩), .slice A m c] w fun e w' => e = .returned (.tuple #[]) ∧
      w'.heap[g]? = some (.cells #[.int .u32 (adler p l).1, .int .u32 (adler p l).2] 43 (0, 0)) ∧ Ch (· = g) w w' := by
  obtain rfl := hr.1
  exact write_calls g p.1 p.2 A c l w hb hr hA hc hu hp.1 hp.2.1 hp.2.2.1 hp.2.2.2
theorem print_any (A : Option Addr) (m c : Nat) (l : List Int) (w : World) (hr : ReadsInt w .u8 A m l) (hA : ∀ ad, A = some ad → 0 < m → ad.block < w.heap.size) (hc : m ≤ c) (hu : U8s l) :
    Calls Try.prog 40 #[.slice A m c] w fun e w' => e = .returned (.int .u32 (prI l)) ∧ Below w.heap.size w w' := by
  obtain rfl := hr.1
  exact print_calls A c l w hr hA hc hu
theorem reads_lt {w : World} {k : IntKind} {A : Option Addr} {n : Nat} {xs : List Int} (h : ReadsInt w k A n xs) : ∀ ad, A = some ad → 0 < n → ad.block < w.heap.size := by
  intro ad ha hn
  obtain ⟨ad', he, hc⟩ := h.2.2 hn
  rw [ha] at he
  injection he with he
  subst he
  have := World.block_lt_of_cell? w _ (hc 0 hn)
  simpa [add_block] using this
theorem adler_append (p : Int × Int) (a b : List Int) : adler p (a ++ b) = adler (adler p a) b := by unfold adler; rw [List.foldl_append]
theorem adler_cut (l : List Int) (p q : Nat) : adler (adler (0, 0) (l.take p)) ((l.drop p).take q) = adler (0, 0) (l.take (p + q)) := by
  rw [← adler_append, ← List.take_add]
set_option maxHeartbeats 2000000 in
set_option maxRecDepth 100000 in
theorem SumPrint_walk (a0 : Option Addr) (c0 : Nat) (l0 : List Int) (a1 : Option Addr) (c1 : Nat) (l1 : List Int) (w : World)
    (hr0 : ReadsInt w .u8 a0 l0.length l0) (hc0 : l0.length ≤ c0) (y0 : l0.length * 1 ≤ 140737488351232) (hw0 : ∀ x ∈ l0, (Lit.int .u8 x).wf = true)
    (hr1 : ReadsInt w .u8 a1 l1.length l1) (hc1 : l1.length ≤ c1) (y1 : l1.length * 1 ≤ 140737488351232) (hw1 : ∀ x ∈ l1, (Lit.int .u8 x).wf = true) :
    Calls Try.prog 8 #[.slice a0 l0.length c0, .slice a1 l1.length c1] w fun e w' => e = .returned (.bool true) ∧ Below w.heap.size w w' := by
  have HR0 := Aside0.mk hr0
  have HR1 := Aside0.mk hr1
  have HU0 := Aside0.mk (U8s.of_wf hw0)
  have HU1 := Aside0.mk (U8s.of_wf hw1)
  clear hr0 hr1 hw0 hw1
  obtain ⟨i5, hi5, _, hi5s, _⟩ := info_parts info5
  have HI := Aside0.mk hi5
  have HS := Aside0.mk hi5s
  clear hi5 hi5s
  go_enter Try.func8, Try.ntmps8
  go_wp2_with fail
  refine (awake01_calls w).mono ?_
  rintro e w1 ⟨rfl, hb⟩
  have HB := Aside0.mk hb
  have HL := Aside0.mk hb.size
  clear hb
  go_wp2_with fail
  have HN := Aside0.mk (blk_new w1 (.cells #[.int .u32 0, .int .u32 0] 43))
  have HB1 := Aside0.mk (HB.out.alloc HL.out (.cells #[.int .u32 0, .int .u32 0] 43))
  generalize w1.heap.size = g at *
  go_loopw [6, 17] (fun v i wr => ∃ (k p n : Nat) (A : Option Addr) (c : Nat), k ≤ l1.length ∧ n ≤ l0.length ∧ n ≤ c ∧ i = .int .i64 k ∧ v = .slice A n c ∧ Aside0 (p + n = l0.length) ∧ Aside0 (ReadsInt w .u8 A n (l0.drop p)) ∧
      Aside0 (wr.heap[g]? = some (.cells #[.int .u32 (adler (0, 0) (l0.take p)).1, .int .u32 (adler (0, 0) (l0.take p)).2] 43 (0, 0))) ∧ Aside0 (Below w.heap.size w wr)) (fun _ i _ => l1.length - (intOf i).toNat)
  case atStart => exact ⟨0, 0, l0.length, a0, c0, Nat.zero_le _, Nat.le_refl _, hc0, rfl, rfl, ⟨by omega⟩, ⟨HR0.out⟩, ⟨HN.out⟩, ⟨HB1.out⟩⟩
  case round =>
    obtain ⟨k, p, n, A, c, hk, hn, hnc, rfl, rfl, HP, HR, HG, HB2⟩ := hrel
    clear HN HB1
    by_cases hlt : k < l1.length
    · obtain ⟨ad, e0, hx⟩ := HR1.out.at_ k (by omega) (by omega)
      cases e0
      have hy := pw_cell_below HB2.out hx
      simp only [Int.toNat_natCast] at hy
      have hrk := HU1.out.at_ k
      obtain ⟨q, hq⟩ : ∃ q : Nat, rd l1 k % ((n : Int) + 1) = q := ⟨(rd l1 k % ((n : Int) + 1)).toNat, by have := Int.emod_nonneg (rd l1 k) (show (n : Int) + 1 ≠ 0 by omega); omega⟩
      have hqn : q ≤ n := by have := Int.emod_lt_of_pos (rd l1 k) (show (0 : Int) < (n : Int) + 1 by omega); omega
      obtain ⟨A2, hrun, hread⟩ := print_cut (P := Try.prog) 23 5 .i64 Try.underlying23 HI.out HS.out A n c q hqn
      have HRD := Aside0.mk (hread w .u8 _ hnc HR.out)
      clear hx hread
      go_wp2_with fail
      have hrp := adler_range (0, 0) (l0.take p) (by simp) (by simp) (by simp) (by simp)
      have hRt := HR.out.take_ q hqn
      refine (write_any g (adler (0, 0) (l0.take p)) A q c ((l0.drop p).take q) wr HG.out (hRt.below HB2.out) (far_int hRt HL.out) (by omega) ((HU0.out.drop _).take _) hrp).mono ?_
      rw [adler_cut]
      rintro e w2 ⟨rfl, hb2, hch⟩
      have HG2 := Aside0.mk hb2
      have HB3 := Aside0.mk (HB2.out.trans (hch.toBelow (fun i hi => ⟨Nat.lt_of_lt_of_le hi HB2.out.size, by have := HL.out; omega⟩)))
      clear hb2 hch hRt hrp
      go_wp2
      go_roundw
      case rel => exact ⟨k + 1, p + q, n - q, A2, c - q, by omega, by omega, by omega, by go_num, rfl, ⟨by have := HP.out; omega⟩, ⟨by have := HRD.out; rwa [List.drop_drop] at this⟩, HG2, HB3⟩
      case measure => simp [intOf]; omega
    · go_wp2_with fail
      have hrp := adler_range (0, 0) (l0.take p) (by simp) (by simp) (by simp) (by simp)
      refine (write_any g (adler (0, 0) (l0.take p)) A n c (l0.drop p) wr HG.out (HR.out.below HB2.out) (far_int HR.out HL.out) hnc (HU0.out.drop _) hrp).mono ?_
      rw [← adler_append, List.take_append_drop]
      rintro e w2 ⟨rfl, hb2, hch⟩
      have HG2 := Aside0.mk hb2
      have HB3 := Aside0.mk (HB2.out.trans (hch.toBelow (fun i hi => ⟨Nat.lt_of_lt_of_le hi HB2.out.size, by have := HL.out; omega⟩)))
      clear hb2 hch hrp
      go_wp2_with fail
      refine (print_any a0 l0.length c0 l0 w2 (HR0.out.below HB3.out) (reads_lt (HR0.out.below HB3.out)) hc0 HU0.out).mono ?_
      rintro e w3 ⟨rfl, hb⟩
      have HB4 := Aside0.mk (below_then HB3.out HB3.out.size hb)
      have HG3 := Aside0.mk (blk_below HG2.out hb)
      clear hb
      go_wp2_with fail
      refine (lawprint_any a0 l0.length c0 l0 w3 (HR0.out.below HB4.out) hc0 HU0.out).mono ?_
      rintro e w4 ⟨rfl, hd⟩
      have HB5 := Aside0.mk (below_then HB4.out HB4.out.size hd.below)
      have HG4 := Aside0.mk (blk_below HG3.out hd.below)
      clear hd
      go_wp2_with fail
      refine (PSumPrint.sum_Printer_Sum.calls g _ _ _ _ _ w w4 ⟨HG4.out, HL.out⟩ HB5.out rfl).mono ?_
      rintro e w5 ⟨rfl, hI, hB, hK⟩
      have hrp := adler_range (0, 0) l0 (by simp) (by simp) (by simp) (by simp)
      rw [or_print _ _ hrp.1 hrp.2.1 hrp.2.2.1 hrp.2.2.2]
      have HB6 := Aside0.mk hB
      have e1 : ((adler (0, 0) l0).snd * 65536 + (adler (0, 0) l0).fst == prI l0) = true := by unfold prI; exact beq_self_eq_true _
      clear hI hB hK hrp
      go_wp2_with fail
      refine (lawprint_any a0 l0.length c0 l0 w5 (HR0.out.below HB6.out) hc0 HU0.out).mono ?_
      rintro e w6 ⟨rfl, hd⟩
      have HB7 := Aside0.mk (below_then HB6.out HB6.out.size hd.below)
      clear hd
      go_wp2
      go_ret
      exact ⟨rfl, HB7.out⟩
end Go.Proofs.Ythdkmgeigdoglaa.Hand
