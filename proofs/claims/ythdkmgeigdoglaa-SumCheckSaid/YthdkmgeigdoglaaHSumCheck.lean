import Derived.Test.YthdkmgeigdoglaaH3
/- SumCheck, walked. -/
namespace Go.Proofs.Ythdkmgeigdoglaa.Hand
open Go.RowKit Go.Proofs.YthdkmgeigdoglaaW.PrintWords Go.Proofs.YthdkmgeigdoglaaW.PrintLast Go.Proofs.YthdkmgeigdoglaaW.PrintMore H
attribute [local go_sem] max_two min_two max_three min_three max_four min_four
set_option linter.unusedVariables false
set_option linter.unusedSimpArgs false
theorem sum_range (l : List Int) (h : U8s l) : 0 ≤ l.sum ∧ l.sum ≤ 255 * l.length := by
  induction l with
  | nil => simp
  | cons x l ih =>
    have h1 := h x (by simp)
    have h2 := ih (fun y hy => h y (by simp [hy]))
    simp only [List.sum_cons, List.length_cons]
    omega
theorem sum_snoc (l : List Int) (k : Nat) (hk : k < l.length) : (l.take (k + 1)).sum = (l.take k).sum + rd l k := by
  rw [take_snoc_rd l k hk]; simp
set_option maxHeartbeats 2000000 in
set_option maxRecDepth 100000 in
theorem SumCheck_walk (a0 : Option Addr) (c0 : Nat) (l0 : List Int) (w : World)
    (hr0 : ReadsInt w .u8 a0 l0.length l0) (hc0 : l0.length ≤ c0) (y0 : l0.length * 1 ≤ 140737488351232) (hw0 : ∀ x ∈ l0, (Lit.int .u8 x).wf = true) :
    Calls Try.prog 7 #[.slice a0 l0.length c0] w fun e w' => e = .returned (.bool true) ∧ Below w.heap.size w w' := by
  have HR0 := Aside0.mk hr0
  have HU0 := Aside0.mk (U8s.of_wf hw0)
  clear hr0 hw0
  go_enter Try.func7, Try.ntmps7
  go_wp2_with fail
  refine (awake01_calls w).mono ?_
  rintro e w1 ⟨rfl, hb⟩
  have HB := Aside0.mk hb
  clear hb
  go_wp2_with fail
  go_loop [3, 10] (fun n i => ∃ k : Nat, k ≤ l0.length ∧ i = .int .i64 k ∧ n = .int .i64 (l0.take k).sum) (fun _ i => l0.length - (intOf i).toNat)
  case atStart => exact ⟨0, Nat.zero_le _, rfl, rfl⟩
  case round =>
    obtain ⟨k, hk, rfl, rfl⟩ := hrel
    have hs := sum_range (l0.take k) (HU0.out.take k)
    have hsl : (l0.take k).length ≤ k := List.length_take_le _ _
    by_cases hlt : k < l0.length
    · obtain ⟨ad, e0, hx⟩ := HR0.out.at_ k (by omega) (by omega)
      cases e0
      have hy := pw_cell_below HB.out hx
      simp only [Int.toNat_natCast] at hy
      have hrk := HU0.out.at_ k
      have HS := Aside0.mk (sum_snoc l0 k hlt)
      clear hx
      go_wp2
      go_round
      case rel => exact ⟨k + 1, by omega, by go_num, by rw [HS.out]⟩
      case measure => simp [intOf]; omega
    · have HS := Aside0.mk (show l0.take k = l0 from List.take_of_length_le (by omega))
      go_wp2_with fail
      refine (check_calls a0 c0 l0 w1 (HR0.out.below HB.out) hc0).mono ?_
      rintro e w2 ⟨rfl, hd⟩
      have HB2 := Aside0.mk (below_then HB.out HB.out.size hd.below)
      clear hd
      rw [HS.out]
      rw [HS.out] at hs
      have e1 : (sumI l0 == l0.sum % 256) = true := by rw [sumI_eq, beq_self_eq_true]
      have hsr := sumI_range l0
      go_wp2
      go_ret
      exact ⟨rfl, HB2.out⟩
end Go.Proofs.Ythdkmgeigdoglaa.Hand
