import Derived.Test.YtkgdphbccagjcaaN16
/- The law MatchParts, as its row asks for it. -/
set_option linter.unusedVariables false
namespace Go.Proofs.Ytkgdphbccagjcaa.Hand
open Go Go.RowKit SL
theorem MatchParts_walk (a0 : Option Addr) (c0 : Nat) (l0 : List Int) (a1 : Option Addr) (c1 : Nat) (l1 : List Int) (a2 : Option Addr) (c2 : Nat) (l2 : List Int) (a3 : Int) (w : World)
    (hr0 : ReadsInt w .u8 a0 l0.length l0) (hc0 : l0.length ≤ c0) (y0 : l0.length * 1 ≤ 140737488351232) (hw0 : ∀ x ∈ l0, (Lit.int .u8 x).wf = true)
    (hr1 : ReadsInt w .u8 a1 l1.length l1) (hc1 : l1.length ≤ c1) (y1 : l1.length * 1 ≤ 140737488351232) (hw1 : ∀ x ∈ l1, (Lit.int .u8 x).wf = true)
    (hr2 : ReadsInt w .u8 a2 l2.length l2) (hc2 : l2.length ≤ c2) (y2 : l2.length * 1 ≤ 140737488351232) (hw2 : ∀ x ∈ l2, (Lit.int .u8 x).wf = true)
    (w3 : (Lit.int .u8 a3).wf = true) :
    Calls Try.prog 3 #[.slice a0 l0.length c0, .slice a1 l1.length c1, .slice a2 l2.length c2, .int .u8 a3] w fun e w' => e = .returned (.bool true) ∧ Below w.heap.size w w' := by
  have h3 : 0 ≤ a3 ∧ a3 ≤ 255 := U8s.of_wf (l := [a3]) (by simpa using w3) a3 (by simp)
  obtain ⟨k3, rfl⟩ := Int.eq_ofNat_of_zero_le h3.1
  exact SL.law_of ((SL.MatchParts_t (H := []) k3 (by omega) (shows_start hr0) rfl (by omega) hc0 (U8s.of_wf hw0) (shows_start hr1) rfl (by omega) hc1 (U8s.of_wf hw1) (shows_start hr2) rfl (by omega) hc2 (U8s.of_wf hw2)).mono fun v h q => q.1)
end Go.Proofs.Ytkgdphbccagjcaa.Hand
