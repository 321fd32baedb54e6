import Derived.Test.YtkgdphbccagjcaaN12
/- The law NfaStar, as its row asks for it. -/
set_option linter.unusedVariables false
namespace Go.Proofs.Ytkgdphbccagjcaa.Hand
open Go Go.RowKit SL
theorem NfaStar_walk (a0 : Option Addr) (c0 : Nat) (l0 : List Int) (a1 : Int) (a2 : Option Addr) (c2 : Nat) (l2 : List Int) (w : World)
    (hr0 : ReadsInt w .u8 a0 l0.length l0) (hc0 : l0.length ≤ c0) (y0 : l0.length * 1 ≤ 140737488351232) (hw0 : ∀ x ∈ l0, (Lit.int .u8 x).wf = true)
    (w1 : (Lit.int .u8 a1).wf = true)
    (hr2 : ReadsInt w .u8 a2 l2.length l2) (hc2 : l2.length ≤ c2) (y2 : l2.length * 1 ≤ 140737488351232) (hw2 : ∀ x ∈ l2, (Lit.int .u8 x).wf = true) :
    Calls Try.prog 10 #[.slice a0 l0.length c0, .int .u8 a1, .slice a2 l2.length c2] w fun e w' => e = .returned (.bool true) ∧ Below w.heap.size w w' := by
  have h1 : 0 ≤ a1 ∧ a1 ≤ 255 := U8s.of_wf (l := [a1]) (by simpa using w1) a1 (by simp)
  obtain ⟨k1, rfl⟩ := Int.eq_ofNat_of_zero_le h1.1
  exact SL.law_of ((SL.NfaStar_t (H := []) k1 (by omega) (shows_start hr0) rfl (by omega) hc0 (U8s.of_wf hw0) (shows_start hr2) rfl (by omega) hc2 (U8s.of_wf hw2)).mono fun v h q => q.1)
end Go.Proofs.Ytkgdphbccagjcaa.Hand
