import Derived.Test.YtkgdphbccagjcaaN22
/- The law ExpectSame, as its row asks for it. -/
set_option linter.unusedVariables false
namespace Go.Proofs.Ytkgdphbccagjcaa.Hand
open Go Go.RowKit SL
theorem ExpectSame_walk (a0 : Option Addr) (c0 : Nat) (l0 : List Int) (a1 : Option Addr) (c1 : Nat) (l1 : List Int) (a2 : Int) (w : World)
    (hr0 : ReadsInt w .u8 a0 l0.length l0) (hc0 : l0.length ≤ c0) (y0 : l0.length * 1 ≤ 140737488351232) (hw0 : ∀ x ∈ l0, (Lit.int .u8 x).wf = true)
    (hr1 : ReadsInt w .u8 a1 l1.length l1) (hc1 : l1.length ≤ c1) (y1 : l1.length * 1 ≤ 140737488351232) (hw1 : ∀ x ∈ l1, (Lit.int .u8 x).wf = true)
    (w2 : (Lit.int .u8 a2).wf = true) :
    Calls Try.prog 17 #[.slice a0 l0.length c0, .slice a1 l1.length c1, .int .u8 a2] w fun e w' => e = .returned (.bool true) ∧ Below w.heap.size w w' := by
  have h2 : 0 ≤ a2 ∧ a2 ≤ 255 := U8s.of_wf (l := [a2]) (by simpa using w2) a2 (by simp)
  obtain ⟨k2, rfl⟩ := Int.eq_ofNat_of_zero_le h2.1
  exact SL.law_of ((SL.ExpectSame_t (H := []) k2 (by omega) (shows_start hr0) rfl (by omega) hc0 (U8s.of_wf hw0) (shows_start hr1) rfl (by omega) hc1 (U8s.of_wf hw1)).mono fun v h q => q.1)
end Go.Proofs.Ytkgdphbccagjcaa.Hand
