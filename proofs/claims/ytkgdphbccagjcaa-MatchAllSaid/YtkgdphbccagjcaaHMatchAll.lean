import Derived.Test.YtkgdphbccagjcaaP11
/- The law MatchAll, as its row asks for it. -/
set_option linter.unusedVariables false
namespace Go.Proofs.Ytkgdphbccagjcaa.Hand
open Go Go.RowKit SL
theorem u8_of_wf {n : Int} (h : (Lit.int .u8 n).wf = true) : 0 ≤ n ∧ n ≤ 255 := U8s.of_wf (l := [n]) (by simpa using h) n (by simp)
theorem MatchAll_walk (a0 : Option Addr) (c0 : Nat) (l0 : List Int) (a1 : Int) (w : World)
    (hr : ReadsInt w .u8 a0 l0.length l0) (hc : l0.length ≤ c0) (y : l0.length * 1 ≤ 140737488351232) (hw : ∀ x ∈ l0, (Lit.int .u8 x).wf = true) (w1 : (Lit.int .u8 a1).wf = true) :
    Calls Try.prog 5 #[.slice a0 l0.length c0, .int .u8 a1] w fun e w' => e = .returned (.bool true) ∧ Below w.heap.size w w' := by
  have h1 := u8_of_wf w1
  obtain ⟨k, rfl⟩ := Int.eq_ofNat_of_zero_le h1.1
  exact SL.law_of ((SL.MatchAll_t (H := []) k (shows_start hr) rfl (by omega) hc (U8s.of_wf hw) (by omega)).mono fun v h q => q.1)
end Go.Proofs.Ytkgdphbccagjcaa.Hand
