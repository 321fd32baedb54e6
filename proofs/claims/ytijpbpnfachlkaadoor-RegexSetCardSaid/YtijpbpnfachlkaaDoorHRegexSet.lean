import Derived.Test.YtijpbpnfachlkaaDoorX4
/- The law RegexSet, as its row asks for it. -/
set_option linter.unusedVariables false
namespace Go.Proofs.YtijpbpnfachlkaaDoor.Hand
open Go Go.RowKit SL
theorem RegexSet_walk (a0 : Option Addr) (c0 : Nat) (l0 : List Int) (a1 : Int) (w : World) (hL : SL.Laid w)
    (hr0 : ReadsInt w .u8 a0 l0.length l0) (hc0 : l0.length ≤ c0) (y0 : l0.length * 1 ≤ 140737488351232) (hw0 : ∀ x ∈ l0, (Lit.int .u8 x).wf = true)
    (w1 : (Lit.int .u8 a1).wf = true) :
    Calls Tryd.prog 4 #[.slice a0 l0.length c0, .int .u8 a1] w fun e w' => e = .returned (.bool true) ∧ Below w.heap.size w w' := by
  have h1 : 0 ≤ a1 ∧ a1 ≤ 255 := U8s.of_wf (l := [a1]) (by simpa using w1) a1 (by simp)
  obtain ⟨k1, rfl⟩ := Int.eq_ofNat_of_zero_le h1.1
  exact SL.law_of ((SL.RegexSet_t (H := []) hL (SL.laid_pos hL) k1 (by omega) (shows_start hr0) rfl (by omega) hc0 (U8s.of_wf hw0)).mono fun v h q => q.1)
end Go.Proofs.YtijpbpnfachlkaaDoor.Hand
