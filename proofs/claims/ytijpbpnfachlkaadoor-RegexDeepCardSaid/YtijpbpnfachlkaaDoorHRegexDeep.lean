import Derived.Test.YtijpbpnfachlkaaDoorX3
/- The law RegexDeep, as its row asks for it. -/
set_option linter.unusedVariables false
namespace Go.Proofs.YtijpbpnfachlkaaDoor.Hand
open Go Go.RowKit SL
theorem RegexDeep_walk (a0 : Int) (a1 : Bool) (w : World) (hL : SL.Laid w)
    (w0 : (Lit.int .u8 a0).wf = true) :
    Calls Tryd.prog 6 #[.int .u8 a0, .bool a1] w fun e w' => e = .returned (.bool true) ∧ Below w.heap.size w w' := by
  have h0 : 0 ≤ a0 ∧ a0 ≤ 255 := U8s.of_wf (l := [a0]) (by simpa using w0) a0 (by simp)
  obtain ⟨k0, rfl⟩ := Int.eq_ofNat_of_zero_le h0.1
  exact SL.law_of ((SL.RegexDeep_t (H := []) hL (SL.laid_pos hL) k0 (by omega) a1).mono fun v h q => q.1)
end Go.Proofs.YtijpbpnfachlkaaDoor.Hand
