import Derived.Test.YtijpbpnfachlkaaDoorX12
/- The law RegexQuote, as the second form of its row asks for it. -/
set_option linter.unusedVariables false
namespace Go.Proofs.YtijpbpnfachlkaaDoor.Hand
open Go Go.RowKit SL
theorem RegexQuote_walk (a0 a1 : ByteArray) (w : World) (hL : SL.Laid w) (w0 : a0.size ≤ 1048576) (w1 : a1.size ≤ 1048576) :
    Calls Tryd.prog 7 #[.string a0, .string a1] w fun e w' => e = .returned (.bool true) ∧ Below w.heap.size w w' := by
  exact SL.law_of ((SL.RegexQuote_t (H := []) hL (SL.laid_pos hL) w0 w1).mono fun v h q => q.1)
end Go.Proofs.YtijpbpnfachlkaaDoor.Hand
