import Derived.Test.YtijpbpnfachlkaaDoorX7
/- The law RegexWrong, as its row asks for it. -/
set_option linter.unusedVariables false
namespace Go.Proofs.YtijpbpnfachlkaaDoor.Hand
open Go Go.RowKit SL
theorem RegexWrong_walk (a0 : ByteArray) (w : World) (hL : SL.Laid w)
    (w0 : a0.size ≤ 140737488351232) :
    Calls Tryd.prog 5 #[.string a0] w fun e w' => e = .returned (.bool true) ∧ Below w.heap.size w w' := by
  exact SL.law_of ((SL.RegexWrong_t (H := []) hL (SL.laid_pos hL) w0).mono fun v h q => q.1)
end Go.Proofs.YtijpbpnfachlkaaDoor.Hand
