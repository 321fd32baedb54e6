import Derived.Test.YtcbkcggijejooaaDoorD2
/- The law ReceiverAsks, as its row asks for it. -/
set_option linter.unusedVariables false
namespace Go.Proofs.YtcbkcggijejooaaDoor.Hand
open Go Go.RowKit SL
theorem ReceiverAsks_walk (a b : Int) (a1 a2 : Bool) (w : World) (hL : SL.Laid w) (wa : (Lit.int .i64 a).wf = true) (wb : (Lit.int .i64 b).wf = true) :
    Calls Tryd.prog 4 #[.agg #[.int .i64 a, .int .i64 b], .bool a1, .bool a2] w fun e w' => e = .returned (.bool true) ∧ Below w.heap.size w w' :=
  SL.law_of ((SL.ReceiverAsks_t (H := []) a b a1 a2 hL (SL.laid_pos hL)).mono fun v h q => q.1)
end Go.Proofs.YtcbkcggijejooaaDoor.Hand
