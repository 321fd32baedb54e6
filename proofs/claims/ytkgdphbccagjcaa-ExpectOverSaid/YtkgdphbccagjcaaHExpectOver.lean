import Derived.Test.YtkgdphbccagjcaaN20
/- The law ExpectOver, as its row asks for it. -/
set_option linter.unusedVariables false
namespace Go.Proofs.Ytkgdphbccagjcaa.Hand
open Go Go.RowKit SL
theorem ExpectOver_walk (a0 : ByteArray) (a1 : ByteArray) (w : World)
    (w0 : a0.size ≤ 140737488351232)
    (w1 : a1.size ≤ 140737488351232) :
    Calls Try.prog 16 #[.string a0, .string a1] w fun e w' => e = .returned (.bool true) ∧ Below w.heap.size w w' := by
  exact SL.law_of ((SL.ExpectOver_t (H := []) w0 w1).mono fun v h q => q.1)
end Go.Proofs.Ytkgdphbccagjcaa.Hand
