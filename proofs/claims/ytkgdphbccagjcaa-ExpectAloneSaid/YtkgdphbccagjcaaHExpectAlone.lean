import Derived.Test.YtkgdphbccagjcaaN21
/- The law ExpectAlone, as its row asks for it. -/
set_option linter.unusedVariables false
namespace Go.Proofs.Ytkgdphbccagjcaa.Hand
open Go Go.RowKit SL
theorem ExpectAlone_walk (a0 : ByteArray) (a1 : ByteArray) (a2 : ByteArray) (w : World)
    (w0 : a0.size ≤ 140737488351232)
    (w1 : a1.size ≤ 140737488351232)
    (w2 : a2.size ≤ 140737488351232) :
    Calls Try.prog 15 #[.string a0, .string a1, .string a2] w fun e w' => e = .returned (.bool true) ∧ Below w.heap.size w w' := by
  exact SL.law_of ((SL.ExpectAlone_t (H := []) w0 w1 w2).mono fun v h q => q.1)
end Go.Proofs.Ytkgdphbccagjcaa.Hand
