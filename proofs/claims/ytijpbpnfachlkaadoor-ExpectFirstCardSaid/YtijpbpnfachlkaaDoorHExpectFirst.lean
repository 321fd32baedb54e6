import Derived.Test.YtijpbpnfachlkaaDoorY4
/- The law ExpectFirst, as its row asks for it. -/
set_option linter.unusedVariables false
namespace Go.Proofs.YtijpbpnfachlkaaDoor.Hand
open Go Go.RowKit SL
theorem ExpectFirst_walk (a0 : Option Addr) (c0 : Nat) (l0 : List SL.Row3) (a1 : Option Addr) (c1 : Nat) (l1 : List Int) (w : World) (hL : SL.Laid w)
    (hc0 : l0.length ≤ c0) (hm0 : l0.length ≤ 4611686018427387904) (hr0 : ∀ H, SL.RowsOk (SL.WH w w.heap.size H) a0 l0)
    (hr1 : ReadsInt w .u8 a1 l1.length l1) (hc1 : l1.length ≤ c1) (y1 : l1.length * 1 ≤ 140737488351232) (hw1 : ∀ x ∈ l1, (Lit.int .u8 x).wf = true) :
    Calls Tryd.prog 9 #[.slice a0 l0.length c0, .slice a1 l1.length c1] w fun e w' => e = .returned (.bool true) ∧ Below w.heap.size w w' := by
  exact SL.law_of ((SL.ExpectFirst_t (H := []) hL (SL.laid_pos hL) (hr0 []) hc0 hm0 (shows_start hr1) rfl (by omega) hc1 (U8s.of_wf hw1)).mono fun v h q => q.1)
end Go.Proofs.YtijpbpnfachlkaaDoor.Hand
