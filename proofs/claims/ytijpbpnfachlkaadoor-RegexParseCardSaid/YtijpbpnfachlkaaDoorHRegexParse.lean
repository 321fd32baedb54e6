import Derived.Test.YtijpbpnfachlkaaDoorX5
/- The law RegexParse, as its row asks for it. -/
set_option linter.unusedVariables false
namespace Go.Proofs.YtijpbpnfachlkaaDoor.Hand
open Go Go.RowKit SL
theorem RegexParse_walk (a0 : Option Addr) (c0 : Nat) (l0 : List Int) (w : World) (hL : SL.Laid w)
    (hr0 : ReadsInt w .u8 a0 l0.length l0) (hc0 : l0.length ≤ c0) (y0 : l0.length * 1 ≤ 140737488351232) (hw0 : ∀ x ∈ l0, (Lit.int .u8 x).wf = true) :
    Calls Tryd.prog 3 #[.slice a0 l0.length c0] w fun e w' => e = .returned (.bool true) ∧ Below w.heap.size w w' := by
  exact SL.law_of ((SL.RegexParse_t (H := []) hL (SL.laid_pos hL) (shows_start hr0) rfl (by omega) hc0 (U8s.of_wf hw0)).mono fun v h q => q.1)
end Go.Proofs.YtijpbpnfachlkaaDoor.Hand
