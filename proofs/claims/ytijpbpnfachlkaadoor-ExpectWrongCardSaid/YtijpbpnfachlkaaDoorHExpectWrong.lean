import Derived.Test.YtijpbpnfachlkaaDoorX11
/- The law ExpectWrong, as its row asks for it. -/
set_option linter.unusedVariables false
namespace Go.Proofs.YtijpbpnfachlkaaDoor.Hand
open Go Go.RowKit SL
theorem ExpectWrong_walk (a0 : Option Addr) (c0 : Nat) (l0 : List (List Int)) (w : World) (hL : SL.Laid w)
    (hr0 : SL.ReadsS w a0 l0) (hc0 : l0.length ≤ c0) (hm0 : l0.length ≤ 9223372036854775807) (hu0 : ∀ q ∈ l0, U8s q) (hn0 : ∀ q ∈ l0, q.length ≤ 9223372036854775807) :
    Calls Tryd.prog 8 #[.slice a0 l0.length c0] w fun e w' => e = .returned (.bool true) ∧ Below w.heap.size w w' := by
  exact SL.law_of ((SL.ExpectWrong_t (H := []) hL (SL.laid_pos hL) (SL.shows_startS hr0) rfl hc0 hm0 hu0 hn0).mono fun v h q => q.1)
end Go.Proofs.YtijpbpnfachlkaaDoor.Hand
