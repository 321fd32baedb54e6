import Derived.Test.YtpfcpookdocikaaK3
/- The law BlockBack, as its row asks for it. -/
set_option linter.unusedVariables false
namespace Go.Proofs.Ytpfcpookdocikaa.Hand
open Go Go.RowKit SL
theorem BlockBack_walk (a0 : Option Addr) (c0 : Nat) (l0 : List SL.Part) (w : World) (hc0 : l0.length ≤ c0) (hm0 : l0.length ≤ 5864062014634) (hr0 : SL.PartsAt w a0 l0) :
    Calls Try.prog 3 #[.slice a0 l0.length c0] w fun e w' => e = .returned (.bool true) ∧ Below w.heap.size w w' := by
  exact SL.law_of ((SL.BlockBack_t (H := []) (hr0.row []) (hr0.all []) rfl hm0 hr0.max hr0.u8 hc0).mono fun v h q => q.1)
end Go.Proofs.Ytpfcpookdocikaa.Hand
