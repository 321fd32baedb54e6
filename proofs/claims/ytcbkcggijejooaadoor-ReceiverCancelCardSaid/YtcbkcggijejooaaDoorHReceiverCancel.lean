import Derived.Test.YtcbkcggijejooaaDoorD3
/- The law ReceiverCancel, as its row asks for it. -/
set_option linter.unusedVariables false
namespace Go.Proofs.YtcbkcggijejooaaDoor.Hand
open Go Go.RowKit SL
theorem u8_of_wf {n : Int} (h : (Lit.int .u8 n).wf = true) : 0 ≤ n ∧ n ≤ 255 := U8s.of_wf (l := [n]) (by simpa using h) n (by simp)
theorem ReceiverCancel_walk (a b : Int) (a1 : Int) (a2 : Option Addr) (c2 : Nat) (l2 : List Int) (a3 : Int) (w : World) (hL : SL.Laid w) (wa : (Lit.int .i64 a).wf = true) (wb : (Lit.int .i64 b).wf = true) (w1 : (Lit.int .u8 a1).wf = true)
    (hr : ReadsInt w .u8 a2 l2.length l2) (hc : l2.length ≤ c2) (y : l2.length * 1 ≤ 140737488351232) (hw : ∀ x ∈ l2, (Lit.int .u8 x).wf = true) (w3 : (Lit.int .u8 a3).wf = true) :
    Calls Tryd.prog 5 #[.agg #[.int .i64 a, .int .i64 b], .int .u8 a1, .slice a2 l2.length c2, .int .u8 a3] w fun e w' => e = .returned (.bool true) ∧ Below w.heap.size w w' := by
  have h3 := u8_of_wf w3
  obtain ⟨k, rfl⟩ := Int.eq_ofNat_of_zero_le h3.1
  exact SL.law_of ((SL.ReceiverCancel_t (H := []) a b a1 k hL (SL.laid_pos hL) (shows_start hr) rfl (by omega) hc (U8s.of_wf hw) (by omega) (u8_of_wf w1)).mono fun v h q => q.1)
end Go.Proofs.YtcbkcggijejooaaDoor.Hand
