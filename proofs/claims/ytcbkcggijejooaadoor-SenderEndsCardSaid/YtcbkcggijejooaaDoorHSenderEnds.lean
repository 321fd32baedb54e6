import Derived.Test.YtcbkcggijejooaaDoorD1
/- The law SenderEnds, as its row asks for it. -/
set_option linter.unusedVariables false
namespace Go.Proofs.YtcbkcggijejooaaDoor.Hand
open Go Go.RowKit SL
theorem u8_of_wf {n : Int} (h : (Lit.int .u8 n).wf = true) : 0 ≤ n ∧ n ≤ 255 := U8s.of_wf (l := [n]) (by simpa using h) n (by simp)
theorem SenderEnds_walk (a b : Int) (a1 : Option Addr) (c1 : Nat) (l1 : List Int) (a2 : Int) (a3 : Bool) (w : World) (hL : SL.Laid w) (wa : (Lit.int .i64 a).wf = true) (wb : (Lit.int .i64 b).wf = true)
    (hr : ReadsInt w .u8 a1 l1.length l1) (hc : l1.length ≤ c1) (y : l1.length * 1 ≤ 140737488351232) (hw : ∀ x ∈ l1, (Lit.int .u8 x).wf = true) (w2 : (Lit.int .u8 a2).wf = true) :
    Calls Tryd.prog 3 #[.agg #[.int .i64 a, .int .i64 b], .slice a1 l1.length c1, .int .u8 a2, .bool a3] w fun e w' => e = .returned (.bool true) ∧ Below w.heap.size w w' := by
  have h2 := u8_of_wf w2
  obtain ⟨k, rfl⟩ := Int.eq_ofNat_of_zero_le h2.1
  exact SL.law_of ((SL.SenderEnds_t (H := []) a b k a3 hL (SL.laid_pos hL) (shows_start hr) rfl (by omega) hc (U8s.of_wf hw) (by omega)).mono fun v h q => q.1)
end Go.Proofs.YtcbkcggijejooaaDoor.Hand
