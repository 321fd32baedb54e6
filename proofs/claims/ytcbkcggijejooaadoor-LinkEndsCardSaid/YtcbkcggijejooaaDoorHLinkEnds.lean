import Derived.Test.YtcbkcggijejooaaDoorD5
/- The law LinkEnds, as its row asks for it. -/
set_option linter.unusedVariables false
namespace Go.Proofs.YtcbkcggijejooaaDoor.Hand
open Go Go.RowKit SL
theorem u8_of_wf {n : Int} (h : (Lit.int .u8 n).wf = true) : 0 ≤ n ∧ n ≤ 255 := U8s.of_wf (l := [n]) (by simpa using h) n (by simp)
theorem LinkEnds_walk (a b : Int) (a1 : Option Addr) (c1 : Nat) (l1 : List Int) (a2 a3 : Int) (w : World) (hL : SL.Laid w) (wa : (Lit.int .i64 a).wf = true) (wb : (Lit.int .i64 b).wf = true)
    (hr : ReadsInt w .u8 a1 l1.length l1) (hc : l1.length ≤ c1) (y : l1.length * 1 ≤ 140737488351232) (hw : ∀ x ∈ l1, (Lit.int .u8 x).wf = true) (w2 : (Lit.int .u8 a2).wf = true) (w3 : (Lit.int .u8 a3).wf = true) :
    Calls Tryd.prog 6 #[.agg #[.int .i64 a, .int .i64 b], .slice a1 l1.length c1, .int .u8 a2, .int .u8 a3] w fun e w' => e = .returned (.bool true) ∧ Below w.heap.size w w' := by
  have h2 := u8_of_wf w2
  have h3 := u8_of_wf w3
  obtain ⟨k, rfl⟩ := Int.eq_ofNat_of_zero_le h2.1
  obtain ⟨j, rfl⟩ := Int.eq_ofNat_of_zero_le h3.1
  exact SL.law_of ((SL.LinkEnds_t (H := []) a b k j hL (SL.laid_pos hL) (shows_start hr) rfl (by omega) hc (U8s.of_wf hw) (by omega) (by omega)).mono fun v h q => q.1)
end Go.Proofs.YtcbkcggijejooaaDoor.Hand
