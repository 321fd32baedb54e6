import Derived.Test.YthdkmgeigdoglaaL7
/- The law LinkMost, as its row asks for it. -/
set_option linter.unusedVariables false
namespace Go.Proofs.Ythdkmgeigdoglaa.Hand
open Go Go.RowKit SL
theorem u8_of_wf {n : Int} (h : (Lit.int .u8 n).wf = true) : 0 ≤ n ∧ n ≤ 255 := U8s.of_wf (l := [n]) (by simpa using h) n (by simp)
theorem LinkMost_walk (a b : Int) (a1 : Option Addr) (c1 : Nat) (l1 : List Int) (a2 : Int) (a3 : Option Addr) (c3 : Nat) (ns : List Nz) (a4 : Int) (w : World) (wa : (Lit.int .i64 a).wf = true) (wb : (Lit.int .i64 b).wf = true)
    (hr : ReadsInt w .u8 a1 l1.length l1) (hc : l1.length ≤ c1) (y : l1.length * 1 ≤ 140737488351232) (hw : ∀ x ∈ l1, (Lit.int .u8 x).wf = true) (w2 : (Lit.int .u8 a2).wf = true)
    (hn : ∀ H, Shows (WH w w.heap.size H) a3 ns.length 3 (nzCells ns)) (hc3 : ns.length ≤ c3) (hm3 : ns.length ≤ maxLen) (w4 : (Lit.int .u8 a4).wf = true) :
    Calls Try.prog 32 #[.agg #[.int .i64 a, .int .i64 b], .slice a1 l1.length c1, .int .u8 a2, .slice a3 ns.length c3, .int .u8 a4] w fun e w' => e = .returned (.bool true) ∧ Below w.heap.size w w' := by
  have h2 := u8_of_wf w2
  obtain ⟨k, rfl⟩ := Int.eq_ofNat_of_zero_le h2.1
  have h4 := u8_of_wf w4
  obtain ⟨M, rfl⟩ := Int.eq_ofNat_of_zero_le h4.1
  exact SL.law_of ((SL.LinkMost_t (H := []) a b k M (shows_start hr) rfl (by omega) hc (U8s.of_wf hw) (by omega) (hn []) rfl (by omega)).mono fun v h q => q.1)
end Go.Proofs.Ythdkmgeigdoglaa.Hand
