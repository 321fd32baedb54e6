import Derived.Test.YtpfcpookdocikaaO3
/- The law SenderOrder, as its row asks for it. -/
set_option linter.unusedVariables false
namespace Go.Proofs.Ytpfcpookdocikaa.Hand
open Go Go.RowKit SL
theorem u8_of_wf {n : Int} (h : (Lit.int .u8 n).wf = true) : 0 ≤ n ∧ n ≤ 255 := U8s.of_wf (l := [n]) (by simpa using h) n (by simp)
theorem SenderOrder_walk (a b : Int) (a1 : Option Addr) (c1 : Nat) (l1 : List Int) (a2 : Int) (a3 : Option Addr) (c3 : Nat) (l3 : List Int) (w : World) (wa : (Lit.int .i64 a).wf = true) (wb : (Lit.int .i64 b).wf = true)
    (hr : ReadsInt w .u8 a1 l1.length l1) (hc : l1.length ≤ c1) (y : l1.length * 1 ≤ 140737488351232) (hw : ∀ x ∈ l1, (Lit.int .u8 x).wf = true) (w2 : (Lit.int .u8 a2).wf = true)
    (hr3 : ReadsInt w .u8 a3 l3.length l3) (hc3 : l3.length ≤ c3) (y3 : l3.length * 1 ≤ 140737488351232) (hw3 : ∀ x ∈ l3, (Lit.int .u8 x).wf = true) :
    Calls Try.prog 4 #[.agg #[.int .i64 a, .int .i64 b], .slice a1 l1.length c1, .int .u8 a2, .slice a3 l3.length c3] w fun e w' => e = .returned (.bool true) ∧ Below w.heap.size w w' := by
  have h2 := u8_of_wf w2
  obtain ⟨k, rfl⟩ := Int.eq_ofNat_of_zero_le h2.1
  exact SL.law_of ((SL.SenderOrder_t (H := []) a b k (shows_start hr) rfl (by omega) hc (U8s.of_wf hw) (by omega) (shows_start hr3) rfl (by omega) hc3 (U8s.of_wf hw3)).mono fun v h q => q.1)
end Go.Proofs.Ytpfcpookdocikaa.Hand
