import Derived.Test.YthdkmgeigdoglaaH1
/- Words for the hand walks. No statement is proved here. -/
namespace Go.Proofs.Ythdkmgeigdoglaa.Hand
open Go.RowKit Go.Proofs.YthdkmgeigdoglaaW.PrintWords Go.Proofs.YthdkmgeigdoglaaW.PrintLast Go.Proofs.YthdkmgeigdoglaaW.PrintMore H
attribute [local go_sem] max_two min_two max_three min_three max_four min_four
set_option linter.unusedVariables false
set_option linter.unusedSimpArgs false
theorem xor8 (x y : Int) : Go.bits .xor .u8 x y = (((BitVec.ofInt 8 x ^^^ BitVec.ofInt 8 y).toNat : Nat) : Int) := by
  unfold Go.bits
  show IntKind.u8.wrap ((BitVec.ofInt 8 x ^^^ BitVec.ofInt 8 y).toNat : Int) = _
  rw [IntKind.wrap_u8]
  have := (BitVec.ofInt 8 x ^^^ BitVec.ofInt 8 y).isLt
  omega
theorem xor8_range (x y : Int) : 0 ≤ Go.bits .xor .u8 x y ∧ Go.bits .xor .u8 x y ≤ 255 := by
  rw [xor8]
  have := (BitVec.ofInt 8 x ^^^ BitVec.ofInt 8 y).isLt
  omega
theorem crc_quiet (A : Option Addr) (m c : Nat) (l : List Int) (w : World) (n : Nat) (hr : ReadsInt w .u8 A m l) (hc : m ≤ c) (hu : U8s l) :
    Calls Try.prog 43 #[.slice A m c] (w.drewN n) fun e w' => e = .returned (.int .u16 (crcI l)) ∧ ∃ k, w' = w.drewN k := by
  obtain rfl := hr.1
  exact Calls.quiet_of ((crc_calls A c l (w.drewN n) (hr.drewN n) hc hu).mono fun _ _ ⟨he, hd⟩ => ⟨he, hd.out⟩)
theorem check_quiet (A : Option Addr) (m c : Nat) (l : List Int) (w : World) (n : Nat) (hr : ReadsInt w .u8 A m l) (hc : m ≤ c) :
    Calls Try.prog 38 #[.slice A m c] (w.drewN n) fun e w' => e = .returned (.int .u8 (sumI l)) ∧ ∃ k, w' = w.drewN k := by
  obtain rfl := hr.1
  exact Calls.quiet_of ((check_calls A c l (w.drewN n) (hr.drewN n) hc).mono fun _ _ ⟨he, hd⟩ => ⟨he, hd.out⟩)
theorem info5 : (Try.prog.info? 5).map (fun i => (i.zero, i.size, i.bytes)) = some (some (.int .u8 0), 1, 1) := by kernel_rfl
end Go.Proofs.Ythdkmgeigdoglaa.Hand
