/- Closed facts on the translation's head line, for the rows of this seat. -/
import Derived.Test.YtpfcpookdocikaaRows
import Derived.JoinedOf
import Derived.KernelRfl
namespace Go.Proofs.Ytpfcpookdocikaa.Init
open Go
def signs : List Char :=
  [Char.ofNat 104, Char.ofNat 97, Char.ofNat 114, Char.ofNat 110, Char.ofNat 101, Char.ofNat 115, Char.ofNat 115, Char.ofNat 32, Char.ofNat 49, Char.ofNat 53, Char.ofNat 48, Char.ofNat 57, Char.ofNat 52, Char.ofNat 100, Char.ofNat 98, Char.ofNat 100, Char.ofNat 102, Char.ofNat 49, Char.ofNat 49, Char.ofNat 50, Char.ofNat 57, Char.ofNat 57, Char.ofNat 99, Char.ofNat 53, Char.ofNat 52, Char.ofNat 99, Char.ofNat 52, Char.ofNat 52, Char.ofNat 97, Char.ofNat 54, Char.ofNat 55, Char.ofNat 53, Char.ofNat 102, Char.ofNat 98, Char.ofNat 53, Char.ofNat 57, Char.ofNat 48, Char.ofNat 57, Char.ofNat 100, Char.ofNat 57,
    Char.ofNat 52, Char.ofNat 51, Char.ofNat 51, Char.ofNat 97, Char.ofNat 50, Char.ofNat 99, Char.ofNat 53, Char.ofNat 56, Char.ofNat 50, Char.ofNat 99, Char.ofNat 55, Char.ofNat 97, Char.ofNat 52, Char.ofNat 57, Char.ofNat 57, Char.ofNat 100, Char.ofNat 98, Char.ofNat 52, Char.ofNat 57, Char.ofNat 50, Char.ofNat 48, Char.ofNat 48, Char.ofNat 50, Char.ofNat 54, Char.ofNat 55, Char.ofNat 52, Char.ofNat 56, Char.ofNat 55, Char.ofNat 101, Char.ofNat 56, Char.ofNat 50, Char.ofNat 52, Char.ofNat 32, Char.ofNat 99, Char.ofNat 117, Char.ofNat 116, Char.ofNat 32, Char.ofNat 97, Char.ofNat 116, Char.ofNat 32,
    Char.ofNat 108, Char.ofNat 105, Char.ofNat 102, Char.ofNat 101, Char.ofNat 108, Char.ofNat 105, Char.ofNat 110, Char.ofNat 101, Char.ofNat 47, Char.ofNat 108, Char.ofNat 105, Char.ofNat 102, Char.ofNat 101, Char.ofNat 108, Char.ofNat 105, Char.ofNat 110, Char.ofNat 101, Char.ofNat 108, Char.ofNat 97, Char.ofNat 119, Char.ofNat 48, Char.ofNat 52, Char.ofNat 46, Char.ofNat 66, Char.ofNat 108, Char.ofNat 111, Char.ofNat 99, Char.ofNat 107, Char.ofNat 66, Char.ofNat 97, Char.ofNat 99, Char.ofNat 107, Char.ofNat 32, Char.ofNat 108, Char.ofNat 105, Char.ofNat 102, Char.ofNat 101, Char.ofNat 108, Char.ofNat 105, Char.ofNat 110,
    Char.ofNat 101, Char.ofNat 47, Char.ofNat 108, Char.ofNat 105, Char.ofNat 102, Char.ofNat 101, Char.ofNat 108, Char.ofNat 105, Char.ofNat 110, Char.ofNat 101, Char.ofNat 108, Char.ofNat 97, Char.ofNat 119, Char.ofNat 49, Char.ofNat 48, Char.ofNat 46, Char.ofNat 83, Char.ofNat 101, Char.ofNat 110, Char.ofNat 100, Char.ofNat 101, Char.ofNat 114, Char.ofNat 79, Char.ofNat 114, Char.ofNat 100, Char.ofNat 101, Char.ofNat 114]
set_option maxRecDepth 100000 in
theorem lit_eq : "harness 15094dbdf11299c54c44a675fb5909d9433a2c582c7a499db49200267487e824 cut at lifeline/lifelinelaw04.BlockBack lifeline/lifelinelaw10.SenderOrder" = String.ofList signs := by kernel_rfl
theorem prog_eq : Try.prog.initOrder = "harness 15094dbdf11299c54c44a675fb5909d9433a2c582c7a499db49200267487e824 cut at lifeline/lifelinelaw04.BlockBack lifeline/lifelinelaw10.SenderOrder" := by kernel_rfl
theorem initOrder_eq : Try.prog.initOrder = String.ofList signs := prog_eq.trans lit_eq
theorem initList : Try.prog.initOrder.toList = signs := by rw [initOrder_eq, String.toList_ofList]
def rest : List (List Char) := (behindMainWord (wordsSigns signs)).tail
theorem words_eq : behindMainWord (wordsSigns signs) = [Char.ofNat 99, Char.ofNat 117, Char.ofNat 116] :: rest := by kernel_rfl
theorem words : behindMainWord (wordsSigns Try.prog.initOrder.toList) = [Char.ofNat 99, Char.ofNat 117, Char.ofNat 116] :: rest := (congrArg (fun l => behindMainWord (wordsSigns l)) initList).trans words_eq
theorem strip (r : List (List Char)) : stripLifts liftWords ([Char.ofNat 99, Char.ofNat 117, Char.ofNat 116] :: r) = ([], [Char.ofNat 99, Char.ofNat 117, Char.ofNat 116] :: r) := by kernel_rfl
theorem mayEnter_of (P : Program) (r : List (List Char)) (h : behindMainWord (wordsSigns P.initOrder.toList) = [Char.ofNat 99, Char.ofNat 117, Char.ofNat 116] :: r) (h1 : P.laysLater = false) (h2 : P.bearsReflect = false) (h3 : P.doorFits [] = true) : P.mayEnter = true := by
  unfold Program.mayEnter
  rw [h]
  simp only [strip, h1, h2, h3]
  simp
theorem headLifts_of (P : Program) (r : List (List Char)) (h : behindMainWord (wordsSigns P.initOrder.toList) = [Char.ofNat 99, Char.ofNat 117, Char.ofNat 116] :: r) : P.headLifts = [] := by
  unfold Program.headLifts
  rw [h, strip]
  simp
theorem liftsFinal_of (P : Program) (r : List (List Char)) (h : behindMainWord (wordsSigns P.initOrder.toList) = [Char.ofNat 99, Char.ofNat 117, Char.ofNat 116] :: r) : P.liftsFinal = false := by
  unfold Program.liftsFinal
  rw [headLifts_of P r h, h]
  simp
theorem make_of (P : Program) (r : List (List Char)) (h : behindMainWord (wordsSigns P.initOrder.toList) = [Char.ofNat 99, Char.ofNat 117, Char.ofNat 116] :: r) : P.make = some .cut := by
  unfold Program.make
  rw [h]
  simp
theorem mayEnter : Try.prog.mayEnter = true := mayEnter_of _ _ words (by kernel_rfl) (by kernel_rfl) (by kernel_rfl)
theorem liftsFinal : Try.prog.liftsFinal = false := liftsFinal_of _ _ words
theorem make_eq : Try.prog.make = some .cut := make_of _ _ words
end Go.Proofs.Ytpfcpookdocikaa.Init
