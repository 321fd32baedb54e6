/-
  NARROWER THAN 'FOR EVERY INPUT', by the rows' own cells (each row's printed sentence says how): SenderEnds: laid · ReceiverAsks: laid · ReceiverCancel: laid · LinkEnds: laid.
  DERIVED. THE GIVEN ROWS OF THIS SEAT. 4 by the template 'for every input the law returns true; each argument reads behind the call as it read before'; 0 by the template 'total and deterministic' (their statements: YtcbkcggijejooaaDoorTotals.lean).
  GIVEN WITH THE SEED: the statements are not yours to turn. If you find one false, say at which input.
  Laid BY PROGRAM, IN A SANDBOX (cutbox-rows.mjs): the forced cells as the released guide's own fill.sh prints them over the translation a89d3de6f4043d39… (all of the seat's roots in one cut). By AI agents, Wed Nov 11 2026. No macro, syntax, notation, axiom, sorry.
-/
import Derived.Test.YtcbkcggijejooaaDoorChecked
import GoSem.Claim
import GoSem.ClaimJoined
import GoSem.ClaimMapViews
import Derived.JoinedTies
import Derived.KernelRfl
namespace Go.Proofs.YtcbkcggijejooaaDoor
/- THE CELL 'sum', in the pinned program and in every row, IS THE sha256 OF THE DUMP (.gsa) THAT YtcbkcggijejooaaDoorProg.lean LOADS. Nothing in Lean hashes anything: it is a label: what it is worth is what the hold of that sum in a sandbox is worth. -/
noncomputable def Tryd.pinned : Pinned := { name := "ytcbkcggijejooaadoor", sum := "a89d3de6f4043d39422744250e98607bef8b0aa002324373698d8733db33da0b", checked := Tryd.checked }
namespace Rows
def none {H : Type} : Left H := { results := [], args := [] }

/- WHAT THE LISTED PACKAGE-LEVEL VARIABLES READ AS WHEN THE CALL BEGINS. Each datum BY PROGRAM (the guide's laid-datum.mjs) off the statement by which the dump's own 'gosem.cut.vars' lays the variable. In a bare row this is a premise. The card (YtcbkcggijejooaaDoorCards.lean) ties it to the program's text. -/
def laid_errors_errorType {H : Type} : DataW H := .iface "internal/reflectlite.rtype" (.agg [.ptr (.lit (.string [101, 114, 114, 111, 114]))])

/-- 'lifelinelaw10.SenderEnds': WHATEVER THE INPUT: true; the input reads as it did. -/
def senderEndsSpec : ChangeSpec := { name := "senderEnds", fn := fun _ => fun
  | [d1, d2, d3, d4] => { results := [.lit (.bool true)], args := [d1, d2, d3, d4] }
  | _ => none }
def senderEndsRow : OpenClaim := { program := "ytcbkcggijejooaadoor", sum := "a89d3de6f4043d39422744250e98607bef8b0aa002324373698d8733db33da0b", func := "lifeline/lifelinelaw10.SenderEnds", spec := "senderEnds", inPlace := ["internal/reflectlite.ValueOf", "(internal/reflectlite.Value).Type", "(internal/reflectlite.Value).IsNil", "internal/reflectlite.TypeOf", "(internal/reflectlite.Value).Elem", "(internal/reflectlite.Value).Set"], unfollowed := true, recurses := true, named := ["errors.errorType"], apart := false, laid := [("errors.errorType", laid_errors_errorType)] }
def SenderEndsSaid : Prop := senderEndsRow.holds Tryd.pinned (OpenSpec.ofChange senderEndsSpec)

/-- ITS FALSE NEIGHBOUR: 'it returns false'. Refute it at one input. -/
def senderEndsWrong : ChangeSpec := { name := "senderEnds", fn := fun _ => fun
  | [d1, d2, d3, d4] => { results := [.lit (.bool false)], args := [d1, d2, d3, d4] }
  | _ => none }
def SenderEndsWrongFalsely : Prop := senderEndsRow.holds Tryd.pinned (OpenSpec.ofChange senderEndsWrong)

/-- 'lifelinelaw11.ReceiverAsks': WHATEVER THE INPUT: true; the input reads as it did. -/
def receiverAsksSpec : ChangeSpec := { name := "receiverAsks", fn := fun _ => fun
  | [d1, d2, d3] => { results := [.lit (.bool true)], args := [d1, d2, d3] }
  | _ => none }
def receiverAsksRow : OpenClaim := { program := "ytcbkcggijejooaadoor", sum := "a89d3de6f4043d39422744250e98607bef8b0aa002324373698d8733db33da0b", func := "lifeline/lifelinelaw11.ReceiverAsks", spec := "receiverAsks", inPlace := ["internal/reflectlite.ValueOf", "(internal/reflectlite.Value).Type", "(internal/reflectlite.Value).IsNil", "internal/reflectlite.TypeOf", "(internal/reflectlite.Value).Elem", "(internal/reflectlite.Value).Set"], unfollowed := true, recurses := true, named := ["errors.errorType"], apart := false, laid := [("errors.errorType", laid_errors_errorType)] }
def ReceiverAsksSaid : Prop := receiverAsksRow.holds Tryd.pinned (OpenSpec.ofChange receiverAsksSpec)

/-- ITS FALSE NEIGHBOUR: 'it returns false'. Refute it at one input. -/
def receiverAsksWrong : ChangeSpec := { name := "receiverAsks", fn := fun _ => fun
  | [d1, d2, d3] => { results := [.lit (.bool false)], args := [d1, d2, d3] }
  | _ => none }
def ReceiverAsksWrongFalsely : Prop := receiverAsksRow.holds Tryd.pinned (OpenSpec.ofChange receiverAsksWrong)

/-- 'lifelinelaw11.ReceiverCancel': WHATEVER THE INPUT: true; the input reads as it did. -/
def receiverCancelSpec : ChangeSpec := { name := "receiverCancel", fn := fun _ => fun
  | [d1, d2, d3, d4] => { results := [.lit (.bool true)], args := [d1, d2, d3, d4] }
  | _ => none }
def receiverCancelRow : OpenClaim := { program := "ytcbkcggijejooaadoor", sum := "a89d3de6f4043d39422744250e98607bef8b0aa002324373698d8733db33da0b", func := "lifeline/lifelinelaw11.ReceiverCancel", spec := "receiverCancel", inPlace := ["internal/reflectlite.ValueOf", "(internal/reflectlite.Value).Type", "(internal/reflectlite.Value).IsNil", "internal/reflectlite.TypeOf", "(internal/reflectlite.Value).Elem", "(internal/reflectlite.Value).Set"], unfollowed := true, recurses := true, named := ["errors.errorType"], apart := false, laid := [("errors.errorType", laid_errors_errorType)] }
def ReceiverCancelSaid : Prop := receiverCancelRow.holds Tryd.pinned (OpenSpec.ofChange receiverCancelSpec)

/-- ITS FALSE NEIGHBOUR: 'it returns false'. Refute it at one input. -/
def receiverCancelWrong : ChangeSpec := { name := "receiverCancel", fn := fun _ => fun
  | [d1, d2, d3, d4] => { results := [.lit (.bool false)], args := [d1, d2, d3, d4] }
  | _ => none }
def ReceiverCancelWrongFalsely : Prop := receiverCancelRow.holds Tryd.pinned (OpenSpec.ofChange receiverCancelWrong)

/-- 'lifelinelaw12.LinkEnds': WHATEVER THE INPUT: true; the input reads as it did. -/
def linkEndsSpec : ChangeSpec := { name := "linkEnds", fn := fun _ => fun
  | [d1, d2, d3, d4] => { results := [.lit (.bool true)], args := [d1, d2, d3, d4] }
  | _ => none }
def linkEndsRow : OpenClaim := { program := "ytcbkcggijejooaadoor", sum := "a89d3de6f4043d39422744250e98607bef8b0aa002324373698d8733db33da0b", func := "lifeline/lifelinelaw12.LinkEnds", spec := "linkEnds", inPlace := ["internal/reflectlite.ValueOf", "(internal/reflectlite.Value).Type", "(internal/reflectlite.Value).IsNil", "internal/reflectlite.TypeOf", "(internal/reflectlite.Value).Elem", "(internal/reflectlite.Value).Set"], unfollowed := true, recurses := true, named := ["errors.errorType"], apart := false, laid := [("errors.errorType", laid_errors_errorType)] }
def LinkEndsSaid : Prop := linkEndsRow.holds Tryd.pinned (OpenSpec.ofChange linkEndsSpec)

/-- ITS FALSE NEIGHBOUR: 'it returns false'. Refute it at one input. -/
def linkEndsWrong : ChangeSpec := { name := "linkEnds", fn := fun _ => fun
  | [d1, d2, d3, d4] => { results := [.lit (.bool false)], args := [d1, d2, d3, d4] }
  | _ => none }
def LinkEndsWrongFalsely : Prop := linkEndsRow.holds Tryd.pinned (OpenSpec.ofChange linkEndsWrong)

/- THE SECOND FORM. 'bulk': how many values and letters a reading holds, each counted each time it is reached (what is shared counts as often as it is met; a slice's spare places count too). A statement '..UptoSaid' is the law's where the arguments, and the package variables that the reading takes, are together of bulk at most 1048576: NARROWER than '..Said'. Prove '..Said' where nothing that the law and all that it calls make is longer than what came in: it says more and counts as full. Else prove '..UptoSaid'. A law counts once. -/
mutual
def uptoBulk {H : Type} : DataW H → Nat
  | .lit (.string bytes) => bytes.length + 1
  | .lit _ => 1
  | .nil => 1
  | .ptr d => uptoBulk d + 1
  | .slice elems spare => uptoBulkAll elems + uptoBulkAll spare + 1
  | .agg parts => uptoBulkAll parts + 1
  | .iface _ d => uptoBulk d + 1
  | .map entries => uptoBulkEntries entries + 1
  | .held _ => 1
def uptoBulkAll {H : Type} : List (DataW H) → Nat
  | [] => 0
  | d :: r => uptoBulk d + uptoBulkAll r
def uptoBulkEntries {H : Type} : List (Lit × DataW H) → Nat
  | [] => 0
  | x :: r => uptoBulkEntry x + uptoBulkEntries r
def uptoBulkEntry {H : Type} : Lit × DataW H → Nat
  | (.string bytes, d) => bytes.length + uptoBulk d + 1
  | (_, d) => uptoBulk d + 1
 end
def uptoSmall : (H : Type) → List (DataW H) → Bool := fun _ ds => decide (uptoBulkAll ds ≤ 1048576)
def OpenSpec.upto (s : _root_.Go.ChangeSpec) : _root_.Go.OpenSpec := { _root_.Go.OpenSpec.ofChange s with cond := some uptoSmall }

/-- 'lifelinelaw10.SenderEnds', WHERE WHAT IT READS IS OF BULK AT MOST 1048576: true; the input reads as it did. -/
def senderEndsUptoRow : OpenClaim := { program := "ytcbkcggijejooaadoor", sum := "a89d3de6f4043d39422744250e98607bef8b0aa002324373698d8733db33da0b", func := "lifeline/lifelinelaw10.SenderEnds", spec := "senderEnds", inPlace := ["internal/reflectlite.ValueOf", "(internal/reflectlite.Value).Type", "(internal/reflectlite.Value).IsNil", "internal/reflectlite.TypeOf", "(internal/reflectlite.Value).Elem", "(internal/reflectlite.Value).Set"], unfollowed := true, recurses := true, named := ["errors.errorType"], apart := false, laid := [("errors.errorType", laid_errors_errorType)], narrowed := true }
def SenderEndsUptoSaid : Prop := senderEndsUptoRow.holds Tryd.pinned (OpenSpec.upto senderEndsSpec)

/-- 'lifelinelaw11.ReceiverAsks', WHERE WHAT IT READS IS OF BULK AT MOST 1048576: true; the input reads as it did. -/
def receiverAsksUptoRow : OpenClaim := { program := "ytcbkcggijejooaadoor", sum := "a89d3de6f4043d39422744250e98607bef8b0aa002324373698d8733db33da0b", func := "lifeline/lifelinelaw11.ReceiverAsks", spec := "receiverAsks", inPlace := ["internal/reflectlite.ValueOf", "(internal/reflectlite.Value).Type", "(internal/reflectlite.Value).IsNil", "internal/reflectlite.TypeOf", "(internal/reflectlite.Value).Elem", "(internal/reflectlite.Value).Set"], unfollowed := true, recurses := true, named := ["errors.errorType"], apart := false, laid := [("errors.errorType", laid_errors_errorType)], narrowed := true }
def ReceiverAsksUptoSaid : Prop := receiverAsksUptoRow.holds Tryd.pinned (OpenSpec.upto receiverAsksSpec)

/-- 'lifelinelaw11.ReceiverCancel', WHERE WHAT IT READS IS OF BULK AT MOST 1048576: true; the input reads as it did. -/
def receiverCancelUptoRow : OpenClaim := { program := "ytcbkcggijejooaadoor", sum := "a89d3de6f4043d39422744250e98607bef8b0aa002324373698d8733db33da0b", func := "lifeline/lifelinelaw11.ReceiverCancel", spec := "receiverCancel", inPlace := ["internal/reflectlite.ValueOf", "(internal/reflectlite.Value).Type", "(internal/reflectlite.Value).IsNil", "internal/reflectlite.TypeOf", "(internal/reflectlite.Value).Elem", "(internal/reflectlite.Value).Set"], unfollowed := true, recurses := true, named := ["errors.errorType"], apart := false, laid := [("errors.errorType", laid_errors_errorType)], narrowed := true }
def ReceiverCancelUptoSaid : Prop := receiverCancelUptoRow.holds Tryd.pinned (OpenSpec.upto receiverCancelSpec)

/-- 'lifelinelaw12.LinkEnds', WHERE WHAT IT READS IS OF BULK AT MOST 1048576: true; the input reads as it did. -/
def linkEndsUptoRow : OpenClaim := { program := "ytcbkcggijejooaadoor", sum := "a89d3de6f4043d39422744250e98607bef8b0aa002324373698d8733db33da0b", func := "lifeline/lifelinelaw12.LinkEnds", spec := "linkEnds", inPlace := ["internal/reflectlite.ValueOf", "(internal/reflectlite.Value).Type", "(internal/reflectlite.Value).IsNil", "internal/reflectlite.TypeOf", "(internal/reflectlite.Value).Elem", "(internal/reflectlite.Value).Set"], unfollowed := true, recurses := true, named := ["errors.errorType"], apart := false, laid := [("errors.errorType", laid_errors_errorType)], narrowed := true }
def LinkEndsUptoSaid : Prop := linkEndsUptoRow.holds Tryd.pinned (OpenSpec.upto linkEndsSpec)

end Rows
end Go.Proofs.YtcbkcggijejooaaDoor
