/-
  No cell of these rows narrows 'for every input' (looked for: loops, veiled, ifaces, maps, wideKeys, modest, calm, conditions, laid).
  DERIVED. THE GIVEN ROWS OF THIS SEAT. 30 by the template 'for every input the law returns true; each argument reads behind the call as it read before'; 0 by the template 'total and deterministic' (their statements: YthdkmgeigdoglaaTotals.lean).
  GIVEN WITH THE SEED: the statements are not yours to turn. If you find one false, say at which input.
  Laid BY PROGRAM, IN A SANDBOX (cutbox-rows.mjs): the forced cells as the released guide's own fill.sh prints them over the translation 85d229966b43ac2c… (all of the seat's roots in one cut). By AI agents, Wed Nov 11 2026. No macro, syntax, notation, axiom, sorry.
-/
import Derived.Test.YthdkmgeigdoglaaChecked
import GoSem.Claim
import GoSem.ClaimJoined
import GoSem.ClaimMapViews
import Derived.JoinedTies
import Derived.KernelRfl
namespace Go.Proofs.Ythdkmgeigdoglaa
/- THE CELL 'sum', in the pinned program and in every row, IS THE sha256 OF THE DUMP (.gsa) THAT YthdkmgeigdoglaaProg.lean LOADS. Nothing in Lean hashes anything: it is a label: what it is worth is what the hold of that sum in a sandbox is worth. -/
noncomputable def Try.pinned : Pinned := { name := "ythdkmgeigdoglaa", sum := "85d229966b43ac2c157466cdd7744b9974923be4d5c78b9e677ec312ed0964d3", checked := Try.checked }
namespace Rows
def none {H : Type} : Left H := { results := [], args := [] }

/-- 'lifelinelaw19.StoreOwn': WHATEVER THE INPUT: true; the input reads as it did. -/
def storeOwnSpec : ChangeSpec := { name := "storeOwn", fn := fun _ => fun
  | [d1, d2, d3] => { results := [.lit (.bool true)], args := [d1, d2, d3] }
  | _ => none }
def storeOwnRow : OpenClaim := { program := "ythdkmgeigdoglaa", sum := "85d229966b43ac2c157466cdd7744b9974923be4d5c78b9e677ec312ed0964d3", func := "lifeline/lifelinelaw19.StoreOwn", spec := "storeOwn", apart := false }
def StoreOwnSaid : Prop := storeOwnRow.holds Try.pinned (OpenSpec.ofChange storeOwnSpec)

/-- ITS FALSE NEIGHBOUR: 'it returns false'. Refute it at one input. -/
def storeOwnWrong : ChangeSpec := { name := "storeOwn", fn := fun _ => fun
  | [d1, d2, d3] => { results := [.lit (.bool false)], args := [d1, d2, d3] }
  | _ => none }
def StoreOwnWrongFalsely : Prop := storeOwnRow.holds Try.pinned (OpenSpec.ofChange storeOwnWrong)

/-- 'lifelinelaw19.StoreApart': WHATEVER THE INPUT: true; the input reads as it did. -/
def storeApartSpec : ChangeSpec := { name := "storeApart", fn := fun _ => fun
  | [d1, d2, d3, d4] => { results := [.lit (.bool true)], args := [d1, d2, d3, d4] }
  | _ => none }
def storeApartRow : OpenClaim := { program := "ythdkmgeigdoglaa", sum := "85d229966b43ac2c157466cdd7744b9974923be4d5c78b9e677ec312ed0964d3", func := "lifeline/lifelinelaw19.StoreApart", spec := "storeApart", apart := false }
def StoreApartSaid : Prop := storeApartRow.holds Try.pinned (OpenSpec.ofChange storeApartSpec)

/-- ITS FALSE NEIGHBOUR: 'it returns false'. Refute it at one input. -/
def storeApartWrong : ChangeSpec := { name := "storeApart", fn := fun _ => fun
  | [d1, d2, d3, d4] => { results := [.lit (.bool false)], args := [d1, d2, d3, d4] }
  | _ => none }
def StoreApartWrongFalsely : Prop := storeApartRow.holds Try.pinned (OpenSpec.ofChange storeApartWrong)

/-- 'lifelinelaw19.StoreLast': WHATEVER THE INPUT: true; the input reads as it did. -/
def storeLastSpec : ChangeSpec := { name := "storeLast", fn := fun _ => fun
  | [d1, d2, d3, d4] => { results := [.lit (.bool true)], args := [d1, d2, d3, d4] }
  | _ => none }
def storeLastRow : OpenClaim := { program := "ythdkmgeigdoglaa", sum := "85d229966b43ac2c157466cdd7744b9974923be4d5c78b9e677ec312ed0964d3", func := "lifeline/lifelinelaw19.StoreLast", spec := "storeLast", apart := false }
def StoreLastSaid : Prop := storeLastRow.holds Try.pinned (OpenSpec.ofChange storeLastSpec)

/-- ITS FALSE NEIGHBOUR: 'it returns false'. Refute it at one input. -/
def storeLastWrong : ChangeSpec := { name := "storeLast", fn := fun _ => fun
  | [d1, d2, d3, d4] => { results := [.lit (.bool false)], args := [d1, d2, d3, d4] }
  | _ => none }
def StoreLastWrongFalsely : Prop := storeLastRow.holds Try.pinned (OpenSpec.ofChange storeLastWrong)

/-- 'lifelinelaw19.StorePrint': WHATEVER THE INPUT: true; the input reads as it did. -/
def storePrintSpec : ChangeSpec := { name := "storePrint", fn := fun _ => fun
  | [d1, d2, d3, d4] => { results := [.lit (.bool true)], args := [d1, d2, d3, d4] }
  | _ => none }
def storePrintRow : OpenClaim := { program := "ythdkmgeigdoglaa", sum := "85d229966b43ac2c157466cdd7744b9974923be4d5c78b9e677ec312ed0964d3", func := "lifeline/lifelinelaw19.StorePrint", spec := "storePrint", apart := false }
def StorePrintSaid : Prop := storePrintRow.holds Try.pinned (OpenSpec.ofChange storePrintSpec)

/-- ITS FALSE NEIGHBOUR: 'it returns false'. Refute it at one input. -/
def storePrintWrong : ChangeSpec := { name := "storePrint", fn := fun _ => fun
  | [d1, d2, d3, d4] => { results := [.lit (.bool false)], args := [d1, d2, d3, d4] }
  | _ => none }
def StorePrintWrongFalsely : Prop := storePrintRow.holds Try.pinned (OpenSpec.ofChange storePrintWrong)

/-- 'lifelinelaw01.SumCheck': WHATEVER THE INPUT: true; the input reads as it did. -/
def sumCheckSpec : ChangeSpec := { name := "sumCheck", fn := fun _ => fun
  | [d] => { results := [.lit (.bool true)], args := [d] }
  | _ => none }
def sumCheckRow : OpenClaim := { program := "ythdkmgeigdoglaa", sum := "85d229966b43ac2c157466cdd7744b9974923be4d5c78b9e677ec312ed0964d3", func := "lifeline/lifelinelaw01.SumCheck", spec := "sumCheck", apart := false }
def SumCheckSaid : Prop := sumCheckRow.holds Try.pinned (OpenSpec.ofChange sumCheckSpec)

/-- ITS FALSE NEIGHBOUR: 'it returns false'. Refute it at one input. -/
def sumCheckWrong : ChangeSpec := { name := "sumCheck", fn := fun _ => fun
  | [d] => { results := [.lit (.bool false)], args := [d] }
  | _ => none }
def SumCheckWrongFalsely : Prop := sumCheckRow.holds Try.pinned (OpenSpec.ofChange sumCheckWrong)

/-- 'lifelinelaw01.SumPrint': WHATEVER THE INPUT: true; the input reads as it did. -/
def sumPrintSpec : ChangeSpec := { name := "sumPrint", fn := fun _ => fun
  | [d1, d2] => { results := [.lit (.bool true)], args := [d1, d2] }
  | _ => none }
def sumPrintRow : OpenClaim := { program := "ythdkmgeigdoglaa", sum := "85d229966b43ac2c157466cdd7744b9974923be4d5c78b9e677ec312ed0964d3", func := "lifeline/lifelinelaw01.SumPrint", spec := "sumPrint", apart := false }
def SumPrintSaid : Prop := sumPrintRow.holds Try.pinned (OpenSpec.ofChange sumPrintSpec)

/-- ITS FALSE NEIGHBOUR: 'it returns false'. Refute it at one input. -/
def sumPrintWrong : ChangeSpec := { name := "sumPrint", fn := fun _ => fun
  | [d1, d2] => { results := [.lit (.bool false)], args := [d1, d2] }
  | _ => none }
def SumPrintWrongFalsely : Prop := sumPrintRow.holds Try.pinned (OpenSpec.ofChange sumPrintWrong)

/-- 'lifelinelaw01.SumTurned': WHATEVER THE INPUT: true; the input reads as it did. -/
def sumTurnedSpec : ChangeSpec := { name := "sumTurned", fn := fun _ => fun
  | [d1, d2, d3] => { results := [.lit (.bool true)], args := [d1, d2, d3] }
  | _ => none }
def sumTurnedRow : OpenClaim := { program := "ythdkmgeigdoglaa", sum := "85d229966b43ac2c157466cdd7744b9974923be4d5c78b9e677ec312ed0964d3", func := "lifeline/lifelinelaw01.SumTurned", spec := "sumTurned", apart := false }
def SumTurnedSaid : Prop := sumTurnedRow.holds Try.pinned (OpenSpec.ofChange sumTurnedSpec)

/-- ITS FALSE NEIGHBOUR: 'it returns false'. Refute it at one input. -/
def sumTurnedWrong : ChangeSpec := { name := "sumTurned", fn := fun _ => fun
  | [d1, d2, d3] => { results := [.lit (.bool false)], args := [d1, d2, d3] }
  | _ => none }
def SumTurnedWrongFalsely : Prop := sumTurnedRow.holds Try.pinned (OpenSpec.ofChange sumTurnedWrong)

/-- 'lifelinelaw01.SumTwo': WHATEVER THE INPUT: true; the input reads as it did. -/
def sumTwoSpec : ChangeSpec := { name := "sumTwo", fn := fun _ => fun
  | [d1, d2] => { results := [.lit (.bool true)], args := [d1, d2] }
  | _ => none }
def sumTwoRow : OpenClaim := { program := "ythdkmgeigdoglaa", sum := "85d229966b43ac2c157466cdd7744b9974923be4d5c78b9e677ec312ed0964d3", func := "lifeline/lifelinelaw01.SumTwo", spec := "sumTwo", apart := false }
def SumTwoSaid : Prop := sumTwoRow.holds Try.pinned (OpenSpec.ofChange sumTwoSpec)

/-- ITS FALSE NEIGHBOUR: 'it returns false'. Refute it at one input. -/
def sumTwoWrong : ChangeSpec := { name := "sumTwo", fn := fun _ => fun
  | [d1, d2] => { results := [.lit (.bool false)], args := [d1, d2] }
  | _ => none }
def SumTwoWrongFalsely : Prop := sumTwoRow.holds Try.pinned (OpenSpec.ofChange sumTwoWrong)

/-- 'lifelinelaw01.SumCrc': WHATEVER THE INPUT: true; the input reads as it did. -/
def sumCrcSpec : ChangeSpec := { name := "sumCrc", fn := fun _ => fun
  | [d] => { results := [.lit (.bool true)], args := [d] }
  | _ => none }
def sumCrcRow : OpenClaim := { program := "ythdkmgeigdoglaa", sum := "85d229966b43ac2c157466cdd7744b9974923be4d5c78b9e677ec312ed0964d3", func := "lifeline/lifelinelaw01.SumCrc", spec := "sumCrc", apart := false }
def SumCrcSaid : Prop := sumCrcRow.holds Try.pinned (OpenSpec.ofChange sumCrcSpec)

/-- ITS FALSE NEIGHBOUR: 'it returns false'. Refute it at one input. -/
def sumCrcWrong : ChangeSpec := { name := "sumCrc", fn := fun _ => fun
  | [d] => { results := [.lit (.bool false)], args := [d] }
  | _ => none }
def SumCrcWrongFalsely : Prop := sumCrcRow.holds Try.pinned (OpenSpec.ofChange sumCrcWrong)

/-- 'lifelinelaw01.SumTable': WHATEVER THE INPUT: true; the input reads as it did. -/
def sumTableSpec : ChangeSpec := { name := "sumTable", fn := fun _ => fun
  | [d1, d2, d3] => { results := [.lit (.bool true)], args := [d1, d2, d3] }
  | _ => none }
def sumTableRow : OpenClaim := { program := "ythdkmgeigdoglaa", sum := "85d229966b43ac2c157466cdd7744b9974923be4d5c78b9e677ec312ed0964d3", func := "lifeline/lifelinelaw01.SumTable", spec := "sumTable", apart := false }
def SumTableSaid : Prop := sumTableRow.holds Try.pinned (OpenSpec.ofChange sumTableSpec)

/-- ITS FALSE NEIGHBOUR: 'it returns false'. Refute it at one input. -/
def sumTableWrong : ChangeSpec := { name := "sumTable", fn := fun _ => fun
  | [d1, d2, d3] => { results := [.lit (.bool false)], args := [d1, d2, d3] }
  | _ => none }
def SumTableWrongFalsely : Prop := sumTableRow.holds Try.pinned (OpenSpec.ofChange sumTableWrong)

/-- 'lifelinelaw04.BlockMake': WHATEVER THE INPUT: true; the input reads as it did. -/
def blockMakeSpec : ChangeSpec := { name := "blockMake", fn := fun _ => fun
  | [d1, d2, d3, d4] => { results := [.lit (.bool true)], args := [d1, d2, d3, d4] }
  | _ => none }
def blockMakeRow : OpenClaim := { program := "ythdkmgeigdoglaa", sum := "85d229966b43ac2c157466cdd7744b9974923be4d5c78b9e677ec312ed0964d3", func := "lifeline/lifelinelaw04.BlockMake", spec := "blockMake", apart := false }
def BlockMakeSaid : Prop := blockMakeRow.holds Try.pinned (OpenSpec.ofChange blockMakeSpec)

/-- ITS FALSE NEIGHBOUR: 'it returns false'. Refute it at one input. -/
def blockMakeWrong : ChangeSpec := { name := "blockMake", fn := fun _ => fun
  | [d1, d2, d3, d4] => { results := [.lit (.bool false)], args := [d1, d2, d3, d4] }
  | _ => none }
def BlockMakeWrongFalsely : Prop := blockMakeRow.holds Try.pinned (OpenSpec.ofChange blockMakeWrong)

/-- 'lifelinelaw04.BlockScan': WHATEVER THE INPUT: true; the input reads as it did. -/
def blockScanSpec : ChangeSpec := { name := "blockScan", fn := fun _ => fun
  | [d1, d2, d3, d4, d5, d6] => { results := [.lit (.bool true)], args := [d1, d2, d3, d4, d5, d6] }
  | _ => none }
def blockScanRow : OpenClaim := { program := "ythdkmgeigdoglaa", sum := "85d229966b43ac2c157466cdd7744b9974923be4d5c78b9e677ec312ed0964d3", func := "lifeline/lifelinelaw04.BlockScan", spec := "blockScan", apart := false }
def BlockScanSaid : Prop := blockScanRow.holds Try.pinned (OpenSpec.ofChange blockScanSpec)

/-- ITS FALSE NEIGHBOUR: 'it returns false'. Refute it at one input. -/
def blockScanWrong : ChangeSpec := { name := "blockScan", fn := fun _ => fun
  | [d1, d2, d3, d4, d5, d6] => { results := [.lit (.bool false)], args := [d1, d2, d3, d4, d5, d6] }
  | _ => none }
def BlockScanWrongFalsely : Prop := blockScanRow.holds Try.pinned (OpenSpec.ofChange blockScanWrong)

/-- 'lifelinelaw04.BlockTurned': WHATEVER THE INPUT: true; the input reads as it did. -/
def blockTurnedSpec : ChangeSpec := { name := "blockTurned", fn := fun _ => fun
  | [d1, d2, d3, d4, d5, d6] => { results := [.lit (.bool true)], args := [d1, d2, d3, d4, d5, d6] }
  | _ => none }
def blockTurnedRow : OpenClaim := { program := "ythdkmgeigdoglaa", sum := "85d229966b43ac2c157466cdd7744b9974923be4d5c78b9e677ec312ed0964d3", func := "lifeline/lifelinelaw04.BlockTurned", spec := "blockTurned", apart := false }
def BlockTurnedSaid : Prop := blockTurnedRow.holds Try.pinned (OpenSpec.ofChange blockTurnedSpec)

/-- ITS FALSE NEIGHBOUR: 'it returns false'. Refute it at one input. -/
def blockTurnedWrong : ChangeSpec := { name := "blockTurned", fn := fun _ => fun
  | [d1, d2, d3, d4, d5, d6] => { results := [.lit (.bool false)], args := [d1, d2, d3, d4, d5, d6] }
  | _ => none }
def BlockTurnedWrongFalsely : Prop := blockTurnedRow.holds Try.pinned (OpenSpec.ofChange blockTurnedWrong)

/-- 'lifelinelaw04.BlockAny': WHATEVER THE INPUT: true; the input reads as it did. -/
def blockAnySpec : ChangeSpec := { name := "blockAny", fn := fun _ => fun
  | [d1, d2] => { results := [.lit (.bool true)], args := [d1, d2] }
  | _ => none }
def blockAnyRow : OpenClaim := { program := "ythdkmgeigdoglaa", sum := "85d229966b43ac2c157466cdd7744b9974923be4d5c78b9e677ec312ed0964d3", func := "lifeline/lifelinelaw04.BlockAny", spec := "blockAny", apart := false }
def BlockAnySaid : Prop := blockAnyRow.holds Try.pinned (OpenSpec.ofChange blockAnySpec)

/-- ITS FALSE NEIGHBOUR: 'it returns false'. Refute it at one input. -/
def blockAnyWrong : ChangeSpec := { name := "blockAny", fn := fun _ => fun
  | [d1, d2] => { results := [.lit (.bool false)], args := [d1, d2] }
  | _ => none }
def BlockAnyWrongFalsely : Prop := blockAnyRow.holds Try.pinned (OpenSpec.ofChange blockAnyWrong)

/-- 'lifelinelaw04.BlockBack': WHATEVER THE INPUT: true; the input reads as it did. -/
def blockBackSpec : ChangeSpec := { name := "blockBack", fn := fun _ => fun
  | [d] => { results := [.lit (.bool true)], args := [d] }
  | _ => none }
def blockBackRow : OpenClaim := { program := "ythdkmgeigdoglaa", sum := "85d229966b43ac2c157466cdd7744b9974923be4d5c78b9e677ec312ed0964d3", func := "lifeline/lifelinelaw04.BlockBack", spec := "blockBack", apart := false }
def BlockBackSaid : Prop := blockBackRow.holds Try.pinned (OpenSpec.ofChange blockBackSpec)

/-- ITS FALSE NEIGHBOUR: 'it returns false'. Refute it at one input. -/
def blockBackWrong : ChangeSpec := { name := "blockBack", fn := fun _ => fun
  | [d] => { results := [.lit (.bool false)], args := [d] }
  | _ => none }
def BlockBackWrongFalsely : Prop := blockBackRow.holds Try.pinned (OpenSpec.ofChange blockBackWrong)

/-- 'lifelinelaw04.BlockWhole': WHATEVER THE INPUT: true; the input reads as it did. -/
def blockWholeSpec : ChangeSpec := { name := "blockWhole", fn := fun _ => fun
  | [d1, d2] => { results := [.lit (.bool true)], args := [d1, d2] }
  | _ => none }
def blockWholeRow : OpenClaim := { program := "ythdkmgeigdoglaa", sum := "85d229966b43ac2c157466cdd7744b9974923be4d5c78b9e677ec312ed0964d3", func := "lifeline/lifelinelaw04.BlockWhole", spec := "blockWhole", apart := false }
def BlockWholeSaid : Prop := blockWholeRow.holds Try.pinned (OpenSpec.ofChange blockWholeSpec)

/-- ITS FALSE NEIGHBOUR: 'it returns false'. Refute it at one input. -/
def blockWholeWrong : ChangeSpec := { name := "blockWhole", fn := fun _ => fun
  | [d1, d2] => { results := [.lit (.bool false)], args := [d1, d2] }
  | _ => none }
def BlockWholeWrongFalsely : Prop := blockWholeRow.holds Try.pinned (OpenSpec.ofChange blockWholeWrong)

/-- 'lifelinelaw04.BlockSplit': WHATEVER THE INPUT: true; the input reads as it did. -/
def blockSplitSpec : ChangeSpec := { name := "blockSplit", fn := fun _ => fun
  | [d1, d2, d3] => { results := [.lit (.bool true)], args := [d1, d2, d3] }
  | _ => none }
def blockSplitRow : OpenClaim := { program := "ythdkmgeigdoglaa", sum := "85d229966b43ac2c157466cdd7744b9974923be4d5c78b9e677ec312ed0964d3", func := "lifeline/lifelinelaw04.BlockSplit", spec := "blockSplit", apart := false }
def BlockSplitSaid : Prop := blockSplitRow.holds Try.pinned (OpenSpec.ofChange blockSplitSpec)

/-- ITS FALSE NEIGHBOUR: 'it returns false'. Refute it at one input. -/
def blockSplitWrong : ChangeSpec := { name := "blockSplit", fn := fun _ => fun
  | [d1, d2, d3] => { results := [.lit (.bool false)], args := [d1, d2, d3] }
  | _ => none }
def BlockSplitWrongFalsely : Prop := blockSplitRow.holds Try.pinned (OpenSpec.ofChange blockSplitWrong)

/-- 'lifelinelaw10.SenderWhole': WHATEVER THE INPUT: true; the input reads as it did. -/
def senderWholeSpec : ChangeSpec := { name := "senderWhole", fn := fun _ => fun
  | [d1, d2, d3, d4] => { results := [.lit (.bool true)], args := [d1, d2, d3, d4] }
  | _ => none }
def senderWholeRow : OpenClaim := { program := "ythdkmgeigdoglaa", sum := "85d229966b43ac2c157466cdd7744b9974923be4d5c78b9e677ec312ed0964d3", func := "lifeline/lifelinelaw10.SenderWhole", spec := "senderWhole", apart := false }
def SenderWholeSaid : Prop := senderWholeRow.holds Try.pinned (OpenSpec.ofChange senderWholeSpec)

/-- ITS FALSE NEIGHBOUR: 'it returns false'. Refute it at one input. -/
def senderWholeWrong : ChangeSpec := { name := "senderWhole", fn := fun _ => fun
  | [d1, d2, d3, d4] => { results := [.lit (.bool false)], args := [d1, d2, d3, d4] }
  | _ => none }
def SenderWholeWrongFalsely : Prop := senderWholeRow.holds Try.pinned (OpenSpec.ofChange senderWholeWrong)

/-- 'lifelinelaw10.SenderRaw': WHATEVER THE INPUT: true; the input reads as it did. -/
def senderRawSpec : ChangeSpec := { name := "senderRaw", fn := fun _ => fun
  | [d1, d2, d3, d4, d5] => { results := [.lit (.bool true)], args := [d1, d2, d3, d4, d5] }
  | _ => none }
def senderRawRow : OpenClaim := { program := "ythdkmgeigdoglaa", sum := "85d229966b43ac2c157466cdd7744b9974923be4d5c78b9e677ec312ed0964d3", func := "lifeline/lifelinelaw10.SenderRaw", spec := "senderRaw", apart := false }
def SenderRawSaid : Prop := senderRawRow.holds Try.pinned (OpenSpec.ofChange senderRawSpec)

/-- ITS FALSE NEIGHBOUR: 'it returns false'. Refute it at one input. -/
def senderRawWrong : ChangeSpec := { name := "senderRaw", fn := fun _ => fun
  | [d1, d2, d3, d4, d5] => { results := [.lit (.bool false)], args := [d1, d2, d3, d4, d5] }
  | _ => none }
def SenderRawWrongFalsely : Prop := senderRawRow.holds Try.pinned (OpenSpec.ofChange senderRawWrong)

/-- 'lifelinelaw10.SenderScript': WHATEVER THE INPUT: true; the input reads as it did. -/
def senderScriptSpec : ChangeSpec := { name := "senderScript", fn := fun _ => fun
  | [d1, d2, d3, d4, d5, d6] => { results := [.lit (.bool true)], args := [d1, d2, d3, d4, d5, d6] }
  | _ => none }
def senderScriptRow : OpenClaim := { program := "ythdkmgeigdoglaa", sum := "85d229966b43ac2c157466cdd7744b9974923be4d5c78b9e677ec312ed0964d3", func := "lifeline/lifelinelaw10.SenderScript", spec := "senderScript", apart := false }
def SenderScriptSaid : Prop := senderScriptRow.holds Try.pinned (OpenSpec.ofChange senderScriptSpec)

/-- ITS FALSE NEIGHBOUR: 'it returns false'. Refute it at one input. -/
def senderScriptWrong : ChangeSpec := { name := "senderScript", fn := fun _ => fun
  | [d1, d2, d3, d4, d5, d6] => { results := [.lit (.bool false)], args := [d1, d2, d3, d4, d5, d6] }
  | _ => none }
def SenderScriptWrongFalsely : Prop := senderScriptRow.holds Try.pinned (OpenSpec.ofChange senderScriptWrong)

/-- 'lifelinelaw11.ReceiverScript': WHATEVER THE INPUT: true; the input reads as it did. -/
def receiverScriptSpec : ChangeSpec := { name := "receiverScript", fn := fun _ => fun
  | [d1, d2, d3, d4, d5, d6] => { results := [.lit (.bool true)], args := [d1, d2, d3, d4, d5, d6] }
  | _ => none }
def receiverScriptRow : OpenClaim := { program := "ythdkmgeigdoglaa", sum := "85d229966b43ac2c157466cdd7744b9974923be4d5c78b9e677ec312ed0964d3", func := "lifeline/lifelinelaw11.ReceiverScript", spec := "receiverScript", apart := false }
def ReceiverScriptSaid : Prop := receiverScriptRow.holds Try.pinned (OpenSpec.ofChange receiverScriptSpec)

/-- ITS FALSE NEIGHBOUR: 'it returns false'. Refute it at one input. -/
def receiverScriptWrong : ChangeSpec := { name := "receiverScript", fn := fun _ => fun
  | [d1, d2, d3, d4, d5, d6] => { results := [.lit (.bool false)], args := [d1, d2, d3, d4, d5, d6] }
  | _ => none }
def ReceiverScriptWrongFalsely : Prop := receiverScriptRow.holds Try.pinned (OpenSpec.ofChange receiverScriptWrong)

/-- 'lifelinelaw11.ReceiverTakes': WHATEVER THE INPUT: true; the input reads as it did. -/
def receiverTakesSpec : ChangeSpec := { name := "receiverTakes", fn := fun _ => fun
  | [d1, d2, d3, d4] => { results := [.lit (.bool true)], args := [d1, d2, d3, d4] }
  | _ => none }
def receiverTakesRow : OpenClaim := { program := "ythdkmgeigdoglaa", sum := "85d229966b43ac2c157466cdd7744b9974923be4d5c78b9e677ec312ed0964d3", func := "lifeline/lifelinelaw11.ReceiverTakes", spec := "receiverTakes", apart := false }
def ReceiverTakesSaid : Prop := receiverTakesRow.holds Try.pinned (OpenSpec.ofChange receiverTakesSpec)

/-- ITS FALSE NEIGHBOUR: 'it returns false'. Refute it at one input. -/
def receiverTakesWrong : ChangeSpec := { name := "receiverTakes", fn := fun _ => fun
  | [d1, d2, d3, d4] => { results := [.lit (.bool false)], args := [d1, d2, d3, d4] }
  | _ => none }
def ReceiverTakesWrongFalsely : Prop := receiverTakesRow.holds Try.pinned (OpenSpec.ofChange receiverTakesWrong)

/-- 'lifelinelaw11.ReceiverTurned': WHATEVER THE INPUT: true; the input reads as it did. -/
def receiverTurnedSpec : ChangeSpec := { name := "receiverTurned", fn := fun _ => fun
  | [d1, d2, d3, d4, d5] => { results := [.lit (.bool true)], args := [d1, d2, d3, d4, d5] }
  | _ => none }
def receiverTurnedRow : OpenClaim := { program := "ythdkmgeigdoglaa", sum := "85d229966b43ac2c157466cdd7744b9974923be4d5c78b9e677ec312ed0964d3", func := "lifeline/lifelinelaw11.ReceiverTurned", spec := "receiverTurned", apart := false }
def ReceiverTurnedSaid : Prop := receiverTurnedRow.holds Try.pinned (OpenSpec.ofChange receiverTurnedSpec)

/-- ITS FALSE NEIGHBOUR: 'it returns false'. Refute it at one input. -/
def receiverTurnedWrong : ChangeSpec := { name := "receiverTurned", fn := fun _ => fun
  | [d1, d2, d3, d4, d5] => { results := [.lit (.bool false)], args := [d1, d2, d3, d4, d5] }
  | _ => none }
def ReceiverTurnedWrongFalsely : Prop := receiverTurnedRow.holds Try.pinned (OpenSpec.ofChange receiverTurnedWrong)

/-- 'lifelinelaw11.ReceiverMany': WHATEVER THE INPUT: true; the input reads as it did. -/
def receiverManySpec : ChangeSpec := { name := "receiverMany", fn := fun _ => fun
  | [d1, d2, d3] => { results := [.lit (.bool true)], args := [d1, d2, d3] }
  | _ => none }
def receiverManyRow : OpenClaim := { program := "ythdkmgeigdoglaa", sum := "85d229966b43ac2c157466cdd7744b9974923be4d5c78b9e677ec312ed0964d3", func := "lifeline/lifelinelaw11.ReceiverMany", spec := "receiverMany", apart := false }
def ReceiverManySaid : Prop := receiverManyRow.holds Try.pinned (OpenSpec.ofChange receiverManySpec)

/-- ITS FALSE NEIGHBOUR: 'it returns false'. Refute it at one input. -/
def receiverManyWrong : ChangeSpec := { name := "receiverMany", fn := fun _ => fun
  | [d1, d2, d3] => { results := [.lit (.bool false)], args := [d1, d2, d3] }
  | _ => none }
def ReceiverManyWrongFalsely : Prop := receiverManyRow.holds Try.pinned (OpenSpec.ofChange receiverManyWrong)

/-- 'lifelinelaw10.SenderOrder': WHATEVER THE INPUT: true; the input reads as it did. -/
def senderOrderSpec : ChangeSpec := { name := "senderOrder", fn := fun _ => fun
  | [d1, d2, d3, d4] => { results := [.lit (.bool true)], args := [d1, d2, d3, d4] }
  | _ => none }
def senderOrderRow : OpenClaim := { program := "ythdkmgeigdoglaa", sum := "85d229966b43ac2c157466cdd7744b9974923be4d5c78b9e677ec312ed0964d3", func := "lifeline/lifelinelaw10.SenderOrder", spec := "senderOrder", apart := false }
def SenderOrderSaid : Prop := senderOrderRow.holds Try.pinned (OpenSpec.ofChange senderOrderSpec)

/-- ITS FALSE NEIGHBOUR: 'it returns false'. Refute it at one input. -/
def senderOrderWrong : ChangeSpec := { name := "senderOrder", fn := fun _ => fun
  | [d1, d2, d3, d4] => { results := [.lit (.bool false)], args := [d1, d2, d3, d4] }
  | _ => none }
def SenderOrderWrongFalsely : Prop := senderOrderRow.holds Try.pinned (OpenSpec.ofChange senderOrderWrong)

/-- 'lifelinelaw12.LinkRun': WHATEVER THE INPUT: true; the input reads as it did. -/
def linkRunSpec : ChangeSpec := { name := "linkRun", fn := fun _ => fun
  | [d1, d2, d3, d4, d5, d6] => { results := [.lit (.bool true)], args := [d1, d2, d3, d4, d5, d6] }
  | _ => none }
def linkRunRow : OpenClaim := { program := "ythdkmgeigdoglaa", sum := "85d229966b43ac2c157466cdd7744b9974923be4d5c78b9e677ec312ed0964d3", func := "lifeline/lifelinelaw12.LinkRun", spec := "linkRun", apart := false }
def LinkRunSaid : Prop := linkRunRow.holds Try.pinned (OpenSpec.ofChange linkRunSpec)

/-- ITS FALSE NEIGHBOUR: 'it returns false'. Refute it at one input. -/
def linkRunWrong : ChangeSpec := { name := "linkRun", fn := fun _ => fun
  | [d1, d2, d3, d4, d5, d6] => { results := [.lit (.bool false)], args := [d1, d2, d3, d4, d5, d6] }
  | _ => none }
def LinkRunWrongFalsely : Prop := linkRunRow.holds Try.pinned (OpenSpec.ofChange linkRunWrong)

/-- 'lifelinelaw12.LinkClean': WHATEVER THE INPUT: true; the input reads as it did. -/
def linkCleanSpec : ChangeSpec := { name := "linkClean", fn := fun _ => fun
  | [d1, d2, d3, d4, d5] => { results := [.lit (.bool true)], args := [d1, d2, d3, d4, d5] }
  | _ => none }
def linkCleanRow : OpenClaim := { program := "ythdkmgeigdoglaa", sum := "85d229966b43ac2c157466cdd7744b9974923be4d5c78b9e677ec312ed0964d3", func := "lifeline/lifelinelaw12.LinkClean", spec := "linkClean", apart := false }
def LinkCleanSaid : Prop := linkCleanRow.holds Try.pinned (OpenSpec.ofChange linkCleanSpec)

/-- ITS FALSE NEIGHBOUR: 'it returns false'. Refute it at one input. -/
def linkCleanWrong : ChangeSpec := { name := "linkClean", fn := fun _ => fun
  | [d1, d2, d3, d4, d5] => { results := [.lit (.bool false)], args := [d1, d2, d3, d4, d5] }
  | _ => none }
def LinkCleanWrongFalsely : Prop := linkCleanRow.holds Try.pinned (OpenSpec.ofChange linkCleanWrong)

/-- 'lifelinelaw12.LinkTame': WHATEVER THE INPUT: true; the input reads as it did. -/
def linkTameSpec : ChangeSpec := { name := "linkTame", fn := fun _ => fun
  | [d1, d2, d3, d4, d5] => { results := [.lit (.bool true)], args := [d1, d2, d3, d4, d5] }
  | _ => none }
def linkTameRow : OpenClaim := { program := "ythdkmgeigdoglaa", sum := "85d229966b43ac2c157466cdd7744b9974923be4d5c78b9e677ec312ed0964d3", func := "lifeline/lifelinelaw12.LinkTame", spec := "linkTame", apart := false }
def LinkTameSaid : Prop := linkTameRow.holds Try.pinned (OpenSpec.ofChange linkTameSpec)

/-- ITS FALSE NEIGHBOUR: 'it returns false'. Refute it at one input. -/
def linkTameWrong : ChangeSpec := { name := "linkTame", fn := fun _ => fun
  | [d1, d2, d3, d4, d5] => { results := [.lit (.bool false)], args := [d1, d2, d3, d4, d5] }
  | _ => none }
def LinkTameWrongFalsely : Prop := linkTameRow.holds Try.pinned (OpenSpec.ofChange linkTameWrong)

/-- 'lifelinelaw12.LinkSafe': WHATEVER THE INPUT: true; the input reads as it did. -/
def linkSafeSpec : ChangeSpec := { name := "linkSafe", fn := fun _ => fun
  | [d1, d2, d3, d4, d5] => { results := [.lit (.bool true)], args := [d1, d2, d3, d4, d5] }
  | _ => none }
def linkSafeRow : OpenClaim := { program := "ythdkmgeigdoglaa", sum := "85d229966b43ac2c157466cdd7744b9974923be4d5c78b9e677ec312ed0964d3", func := "lifeline/lifelinelaw12.LinkSafe", spec := "linkSafe", apart := false }
def LinkSafeSaid : Prop := linkSafeRow.holds Try.pinned (OpenSpec.ofChange linkSafeSpec)

/-- ITS FALSE NEIGHBOUR: 'it returns false'. Refute it at one input. -/
def linkSafeWrong : ChangeSpec := { name := "linkSafe", fn := fun _ => fun
  | [d1, d2, d3, d4, d5] => { results := [.lit (.bool false)], args := [d1, d2, d3, d4, d5] }
  | _ => none }
def LinkSafeWrongFalsely : Prop := linkSafeRow.holds Try.pinned (OpenSpec.ofChange linkSafeWrong)

/-- 'lifelinelaw12.LinkMost': WHATEVER THE INPUT: true; the input reads as it did. -/
def linkMostSpec : ChangeSpec := { name := "linkMost", fn := fun _ => fun
  | [d1, d2, d3, d4, d5] => { results := [.lit (.bool true)], args := [d1, d2, d3, d4, d5] }
  | _ => none }
def linkMostRow : OpenClaim := { program := "ythdkmgeigdoglaa", sum := "85d229966b43ac2c157466cdd7744b9974923be4d5c78b9e677ec312ed0964d3", func := "lifeline/lifelinelaw12.LinkMost", spec := "linkMost", apart := false }
def LinkMostSaid : Prop := linkMostRow.holds Try.pinned (OpenSpec.ofChange linkMostSpec)

/-- ITS FALSE NEIGHBOUR: 'it returns false'. Refute it at one input. -/
def linkMostWrong : ChangeSpec := { name := "linkMost", fn := fun _ => fun
  | [d1, d2, d3, d4, d5] => { results := [.lit (.bool false)], args := [d1, d2, d3, d4, d5] }
  | _ => none }
def LinkMostWrongFalsely : Prop := linkMostRow.holds Try.pinned (OpenSpec.ofChange linkMostWrong)

/- THE SECOND FORM. 'bulk': how many values and letters a reading holds, each counted each time it is reached (what is shared counts as often as it is met; a slice's spare places count too). A statement '..UptoSaid' is the law's where the arguments, and the package variables that the reading takes, are together of bulk at most 1048576: NARROWER than '..Said'. Prove '..Said' where nothing that the law and all that it calls make is longer than what came in: it says more and counts as full. Else prove '..UptoSaid'. A law counts once. -/
mutual
def uptoBulk {H : Type} : DataW H → Nat
  | .lit (.string bytes) => bytes.length + 1
  | .lit _ => 1
  | .nil => 1
  | .ptr d => uptoBulk d + 1
  | .slice elems spare => uptoBulkAll elems + uptoBulkAll spare + 1
  | .agg parts => uptoBulkAll parts + 1
  | .iface _ d => uptoBulk d + 1
  | .map entries => uptoBulkEntries entries + 1
  | .held _ => 1
def uptoBulkAll {H : Type} : List (DataW H) → Nat
  | [] => 0
  | d :: r => uptoBulk d + uptoBulkAll r
def uptoBulkEntries {H : Type} : List (Lit × DataW H) → Nat
  | [] => 0
  | x :: r => uptoBulkEntry x + uptoBulkEntries r
def uptoBulkEntry {H : Type} : Lit × DataW H → Nat
  | (.string bytes, d) => bytes.length + uptoBulk d + 1
  | (_, d) => uptoBulk d + 1
 end
def uptoSmall : (H : Type) → List (DataW H) → Bool := fun _ ds => decide (uptoBulkAll ds ≤ 1048576)
def OpenSpec.upto (s : _root_.Go.ChangeSpec) : _root_.Go.OpenSpec := { _root_.Go.OpenSpec.ofChange s with cond := some uptoSmall }

/-- 'lifelinelaw19.StoreOwn', WHERE WHAT IT READS IS OF BULK AT MOST 1048576: true; the input reads as it did. -/
def storeOwnUptoRow : OpenClaim := { program := "ythdkmgeigdoglaa", sum := "85d229966b43ac2c157466cdd7744b9974923be4d5c78b9e677ec312ed0964d3", func := "lifeline/lifelinelaw19.StoreOwn", spec := "storeOwn", apart := false, narrowed := true }
def StoreOwnUptoSaid : Prop := storeOwnUptoRow.holds Try.pinned (OpenSpec.upto storeOwnSpec)

/-- 'lifelinelaw19.StoreApart', WHERE WHAT IT READS IS OF BULK AT MOST 1048576: true; the input reads as it did. -/
def storeApartUptoRow : OpenClaim := { program := "ythdkmgeigdoglaa", sum := "85d229966b43ac2c157466cdd7744b9974923be4d5c78b9e677ec312ed0964d3", func := "lifeline/lifelinelaw19.StoreApart", spec := "storeApart", apart := false, narrowed := true }
def StoreApartUptoSaid : Prop := storeApartUptoRow.holds Try.pinned (OpenSpec.upto storeApartSpec)

/-- 'lifelinelaw19.StoreLast', WHERE WHAT IT READS IS OF BULK AT MOST 1048576: true; the input reads as it did. -/
def storeLastUptoRow : OpenClaim := { program := "ythdkmgeigdoglaa", sum := "85d229966b43ac2c157466cdd7744b9974923be4d5c78b9e677ec312ed0964d3", func := "lifeline/lifelinelaw19.StoreLast", spec := "storeLast", apart := false, narrowed := true }
def StoreLastUptoSaid : Prop := storeLastUptoRow.holds Try.pinned (OpenSpec.upto storeLastSpec)

/-- 'lifelinelaw19.StorePrint', WHERE WHAT IT READS IS OF BULK AT MOST 1048576: true; the input reads as it did. -/
def storePrintUptoRow : OpenClaim := { program := "ythdkmgeigdoglaa", sum := "85d229966b43ac2c157466cdd7744b9974923be4d5c78b9e677ec312ed0964d3", func := "lifeline/lifelinelaw19.StorePrint", spec := "storePrint", apart := false, narrowed := true }
def StorePrintUptoSaid : Prop := storePrintUptoRow.holds Try.pinned (OpenSpec.upto storePrintSpec)

/-- 'lifelinelaw01.SumCheck', WHERE WHAT IT READS IS OF BULK AT MOST 1048576: true; the input reads as it did. -/
def sumCheckUptoRow : OpenClaim := { program := "ythdkmgeigdoglaa", sum := "85d229966b43ac2c157466cdd7744b9974923be4d5c78b9e677ec312ed0964d3", func := "lifeline/lifelinelaw01.SumCheck", spec := "sumCheck", apart := false, narrowed := true }
def SumCheckUptoSaid : Prop := sumCheckUptoRow.holds Try.pinned (OpenSpec.upto sumCheckSpec)

/-- 'lifelinelaw01.SumPrint', WHERE WHAT IT READS IS OF BULK AT MOST 1048576: true; the input reads as it did. -/
def sumPrintUptoRow : OpenClaim := { program := "ythdkmgeigdoglaa", sum := "85d229966b43ac2c157466cdd7744b9974923be4d5c78b9e677ec312ed0964d3", func := "lifeline/lifelinelaw01.SumPrint", spec := "sumPrint", apart := false, narrowed := true }
def SumPrintUptoSaid : Prop := sumPrintUptoRow.holds Try.pinned (OpenSpec.upto sumPrintSpec)

/-- 'lifelinelaw01.SumTurned', WHERE WHAT IT READS IS OF BULK AT MOST 1048576: true; the input reads as it did. -/
def sumTurnedUptoRow : OpenClaim := { program := "ythdkmgeigdoglaa", sum := "85d229966b43ac2c157466cdd7744b9974923be4d5c78b9e677ec312ed0964d3", func := "lifeline/lifelinelaw01.SumTurned", spec := "sumTurned", apart := false, narrowed := true }
def SumTurnedUptoSaid : Prop := sumTurnedUptoRow.holds Try.pinned (OpenSpec.upto sumTurnedSpec)

/-- 'lifelinelaw01.SumTwo', WHERE WHAT IT READS IS OF BULK AT MOST 1048576: true; the input reads as it did. -/
def sumTwoUptoRow : OpenClaim := { program := "ythdkmgeigdoglaa", sum := "85d229966b43ac2c157466cdd7744b9974923be4d5c78b9e677ec312ed0964d3", func := "lifeline/lifelinelaw01.SumTwo", spec := "sumTwo", apart := false, narrowed := true }
def SumTwoUptoSaid : Prop := sumTwoUptoRow.holds Try.pinned (OpenSpec.upto sumTwoSpec)

/-- 'lifelinelaw01.SumCrc', WHERE WHAT IT READS IS OF BULK AT MOST 1048576: true; the input reads as it did. -/
def sumCrcUptoRow : OpenClaim := { program := "ythdkmgeigdoglaa", sum := "85d229966b43ac2c157466cdd7744b9974923be4d5c78b9e677ec312ed0964d3", func := "lifeline/lifelinelaw01.SumCrc", spec := "sumCrc", apart := false, narrowed := true }
def SumCrcUptoSaid : Prop := sumCrcUptoRow.holds Try.pinned (OpenSpec.upto sumCrcSpec)

/-- 'lifelinelaw01.SumTable', WHERE WHAT IT READS IS OF BULK AT MOST 1048576: true; the input reads as it did. -/
def sumTableUptoRow : OpenClaim := { program := "ythdkmgeigdoglaa", sum := "85d229966b43ac2c157466cdd7744b9974923be4d5c78b9e677ec312ed0964d3", func := "lifeline/lifelinelaw01.SumTable", spec := "sumTable", apart := false, narrowed := true }
def SumTableUptoSaid : Prop := sumTableUptoRow.holds Try.pinned (OpenSpec.upto sumTableSpec)

/-- 'lifelinelaw04.BlockMake', WHERE WHAT IT READS IS OF BULK AT MOST 1048576: true; the input reads as it did. -/
def blockMakeUptoRow : OpenClaim := { program := "ythdkmgeigdoglaa", sum := "85d229966b43ac2c157466cdd7744b9974923be4d5c78b9e677ec312ed0964d3", func := "lifeline/lifelinelaw04.BlockMake", spec := "blockMake", apart := false, narrowed := true }
def BlockMakeUptoSaid : Prop := blockMakeUptoRow.holds Try.pinned (OpenSpec.upto blockMakeSpec)

/-- 'lifelinelaw04.BlockScan', WHERE WHAT IT READS IS OF BULK AT MOST 1048576: true; the input reads as it did. -/
def blockScanUptoRow : OpenClaim := { program := "ythdkmgeigdoglaa", sum := "85d229966b43ac2c157466cdd7744b9974923be4d5c78b9e677ec312ed0964d3", func := "lifeline/lifelinelaw04.BlockScan", spec := "blockScan", apart := false, narrowed := true }
def BlockScanUptoSaid : Prop := blockScanUptoRow.holds Try.pinned (OpenSpec.upto blockScanSpec)

/-- 'lifelinelaw04.BlockTurned', WHERE WHAT IT READS IS OF BULK AT MOST 1048576: true; the input reads as it did. -/
def blockTurnedUptoRow : OpenClaim := { program := "ythdkmgeigdoglaa", sum := "85d229966b43ac2c157466cdd7744b9974923be4d5c78b9e677ec312ed0964d3", func := "lifeline/lifelinelaw04.BlockTurned", spec := "blockTurned", apart := false, narrowed := true }
def BlockTurnedUptoSaid : Prop := blockTurnedUptoRow.holds Try.pinned (OpenSpec.upto blockTurnedSpec)

/-- 'lifelinelaw04.BlockAny', WHERE WHAT IT READS IS OF BULK AT MOST 1048576: true; the input reads as it did. -/
def blockAnyUptoRow : OpenClaim := { program := "ythdkmgeigdoglaa", sum := "85d229966b43ac2c157466cdd7744b9974923be4d5c78b9e677ec312ed0964d3", func := "lifeline/lifelinelaw04.BlockAny", spec := "blockAny", apart := false, narrowed := true }
def BlockAnyUptoSaid : Prop := blockAnyUptoRow.holds Try.pinned (OpenSpec.upto blockAnySpec)

/-- 'lifelinelaw04.BlockBack', WHERE WHAT IT READS IS OF BULK AT MOST 1048576: true; the input reads as it did. -/
def blockBackUptoRow : OpenClaim := { program := "ythdkmgeigdoglaa", sum := "85d229966b43ac2c157466cdd7744b9974923be4d5c78b9e677ec312ed0964d3", func := "lifeline/lifelinelaw04.BlockBack", spec := "blockBack", apart := false, narrowed := true }
def BlockBackUptoSaid : Prop := blockBackUptoRow.holds Try.pinned (OpenSpec.upto blockBackSpec)

/-- 'lifelinelaw04.BlockWhole', WHERE WHAT IT READS IS OF BULK AT MOST 1048576: true; the input reads as it did. -/
def blockWholeUptoRow : OpenClaim := { program := "ythdkmgeigdoglaa", sum := "85d229966b43ac2c157466cdd7744b9974923be4d5c78b9e677ec312ed0964d3", func := "lifeline/lifelinelaw04.BlockWhole", spec := "blockWhole", apart := false, narrowed := true }
def BlockWholeUptoSaid : Prop := blockWholeUptoRow.holds Try.pinned (OpenSpec.upto blockWholeSpec)

/-- 'lifelinelaw04.BlockSplit', WHERE WHAT IT READS IS OF BULK AT MOST 1048576: true; the input reads as it did. -/
def blockSplitUptoRow : OpenClaim := { program := "ythdkmgeigdoglaa", sum := "85d229966b43ac2c157466cdd7744b9974923be4d5c78b9e677ec312ed0964d3", func := "lifeline/lifelinelaw04.BlockSplit", spec := "blockSplit", apart := false, narrowed := true }
def BlockSplitUptoSaid : Prop := blockSplitUptoRow.holds Try.pinned (OpenSpec.upto blockSplitSpec)

/-- 'lifelinelaw10.SenderWhole', WHERE WHAT IT READS IS OF BULK AT MOST 1048576: true; the input reads as it did. -/
def senderWholeUptoRow : OpenClaim := { program := "ythdkmgeigdoglaa", sum := "85d229966b43ac2c157466cdd7744b9974923be4d5c78b9e677ec312ed0964d3", func := "lifeline/lifelinelaw10.SenderWhole", spec := "senderWhole", apart := false, narrowed := true }
def SenderWholeUptoSaid : Prop := senderWholeUptoRow.holds Try.pinned (OpenSpec.upto senderWholeSpec)

/-- 'lifelinelaw10.SenderRaw', WHERE WHAT IT READS IS OF BULK AT MOST 1048576: true; the input reads as it did. -/
def senderRawUptoRow : OpenClaim := { program := "ythdkmgeigdoglaa", sum := "85d229966b43ac2c157466cdd7744b9974923be4d5c78b9e677ec312ed0964d3", func := "lifeline/lifelinelaw10.SenderRaw", spec := "senderRaw", apart := false, narrowed := true }
def SenderRawUptoSaid : Prop := senderRawUptoRow.holds Try.pinned (OpenSpec.upto senderRawSpec)

/-- 'lifelinelaw10.SenderScript', WHERE WHAT IT READS IS OF BULK AT MOST 1048576: true; the input reads as it did. -/
def senderScriptUptoRow : OpenClaim := { program := "ythdkmgeigdoglaa", sum := "85d229966b43ac2c157466cdd7744b9974923be4d5c78b9e677ec312ed0964d3", func := "lifeline/lifelinelaw10.SenderScript", spec := "senderScript", apart := false, narrowed := true }
def SenderScriptUptoSaid : Prop := senderScriptUptoRow.holds Try.pinned (OpenSpec.upto senderScriptSpec)

/-- 'lifelinelaw11.ReceiverScript', WHERE WHAT IT READS IS OF BULK AT MOST 1048576: true; the input reads as it did. -/
def receiverScriptUptoRow : OpenClaim := { program := "ythdkmgeigdoglaa", sum := "85d229966b43ac2c157466cdd7744b9974923be4d5c78b9e677ec312ed0964d3", func := "lifeline/lifelinelaw11.ReceiverScript", spec := "receiverScript", apart := false, narrowed := true }
def ReceiverScriptUptoSaid : Prop := receiverScriptUptoRow.holds Try.pinned (OpenSpec.upto receiverScriptSpec)

/-- 'lifelinelaw11.ReceiverTakes', WHERE WHAT IT READS IS OF BULK AT MOST 1048576: true; the input reads as it did. -/
def receiverTakesUptoRow : OpenClaim := { program := "ythdkmgeigdoglaa", sum := "85d229966b43ac2c157466cdd7744b9974923be4d5c78b9e677ec312ed0964d3", func := "lifeline/lifelinelaw11.ReceiverTakes", spec := "receiverTakes", apart := false, narrowed := true }
def ReceiverTakesUptoSaid : Prop := receiverTakesUptoRow.holds Try.pinned (OpenSpec.upto receiverTakesSpec)

/-- 'lifelinelaw11.ReceiverTurned', WHERE WHAT IT READS IS OF BULK AT MOST 1048576: true; the input reads as it did. -/
def receiverTurnedUptoRow : OpenClaim := { program := "ythdkmgeigdoglaa", sum := "85d229966b43ac2c157466cdd7744b9974923be4d5c78b9e677ec312ed0964d3", func := "lifeline/lifelinelaw11.ReceiverTurned", spec := "receiverTurned", apart := false, narrowed := true }
def ReceiverTurnedUptoSaid : Prop := receiverTurnedUptoRow.holds Try.pinned (OpenSpec.upto receiverTurnedSpec)

/-- 'lifelinelaw11.ReceiverMany', WHERE WHAT IT READS IS OF BULK AT MOST 1048576: true; the input reads as it did. -/
def receiverManyUptoRow : OpenClaim := { program := "ythdkmgeigdoglaa", sum := "85d229966b43ac2c157466cdd7744b9974923be4d5c78b9e677ec312ed0964d3", func := "lifeline/lifelinelaw11.ReceiverMany", spec := "receiverMany", apart := false, narrowed := true }
def ReceiverManyUptoSaid : Prop := receiverManyUptoRow.holds Try.pinned (OpenSpec.upto receiverManySpec)

/-- 'lifelinelaw10.SenderOrder', WHERE WHAT IT READS IS OF BULK AT MOST 1048576: true; the input reads as it did. -/
def senderOrderUptoRow : OpenClaim := { program := "ythdkmgeigdoglaa", sum := "85d229966b43ac2c157466cdd7744b9974923be4d5c78b9e677ec312ed0964d3", func := "lifeline/lifelinelaw10.SenderOrder", spec := "senderOrder", apart := false, narrowed := true }
def SenderOrderUptoSaid : Prop := senderOrderUptoRow.holds Try.pinned (OpenSpec.upto senderOrderSpec)

/-- 'lifelinelaw12.LinkRun', WHERE WHAT IT READS IS OF BULK AT MOST 1048576: true; the input reads as it did. -/
def linkRunUptoRow : OpenClaim := { program := "ythdkmgeigdoglaa", sum := "85d229966b43ac2c157466cdd7744b9974923be4d5c78b9e677ec312ed0964d3", func := "lifeline/lifelinelaw12.LinkRun", spec := "linkRun", apart := false, narrowed := true }
def LinkRunUptoSaid : Prop := linkRunUptoRow.holds Try.pinned (OpenSpec.upto linkRunSpec)

/-- 'lifelinelaw12.LinkClean', WHERE WHAT IT READS IS OF BULK AT MOST 1048576: true; the input reads as it did. -/
def linkCleanUptoRow : OpenClaim := { program := "ythdkmgeigdoglaa", sum := "85d229966b43ac2c157466cdd7744b9974923be4d5c78b9e677ec312ed0964d3", func := "lifeline/lifelinelaw12.LinkClean", spec := "linkClean", apart := false, narrowed := true }
def LinkCleanUptoSaid : Prop := linkCleanUptoRow.holds Try.pinned (OpenSpec.upto linkCleanSpec)

/-- 'lifelinelaw12.LinkTame', WHERE WHAT IT READS IS OF BULK AT MOST 1048576: true; the input reads as it did. -/
def linkTameUptoRow : OpenClaim := { program := "ythdkmgeigdoglaa", sum := "85d229966b43ac2c157466cdd7744b9974923be4d5c78b9e677ec312ed0964d3", func := "lifeline/lifelinelaw12.LinkTame", spec := "linkTame", apart := false, narrowed := true }
def LinkTameUptoSaid : Prop := linkTameUptoRow.holds Try.pinned (OpenSpec.upto linkTameSpec)

/-- 'lifelinelaw12.LinkSafe', WHERE WHAT IT READS IS OF BULK AT MOST 1048576: true; the input reads as it did. -/
def linkSafeUptoRow : OpenClaim := { program := "ythdkmgeigdoglaa", sum := "85d229966b43ac2c157466cdd7744b9974923be4d5c78b9e677ec312ed0964d3", func := "lifeline/lifelinelaw12.LinkSafe", spec := "linkSafe", apart := false, narrowed := true }
def LinkSafeUptoSaid : Prop := linkSafeUptoRow.holds Try.pinned (OpenSpec.upto linkSafeSpec)

/-- 'lifelinelaw12.LinkMost', WHERE WHAT IT READS IS OF BULK AT MOST 1048576: true; the input reads as it did. -/
def linkMostUptoRow : OpenClaim := { program := "ythdkmgeigdoglaa", sum := "85d229966b43ac2c157466cdd7744b9974923be4d5c78b9e677ec312ed0964d3", func := "lifeline/lifelinelaw12.LinkMost", spec := "linkMost", apart := false, narrowed := true }
def LinkMostUptoSaid : Prop := linkMostUptoRow.holds Try.pinned (OpenSpec.upto linkMostSpec)

end Rows
end Go.Proofs.Ythdkmgeigdoglaa
