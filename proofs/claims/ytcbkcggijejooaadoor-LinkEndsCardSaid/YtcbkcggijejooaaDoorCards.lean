/-
  DERIVED. GIVEN WITH THE SEED: THE CARDS: each row of YtcbkcggijejooaaDoorRows.lean that lists a variable, with what it lists TIED to the program's text (the seventh form; the later family's looks); each row that meets fmt, with fmt's text TOLD by the authors' own Lean function (tested against real Go, not proved from fmt's source: count such statements apart). THE CARD IS WHAT COUNTS. Prove the row's statement (the work); the ties are given (YtcbkcggijejooaaDoorTie.lean); close each card by the builder's one call (the guide's Derived/Test/ToyasCard.lean, 'card_holds'). Laid BY PROGRAM, IN A SANDBOX (cutbox-door.mjs). By AI agents, Wed Nov 11 2026. No macro, syntax, notation, axiom, sorry.
-/
import Derived.Test.YtcbkcggijejooaaDoorRows
import GoSem.ClaimSeven
namespace Go.Proofs.YtcbkcggijejooaaDoor
namespace Rows

/-- THE TIED CARD OF 'lifelinelaw10.SenderEnds'. -/
def senderEndsCard : Claim7 := { stood := { row := senderEndsRow, standIns := [], harness := (true, "584eab07595cb022accce88a555802376ba522e7b036dae7917c8cb85fd643f5"), looks := true }, kinds := [], alts := [], laidByText := true, laidKinds := [.handle], laidTests := true, laidLooks := .later }
def SenderEndsCardSaid : Prop := Claim7.holds Tryd.pinned (.plain (OpenSpec.ofChange senderEndsSpec)) senderEndsCard

/-- THE TIED CARD OF 'lifelinelaw11.ReceiverAsks'. -/
def receiverAsksCard : Claim7 := { stood := { row := receiverAsksRow, standIns := [], harness := (true, "584eab07595cb022accce88a555802376ba522e7b036dae7917c8cb85fd643f5"), looks := true }, kinds := [], alts := [], laidByText := true, laidKinds := [.handle], laidTests := true, laidLooks := .later }
def ReceiverAsksCardSaid : Prop := Claim7.holds Tryd.pinned (.plain (OpenSpec.ofChange receiverAsksSpec)) receiverAsksCard

/-- THE TIED CARD OF 'lifelinelaw11.ReceiverCancel'. -/
def receiverCancelCard : Claim7 := { stood := { row := receiverCancelRow, standIns := [], harness := (true, "584eab07595cb022accce88a555802376ba522e7b036dae7917c8cb85fd643f5"), looks := true }, kinds := [], alts := [], laidByText := true, laidKinds := [.handle], laidTests := true, laidLooks := .later }
def ReceiverCancelCardSaid : Prop := Claim7.holds Tryd.pinned (.plain (OpenSpec.ofChange receiverCancelSpec)) receiverCancelCard

/-- THE TIED CARD OF 'lifelinelaw12.LinkEnds'. -/
def linkEndsCard : Claim7 := { stood := { row := linkEndsRow, standIns := [], harness := (true, "584eab07595cb022accce88a555802376ba522e7b036dae7917c8cb85fd643f5"), looks := true }, kinds := [], alts := [], laidByText := true, laidKinds := [.handle], laidTests := true, laidLooks := .later }
def LinkEndsCardSaid : Prop := Claim7.holds Tryd.pinned (.plain (OpenSpec.ofChange linkEndsSpec)) linkEndsCard

/-- THE SECOND FORM's CARD OF 'lifelinelaw10.SenderEnds'. -/
def senderEndsUptoCard : Claim7 := { stood := { row := senderEndsUptoRow, standIns := [], harness := (true, "584eab07595cb022accce88a555802376ba522e7b036dae7917c8cb85fd643f5"), looks := true }, kinds := [], alts := [], laidByText := true, laidKinds := [.handle], laidTests := true, laidLooks := .later }
def SenderEndsUptoCardSaid : Prop := Claim7.holds Tryd.pinned (.plain (OpenSpec.upto senderEndsSpec)) senderEndsUptoCard

/-- THE SECOND FORM's CARD OF 'lifelinelaw11.ReceiverAsks'. -/
def receiverAsksUptoCard : Claim7 := { stood := { row := receiverAsksUptoRow, standIns := [], harness := (true, "584eab07595cb022accce88a555802376ba522e7b036dae7917c8cb85fd643f5"), looks := true }, kinds := [], alts := [], laidByText := true, laidKinds := [.handle], laidTests := true, laidLooks := .later }
def ReceiverAsksUptoCardSaid : Prop := Claim7.holds Tryd.pinned (.plain (OpenSpec.upto receiverAsksSpec)) receiverAsksUptoCard

/-- THE SECOND FORM's CARD OF 'lifelinelaw11.ReceiverCancel'. -/
def receiverCancelUptoCard : Claim7 := { stood := { row := receiverCancelUptoRow, standIns := [], harness := (true, "584eab07595cb022accce88a555802376ba522e7b036dae7917c8cb85fd643f5"), looks := true }, kinds := [], alts := [], laidByText := true, laidKinds := [.handle], laidTests := true, laidLooks := .later }
def ReceiverCancelUptoCardSaid : Prop := Claim7.holds Tryd.pinned (.plain (OpenSpec.upto receiverCancelSpec)) receiverCancelUptoCard

/-- THE SECOND FORM's CARD OF 'lifelinelaw12.LinkEnds'. -/
def linkEndsUptoCard : Claim7 := { stood := { row := linkEndsUptoRow, standIns := [], harness := (true, "584eab07595cb022accce88a555802376ba522e7b036dae7917c8cb85fd643f5"), looks := true }, kinds := [], alts := [], laidByText := true, laidKinds := [.handle], laidTests := true, laidLooks := .later }
def LinkEndsUptoCardSaid : Prop := Claim7.holds Tryd.pinned (.plain (OpenSpec.upto linkEndsSpec)) linkEndsUptoCard
end Rows
end Go.Proofs.YtcbkcggijejooaaDoor
