/-
  DERIVED. GIVEN WITH THE SEED: THE CARDS: each row of YtijpbpnfachlkaaDoorRows.lean that lists a variable, with what it lists TIED to the program's text (the seventh form; the later family's looks); each row that meets fmt, with fmt's text TOLD by the authors' own Lean function (tested against real Go, not proved from fmt's source: count such statements apart). THE CARD IS WHAT COUNTS. Prove the row's statement (the work); the ties are given (YtijpbpnfachlkaaDoorTie.lean); close each card by the builder's one call (the guide's Derived/Test/ToyasCard.lean, 'card_holds'). Laid BY PROGRAM, IN A SANDBOX (cutbox-door.mjs). By AI agents, Wed Nov 11 2026. No macro, syntax, notation, axiom, sorry.
-/
import Derived.Test.YtijpbpnfachlkaaDoorRows
import GoSem.ClaimSeven
namespace Go.Proofs.YtijpbpnfachlkaaDoor
namespace Rows

/-- THE TIED CARD OF 'lifelinelaw06.RegexParse'. -/
def regexParseCard : Claim7 := { stood := { row := regexParseRow, standIns := [], harness := (true, "44dd343c34a5f614db320440d2421554870e4e89dd8db123dfa988620a1f0752"), looks := true }, kinds := [], alts := [], laidByText := true, laidKinds := [.handle], laidTests := true, laidLooks := .later }
def RegexParseCardSaid : Prop := Claim7.holds Tryd.pinned (.plain (OpenSpec.ofChange regexParseSpec)) regexParseCard

/-- THE TIED CARD OF 'lifelinelaw06.RegexSet'. -/
def regexSetCard : Claim7 := { stood := { row := regexSetRow, standIns := [], harness := (true, "44dd343c34a5f614db320440d2421554870e4e89dd8db123dfa988620a1f0752"), looks := true }, kinds := [], alts := [], laidByText := true, laidKinds := [.handle], laidTests := true, laidLooks := .later }
def RegexSetCardSaid : Prop := Claim7.holds Tryd.pinned (.plain (OpenSpec.ofChange regexSetSpec)) regexSetCard

/-- THE TIED CARD OF 'lifelinelaw06.RegexWrong'. -/
def regexWrongCard : Claim7 := { stood := { row := regexWrongRow, standIns := [], harness := (true, "44dd343c34a5f614db320440d2421554870e4e89dd8db123dfa988620a1f0752"), looks := true }, kinds := [], alts := [], laidByText := true, laidKinds := [.handle], laidTests := true, laidLooks := .later }
def RegexWrongCardSaid : Prop := Claim7.holds Tryd.pinned (.plain (OpenSpec.ofChange regexWrongSpec)) regexWrongCard

/-- THE TIED CARD OF 'lifelinelaw06.RegexDeep'. -/
def regexDeepCard : Claim7 := { stood := { row := regexDeepRow, standIns := [], harness := (true, "44dd343c34a5f614db320440d2421554870e4e89dd8db123dfa988620a1f0752"), looks := true }, kinds := [], alts := [], laidByText := true, laidKinds := [.handle], laidTests := true, laidLooks := .later }
def RegexDeepCardSaid : Prop := Claim7.holds Tryd.pinned (.plain (OpenSpec.ofChange regexDeepSpec)) regexDeepCard

/-- THE TIED CARD OF 'lifelinelaw06.RegexQuote'. -/
def regexQuoteCard : Claim7 := { stood := { row := regexQuoteRow, standIns := [], harness := (true, "44dd343c34a5f614db320440d2421554870e4e89dd8db123dfa988620a1f0752"), looks := true }, kinds := [], alts := [], laidByText := true, laidKinds := [.handle], laidTests := true, laidLooks := .later }
def RegexQuoteCardSaid : Prop := Claim7.holds Tryd.pinned (.plain (OpenSpec.ofChange regexQuoteSpec)) regexQuoteCard

/-- THE TIED CARD OF 'lifelinelaw09.ExpectWrong'. -/
def expectWrongCard : Claim7 := { stood := { row := expectWrongRow, standIns := [], harness := (true, "44dd343c34a5f614db320440d2421554870e4e89dd8db123dfa988620a1f0752"), looks := true }, kinds := [], alts := [], laidByText := true, laidKinds := [.handle], laidTests := true, laidLooks := .later }
def ExpectWrongCardSaid : Prop := Claim7.holds Tryd.pinned (.plain (OpenSpec.ofChange expectWrongSpec)) expectWrongCard

/-- THE TIED CARD OF 'lifelinelaw09.ExpectFirst'. -/
def expectFirstCard : Claim7 := { stood := { row := expectFirstRow, standIns := [], harness := (true, "44dd343c34a5f614db320440d2421554870e4e89dd8db123dfa988620a1f0752"), looks := true }, kinds := [], alts := [], laidByText := true, laidKinds := [.handle], laidTests := true, laidLooks := .later }
def ExpectFirstCardSaid : Prop := Claim7.holds Tryd.pinned (.plain (OpenSpec.ofChange expectFirstSpec)) expectFirstCard

/-- THE SECOND FORM's CARD OF 'lifelinelaw06.RegexParse'. -/
def regexParseUptoCard : Claim7 := { stood := { row := regexParseUptoRow, standIns := [], harness := (true, "44dd343c34a5f614db320440d2421554870e4e89dd8db123dfa988620a1f0752"), looks := true }, kinds := [], alts := [], laidByText := true, laidKinds := [.handle], laidTests := true, laidLooks := .later }
def RegexParseUptoCardSaid : Prop := Claim7.holds Tryd.pinned (.plain (OpenSpec.upto regexParseSpec)) regexParseUptoCard

/-- THE SECOND FORM's CARD OF 'lifelinelaw06.RegexSet'. -/
def regexSetUptoCard : Claim7 := { stood := { row := regexSetUptoRow, standIns := [], harness := (true, "44dd343c34a5f614db320440d2421554870e4e89dd8db123dfa988620a1f0752"), looks := true }, kinds := [], alts := [], laidByText := true, laidKinds := [.handle], laidTests := true, laidLooks := .later }
def RegexSetUptoCardSaid : Prop := Claim7.holds Tryd.pinned (.plain (OpenSpec.upto regexSetSpec)) regexSetUptoCard

/-- THE SECOND FORM's CARD OF 'lifelinelaw06.RegexWrong'. -/
def regexWrongUptoCard : Claim7 := { stood := { row := regexWrongUptoRow, standIns := [], harness := (true, "44dd343c34a5f614db320440d2421554870e4e89dd8db123dfa988620a1f0752"), looks := true }, kinds := [], alts := [], laidByText := true, laidKinds := [.handle], laidTests := true, laidLooks := .later }
def RegexWrongUptoCardSaid : Prop := Claim7.holds Tryd.pinned (.plain (OpenSpec.upto regexWrongSpec)) regexWrongUptoCard

/-- THE SECOND FORM's CARD OF 'lifelinelaw06.RegexDeep'. -/
def regexDeepUptoCard : Claim7 := { stood := { row := regexDeepUptoRow, standIns := [], harness := (true, "44dd343c34a5f614db320440d2421554870e4e89dd8db123dfa988620a1f0752"), looks := true }, kinds := [], alts := [], laidByText := true, laidKinds := [.handle], laidTests := true, laidLooks := .later }
def RegexDeepUptoCardSaid : Prop := Claim7.holds Tryd.pinned (.plain (OpenSpec.upto regexDeepSpec)) regexDeepUptoCard

/-- THE SECOND FORM's CARD OF 'lifelinelaw06.RegexQuote'. -/
def regexQuoteUptoCard : Claim7 := { stood := { row := regexQuoteUptoRow, standIns := [], harness := (true, "44dd343c34a5f614db320440d2421554870e4e89dd8db123dfa988620a1f0752"), looks := true }, kinds := [], alts := [], laidByText := true, laidKinds := [.handle], laidTests := true, laidLooks := .later }
def RegexQuoteUptoCardSaid : Prop := Claim7.holds Tryd.pinned (.plain (OpenSpec.upto regexQuoteSpec)) regexQuoteUptoCard

/-- THE SECOND FORM's CARD OF 'lifelinelaw09.ExpectWrong'. -/
def expectWrongUptoCard : Claim7 := { stood := { row := expectWrongUptoRow, standIns := [], harness := (true, "44dd343c34a5f614db320440d2421554870e4e89dd8db123dfa988620a1f0752"), looks := true }, kinds := [], alts := [], laidByText := true, laidKinds := [.handle], laidTests := true, laidLooks := .later }
def ExpectWrongUptoCardSaid : Prop := Claim7.holds Tryd.pinned (.plain (OpenSpec.upto expectWrongSpec)) expectWrongUptoCard

/-- THE SECOND FORM's CARD OF 'lifelinelaw09.ExpectFirst'. -/
def expectFirstUptoCard : Claim7 := { stood := { row := expectFirstUptoRow, standIns := [], harness := (true, "44dd343c34a5f614db320440d2421554870e4e89dd8db123dfa988620a1f0752"), looks := true }, kinds := [], alts := [], laidByText := true, laidKinds := [.handle], laidTests := true, laidLooks := .later }
def ExpectFirstUptoCardSaid : Prop := Claim7.holds Tryd.pinned (.plain (OpenSpec.upto expectFirstSpec)) expectFirstUptoCard
end Rows
end Go.Proofs.YtijpbpnfachlkaaDoor
