/-
  No cell of these rows narrows 'for every input' (looked for: loops, veiled, ifaces, maps, wideKeys, modest, calm, conditions, laid).
  DERIVED. THE GIVEN ROWS OF THIS SEAT. 15 by the template 'for every input the law returns true; each argument reads behind the call as it read before'; 0 by the template 'total and deterministic' (their statements: YtkgdphbccagjcaaTotals.lean).
  GIVEN WITH THE SEED: the statements are not yours to turn. If you find one false, say at which input.
  Laid BY PROGRAM, IN A SANDBOX (cutbox-rows.mjs): the forced cells as the released guide's own fill.sh prints them over the translation e64eda8a673bf11c… (all of the seat's roots in one cut). By AI agents, Wed Nov 11 2026. No macro, syntax, notation, axiom, sorry.
-/
import Derived.Test.YtkgdphbccagjcaaChecked
import GoSem.Claim
import GoSem.ClaimJoined
import GoSem.ClaimMapViews
import Derived.JoinedTies
import Derived.KernelRfl
namespace Go.Proofs.Ytkgdphbccagjcaa
/- THE CELL 'sum', in the pinned program and in every row, IS THE sha256 OF THE DUMP (.gsa) THAT YtkgdphbccagjcaaProg.lean LOADS. Nothing in Lean hashes anything: it is a label: what it is worth is what the hold of that sum in a sandbox is worth. -/
noncomputable def Try.pinned : Pinned := { name := "ytkgdphbccagjcaa", sum := "e64eda8a673bf11c88bd92f8a85a94facfdfc91610d88b482461bd3a57dc4ab3", checked := Try.checked }
namespace Rows
def none {H : Type} : Left H := { results := [], args := [] }

/-- 'lifelinelaw08.MatchParts': WHATEVER THE INPUT: true; the input reads as it did. -/
def matchPartsSpec : ChangeSpec := { name := "matchParts", fn := fun _ => fun
  | [d1, d2, d3, d4] => { results := [.lit (.bool true)], args := [d1, d2, d3, d4] }
  | _ => none }
def matchPartsRow : OpenClaim := { program := "ytkgdphbccagjcaa", sum := "e64eda8a673bf11c88bd92f8a85a94facfdfc91610d88b482461bd3a57dc4ab3", func := "lifeline/lifelinelaw08.MatchParts", spec := "matchParts", recurses := true, plainKeys := false, apart := false }
def MatchPartsSaid : Prop := matchPartsRow.holds Try.pinned (OpenSpec.ofChange matchPartsSpec)

/-- ITS FALSE NEIGHBOUR: 'it returns false'. Refute it at one input. -/
def matchPartsWrong : ChangeSpec := { name := "matchParts", fn := fun _ => fun
  | [d1, d2, d3, d4] => { results := [.lit (.bool false)], args := [d1, d2, d3, d4] }
  | _ => none }
def MatchPartsWrongFalsely : Prop := matchPartsRow.holds Try.pinned (OpenSpec.ofChange matchPartsWrong)

/-- 'lifelinelaw08.MatchGrow': WHATEVER THE INPUT: true; the input reads as it did. -/
def matchGrowSpec : ChangeSpec := { name := "matchGrow", fn := fun _ => fun
  | [d1, d2, d3] => { results := [.lit (.bool true)], args := [d1, d2, d3] }
  | _ => none }
def matchGrowRow : OpenClaim := { program := "ytkgdphbccagjcaa", sum := "e64eda8a673bf11c88bd92f8a85a94facfdfc91610d88b482461bd3a57dc4ab3", func := "lifeline/lifelinelaw08.MatchGrow", spec := "matchGrow", recurses := true, plainKeys := false, apart := false }
def MatchGrowSaid : Prop := matchGrowRow.holds Try.pinned (OpenSpec.ofChange matchGrowSpec)

/-- ITS FALSE NEIGHBOUR: 'it returns false'. Refute it at one input. -/
def matchGrowWrong : ChangeSpec := { name := "matchGrow", fn := fun _ => fun
  | [d1, d2, d3] => { results := [.lit (.bool false)], args := [d1, d2, d3] }
  | _ => none }
def MatchGrowWrongFalsely : Prop := matchGrowRow.holds Try.pinned (OpenSpec.ofChange matchGrowWrong)

/-- 'lifelinelaw08.MatchAll': WHATEVER THE INPUT: true; the input reads as it did. -/
def matchAllSpec : ChangeSpec := { name := "matchAll", fn := fun _ => fun
  | [d1, d2] => { results := [.lit (.bool true)], args := [d1, d2] }
  | _ => none }
def matchAllRow : OpenClaim := { program := "ytkgdphbccagjcaa", sum := "e64eda8a673bf11c88bd92f8a85a94facfdfc91610d88b482461bd3a57dc4ab3", func := "lifeline/lifelinelaw08.MatchAll", spec := "matchAll", recurses := true, plainKeys := false, apart := false }
def MatchAllSaid : Prop := matchAllRow.holds Try.pinned (OpenSpec.ofChange matchAllSpec)

/-- ITS FALSE NEIGHBOUR: 'it returns false'. Refute it at one input. -/
def matchAllWrong : ChangeSpec := { name := "matchAll", fn := fun _ => fun
  | [d1, d2] => { results := [.lit (.bool false)], args := [d1, d2] }
  | _ => none }
def MatchAllWrongFalsely : Prop := matchAllRow.holds Try.pinned (OpenSpec.ofChange matchAllWrong)

/-- 'lifelinelaw08.MatchQuoted': WHATEVER THE INPUT: true; the input reads as it did. -/
def matchQuotedSpec : ChangeSpec := { name := "matchQuoted", fn := fun _ => fun
  | [d1, d2] => { results := [.lit (.bool true)], args := [d1, d2] }
  | _ => none }
def matchQuotedRow : OpenClaim := { program := "ytkgdphbccagjcaa", sum := "e64eda8a673bf11c88bd92f8a85a94facfdfc91610d88b482461bd3a57dc4ab3", func := "lifeline/lifelinelaw08.MatchQuoted", spec := "matchQuoted", inPlace := ["internal/bytealg.IndexByteString", "internal/abi.NoEscape"], recurses := true, plainKeys := false, apart := false }
def MatchQuotedSaid : Prop := matchQuotedRow.holds Try.pinned (OpenSpec.ofChange matchQuotedSpec)

/-- ITS FALSE NEIGHBOUR: 'it returns false'. Refute it at one input. -/
def matchQuotedWrong : ChangeSpec := { name := "matchQuoted", fn := fun _ => fun
  | [d1, d2] => { results := [.lit (.bool false)], args := [d1, d2] }
  | _ => none }
def MatchQuotedWrongFalsely : Prop := matchQuotedRow.holds Try.pinned (OpenSpec.ofChange matchQuotedWrong)

/-- 'lifelinelaw07.NfaFits': WHATEVER THE INPUT: true; the input reads as it did. -/
def nfaFitsSpec : ChangeSpec := { name := "nfaFits", fn := fun _ => fun
  | [d1, d2] => { results := [.lit (.bool true)], args := [d1, d2] }
  | _ => none }
def nfaFitsRow : OpenClaim := { program := "ytkgdphbccagjcaa", sum := "e64eda8a673bf11c88bd92f8a85a94facfdfc91610d88b482461bd3a57dc4ab3", func := "lifeline/lifelinelaw07.NfaFits", spec := "nfaFits", recurses := true, plainKeys := false, apart := false }
def NfaFitsSaid : Prop := nfaFitsRow.holds Try.pinned (OpenSpec.ofChange nfaFitsSpec)

/-- ITS FALSE NEIGHBOUR: 'it returns false'. Refute it at one input. -/
def nfaFitsWrong : ChangeSpec := { name := "nfaFits", fn := fun _ => fun
  | [d1, d2] => { results := [.lit (.bool false)], args := [d1, d2] }
  | _ => none }
def NfaFitsWrongFalsely : Prop := nfaFitsRow.holds Try.pinned (OpenSpec.ofChange nfaFitsWrong)

/-- 'lifelinelaw07.NfaStep': WHATEVER THE INPUT: true; the input reads as it did. -/
def nfaStepSpec : ChangeSpec := { name := "nfaStep", fn := fun _ => fun
  | [d1, d2] => { results := [.lit (.bool true)], args := [d1, d2] }
  | _ => none }
def nfaStepRow : OpenClaim := { program := "ytkgdphbccagjcaa", sum := "e64eda8a673bf11c88bd92f8a85a94facfdfc91610d88b482461bd3a57dc4ab3", func := "lifeline/lifelinelaw07.NfaStep", spec := "nfaStep", recurses := true, plainKeys := false, apart := false }
def NfaStepSaid : Prop := nfaStepRow.holds Try.pinned (OpenSpec.ofChange nfaStepSpec)

/-- ITS FALSE NEIGHBOUR: 'it returns false'. Refute it at one input. -/
def nfaStepWrong : ChangeSpec := { name := "nfaStep", fn := fun _ => fun
  | [d1, d2] => { results := [.lit (.bool false)], args := [d1, d2] }
  | _ => none }
def NfaStepWrongFalsely : Prop := nfaStepRow.holds Try.pinned (OpenSpec.ofChange nfaStepWrong)

/-- 'lifelinelaw07.NfaMore': WHATEVER THE INPUT: true; the input reads as it did. -/
def nfaMoreSpec : ChangeSpec := { name := "nfaMore", fn := fun _ => fun
  | [d1, d2, d3, d4, d5] => { results := [.lit (.bool true)], args := [d1, d2, d3, d4, d5] }
  | _ => none }
def nfaMoreRow : OpenClaim := { program := "ytkgdphbccagjcaa", sum := "e64eda8a673bf11c88bd92f8a85a94facfdfc91610d88b482461bd3a57dc4ab3", func := "lifeline/lifelinelaw07.NfaMore", spec := "nfaMore", recurses := true, plainKeys := false, apart := false }
def NfaMoreSaid : Prop := nfaMoreRow.holds Try.pinned (OpenSpec.ofChange nfaMoreSpec)

/-- ITS FALSE NEIGHBOUR: 'it returns false'. Refute it at one input. -/
def nfaMoreWrong : ChangeSpec := { name := "nfaMore", fn := fun _ => fun
  | [d1, d2, d3, d4, d5] => { results := [.lit (.bool false)], args := [d1, d2, d3, d4, d5] }
  | _ => none }
def NfaMoreWrongFalsely : Prop := nfaMoreRow.holds Try.pinned (OpenSpec.ofChange nfaMoreWrong)

/-- 'lifelinelaw07.NfaStar': WHATEVER THE INPUT: true; the input reads as it did. -/
def nfaStarSpec : ChangeSpec := { name := "nfaStar", fn := fun _ => fun
  | [d1, d2, d3] => { results := [.lit (.bool true)], args := [d1, d2, d3] }
  | _ => none }
def nfaStarRow : OpenClaim := { program := "ytkgdphbccagjcaa", sum := "e64eda8a673bf11c88bd92f8a85a94facfdfc91610d88b482461bd3a57dc4ab3", func := "lifeline/lifelinelaw07.NfaStar", spec := "nfaStar", recurses := true, plainKeys := false, apart := false }
def NfaStarSaid : Prop := nfaStarRow.holds Try.pinned (OpenSpec.ofChange nfaStarSpec)

/-- ITS FALSE NEIGHBOUR: 'it returns false'. Refute it at one input. -/
def nfaStarWrong : ChangeSpec := { name := "nfaStar", fn := fun _ => fun
  | [d1, d2, d3] => { results := [.lit (.bool false)], args := [d1, d2, d3] }
  | _ => none }
def NfaStarWrongFalsely : Prop := nfaStarRow.holds Try.pinned (OpenSpec.ofChange nfaStarWrong)

/-- 'lifelinelaw07.NfaQuoted': WHATEVER THE INPUT: true; the input reads as it did. -/
def nfaQuotedSpec : ChangeSpec := { name := "nfaQuoted", fn := fun _ => fun
  | [d1, d2] => { results := [.lit (.bool true)], args := [d1, d2] }
  | _ => none }
def nfaQuotedRow : OpenClaim := { program := "ytkgdphbccagjcaa", sum := "e64eda8a673bf11c88bd92f8a85a94facfdfc91610d88b482461bd3a57dc4ab3", func := "lifeline/lifelinelaw07.NfaQuoted", spec := "nfaQuoted", inPlace := ["internal/bytealg.IndexByteString", "internal/abi.NoEscape"], recurses := true, plainKeys := false, apart := false }
def NfaQuotedSaid : Prop := nfaQuotedRow.holds Try.pinned (OpenSpec.ofChange nfaQuotedSpec)

/-- ITS FALSE NEIGHBOUR: 'it returns false'. Refute it at one input. -/
def nfaQuotedWrong : ChangeSpec := { name := "nfaQuoted", fn := fun _ => fun
  | [d1, d2] => { results := [.lit (.bool false)], args := [d1, d2] }
  | _ => none }
def NfaQuotedWrongFalsely : Prop := nfaQuotedRow.holds Try.pinned (OpenSpec.ofChange nfaQuotedWrong)

/-- 'lifelinelaw08.MatchFirst': WHATEVER THE INPUT: true; the input reads as it did. -/
def matchFirstSpec : ChangeSpec := { name := "matchFirst", fn := fun _ => fun
  | [d1, d2] => { results := [.lit (.bool true)], args := [d1, d2] }
  | _ => none }
def matchFirstRow : OpenClaim := { program := "ytkgdphbccagjcaa", sum := "e64eda8a673bf11c88bd92f8a85a94facfdfc91610d88b482461bd3a57dc4ab3", func := "lifeline/lifelinelaw08.MatchFirst", spec := "matchFirst", recurses := true, plainKeys := false, apart := false }
def MatchFirstSaid : Prop := matchFirstRow.holds Try.pinned (OpenSpec.ofChange matchFirstSpec)

/-- ITS FALSE NEIGHBOUR: 'it returns false'. Refute it at one input. -/
def matchFirstWrong : ChangeSpec := { name := "matchFirst", fn := fun _ => fun
  | [d1, d2] => { results := [.lit (.bool false)], args := [d1, d2] }
  | _ => none }
def MatchFirstWrongFalsely : Prop := matchFirstRow.holds Try.pinned (OpenSpec.ofChange matchFirstWrong)

/-- 'lifelinelaw08.MatchEnds': WHATEVER THE INPUT: true; the input reads as it did. -/
def matchEndsSpec : ChangeSpec := { name := "matchEnds", fn := fun _ => fun
  | [d1, d2, d3] => { results := [.lit (.bool true)], args := [d1, d2, d3] }
  | _ => none }
def matchEndsRow : OpenClaim := { program := "ytkgdphbccagjcaa", sum := "e64eda8a673bf11c88bd92f8a85a94facfdfc91610d88b482461bd3a57dc4ab3", func := "lifeline/lifelinelaw08.MatchEnds", spec := "matchEnds", recurses := true, plainKeys := false, apart := false }
def MatchEndsSaid : Prop := matchEndsRow.holds Try.pinned (OpenSpec.ofChange matchEndsSpec)

/-- ITS FALSE NEIGHBOUR: 'it returns false'. Refute it at one input. -/
def matchEndsWrong : ChangeSpec := { name := "matchEnds", fn := fun _ => fun
  | [d1, d2, d3] => { results := [.lit (.bool false)], args := [d1, d2, d3] }
  | _ => none }
def MatchEndsWrongFalsely : Prop := matchEndsRow.holds Try.pinned (OpenSpec.ofChange matchEndsWrong)

/-- 'lifelinelaw09.ExpectQuoted': WHATEVER THE INPUT: true; the input reads as it did. -/
def expectQuotedSpec : ChangeSpec := { name := "expectQuoted", fn := fun _ => fun
  | [d1, d2] => { results := [.lit (.bool true)], args := [d1, d2] }
  | _ => none }
def expectQuotedRow : OpenClaim := { program := "ytkgdphbccagjcaa", sum := "e64eda8a673bf11c88bd92f8a85a94facfdfc91610d88b482461bd3a57dc4ab3", func := "lifeline/lifelinelaw09.ExpectQuoted", spec := "expectQuoted", inPlace := ["internal/bytealg.IndexByteString", "internal/abi.NoEscape"], recurses := true, plainKeys := false, apart := false }
def ExpectQuotedSaid : Prop := expectQuotedRow.holds Try.pinned (OpenSpec.ofChange expectQuotedSpec)

/-- ITS FALSE NEIGHBOUR: 'it returns false'. Refute it at one input. -/
def expectQuotedWrong : ChangeSpec := { name := "expectQuoted", fn := fun _ => fun
  | [d1, d2] => { results := [.lit (.bool false)], args := [d1, d2] }
  | _ => none }
def ExpectQuotedWrongFalsely : Prop := expectQuotedRow.holds Try.pinned (OpenSpec.ofChange expectQuotedWrong)

/-- 'lifelinelaw09.ExpectAlone': WHATEVER THE INPUT: true; the input reads as it did. -/
def expectAloneSpec : ChangeSpec := { name := "expectAlone", fn := fun _ => fun
  | [d1, d2, d3] => { results := [.lit (.bool true)], args := [d1, d2, d3] }
  | _ => none }
def expectAloneRow : OpenClaim := { program := "ytkgdphbccagjcaa", sum := "e64eda8a673bf11c88bd92f8a85a94facfdfc91610d88b482461bd3a57dc4ab3", func := "lifeline/lifelinelaw09.ExpectAlone", spec := "expectAlone", inPlace := ["internal/bytealg.IndexByteString", "internal/abi.NoEscape"], recurses := true, plainKeys := false, apart := false }
def ExpectAloneSaid : Prop := expectAloneRow.holds Try.pinned (OpenSpec.ofChange expectAloneSpec)

/-- ITS FALSE NEIGHBOUR: 'it returns false'. Refute it at one input. -/
def expectAloneWrong : ChangeSpec := { name := "expectAlone", fn := fun _ => fun
  | [d1, d2, d3] => { results := [.lit (.bool false)], args := [d1, d2, d3] }
  | _ => none }
def ExpectAloneWrongFalsely : Prop := expectAloneRow.holds Try.pinned (OpenSpec.ofChange expectAloneWrong)

/-- 'lifelinelaw09.ExpectOver': WHATEVER THE INPUT: true; the input reads as it did. -/
def expectOverSpec : ChangeSpec := { name := "expectOver", fn := fun _ => fun
  | [d1, d2] => { results := [.lit (.bool true)], args := [d1, d2] }
  | _ => none }
def expectOverRow : OpenClaim := { program := "ytkgdphbccagjcaa", sum := "e64eda8a673bf11c88bd92f8a85a94facfdfc91610d88b482461bd3a57dc4ab3", func := "lifeline/lifelinelaw09.ExpectOver", spec := "expectOver", inPlace := ["internal/bytealg.IndexByteString", "internal/abi.NoEscape"], recurses := true, plainKeys := false, apart := false }
def ExpectOverSaid : Prop := expectOverRow.holds Try.pinned (OpenSpec.ofChange expectOverSpec)

/-- ITS FALSE NEIGHBOUR: 'it returns false'. Refute it at one input. -/
def expectOverWrong : ChangeSpec := { name := "expectOver", fn := fun _ => fun
  | [d1, d2] => { results := [.lit (.bool false)], args := [d1, d2] }
  | _ => none }
def ExpectOverWrongFalsely : Prop := expectOverRow.holds Try.pinned (OpenSpec.ofChange expectOverWrong)

/-- 'lifelinelaw09.ExpectSame': WHATEVER THE INPUT: true; the input reads as it did. -/
def expectSameSpec : ChangeSpec := { name := "expectSame", fn := fun _ => fun
  | [d1, d2, d3] => { results := [.lit (.bool true)], args := [d1, d2, d3] }
  | _ => none }
def expectSameRow : OpenClaim := { program := "ytkgdphbccagjcaa", sum := "e64eda8a673bf11c88bd92f8a85a94facfdfc91610d88b482461bd3a57dc4ab3", func := "lifeline/lifelinelaw09.ExpectSame", spec := "expectSame", recurses := true, plainKeys := false, apart := false }
def ExpectSameSaid : Prop := expectSameRow.holds Try.pinned (OpenSpec.ofChange expectSameSpec)

/-- ITS FALSE NEIGHBOUR: 'it returns false'. Refute it at one input. -/
def expectSameWrong : ChangeSpec := { name := "expectSame", fn := fun _ => fun
  | [d1, d2, d3] => { results := [.lit (.bool false)], args := [d1, d2, d3] }
  | _ => none }
def ExpectSameWrongFalsely : Prop := expectSameRow.holds Try.pinned (OpenSpec.ofChange expectSameWrong)

/- THE SECOND FORM. 'bulk': how many values and letters a reading holds, each counted each time it is reached (what is shared counts as often as it is met; a slice's spare places count too). A statement '..UptoSaid' is the law's where the arguments, and the package variables that the reading takes, are together of bulk at most 1048576: NARROWER than '..Said'. Prove '..Said' where nothing that the law and all that it calls make is longer than what came in: it says more and counts as full. Else prove '..UptoSaid'. A law counts once. -/
mutual
def uptoBulk {H : Type} : DataW H → Nat
  | .lit (.string bytes) => bytes.length + 1
  | .lit _ => 1
  | .nil => 1
  | .ptr d => uptoBulk d + 1
  | .slice elems spare => uptoBulkAll elems + uptoBulkAll spare + 1
  | .agg parts => uptoBulkAll parts + 1
  | .iface _ d => uptoBulk d + 1
  | .map entries => uptoBulkEntries entries + 1
  | .held _ => 1
def uptoBulkAll {H : Type} : List (DataW H) → Nat
  | [] => 0
  | d :: r => uptoBulk d + uptoBulkAll r
def uptoBulkEntries {H : Type} : List (Lit × DataW H) → Nat
  | [] => 0
  | x :: r => uptoBulkEntry x + uptoBulkEntries r
def uptoBulkEntry {H : Type} : Lit × DataW H → Nat
  | (.string bytes, d) => bytes.length + uptoBulk d + 1
  | (_, d) => uptoBulk d + 1
 end
def uptoSmall : (H : Type) → List (DataW H) → Bool := fun _ ds => decide (uptoBulkAll ds ≤ 1048576)
def OpenSpec.upto (s : _root_.Go.ChangeSpec) : _root_.Go.OpenSpec := { _root_.Go.OpenSpec.ofChange s with cond := some uptoSmall }

/-- 'lifelinelaw08.MatchParts', WHERE WHAT IT READS IS OF BULK AT MOST 1048576: true; the input reads as it did. -/
def matchPartsUptoRow : OpenClaim := { program := "ytkgdphbccagjcaa", sum := "e64eda8a673bf11c88bd92f8a85a94facfdfc91610d88b482461bd3a57dc4ab3", func := "lifeline/lifelinelaw08.MatchParts", spec := "matchParts", recurses := true, plainKeys := false, apart := false, narrowed := true }
def MatchPartsUptoSaid : Prop := matchPartsUptoRow.holds Try.pinned (OpenSpec.upto matchPartsSpec)

/-- 'lifelinelaw08.MatchGrow', WHERE WHAT IT READS IS OF BULK AT MOST 1048576: true; the input reads as it did. -/
def matchGrowUptoRow : OpenClaim := { program := "ytkgdphbccagjcaa", sum := "e64eda8a673bf11c88bd92f8a85a94facfdfc91610d88b482461bd3a57dc4ab3", func := "lifeline/lifelinelaw08.MatchGrow", spec := "matchGrow", recurses := true, plainKeys := false, apart := false, narrowed := true }
def MatchGrowUptoSaid : Prop := matchGrowUptoRow.holds Try.pinned (OpenSpec.upto matchGrowSpec)

/-- 'lifelinelaw08.MatchAll', WHERE WHAT IT READS IS OF BULK AT MOST 1048576: true; the input reads as it did. -/
def matchAllUptoRow : OpenClaim := { program := "ytkgdphbccagjcaa", sum := "e64eda8a673bf11c88bd92f8a85a94facfdfc91610d88b482461bd3a57dc4ab3", func := "lifeline/lifelinelaw08.MatchAll", spec := "matchAll", recurses := true, plainKeys := false, apart := false, narrowed := true }
def MatchAllUptoSaid : Prop := matchAllUptoRow.holds Try.pinned (OpenSpec.upto matchAllSpec)

/-- 'lifelinelaw08.MatchQuoted', WHERE WHAT IT READS IS OF BULK AT MOST 1048576: true; the input reads as it did. -/
def matchQuotedUptoRow : OpenClaim := { program := "ytkgdphbccagjcaa", sum := "e64eda8a673bf11c88bd92f8a85a94facfdfc91610d88b482461bd3a57dc4ab3", func := "lifeline/lifelinelaw08.MatchQuoted", spec := "matchQuoted", inPlace := ["internal/bytealg.IndexByteString", "internal/abi.NoEscape"], recurses := true, plainKeys := false, apart := false, narrowed := true }
def MatchQuotedUptoSaid : Prop := matchQuotedUptoRow.holds Try.pinned (OpenSpec.upto matchQuotedSpec)

/-- 'lifelinelaw07.NfaFits', WHERE WHAT IT READS IS OF BULK AT MOST 1048576: true; the input reads as it did. -/
def nfaFitsUptoRow : OpenClaim := { program := "ytkgdphbccagjcaa", sum := "e64eda8a673bf11c88bd92f8a85a94facfdfc91610d88b482461bd3a57dc4ab3", func := "lifeline/lifelinelaw07.NfaFits", spec := "nfaFits", recurses := true, plainKeys := false, apart := false, narrowed := true }
def NfaFitsUptoSaid : Prop := nfaFitsUptoRow.holds Try.pinned (OpenSpec.upto nfaFitsSpec)

/-- 'lifelinelaw07.NfaStep', WHERE WHAT IT READS IS OF BULK AT MOST 1048576: true; the input reads as it did. -/
def nfaStepUptoRow : OpenClaim := { program := "ytkgdphbccagjcaa", sum := "e64eda8a673bf11c88bd92f8a85a94facfdfc91610d88b482461bd3a57dc4ab3", func := "lifeline/lifelinelaw07.NfaStep", spec := "nfaStep", recurses := true, plainKeys := false, apart := false, narrowed := true }
def NfaStepUptoSaid : Prop := nfaStepUptoRow.holds Try.pinned (OpenSpec.upto nfaStepSpec)

/-- 'lifelinelaw07.NfaMore', WHERE WHAT IT READS IS OF BULK AT MOST 1048576: true; the input reads as it did. -/
def nfaMoreUptoRow : OpenClaim := { program := "ytkgdphbccagjcaa", sum := "e64eda8a673bf11c88bd92f8a85a94facfdfc91610d88b482461bd3a57dc4ab3", func := "lifeline/lifelinelaw07.NfaMore", spec := "nfaMore", recurses := true, plainKeys := false, apart := false, narrowed := true }
def NfaMoreUptoSaid : Prop := nfaMoreUptoRow.holds Try.pinned (OpenSpec.upto nfaMoreSpec)

/-- 'lifelinelaw07.NfaStar', WHERE WHAT IT READS IS OF BULK AT MOST 1048576: true; the input reads as it did. -/
def nfaStarUptoRow : OpenClaim := { program := "ytkgdphbccagjcaa", sum := "e64eda8a673bf11c88bd92f8a85a94facfdfc91610d88b482461bd3a57dc4ab3", func := "lifeline/lifelinelaw07.NfaStar", spec := "nfaStar", recurses := true, plainKeys := false, apart := false, narrowed := true }
def NfaStarUptoSaid : Prop := nfaStarUptoRow.holds Try.pinned (OpenSpec.upto nfaStarSpec)

/-- 'lifelinelaw07.NfaQuoted', WHERE WHAT IT READS IS OF BULK AT MOST 1048576: true; the input reads as it did. -/
def nfaQuotedUptoRow : OpenClaim := { program := "ytkgdphbccagjcaa", sum := "e64eda8a673bf11c88bd92f8a85a94facfdfc91610d88b482461bd3a57dc4ab3", func := "lifeline/lifelinelaw07.NfaQuoted", spec := "nfaQuoted", inPlace := ["internal/bytealg.IndexByteString", "internal/abi.NoEscape"], recurses := true, plainKeys := false, apart := false, narrowed := true }
def NfaQuotedUptoSaid : Prop := nfaQuotedUptoRow.holds Try.pinned (OpenSpec.upto nfaQuotedSpec)

/-- 'lifelinelaw08.MatchFirst', WHERE WHAT IT READS IS OF BULK AT MOST 1048576: true; the input reads as it did. -/
def matchFirstUptoRow : OpenClaim := { program := "ytkgdphbccagjcaa", sum := "e64eda8a673bf11c88bd92f8a85a94facfdfc91610d88b482461bd3a57dc4ab3", func := "lifeline/lifelinelaw08.MatchFirst", spec := "matchFirst", recurses := true, plainKeys := false, apart := false, narrowed := true }
def MatchFirstUptoSaid : Prop := matchFirstUptoRow.holds Try.pinned (OpenSpec.upto matchFirstSpec)

/-- 'lifelinelaw08.MatchEnds', WHERE WHAT IT READS IS OF BULK AT MOST 1048576: true; the input reads as it did. -/
def matchEndsUptoRow : OpenClaim := { program := "ytkgdphbccagjcaa", sum := "e64eda8a673bf11c88bd92f8a85a94facfdfc91610d88b482461bd3a57dc4ab3", func := "lifeline/lifelinelaw08.MatchEnds", spec := "matchEnds", recurses := true, plainKeys := false, apart := false, narrowed := true }
def MatchEndsUptoSaid : Prop := matchEndsUptoRow.holds Try.pinned (OpenSpec.upto matchEndsSpec)

/-- 'lifelinelaw09.ExpectQuoted', WHERE WHAT IT READS IS OF BULK AT MOST 1048576: true; the input reads as it did. -/
def expectQuotedUptoRow : OpenClaim := { program := "ytkgdphbccagjcaa", sum := "e64eda8a673bf11c88bd92f8a85a94facfdfc91610d88b482461bd3a57dc4ab3", func := "lifeline/lifelinelaw09.ExpectQuoted", spec := "expectQuoted", inPlace := ["internal/bytealg.IndexByteString", "internal/abi.NoEscape"], recurses := true, plainKeys := false, apart := false, narrowed := true }
def ExpectQuotedUptoSaid : Prop := expectQuotedUptoRow.holds Try.pinned (OpenSpec.upto expectQuotedSpec)

/-- 'lifelinelaw09.ExpectAlone', WHERE WHAT IT READS IS OF BULK AT MOST 1048576: true; the input reads as it did. -/
def expectAloneUptoRow : OpenClaim := { program := "ytkgdphbccagjcaa", sum := "e64eda8a673bf11c88bd92f8a85a94facfdfc91610d88b482461bd3a57dc4ab3", func := "lifeline/lifelinelaw09.ExpectAlone", spec := "expectAlone", inPlace := ["internal/bytealg.IndexByteString", "internal/abi.NoEscape"], recurses := true, plainKeys := false, apart := false, narrowed := true }
def ExpectAloneUptoSaid : Prop := expectAloneUptoRow.holds Try.pinned (OpenSpec.upto expectAloneSpec)

/-- 'lifelinelaw09.ExpectOver', WHERE WHAT IT READS IS OF BULK AT MOST 1048576: true; the input reads as it did. -/
def expectOverUptoRow : OpenClaim := { program := "ytkgdphbccagjcaa", sum := "e64eda8a673bf11c88bd92f8a85a94facfdfc91610d88b482461bd3a57dc4ab3", func := "lifeline/lifelinelaw09.ExpectOver", spec := "expectOver", inPlace := ["internal/bytealg.IndexByteString", "internal/abi.NoEscape"], recurses := true, plainKeys := false, apart := false, narrowed := true }
def ExpectOverUptoSaid : Prop := expectOverUptoRow.holds Try.pinned (OpenSpec.upto expectOverSpec)

/-- 'lifelinelaw09.ExpectSame', WHERE WHAT IT READS IS OF BULK AT MOST 1048576: true; the input reads as it did. -/
def expectSameUptoRow : OpenClaim := { program := "ytkgdphbccagjcaa", sum := "e64eda8a673bf11c88bd92f8a85a94facfdfc91610d88b482461bd3a57dc4ab3", func := "lifeline/lifelinelaw09.ExpectSame", spec := "expectSame", recurses := true, plainKeys := false, apart := false, narrowed := true }
def ExpectSameUptoSaid : Prop := expectSameUptoRow.holds Try.pinned (OpenSpec.upto expectSameSpec)

end Rows
end Go.Proofs.Ytkgdphbccagjcaa
