/-
  NARROWER THAN 'FOR EVERY INPUT', by the rows' own cells (each row's printed sentence says how): RegexParse: laid · RegexSet: laid · RegexWrong: laid · RegexDeep: laid · RegexQuote: laid · ExpectWrong: laid · ExpectFirst: laid.
  DERIVED. THE GIVEN ROWS OF THIS SEAT. 7 by the template 'for every input the law returns true; each argument reads behind the call as it read before'; 0 by the template 'total and deterministic' (their statements: YtijpbpnfachlkaaDoorTotals.lean).
  GIVEN WITH THE SEED: the statements are not yours to turn. If you find one false, say at which input.
  Laid BY PROGRAM, IN A SANDBOX (cutbox-rows.mjs): the forced cells as the released guide's own fill.sh prints them over the translation 6e2a0a8919802818… (all of the seat's roots in one cut). By AI agents, Wed Nov 11 2026. No macro, syntax, notation, axiom, sorry.
-/
import Derived.Test.YtijpbpnfachlkaaDoorChecked
import GoSem.Claim
import GoSem.ClaimJoined
import GoSem.ClaimMapViews
import Derived.JoinedTies
import Derived.KernelRfl
namespace Go.Proofs.YtijpbpnfachlkaaDoor
/- THE CELL 'sum', in the pinned program and in every row, IS THE sha256 OF THE DUMP (.gsa) THAT YtijpbpnfachlkaaDoorProg.lean LOADS. Nothing in Lean hashes anything: it is a label: what it is worth is what the hold of that sum in a sandbox is worth. -/
noncomputable def Tryd.pinned : Pinned := { name := "ytijpbpnfachlkaadoor", sum := "6e2a0a8919802818a5453180abbfacce9a85b782212b7a018c32df8df90e9e64", checked := Tryd.checked }
namespace Rows
def none {H : Type} : Left H := { results := [], args := [] }

/- WHAT THE LISTED PACKAGE-LEVEL VARIABLES READ AS WHEN THE CALL BEGINS. Each datum BY PROGRAM (the guide's laid-datum.mjs) off the statement by which the dump's own 'gosem.cut.vars' lays the variable. In a bare row this is a premise. The card (YtijpbpnfachlkaaDoorCards.lean) ties it to the program's text. -/
def laid_errors_errorType {H : Type} : DataW H := .iface "internal/reflectlite.rtype" (.agg [.ptr (.lit (.string [101, 114, 114, 111, 114]))])

/-- 'lifelinelaw06.RegexParse': WHATEVER THE INPUT: true; the input reads as it did. -/
def regexParseSpec : ChangeSpec := { name := "regexParse", fn := fun _ => fun
  | [d] => { results := [.lit (.bool true)], args := [d] }
  | _ => none }
def regexParseRow : OpenClaim := { program := "ytijpbpnfachlkaadoor", sum := "6e2a0a8919802818a5453180abbfacce9a85b782212b7a018c32df8df90e9e64", func := "lifeline/lifelinelaw06.RegexParse", spec := "regexParse", inPlace := ["internal/reflectlite.ValueOf", "(internal/reflectlite.Value).Type", "(internal/reflectlite.Value).IsNil", "internal/reflectlite.TypeOf", "(internal/reflectlite.Value).Elem", "(internal/reflectlite.Value).Set"], unfollowed := true, recurses := true, named := ["errors.errorType"], plainKeys := false, apart := false, laid := [("errors.errorType", laid_errors_errorType)] }
def RegexParseSaid : Prop := regexParseRow.holds Tryd.pinned (OpenSpec.ofChange regexParseSpec)

/-- ITS FALSE NEIGHBOUR: 'it returns false'. Refute it at one input. -/
def regexParseWrong : ChangeSpec := { name := "regexParse", fn := fun _ => fun
  | [d] => { results := [.lit (.bool false)], args := [d] }
  | _ => none }
def RegexParseWrongFalsely : Prop := regexParseRow.holds Tryd.pinned (OpenSpec.ofChange regexParseWrong)

/-- 'lifelinelaw06.RegexSet': WHATEVER THE INPUT: true; the input reads as it did. -/
def regexSetSpec : ChangeSpec := { name := "regexSet", fn := fun _ => fun
  | [d1, d2] => { results := [.lit (.bool true)], args := [d1, d2] }
  | _ => none }
def regexSetRow : OpenClaim := { program := "ytijpbpnfachlkaadoor", sum := "6e2a0a8919802818a5453180abbfacce9a85b782212b7a018c32df8df90e9e64", func := "lifeline/lifelinelaw06.RegexSet", spec := "regexSet", inPlace := ["internal/reflectlite.ValueOf", "(internal/reflectlite.Value).Type", "(internal/reflectlite.Value).IsNil", "internal/reflectlite.TypeOf", "(internal/reflectlite.Value).Elem", "(internal/reflectlite.Value).Set"], unfollowed := true, recurses := true, named := ["errors.errorType"], plainKeys := false, apart := false, laid := [("errors.errorType", laid_errors_errorType)] }
def RegexSetSaid : Prop := regexSetRow.holds Tryd.pinned (OpenSpec.ofChange regexSetSpec)

/-- ITS FALSE NEIGHBOUR: 'it returns false'. Refute it at one input. -/
def regexSetWrong : ChangeSpec := { name := "regexSet", fn := fun _ => fun
  | [d1, d2] => { results := [.lit (.bool false)], args := [d1, d2] }
  | _ => none }
def RegexSetWrongFalsely : Prop := regexSetRow.holds Tryd.pinned (OpenSpec.ofChange regexSetWrong)

/-- 'lifelinelaw06.RegexWrong': WHATEVER THE INPUT: true; the input reads as it did. -/
def regexWrongSpec : ChangeSpec := { name := "regexWrong", fn := fun _ => fun
  | [d] => { results := [.lit (.bool true)], args := [d] }
  | _ => none }
def regexWrongRow : OpenClaim := { program := "ytijpbpnfachlkaadoor", sum := "6e2a0a8919802818a5453180abbfacce9a85b782212b7a018c32df8df90e9e64", func := "lifeline/lifelinelaw06.RegexWrong", spec := "regexWrong", inPlace := ["internal/reflectlite.ValueOf", "(internal/reflectlite.Value).Type", "(internal/reflectlite.Value).IsNil", "internal/reflectlite.TypeOf", "(internal/reflectlite.Value).Elem", "(internal/reflectlite.Value).Set"], unfollowed := true, recurses := true, named := ["errors.errorType"], plainKeys := false, apart := false, laid := [("errors.errorType", laid_errors_errorType)] }
def RegexWrongSaid : Prop := regexWrongRow.holds Tryd.pinned (OpenSpec.ofChange regexWrongSpec)

/-- ITS FALSE NEIGHBOUR: 'it returns false'. Refute it at one input. -/
def regexWrongWrong : ChangeSpec := { name := "regexWrong", fn := fun _ => fun
  | [d] => { results := [.lit (.bool false)], args := [d] }
  | _ => none }
def RegexWrongWrongFalsely : Prop := regexWrongRow.holds Tryd.pinned (OpenSpec.ofChange regexWrongWrong)

/-- 'lifelinelaw06.RegexDeep': WHATEVER THE INPUT: true; the input reads as it did. -/
def regexDeepSpec : ChangeSpec := { name := "regexDeep", fn := fun _ => fun
  | [d1, d2] => { results := [.lit (.bool true)], args := [d1, d2] }
  | _ => none }
def regexDeepRow : OpenClaim := { program := "ytijpbpnfachlkaadoor", sum := "6e2a0a8919802818a5453180abbfacce9a85b782212b7a018c32df8df90e9e64", func := "lifeline/lifelinelaw06.RegexDeep", spec := "regexDeep", inPlace := ["internal/reflectlite.ValueOf", "(internal/reflectlite.Value).Type", "(internal/reflectlite.Value).IsNil", "internal/reflectlite.TypeOf", "(internal/reflectlite.Value).Elem", "(internal/reflectlite.Value).Set"], unfollowed := true, recurses := true, named := ["errors.errorType"], plainKeys := false, apart := false, laid := [("errors.errorType", laid_errors_errorType)] }
def RegexDeepSaid : Prop := regexDeepRow.holds Tryd.pinned (OpenSpec.ofChange regexDeepSpec)

/-- ITS FALSE NEIGHBOUR: 'it returns false'. Refute it at one input. -/
def regexDeepWrong : ChangeSpec := { name := "regexDeep", fn := fun _ => fun
  | [d1, d2] => { results := [.lit (.bool false)], args := [d1, d2] }
  | _ => none }
def RegexDeepWrongFalsely : Prop := regexDeepRow.holds Tryd.pinned (OpenSpec.ofChange regexDeepWrong)

/-- 'lifelinelaw06.RegexQuote': WHATEVER THE INPUT: true; the input reads as it did. -/
def regexQuoteSpec : ChangeSpec := { name := "regexQuote", fn := fun _ => fun
  | [d1, d2] => { results := [.lit (.bool true)], args := [d1, d2] }
  | _ => none }
def regexQuoteRow : OpenClaim := { program := "ytijpbpnfachlkaadoor", sum := "6e2a0a8919802818a5453180abbfacce9a85b782212b7a018c32df8df90e9e64", func := "lifeline/lifelinelaw06.RegexQuote", spec := "regexQuote", inPlace := ["internal/reflectlite.ValueOf", "(internal/reflectlite.Value).Type", "(internal/reflectlite.Value).IsNil", "internal/reflectlite.TypeOf", "(internal/reflectlite.Value).Elem", "(internal/reflectlite.Value).Set", "internal/bytealg.IndexByteString", "internal/abi.NoEscape"], unfollowed := true, recurses := true, named := ["errors.errorType"], plainKeys := false, apart := false, laid := [("errors.errorType", laid_errors_errorType)] }
def RegexQuoteSaid : Prop := regexQuoteRow.holds Tryd.pinned (OpenSpec.ofChange regexQuoteSpec)

/-- ITS FALSE NEIGHBOUR: 'it returns false'. Refute it at one input. -/
def regexQuoteWrong : ChangeSpec := { name := "regexQuote", fn := fun _ => fun
  | [d1, d2] => { results := [.lit (.bool false)], args := [d1, d2] }
  | _ => none }
def RegexQuoteWrongFalsely : Prop := regexQuoteRow.holds Tryd.pinned (OpenSpec.ofChange regexQuoteWrong)

/-- 'lifelinelaw09.ExpectWrong': WHATEVER THE INPUT: true; the input reads as it did. -/
def expectWrongSpec : ChangeSpec := { name := "expectWrong", fn := fun _ => fun
  | [d] => { results := [.lit (.bool true)], args := [d] }
  | _ => none }
def expectWrongRow : OpenClaim := { program := "ytijpbpnfachlkaadoor", sum := "6e2a0a8919802818a5453180abbfacce9a85b782212b7a018c32df8df90e9e64", func := "lifeline/lifelinelaw09.ExpectWrong", spec := "expectWrong", inPlace := ["internal/reflectlite.ValueOf", "(internal/reflectlite.Value).Type", "(internal/reflectlite.Value).IsNil", "internal/reflectlite.TypeOf", "(internal/reflectlite.Value).Elem", "(internal/reflectlite.Value).Set"], unfollowed := true, recurses := true, named := ["errors.errorType"], plainKeys := false, apart := false, laid := [("errors.errorType", laid_errors_errorType)] }
def ExpectWrongSaid : Prop := expectWrongRow.holds Tryd.pinned (OpenSpec.ofChange expectWrongSpec)

/-- ITS FALSE NEIGHBOUR: 'it returns false'. Refute it at one input. -/
def expectWrongWrong : ChangeSpec := { name := "expectWrong", fn := fun _ => fun
  | [d] => { results := [.lit (.bool false)], args := [d] }
  | _ => none }
def ExpectWrongWrongFalsely : Prop := expectWrongRow.holds Tryd.pinned (OpenSpec.ofChange expectWrongWrong)

/-- 'lifelinelaw09.ExpectFirst': WHATEVER THE INPUT: true; the input reads as it did. -/
def expectFirstSpec : ChangeSpec := { name := "expectFirst", fn := fun _ => fun
  | [d1, d2] => { results := [.lit (.bool true)], args := [d1, d2] }
  | _ => none }
def expectFirstRow : OpenClaim := { program := "ytijpbpnfachlkaadoor", sum := "6e2a0a8919802818a5453180abbfacce9a85b782212b7a018c32df8df90e9e64", func := "lifeline/lifelinelaw09.ExpectFirst", spec := "expectFirst", inPlace := ["internal/reflectlite.ValueOf", "(internal/reflectlite.Value).Type", "(internal/reflectlite.Value).IsNil", "internal/reflectlite.TypeOf", "(internal/reflectlite.Value).Elem", "(internal/reflectlite.Value).Set"], unfollowed := true, recurses := true, named := ["errors.errorType"], plainKeys := false, apart := false, laid := [("errors.errorType", laid_errors_errorType)] }
def ExpectFirstSaid : Prop := expectFirstRow.holds Tryd.pinned (OpenSpec.ofChange expectFirstSpec)

/-- ITS FALSE NEIGHBOUR: 'it returns false'. Refute it at one input. -/
def expectFirstWrong : ChangeSpec := { name := "expectFirst", fn := fun _ => fun
  | [d1, d2] => { results := [.lit (.bool false)], args := [d1, d2] }
  | _ => none }
def ExpectFirstWrongFalsely : Prop := expectFirstRow.holds Tryd.pinned (OpenSpec.ofChange expectFirstWrong)

/- THE SECOND FORM. 'bulk': how many values and letters a reading holds, each counted each time it is reached (what is shared counts as often as it is met; a slice's spare places count too). A statement '..UptoSaid' is the law's where the arguments, and the package variables that the reading takes, are together of bulk at most 1048576: NARROWER than '..Said'. Prove '..Said' where nothing that the law and all that it calls make is longer than what came in: it says more and counts as full. Else prove '..UptoSaid'. A law counts once. -/
mutual
def uptoBulk {H : Type} : DataW H → Nat
  | .lit (.string bytes) => bytes.length + 1
  | .lit _ => 1
  | .nil => 1
  | .ptr d => uptoBulk d + 1
  | .slice elems spare => uptoBulkAll elems + uptoBulkAll spare + 1
  | .agg parts => uptoBulkAll parts + 1
  | .iface _ d => uptoBulk d + 1
  | .map entries => uptoBulkEntries entries + 1
  | .held _ => 1
def uptoBulkAll {H : Type} : List (DataW H) → Nat
  | [] => 0
  | d :: r => uptoBulk d + uptoBulkAll r
def uptoBulkEntries {H : Type} : List (Lit × DataW H) → Nat
  | [] => 0
  | x :: r => uptoBulkEntry x + uptoBulkEntries r
def uptoBulkEntry {H : Type} : Lit × DataW H → Nat
  | (.string bytes, d) => bytes.length + uptoBulk d + 1
  | (_, d) => uptoBulk d + 1
 end
def uptoSmall : (H : Type) → List (DataW H) → Bool := fun _ ds => decide (uptoBulkAll ds ≤ 1048576)
def OpenSpec.upto (s : _root_.Go.ChangeSpec) : _root_.Go.OpenSpec := { _root_.Go.OpenSpec.ofChange s with cond := some uptoSmall }

/-- 'lifelinelaw06.RegexParse', WHERE WHAT IT READS IS OF BULK AT MOST 1048576: true; the input reads as it did. -/
def regexParseUptoRow : OpenClaim := { program := "ytijpbpnfachlkaadoor", sum := "6e2a0a8919802818a5453180abbfacce9a85b782212b7a018c32df8df90e9e64", func := "lifeline/lifelinelaw06.RegexParse", spec := "regexParse", inPlace := ["internal/reflectlite.ValueOf", "(internal/reflectlite.Value).Type", "(internal/reflectlite.Value).IsNil", "internal/reflectlite.TypeOf", "(internal/reflectlite.Value).Elem", "(internal/reflectlite.Value).Set"], unfollowed := true, recurses := true, named := ["errors.errorType"], plainKeys := false, apart := false, laid := [("errors.errorType", laid_errors_errorType)], narrowed := true }
def RegexParseUptoSaid : Prop := regexParseUptoRow.holds Tryd.pinned (OpenSpec.upto regexParseSpec)

/-- 'lifelinelaw06.RegexSet', WHERE WHAT IT READS IS OF BULK AT MOST 1048576: true; the input reads as it did. -/
def regexSetUptoRow : OpenClaim := { program := "ytijpbpnfachlkaadoor", sum := "6e2a0a8919802818a5453180abbfacce9a85b782212b7a018c32df8df90e9e64", func := "lifeline/lifelinelaw06.RegexSet", spec := "regexSet", inPlace := ["internal/reflectlite.ValueOf", "(internal/reflectlite.Value).Type", "(internal/reflectlite.Value).IsNil", "internal/reflectlite.TypeOf", "(internal/reflectlite.Value).Elem", "(internal/reflectlite.Value).Set"], unfollowed := true, recurses := true, named := ["errors.errorType"], plainKeys := false, apart := false, laid := [("errors.errorType", laid_errors_errorType)], narrowed := true }
def RegexSetUptoSaid : Prop := regexSetUptoRow.holds Tryd.pinned (OpenSpec.upto regexSetSpec)

/-- 'lifelinelaw06.RegexWrong', WHERE WHAT IT READS IS OF BULK AT MOST 1048576: true; the input reads as it did. -/
def regexWrongUptoRow : OpenClaim := { program := "ytijpbpnfachlkaadoor", sum := "6e2a0a8919802818a5453180abbfacce9a85b782212b7a018c32df8df90e9e64", func := "lifeline/lifelinelaw06.RegexWrong", spec := "regexWrong", inPlace := ["internal/reflectlite.ValueOf", "(internal/reflectlite.Value).Type", "(internal/reflectlite.Value).IsNil", "internal/reflectlite.TypeOf", "(internal/reflectlite.Value).Elem", "(internal/reflectlite.Value).Set"], unfollowed := true, recurses := true, named := ["errors.errorType"], plainKeys := false, apart := false, laid := [("errors.errorType", laid_errors_errorType)], narrowed := true }
def RegexWrongUptoSaid : Prop := regexWrongUptoRow.holds Tryd.pinned (OpenSpec.upto regexWrongSpec)

/-- 'lifelinelaw06.RegexDeep', WHERE WHAT IT READS IS OF BULK AT MOST 1048576: true; the input reads as it did. -/
def regexDeepUptoRow : OpenClaim := { program := "ytijpbpnfachlkaadoor", sum := "6e2a0a8919802818a5453180abbfacce9a85b782212b7a018c32df8df90e9e64", func := "lifeline/lifelinelaw06.RegexDeep", spec := "regexDeep", inPlace := ["internal/reflectlite.ValueOf", "(internal/reflectlite.Value).Type", "(internal/reflectlite.Value).IsNil", "internal/reflectlite.TypeOf", "(internal/reflectlite.Value).Elem", "(internal/reflectlite.Value).Set"], unfollowed := true, recurses := true, named := ["errors.errorType"], plainKeys := false, apart := false, laid := [("errors.errorType", laid_errors_errorType)], narrowed := true }
def RegexDeepUptoSaid : Prop := regexDeepUptoRow.holds Tryd.pinned (OpenSpec.upto regexDeepSpec)

/-- 'lifelinelaw06.RegexQuote', WHERE WHAT IT READS IS OF BULK AT MOST 1048576: true; the input reads as it did. -/
def regexQuoteUptoRow : OpenClaim := { program := "ytijpbpnfachlkaadoor", sum := "6e2a0a8919802818a5453180abbfacce9a85b782212b7a018c32df8df90e9e64", func := "lifeline/lifelinelaw06.RegexQuote", spec := "regexQuote", inPlace := ["internal/reflectlite.ValueOf", "(internal/reflectlite.Value).Type", "(internal/reflectlite.Value).IsNil", "internal/reflectlite.TypeOf", "(internal/reflectlite.Value).Elem", "(internal/reflectlite.Value).Set", "internal/bytealg.IndexByteString", "internal/abi.NoEscape"], unfollowed := true, recurses := true, named := ["errors.errorType"], plainKeys := false, apart := false, laid := [("errors.errorType", laid_errors_errorType)], narrowed := true }
def RegexQuoteUptoSaid : Prop := regexQuoteUptoRow.holds Tryd.pinned (OpenSpec.upto regexQuoteSpec)

/-- 'lifelinelaw09.ExpectWrong', WHERE WHAT IT READS IS OF BULK AT MOST 1048576: true; the input reads as it did. -/
def expectWrongUptoRow : OpenClaim := { program := "ytijpbpnfachlkaadoor", sum := "6e2a0a8919802818a5453180abbfacce9a85b782212b7a018c32df8df90e9e64", func := "lifeline/lifelinelaw09.ExpectWrong", spec := "expectWrong", inPlace := ["internal/reflectlite.ValueOf", "(internal/reflectlite.Value).Type", "(internal/reflectlite.Value).IsNil", "internal/reflectlite.TypeOf", "(internal/reflectlite.Value).Elem", "(internal/reflectlite.Value).Set"], unfollowed := true, recurses := true, named := ["errors.errorType"], plainKeys := false, apart := false, laid := [("errors.errorType", laid_errors_errorType)], narrowed := true }
def ExpectWrongUptoSaid : Prop := expectWrongUptoRow.holds Tryd.pinned (OpenSpec.upto expectWrongSpec)

/-- 'lifelinelaw09.ExpectFirst', WHERE WHAT IT READS IS OF BULK AT MOST 1048576: true; the input reads as it did. -/
def expectFirstUptoRow : OpenClaim := { program := "ytijpbpnfachlkaadoor", sum := "6e2a0a8919802818a5453180abbfacce9a85b782212b7a018c32df8df90e9e64", func := "lifeline/lifelinelaw09.ExpectFirst", spec := "expectFirst", inPlace := ["internal/reflectlite.ValueOf", "(internal/reflectlite.Value).Type", "(internal/reflectlite.Value).IsNil", "internal/reflectlite.TypeOf", "(internal/reflectlite.Value).Elem", "(internal/reflectlite.Value).Set"], unfollowed := true, recurses := true, named := ["errors.errorType"], plainKeys := false, apart := false, laid := [("errors.errorType", laid_errors_errorType)], narrowed := true }
def ExpectFirstUptoSaid : Prop := expectFirstUptoRow.holds Tryd.pinned (OpenSpec.upto expectFirstSpec)

end Rows
end Go.Proofs.YtijpbpnfachlkaaDoor
