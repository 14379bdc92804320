/-
  No cell of these rows narrows 'for every input' (looked for: loops, veiled, ifaces, maps, wideKeys, modest, calm, conditions, laid).
  DERIVED. THE GIVEN ROWS OF THIS SEAT. 5 by the template 'for every input the law returns true; each argument reads behind the call as it read before'; 0 by the template 'total and deterministic' (their statements: YtapgbjedgcpffaaTotals.lean).
  GIVEN WITH THE SEED: the statements are not yours to turn. If you find one false, say at which input.
  Laid BY PROGRAM, IN A SANDBOX (cutbox-rows.mjs): the forced cells as the released guide's own fill.sh prints them over the translation 82bc211226b29b73… (all of the seat's roots in one cut). By AI agents, Wed Nov 11 2026. No macro, syntax, notation, axiom, sorry.
-/
import Derived.Test.YtapgbjedgcpffaaChecked
import GoSem.Claim
import GoSem.ClaimJoined
import GoSem.ClaimMapViews
import Derived.JoinedTies
import Derived.KernelRfl
namespace Go.Proofs.Ytapgbjedgcpffaa
/- THE CELL 'sum', in the pinned program and in every row, IS THE sha256 OF THE DUMP (.gsa) THAT YtapgbjedgcpffaaProg.lean LOADS. Nothing in Lean hashes anything: it is a label: what it is worth is what the hold of that sum in a sandbox is worth. -/
noncomputable def Try.pinned : Pinned := { name := "ytapgbjedgcpffaa", sum := "82bc211226b29b73d6f37c404b16cd36d6f3827fe1a9fb5e69ce57897f63c21b", checked := Try.checked }
namespace Rows
def none {H : Type} : Left H := { results := [], args := [] }

/-- 'fullinglaw2.LexerReference': WHATEVER THE INPUT: true; the input reads as it did. -/
def lexerReferenceSpec : ChangeSpec := { name := "lexerReference", fn := fun _ => fun
  | [d1, d2, d3, d4] => { results := [.lit (.bool true)], args := [d1, d2, d3, d4] }
  | _ => none }
def lexerReferenceRow : OpenClaim := { program := "ytapgbjedgcpffaa", sum := "82bc211226b29b73d6f37c404b16cd36d6f3827fe1a9fb5e69ce57897f63c21b", func := "fulling/fullinglaw2.LexerReference", spec := "lexerReference", recurses := true, apart := false }
def LexerReferenceSaid : Prop := lexerReferenceRow.holds Try.pinned (OpenSpec.ofChange lexerReferenceSpec)

/-- ITS FALSE NEIGHBOUR: 'it returns false'. Refute it at one input. -/
def lexerReferenceWrong : ChangeSpec := { name := "lexerReference", fn := fun _ => fun
  | [d1, d2, d3, d4] => { results := [.lit (.bool false)], args := [d1, d2, d3, d4] }
  | _ => none }
def LexerReferenceWrongFalsely : Prop := lexerReferenceRow.holds Try.pinned (OpenSpec.ofChange lexerReferenceWrong)

/-- 'fullinglaw3.ParserExpressions': WHATEVER THE INPUT: true; the input reads as it did. -/
def parserExpressionsSpec : ChangeSpec := { name := "parserExpressions", fn := fun _ => fun
  | [d] => { results := [.lit (.bool true)], args := [d] }
  | _ => none }
def parserExpressionsRow : OpenClaim := { program := "ytapgbjedgcpffaa", sum := "82bc211226b29b73d6f37c404b16cd36d6f3827fe1a9fb5e69ce57897f63c21b", func := "fulling/fullinglaw3.ParserExpressions", spec := "parserExpressions", recurses := true, apart := false }
def ParserExpressionsSaid : Prop := parserExpressionsRow.holds Try.pinned (OpenSpec.ofChange parserExpressionsSpec)

/-- ITS FALSE NEIGHBOUR: 'it returns false'. Refute it at one input. -/
def parserExpressionsWrong : ChangeSpec := { name := "parserExpressions", fn := fun _ => fun
  | [d] => { results := [.lit (.bool false)], args := [d] }
  | _ => none }
def ParserExpressionsWrongFalsely : Prop := parserExpressionsRow.holds Try.pinned (OpenSpec.ofChange parserExpressionsWrong)

/-- 'fullinglaw3.ParserTruncated': WHATEVER THE INPUT: true; the input reads as it did. -/
def parserTruncatedSpec : ChangeSpec := { name := "parserTruncated", fn := fun _ => fun
  | [d1, d2] => { results := [.lit (.bool true)], args := [d1, d2] }
  | _ => none }
def parserTruncatedRow : OpenClaim := { program := "ytapgbjedgcpffaa", sum := "82bc211226b29b73d6f37c404b16cd36d6f3827fe1a9fb5e69ce57897f63c21b", func := "fulling/fullinglaw3.ParserTruncated", spec := "parserTruncated", recurses := true, apart := false }
def ParserTruncatedSaid : Prop := parserTruncatedRow.holds Try.pinned (OpenSpec.ofChange parserTruncatedSpec)

/-- ITS FALSE NEIGHBOUR: 'it returns false'. Refute it at one input. -/
def parserTruncatedWrong : ChangeSpec := { name := "parserTruncated", fn := fun _ => fun
  | [d1, d2] => { results := [.lit (.bool false)], args := [d1, d2] }
  | _ => none }
def ParserTruncatedWrongFalsely : Prop := parserTruncatedRow.holds Try.pinned (OpenSpec.ofChange parserTruncatedWrong)

/-- 'fullinglaw3.ParserSequence': WHATEVER THE INPUT: true; the input reads as it did. -/
def parserSequenceSpec : ChangeSpec := { name := "parserSequence", fn := fun _ => fun
  | [d1, d2] => { results := [.lit (.bool true)], args := [d1, d2] }
  | _ => none }
def parserSequenceRow : OpenClaim := { program := "ytapgbjedgcpffaa", sum := "82bc211226b29b73d6f37c404b16cd36d6f3827fe1a9fb5e69ce57897f63c21b", func := "fulling/fullinglaw3.ParserSequence", spec := "parserSequence", recurses := true, apart := false }
def ParserSequenceSaid : Prop := parserSequenceRow.holds Try.pinned (OpenSpec.ofChange parserSequenceSpec)

/-- ITS FALSE NEIGHBOUR: 'it returns false'. Refute it at one input. -/
def parserSequenceWrong : ChangeSpec := { name := "parserSequence", fn := fun _ => fun
  | [d1, d2] => { results := [.lit (.bool false)], args := [d1, d2] }
  | _ => none }
def ParserSequenceWrongFalsely : Prop := parserSequenceRow.holds Try.pinned (OpenSpec.ofChange parserSequenceWrong)

/-- 'fullinglaw3.ParserNegativeNumbers': WHATEVER THE INPUT: true; the input reads as it did. -/
def parserNegativeNumbersSpec : ChangeSpec := { name := "parserNegativeNumbers", fn := fun _ => fun
  | [d1, d2] => { results := [.lit (.bool true)], args := [d1, d2] }
  | _ => none }
def parserNegativeNumbersRow : OpenClaim := { program := "ytapgbjedgcpffaa", sum := "82bc211226b29b73d6f37c404b16cd36d6f3827fe1a9fb5e69ce57897f63c21b", func := "fulling/fullinglaw3.ParserNegativeNumbers", spec := "parserNegativeNumbers", recurses := true, apart := false }
def ParserNegativeNumbersSaid : Prop := parserNegativeNumbersRow.holds Try.pinned (OpenSpec.ofChange parserNegativeNumbersSpec)

/-- ITS FALSE NEIGHBOUR: 'it returns false'. Refute it at one input. -/
def parserNegativeNumbersWrong : ChangeSpec := { name := "parserNegativeNumbers", fn := fun _ => fun
  | [d1, d2] => { results := [.lit (.bool false)], args := [d1, d2] }
  | _ => none }
def ParserNegativeNumbersWrongFalsely : Prop := parserNegativeNumbersRow.holds Try.pinned (OpenSpec.ofChange parserNegativeNumbersWrong)

/- THE SECOND FORM. 'bulk': how many values and letters a reading holds, each counted each time it is reached (what is shared counts as often as it is met; a slice's spare places count too). A statement '..UptoSaid' is the law's where the arguments, and the package variables that the reading takes, are together of bulk at most 1048576: NARROWER than '..Said'. Prove '..Said' where nothing that the law and all that it calls make is longer than what came in: it says more and counts as full. Else prove '..UptoSaid'. A law counts once. -/
mutual
def uptoBulk {H : Type} : DataW H → Nat
  | .lit (.string bytes) => bytes.length + 1
  | .lit _ => 1
  | .nil => 1
  | .ptr d => uptoBulk d + 1
  | .slice elems spare => uptoBulkAll elems + uptoBulkAll spare + 1
  | .agg parts => uptoBulkAll parts + 1
  | .iface _ d => uptoBulk d + 1
  | .map entries => uptoBulkEntries entries + 1
  | .held _ => 1
def uptoBulkAll {H : Type} : List (DataW H) → Nat
  | [] => 0
  | d :: r => uptoBulk d + uptoBulkAll r
def uptoBulkEntries {H : Type} : List (Lit × DataW H) → Nat
  | [] => 0
  | x :: r => uptoBulkEntry x + uptoBulkEntries r
def uptoBulkEntry {H : Type} : Lit × DataW H → Nat
  | (.string bytes, d) => bytes.length + uptoBulk d + 1
  | (_, d) => uptoBulk d + 1
 end
def uptoSmall : (H : Type) → List (DataW H) → Bool := fun _ ds => decide (uptoBulkAll ds ≤ 1048576)
def OpenSpec.upto (s : _root_.Go.ChangeSpec) : _root_.Go.OpenSpec := { _root_.Go.OpenSpec.ofChange s with cond := some uptoSmall }

/-- 'fullinglaw2.LexerReference', WHERE WHAT IT READS IS OF BULK AT MOST 1048576: true; the input reads as it did. -/
def lexerReferenceUptoRow : OpenClaim := { program := "ytapgbjedgcpffaa", sum := "82bc211226b29b73d6f37c404b16cd36d6f3827fe1a9fb5e69ce57897f63c21b", func := "fulling/fullinglaw2.LexerReference", spec := "lexerReference", recurses := true, apart := false, narrowed := true }
def LexerReferenceUptoSaid : Prop := lexerReferenceUptoRow.holds Try.pinned (OpenSpec.upto lexerReferenceSpec)

/-- 'fullinglaw3.ParserExpressions', WHERE WHAT IT READS IS OF BULK AT MOST 1048576: true; the input reads as it did. -/
def parserExpressionsUptoRow : OpenClaim := { program := "ytapgbjedgcpffaa", sum := "82bc211226b29b73d6f37c404b16cd36d6f3827fe1a9fb5e69ce57897f63c21b", func := "fulling/fullinglaw3.ParserExpressions", spec := "parserExpressions", recurses := true, apart := false, narrowed := true }
def ParserExpressionsUptoSaid : Prop := parserExpressionsUptoRow.holds Try.pinned (OpenSpec.upto parserExpressionsSpec)

/-- 'fullinglaw3.ParserTruncated', WHERE WHAT IT READS IS OF BULK AT MOST 1048576: true; the input reads as it did. -/
def parserTruncatedUptoRow : OpenClaim := { program := "ytapgbjedgcpffaa", sum := "82bc211226b29b73d6f37c404b16cd36d6f3827fe1a9fb5e69ce57897f63c21b", func := "fulling/fullinglaw3.ParserTruncated", spec := "parserTruncated", recurses := true, apart := false, narrowed := true }
def ParserTruncatedUptoSaid : Prop := parserTruncatedUptoRow.holds Try.pinned (OpenSpec.upto parserTruncatedSpec)

/-- 'fullinglaw3.ParserSequence', WHERE WHAT IT READS IS OF BULK AT MOST 1048576: true; the input reads as it did. -/
def parserSequenceUptoRow : OpenClaim := { program := "ytapgbjedgcpffaa", sum := "82bc211226b29b73d6f37c404b16cd36d6f3827fe1a9fb5e69ce57897f63c21b", func := "fulling/fullinglaw3.ParserSequence", spec := "parserSequence", recurses := true, apart := false, narrowed := true }
def ParserSequenceUptoSaid : Prop := parserSequenceUptoRow.holds Try.pinned (OpenSpec.upto parserSequenceSpec)

/-- 'fullinglaw3.ParserNegativeNumbers', WHERE WHAT IT READS IS OF BULK AT MOST 1048576: true; the input reads as it did. -/
def parserNegativeNumbersUptoRow : OpenClaim := { program := "ytapgbjedgcpffaa", sum := "82bc211226b29b73d6f37c404b16cd36d6f3827fe1a9fb5e69ce57897f63c21b", func := "fulling/fullinglaw3.ParserNegativeNumbers", spec := "parserNegativeNumbers", recurses := true, apart := false, narrowed := true }
def ParserNegativeNumbersUptoSaid : Prop := parserNegativeNumbersUptoRow.holds Try.pinned (OpenSpec.upto parserNegativeNumbersSpec)

end Rows
end Go.Proofs.Ytapgbjedgcpffaa
