/-
  No cell of these rows narrows 'for every input' (looked for: loops, veiled, ifaces, maps, wideKeys, modest, calm, conditions, laid).
  DERIVED. THE GIVEN ROWS OF THIS SEAT. 2 by the template 'for every input the law returns true; each argument reads behind the call as it read before'; 0 by the template 'total and deterministic' (their statements: YtfanhckclmijfaaTotals.lean).
  GIVEN WITH THE SEED: the statements are not yours to turn. If you find one false, say at which input.
  Laid BY PROGRAM, IN A SANDBOX (cutbox-rows.mjs): the forced cells as the released guide's own fill.sh prints them over the translation 6056a1b5e816df19… (all of the seat's roots in one cut). By AI agents, Wed Nov 11 2026. No macro, syntax, notation, axiom, sorry.
-/
import Derived.Test.YtfanhckclmijfaaChecked
import GoSem.Claim
import GoSem.ClaimJoined
import GoSem.ClaimMapViews
import Derived.JoinedTies
import Derived.KernelRfl
namespace Go.Proofs.Ytfanhckclmijfaa
/- THE CELL 'sum', in the pinned program and in every row, IS THE sha256 OF THE DUMP (.gsa) THAT YtfanhckclmijfaaProg.lean LOADS. Nothing in Lean hashes anything: it is a label: what it is worth is what the hold of that sum in a sandbox is worth. -/
noncomputable def Try.pinned : Pinned := { name := "ytfanhckclmijfaa", sum := "6056a1b5e816df19215aa36b5a95807ea335fd62a3a0122ca940d616cf6605d1", checked := Try.checked }
namespace Rows
def none {H : Type} : Left H := { results := [], args := [] }

/-- 'fullinglaw3.ParserExamples': WHATEVER THE INPUT: true; the input reads as it did. -/
def parserExamplesSpec : ChangeSpec := { name := "parserExamples", fn := fun _ => fun
  | [] => { results := [.lit (.bool true)], args := [] }
  | _ => none }
def parserExamplesRow : OpenClaim := { program := "ytfanhckclmijfaa", sum := "6056a1b5e816df19215aa36b5a95807ea335fd62a3a0122ca940d616cf6605d1", func := "fulling/fullinglaw3.ParserExamples", spec := "parserExamples", recurses := true, apart := false }
def ParserExamplesSaid : Prop := parserExamplesRow.holds Try.pinned (OpenSpec.ofChange parserExamplesSpec)

/-- ITS FALSE NEIGHBOUR: 'it returns false'. Refute it at one input. -/
def parserExamplesWrong : ChangeSpec := { name := "parserExamples", fn := fun _ => fun
  | [] => { results := [.lit (.bool false)], args := [] }
  | _ => none }
def ParserExamplesWrongFalsely : Prop := parserExamplesRow.holds Try.pinned (OpenSpec.ofChange parserExamplesWrong)

/-- 'fullinglaw5.PrinterExamples': WHATEVER THE INPUT: true; the input reads as it did. -/
def printerExamplesSpec : ChangeSpec := { name := "printerExamples", fn := fun _ => fun
  | [] => { results := [.lit (.bool true)], args := [] }
  | _ => none }
def printerExamplesRow : OpenClaim := { program := "ytfanhckclmijfaa", sum := "6056a1b5e816df19215aa36b5a95807ea335fd62a3a0122ca940d616cf6605d1", func := "fulling/fullinglaw5.PrinterExamples", spec := "printerExamples", unfollowed := true, recurses := true, apart := false }
def PrinterExamplesSaid : Prop := printerExamplesRow.holds Try.pinned (OpenSpec.ofChange printerExamplesSpec)

/-- ITS FALSE NEIGHBOUR: 'it returns false'. Refute it at one input. -/
def printerExamplesWrong : ChangeSpec := { name := "printerExamples", fn := fun _ => fun
  | [] => { results := [.lit (.bool false)], args := [] }
  | _ => none }
def PrinterExamplesWrongFalsely : Prop := printerExamplesRow.holds Try.pinned (OpenSpec.ofChange printerExamplesWrong)

/- THE SECOND FORM. 'bulk': how many values and letters a reading holds, each counted each time it is reached (what is shared counts as often as it is met; a slice's spare places count too). A statement '..UptoSaid' is the law's where the arguments, and the package variables that the reading takes, are together of bulk at most 1048576: NARROWER than '..Said'. Prove '..Said' where nothing that the law and all that it calls make is longer than what came in: it says more and counts as full. Else prove '..UptoSaid'. A law counts once. -/
mutual
def uptoBulk {H : Type} : DataW H → Nat
  | .lit (.string bytes) => bytes.length + 1
  | .lit _ => 1
  | .nil => 1
  | .ptr d => uptoBulk d + 1
  | .slice elems spare => uptoBulkAll elems + uptoBulkAll spare + 1
  | .agg parts => uptoBulkAll parts + 1
  | .iface _ d => uptoBulk d + 1
  | .map entries => uptoBulkEntries entries + 1
  | .held _ => 1
def uptoBulkAll {H : Type} : List (DataW H) → Nat
  | [] => 0
  | d :: r => uptoBulk d + uptoBulkAll r
def uptoBulkEntries {H : Type} : List (Lit × DataW H) → Nat
  | [] => 0
  | x :: r => uptoBulkEntry x + uptoBulkEntries r
def uptoBulkEntry {H : Type} : Lit × DataW H → Nat
  | (.string bytes, d) => bytes.length + uptoBulk d + 1
  | (_, d) => uptoBulk d + 1
 end
def uptoSmall : (H : Type) → List (DataW H) → Bool := fun _ ds => decide (uptoBulkAll ds ≤ 1048576)
def OpenSpec.upto (s : _root_.Go.ChangeSpec) : _root_.Go.OpenSpec := { _root_.Go.OpenSpec.ofChange s with cond := some uptoSmall }

/-- 'fullinglaw3.ParserExamples', WHERE WHAT IT READS IS OF BULK AT MOST 1048576: true; the input reads as it did. -/
def parserExamplesUptoRow : OpenClaim := { program := "ytfanhckclmijfaa", sum := "6056a1b5e816df19215aa36b5a95807ea335fd62a3a0122ca940d616cf6605d1", func := "fulling/fullinglaw3.ParserExamples", spec := "parserExamples", recurses := true, apart := false, narrowed := true }
def ParserExamplesUptoSaid : Prop := parserExamplesUptoRow.holds Try.pinned (OpenSpec.upto parserExamplesSpec)

/-- 'fullinglaw5.PrinterExamples', WHERE WHAT IT READS IS OF BULK AT MOST 1048576: true; the input reads as it did. -/
def printerExamplesUptoRow : OpenClaim := { program := "ytfanhckclmijfaa", sum := "6056a1b5e816df19215aa36b5a95807ea335fd62a3a0122ca940d616cf6605d1", func := "fulling/fullinglaw5.PrinterExamples", spec := "printerExamples", unfollowed := true, recurses := true, apart := false, narrowed := true }
def PrinterExamplesUptoSaid : Prop := printerExamplesUptoRow.holds Try.pinned (OpenSpec.upto printerExamplesSpec)

end Rows
end Go.Proofs.Ytfanhckclmijfaa
