/-
  NARROWER THAN 'FOR EVERY INPUT', by the rows' own cells (each row's printed sentence says how): PrinterReference: loops.
  DERIVED. THE GIVEN ROWS OF THIS SEAT. 3 by the template 'for every input the law returns true; each argument reads behind the call as it read before'; 0 by the template 'total and deterministic' (their statements: YtkpgbdkkgcdhmaaGreatTotals.lean).
  GIVEN WITH THE SEED: the statements are not yours to turn. If you find one false, say at which input.
  Laid BY PROGRAM, IN A SANDBOX (cutbox-rows.mjs): the forced cells as the released guide's own fill.sh prints them over the translation 2c41fbcebba0f602… (all of the seat's roots in one cut). By AI agents, Wed Nov 11 2026. No macro, syntax, notation, axiom, sorry.
-/
import Derived.Test.YtkpgbdkkgcdhmaaGreatChecked
import GoSem.Claim
import GoSem.ClaimJoined
import GoSem.ClaimMapViews
import Derived.JoinedTies
import Derived.KernelRfl
namespace Go.Proofs.YtkpgbdkkgcdhmaaGreat
/- THE CELL 'sum', in the pinned program and in every row, IS THE sha256 OF THE DUMP (.gsa) THAT YtkpgbdkkgcdhmaaGreatProg.lean LOADS. Nothing in Lean hashes anything: it is a label: what it is worth is what the hold of that sum in a sandbox is worth. -/
noncomputable def Tryz.pinned : Pinned := { name := "ytkpgbdkkgcdhmaagreat", sum := "2c41fbcebba0f602a58974a178196fd4364c048aba12e7f0a52201f958cb8777", checked := Tryz.checked }
namespace Rows
def none {H : Type} : Left H := { results := [], args := [] }

/-- 'fullinglaw5.PrinterReference': WHATEVER THE INPUT: true; the input reads as it did. -/
def printerReferenceSpec : ChangeSpec := { name := "printerReference", fn := fun _ => fun
  | [d1, d2, d3, d4] => { results := [.lit (.bool true)], args := [d1, d2, d3, d4] }
  | _ => none }
def printerReferenceRow : OpenClaim := { program := "ytkpgbdkkgcdhmaagreat", sum := "2c41fbcebba0f602a58974a178196fd4364c048aba12e7f0a52201f958cb8777", func := "fulling/fullinglaw5.PrinterReference", spec := "printerReference", unfollowed := true, recurses := true, loops := true, apart := false }
def PrinterReferenceSaid : Prop := printerReferenceRow.holds Tryz.pinned (OpenSpec.ofChange printerReferenceSpec)

/-- ITS FALSE NEIGHBOUR: 'it returns false'. Refute it at one input. -/
def printerReferenceWrong : ChangeSpec := { name := "printerReference", fn := fun _ => fun
  | [d1, d2, d3, d4] => { results := [.lit (.bool false)], args := [d1, d2, d3, d4] }
  | _ => none }
def PrinterReferenceWrongFalsely : Prop := printerReferenceRow.holds Tryz.pinned (OpenSpec.ofChange printerReferenceWrong)

/-- 'fullinglaw5.PrinterRoundTrip': WHATEVER THE INPUT: true; the input reads as it did. -/
def printerRoundTripSpec : ChangeSpec := { name := "printerRoundTrip", fn := fun _ => fun
  | [d1, d2, d3, d4] => { results := [.lit (.bool true)], args := [d1, d2, d3, d4] }
  | _ => none }
def printerRoundTripRow : OpenClaim := { program := "ytkpgbdkkgcdhmaagreat", sum := "2c41fbcebba0f602a58974a178196fd4364c048aba12e7f0a52201f958cb8777", func := "fulling/fullinglaw5.PrinterRoundTrip", spec := "printerRoundTrip", unfollowed := true, recurses := true, apart := false }
def PrinterRoundTripSaid : Prop := printerRoundTripRow.holds Tryz.pinned (OpenSpec.ofChange printerRoundTripSpec)

/-- ITS FALSE NEIGHBOUR: 'it returns false'. Refute it at one input. -/
def printerRoundTripWrong : ChangeSpec := { name := "printerRoundTrip", fn := fun _ => fun
  | [d1, d2, d3, d4] => { results := [.lit (.bool false)], args := [d1, d2, d3, d4] }
  | _ => none }
def PrinterRoundTripWrongFalsely : Prop := printerRoundTripRow.holds Tryz.pinned (OpenSpec.ofChange printerRoundTripWrong)

/-- 'fullinglaw5.PrinterExpressions': WHATEVER THE INPUT: true; the input reads as it did. -/
def printerExpressionsSpec : ChangeSpec := { name := "printerExpressions", fn := fun _ => fun
  | [d] => { results := [.lit (.bool true)], args := [d] }
  | _ => none }
def printerExpressionsRow : OpenClaim := { program := "ytkpgbdkkgcdhmaagreat", sum := "2c41fbcebba0f602a58974a178196fd4364c048aba12e7f0a52201f958cb8777", func := "fulling/fullinglaw5.PrinterExpressions", spec := "printerExpressions", unfollowed := true, recurses := true, apart := false }
def PrinterExpressionsSaid : Prop := printerExpressionsRow.holds Tryz.pinned (OpenSpec.ofChange printerExpressionsSpec)

/-- ITS FALSE NEIGHBOUR: 'it returns false'. Refute it at one input. -/
def printerExpressionsWrong : ChangeSpec := { name := "printerExpressions", fn := fun _ => fun
  | [d] => { results := [.lit (.bool false)], args := [d] }
  | _ => none }
def PrinterExpressionsWrongFalsely : Prop := printerExpressionsRow.holds Tryz.pinned (OpenSpec.ofChange printerExpressionsWrong)

/- THE SECOND FORM. 'bulk': how many values and letters a reading holds, each counted each time it is reached (what is shared counts as often as it is met; a slice's spare places count too). A statement '..UptoSaid' is the law's where the arguments, and the package variables that the reading takes, are together of bulk at most 1048576: NARROWER than '..Said'. Prove '..Said' where nothing that the law and all that it calls make is longer than what came in: it says more and counts as full. Else prove '..UptoSaid'. A law counts once. -/
mutual
def uptoBulk {H : Type} : DataW H → Nat
  | .lit (.string bytes) => bytes.length + 1
  | .lit _ => 1
  | .nil => 1
  | .ptr d => uptoBulk d + 1
  | .slice elems spare => uptoBulkAll elems + uptoBulkAll spare + 1
  | .agg parts => uptoBulkAll parts + 1
  | .iface _ d => uptoBulk d + 1
  | .map entries => uptoBulkEntries entries + 1
  | .held _ => 1
def uptoBulkAll {H : Type} : List (DataW H) → Nat
  | [] => 0
  | d :: r => uptoBulk d + uptoBulkAll r
def uptoBulkEntries {H : Type} : List (Lit × DataW H) → Nat
  | [] => 0
  | x :: r => uptoBulkEntry x + uptoBulkEntries r
def uptoBulkEntry {H : Type} : Lit × DataW H → Nat
  | (.string bytes, d) => bytes.length + uptoBulk d + 1
  | (_, d) => uptoBulk d + 1
 end
def uptoSmall : (H : Type) → List (DataW H) → Bool := fun _ ds => decide (uptoBulkAll ds ≤ 1048576)
def OpenSpec.upto (s : _root_.Go.ChangeSpec) : _root_.Go.OpenSpec := { _root_.Go.OpenSpec.ofChange s with cond := some uptoSmall }

/-- 'fullinglaw5.PrinterReference', WHERE WHAT IT READS IS OF BULK AT MOST 1048576: true; the input reads as it did. -/
def printerReferenceUptoRow : OpenClaim := { program := "ytkpgbdkkgcdhmaagreat", sum := "2c41fbcebba0f602a58974a178196fd4364c048aba12e7f0a52201f958cb8777", func := "fulling/fullinglaw5.PrinterReference", spec := "printerReference", unfollowed := true, recurses := true, loops := true, apart := false, narrowed := true }
def PrinterReferenceUptoSaid : Prop := printerReferenceUptoRow.holds Tryz.pinned (OpenSpec.upto printerReferenceSpec)

/-- 'fullinglaw5.PrinterRoundTrip', WHERE WHAT IT READS IS OF BULK AT MOST 1048576: true; the input reads as it did. -/
def printerRoundTripUptoRow : OpenClaim := { program := "ytkpgbdkkgcdhmaagreat", sum := "2c41fbcebba0f602a58974a178196fd4364c048aba12e7f0a52201f958cb8777", func := "fulling/fullinglaw5.PrinterRoundTrip", spec := "printerRoundTrip", unfollowed := true, recurses := true, apart := false, narrowed := true }
def PrinterRoundTripUptoSaid : Prop := printerRoundTripUptoRow.holds Tryz.pinned (OpenSpec.upto printerRoundTripSpec)

/-- 'fullinglaw5.PrinterExpressions', WHERE WHAT IT READS IS OF BULK AT MOST 1048576: true; the input reads as it did. -/
def printerExpressionsUptoRow : OpenClaim := { program := "ytkpgbdkkgcdhmaagreat", sum := "2c41fbcebba0f602a58974a178196fd4364c048aba12e7f0a52201f958cb8777", func := "fulling/fullinglaw5.PrinterExpressions", spec := "printerExpressions", unfollowed := true, recurses := true, apart := false, narrowed := true }
def PrinterExpressionsUptoSaid : Prop := printerExpressionsUptoRow.holds Tryz.pinned (OpenSpec.upto printerExpressionsSpec)

end Rows
end Go.Proofs.YtkpgbdkkgcdhmaaGreat
