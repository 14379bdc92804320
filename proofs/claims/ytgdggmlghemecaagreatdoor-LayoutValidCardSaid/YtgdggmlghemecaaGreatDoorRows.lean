/-
  NARROWER THAN 'FOR EVERY INPUT', by the rows' own cells (each row's printed sentence says how): LayoutEmit: laid · LayoutValid: laid · LayoutRuns: laid · LayoutAnySound: laid · LayoutSameOutcome: laid.
  DERIVED. THE GIVEN ROWS OF THIS SEAT. 5 by the template 'for every input the law returns true; each argument reads behind the call as it read before'; 0 by the template 'total and deterministic' (their statements: YtgdggmlghemecaaGreatDoorTotals.lean).
  GIVEN WITH THE SEED: the statements are not yours to turn. If you find one false, say at which input.
  Laid BY PROGRAM, IN A SANDBOX (cutbox-rows.mjs): the forced cells as the released guide's own fill.sh prints them over the translation daf53d45558a9075… (all of the seat's roots in one cut). By AI agents, Wed Nov 11 2026. No macro, syntax, notation, axiom, sorry.
-/
import Derived.Test.YtgdggmlghemecaaGreatDoorChecked
import GoSem.Claim
import GoSem.ClaimJoined
import GoSem.ClaimMapViews
import Derived.JoinedTies
import Derived.KernelRfl
namespace Go.Proofs.YtgdggmlghemecaaGreatDoor
/- THE CELL 'sum', in the pinned program and in every row, IS THE sha256 OF THE DUMP (.gsa) THAT YtgdggmlghemecaaGreatDoorProg.lean LOADS. Nothing in Lean hashes anything: it is a label: what it is worth is what the hold of that sum in a sandbox is worth. -/
noncomputable def Tryz.pinned : Pinned := { name := "ytgdggmlghemecaagreatdoor", sum := "daf53d45558a9075b3f35c884df974f224544b188ea51d37457fb004b4c2133e", checked := Tryz.checked }
namespace Rows
def none {H : Type} : Left H := { results := [], args := [] }

/- WHAT THE LISTED PACKAGE-LEVEL VARIABLES READ AS WHEN THE CALL BEGINS. Each datum BY PROGRAM (the guide's laid-datum.mjs) off the statement by which the dump's own 'gosem.cut.vars' lays the variable. In a bare row this is a premise. The card (YtgdggmlghemecaaGreatDoorCards.lean) ties it to the program's text. -/
def laid_fulling_machine_table {H : Type} : DataW H := .slice [.agg [.lit (.string [110, 111, 112]), .lit (.int .i64 1), .lit (.bool false), .lit (.bool false), .lit (.bool false), .lit (.bool false), .lit (.int .i64 1)], .agg [.lit (.string [114, 101, 116]), .lit (.int .i64 1), .lit (.bool false), .lit (.bool false), .lit (.bool false), .lit (.bool false), .lit (.int .i64 1)], .agg [.lit (.string [116, 105, 99, 107]), .lit (.int .i64 1), .lit (.bool false), .lit (.bool false), .lit (.bool false), .lit (.bool false), .lit (.int .i64 1)], .agg [.lit (.string [116, 114, 97, 112]), .lit (.int .i64 8), .lit (.bool false), .lit (.bool false), .lit (.bool false), .lit (.bool true), .lit (.int .i64 1)], .agg [.lit (.string [106, 109, 112]), .lit (.int .i64 8), .lit (.bool false), .lit (.bool false), .lit (.bool false), .lit (.bool false), .lit (.int .i64 1)], .agg [.lit (.string [99, 97, 108, 108]), .lit (.int .i64 5), .lit (.bool false), .lit (.bool false), .lit (.bool false), .lit (.bool false), .lit (.int .i64 1)], .agg [.lit (.string [106, 122]), .lit (.int .i64 5), .lit (.bool true), .lit (.bool false), .lit (.bool false), .lit (.bool false), .lit (.int .i64 1)], .agg [.lit (.string [106, 110, 122]), .lit (.int .i64 5), .lit (.bool true), .lit (.bool false), .lit (.bool false), .lit (.bool false), .lit (.int .i64 1)], .agg [.lit (.string [111, 117, 116]), .lit (.int .i64 2), .lit (.bool true), .lit (.bool false), .lit (.bool false), .lit (.bool false), .lit (.int .i64 1)], .agg [.lit (.string [109, 111, 118]), .lit (.int .i64 3), .lit (.bool false), .lit (.bool true), .lit (.bool true), .lit (.bool false), .lit (.int .i64 1)], .agg [.lit (.string [99, 109, 111, 118, 122]), .lit (.int .i64 4), .lit (.bool true), .lit (.bool true), .lit (.bool true), .lit (.bool false), .lit (.int .i64 1)], .agg [.lit (.string [99, 109, 111, 118, 110, 122]), .lit (.int .i64 4), .lit (.bool true), .lit (.bool true), .lit (.bool true), .lit (.bool false), .lit (.int .i64 1)], .agg [.lit (.string [108, 100, 105]), .lit (.int .i64 5), .lit (.bool false), .lit (.bool true), .lit (.bool false), .lit (.bool false), .lit (.int .i64 1)], .agg [.lit (.string [108, 100, 99]), .lit (.int .i64 6), .lit (.bool false), .lit (.bool true), .lit (.bool false), .lit (.bool false), .lit (.int .i64 3)], .agg [.lit (.string [110, 101, 103]), .lit (.int .i64 2), .lit (.bool true), .lit (.bool true), .lit (.bool false), .lit (.bool false), .lit (.int .i64 1)], .agg [.lit (.string [110, 111, 116]), .lit (.int .i64 2), .lit (.bool true), .lit (.bool true), .lit (.bool false), .lit (.bool false), .lit (.int .i64 1)], .agg [.lit (.string [97, 100, 100]), .lit (.int .i64 3), .lit (.bool true), .lit (.bool true), .lit (.bool true), .lit (.bool false), .lit (.int .i64 1)], .agg [.lit (.string [115, 117, 98]), .lit (.int .i64 3), .lit (.bool true), .lit (.bool true), .lit (.bool true), .lit (.bool false), .lit (.int .i64 1)], .agg [.lit (.string [109, 117, 108]), .lit (.int .i64 3), .lit (.bool true), .lit (.bool true), .lit (.bool true), .lit (.bool false), .lit (.int .i64 1)], .agg [.lit (.string [100, 105, 118]), .lit (.int .i64 3), .lit (.bool true), .lit (.bool true), .lit (.bool true), .lit (.bool true), .lit (.int .i64 1)], .agg [.lit (.string [114, 101, 109]), .lit (.int .i64 3), .lit (.bool true), .lit (.bool true), .lit (.bool true), .lit (.bool true), .lit (.int .i64 1)], .agg [.lit (.string [97, 110, 100]), .lit (.int .i64 3), .lit (.bool true), .lit (.bool true), .lit (.bool true), .lit (.bool false), .lit (.int .i64 1)], .agg [.lit (.string [111, 114]), .lit (.int .i64 3), .lit (.bool true), .lit (.bool true), .lit (.bool true), .lit (.bool false), .lit (.int .i64 1)], .agg [.lit (.string [120, 111, 114]), .lit (.int .i64 3), .lit (.bool true), .lit (.bool true), .lit (.bool true), .lit (.bool false), .lit (.int .i64 1)], .agg [.lit (.string [115, 104, 108]), .lit (.int .i64 3), .lit (.bool true), .lit (.bool true), .lit (.bool true), .lit (.bool false), .lit (.int .i64 1)], .agg [.lit (.string [115, 104, 114]), .lit (.int .i64 3), .lit (.bool true), .lit (.bool true), .lit (.bool true), .lit (.bool false), .lit (.int .i64 1)], .agg [.lit (.string [115, 97, 114]), .lit (.int .i64 3), .lit (.bool true), .lit (.bool true), .lit (.bool true), .lit (.bool false), .lit (.int .i64 1)], .agg [.lit (.string [101, 113]), .lit (.int .i64 3), .lit (.bool true), .lit (.bool true), .lit (.bool true), .lit (.bool false), .lit (.int .i64 1)], .agg [.lit (.string [110, 101]), .lit (.int .i64 3), .lit (.bool true), .lit (.bool true), .lit (.bool true), .lit (.bool false), .lit (.int .i64 1)], .agg [.lit (.string [108, 116]), .lit (.int .i64 3), .lit (.bool true), .lit (.bool true), .lit (.bool true), .lit (.bool false), .lit (.int .i64 1)], .agg [.lit (.string [108, 101]), .lit (.int .i64 3), .lit (.bool true), .lit (.bool true), .lit (.bool true), .lit (.bool false), .lit (.int .i64 1)], .agg [.lit (.string [108, 116, 117]), .lit (.int .i64 3), .lit (.bool true), .lit (.bool true), .lit (.bool true), .lit (.bool false), .lit (.int .i64 1)], .agg [.lit (.string [97, 100, 100, 105]), .lit (.int .i64 5), .lit (.bool true), .lit (.bool true), .lit (.bool false), .lit (.bool false), .lit (.int .i64 1)], .agg [.lit (.string [108, 100]), .lit (.int .i64 7), .lit (.bool false), .lit (.bool true), .lit (.bool true), .lit (.bool true), .lit (.int .i64 1)], .agg [.lit (.string [115, 116]), .lit (.int .i64 7), .lit (.bool true), .lit (.bool false), .lit (.bool true), .lit (.bool true), .lit (.int .i64 1)], .agg [.lit (.string [108, 100, 115]), .lit (.int .i64 5), .lit (.bool false), .lit (.bool true), .lit (.bool false), .lit (.bool false), .lit (.int .i64 1)], .agg [.lit (.string [115, 116, 115]), .lit (.int .i64 5), .lit (.bool true), .lit (.bool false), .lit (.bool false), .lit (.bool false), .lit (.int .i64 1)]] []

/-- 'fullinglaw36.LayoutEmit': WHATEVER THE INPUT: true; the input reads as it did. -/
def layoutEmitSpec : ChangeSpec := { name := "layoutEmit", fn := fun _ => fun
  | [d1, d2, d3, d4, d5, d6] => { results := [.lit (.bool true)], args := [d1, d2, d3, d4, d5, d6] }
  | _ => none }
def layoutEmitRow : OpenClaim := { program := "ytgdggmlghemecaagreatdoor", sum := "daf53d45558a9075b3f35c884df974f224544b188ea51d37457fb004b4c2133e", func := "fulling/fullinglaw36.LayoutEmit", spec := "layoutEmit", unfollowed := true, recurses := true, named := ["fulling/machine.table"], apart := false, laid := [("fulling/machine.table", laid_fulling_machine_table)] }
def LayoutEmitSaid : Prop := layoutEmitRow.holds Tryz.pinned (OpenSpec.ofChange layoutEmitSpec)

/-- ITS FALSE NEIGHBOUR: 'it returns false'. Refute it at one input. -/
def layoutEmitWrong : ChangeSpec := { name := "layoutEmit", fn := fun _ => fun
  | [d1, d2, d3, d4, d5, d6] => { results := [.lit (.bool false)], args := [d1, d2, d3, d4, d5, d6] }
  | _ => none }
def LayoutEmitWrongFalsely : Prop := layoutEmitRow.holds Tryz.pinned (OpenSpec.ofChange layoutEmitWrong)

/-- 'fullinglaw36.LayoutValid': WHATEVER THE INPUT: true; the input reads as it did. -/
def layoutValidSpec : ChangeSpec := { name := "layoutValid", fn := fun _ => fun
  | [d1, d2] => { results := [.lit (.bool true)], args := [d1, d2] }
  | _ => none }
def layoutValidRow : OpenClaim := { program := "ytgdggmlghemecaagreatdoor", sum := "daf53d45558a9075b3f35c884df974f224544b188ea51d37457fb004b4c2133e", func := "fulling/fullinglaw36.LayoutValid", spec := "layoutValid", unfollowed := true, recurses := true, named := ["fulling/machine.table"], apart := false, laid := [("fulling/machine.table", laid_fulling_machine_table)] }
def LayoutValidSaid : Prop := layoutValidRow.holds Tryz.pinned (OpenSpec.ofChange layoutValidSpec)

/-- ITS FALSE NEIGHBOUR: 'it returns false'. Refute it at one input. -/
def layoutValidWrong : ChangeSpec := { name := "layoutValid", fn := fun _ => fun
  | [d1, d2] => { results := [.lit (.bool false)], args := [d1, d2] }
  | _ => none }
def LayoutValidWrongFalsely : Prop := layoutValidRow.holds Tryz.pinned (OpenSpec.ofChange layoutValidWrong)

/-- 'fullinglaw36.LayoutRuns': WHATEVER THE INPUT: true; the input reads as it did. -/
def layoutRunsSpec : ChangeSpec := { name := "layoutRuns", fn := fun _ => fun
  | [d1, d2, d3, d4, d5, d6, d7] => { results := [.lit (.bool true)], args := [d1, d2, d3, d4, d5, d6, d7] }
  | _ => none }
def layoutRunsRow : OpenClaim := { program := "ytgdggmlghemecaagreatdoor", sum := "daf53d45558a9075b3f35c884df974f224544b188ea51d37457fb004b4c2133e", func := "fulling/fullinglaw36.LayoutRuns", spec := "layoutRuns", unfollowed := true, recurses := true, named := ["fulling/machine.table"], apart := false, laid := [("fulling/machine.table", laid_fulling_machine_table)] }
def LayoutRunsSaid : Prop := layoutRunsRow.holds Tryz.pinned (OpenSpec.ofChange layoutRunsSpec)

/-- ITS FALSE NEIGHBOUR: 'it returns false'. Refute it at one input. -/
def layoutRunsWrong : ChangeSpec := { name := "layoutRuns", fn := fun _ => fun
  | [d1, d2, d3, d4, d5, d6, d7] => { results := [.lit (.bool false)], args := [d1, d2, d3, d4, d5, d6, d7] }
  | _ => none }
def LayoutRunsWrongFalsely : Prop := layoutRunsRow.holds Tryz.pinned (OpenSpec.ofChange layoutRunsWrong)

/-- 'fullinglaw36.LayoutAnySound': WHATEVER THE INPUT: true; the input reads as it did. -/
def layoutAnySoundSpec : ChangeSpec := { name := "layoutAnySound", fn := fun _ => fun
  | [d1, d2, d3, d4, d5, d6, d7, d8] => { results := [.lit (.bool true)], args := [d1, d2, d3, d4, d5, d6, d7, d8] }
  | _ => none }
def layoutAnySoundRow : OpenClaim := { program := "ytgdggmlghemecaagreatdoor", sum := "daf53d45558a9075b3f35c884df974f224544b188ea51d37457fb004b4c2133e", func := "fulling/fullinglaw36.LayoutAnySound", spec := "layoutAnySound", unfollowed := true, recurses := true, named := ["fulling/machine.table"], apart := false, laid := [("fulling/machine.table", laid_fulling_machine_table)] }
def LayoutAnySoundSaid : Prop := layoutAnySoundRow.holds Tryz.pinned (OpenSpec.ofChange layoutAnySoundSpec)

/-- ITS FALSE NEIGHBOUR: 'it returns false'. Refute it at one input. -/
def layoutAnySoundWrong : ChangeSpec := { name := "layoutAnySound", fn := fun _ => fun
  | [d1, d2, d3, d4, d5, d6, d7, d8] => { results := [.lit (.bool false)], args := [d1, d2, d3, d4, d5, d6, d7, d8] }
  | _ => none }
def LayoutAnySoundWrongFalsely : Prop := layoutAnySoundRow.holds Tryz.pinned (OpenSpec.ofChange layoutAnySoundWrong)

/-- 'fullinglaw36.LayoutSameOutcome': WHATEVER THE INPUT: true; the input reads as it did. -/
def layoutSameOutcomeSpec : ChangeSpec := { name := "layoutSameOutcome", fn := fun _ => fun
  | [d1, d2, d3, d4, d5, d6, d7, d8] => { results := [.lit (.bool true)], args := [d1, d2, d3, d4, d5, d6, d7, d8] }
  | _ => none }
def layoutSameOutcomeRow : OpenClaim := { program := "ytgdggmlghemecaagreatdoor", sum := "daf53d45558a9075b3f35c884df974f224544b188ea51d37457fb004b4c2133e", func := "fulling/fullinglaw36.LayoutSameOutcome", spec := "layoutSameOutcome", unfollowed := true, recurses := true, named := ["fulling/machine.table"], apart := false, laid := [("fulling/machine.table", laid_fulling_machine_table)] }
def LayoutSameOutcomeSaid : Prop := layoutSameOutcomeRow.holds Tryz.pinned (OpenSpec.ofChange layoutSameOutcomeSpec)

/-- ITS FALSE NEIGHBOUR: 'it returns false'. Refute it at one input. -/
def layoutSameOutcomeWrong : ChangeSpec := { name := "layoutSameOutcome", fn := fun _ => fun
  | [d1, d2, d3, d4, d5, d6, d7, d8] => { results := [.lit (.bool false)], args := [d1, d2, d3, d4, d5, d6, d7, d8] }
  | _ => none }
def LayoutSameOutcomeWrongFalsely : Prop := layoutSameOutcomeRow.holds Tryz.pinned (OpenSpec.ofChange layoutSameOutcomeWrong)

/- THE SECOND FORM. 'bulk': how many values and letters a reading holds, each counted each time it is reached (what is shared counts as often as it is met; a slice's spare places count too). A statement '..UptoSaid' is the law's where the arguments, and the package variables that the reading takes, are together of bulk at most 1048576: NARROWER than '..Said'. Prove '..Said' where nothing that the law and all that it calls make is longer than what came in: it says more and counts as full. Else prove '..UptoSaid'. A law counts once. -/
mutual
def uptoBulk {H : Type} : DataW H → Nat
  | .lit (.string bytes) => bytes.length + 1
  | .lit _ => 1
  | .nil => 1
  | .ptr d => uptoBulk d + 1
  | .slice elems spare => uptoBulkAll elems + uptoBulkAll spare + 1
  | .agg parts => uptoBulkAll parts + 1
  | .iface _ d => uptoBulk d + 1
  | .map entries => uptoBulkEntries entries + 1
  | .held _ => 1
def uptoBulkAll {H : Type} : List (DataW H) → Nat
  | [] => 0
  | d :: r => uptoBulk d + uptoBulkAll r
def uptoBulkEntries {H : Type} : List (Lit × DataW H) → Nat
  | [] => 0
  | x :: r => uptoBulkEntry x + uptoBulkEntries r
def uptoBulkEntry {H : Type} : Lit × DataW H → Nat
  | (.string bytes, d) => bytes.length + uptoBulk d + 1
  | (_, d) => uptoBulk d + 1
 end
def uptoSmall : (H : Type) → List (DataW H) → Bool := fun _ ds => decide (uptoBulkAll ds ≤ 1048576)
def OpenSpec.upto (s : _root_.Go.ChangeSpec) : _root_.Go.OpenSpec := { _root_.Go.OpenSpec.ofChange s with cond := some uptoSmall }

/-- 'fullinglaw36.LayoutEmit', WHERE WHAT IT READS IS OF BULK AT MOST 1048576: true; the input reads as it did. -/
def layoutEmitUptoRow : OpenClaim := { program := "ytgdggmlghemecaagreatdoor", sum := "daf53d45558a9075b3f35c884df974f224544b188ea51d37457fb004b4c2133e", func := "fulling/fullinglaw36.LayoutEmit", spec := "layoutEmit", unfollowed := true, recurses := true, named := ["fulling/machine.table"], apart := false, laid := [("fulling/machine.table", laid_fulling_machine_table)], narrowed := true }
def LayoutEmitUptoSaid : Prop := layoutEmitUptoRow.holds Tryz.pinned (OpenSpec.upto layoutEmitSpec)

/-- 'fullinglaw36.LayoutValid', WHERE WHAT IT READS IS OF BULK AT MOST 1048576: true; the input reads as it did. -/
def layoutValidUptoRow : OpenClaim := { program := "ytgdggmlghemecaagreatdoor", sum := "daf53d45558a9075b3f35c884df974f224544b188ea51d37457fb004b4c2133e", func := "fulling/fullinglaw36.LayoutValid", spec := "layoutValid", unfollowed := true, recurses := true, named := ["fulling/machine.table"], apart := false, laid := [("fulling/machine.table", laid_fulling_machine_table)], narrowed := true }
def LayoutValidUptoSaid : Prop := layoutValidUptoRow.holds Tryz.pinned (OpenSpec.upto layoutValidSpec)

/-- 'fullinglaw36.LayoutRuns', WHERE WHAT IT READS IS OF BULK AT MOST 1048576: true; the input reads as it did. -/
def layoutRunsUptoRow : OpenClaim := { program := "ytgdggmlghemecaagreatdoor", sum := "daf53d45558a9075b3f35c884df974f224544b188ea51d37457fb004b4c2133e", func := "fulling/fullinglaw36.LayoutRuns", spec := "layoutRuns", unfollowed := true, recurses := true, named := ["fulling/machine.table"], apart := false, laid := [("fulling/machine.table", laid_fulling_machine_table)], narrowed := true }
def LayoutRunsUptoSaid : Prop := layoutRunsUptoRow.holds Tryz.pinned (OpenSpec.upto layoutRunsSpec)

/-- 'fullinglaw36.LayoutAnySound', WHERE WHAT IT READS IS OF BULK AT MOST 1048576: true; the input reads as it did. -/
def layoutAnySoundUptoRow : OpenClaim := { program := "ytgdggmlghemecaagreatdoor", sum := "daf53d45558a9075b3f35c884df974f224544b188ea51d37457fb004b4c2133e", func := "fulling/fullinglaw36.LayoutAnySound", spec := "layoutAnySound", unfollowed := true, recurses := true, named := ["fulling/machine.table"], apart := false, laid := [("fulling/machine.table", laid_fulling_machine_table)], narrowed := true }
def LayoutAnySoundUptoSaid : Prop := layoutAnySoundUptoRow.holds Tryz.pinned (OpenSpec.upto layoutAnySoundSpec)

/-- 'fullinglaw36.LayoutSameOutcome', WHERE WHAT IT READS IS OF BULK AT MOST 1048576: true; the input reads as it did. -/
def layoutSameOutcomeUptoRow : OpenClaim := { program := "ytgdggmlghemecaagreatdoor", sum := "daf53d45558a9075b3f35c884df974f224544b188ea51d37457fb004b4c2133e", func := "fulling/fullinglaw36.LayoutSameOutcome", spec := "layoutSameOutcome", unfollowed := true, recurses := true, named := ["fulling/machine.table"], apart := false, laid := [("fulling/machine.table", laid_fulling_machine_table)], narrowed := true }
def LayoutSameOutcomeUptoSaid : Prop := layoutSameOutcomeUptoRow.holds Tryz.pinned (OpenSpec.upto layoutSameOutcomeSpec)

end Rows
end Go.Proofs.YtgdggmlghemecaaGreatDoor
