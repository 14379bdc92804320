/-
  NARROWER THAN 'FOR EVERY INPUT', by the rows' own cells (each row's printed sentence says how): RegAllocGraph: laid · RegAllocMatches: laid · RegAllocSymmetric: laid · RegAllocDisjoint: laid · RegAllocSmall: laid · RegAllocUninitialized: laid · AllocCheckMatches: laid · AllocCheckInvalid: laid · AllocCheckAccepts: laid · AllocCheckConflict: laid · AllocCheckMissing: laid · LayoutExpand: laid.
  DERIVED. THE GIVEN ROWS OF THIS SEAT. 12 by the template 'for every input the law returns true; each argument reads behind the call as it read before'; 0 by the template 'total and deterministic' (their statements: YtknafdcgpaejlaaDoorTotals.lean).
  GIVEN WITH THE SEED: the statements are not yours to turn. If you find one false, say at which input.
  Laid BY PROGRAM, IN A SANDBOX (cutbox-rows.mjs): the forced cells as the released guide's own fill.sh prints them over the translation c829f1b69b4568ff… (all of the seat's roots in one cut). By AI agents, Wed Nov 11 2026. No macro, syntax, notation, axiom, sorry.
-/
import Derived.Test.YtknafdcgpaejlaaDoorChecked
import GoSem.Claim
import GoSem.ClaimJoined
import GoSem.ClaimMapViews
import Derived.JoinedTies
import Derived.KernelRfl
namespace Go.Proofs.YtknafdcgpaejlaaDoor
/- THE CELL 'sum', in the pinned program and in every row, IS THE sha256 OF THE DUMP (.gsa) THAT YtknafdcgpaejlaaDoorProg.lean LOADS. Nothing in Lean hashes anything: it is a label: what it is worth is what the hold of that sum in a sandbox is worth. -/
noncomputable def Tryd.pinned : Pinned := { name := "ytknafdcgpaejlaadoor", sum := "c829f1b69b4568ffb78e95e1ad25f0c8ac4fa3e645bbee7b015752179b65a75e", checked := Tryd.checked }
namespace Rows
def none {H : Type} : Left H := { results := [], args := [] }

/- WHAT THE LISTED PACKAGE-LEVEL VARIABLES READ AS WHEN THE CALL BEGINS. Each datum BY PROGRAM (the guide's laid-datum.mjs) off the statement by which the dump's own 'gosem.cut.vars' lays the variable. In a bare row this is a premise. The card (YtknafdcgpaejlaaDoorCards.lean) ties it to the program's text. -/
def laid_fulling_machine_table {H : Type} : DataW H := .slice [.agg [.lit (.string [110, 111, 112]), .lit (.int .i64 1), .lit (.bool false), .lit (.bool false), .lit (.bool false), .lit (.bool false), .lit (.int .i64 1)], .agg [.lit (.string [114, 101, 116]), .lit (.int .i64 1), .lit (.bool false), .lit (.bool false), .lit (.bool false), .lit (.bool false), .lit (.int .i64 1)], .agg [.lit (.string [116, 105, 99, 107]), .lit (.int .i64 1), .lit (.bool false), .lit (.bool false), .lit (.bool false), .lit (.bool false), .lit (.int .i64 1)], .agg [.lit (.string [116, 114, 97, 112]), .lit (.int .i64 8), .lit (.bool false), .lit (.bool false), .lit (.bool false), .lit (.bool true), .lit (.int .i64 1)], .agg [.lit (.string [106, 109, 112]), .lit (.int .i64 8), .lit (.bool false), .lit (.bool false), .lit (.bool false), .lit (.bool false), .lit (.int .i64 1)], .agg [.lit (.string [99, 97, 108, 108]), .lit (.int .i64 5), .lit (.bool false), .lit (.bool false), .lit (.bool false), .lit (.bool false), .lit (.int .i64 1)], .agg [.lit (.string [106, 122]), .lit (.int .i64 5), .lit (.bool true), .lit (.bool false), .lit (.bool false), .lit (.bool false), .lit (.int .i64 1)], .agg [.lit (.string [106, 110, 122]), .lit (.int .i64 5), .lit (.bool true), .lit (.bool false), .lit (.bool false), .lit (.bool false), .lit (.int .i64 1)], .agg [.lit (.string [111, 117, 116]), .lit (.int .i64 2), .lit (.bool true), .lit (.bool false), .lit (.bool false), .lit (.bool false), .lit (.int .i64 1)], .agg [.lit (.string [109, 111, 118]), .lit (.int .i64 3), .lit (.bool false), .lit (.bool true), .lit (.bool true), .lit (.bool false), .lit (.int .i64 1)], .agg [.lit (.string [99, 109, 111, 118, 122]), .lit (.int .i64 4), .lit (.bool true), .lit (.bool true), .lit (.bool true), .lit (.bool false), .lit (.int .i64 1)], .agg [.lit (.string [99, 109, 111, 118, 110, 122]), .lit (.int .i64 4), .lit (.bool true), .lit (.bool true), .lit (.bool true), .lit (.bool false), .lit (.int .i64 1)], .agg [.lit (.string [108, 100, 105]), .lit (.int .i64 5), .lit (.bool false), .lit (.bool true), .lit (.bool false), .lit (.bool false), .lit (.int .i64 1)], .agg [.lit (.string [108, 100, 99]), .lit (.int .i64 6), .lit (.bool false), .lit (.bool true), .lit (.bool false), .lit (.bool false), .lit (.int .i64 3)], .agg [.lit (.string [110, 101, 103]), .lit (.int .i64 2), .lit (.bool true), .lit (.bool true), .lit (.bool false), .lit (.bool false), .lit (.int .i64 1)], .agg [.lit (.string [110, 111, 116]), .lit (.int .i64 2), .lit (.bool true), .lit (.bool true), .lit (.bool false), .lit (.bool false), .lit (.int .i64 1)], .agg [.lit (.string [97, 100, 100]), .lit (.int .i64 3), .lit (.bool true), .lit (.bool true), .lit (.bool true), .lit (.bool false), .lit (.int .i64 1)], .agg [.lit (.string [115, 117, 98]), .lit (.int .i64 3), .lit (.bool true), .lit (.bool true), .lit (.bool true), .lit (.bool false), .lit (.int .i64 1)], .agg [.lit (.string [109, 117, 108]), .lit (.int .i64 3), .lit (.bool true), .lit (.bool true), .lit (.bool true), .lit (.bool false), .lit (.int .i64 1)], .agg [.lit (.string [100, 105, 118]), .lit (.int .i64 3), .lit (.bool true), .lit (.bool true), .lit (.bool true), .lit (.bool true), .lit (.int .i64 1)], .agg [.lit (.string [114, 101, 109]), .lit (.int .i64 3), .lit (.bool true), .lit (.bool true), .lit (.bool true), .lit (.bool true), .lit (.int .i64 1)], .agg [.lit (.string [97, 110, 100]), .lit (.int .i64 3), .lit (.bool true), .lit (.bool true), .lit (.bool true), .lit (.bool false), .lit (.int .i64 1)], .agg [.lit (.string [111, 114]), .lit (.int .i64 3), .lit (.bool true), .lit (.bool true), .lit (.bool true), .lit (.bool false), .lit (.int .i64 1)], .agg [.lit (.string [120, 111, 114]), .lit (.int .i64 3), .lit (.bool true), .lit (.bool true), .lit (.bool true), .lit (.bool false), .lit (.int .i64 1)], .agg [.lit (.string [115, 104, 108]), .lit (.int .i64 3), .lit (.bool true), .lit (.bool true), .lit (.bool true), .lit (.bool false), .lit (.int .i64 1)], .agg [.lit (.string [115, 104, 114]), .lit (.int .i64 3), .lit (.bool true), .lit (.bool true), .lit (.bool true), .lit (.bool false), .lit (.int .i64 1)], .agg [.lit (.string [115, 97, 114]), .lit (.int .i64 3), .lit (.bool true), .lit (.bool true), .lit (.bool true), .lit (.bool false), .lit (.int .i64 1)], .agg [.lit (.string [101, 113]), .lit (.int .i64 3), .lit (.bool true), .lit (.bool true), .lit (.bool true), .lit (.bool false), .lit (.int .i64 1)], .agg [.lit (.string [110, 101]), .lit (.int .i64 3), .lit (.bool true), .lit (.bool true), .lit (.bool true), .lit (.bool false), .lit (.int .i64 1)], .agg [.lit (.string [108, 116]), .lit (.int .i64 3), .lit (.bool true), .lit (.bool true), .lit (.bool true), .lit (.bool false), .lit (.int .i64 1)], .agg [.lit (.string [108, 101]), .lit (.int .i64 3), .lit (.bool true), .lit (.bool true), .lit (.bool true), .lit (.bool false), .lit (.int .i64 1)], .agg [.lit (.string [108, 116, 117]), .lit (.int .i64 3), .lit (.bool true), .lit (.bool true), .lit (.bool true), .lit (.bool false), .lit (.int .i64 1)], .agg [.lit (.string [97, 100, 100, 105]), .lit (.int .i64 5), .lit (.bool true), .lit (.bool true), .lit (.bool false), .lit (.bool false), .lit (.int .i64 1)], .agg [.lit (.string [108, 100]), .lit (.int .i64 7), .lit (.bool false), .lit (.bool true), .lit (.bool true), .lit (.bool true), .lit (.int .i64 1)], .agg [.lit (.string [115, 116]), .lit (.int .i64 7), .lit (.bool true), .lit (.bool false), .lit (.bool true), .lit (.bool true), .lit (.int .i64 1)], .agg [.lit (.string [108, 100, 115]), .lit (.int .i64 5), .lit (.bool false), .lit (.bool true), .lit (.bool false), .lit (.bool false), .lit (.int .i64 1)], .agg [.lit (.string [115, 116, 115]), .lit (.int .i64 5), .lit (.bool true), .lit (.bool false), .lit (.bool false), .lit (.bool false), .lit (.int .i64 1)]] []

/-- 'fullinglaw34.RegAllocGraph': WHATEVER THE INPUT: true; the input reads as it did. -/
def regAllocGraphSpec : ChangeSpec := { name := "regAllocGraph", fn := fun _ => fun
  | [d1, d2, d3, d4, d5] => { results := [.lit (.bool true)], args := [d1, d2, d3, d4, d5] }
  | _ => none }
def regAllocGraphRow : OpenClaim := { program := "ytknafdcgpaejlaadoor", sum := "c829f1b69b4568ffb78e95e1ad25f0c8ac4fa3e645bbee7b015752179b65a75e", func := "fulling/fullinglaw34.RegAllocGraph", spec := "regAllocGraph", unfollowed := true, recurses := true, named := ["fulling/machine.table"], apart := false, laid := [("fulling/machine.table", laid_fulling_machine_table)] }
def RegAllocGraphSaid : Prop := regAllocGraphRow.holds Tryd.pinned (OpenSpec.ofChange regAllocGraphSpec)

/-- ITS FALSE NEIGHBOUR: 'it returns false'. Refute it at one input. -/
def regAllocGraphWrong : ChangeSpec := { name := "regAllocGraph", fn := fun _ => fun
  | [d1, d2, d3, d4, d5] => { results := [.lit (.bool false)], args := [d1, d2, d3, d4, d5] }
  | _ => none }
def RegAllocGraphWrongFalsely : Prop := regAllocGraphRow.holds Tryd.pinned (OpenSpec.ofChange regAllocGraphWrong)

/-- 'fullinglaw34.RegAllocMatches': WHATEVER THE INPUT: true; the input reads as it did. -/
def regAllocMatchesSpec : ChangeSpec := { name := "regAllocMatches", fn := fun _ => fun
  | [d1, d2, d3, d4, d5] => { results := [.lit (.bool true)], args := [d1, d2, d3, d4, d5] }
  | _ => none }
def regAllocMatchesRow : OpenClaim := { program := "ytknafdcgpaejlaadoor", sum := "c829f1b69b4568ffb78e95e1ad25f0c8ac4fa3e645bbee7b015752179b65a75e", func := "fulling/fullinglaw34.RegAllocMatches", spec := "regAllocMatches", unfollowed := true, recurses := true, named := ["fulling/machine.table"], apart := false, laid := [("fulling/machine.table", laid_fulling_machine_table)] }
def RegAllocMatchesSaid : Prop := regAllocMatchesRow.holds Tryd.pinned (OpenSpec.ofChange regAllocMatchesSpec)

/-- ITS FALSE NEIGHBOUR: 'it returns false'. Refute it at one input. -/
def regAllocMatchesWrong : ChangeSpec := { name := "regAllocMatches", fn := fun _ => fun
  | [d1, d2, d3, d4, d5] => { results := [.lit (.bool false)], args := [d1, d2, d3, d4, d5] }
  | _ => none }
def RegAllocMatchesWrongFalsely : Prop := regAllocMatchesRow.holds Tryd.pinned (OpenSpec.ofChange regAllocMatchesWrong)

/-- 'fullinglaw34.RegAllocSymmetric': WHATEVER THE INPUT: true; the input reads as it did. -/
def regAllocSymmetricSpec : ChangeSpec := { name := "regAllocSymmetric", fn := fun _ => fun
  | [d1, d2] => { results := [.lit (.bool true)], args := [d1, d2] }
  | _ => none }
def regAllocSymmetricRow : OpenClaim := { program := "ytknafdcgpaejlaadoor", sum := "c829f1b69b4568ffb78e95e1ad25f0c8ac4fa3e645bbee7b015752179b65a75e", func := "fulling/fullinglaw34.RegAllocSymmetric", spec := "regAllocSymmetric", unfollowed := true, recurses := true, named := ["fulling/machine.table"], apart := false, laid := [("fulling/machine.table", laid_fulling_machine_table)] }
def RegAllocSymmetricSaid : Prop := regAllocSymmetricRow.holds Tryd.pinned (OpenSpec.ofChange regAllocSymmetricSpec)

/-- ITS FALSE NEIGHBOUR: 'it returns false'. Refute it at one input. -/
def regAllocSymmetricWrong : ChangeSpec := { name := "regAllocSymmetric", fn := fun _ => fun
  | [d1, d2] => { results := [.lit (.bool false)], args := [d1, d2] }
  | _ => none }
def RegAllocSymmetricWrongFalsely : Prop := regAllocSymmetricRow.holds Tryd.pinned (OpenSpec.ofChange regAllocSymmetricWrong)

/-- 'fullinglaw34.RegAllocDisjoint': WHATEVER THE INPUT: true; the input reads as it did. -/
def regAllocDisjointSpec : ChangeSpec := { name := "regAllocDisjoint", fn := fun _ => fun
  | [d1, d2] => { results := [.lit (.bool true)], args := [d1, d2] }
  | _ => none }
def regAllocDisjointRow : OpenClaim := { program := "ytknafdcgpaejlaadoor", sum := "c829f1b69b4568ffb78e95e1ad25f0c8ac4fa3e645bbee7b015752179b65a75e", func := "fulling/fullinglaw34.RegAllocDisjoint", spec := "regAllocDisjoint", unfollowed := true, recurses := true, named := ["fulling/machine.table"], apart := false, laid := [("fulling/machine.table", laid_fulling_machine_table)] }
def RegAllocDisjointSaid : Prop := regAllocDisjointRow.holds Tryd.pinned (OpenSpec.ofChange regAllocDisjointSpec)

/-- ITS FALSE NEIGHBOUR: 'it returns false'. Refute it at one input. -/
def regAllocDisjointWrong : ChangeSpec := { name := "regAllocDisjoint", fn := fun _ => fun
  | [d1, d2] => { results := [.lit (.bool false)], args := [d1, d2] }
  | _ => none }
def RegAllocDisjointWrongFalsely : Prop := regAllocDisjointRow.holds Tryd.pinned (OpenSpec.ofChange regAllocDisjointWrong)

/-- 'fullinglaw34.RegAllocSmall': WHATEVER THE INPUT: true; the input reads as it did. -/
def regAllocSmallSpec : ChangeSpec := { name := "regAllocSmall", fn := fun _ => fun
  | [d] => { results := [.lit (.bool true)], args := [d] }
  | _ => none }
def regAllocSmallRow : OpenClaim := { program := "ytknafdcgpaejlaadoor", sum := "c829f1b69b4568ffb78e95e1ad25f0c8ac4fa3e645bbee7b015752179b65a75e", func := "fulling/fullinglaw34.RegAllocSmall", spec := "regAllocSmall", unfollowed := true, recurses := true, named := ["fulling/machine.table"], apart := false, laid := [("fulling/machine.table", laid_fulling_machine_table)] }
def RegAllocSmallSaid : Prop := regAllocSmallRow.holds Tryd.pinned (OpenSpec.ofChange regAllocSmallSpec)

/-- ITS FALSE NEIGHBOUR: 'it returns false'. Refute it at one input. -/
def regAllocSmallWrong : ChangeSpec := { name := "regAllocSmall", fn := fun _ => fun
  | [d] => { results := [.lit (.bool false)], args := [d] }
  | _ => none }
def RegAllocSmallWrongFalsely : Prop := regAllocSmallRow.holds Tryd.pinned (OpenSpec.ofChange regAllocSmallWrong)

/-- 'fullinglaw34.RegAllocUninitialized': WHATEVER THE INPUT: true; the input reads as it did. -/
def regAllocUninitializedSpec : ChangeSpec := { name := "regAllocUninitialized", fn := fun _ => fun
  | [d1, d2, d3] => { results := [.lit (.bool true)], args := [d1, d2, d3] }
  | _ => none }
def regAllocUninitializedRow : OpenClaim := { program := "ytknafdcgpaejlaadoor", sum := "c829f1b69b4568ffb78e95e1ad25f0c8ac4fa3e645bbee7b015752179b65a75e", func := "fulling/fullinglaw34.RegAllocUninitialized", spec := "regAllocUninitialized", unfollowed := true, recurses := true, named := ["fulling/machine.table"], apart := false, laid := [("fulling/machine.table", laid_fulling_machine_table)] }
def RegAllocUninitializedSaid : Prop := regAllocUninitializedRow.holds Tryd.pinned (OpenSpec.ofChange regAllocUninitializedSpec)

/-- ITS FALSE NEIGHBOUR: 'it returns false'. Refute it at one input. -/
def regAllocUninitializedWrong : ChangeSpec := { name := "regAllocUninitialized", fn := fun _ => fun
  | [d1, d2, d3] => { results := [.lit (.bool false)], args := [d1, d2, d3] }
  | _ => none }
def RegAllocUninitializedWrongFalsely : Prop := regAllocUninitializedRow.holds Tryd.pinned (OpenSpec.ofChange regAllocUninitializedWrong)

/-- 'fullinglaw35.AllocCheckMatches': WHATEVER THE INPUT: true; the input reads as it did. -/
def allocCheckMatchesSpec : ChangeSpec := { name := "allocCheckMatches", fn := fun _ => fun
  | [d1, d2, d3, d4, d5, d6, d7, d8] => { results := [.lit (.bool true)], args := [d1, d2, d3, d4, d5, d6, d7, d8] }
  | _ => none }
def allocCheckMatchesRow : OpenClaim := { program := "ytknafdcgpaejlaadoor", sum := "c829f1b69b4568ffb78e95e1ad25f0c8ac4fa3e645bbee7b015752179b65a75e", func := "fulling/fullinglaw35.AllocCheckMatches", spec := "allocCheckMatches", unfollowed := true, recurses := true, named := ["fulling/machine.table"], apart := false, laid := [("fulling/machine.table", laid_fulling_machine_table)] }
def AllocCheckMatchesSaid : Prop := allocCheckMatchesRow.holds Tryd.pinned (OpenSpec.ofChange allocCheckMatchesSpec)

/-- ITS FALSE NEIGHBOUR: 'it returns false'. Refute it at one input. -/
def allocCheckMatchesWrong : ChangeSpec := { name := "allocCheckMatches", fn := fun _ => fun
  | [d1, d2, d3, d4, d5, d6, d7, d8] => { results := [.lit (.bool false)], args := [d1, d2, d3, d4, d5, d6, d7, d8] }
  | _ => none }
def AllocCheckMatchesWrongFalsely : Prop := allocCheckMatchesRow.holds Tryd.pinned (OpenSpec.ofChange allocCheckMatchesWrong)

/-- 'fullinglaw35.AllocCheckInvalid': WHATEVER THE INPUT: true; the input reads as it did. -/
def allocCheckInvalidSpec : ChangeSpec := { name := "allocCheckInvalid", fn := fun _ => fun
  | [d1, d2, d3, d4, d5] => { results := [.lit (.bool true)], args := [d1, d2, d3, d4, d5] }
  | _ => none }
def allocCheckInvalidRow : OpenClaim := { program := "ytknafdcgpaejlaadoor", sum := "c829f1b69b4568ffb78e95e1ad25f0c8ac4fa3e645bbee7b015752179b65a75e", func := "fulling/fullinglaw35.AllocCheckInvalid", spec := "allocCheckInvalid", unfollowed := true, recurses := true, named := ["fulling/machine.table"], apart := false, laid := [("fulling/machine.table", laid_fulling_machine_table)] }
def AllocCheckInvalidSaid : Prop := allocCheckInvalidRow.holds Tryd.pinned (OpenSpec.ofChange allocCheckInvalidSpec)

/-- ITS FALSE NEIGHBOUR: 'it returns false'. Refute it at one input. -/
def allocCheckInvalidWrong : ChangeSpec := { name := "allocCheckInvalid", fn := fun _ => fun
  | [d1, d2, d3, d4, d5] => { results := [.lit (.bool false)], args := [d1, d2, d3, d4, d5] }
  | _ => none }
def AllocCheckInvalidWrongFalsely : Prop := allocCheckInvalidRow.holds Tryd.pinned (OpenSpec.ofChange allocCheckInvalidWrong)

/-- 'fullinglaw35.AllocCheckAccepts': WHATEVER THE INPUT: true; the input reads as it did. -/
def allocCheckAcceptsSpec : ChangeSpec := { name := "allocCheckAccepts", fn := fun _ => fun
  | [d1, d2] => { results := [.lit (.bool true)], args := [d1, d2] }
  | _ => none }
def allocCheckAcceptsRow : OpenClaim := { program := "ytknafdcgpaejlaadoor", sum := "c829f1b69b4568ffb78e95e1ad25f0c8ac4fa3e645bbee7b015752179b65a75e", func := "fulling/fullinglaw35.AllocCheckAccepts", spec := "allocCheckAccepts", unfollowed := true, recurses := true, named := ["fulling/machine.table"], apart := false, laid := [("fulling/machine.table", laid_fulling_machine_table)] }
def AllocCheckAcceptsSaid : Prop := allocCheckAcceptsRow.holds Tryd.pinned (OpenSpec.ofChange allocCheckAcceptsSpec)

/-- ITS FALSE NEIGHBOUR: 'it returns false'. Refute it at one input. -/
def allocCheckAcceptsWrong : ChangeSpec := { name := "allocCheckAccepts", fn := fun _ => fun
  | [d1, d2] => { results := [.lit (.bool false)], args := [d1, d2] }
  | _ => none }
def AllocCheckAcceptsWrongFalsely : Prop := allocCheckAcceptsRow.holds Tryd.pinned (OpenSpec.ofChange allocCheckAcceptsWrong)

/-- 'fullinglaw35.AllocCheckConflict': WHATEVER THE INPUT: true; the input reads as it did. -/
def allocCheckConflictSpec : ChangeSpec := { name := "allocCheckConflict", fn := fun _ => fun
  | [d1, d2, d3, d4] => { results := [.lit (.bool true)], args := [d1, d2, d3, d4] }
  | _ => none }
def allocCheckConflictRow : OpenClaim := { program := "ytknafdcgpaejlaadoor", sum := "c829f1b69b4568ffb78e95e1ad25f0c8ac4fa3e645bbee7b015752179b65a75e", func := "fulling/fullinglaw35.AllocCheckConflict", spec := "allocCheckConflict", unfollowed := true, recurses := true, named := ["fulling/machine.table"], apart := false, laid := [("fulling/machine.table", laid_fulling_machine_table)] }
def AllocCheckConflictSaid : Prop := allocCheckConflictRow.holds Tryd.pinned (OpenSpec.ofChange allocCheckConflictSpec)

/-- ITS FALSE NEIGHBOUR: 'it returns false'. Refute it at one input. -/
def allocCheckConflictWrong : ChangeSpec := { name := "allocCheckConflict", fn := fun _ => fun
  | [d1, d2, d3, d4] => { results := [.lit (.bool false)], args := [d1, d2, d3, d4] }
  | _ => none }
def AllocCheckConflictWrongFalsely : Prop := allocCheckConflictRow.holds Tryd.pinned (OpenSpec.ofChange allocCheckConflictWrong)

/-- 'fullinglaw35.AllocCheckMissing': WHATEVER THE INPUT: true; the input reads as it did. -/
def allocCheckMissingSpec : ChangeSpec := { name := "allocCheckMissing", fn := fun _ => fun
  | [d1, d2, d3] => { results := [.lit (.bool true)], args := [d1, d2, d3] }
  | _ => none }
def allocCheckMissingRow : OpenClaim := { program := "ytknafdcgpaejlaadoor", sum := "c829f1b69b4568ffb78e95e1ad25f0c8ac4fa3e645bbee7b015752179b65a75e", func := "fulling/fullinglaw35.AllocCheckMissing", spec := "allocCheckMissing", unfollowed := true, recurses := true, named := ["fulling/machine.table"], apart := false, laid := [("fulling/machine.table", laid_fulling_machine_table)] }
def AllocCheckMissingSaid : Prop := allocCheckMissingRow.holds Tryd.pinned (OpenSpec.ofChange allocCheckMissingSpec)

/-- ITS FALSE NEIGHBOUR: 'it returns false'. Refute it at one input. -/
def allocCheckMissingWrong : ChangeSpec := { name := "allocCheckMissing", fn := fun _ => fun
  | [d1, d2, d3] => { results := [.lit (.bool false)], args := [d1, d2, d3] }
  | _ => none }
def AllocCheckMissingWrongFalsely : Prop := allocCheckMissingRow.holds Tryd.pinned (OpenSpec.ofChange allocCheckMissingWrong)

/-- 'fullinglaw36.LayoutExpand': WHATEVER THE INPUT: true; the input reads as it did. -/
def layoutExpandSpec : ChangeSpec := { name := "layoutExpand", fn := fun _ => fun
  | [d1, d2, d3, d4, d5, d6] => { results := [.lit (.bool true)], args := [d1, d2, d3, d4, d5, d6] }
  | _ => none }
def layoutExpandRow : OpenClaim := { program := "ytknafdcgpaejlaadoor", sum := "c829f1b69b4568ffb78e95e1ad25f0c8ac4fa3e645bbee7b015752179b65a75e", func := "fulling/fullinglaw36.LayoutExpand", spec := "layoutExpand", unfollowed := true, recurses := true, named := ["fulling/machine.table"], apart := false, laid := [("fulling/machine.table", laid_fulling_machine_table)] }
def LayoutExpandSaid : Prop := layoutExpandRow.holds Tryd.pinned (OpenSpec.ofChange layoutExpandSpec)

/-- ITS FALSE NEIGHBOUR: 'it returns false'. Refute it at one input. -/
def layoutExpandWrong : ChangeSpec := { name := "layoutExpand", fn := fun _ => fun
  | [d1, d2, d3, d4, d5, d6] => { results := [.lit (.bool false)], args := [d1, d2, d3, d4, d5, d6] }
  | _ => none }
def LayoutExpandWrongFalsely : Prop := layoutExpandRow.holds Tryd.pinned (OpenSpec.ofChange layoutExpandWrong)

/- THE SECOND FORM. 'bulk': how many values and letters a reading holds, each counted each time it is reached (what is shared counts as often as it is met; a slice's spare places count too). A statement '..UptoSaid' is the law's where the arguments, and the package variables that the reading takes, are together of bulk at most 1048576: NARROWER than '..Said'. Prove '..Said' where nothing that the law and all that it calls make is longer than what came in: it says more and counts as full. Else prove '..UptoSaid'. A law counts once. -/
mutual
def uptoBulk {H : Type} : DataW H → Nat
  | .lit (.string bytes) => bytes.length + 1
  | .lit _ => 1
  | .nil => 1
  | .ptr d => uptoBulk d + 1
  | .slice elems spare => uptoBulkAll elems + uptoBulkAll spare + 1
  | .agg parts => uptoBulkAll parts + 1
  | .iface _ d => uptoBulk d + 1
  | .map entries => uptoBulkEntries entries + 1
  | .held _ => 1
def uptoBulkAll {H : Type} : List (DataW H) → Nat
  | [] => 0
  | d :: r => uptoBulk d + uptoBulkAll r
def uptoBulkEntries {H : Type} : List (Lit × DataW H) → Nat
  | [] => 0
  | x :: r => uptoBulkEntry x + uptoBulkEntries r
def uptoBulkEntry {H : Type} : Lit × DataW H → Nat
  | (.string bytes, d) => bytes.length + uptoBulk d + 1
  | (_, d) => uptoBulk d + 1
 end
def uptoSmall : (H : Type) → List (DataW H) → Bool := fun _ ds => decide (uptoBulkAll ds ≤ 1048576)
def OpenSpec.upto (s : _root_.Go.ChangeSpec) : _root_.Go.OpenSpec := { _root_.Go.OpenSpec.ofChange s with cond := some uptoSmall }

/-- 'fullinglaw34.RegAllocGraph', WHERE WHAT IT READS IS OF BULK AT MOST 1048576: true; the input reads as it did. -/
def regAllocGraphUptoRow : OpenClaim := { program := "ytknafdcgpaejlaadoor", sum := "c829f1b69b4568ffb78e95e1ad25f0c8ac4fa3e645bbee7b015752179b65a75e", func := "fulling/fullinglaw34.RegAllocGraph", spec := "regAllocGraph", unfollowed := true, recurses := true, named := ["fulling/machine.table"], apart := false, laid := [("fulling/machine.table", laid_fulling_machine_table)], narrowed := true }
def RegAllocGraphUptoSaid : Prop := regAllocGraphUptoRow.holds Tryd.pinned (OpenSpec.upto regAllocGraphSpec)

/-- 'fullinglaw34.RegAllocMatches', WHERE WHAT IT READS IS OF BULK AT MOST 1048576: true; the input reads as it did. -/
def regAllocMatchesUptoRow : OpenClaim := { program := "ytknafdcgpaejlaadoor", sum := "c829f1b69b4568ffb78e95e1ad25f0c8ac4fa3e645bbee7b015752179b65a75e", func := "fulling/fullinglaw34.RegAllocMatches", spec := "regAllocMatches", unfollowed := true, recurses := true, named := ["fulling/machine.table"], apart := false, laid := [("fulling/machine.table", laid_fulling_machine_table)], narrowed := true }
def RegAllocMatchesUptoSaid : Prop := regAllocMatchesUptoRow.holds Tryd.pinned (OpenSpec.upto regAllocMatchesSpec)

/-- 'fullinglaw34.RegAllocSymmetric', WHERE WHAT IT READS IS OF BULK AT MOST 1048576: true; the input reads as it did. -/
def regAllocSymmetricUptoRow : OpenClaim := { program := "ytknafdcgpaejlaadoor", sum := "c829f1b69b4568ffb78e95e1ad25f0c8ac4fa3e645bbee7b015752179b65a75e", func := "fulling/fullinglaw34.RegAllocSymmetric", spec := "regAllocSymmetric", unfollowed := true, recurses := true, named := ["fulling/machine.table"], apart := false, laid := [("fulling/machine.table", laid_fulling_machine_table)], narrowed := true }
def RegAllocSymmetricUptoSaid : Prop := regAllocSymmetricUptoRow.holds Tryd.pinned (OpenSpec.upto regAllocSymmetricSpec)

/-- 'fullinglaw34.RegAllocDisjoint', WHERE WHAT IT READS IS OF BULK AT MOST 1048576: true; the input reads as it did. -/
def regAllocDisjointUptoRow : OpenClaim := { program := "ytknafdcgpaejlaadoor", sum := "c829f1b69b4568ffb78e95e1ad25f0c8ac4fa3e645bbee7b015752179b65a75e", func := "fulling/fullinglaw34.RegAllocDisjoint", spec := "regAllocDisjoint", unfollowed := true, recurses := true, named := ["fulling/machine.table"], apart := false, laid := [("fulling/machine.table", laid_fulling_machine_table)], narrowed := true }
def RegAllocDisjointUptoSaid : Prop := regAllocDisjointUptoRow.holds Tryd.pinned (OpenSpec.upto regAllocDisjointSpec)

/-- 'fullinglaw34.RegAllocSmall', WHERE WHAT IT READS IS OF BULK AT MOST 1048576: true; the input reads as it did. -/
def regAllocSmallUptoRow : OpenClaim := { program := "ytknafdcgpaejlaadoor", sum := "c829f1b69b4568ffb78e95e1ad25f0c8ac4fa3e645bbee7b015752179b65a75e", func := "fulling/fullinglaw34.RegAllocSmall", spec := "regAllocSmall", unfollowed := true, recurses := true, named := ["fulling/machine.table"], apart := false, laid := [("fulling/machine.table", laid_fulling_machine_table)], narrowed := true }
def RegAllocSmallUptoSaid : Prop := regAllocSmallUptoRow.holds Tryd.pinned (OpenSpec.upto regAllocSmallSpec)

/-- 'fullinglaw34.RegAllocUninitialized', WHERE WHAT IT READS IS OF BULK AT MOST 1048576: true; the input reads as it did. -/
def regAllocUninitializedUptoRow : OpenClaim := { program := "ytknafdcgpaejlaadoor", sum := "c829f1b69b4568ffb78e95e1ad25f0c8ac4fa3e645bbee7b015752179b65a75e", func := "fulling/fullinglaw34.RegAllocUninitialized", spec := "regAllocUninitialized", unfollowed := true, recurses := true, named := ["fulling/machine.table"], apart := false, laid := [("fulling/machine.table", laid_fulling_machine_table)], narrowed := true }
def RegAllocUninitializedUptoSaid : Prop := regAllocUninitializedUptoRow.holds Tryd.pinned (OpenSpec.upto regAllocUninitializedSpec)

/-- 'fullinglaw35.AllocCheckMatches', WHERE WHAT IT READS IS OF BULK AT MOST 1048576: true; the input reads as it did. -/
def allocCheckMatchesUptoRow : OpenClaim := { program := "ytknafdcgpaejlaadoor", sum := "c829f1b69b4568ffb78e95e1ad25f0c8ac4fa3e645bbee7b015752179b65a75e", func := "fulling/fullinglaw35.AllocCheckMatches", spec := "allocCheckMatches", unfollowed := true, recurses := true, named := ["fulling/machine.table"], apart := false, laid := [("fulling/machine.table", laid_fulling_machine_table)], narrowed := true }
def AllocCheckMatchesUptoSaid : Prop := allocCheckMatchesUptoRow.holds Tryd.pinned (OpenSpec.upto allocCheckMatchesSpec)

/-- 'fullinglaw35.AllocCheckInvalid', WHERE WHAT IT READS IS OF BULK AT MOST 1048576: true; the input reads as it did. -/
def allocCheckInvalidUptoRow : OpenClaim := { program := "ytknafdcgpaejlaadoor", sum := "c829f1b69b4568ffb78e95e1ad25f0c8ac4fa3e645bbee7b015752179b65a75e", func := "fulling/fullinglaw35.AllocCheckInvalid", spec := "allocCheckInvalid", unfollowed := true, recurses := true, named := ["fulling/machine.table"], apart := false, laid := [("fulling/machine.table", laid_fulling_machine_table)], narrowed := true }
def AllocCheckInvalidUptoSaid : Prop := allocCheckInvalidUptoRow.holds Tryd.pinned (OpenSpec.upto allocCheckInvalidSpec)

/-- 'fullinglaw35.AllocCheckAccepts', WHERE WHAT IT READS IS OF BULK AT MOST 1048576: true; the input reads as it did. -/
def allocCheckAcceptsUptoRow : OpenClaim := { program := "ytknafdcgpaejlaadoor", sum := "c829f1b69b4568ffb78e95e1ad25f0c8ac4fa3e645bbee7b015752179b65a75e", func := "fulling/fullinglaw35.AllocCheckAccepts", spec := "allocCheckAccepts", unfollowed := true, recurses := true, named := ["fulling/machine.table"], apart := false, laid := [("fulling/machine.table", laid_fulling_machine_table)], narrowed := true }
def AllocCheckAcceptsUptoSaid : Prop := allocCheckAcceptsUptoRow.holds Tryd.pinned (OpenSpec.upto allocCheckAcceptsSpec)

/-- 'fullinglaw35.AllocCheckConflict', WHERE WHAT IT READS IS OF BULK AT MOST 1048576: true; the input reads as it did. -/
def allocCheckConflictUptoRow : OpenClaim := { program := "ytknafdcgpaejlaadoor", sum := "c829f1b69b4568ffb78e95e1ad25f0c8ac4fa3e645bbee7b015752179b65a75e", func := "fulling/fullinglaw35.AllocCheckConflict", spec := "allocCheckConflict", unfollowed := true, recurses := true, named := ["fulling/machine.table"], apart := false, laid := [("fulling/machine.table", laid_fulling_machine_table)], narrowed := true }
def AllocCheckConflictUptoSaid : Prop := allocCheckConflictUptoRow.holds Tryd.pinned (OpenSpec.upto allocCheckConflictSpec)

/-- 'fullinglaw35.AllocCheckMissing', WHERE WHAT IT READS IS OF BULK AT MOST 1048576: true; the input reads as it did. -/
def allocCheckMissingUptoRow : OpenClaim := { program := "ytknafdcgpaejlaadoor", sum := "c829f1b69b4568ffb78e95e1ad25f0c8ac4fa3e645bbee7b015752179b65a75e", func := "fulling/fullinglaw35.AllocCheckMissing", spec := "allocCheckMissing", unfollowed := true, recurses := true, named := ["fulling/machine.table"], apart := false, laid := [("fulling/machine.table", laid_fulling_machine_table)], narrowed := true }
def AllocCheckMissingUptoSaid : Prop := allocCheckMissingUptoRow.holds Tryd.pinned (OpenSpec.upto allocCheckMissingSpec)

/-- 'fullinglaw36.LayoutExpand', WHERE WHAT IT READS IS OF BULK AT MOST 1048576: true; the input reads as it did. -/
def layoutExpandUptoRow : OpenClaim := { program := "ytknafdcgpaejlaadoor", sum := "c829f1b69b4568ffb78e95e1ad25f0c8ac4fa3e645bbee7b015752179b65a75e", func := "fulling/fullinglaw36.LayoutExpand", spec := "layoutExpand", unfollowed := true, recurses := true, named := ["fulling/machine.table"], apart := false, laid := [("fulling/machine.table", laid_fulling_machine_table)], narrowed := true }
def LayoutExpandUptoSaid : Prop := layoutExpandUptoRow.holds Tryd.pinned (OpenSpec.upto layoutExpandSpec)

end Rows
end Go.Proofs.YtknafdcgpaejlaaDoor
