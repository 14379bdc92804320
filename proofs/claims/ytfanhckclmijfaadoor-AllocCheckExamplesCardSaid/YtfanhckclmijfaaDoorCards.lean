/-
  DERIVED. GIVEN WITH THE SEED: THE CARDS: each row of YtfanhckclmijfaaDoorRows.lean that lists a variable, with what it lists TIED to the program's text (the seventh form; the later family's looks); each row that meets fmt, with fmt's text TOLD by the authors' own Lean function (tested against real Go, not proved from fmt's source: count such statements apart). THE CARD IS WHAT COUNTS. Prove the row's statement (the work); the ties are given (YtfanhckclmijfaaDoorTie.lean); close each card by the builder's one call (the guide's Derived/Test/ToyasCard.lean, 'card_holds'). Laid BY PROGRAM, IN A SANDBOX (cutbox-door.mjs). By AI agents, Wed Nov 11 2026. No macro, syntax, notation, axiom, sorry.
-/
import Derived.Test.YtfanhckclmijfaaDoorRows
import GoSem.ClaimSeven
namespace Go.Proofs.YtfanhckclmijfaaDoor
namespace Rows

/-- THE TIED CARD OF 'fullinglaw33.LivenessExamples'. -/
def livenessExamplesCard : Claim7 := { stood := { row := livenessExamplesRow, standIns := [], harness := (true, "07f9a7c1714f92ad0dec062f6a0c146360394df35e6ee68b9fdd5b930ba118e0"), looks := false }, kinds := [], alts := [], laidByText := true, laidKinds := [.data], laidTests := true, laidLooks := .later }
def LivenessExamplesCardSaid : Prop := Claim7.holds Tryd.pinned (.plain (OpenSpec.ofChange livenessExamplesSpec)) livenessExamplesCard

/-- THE TIED CARD OF 'fullinglaw32.VCodeExamples'. -/
def vCodeExamplesCard : Claim7 := { stood := { row := vCodeExamplesRow, standIns := [], harness := (true, "07f9a7c1714f92ad0dec062f6a0c146360394df35e6ee68b9fdd5b930ba118e0"), looks := false }, kinds := [], alts := [], laidByText := true, laidKinds := [.data], laidTests := true, laidLooks := .later }
def VCodeExamplesCardSaid : Prop := Claim7.holds Tryd.pinned (.plain (OpenSpec.ofChange vCodeExamplesSpec)) vCodeExamplesCard

/-- THE TIED CARD OF 'fullinglaw34.RegAllocExamples'. -/
def regAllocExamplesCard : Claim7 := { stood := { row := regAllocExamplesRow, standIns := [], harness := (true, "07f9a7c1714f92ad0dec062f6a0c146360394df35e6ee68b9fdd5b930ba118e0"), looks := false }, kinds := [], alts := [], laidByText := true, laidKinds := [.data], laidTests := true, laidLooks := .later }
def RegAllocExamplesCardSaid : Prop := Claim7.holds Tryd.pinned (.plain (OpenSpec.ofChange regAllocExamplesSpec)) regAllocExamplesCard

/-- THE TIED CARD OF 'fullinglaw35.AllocCheckExamples'. -/
def allocCheckExamplesCard : Claim7 := { stood := { row := allocCheckExamplesRow, standIns := [], harness := (true, "07f9a7c1714f92ad0dec062f6a0c146360394df35e6ee68b9fdd5b930ba118e0"), looks := false }, kinds := [], alts := [], laidByText := true, laidKinds := [.data], laidTests := true, laidLooks := .later }
def AllocCheckExamplesCardSaid : Prop := Claim7.holds Tryd.pinned (.plain (OpenSpec.ofChange allocCheckExamplesSpec)) allocCheckExamplesCard

/-- THE TIED CARD OF 'fullinglaw36.LayoutExamples'. -/
def layoutExamplesCard : Claim7 := { stood := { row := layoutExamplesRow, standIns := [], harness := (true, "07f9a7c1714f92ad0dec062f6a0c146360394df35e6ee68b9fdd5b930ba118e0"), looks := false }, kinds := [], alts := [], laidByText := true, laidKinds := [.data], laidTests := true, laidLooks := .later }
def LayoutExamplesCardSaid : Prop := Claim7.holds Tryd.pinned (.plain (OpenSpec.ofChange layoutExamplesSpec)) layoutExamplesCard

/-- THE SECOND FORM's CARD OF 'fullinglaw33.LivenessExamples'. -/
def livenessExamplesUptoCard : Claim7 := { stood := { row := livenessExamplesUptoRow, standIns := [], harness := (true, "07f9a7c1714f92ad0dec062f6a0c146360394df35e6ee68b9fdd5b930ba118e0"), looks := false }, kinds := [], alts := [], laidByText := true, laidKinds := [.data], laidTests := true, laidLooks := .later }
def LivenessExamplesUptoCardSaid : Prop := Claim7.holds Tryd.pinned (.plain (OpenSpec.upto livenessExamplesSpec)) livenessExamplesUptoCard

/-- THE SECOND FORM's CARD OF 'fullinglaw32.VCodeExamples'. -/
def vCodeExamplesUptoCard : Claim7 := { stood := { row := vCodeExamplesUptoRow, standIns := [], harness := (true, "07f9a7c1714f92ad0dec062f6a0c146360394df35e6ee68b9fdd5b930ba118e0"), looks := false }, kinds := [], alts := [], laidByText := true, laidKinds := [.data], laidTests := true, laidLooks := .later }
def VCodeExamplesUptoCardSaid : Prop := Claim7.holds Tryd.pinned (.plain (OpenSpec.upto vCodeExamplesSpec)) vCodeExamplesUptoCard

/-- THE SECOND FORM's CARD OF 'fullinglaw34.RegAllocExamples'. -/
def regAllocExamplesUptoCard : Claim7 := { stood := { row := regAllocExamplesUptoRow, standIns := [], harness := (true, "07f9a7c1714f92ad0dec062f6a0c146360394df35e6ee68b9fdd5b930ba118e0"), looks := false }, kinds := [], alts := [], laidByText := true, laidKinds := [.data], laidTests := true, laidLooks := .later }
def RegAllocExamplesUptoCardSaid : Prop := Claim7.holds Tryd.pinned (.plain (OpenSpec.upto regAllocExamplesSpec)) regAllocExamplesUptoCard

/-- THE SECOND FORM's CARD OF 'fullinglaw35.AllocCheckExamples'. -/
def allocCheckExamplesUptoCard : Claim7 := { stood := { row := allocCheckExamplesUptoRow, standIns := [], harness := (true, "07f9a7c1714f92ad0dec062f6a0c146360394df35e6ee68b9fdd5b930ba118e0"), looks := false }, kinds := [], alts := [], laidByText := true, laidKinds := [.data], laidTests := true, laidLooks := .later }
def AllocCheckExamplesUptoCardSaid : Prop := Claim7.holds Tryd.pinned (.plain (OpenSpec.upto allocCheckExamplesSpec)) allocCheckExamplesUptoCard

/-- THE SECOND FORM's CARD OF 'fullinglaw36.LayoutExamples'. -/
def layoutExamplesUptoCard : Claim7 := { stood := { row := layoutExamplesUptoRow, standIns := [], harness := (true, "07f9a7c1714f92ad0dec062f6a0c146360394df35e6ee68b9fdd5b930ba118e0"), looks := false }, kinds := [], alts := [], laidByText := true, laidKinds := [.data], laidTests := true, laidLooks := .later }
def LayoutExamplesUptoCardSaid : Prop := Claim7.holds Tryd.pinned (.plain (OpenSpec.upto layoutExamplesSpec)) layoutExamplesUptoCard
end Rows
end Go.Proofs.YtfanhckclmijfaaDoor
