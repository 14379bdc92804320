/-
  DERIVED. GIVEN WITH THE SEED: THE CARDS: each row of YtgdggmlghemecaaDoorRows.lean that lists a variable, with what it lists TIED to the program's text (the seventh form; the later family's looks); each row that meets fmt, with fmt's text TOLD by the authors' own Lean function (tested against real Go, not proved from fmt's source: count such statements apart). THE CARD IS WHAT COUNTS. Prove the row's statement (the work); the ties are given (YtgdggmlghemecaaDoorTie.lean); close each card by the builder's one call (the guide's Derived/Test/ToyasCard.lean, 'card_holds'). Laid BY PROGRAM, IN A SANDBOX (cutbox-door.mjs). By AI agents, Wed Nov 11 2026. No macro, syntax, notation, axiom, sorry.
-/
import Derived.Test.YtgdggmlghemecaaDoorRows
import GoSem.ClaimSeven
namespace Go.Proofs.YtgdggmlghemecaaDoor
namespace Rows

/-- THE TIED CARD OF 'fullinglaw35.AllocCheckMatches'. -/
def allocCheckMatchesCard : Claim7 := { stood := { row := allocCheckMatchesRow, standIns := [], harness := (true, "e970393bfb0b5d680155de55f5dd2066980fe66df4944e52c8e7b8b69a21964a"), looks := false }, kinds := [], alts := [], laidByText := true, laidKinds := [.data], laidTests := true, laidLooks := .later }
def AllocCheckMatchesCardSaid : Prop := Claim7.holds Tryd.pinned (.plain (OpenSpec.ofChange allocCheckMatchesSpec)) allocCheckMatchesCard

/-- THE SECOND FORM's CARD OF 'fullinglaw35.AllocCheckMatches'. -/
def allocCheckMatchesUptoCard : Claim7 := { stood := { row := allocCheckMatchesUptoRow, standIns := [], harness := (true, "e970393bfb0b5d680155de55f5dd2066980fe66df4944e52c8e7b8b69a21964a"), looks := false }, kinds := [], alts := [], laidByText := true, laidKinds := [.data], laidTests := true, laidLooks := .later }
def AllocCheckMatchesUptoCardSaid : Prop := Claim7.holds Tryd.pinned (.plain (OpenSpec.upto allocCheckMatchesSpec)) allocCheckMatchesUptoCard
end Rows
end Go.Proofs.YtgdggmlghemecaaDoor
