/-
  DERIVED. GIVEN WITH THE SEED: THE CARDS: each row of YtknafdcgpaejlaaDoorRows.lean that lists a variable, with what it lists TIED to the program's text (the seventh form; the later family's looks); each row that meets fmt, with fmt's text TOLD by the authors' own Lean function (tested against real Go, not proved from fmt's source: count such statements apart). THE CARD IS WHAT COUNTS. Prove the row's statement (the work); the ties are given (YtknafdcgpaejlaaDoorTie.lean); close each card by the builder's one call (the guide's Derived/Test/ToyasCard.lean, 'card_holds'). Laid BY PROGRAM, IN A SANDBOX (cutbox-door.mjs). By AI agents, Wed Nov 11 2026. No macro, syntax, notation, axiom, sorry.
-/
import Derived.Test.YtknafdcgpaejlaaDoorRows
import GoSem.ClaimSeven
namespace Go.Proofs.YtknafdcgpaejlaaDoor
namespace Rows

/-- THE TIED CARD OF 'fullinglaw34.RegAllocGraph'. -/
def regAllocGraphCard : Claim7 := { stood := { row := regAllocGraphRow, standIns := [], harness := (true, "4fe7b087c5889aed11f0af1df200db6fe6c893378ab94fcc9f8de9ba32aab275"), looks := false }, kinds := [], alts := [], laidByText := true, laidKinds := [.data], laidTests := true, laidLooks := .later }
def RegAllocGraphCardSaid : Prop := Claim7.holds Tryd.pinned (.plain (OpenSpec.ofChange regAllocGraphSpec)) regAllocGraphCard

/-- THE TIED CARD OF 'fullinglaw34.RegAllocMatches'. -/
def regAllocMatchesCard : Claim7 := { stood := { row := regAllocMatchesRow, standIns := [], harness := (true, "4fe7b087c5889aed11f0af1df200db6fe6c893378ab94fcc9f8de9ba32aab275"), looks := false }, kinds := [], alts := [], laidByText := true, laidKinds := [.data], laidTests := true, laidLooks := .later }
def RegAllocMatchesCardSaid : Prop := Claim7.holds Tryd.pinned (.plain (OpenSpec.ofChange regAllocMatchesSpec)) regAllocMatchesCard

/-- THE TIED CARD OF 'fullinglaw34.RegAllocSymmetric'. -/
def regAllocSymmetricCard : Claim7 := { stood := { row := regAllocSymmetricRow, standIns := [], harness := (true, "4fe7b087c5889aed11f0af1df200db6fe6c893378ab94fcc9f8de9ba32aab275"), looks := false }, kinds := [], alts := [], laidByText := true, laidKinds := [.data], laidTests := true, laidLooks := .later }
def RegAllocSymmetricCardSaid : Prop := Claim7.holds Tryd.pinned (.plain (OpenSpec.ofChange regAllocSymmetricSpec)) regAllocSymmetricCard

/-- THE TIED CARD OF 'fullinglaw34.RegAllocDisjoint'. -/
def regAllocDisjointCard : Claim7 := { stood := { row := regAllocDisjointRow, standIns := [], harness := (true, "4fe7b087c5889aed11f0af1df200db6fe6c893378ab94fcc9f8de9ba32aab275"), looks := false }, kinds := [], alts := [], laidByText := true, laidKinds := [.data], laidTests := true, laidLooks := .later }
def RegAllocDisjointCardSaid : Prop := Claim7.holds Tryd.pinned (.plain (OpenSpec.ofChange regAllocDisjointSpec)) regAllocDisjointCard

/-- THE TIED CARD OF 'fullinglaw34.RegAllocSmall'. -/
def regAllocSmallCard : Claim7 := { stood := { row := regAllocSmallRow, standIns := [], harness := (true, "4fe7b087c5889aed11f0af1df200db6fe6c893378ab94fcc9f8de9ba32aab275"), looks := false }, kinds := [], alts := [], laidByText := true, laidKinds := [.data], laidTests := true, laidLooks := .later }
def RegAllocSmallCardSaid : Prop := Claim7.holds Tryd.pinned (.plain (OpenSpec.ofChange regAllocSmallSpec)) regAllocSmallCard

/-- THE TIED CARD OF 'fullinglaw34.RegAllocUninitialized'. -/
def regAllocUninitializedCard : Claim7 := { stood := { row := regAllocUninitializedRow, standIns := [], harness := (true, "4fe7b087c5889aed11f0af1df200db6fe6c893378ab94fcc9f8de9ba32aab275"), looks := false }, kinds := [], alts := [], laidByText := true, laidKinds := [.data], laidTests := true, laidLooks := .later }
def RegAllocUninitializedCardSaid : Prop := Claim7.holds Tryd.pinned (.plain (OpenSpec.ofChange regAllocUninitializedSpec)) regAllocUninitializedCard

/-- THE TIED CARD OF 'fullinglaw35.AllocCheckMatches'. -/
def allocCheckMatchesCard : Claim7 := { stood := { row := allocCheckMatchesRow, standIns := [], harness := (true, "4fe7b087c5889aed11f0af1df200db6fe6c893378ab94fcc9f8de9ba32aab275"), looks := false }, kinds := [], alts := [], laidByText := true, laidKinds := [.data], laidTests := true, laidLooks := .later }
def AllocCheckMatchesCardSaid : Prop := Claim7.holds Tryd.pinned (.plain (OpenSpec.ofChange allocCheckMatchesSpec)) allocCheckMatchesCard

/-- THE TIED CARD OF 'fullinglaw35.AllocCheckInvalid'. -/
def allocCheckInvalidCard : Claim7 := { stood := { row := allocCheckInvalidRow, standIns := [], harness := (true, "4fe7b087c5889aed11f0af1df200db6fe6c893378ab94fcc9f8de9ba32aab275"), looks := false }, kinds := [], alts := [], laidByText := true, laidKinds := [.data], laidTests := true, laidLooks := .later }
def AllocCheckInvalidCardSaid : Prop := Claim7.holds Tryd.pinned (.plain (OpenSpec.ofChange allocCheckInvalidSpec)) allocCheckInvalidCard

/-- THE TIED CARD OF 'fullinglaw35.AllocCheckAccepts'. -/
def allocCheckAcceptsCard : Claim7 := { stood := { row := allocCheckAcceptsRow, standIns := [], harness := (true, "4fe7b087c5889aed11f0af1df200db6fe6c893378ab94fcc9f8de9ba32aab275"), looks := false }, kinds := [], alts := [], laidByText := true, laidKinds := [.data], laidTests := true, laidLooks := .later }
def AllocCheckAcceptsCardSaid : Prop := Claim7.holds Tryd.pinned (.plain (OpenSpec.ofChange allocCheckAcceptsSpec)) allocCheckAcceptsCard

/-- THE TIED CARD OF 'fullinglaw35.AllocCheckConflict'. -/
def allocCheckConflictCard : Claim7 := { stood := { row := allocCheckConflictRow, standIns := [], harness := (true, "4fe7b087c5889aed11f0af1df200db6fe6c893378ab94fcc9f8de9ba32aab275"), looks := false }, kinds := [], alts := [], laidByText := true, laidKinds := [.data], laidTests := true, laidLooks := .later }
def AllocCheckConflictCardSaid : Prop := Claim7.holds Tryd.pinned (.plain (OpenSpec.ofChange allocCheckConflictSpec)) allocCheckConflictCard

/-- THE TIED CARD OF 'fullinglaw35.AllocCheckMissing'. -/
def allocCheckMissingCard : Claim7 := { stood := { row := allocCheckMissingRow, standIns := [], harness := (true, "4fe7b087c5889aed11f0af1df200db6fe6c893378ab94fcc9f8de9ba32aab275"), looks := false }, kinds := [], alts := [], laidByText := true, laidKinds := [.data], laidTests := true, laidLooks := .later }
def AllocCheckMissingCardSaid : Prop := Claim7.holds Tryd.pinned (.plain (OpenSpec.ofChange allocCheckMissingSpec)) allocCheckMissingCard

/-- THE TIED CARD OF 'fullinglaw36.LayoutExpand'. -/
def layoutExpandCard : Claim7 := { stood := { row := layoutExpandRow, standIns := [], harness := (true, "4fe7b087c5889aed11f0af1df200db6fe6c893378ab94fcc9f8de9ba32aab275"), looks := false }, kinds := [], alts := [], laidByText := true, laidKinds := [.data], laidTests := true, laidLooks := .later }
def LayoutExpandCardSaid : Prop := Claim7.holds Tryd.pinned (.plain (OpenSpec.ofChange layoutExpandSpec)) layoutExpandCard

/-- THE SECOND FORM's CARD OF 'fullinglaw34.RegAllocGraph'. -/
def regAllocGraphUptoCard : Claim7 := { stood := { row := regAllocGraphUptoRow, standIns := [], harness := (true, "4fe7b087c5889aed11f0af1df200db6fe6c893378ab94fcc9f8de9ba32aab275"), looks := false }, kinds := [], alts := [], laidByText := true, laidKinds := [.data], laidTests := true, laidLooks := .later }
def RegAllocGraphUptoCardSaid : Prop := Claim7.holds Tryd.pinned (.plain (OpenSpec.upto regAllocGraphSpec)) regAllocGraphUptoCard

/-- THE SECOND FORM's CARD OF 'fullinglaw34.RegAllocMatches'. -/
def regAllocMatchesUptoCard : Claim7 := { stood := { row := regAllocMatchesUptoRow, standIns := [], harness := (true, "4fe7b087c5889aed11f0af1df200db6fe6c893378ab94fcc9f8de9ba32aab275"), looks := false }, kinds := [], alts := [], laidByText := true, laidKinds := [.data], laidTests := true, laidLooks := .later }
def RegAllocMatchesUptoCardSaid : Prop := Claim7.holds Tryd.pinned (.plain (OpenSpec.upto regAllocMatchesSpec)) regAllocMatchesUptoCard

/-- THE SECOND FORM's CARD OF 'fullinglaw34.RegAllocSymmetric'. -/
def regAllocSymmetricUptoCard : Claim7 := { stood := { row := regAllocSymmetricUptoRow, standIns := [], harness := (true, "4fe7b087c5889aed11f0af1df200db6fe6c893378ab94fcc9f8de9ba32aab275"), looks := false }, kinds := [], alts := [], laidByText := true, laidKinds := [.data], laidTests := true, laidLooks := .later }
def RegAllocSymmetricUptoCardSaid : Prop := Claim7.holds Tryd.pinned (.plain (OpenSpec.upto regAllocSymmetricSpec)) regAllocSymmetricUptoCard

/-- THE SECOND FORM's CARD OF 'fullinglaw34.RegAllocDisjoint'. -/
def regAllocDisjointUptoCard : Claim7 := { stood := { row := regAllocDisjointUptoRow, standIns := [], harness := (true, "4fe7b087c5889aed11f0af1df200db6fe6c893378ab94fcc9f8de9ba32aab275"), looks := false }, kinds := [], alts := [], laidByText := true, laidKinds := [.data], laidTests := true, laidLooks := .later }
def RegAllocDisjointUptoCardSaid : Prop := Claim7.holds Tryd.pinned (.plain (OpenSpec.upto regAllocDisjointSpec)) regAllocDisjointUptoCard

/-- THE SECOND FORM's CARD OF 'fullinglaw34.RegAllocSmall'. -/
def regAllocSmallUptoCard : Claim7 := { stood := { row := regAllocSmallUptoRow, standIns := [], harness := (true, "4fe7b087c5889aed11f0af1df200db6fe6c893378ab94fcc9f8de9ba32aab275"), looks := false }, kinds := [], alts := [], laidByText := true, laidKinds := [.data], laidTests := true, laidLooks := .later }
def RegAllocSmallUptoCardSaid : Prop := Claim7.holds Tryd.pinned (.plain (OpenSpec.upto regAllocSmallSpec)) regAllocSmallUptoCard

/-- THE SECOND FORM's CARD OF 'fullinglaw34.RegAllocUninitialized'. -/
def regAllocUninitializedUptoCard : Claim7 := { stood := { row := regAllocUninitializedUptoRow, standIns := [], harness := (true, "4fe7b087c5889aed11f0af1df200db6fe6c893378ab94fcc9f8de9ba32aab275"), looks := false }, kinds := [], alts := [], laidByText := true, laidKinds := [.data], laidTests := true, laidLooks := .later }
def RegAllocUninitializedUptoCardSaid : Prop := Claim7.holds Tryd.pinned (.plain (OpenSpec.upto regAllocUninitializedSpec)) regAllocUninitializedUptoCard

/-- THE SECOND FORM's CARD OF 'fullinglaw35.AllocCheckMatches'. -/
def allocCheckMatchesUptoCard : Claim7 := { stood := { row := allocCheckMatchesUptoRow, standIns := [], harness := (true, "4fe7b087c5889aed11f0af1df200db6fe6c893378ab94fcc9f8de9ba32aab275"), looks := false }, kinds := [], alts := [], laidByText := true, laidKinds := [.data], laidTests := true, laidLooks := .later }
def AllocCheckMatchesUptoCardSaid : Prop := Claim7.holds Tryd.pinned (.plain (OpenSpec.upto allocCheckMatchesSpec)) allocCheckMatchesUptoCard

/-- THE SECOND FORM's CARD OF 'fullinglaw35.AllocCheckInvalid'. -/
def allocCheckInvalidUptoCard : Claim7 := { stood := { row := allocCheckInvalidUptoRow, standIns := [], harness := (true, "4fe7b087c5889aed11f0af1df200db6fe6c893378ab94fcc9f8de9ba32aab275"), looks := false }, kinds := [], alts := [], laidByText := true, laidKinds := [.data], laidTests := true, laidLooks := .later }
def AllocCheckInvalidUptoCardSaid : Prop := Claim7.holds Tryd.pinned (.plain (OpenSpec.upto allocCheckInvalidSpec)) allocCheckInvalidUptoCard

/-- THE SECOND FORM's CARD OF 'fullinglaw35.AllocCheckAccepts'. -/
def allocCheckAcceptsUptoCard : Claim7 := { stood := { row := allocCheckAcceptsUptoRow, standIns := [], harness := (true, "4fe7b087c5889aed11f0af1df200db6fe6c893378ab94fcc9f8de9ba32aab275"), looks := false }, kinds := [], alts := [], laidByText := true, laidKinds := [.data], laidTests := true, laidLooks := .later }
def AllocCheckAcceptsUptoCardSaid : Prop := Claim7.holds Tryd.pinned (.plain (OpenSpec.upto allocCheckAcceptsSpec)) allocCheckAcceptsUptoCard

/-- THE SECOND FORM's CARD OF 'fullinglaw35.AllocCheckConflict'. -/
def allocCheckConflictUptoCard : Claim7 := { stood := { row := allocCheckConflictUptoRow, standIns := [], harness := (true, "4fe7b087c5889aed11f0af1df200db6fe6c893378ab94fcc9f8de9ba32aab275"), looks := false }, kinds := [], alts := [], laidByText := true, laidKinds := [.data], laidTests := true, laidLooks := .later }
def AllocCheckConflictUptoCardSaid : Prop := Claim7.holds Tryd.pinned (.plain (OpenSpec.upto allocCheckConflictSpec)) allocCheckConflictUptoCard

/-- THE SECOND FORM's CARD OF 'fullinglaw35.AllocCheckMissing'. -/
def allocCheckMissingUptoCard : Claim7 := { stood := { row := allocCheckMissingUptoRow, standIns := [], harness := (true, "4fe7b087c5889aed11f0af1df200db6fe6c893378ab94fcc9f8de9ba32aab275"), looks := false }, kinds := [], alts := [], laidByText := true, laidKinds := [.data], laidTests := true, laidLooks := .later }
def AllocCheckMissingUptoCardSaid : Prop := Claim7.holds Tryd.pinned (.plain (OpenSpec.upto allocCheckMissingSpec)) allocCheckMissingUptoCard

/-- THE SECOND FORM's CARD OF 'fullinglaw36.LayoutExpand'. -/
def layoutExpandUptoCard : Claim7 := { stood := { row := layoutExpandUptoRow, standIns := [], harness := (true, "4fe7b087c5889aed11f0af1df200db6fe6c893378ab94fcc9f8de9ba32aab275"), looks := false }, kinds := [], alts := [], laidByText := true, laidKinds := [.data], laidTests := true, laidLooks := .later }
def LayoutExpandUptoCardSaid : Prop := Claim7.holds Tryd.pinned (.plain (OpenSpec.upto layoutExpandSpec)) layoutExpandUptoCard
end Rows
end Go.Proofs.YtknafdcgpaejlaaDoor
