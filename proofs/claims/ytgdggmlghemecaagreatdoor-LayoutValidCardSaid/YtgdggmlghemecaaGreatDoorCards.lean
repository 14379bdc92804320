/-
  DERIVED. GIVEN WITH THE SEED: THE CARDS: each row of YtgdggmlghemecaaGreatDoorRows.lean that lists a variable, with what it lists TIED to the program's text (the seventh form; the later family's looks); each row that meets fmt, with fmt's text TOLD by the authors' own Lean function (tested against real Go, not proved from fmt's source: count such statements apart). THE CARD IS WHAT COUNTS. Prove the row's statement (the work); the ties are given (YtgdggmlghemecaaGreatDoorTie.lean); close each card by the builder's one call (the guide's Derived/Test/ToyasCard.lean, 'card_holds'). Laid BY PROGRAM, IN A SANDBOX (cutbox-door.mjs). By AI agents, Wed Nov 11 2026. No macro, syntax, notation, axiom, sorry.
-/
import Derived.Test.YtgdggmlghemecaaGreatDoorRows
import GoSem.ClaimSeven
namespace Go.Proofs.YtgdggmlghemecaaGreatDoor
namespace Rows

/-- THE TIED CARD OF 'fullinglaw36.LayoutEmit'. -/
def layoutEmitCard : Claim7 := { stood := { row := layoutEmitRow, standIns := [], harness := (true, "679125d4c688bf244ad266c7f3735dbadc69040f87cbf7bc6364adbb9ee11777"), looks := false }, kinds := [], alts := [], laidByText := true, laidKinds := [.data], laidTests := true, laidLooks := .later }
def LayoutEmitCardSaid : Prop := Claim7.holds Tryz.pinned (.plain (OpenSpec.ofChange layoutEmitSpec)) layoutEmitCard

/-- THE TIED CARD OF 'fullinglaw36.LayoutValid'. -/
def layoutValidCard : Claim7 := { stood := { row := layoutValidRow, standIns := [], harness := (true, "679125d4c688bf244ad266c7f3735dbadc69040f87cbf7bc6364adbb9ee11777"), looks := false }, kinds := [], alts := [], laidByText := true, laidKinds := [.data], laidTests := true, laidLooks := .later }
def LayoutValidCardSaid : Prop := Claim7.holds Tryz.pinned (.plain (OpenSpec.ofChange layoutValidSpec)) layoutValidCard

/-- THE TIED CARD OF 'fullinglaw36.LayoutRuns'. -/
def layoutRunsCard : Claim7 := { stood := { row := layoutRunsRow, standIns := [], harness := (true, "679125d4c688bf244ad266c7f3735dbadc69040f87cbf7bc6364adbb9ee11777"), looks := false }, kinds := [], alts := [], laidByText := true, laidKinds := [.data], laidTests := true, laidLooks := .later }
def LayoutRunsCardSaid : Prop := Claim7.holds Tryz.pinned (.plain (OpenSpec.ofChange layoutRunsSpec)) layoutRunsCard

/-- THE TIED CARD OF 'fullinglaw36.LayoutAnySound'. -/
def layoutAnySoundCard : Claim7 := { stood := { row := layoutAnySoundRow, standIns := [], harness := (true, "679125d4c688bf244ad266c7f3735dbadc69040f87cbf7bc6364adbb9ee11777"), looks := false }, kinds := [], alts := [], laidByText := true, laidKinds := [.data], laidTests := true, laidLooks := .later }
def LayoutAnySoundCardSaid : Prop := Claim7.holds Tryz.pinned (.plain (OpenSpec.ofChange layoutAnySoundSpec)) layoutAnySoundCard

/-- THE TIED CARD OF 'fullinglaw36.LayoutSameOutcome'. -/
def layoutSameOutcomeCard : Claim7 := { stood := { row := layoutSameOutcomeRow, standIns := [], harness := (true, "679125d4c688bf244ad266c7f3735dbadc69040f87cbf7bc6364adbb9ee11777"), looks := false }, kinds := [], alts := [], laidByText := true, laidKinds := [.data], laidTests := true, laidLooks := .later }
def LayoutSameOutcomeCardSaid : Prop := Claim7.holds Tryz.pinned (.plain (OpenSpec.ofChange layoutSameOutcomeSpec)) layoutSameOutcomeCard

/-- THE SECOND FORM's CARD OF 'fullinglaw36.LayoutEmit'. -/
def layoutEmitUptoCard : Claim7 := { stood := { row := layoutEmitUptoRow, standIns := [], harness := (true, "679125d4c688bf244ad266c7f3735dbadc69040f87cbf7bc6364adbb9ee11777"), looks := false }, kinds := [], alts := [], laidByText := true, laidKinds := [.data], laidTests := true, laidLooks := .later }
def LayoutEmitUptoCardSaid : Prop := Claim7.holds Tryz.pinned (.plain (OpenSpec.upto layoutEmitSpec)) layoutEmitUptoCard

/-- THE SECOND FORM's CARD OF 'fullinglaw36.LayoutValid'. -/
def layoutValidUptoCard : Claim7 := { stood := { row := layoutValidUptoRow, standIns := [], harness := (true, "679125d4c688bf244ad266c7f3735dbadc69040f87cbf7bc6364adbb9ee11777"), looks := false }, kinds := [], alts := [], laidByText := true, laidKinds := [.data], laidTests := true, laidLooks := .later }
def LayoutValidUptoCardSaid : Prop := Claim7.holds Tryz.pinned (.plain (OpenSpec.upto layoutValidSpec)) layoutValidUptoCard

/-- THE SECOND FORM's CARD OF 'fullinglaw36.LayoutRuns'. -/
def layoutRunsUptoCard : Claim7 := { stood := { row := layoutRunsUptoRow, standIns := [], harness := (true, "679125d4c688bf244ad266c7f3735dbadc69040f87cbf7bc6364adbb9ee11777"), looks := false }, kinds := [], alts := [], laidByText := true, laidKinds := [.data], laidTests := true, laidLooks := .later }
def LayoutRunsUptoCardSaid : Prop := Claim7.holds Tryz.pinned (.plain (OpenSpec.upto layoutRunsSpec)) layoutRunsUptoCard

/-- THE SECOND FORM's CARD OF 'fullinglaw36.LayoutAnySound'. -/
def layoutAnySoundUptoCard : Claim7 := { stood := { row := layoutAnySoundUptoRow, standIns := [], harness := (true, "679125d4c688bf244ad266c7f3735dbadc69040f87cbf7bc6364adbb9ee11777"), looks := false }, kinds := [], alts := [], laidByText := true, laidKinds := [.data], laidTests := true, laidLooks := .later }
def LayoutAnySoundUptoCardSaid : Prop := Claim7.holds Tryz.pinned (.plain (OpenSpec.upto layoutAnySoundSpec)) layoutAnySoundUptoCard

/-- THE SECOND FORM's CARD OF 'fullinglaw36.LayoutSameOutcome'. -/
def layoutSameOutcomeUptoCard : Claim7 := { stood := { row := layoutSameOutcomeUptoRow, standIns := [], harness := (true, "679125d4c688bf244ad266c7f3735dbadc69040f87cbf7bc6364adbb9ee11777"), looks := false }, kinds := [], alts := [], laidByText := true, laidKinds := [.data], laidTests := true, laidLooks := .later }
def LayoutSameOutcomeUptoCardSaid : Prop := Claim7.holds Tryz.pinned (.plain (OpenSpec.upto layoutSameOutcomeSpec)) layoutSameOutcomeUptoCard
end Rows
end Go.Proofs.YtgdggmlghemecaaGreatDoor
