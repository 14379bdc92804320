/-
  DERIVED. GIVEN WITH THE SEED: THE CARDS: each row of YtlabedbmgmfbaaaDoorRows.lean that lists a variable, with what it lists TIED to the program's text (the seventh form; the later family's looks); each row that meets fmt, with fmt's text TOLD by the authors' own Lean function (tested against real Go, not proved from fmt's source: count such statements apart). THE CARD IS WHAT COUNTS. Prove the row's statement (the work); the ties are given (YtlabedbmgmfbaaaDoorTie.lean); close each card by the builder's one call (the guide's Derived/Test/ToyasCard.lean, 'card_holds'). Laid BY PROGRAM, IN A SANDBOX (cutbox-door.mjs). By AI agents, Wed Nov 11 2026. No macro, syntax, notation, axiom, sorry.
-/
import Derived.Test.YtlabedbmgmfbaaaDoorRows
import GoSem.ClaimSeven
namespace Go.Proofs.YtlabedbmgmfbaaaDoor
namespace Rows

/-- THE TIED CARD OF 'fullinglaw33.LivenessMatches'. -/
def livenessMatchesCard : Claim7 := { stood := { row := livenessMatchesRow, standIns := [], harness := (true, "ef7fead22b68f7295d3bbf2b83792b464b0d36f65dbcab87281d9a401c1d5836"), looks := false }, kinds := [], alts := [], laidByText := true, laidKinds := [.data], laidTests := true, laidLooks := .later }
def LivenessMatchesCardSaid : Prop := Claim7.holds Tryd.pinned (.plain (OpenSpec.ofChange livenessMatchesSpec)) livenessMatchesCard

/-- THE TIED CARD OF 'fullinglaw33.LivenessEquations'. -/
def livenessEquationsCard : Claim7 := { stood := { row := livenessEquationsRow, standIns := [], harness := (true, "ef7fead22b68f7295d3bbf2b83792b464b0d36f65dbcab87281d9a401c1d5836"), looks := false }, kinds := [], alts := [], laidByText := true, laidKinds := [.data], laidTests := true, laidLooks := .later }
def LivenessEquationsCardSaid : Prop := Claim7.holds Tryd.pinned (.plain (OpenSpec.ofChange livenessEquationsSpec)) livenessEquationsCard

/-- THE TIED CARD OF 'fullinglaw33.LivenessDead'. -/
def livenessDeadCard : Claim7 := { stood := { row := livenessDeadRow, standIns := [], harness := (true, "ef7fead22b68f7295d3bbf2b83792b464b0d36f65dbcab87281d9a401c1d5836"), looks := false }, kinds := [], alts := [], laidByText := true, laidKinds := [.data], laidTests := true, laidLooks := .later }
def LivenessDeadCardSaid : Prop := Claim7.holds Tryd.pinned (.plain (OpenSpec.ofChange livenessDeadSpec)) livenessDeadCard

/-- THE TIED CARD OF 'fullinglaw33.LivenessLive'. -/
def livenessLiveCard : Claim7 := { stood := { row := livenessLiveRow, standIns := [], harness := (true, "ef7fead22b68f7295d3bbf2b83792b464b0d36f65dbcab87281d9a401c1d5836"), looks := false }, kinds := [], alts := [], laidByText := true, laidKinds := [.data], laidTests := true, laidLooks := .later }
def LivenessLiveCardSaid : Prop := Claim7.holds Tryd.pinned (.plain (OpenSpec.ofChange livenessLiveSpec)) livenessLiveCard

/-- THE TIED CARD OF 'fullinglaw33.LivenessSubset'. -/
def livenessSubsetCard : Claim7 := { stood := { row := livenessSubsetRow, standIns := [], harness := (true, "ef7fead22b68f7295d3bbf2b83792b464b0d36f65dbcab87281d9a401c1d5836"), looks := false }, kinds := [], alts := [], laidByText := true, laidKinds := [.data], laidTests := true, laidLooks := .later }
def LivenessSubsetCardSaid : Prop := Claim7.holds Tryd.pinned (.plain (OpenSpec.ofChange livenessSubsetSpec)) livenessSubsetCard

/-- THE TIED CARD OF 'fullinglaw32.VCodeValid'. -/
def vCodeValidCard : Claim7 := { stood := { row := vCodeValidRow, standIns := [], harness := (true, "ef7fead22b68f7295d3bbf2b83792b464b0d36f65dbcab87281d9a401c1d5836"), looks := false }, kinds := [], alts := [], laidByText := true, laidKinds := [.data], laidTests := true, laidLooks := .later }
def VCodeValidCardSaid : Prop := Claim7.holds Tryd.pinned (.plain (OpenSpec.ofChange vCodeValidSpec)) vCodeValidCard

/-- THE TIED CARD OF 'fullinglaw32.VCodeProgram'. -/
def vCodeProgramCard : Claim7 := { stood := { row := vCodeProgramRow, standIns := [], harness := (true, "ef7fead22b68f7295d3bbf2b83792b464b0d36f65dbcab87281d9a401c1d5836"), looks := false }, kinds := [], alts := [], laidByText := true, laidKinds := [.data], laidTests := true, laidLooks := .later }
def VCodeProgramCardSaid : Prop := Claim7.holds Tryd.pinned (.plain (OpenSpec.ofChange vCodeProgramSpec)) vCodeProgramCard

/-- THE TIED CARD OF 'fullinglaw32.VCodeRun'. -/
def vCodeRunCard : Claim7 := { stood := { row := vCodeRunRow, standIns := [], harness := (true, "ef7fead22b68f7295d3bbf2b83792b464b0d36f65dbcab87281d9a401c1d5836"), looks := false }, kinds := [], alts := [], laidByText := true, laidKinds := [.data], laidTests := true, laidLooks := .later }
def VCodeRunCardSaid : Prop := Claim7.holds Tryd.pinned (.plain (OpenSpec.ofChange vCodeRunSpec)) vCodeRunCard

/-- THE TIED CARD OF 'fullinglaw32.VCodeInvalid'. -/
def vCodeInvalidCard : Claim7 := { stood := { row := vCodeInvalidRow, standIns := [], harness := (true, "ef7fead22b68f7295d3bbf2b83792b464b0d36f65dbcab87281d9a401c1d5836"), looks := false }, kinds := [], alts := [], laidByText := true, laidKinds := [.data], laidTests := true, laidLooks := .later }
def VCodeInvalidCardSaid : Prop := Claim7.holds Tryd.pinned (.plain (OpenSpec.ofChange vCodeInvalidSpec)) vCodeInvalidCard

/-- THE TIED CARD OF 'fullinglaw32.VCodeMoreSteps'. -/
def vCodeMoreStepsCard : Claim7 := { stood := { row := vCodeMoreStepsRow, standIns := [], harness := (true, "ef7fead22b68f7295d3bbf2b83792b464b0d36f65dbcab87281d9a401c1d5836"), looks := false }, kinds := [], alts := [], laidByText := true, laidKinds := [.data], laidTests := true, laidLooks := .later }
def VCodeMoreStepsCardSaid : Prop := Claim7.holds Tryd.pinned (.plain (OpenSpec.ofChange vCodeMoreStepsSpec)) vCodeMoreStepsCard

/-- THE TIED CARD OF 'fullinglaw32.VCodeUnusedRegisters'. -/
def vCodeUnusedRegistersCard : Claim7 := { stood := { row := vCodeUnusedRegistersRow, standIns := [], harness := (true, "ef7fead22b68f7295d3bbf2b83792b464b0d36f65dbcab87281d9a401c1d5836"), looks := false }, kinds := [], alts := [], laidByText := true, laidKinds := [.data], laidTests := true, laidLooks := .later }
def VCodeUnusedRegistersCardSaid : Prop := Claim7.holds Tryd.pinned (.plain (OpenSpec.ofChange vCodeUnusedRegistersSpec)) vCodeUnusedRegistersCard

/-- THE TIED CARD OF 'fullinglaw32.VCodeOperands'. -/
def vCodeOperandsCard : Claim7 := { stood := { row := vCodeOperandsRow, standIns := [], harness := (true, "ef7fead22b68f7295d3bbf2b83792b464b0d36f65dbcab87281d9a401c1d5836"), looks := false }, kinds := [], alts := [], laidByText := true, laidKinds := [.data], laidTests := true, laidLooks := .later }
def VCodeOperandsCardSaid : Prop := Claim7.holds Tryd.pinned (.plain (OpenSpec.ofChange vCodeOperandsSpec)) vCodeOperandsCard

/-- THE SECOND FORM's CARD OF 'fullinglaw33.LivenessMatches'. -/
def livenessMatchesUptoCard : Claim7 := { stood := { row := livenessMatchesUptoRow, standIns := [], harness := (true, "ef7fead22b68f7295d3bbf2b83792b464b0d36f65dbcab87281d9a401c1d5836"), looks := false }, kinds := [], alts := [], laidByText := true, laidKinds := [.data], laidTests := true, laidLooks := .later }
def LivenessMatchesUptoCardSaid : Prop := Claim7.holds Tryd.pinned (.plain (OpenSpec.upto livenessMatchesSpec)) livenessMatchesUptoCard

/-- THE SECOND FORM's CARD OF 'fullinglaw33.LivenessEquations'. -/
def livenessEquationsUptoCard : Claim7 := { stood := { row := livenessEquationsUptoRow, standIns := [], harness := (true, "ef7fead22b68f7295d3bbf2b83792b464b0d36f65dbcab87281d9a401c1d5836"), looks := false }, kinds := [], alts := [], laidByText := true, laidKinds := [.data], laidTests := true, laidLooks := .later }
def LivenessEquationsUptoCardSaid : Prop := Claim7.holds Tryd.pinned (.plain (OpenSpec.upto livenessEquationsSpec)) livenessEquationsUptoCard

/-- THE SECOND FORM's CARD OF 'fullinglaw33.LivenessDead'. -/
def livenessDeadUptoCard : Claim7 := { stood := { row := livenessDeadUptoRow, standIns := [], harness := (true, "ef7fead22b68f7295d3bbf2b83792b464b0d36f65dbcab87281d9a401c1d5836"), looks := false }, kinds := [], alts := [], laidByText := true, laidKinds := [.data], laidTests := true, laidLooks := .later }
def LivenessDeadUptoCardSaid : Prop := Claim7.holds Tryd.pinned (.plain (OpenSpec.upto livenessDeadSpec)) livenessDeadUptoCard

/-- THE SECOND FORM's CARD OF 'fullinglaw33.LivenessLive'. -/
def livenessLiveUptoCard : Claim7 := { stood := { row := livenessLiveUptoRow, standIns := [], harness := (true, "ef7fead22b68f7295d3bbf2b83792b464b0d36f65dbcab87281d9a401c1d5836"), looks := false }, kinds := [], alts := [], laidByText := true, laidKinds := [.data], laidTests := true, laidLooks := .later }
def LivenessLiveUptoCardSaid : Prop := Claim7.holds Tryd.pinned (.plain (OpenSpec.upto livenessLiveSpec)) livenessLiveUptoCard

/-- THE SECOND FORM's CARD OF 'fullinglaw33.LivenessSubset'. -/
def livenessSubsetUptoCard : Claim7 := { stood := { row := livenessSubsetUptoRow, standIns := [], harness := (true, "ef7fead22b68f7295d3bbf2b83792b464b0d36f65dbcab87281d9a401c1d5836"), looks := false }, kinds := [], alts := [], laidByText := true, laidKinds := [.data], laidTests := true, laidLooks := .later }
def LivenessSubsetUptoCardSaid : Prop := Claim7.holds Tryd.pinned (.plain (OpenSpec.upto livenessSubsetSpec)) livenessSubsetUptoCard

/-- THE SECOND FORM's CARD OF 'fullinglaw32.VCodeValid'. -/
def vCodeValidUptoCard : Claim7 := { stood := { row := vCodeValidUptoRow, standIns := [], harness := (true, "ef7fead22b68f7295d3bbf2b83792b464b0d36f65dbcab87281d9a401c1d5836"), looks := false }, kinds := [], alts := [], laidByText := true, laidKinds := [.data], laidTests := true, laidLooks := .later }
def VCodeValidUptoCardSaid : Prop := Claim7.holds Tryd.pinned (.plain (OpenSpec.upto vCodeValidSpec)) vCodeValidUptoCard

/-- THE SECOND FORM's CARD OF 'fullinglaw32.VCodeProgram'. -/
def vCodeProgramUptoCard : Claim7 := { stood := { row := vCodeProgramUptoRow, standIns := [], harness := (true, "ef7fead22b68f7295d3bbf2b83792b464b0d36f65dbcab87281d9a401c1d5836"), looks := false }, kinds := [], alts := [], laidByText := true, laidKinds := [.data], laidTests := true, laidLooks := .later }
def VCodeProgramUptoCardSaid : Prop := Claim7.holds Tryd.pinned (.plain (OpenSpec.upto vCodeProgramSpec)) vCodeProgramUptoCard

/-- THE SECOND FORM's CARD OF 'fullinglaw32.VCodeRun'. -/
def vCodeRunUptoCard : Claim7 := { stood := { row := vCodeRunUptoRow, standIns := [], harness := (true, "ef7fead22b68f7295d3bbf2b83792b464b0d36f65dbcab87281d9a401c1d5836"), looks := false }, kinds := [], alts := [], laidByText := true, laidKinds := [.data], laidTests := true, laidLooks := .later }
def VCodeRunUptoCardSaid : Prop := Claim7.holds Tryd.pinned (.plain (OpenSpec.upto vCodeRunSpec)) vCodeRunUptoCard

/-- THE SECOND FORM's CARD OF 'fullinglaw32.VCodeInvalid'. -/
def vCodeInvalidUptoCard : Claim7 := { stood := { row := vCodeInvalidUptoRow, standIns := [], harness := (true, "ef7fead22b68f7295d3bbf2b83792b464b0d36f65dbcab87281d9a401c1d5836"), looks := false }, kinds := [], alts := [], laidByText := true, laidKinds := [.data], laidTests := true, laidLooks := .later }
def VCodeInvalidUptoCardSaid : Prop := Claim7.holds Tryd.pinned (.plain (OpenSpec.upto vCodeInvalidSpec)) vCodeInvalidUptoCard

/-- THE SECOND FORM's CARD OF 'fullinglaw32.VCodeMoreSteps'. -/
def vCodeMoreStepsUptoCard : Claim7 := { stood := { row := vCodeMoreStepsUptoRow, standIns := [], harness := (true, "ef7fead22b68f7295d3bbf2b83792b464b0d36f65dbcab87281d9a401c1d5836"), looks := false }, kinds := [], alts := [], laidByText := true, laidKinds := [.data], laidTests := true, laidLooks := .later }
def VCodeMoreStepsUptoCardSaid : Prop := Claim7.holds Tryd.pinned (.plain (OpenSpec.upto vCodeMoreStepsSpec)) vCodeMoreStepsUptoCard

/-- THE SECOND FORM's CARD OF 'fullinglaw32.VCodeUnusedRegisters'. -/
def vCodeUnusedRegistersUptoCard : Claim7 := { stood := { row := vCodeUnusedRegistersUptoRow, standIns := [], harness := (true, "ef7fead22b68f7295d3bbf2b83792b464b0d36f65dbcab87281d9a401c1d5836"), looks := false }, kinds := [], alts := [], laidByText := true, laidKinds := [.data], laidTests := true, laidLooks := .later }
def VCodeUnusedRegistersUptoCardSaid : Prop := Claim7.holds Tryd.pinned (.plain (OpenSpec.upto vCodeUnusedRegistersSpec)) vCodeUnusedRegistersUptoCard

/-- THE SECOND FORM's CARD OF 'fullinglaw32.VCodeOperands'. -/
def vCodeOperandsUptoCard : Claim7 := { stood := { row := vCodeOperandsUptoRow, standIns := [], harness := (true, "ef7fead22b68f7295d3bbf2b83792b464b0d36f65dbcab87281d9a401c1d5836"), looks := false }, kinds := [], alts := [], laidByText := true, laidKinds := [.data], laidTests := true, laidLooks := .later }
def VCodeOperandsUptoCardSaid : Prop := Claim7.holds Tryd.pinned (.plain (OpenSpec.upto vCodeOperandsSpec)) vCodeOperandsUptoCard
end Rows
end Go.Proofs.YtlabedbmgmfbaaaDoor
