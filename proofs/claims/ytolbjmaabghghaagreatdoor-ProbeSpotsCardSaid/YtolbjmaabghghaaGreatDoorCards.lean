/-
  DERIVED. GIVEN WITH THE SEED: THE CARDS: each row of YtolbjmaabghghaaGreatDoorRows.lean that lists a variable, with what it lists TIED to the program's text (the seventh form; the later family's looks); each row that meets fmt, with fmt's text TOLD by the authors' own Lean function (tested against real Go, not proved from fmt's source: count such statements apart). THE CARD IS WHAT COUNTS. Prove the row's statement (the work); the ties are given (YtolbjmaabghghaaGreatDoorTie.lean); close each card by the builder's one call (the guide's Derived/Test/ToyasCard.lean, 'card_holds'). Laid BY PROGRAM, IN A SANDBOX (cutbox-door.mjs). By AI agents, Wed Nov 11 2026. No macro, syntax, notation, axiom, sorry.
-/
import Derived.Test.YtolbjmaabghghaaGreatDoorRows
import GoSem.ClaimSeven
namespace Go.Proofs.YtolbjmaabghghaaGreatDoor
namespace Rows

/-- THE TIED CARD OF 'metrolablaw30.ProbeChecks'. -/
def probeChecksCard : Claim7 := { stood := { row := probeChecksRow, standIns := [], harness := (true, "02f8e9177a40962c939ce72cf379bc79a00eb3048d851f5f0cc8113f7f8b0d3e"), looks := true }, kinds := [], alts := [], laidByText := true, laidKinds := [.data, .data, .data, .data, .sentinel, .sentinel, .pinned], laidTests := true, laidLooks := .later }
def ProbeChecksCardSaid : Prop := Claim7.holds Tryz.pinned (.plain (OpenSpec.ofChange probeChecksSpec)) probeChecksCard

/-- THE TIED CARD OF 'metrolablaw30.ProbeTouches'. -/
def probeTouchesCard : Claim7 := { stood := { row := probeTouchesRow, standIns := [], harness := (true, "02f8e9177a40962c939ce72cf379bc79a00eb3048d851f5f0cc8113f7f8b0d3e"), looks := true }, kinds := [], alts := [], laidByText := true, laidKinds := [.data, .data, .data, .data, .sentinel, .sentinel, .pinned], laidTests := true, laidLooks := .later }
def ProbeTouchesCardSaid : Prop := Claim7.holds Tryz.pinned (.plain (OpenSpec.ofChange probeTouchesSpec)) probeTouchesCard

/-- THE TIED CARD OF 'metrolablaw30.ProbeTexts'. -/
def probeTextsCard : Claim7 := { stood := { row := probeTextsRow, standIns := [], harness := (true, "02f8e9177a40962c939ce72cf379bc79a00eb3048d851f5f0cc8113f7f8b0d3e"), looks := true }, kinds := [], alts := [], laidByText := true, laidKinds := [.data, .data, .data, .data, .sentinel, .sentinel, .pinned], laidTests := true, laidLooks := .later }
def ProbeTextsCardSaid : Prop := Claim7.holds Tryz.pinned (.plain (OpenSpec.ofChange probeTextsSpec)) probeTextsCard

/-- THE TIED CARD OF 'metrolablaw30.ProbeRuns'. -/
def probeRunsCard : Claim7 := { stood := { row := probeRunsRow, standIns := [], harness := (true, "02f8e9177a40962c939ce72cf379bc79a00eb3048d851f5f0cc8113f7f8b0d3e"), looks := true }, kinds := [], alts := [], laidByText := true, laidKinds := [.data, .data, .data, .data, .sentinel, .sentinel, .pinned], laidTests := true, laidLooks := .later }
def ProbeRunsCardSaid : Prop := Claim7.holds Tryz.pinned (.plain (OpenSpec.ofChange probeRunsSpec)) probeRunsCard

/-- THE TIED CARD OF 'metrolablaw30.ProbeSpots'. -/
def probeSpotsCard : Claim7 := { stood := { row := probeSpotsRow, standIns := [], harness := (true, "02f8e9177a40962c939ce72cf379bc79a00eb3048d851f5f0cc8113f7f8b0d3e"), looks := true }, kinds := [], alts := [], laidByText := true, laidKinds := [.data, .data, .data, .data, .sentinel, .sentinel, .pinned], laidTests := true, laidLooks := .later }
def ProbeSpotsCardSaid : Prop := Claim7.holds Tryz.pinned (.plain (OpenSpec.ofChange probeSpotsSpec)) probeSpotsCard

/-- THE TIED CARD OF 'metrolablaw30.ProbeCenters'. -/
def probeCentersCard : Claim7 := { stood := { row := probeCentersRow, standIns := [], harness := (true, "02f8e9177a40962c939ce72cf379bc79a00eb3048d851f5f0cc8113f7f8b0d3e"), looks := true }, kinds := [], alts := [], laidByText := true, laidKinds := [.data, .data, .data, .data, .sentinel, .sentinel, .pinned], laidTests := true, laidLooks := .later }
def ProbeCentersCardSaid : Prop := Claim7.holds Tryz.pinned (.plain (OpenSpec.ofChange probeCentersSpec)) probeCentersCard

/-- THE TIED CARD OF 'metrolablaw30.ProbeWays'. -/
def probeWaysCard : Claim7 := { stood := { row := probeWaysRow, standIns := [], harness := (true, "02f8e9177a40962c939ce72cf379bc79a00eb3048d851f5f0cc8113f7f8b0d3e"), looks := true }, kinds := [], alts := [], laidByText := true, laidKinds := [.data, .data, .data, .data, .sentinel, .sentinel, .pinned], laidTests := true, laidLooks := .later }
def ProbeWaysCardSaid : Prop := Claim7.holds Tryz.pinned (.plain (OpenSpec.ofChange probeWaysSpec)) probeWaysCard

/-- THE TIED CARD OF 'metrolablaw30.ProbeMeets'. -/
def probeMeetsCard : Claim7 := { stood := { row := probeMeetsRow, standIns := [], harness := (true, "02f8e9177a40962c939ce72cf379bc79a00eb3048d851f5f0cc8113f7f8b0d3e"), looks := true }, kinds := [], alts := [], laidByText := true, laidKinds := [.data, .data, .data, .data, .sentinel, .sentinel, .pinned], laidTests := true, laidLooks := .later }
def ProbeMeetsCardSaid : Prop := Claim7.holds Tryz.pinned (.plain (OpenSpec.ofChange probeMeetsSpec)) probeMeetsCard

/-- THE TIED CARD OF 'metrolablaw30.ProbeTurns'. -/
def probeTurnsCard : Claim7 := { stood := { row := probeTurnsRow, standIns := [], harness := (true, "02f8e9177a40962c939ce72cf379bc79a00eb3048d851f5f0cc8113f7f8b0d3e"), looks := true }, kinds := [], alts := [], laidByText := true, laidKinds := [.data, .data, .data, .data, .sentinel, .sentinel, .pinned], laidTests := true, laidLooks := .later }
def ProbeTurnsCardSaid : Prop := Claim7.holds Tryz.pinned (.plain (OpenSpec.ofChange probeTurnsSpec)) probeTurnsCard

/-- THE SECOND FORM's CARD OF 'metrolablaw30.ProbeChecks'. -/
def probeChecksUptoCard : Claim7 := { stood := { row := probeChecksUptoRow, standIns := [], harness := (true, "02f8e9177a40962c939ce72cf379bc79a00eb3048d851f5f0cc8113f7f8b0d3e"), looks := true }, kinds := [], alts := [], laidByText := true, laidKinds := [.data, .data, .data, .data, .sentinel, .sentinel, .pinned], laidTests := true, laidLooks := .later }
def ProbeChecksUptoCardSaid : Prop := Claim7.holds Tryz.pinned (.plain (OpenSpec.upto probeChecksSpec)) probeChecksUptoCard

/-- THE SECOND FORM's CARD OF 'metrolablaw30.ProbeTouches'. -/
def probeTouchesUptoCard : Claim7 := { stood := { row := probeTouchesUptoRow, standIns := [], harness := (true, "02f8e9177a40962c939ce72cf379bc79a00eb3048d851f5f0cc8113f7f8b0d3e"), looks := true }, kinds := [], alts := [], laidByText := true, laidKinds := [.data, .data, .data, .data, .sentinel, .sentinel, .pinned], laidTests := true, laidLooks := .later }
def ProbeTouchesUptoCardSaid : Prop := Claim7.holds Tryz.pinned (.plain (OpenSpec.upto probeTouchesSpec)) probeTouchesUptoCard

/-- THE SECOND FORM's CARD OF 'metrolablaw30.ProbeTexts'. -/
def probeTextsUptoCard : Claim7 := { stood := { row := probeTextsUptoRow, standIns := [], harness := (true, "02f8e9177a40962c939ce72cf379bc79a00eb3048d851f5f0cc8113f7f8b0d3e"), looks := true }, kinds := [], alts := [], laidByText := true, laidKinds := [.data, .data, .data, .data, .sentinel, .sentinel, .pinned], laidTests := true, laidLooks := .later }
def ProbeTextsUptoCardSaid : Prop := Claim7.holds Tryz.pinned (.plain (OpenSpec.upto probeTextsSpec)) probeTextsUptoCard

/-- THE SECOND FORM's CARD OF 'metrolablaw30.ProbeRuns'. -/
def probeRunsUptoCard : Claim7 := { stood := { row := probeRunsUptoRow, standIns := [], harness := (true, "02f8e9177a40962c939ce72cf379bc79a00eb3048d851f5f0cc8113f7f8b0d3e"), looks := true }, kinds := [], alts := [], laidByText := true, laidKinds := [.data, .data, .data, .data, .sentinel, .sentinel, .pinned], laidTests := true, laidLooks := .later }
def ProbeRunsUptoCardSaid : Prop := Claim7.holds Tryz.pinned (.plain (OpenSpec.upto probeRunsSpec)) probeRunsUptoCard

/-- THE SECOND FORM's CARD OF 'metrolablaw30.ProbeSpots'. -/
def probeSpotsUptoCard : Claim7 := { stood := { row := probeSpotsUptoRow, standIns := [], harness := (true, "02f8e9177a40962c939ce72cf379bc79a00eb3048d851f5f0cc8113f7f8b0d3e"), looks := true }, kinds := [], alts := [], laidByText := true, laidKinds := [.data, .data, .data, .data, .sentinel, .sentinel, .pinned], laidTests := true, laidLooks := .later }
def ProbeSpotsUptoCardSaid : Prop := Claim7.holds Tryz.pinned (.plain (OpenSpec.upto probeSpotsSpec)) probeSpotsUptoCard

/-- THE SECOND FORM's CARD OF 'metrolablaw30.ProbeCenters'. -/
def probeCentersUptoCard : Claim7 := { stood := { row := probeCentersUptoRow, standIns := [], harness := (true, "02f8e9177a40962c939ce72cf379bc79a00eb3048d851f5f0cc8113f7f8b0d3e"), looks := true }, kinds := [], alts := [], laidByText := true, laidKinds := [.data, .data, .data, .data, .sentinel, .sentinel, .pinned], laidTests := true, laidLooks := .later }
def ProbeCentersUptoCardSaid : Prop := Claim7.holds Tryz.pinned (.plain (OpenSpec.upto probeCentersSpec)) probeCentersUptoCard

/-- THE SECOND FORM's CARD OF 'metrolablaw30.ProbeWays'. -/
def probeWaysUptoCard : Claim7 := { stood := { row := probeWaysUptoRow, standIns := [], harness := (true, "02f8e9177a40962c939ce72cf379bc79a00eb3048d851f5f0cc8113f7f8b0d3e"), looks := true }, kinds := [], alts := [], laidByText := true, laidKinds := [.data, .data, .data, .data, .sentinel, .sentinel, .pinned], laidTests := true, laidLooks := .later }
def ProbeWaysUptoCardSaid : Prop := Claim7.holds Tryz.pinned (.plain (OpenSpec.upto probeWaysSpec)) probeWaysUptoCard

/-- THE SECOND FORM's CARD OF 'metrolablaw30.ProbeMeets'. -/
def probeMeetsUptoCard : Claim7 := { stood := { row := probeMeetsUptoRow, standIns := [], harness := (true, "02f8e9177a40962c939ce72cf379bc79a00eb3048d851f5f0cc8113f7f8b0d3e"), looks := true }, kinds := [], alts := [], laidByText := true, laidKinds := [.data, .data, .data, .data, .sentinel, .sentinel, .pinned], laidTests := true, laidLooks := .later }
def ProbeMeetsUptoCardSaid : Prop := Claim7.holds Tryz.pinned (.plain (OpenSpec.upto probeMeetsSpec)) probeMeetsUptoCard

/-- THE SECOND FORM's CARD OF 'metrolablaw30.ProbeTurns'. -/
def probeTurnsUptoCard : Claim7 := { stood := { row := probeTurnsUptoRow, standIns := [], harness := (true, "02f8e9177a40962c939ce72cf379bc79a00eb3048d851f5f0cc8113f7f8b0d3e"), looks := true }, kinds := [], alts := [], laidByText := true, laidKinds := [.data, .data, .data, .data, .sentinel, .sentinel, .pinned], laidTests := true, laidLooks := .later }
def ProbeTurnsUptoCardSaid : Prop := Claim7.holds Tryz.pinned (.plain (OpenSpec.upto probeTurnsSpec)) probeTurnsUptoCard
end Rows
end Go.Proofs.YtolbjmaabghghaaGreatDoor
