/-
  DERIVED. GIVEN WITH THE SEED: THE CARDS: each row of YtnbmcbkokaoapaaGreatDoorRows.lean that lists a variable, with what it lists TIED to the program's text (the seventh form; the later family's looks); each row that meets fmt, with fmt's text TOLD by the authors' own Lean function (tested against real Go, not proved from fmt's source: count such statements apart). THE CARD IS WHAT COUNTS. Prove the row's statement (the work); the ties are given (YtnbmcbkokaoapaaGreatDoorTie.lean); close each card by the builder's one call (the guide's Derived/Test/ToyasCard.lean, 'card_holds'). Laid BY PROGRAM, IN A SANDBOX (cutbox-door.mjs). By AI agents, Wed Nov 11 2026. No macro, syntax, notation, axiom, sorry.
-/
import Derived.Test.YtnbmcbkokaoapaaGreatDoorRows
import GoSem.ClaimSeven
namespace Go.Proofs.YtnbmcbkokaoapaaGreatDoor
namespace Rows

/-- THE TIED CARD OF 'mulliganlaw20.CheckAgain'. -/
def checkAgainCard : Claim7 := { stood := { row := checkAgainRow, standIns := [], harness := (true, "008c5060a6b3f810f8f7a481f993caa036b0a334e003216f15d46bae9a364dad"), looks := true }, kinds := [], alts := [], laidByText := true, laidKinds := [.data, .data, .widerDeep, .data], laidTests := true, laidLooks := .later }
def CheckAgainCardSaid : Prop := Claim7.holds Tryz.pinned (.plain (OpenSpec.ofChange checkAgainSpec)) checkAgainCard

/-- THE TIED CARD OF 'mulliganlaw20.CheckTells'. -/
def checkTellsCard : Claim7 := { stood := { row := checkTellsRow, standIns := [], harness := (true, "008c5060a6b3f810f8f7a481f993caa036b0a334e003216f15d46bae9a364dad"), looks := true }, kinds := [], alts := [], laidByText := true, laidKinds := [.data, .data, .widerDeep, .data], laidTests := true, laidLooks := .later }
def CheckTellsCardSaid : Prop := Claim7.holds Tryz.pinned (.plain (OpenSpec.ofChange checkTellsSpec)) checkTellsCard

/-- THE TIED CARD OF 'mulliganlaw20.CheckEnds'. -/
def checkEndsCard : Claim7 := { stood := { row := checkEndsRow, standIns := [], harness := (true, "008c5060a6b3f810f8f7a481f993caa036b0a334e003216f15d46bae9a364dad"), looks := true }, kinds := [], alts := [], laidByText := true, laidKinds := [.data, .data, .widerDeep, .data], laidTests := true, laidLooks := .later }
def CheckEndsCardSaid : Prop := Claim7.holds Tryz.pinned (.plain (OpenSpec.ofChange checkEndsSpec)) checkEndsCard

/-- THE TIED CARD OF 'mulliganlaw20.CheckRuns'. -/
def checkRunsCard : Claim7 := { stood := { row := checkRunsRow, standIns := [], harness := (true, "008c5060a6b3f810f8f7a481f993caa036b0a334e003216f15d46bae9a364dad"), looks := true }, kinds := [], alts := [], laidByText := true, laidKinds := [.data, .data, .widerDeep, .data], laidTests := true, laidLooks := .later }
def CheckRunsCardSaid : Prop := Claim7.holds Tryz.pinned (.plain (OpenSpec.ofChange checkRunsSpec)) checkRunsCard

/-- THE SECOND FORM's CARD OF 'mulliganlaw20.CheckAgain'. -/
def checkAgainUptoCard : Claim7 := { stood := { row := checkAgainUptoRow, standIns := [], harness := (true, "008c5060a6b3f810f8f7a481f993caa036b0a334e003216f15d46bae9a364dad"), looks := true }, kinds := [], alts := [], laidByText := true, laidKinds := [.data, .data, .widerDeep, .data], laidTests := true, laidLooks := .later }
def CheckAgainUptoCardSaid : Prop := Claim7.holds Tryz.pinned (.plain (OpenSpec.upto checkAgainSpec)) checkAgainUptoCard

/-- THE SECOND FORM's CARD OF 'mulliganlaw20.CheckTells'. -/
def checkTellsUptoCard : Claim7 := { stood := { row := checkTellsUptoRow, standIns := [], harness := (true, "008c5060a6b3f810f8f7a481f993caa036b0a334e003216f15d46bae9a364dad"), looks := true }, kinds := [], alts := [], laidByText := true, laidKinds := [.data, .data, .widerDeep, .data], laidTests := true, laidLooks := .later }
def CheckTellsUptoCardSaid : Prop := Claim7.holds Tryz.pinned (.plain (OpenSpec.upto checkTellsSpec)) checkTellsUptoCard

/-- THE SECOND FORM's CARD OF 'mulliganlaw20.CheckEnds'. -/
def checkEndsUptoCard : Claim7 := { stood := { row := checkEndsUptoRow, standIns := [], harness := (true, "008c5060a6b3f810f8f7a481f993caa036b0a334e003216f15d46bae9a364dad"), looks := true }, kinds := [], alts := [], laidByText := true, laidKinds := [.data, .data, .widerDeep, .data], laidTests := true, laidLooks := .later }
def CheckEndsUptoCardSaid : Prop := Claim7.holds Tryz.pinned (.plain (OpenSpec.upto checkEndsSpec)) checkEndsUptoCard

/-- THE SECOND FORM's CARD OF 'mulliganlaw20.CheckRuns'. -/
def checkRunsUptoCard : Claim7 := { stood := { row := checkRunsUptoRow, standIns := [], harness := (true, "008c5060a6b3f810f8f7a481f993caa036b0a334e003216f15d46bae9a364dad"), looks := true }, kinds := [], alts := [], laidByText := true, laidKinds := [.data, .data, .widerDeep, .data], laidTests := true, laidLooks := .later }
def CheckRunsUptoCardSaid : Prop := Claim7.holds Tryz.pinned (.plain (OpenSpec.upto checkRunsSpec)) checkRunsUptoCard
end Rows
end Go.Proofs.YtnbmcbkokaoapaaGreatDoor
