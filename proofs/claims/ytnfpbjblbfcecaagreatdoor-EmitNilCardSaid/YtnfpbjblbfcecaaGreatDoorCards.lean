/-
  DERIVED. GIVEN WITH THE SEED: THE CARDS: each row of YtnfpbjblbfcecaaGreatDoorRows.lean that lists a variable, with what it lists TIED to the program's text (the seventh form; the later family's looks); each row that meets fmt, with fmt's text TOLD by the authors' own Lean function (tested against real Go, not proved from fmt's source: count such statements apart). THE CARD IS WHAT COUNTS. Prove the row's statement (the work); the ties are given (YtnfpbjblbfcecaaGreatDoorTie.lean); close each card by the builder's one call (the guide's Derived/Test/ToyasCard.lean, 'card_holds'). Laid BY PROGRAM, IN A SANDBOX (cutbox-door.mjs). By AI agents, Wed Nov 11 2026. No macro, syntax, notation, axiom, sorry.
-/
import Derived.Test.YtnfpbjblbfcecaaGreatDoorRows
import GoSem.ClaimSeven
namespace Go.Proofs.YtnfpbjblbfcecaaGreatDoor
namespace Rows

/-- THE TIED CARD OF 'mulliganlaw19.EmitRight'. -/
def emitRightCard : Claim7 := { stood := { row := emitRightRow, standIns := [], harness := (true, "352b6dac866f3241092f2713ea6df9f7c76020ab92b38d458f11b8a9e8ccd613"), looks := true }, kinds := [], alts := [], laidByText := true, laidKinds := [.data, .data, .widerDeep, .data], laidTests := true, laidLooks := .later }
def EmitRightCardSaid : Prop := Claim7.holds Tryz.pinned (.plain (OpenSpec.ofChange emitRightSpec)) emitRightCard

/-- THE TIED CARD OF 'mulliganlaw19.EmitRuns'. -/
def emitRunsCard : Claim7 := { stood := { row := emitRunsRow, standIns := [], harness := (true, "352b6dac866f3241092f2713ea6df9f7c76020ab92b38d458f11b8a9e8ccd613"), looks := true }, kinds := [], alts := [], laidByText := true, laidKinds := [.data, .data, .widerDeep, .data], laidTests := true, laidLooks := .later }
def EmitRunsCardSaid : Prop := Claim7.holds Tryz.pinned (.plain (OpenSpec.ofChange emitRunsSpec)) emitRunsCard

/-- THE TIED CARD OF 'mulliganlaw19.EmitNil'. -/
def emitNilCard : Claim7 := { stood := { row := emitNilRow, standIns := [], harness := (true, "352b6dac866f3241092f2713ea6df9f7c76020ab92b38d458f11b8a9e8ccd613"), looks := true }, kinds := [], alts := [], laidByText := true, laidKinds := [.data, .data, .widerDeep, .data], laidTests := true, laidLooks := .later }
def EmitNilCardSaid : Prop := Claim7.holds Tryz.pinned (.plain (OpenSpec.ofChange emitNilSpec)) emitNilCard

/-- THE SECOND FORM's CARD OF 'mulliganlaw19.EmitRight'. -/
def emitRightUptoCard : Claim7 := { stood := { row := emitRightUptoRow, standIns := [], harness := (true, "352b6dac866f3241092f2713ea6df9f7c76020ab92b38d458f11b8a9e8ccd613"), looks := true }, kinds := [], alts := [], laidByText := true, laidKinds := [.data, .data, .widerDeep, .data], laidTests := true, laidLooks := .later }
def EmitRightUptoCardSaid : Prop := Claim7.holds Tryz.pinned (.plain (OpenSpec.upto emitRightSpec)) emitRightUptoCard

/-- THE SECOND FORM's CARD OF 'mulliganlaw19.EmitRuns'. -/
def emitRunsUptoCard : Claim7 := { stood := { row := emitRunsUptoRow, standIns := [], harness := (true, "352b6dac866f3241092f2713ea6df9f7c76020ab92b38d458f11b8a9e8ccd613"), looks := true }, kinds := [], alts := [], laidByText := true, laidKinds := [.data, .data, .widerDeep, .data], laidTests := true, laidLooks := .later }
def EmitRunsUptoCardSaid : Prop := Claim7.holds Tryz.pinned (.plain (OpenSpec.upto emitRunsSpec)) emitRunsUptoCard

/-- THE SECOND FORM's CARD OF 'mulliganlaw19.EmitNil'. -/
def emitNilUptoCard : Claim7 := { stood := { row := emitNilUptoRow, standIns := [], harness := (true, "352b6dac866f3241092f2713ea6df9f7c76020ab92b38d458f11b8a9e8ccd613"), looks := true }, kinds := [], alts := [], laidByText := true, laidKinds := [.data, .data, .widerDeep, .data], laidTests := true, laidLooks := .later }
def EmitNilUptoCardSaid : Prop := Claim7.holds Tryz.pinned (.plain (OpenSpec.upto emitNilSpec)) emitNilUptoCard
end Rows
end Go.Proofs.YtnfpbjblbfcecaaGreatDoor
