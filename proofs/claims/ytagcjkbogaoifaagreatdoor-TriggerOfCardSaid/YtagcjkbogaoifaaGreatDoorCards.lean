/-
  DERIVED. GIVEN WITH THE SEED: THE CARDS: each row of YtagcjkbogaoifaaGreatDoorRows.lean that lists a variable, with what it lists TIED to the program's text (the seventh form; the later family's looks); each row that meets fmt, with fmt's text TOLD by the authors' own Lean function (tested against real Go, not proved from fmt's source: count such statements apart). THE CARD IS WHAT COUNTS. Prove the row's statement (the work); the ties are given (YtagcjkbogaoifaaGreatDoorTie.lean); close each card by the builder's one call (the guide's Derived/Test/ToyasCard.lean, 'card_holds'). Laid BY PROGRAM, IN A SANDBOX (cutbox-door.mjs). By AI agents, Wed Nov 11 2026. No macro, syntax, notation, axiom, sorry.
-/
import Derived.Test.YtagcjkbogaoifaaGreatDoorRows
import GoSem.ClaimSeven
namespace Go.Proofs.YtagcjkbogaoifaaGreatDoor
namespace Rows

/-- THE TIED CARD OF 'mulliganlaw21.TriggerOf'. -/
def triggerOfCard : Claim7 := { stood := { row := triggerOfRow, standIns := [], harness := (true, "2cc05e572f245a4b55603868a1cc787018d731d418d5aae56c992a321fdf3650"), looks := true }, kinds := [], alts := [], laidByText := true, laidKinds := [.data, .data, .widerDeep, .data], laidTests := true, laidLooks := .later }
def TriggerOfCardSaid : Prop := Claim7.holds Tryz.pinned (.plain (OpenSpec.ofChange triggerOfSpec)) triggerOfCard

/-- THE TIED CARD OF 'mulliganlaw21.TriggerEmpty'. -/
def triggerEmptyCard : Claim7 := { stood := { row := triggerEmptyRow, standIns := [], harness := (true, "2cc05e572f245a4b55603868a1cc787018d731d418d5aae56c992a321fdf3650"), looks := true }, kinds := [], alts := [], laidByText := true, laidKinds := [.data, .data, .widerDeep, .data], laidTests := true, laidLooks := .later }
def TriggerEmptyCardSaid : Prop := Claim7.holds Tryz.pinned (.plain (OpenSpec.ofChange triggerEmptySpec)) triggerEmptyCard

/-- THE TIED CARD OF 'mulliganlaw21.TriggerPuts'. -/
def triggerPutsCard : Claim7 := { stood := { row := triggerPutsRow, standIns := [], harness := (true, "2cc05e572f245a4b55603868a1cc787018d731d418d5aae56c992a321fdf3650"), looks := true }, kinds := [], alts := [], laidByText := true, laidKinds := [.data, .data, .widerDeep, .data], laidTests := true, laidLooks := .later }
def TriggerPutsCardSaid : Prop := Claim7.holds Tryz.pinned (.plain (OpenSpec.ofChange triggerPutsSpec)) triggerPutsCard

/-- THE SECOND FORM's CARD OF 'mulliganlaw21.TriggerOf'. -/
def triggerOfUptoCard : Claim7 := { stood := { row := triggerOfUptoRow, standIns := [], harness := (true, "2cc05e572f245a4b55603868a1cc787018d731d418d5aae56c992a321fdf3650"), looks := true }, kinds := [], alts := [], laidByText := true, laidKinds := [.data, .data, .widerDeep, .data], laidTests := true, laidLooks := .later }
def TriggerOfUptoCardSaid : Prop := Claim7.holds Tryz.pinned (.plain (OpenSpec.upto triggerOfSpec)) triggerOfUptoCard

/-- THE SECOND FORM's CARD OF 'mulliganlaw21.TriggerEmpty'. -/
def triggerEmptyUptoCard : Claim7 := { stood := { row := triggerEmptyUptoRow, standIns := [], harness := (true, "2cc05e572f245a4b55603868a1cc787018d731d418d5aae56c992a321fdf3650"), looks := true }, kinds := [], alts := [], laidByText := true, laidKinds := [.data, .data, .widerDeep, .data], laidTests := true, laidLooks := .later }
def TriggerEmptyUptoCardSaid : Prop := Claim7.holds Tryz.pinned (.plain (OpenSpec.upto triggerEmptySpec)) triggerEmptyUptoCard

/-- THE SECOND FORM's CARD OF 'mulliganlaw21.TriggerPuts'. -/
def triggerPutsUptoCard : Claim7 := { stood := { row := triggerPutsUptoRow, standIns := [], harness := (true, "2cc05e572f245a4b55603868a1cc787018d731d418d5aae56c992a321fdf3650"), looks := true }, kinds := [], alts := [], laidByText := true, laidKinds := [.data, .data, .widerDeep, .data], laidTests := true, laidLooks := .later }
def TriggerPutsUptoCardSaid : Prop := Claim7.holds Tryz.pinned (.plain (OpenSpec.upto triggerPutsSpec)) triggerPutsUptoCard
end Rows
end Go.Proofs.YtagcjkbogaoifaaGreatDoor
