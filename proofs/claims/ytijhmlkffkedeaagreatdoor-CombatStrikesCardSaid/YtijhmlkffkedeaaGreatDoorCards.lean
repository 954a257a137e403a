/-
  DERIVED. GIVEN WITH THE SEED: THE CARDS: each row of YtijhmlkffkedeaaGreatDoorRows.lean that lists a variable, with what it lists TIED to the program's text (the seventh form; the later family's looks); each row that meets fmt, with fmt's text TOLD by the authors' own Lean function (tested against real Go, not proved from fmt's source: count such statements apart). THE CARD IS WHAT COUNTS. Prove the row's statement (the work); the ties are given (YtijhmlkffkedeaaGreatDoorTie.lean); close each card by the builder's one call (the guide's Derived/Test/ToyasCard.lean, 'card_holds'). Laid BY PROGRAM, IN A SANDBOX (cutbox-door.mjs). By AI agents, Wed Nov 11 2026. No macro, syntax, notation, axiom, sorry.
-/
import Derived.Test.YtijhmlkffkedeaaGreatDoorRows
import GoSem.ClaimSeven
namespace Go.Proofs.YtijhmlkffkedeaaGreatDoor
namespace Rows

/-- THE TIED CARD OF 'mulliganlaw24.CombatStrikes'. -/
def combatStrikesCard : Claim7 := { stood := { row := combatStrikesRow, standIns := [], harness := (true, "fd4cc76208490ec8c2ca15f5601e2391e8857f2a5ad2894c7360e330ab437a89"), looks := true }, kinds := [], alts := [], laidByText := true, laidKinds := [.data, .data, .widerDeep], laidTests := true, laidLooks := .later }
def CombatStrikesCardSaid : Prop := Claim7.holds Tryz.pinned (.plain (OpenSpec.ofChange combatStrikesSpec)) combatStrikesCard

/-- THE TIED CARD OF 'mulliganlaw24.CombatDeclares'. -/
def combatDeclaresCard : Claim7 := { stood := { row := combatDeclaresRow, standIns := [], harness := (true, "fd4cc76208490ec8c2ca15f5601e2391e8857f2a5ad2894c7360e330ab437a89"), looks := true }, kinds := [], alts := [], laidByText := true, laidKinds := [.data, .data, .widerDeep], laidTests := true, laidLooks := .later }
def CombatDeclaresCardSaid : Prop := Claim7.holds Tryz.pinned (.plain (OpenSpec.ofChange combatDeclaresSpec)) combatDeclaresCard

/-- THE TIED CARD OF 'mulliganlaw24.CombatKeeps'. -/
def combatKeepsCard : Claim7 := { stood := { row := combatKeepsRow, standIns := [], harness := (true, "fd4cc76208490ec8c2ca15f5601e2391e8857f2a5ad2894c7360e330ab437a89"), looks := true }, kinds := [], alts := [], laidByText := true, laidKinds := [.data, .data, .widerDeep], laidTests := true, laidLooks := .later }
def CombatKeepsCardSaid : Prop := Claim7.holds Tryz.pinned (.plain (OpenSpec.ofChange combatKeepsSpec)) combatKeepsCard

/-- THE SECOND FORM's CARD OF 'mulliganlaw24.CombatStrikes'. -/
def combatStrikesUptoCard : Claim7 := { stood := { row := combatStrikesUptoRow, standIns := [], harness := (true, "fd4cc76208490ec8c2ca15f5601e2391e8857f2a5ad2894c7360e330ab437a89"), looks := true }, kinds := [], alts := [], laidByText := true, laidKinds := [.data, .data, .widerDeep], laidTests := true, laidLooks := .later }
def CombatStrikesUptoCardSaid : Prop := Claim7.holds Tryz.pinned (.plain (OpenSpec.upto combatStrikesSpec)) combatStrikesUptoCard

/-- THE SECOND FORM's CARD OF 'mulliganlaw24.CombatDeclares'. -/
def combatDeclaresUptoCard : Claim7 := { stood := { row := combatDeclaresUptoRow, standIns := [], harness := (true, "fd4cc76208490ec8c2ca15f5601e2391e8857f2a5ad2894c7360e330ab437a89"), looks := true }, kinds := [], alts := [], laidByText := true, laidKinds := [.data, .data, .widerDeep], laidTests := true, laidLooks := .later }
def CombatDeclaresUptoCardSaid : Prop := Claim7.holds Tryz.pinned (.plain (OpenSpec.upto combatDeclaresSpec)) combatDeclaresUptoCard

/-- THE SECOND FORM's CARD OF 'mulliganlaw24.CombatKeeps'. -/
def combatKeepsUptoCard : Claim7 := { stood := { row := combatKeepsUptoRow, standIns := [], harness := (true, "fd4cc76208490ec8c2ca15f5601e2391e8857f2a5ad2894c7360e330ab437a89"), looks := true }, kinds := [], alts := [], laidByText := true, laidKinds := [.data, .data, .widerDeep], laidTests := true, laidLooks := .later }
def CombatKeepsUptoCardSaid : Prop := Claim7.holds Tryz.pinned (.plain (OpenSpec.upto combatKeepsSpec)) combatKeepsUptoCard
end Rows
end Go.Proofs.YtijhmlkffkedeaaGreatDoor
