/-
  DERIVED. GIVEN WITH THE SEED: THE CARDS: each row of YtiimlopcifljeaaGreatDoorRows.lean that lists a variable, with what it lists TIED to the program's text (the seventh form; the later family's looks); each row that meets fmt, with fmt's text TOLD by the authors' own Lean function (tested against real Go, not proved from fmt's source: count such statements apart). THE CARD IS WHAT COUNTS. Prove the row's statement (the work); the ties are given (YtiimlopcifljeaaGreatDoorTie.lean); close each card by the builder's one call (the guide's Derived/Test/ToyasCard.lean, 'card_holds'). Laid BY PROGRAM, IN A SANDBOX (cutbox-door.mjs). By AI agents, Wed Nov 11 2026. No macro, syntax, notation, axiom, sorry.
-/
import Derived.Test.YtiimlopcifljeaaGreatDoorRows
import GoSem.ClaimSeven
namespace Go.Proofs.YtiimlopcifljeaaGreatDoor
namespace Rows

/-- THE TIED CARD OF 'vinculumlaw28.ConsoleNumbers'. -/
def consoleNumbersCard : Claim7 := { stood := { row := consoleNumbersRow, standIns := [], harness := (true, "14f1150dfc39b37db0a3d723accf858fe0f82c8584c76b3e6f62e2dea40acc49"), looks := true }, kinds := [], alts := [], laidByText := true, laidKinds := [.data, .data, .data, .data, .sentinel, .sentinel, .pinned], laidTests := true, laidLooks := .later }
def ConsoleNumbersCardSaid : Prop := Claim7.holds Tryz.pinned (.plain (OpenSpec.ofChange consoleNumbersSpec)) consoleNumbersCard

/-- THE TIED CARD OF 'vinculumlaw28.ConsoleParses'. -/
def consoleParsesCard : Claim7 := { stood := { row := consoleParsesRow, standIns := [], harness := (true, "14f1150dfc39b37db0a3d723accf858fe0f82c8584c76b3e6f62e2dea40acc49"), looks := true }, kinds := [], alts := [], laidByText := true, laidKinds := [.data, .data, .data, .data, .sentinel, .sentinel, .pinned], laidTests := true, laidLooks := .later }
def ConsoleParsesCardSaid : Prop := Claim7.holds Tryz.pinned (.plain (OpenSpec.ofChange consoleParsesSpec)) consoleParsesCard

/-- THE TIED CARD OF 'vinculumlaw28.ConsoleBounds'. -/
def consoleBoundsCard : Claim7 := { stood := { row := consoleBoundsRow, standIns := [], harness := (true, "14f1150dfc39b37db0a3d723accf858fe0f82c8584c76b3e6f62e2dea40acc49"), looks := true }, kinds := [], alts := [], laidByText := true, laidKinds := [.data, .data, .data, .data, .sentinel, .sentinel, .pinned], laidTests := true, laidLooks := .later }
def ConsoleBoundsCardSaid : Prop := Claim7.holds Tryz.pinned (.plain (OpenSpec.ofChange consoleBoundsSpec)) consoleBoundsCard

/-- THE SECOND FORM's CARD OF 'vinculumlaw28.ConsoleNumbers'. -/
def consoleNumbersUptoCard : Claim7 := { stood := { row := consoleNumbersUptoRow, standIns := [], harness := (true, "14f1150dfc39b37db0a3d723accf858fe0f82c8584c76b3e6f62e2dea40acc49"), looks := true }, kinds := [], alts := [], laidByText := true, laidKinds := [.data, .data, .data, .data, .sentinel, .sentinel, .pinned], laidTests := true, laidLooks := .later }
def ConsoleNumbersUptoCardSaid : Prop := Claim7.holds Tryz.pinned (.plain (OpenSpec.upto consoleNumbersSpec)) consoleNumbersUptoCard

/-- THE SECOND FORM's CARD OF 'vinculumlaw28.ConsoleParses'. -/
def consoleParsesUptoCard : Claim7 := { stood := { row := consoleParsesUptoRow, standIns := [], harness := (true, "14f1150dfc39b37db0a3d723accf858fe0f82c8584c76b3e6f62e2dea40acc49"), looks := true }, kinds := [], alts := [], laidByText := true, laidKinds := [.data, .data, .data, .data, .sentinel, .sentinel, .pinned], laidTests := true, laidLooks := .later }
def ConsoleParsesUptoCardSaid : Prop := Claim7.holds Tryz.pinned (.plain (OpenSpec.upto consoleParsesSpec)) consoleParsesUptoCard

/-- THE SECOND FORM's CARD OF 'vinculumlaw28.ConsoleBounds'. -/
def consoleBoundsUptoCard : Claim7 := { stood := { row := consoleBoundsUptoRow, standIns := [], harness := (true, "14f1150dfc39b37db0a3d723accf858fe0f82c8584c76b3e6f62e2dea40acc49"), looks := true }, kinds := [], alts := [], laidByText := true, laidKinds := [.data, .data, .data, .data, .sentinel, .sentinel, .pinned], laidTests := true, laidLooks := .later }
def ConsoleBoundsUptoCardSaid : Prop := Claim7.holds Tryz.pinned (.plain (OpenSpec.upto consoleBoundsSpec)) consoleBoundsUptoCard
end Rows
end Go.Proofs.YtiimlopcifljeaaGreatDoor
