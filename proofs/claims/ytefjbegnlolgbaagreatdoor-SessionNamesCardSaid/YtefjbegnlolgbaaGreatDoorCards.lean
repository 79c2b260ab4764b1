/-
  DERIVED. GIVEN WITH THE SEED: THE CARDS: each row of YtefjbegnlolgbaaGreatDoorRows.lean that lists a variable, with what it lists TIED to the program's text (the seventh form; the later family's looks); each row that meets fmt, with fmt's text TOLD by the authors' own Lean function (tested against real Go, not proved from fmt's source: count such statements apart). THE CARD IS WHAT COUNTS. Prove the row's statement (the work); the ties are given (YtefjbegnlolgbaaGreatDoorTie.lean); close each card by the builder's one call (the guide's Derived/Test/ToyasCard.lean, 'card_holds'). Laid BY PROGRAM, IN A SANDBOX (cutbox-door.mjs). By AI agents, Wed Nov 11 2026. No macro, syntax, notation, axiom, sorry.
-/
import Derived.Test.YtefjbegnlolgbaaGreatDoorRows
import GoSem.ClaimSeven
namespace Go.Proofs.YtefjbegnlolgbaaGreatDoor
namespace Rows

/-- THE TIED CARD OF 'nearhandlaw21.SessionNames'. -/
def sessionNamesCard : Claim7 := { stood := { row := sessionNamesRow, standIns := [], harness := (true, "40dde701e33345931beea5e1c9d9310e06a5e6eff0e3de3f765324b882fe6e93"), looks := true }, kinds := [], alts := [], laidByText := true, laidKinds := [.data, .data, .widerDeep, .widerDeep, .data, .data, .data, .data, .data, .data, .sentinel, .sentinel, .pinned, .pinned, .pinned, .pinned], laidTests := true, laidLooks := .later }
def SessionNamesCardSaid : Prop := Claim7.holds Tryz.pinned (.plain (OpenSpec.ofChange sessionNamesSpec)) sessionNamesCard

/-- THE SECOND FORM's CARD OF 'nearhandlaw21.SessionNames'. -/
def sessionNamesUptoCard : Claim7 := { stood := { row := sessionNamesUptoRow, standIns := [], harness := (true, "40dde701e33345931beea5e1c9d9310e06a5e6eff0e3de3f765324b882fe6e93"), looks := true }, kinds := [], alts := [], laidByText := true, laidKinds := [.data, .data, .widerDeep, .widerDeep, .data, .data, .data, .data, .data, .data, .sentinel, .sentinel, .pinned, .pinned, .pinned, .pinned], laidTests := true, laidLooks := .later }
def SessionNamesUptoCardSaid : Prop := Claim7.holds Tryz.pinned (.plain (OpenSpec.upto sessionNamesSpec)) sessionNamesUptoCard
end Rows
end Go.Proofs.YtefjbegnlolgbaaGreatDoor
