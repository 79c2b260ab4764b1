/-
  DERIVED. GIVEN WITH THE SEED: THE CARDS: each row of YtncbcaabanoeoaaGreatDoorRows.lean that lists a variable, with what it lists TIED to the program's text (the seventh form; the later family's looks); each row that meets fmt, with fmt's text TOLD by the authors' own Lean function (tested against real Go, not proved from fmt's source: count such statements apart). THE CARD IS WHAT COUNTS. Prove the row's statement (the work); the ties are given (YtncbcaabanoeoaaGreatDoorTie.lean); close each card by the builder's one call (the guide's Derived/Test/ToyasCard.lean, 'card_holds'). Laid BY PROGRAM, IN A SANDBOX (cutbox-door.mjs). By AI agents, Wed Nov 11 2026. No macro, syntax, notation, axiom, sorry.
-/
import Derived.Test.YtncbcaabanoeoaaGreatDoorRows
import GoSem.ClaimSeven
namespace Go.Proofs.YtncbcaabanoeoaaGreatDoor
namespace Rows

/-- THE TIED CARD OF 'nearhandlaw20.ExecKeys'. -/
def execKeysCard : Claim7 := { stood := { row := execKeysRow, standIns := [], harness := (true, "c6095d1612953cd9a2e2a3b4cdf0ff011c6f26928538abf98452bf43305fa43c"), looks := true }, kinds := [], alts := [], laidByText := true, laidKinds := [.data, .data, .widerDeep, .widerDeep, .data, .data, .data, .data, .data, .data, .sentinel, .sentinel, .pinned, .pinned, .pinned, .pinned], laidTests := true, laidLooks := .later }
def ExecKeysCardSaid : Prop := Claim7.holds Tryz.pinned (.plain (OpenSpec.ofChange execKeysSpec)) execKeysCard

/-- THE TIED CARD OF 'nearhandlaw20.ExecReads'. -/
def execReadsCard : Claim7 := { stood := { row := execReadsRow, standIns := [], harness := (true, "c6095d1612953cd9a2e2a3b4cdf0ff011c6f26928538abf98452bf43305fa43c"), looks := true }, kinds := [], alts := [], laidByText := true, laidKinds := [.data, .data, .widerDeep, .widerDeep, .data, .data, .data, .data, .data, .data, .sentinel, .sentinel, .pinned, .pinned, .pinned, .pinned], laidTests := true, laidLooks := .later }
def ExecReadsCardSaid : Prop := Claim7.holds Tryz.pinned (.plain (OpenSpec.ofChange execReadsSpec)) execReadsCard

/-- THE SECOND FORM's CARD OF 'nearhandlaw20.ExecKeys'. -/
def execKeysUptoCard : Claim7 := { stood := { row := execKeysUptoRow, standIns := [], harness := (true, "c6095d1612953cd9a2e2a3b4cdf0ff011c6f26928538abf98452bf43305fa43c"), looks := true }, kinds := [], alts := [], laidByText := true, laidKinds := [.data, .data, .widerDeep, .widerDeep, .data, .data, .data, .data, .data, .data, .sentinel, .sentinel, .pinned, .pinned, .pinned, .pinned], laidTests := true, laidLooks := .later }
def ExecKeysUptoCardSaid : Prop := Claim7.holds Tryz.pinned (.plain (OpenSpec.upto execKeysSpec)) execKeysUptoCard

/-- THE SECOND FORM's CARD OF 'nearhandlaw20.ExecReads'. -/
def execReadsUptoCard : Claim7 := { stood := { row := execReadsUptoRow, standIns := [], harness := (true, "c6095d1612953cd9a2e2a3b4cdf0ff011c6f26928538abf98452bf43305fa43c"), looks := true }, kinds := [], alts := [], laidByText := true, laidKinds := [.data, .data, .widerDeep, .widerDeep, .data, .data, .data, .data, .data, .data, .sentinel, .sentinel, .pinned, .pinned, .pinned, .pinned], laidTests := true, laidLooks := .later }
def ExecReadsUptoCardSaid : Prop := Claim7.holds Tryz.pinned (.plain (OpenSpec.upto execReadsSpec)) execReadsUptoCard
end Rows
end Go.Proofs.YtncbcaabanoeoaaGreatDoor
