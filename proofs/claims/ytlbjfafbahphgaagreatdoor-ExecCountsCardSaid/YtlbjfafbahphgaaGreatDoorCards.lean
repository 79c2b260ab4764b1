/-
  DERIVED. GIVEN WITH THE SEED: THE CARDS: each row of YtlbjfafbahphgaaGreatDoorRows.lean that lists a variable, with what it lists TIED to the program's text (the seventh form; the later family's looks); each row that meets fmt, with fmt's text TOLD by the authors' own Lean function (tested against real Go, not proved from fmt's source: count such statements apart). THE CARD IS WHAT COUNTS. Prove the row's statement (the work); the ties are given (YtlbjfafbahphgaaGreatDoorTie.lean); close each card by the builder's one call (the guide's Derived/Test/ToyasCard.lean, 'card_holds'). Laid BY PROGRAM, IN A SANDBOX (cutbox-door.mjs). By AI agents, Wed Nov 11 2026. No macro, syntax, notation, axiom, sorry.
-/
import Derived.Test.YtlbjfafbahphgaaGreatDoorRows
import GoSem.ClaimSeven
namespace Go.Proofs.YtlbjfafbahphgaaGreatDoor
namespace Rows

/-- THE TIED CARD OF 'nearhandlaw20.ExecKeys'. -/
def execKeysCard : Claim7 := { stood := { row := execKeysRow, standIns := [], harness := (true, "bf1758e42f65023154baa4354ce5a74e66b9b6f73b2eb9b4768ce597571f7b01"), looks := true }, kinds := [], alts := [], laidByText := true, laidKinds := [.data, .data, .widerDeep, .widerDeep, .data, .data, .data, .data, .data, .data, .sentinel, .sentinel, .pinned, .pinned, .pinned, .pinned], laidTests := true, laidLooks := .later }
def ExecKeysCardSaid : Prop := Claim7.holds Tryz.pinned (.plain (OpenSpec.ofChange execKeysSpec)) execKeysCard

/-- THE TIED CARD OF 'nearhandlaw20.ExecReads'. -/
def execReadsCard : Claim7 := { stood := { row := execReadsRow, standIns := [], harness := (true, "bf1758e42f65023154baa4354ce5a74e66b9b6f73b2eb9b4768ce597571f7b01"), looks := true }, kinds := [], alts := [], laidByText := true, laidKinds := [.data, .data, .widerDeep, .widerDeep, .data, .data, .data, .data, .data, .data, .sentinel, .sentinel, .pinned, .pinned, .pinned, .pinned], laidTests := true, laidLooks := .later }
def ExecReadsCardSaid : Prop := Claim7.holds Tryz.pinned (.plain (OpenSpec.ofChange execReadsSpec)) execReadsCard

/-- THE TIED CARD OF 'nearhandlaw20.ExecCounts'. -/
def execCountsCard : Claim7 := { stood := { row := execCountsRow, standIns := [], harness := (true, "bf1758e42f65023154baa4354ce5a74e66b9b6f73b2eb9b4768ce597571f7b01"), looks := true }, kinds := [], alts := [], laidByText := true, laidKinds := [.data, .data, .widerDeep, .widerDeep, .data, .data, .data, .data, .data, .data, .sentinel, .sentinel, .pinned, .pinned, .pinned, .pinned], laidTests := true, laidLooks := .later }
def ExecCountsCardSaid : Prop := Claim7.holds Tryz.pinned (.plain (OpenSpec.ofChange execCountsSpec)) execCountsCard

/-- THE SECOND FORM's CARD OF 'nearhandlaw20.ExecKeys'. -/
def execKeysUptoCard : Claim7 := { stood := { row := execKeysUptoRow, standIns := [], harness := (true, "bf1758e42f65023154baa4354ce5a74e66b9b6f73b2eb9b4768ce597571f7b01"), looks := true }, kinds := [], alts := [], laidByText := true, laidKinds := [.data, .data, .widerDeep, .widerDeep, .data, .data, .data, .data, .data, .data, .sentinel, .sentinel, .pinned, .pinned, .pinned, .pinned], laidTests := true, laidLooks := .later }
def ExecKeysUptoCardSaid : Prop := Claim7.holds Tryz.pinned (.plain (OpenSpec.upto execKeysSpec)) execKeysUptoCard

/-- THE SECOND FORM's CARD OF 'nearhandlaw20.ExecReads'. -/
def execReadsUptoCard : Claim7 := { stood := { row := execReadsUptoRow, standIns := [], harness := (true, "bf1758e42f65023154baa4354ce5a74e66b9b6f73b2eb9b4768ce597571f7b01"), looks := true }, kinds := [], alts := [], laidByText := true, laidKinds := [.data, .data, .widerDeep, .widerDeep, .data, .data, .data, .data, .data, .data, .sentinel, .sentinel, .pinned, .pinned, .pinned, .pinned], laidTests := true, laidLooks := .later }
def ExecReadsUptoCardSaid : Prop := Claim7.holds Tryz.pinned (.plain (OpenSpec.upto execReadsSpec)) execReadsUptoCard

/-- THE SECOND FORM's CARD OF 'nearhandlaw20.ExecCounts'. -/
def execCountsUptoCard : Claim7 := { stood := { row := execCountsUptoRow, standIns := [], harness := (true, "bf1758e42f65023154baa4354ce5a74e66b9b6f73b2eb9b4768ce597571f7b01"), looks := true }, kinds := [], alts := [], laidByText := true, laidKinds := [.data, .data, .widerDeep, .widerDeep, .data, .data, .data, .data, .data, .data, .sentinel, .sentinel, .pinned, .pinned, .pinned, .pinned], laidTests := true, laidLooks := .later }
def ExecCountsUptoCardSaid : Prop := Claim7.holds Tryz.pinned (.plain (OpenSpec.upto execCountsSpec)) execCountsUptoCard
end Rows
end Go.Proofs.YtlbjfafbahphgaaGreatDoor
