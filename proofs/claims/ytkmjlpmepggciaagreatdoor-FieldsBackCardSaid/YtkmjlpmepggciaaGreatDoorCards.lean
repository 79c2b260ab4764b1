/-
  DERIVED. GIVEN WITH THE SEED: THE CARDS: each row of YtkmjlpmepggciaaGreatDoorRows.lean that lists a variable, with what it lists TIED to the program's text (the seventh form; the later family's looks); each row that meets fmt, with fmt's text TOLD by the authors' own Lean function (tested against real Go, not proved from fmt's source: count such statements apart). THE CARD IS WHAT COUNTS. Prove the row's statement (the work); the ties are given (YtkmjlpmepggciaaGreatDoorTie.lean); close each card by the builder's one call (the guide's Derived/Test/ToyasCard.lean, 'card_holds'). Laid BY PROGRAM, IN A SANDBOX (cutbox-door.mjs). By AI agents, Wed Nov 11 2026. No macro, syntax, notation, axiom, sorry.
-/
import Derived.Test.YtkmjlpmepggciaaGreatDoorRows
import GoSem.ClaimSeven
namespace Go.Proofs.YtkmjlpmepggciaaGreatDoor
namespace Rows

/-- THE TIED CARD OF 'nearhandlaw19.FieldsBack'. -/
def fieldsBackCard : Claim7 := { stood := { row := fieldsBackRow, standIns := [], harness := (true, "f54b9bdfb56be64ce5a5bb4905a02f541adc98ae07f7da7b79409cd298d6976e"), looks := true }, kinds := [], alts := [], laidByText := true, laidKinds := [.data, .data, .data, .data, .sentinel, .sentinel, .pinned, .pinned], laidTests := true, laidLooks := .later }
def FieldsBackCardSaid : Prop := Claim7.holds Tryz.pinned (.plain (OpenSpec.ofChange fieldsBackSpec)) fieldsBackCard

/-- THE TIED CARD OF 'nearhandlaw18.TextsNames'. -/
def textsNamesCard : Claim7 := { stood := { row := textsNamesRow, standIns := [], harness := (true, "f54b9bdfb56be64ce5a5bb4905a02f541adc98ae07f7da7b79409cd298d6976e"), looks := true }, kinds := [], alts := [], laidByText := true, laidKinds := [.data, .data, .widerDeep, .widerDeep, .data, .data, .data, .data, .data, .data, .sentinel, .sentinel, .pinned, .pinned, .pinned, .pinned], laidTests := true, laidLooks := .later }
def TextsNamesCardSaid : Prop := Claim7.holds Tryz.pinned (.plain (OpenSpec.ofChange textsNamesSpec)) textsNamesCard

/-- THE TIED CARD OF 'nearhandlaw18.TextsWhen'. -/
def textsWhenCard : Claim7 := { stood := { row := textsWhenRow, standIns := [], harness := (true, "f54b9bdfb56be64ce5a5bb4905a02f541adc98ae07f7da7b79409cd298d6976e"), looks := true }, kinds := [], alts := [], laidByText := true, laidKinds := [.data, .data, .widerDeep, .widerDeep, .data, .data, .data, .data, .data, .data, .sentinel, .sentinel, .pinned, .pinned, .pinned, .pinned], laidTests := true, laidLooks := .later }
def TextsWhenCardSaid : Prop := Claim7.holds Tryz.pinned (.plain (OpenSpec.ofChange textsWhenSpec)) textsWhenCard

/-- THE TIED CARD OF 'nearhandlaw18.TextsBack'. -/
def textsBackCard : Claim7 := { stood := { row := textsBackRow, standIns := [], harness := (true, "f54b9bdfb56be64ce5a5bb4905a02f541adc98ae07f7da7b79409cd298d6976e"), looks := true }, kinds := [], alts := [], laidByText := true, laidKinds := [.data, .data, .widerDeep, .widerDeep, .data, .data, .data, .data, .data, .data, .sentinel, .sentinel, .pinned, .pinned, .pinned, .pinned], laidTests := true, laidLooks := .later }
def TextsBackCardSaid : Prop := Claim7.holds Tryz.pinned (.plain (OpenSpec.ofChange textsBackSpec)) textsBackCard

/-- THE TIED CARD OF 'nearhandlaw18.TextsMany'. -/
def textsManyCard : Claim7 := { stood := { row := textsManyRow, standIns := [], harness := (true, "f54b9bdfb56be64ce5a5bb4905a02f541adc98ae07f7da7b79409cd298d6976e"), looks := true }, kinds := [], alts := [], laidByText := true, laidKinds := [.data, .data, .widerDeep, .widerDeep, .data, .data, .data, .data, .data, .data, .sentinel, .sentinel, .pinned, .pinned, .pinned, .pinned], laidTests := true, laidLooks := .later }
def TextsManyCardSaid : Prop := Claim7.holds Tryz.pinned (.plain (OpenSpec.ofChange textsManySpec)) textsManyCard

/-- THE TIED CARD OF 'nearhandlaw18.TextsOptions'. -/
def textsOptionsCard : Claim7 := { stood := { row := textsOptionsRow, standIns := [], harness := (true, "f54b9bdfb56be64ce5a5bb4905a02f541adc98ae07f7da7b79409cd298d6976e"), looks := true }, kinds := [], alts := [], laidByText := true, laidKinds := [.data, .data, .widerDeep, .widerDeep, .data, .data, .data, .data, .data, .data, .sentinel, .sentinel, .pinned, .pinned, .pinned, .pinned], laidTests := true, laidLooks := .later }
def TextsOptionsCardSaid : Prop := Claim7.holds Tryz.pinned (.plain (OpenSpec.ofChange textsOptionsSpec)) textsOptionsCard

/-- THE TIED CARD OF 'nearhandlaw18.TextsRuns'. -/
def textsRunsCard : Claim7 := { stood := { row := textsRunsRow, standIns := [], harness := (true, "f54b9bdfb56be64ce5a5bb4905a02f541adc98ae07f7da7b79409cd298d6976e"), looks := true }, kinds := [], alts := [], laidByText := true, laidKinds := [.data, .data, .widerDeep, .widerDeep, .data, .data, .data, .data, .data, .data, .sentinel, .sentinel, .pinned, .pinned, .pinned, .pinned], laidTests := true, laidLooks := .later }
def TextsRunsCardSaid : Prop := Claim7.holds Tryz.pinned (.plain (OpenSpec.ofChange textsRunsSpec)) textsRunsCard

/-- THE TIED CARD OF 'nearhandlaw19.FieldsRuns'. -/
def fieldsRunsCard : Claim7 := { stood := { row := fieldsRunsRow, standIns := [], harness := (true, "f54b9bdfb56be64ce5a5bb4905a02f541adc98ae07f7da7b79409cd298d6976e"), looks := true }, kinds := [], alts := [], laidByText := true, laidKinds := [.data, .data, .widerDeep, .widerDeep, .data, .data, .data, .data, .data, .data, .sentinel, .sentinel, .pinned, .pinned, .pinned, .pinned], laidTests := true, laidLooks := .later }
def FieldsRunsCardSaid : Prop := Claim7.holds Tryz.pinned (.plain (OpenSpec.ofChange fieldsRunsSpec)) fieldsRunsCard

/-- THE SECOND FORM's CARD OF 'nearhandlaw19.FieldsBack'. -/
def fieldsBackUptoCard : Claim7 := { stood := { row := fieldsBackUptoRow, standIns := [], harness := (true, "f54b9bdfb56be64ce5a5bb4905a02f541adc98ae07f7da7b79409cd298d6976e"), looks := true }, kinds := [], alts := [], laidByText := true, laidKinds := [.data, .data, .data, .data, .sentinel, .sentinel, .pinned, .pinned], laidTests := true, laidLooks := .later }
def FieldsBackUptoCardSaid : Prop := Claim7.holds Tryz.pinned (.plain (OpenSpec.upto fieldsBackSpec)) fieldsBackUptoCard

/-- THE SECOND FORM's CARD OF 'nearhandlaw18.TextsNames'. -/
def textsNamesUptoCard : Claim7 := { stood := { row := textsNamesUptoRow, standIns := [], harness := (true, "f54b9bdfb56be64ce5a5bb4905a02f541adc98ae07f7da7b79409cd298d6976e"), looks := true }, kinds := [], alts := [], laidByText := true, laidKinds := [.data, .data, .widerDeep, .widerDeep, .data, .data, .data, .data, .data, .data, .sentinel, .sentinel, .pinned, .pinned, .pinned, .pinned], laidTests := true, laidLooks := .later }
def TextsNamesUptoCardSaid : Prop := Claim7.holds Tryz.pinned (.plain (OpenSpec.upto textsNamesSpec)) textsNamesUptoCard

/-- THE SECOND FORM's CARD OF 'nearhandlaw18.TextsWhen'. -/
def textsWhenUptoCard : Claim7 := { stood := { row := textsWhenUptoRow, standIns := [], harness := (true, "f54b9bdfb56be64ce5a5bb4905a02f541adc98ae07f7da7b79409cd298d6976e"), looks := true }, kinds := [], alts := [], laidByText := true, laidKinds := [.data, .data, .widerDeep, .widerDeep, .data, .data, .data, .data, .data, .data, .sentinel, .sentinel, .pinned, .pinned, .pinned, .pinned], laidTests := true, laidLooks := .later }
def TextsWhenUptoCardSaid : Prop := Claim7.holds Tryz.pinned (.plain (OpenSpec.upto textsWhenSpec)) textsWhenUptoCard

/-- THE SECOND FORM's CARD OF 'nearhandlaw18.TextsBack'. -/
def textsBackUptoCard : Claim7 := { stood := { row := textsBackUptoRow, standIns := [], harness := (true, "f54b9bdfb56be64ce5a5bb4905a02f541adc98ae07f7da7b79409cd298d6976e"), looks := true }, kinds := [], alts := [], laidByText := true, laidKinds := [.data, .data, .widerDeep, .widerDeep, .data, .data, .data, .data, .data, .data, .sentinel, .sentinel, .pinned, .pinned, .pinned, .pinned], laidTests := true, laidLooks := .later }
def TextsBackUptoCardSaid : Prop := Claim7.holds Tryz.pinned (.plain (OpenSpec.upto textsBackSpec)) textsBackUptoCard

/-- THE SECOND FORM's CARD OF 'nearhandlaw18.TextsMany'. -/
def textsManyUptoCard : Claim7 := { stood := { row := textsManyUptoRow, standIns := [], harness := (true, "f54b9bdfb56be64ce5a5bb4905a02f541adc98ae07f7da7b79409cd298d6976e"), looks := true }, kinds := [], alts := [], laidByText := true, laidKinds := [.data, .data, .widerDeep, .widerDeep, .data, .data, .data, .data, .data, .data, .sentinel, .sentinel, .pinned, .pinned, .pinned, .pinned], laidTests := true, laidLooks := .later }
def TextsManyUptoCardSaid : Prop := Claim7.holds Tryz.pinned (.plain (OpenSpec.upto textsManySpec)) textsManyUptoCard

/-- THE SECOND FORM's CARD OF 'nearhandlaw18.TextsOptions'. -/
def textsOptionsUptoCard : Claim7 := { stood := { row := textsOptionsUptoRow, standIns := [], harness := (true, "f54b9bdfb56be64ce5a5bb4905a02f541adc98ae07f7da7b79409cd298d6976e"), looks := true }, kinds := [], alts := [], laidByText := true, laidKinds := [.data, .data, .widerDeep, .widerDeep, .data, .data, .data, .data, .data, .data, .sentinel, .sentinel, .pinned, .pinned, .pinned, .pinned], laidTests := true, laidLooks := .later }
def TextsOptionsUptoCardSaid : Prop := Claim7.holds Tryz.pinned (.plain (OpenSpec.upto textsOptionsSpec)) textsOptionsUptoCard

/-- THE SECOND FORM's CARD OF 'nearhandlaw18.TextsRuns'. -/
def textsRunsUptoCard : Claim7 := { stood := { row := textsRunsUptoRow, standIns := [], harness := (true, "f54b9bdfb56be64ce5a5bb4905a02f541adc98ae07f7da7b79409cd298d6976e"), looks := true }, kinds := [], alts := [], laidByText := true, laidKinds := [.data, .data, .widerDeep, .widerDeep, .data, .data, .data, .data, .data, .data, .sentinel, .sentinel, .pinned, .pinned, .pinned, .pinned], laidTests := true, laidLooks := .later }
def TextsRunsUptoCardSaid : Prop := Claim7.holds Tryz.pinned (.plain (OpenSpec.upto textsRunsSpec)) textsRunsUptoCard

/-- THE SECOND FORM's CARD OF 'nearhandlaw19.FieldsRuns'. -/
def fieldsRunsUptoCard : Claim7 := { stood := { row := fieldsRunsUptoRow, standIns := [], harness := (true, "f54b9bdfb56be64ce5a5bb4905a02f541adc98ae07f7da7b79409cd298d6976e"), looks := true }, kinds := [], alts := [], laidByText := true, laidKinds := [.data, .data, .widerDeep, .widerDeep, .data, .data, .data, .data, .data, .data, .sentinel, .sentinel, .pinned, .pinned, .pinned, .pinned], laidTests := true, laidLooks := .later }
def FieldsRunsUptoCardSaid : Prop := Claim7.holds Tryz.pinned (.plain (OpenSpec.upto fieldsRunsSpec)) fieldsRunsUptoCard
end Rows
end Go.Proofs.YtkmjlpmepggciaaGreatDoor
