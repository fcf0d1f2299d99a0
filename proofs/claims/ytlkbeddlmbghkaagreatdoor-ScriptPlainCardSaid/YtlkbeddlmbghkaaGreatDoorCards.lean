/-
  DERIVED. GIVEN WITH THE SEED: THE CARDS: each row of YtlkbeddlmbghkaaGreatDoorRows.lean that lists a variable, with what it lists TIED to the program's text (the seventh form; the later family's looks); each row that meets fmt, with fmt's text TOLD by the authors' own Lean function (tested against real Go, not proved from fmt's source: count such statements apart). THE CARD IS WHAT COUNTS. Prove the row's statement (the work); the ties are given (YtlkbeddlmbghkaaGreatDoorTie.lean); close each card by the builder's one call (the guide's Derived/Test/ToyasCard.lean, 'card_holds'). Laid BY PROGRAM, IN A SANDBOX (cutbox-door.mjs). By AI agents, Wed Nov 11 2026. No macro, syntax, notation, axiom, sorry.
-/
import Derived.Test.YtlkbeddlmbghkaaGreatDoorRows
import GoSem.ClaimSeven
namespace Go.Proofs.YtlkbeddlmbghkaaGreatDoor
namespace Rows

/-- THE TIED CARD OF 'rundlelaw03.LexShows'. -/
def lexShowsCard : Claim7 := { stood := { row := lexShowsRow, standIns := [], harness := (true, "340a3baac3e00d34df7e9bbebf9135e3c019f9da9da8c12f774d21b9254f89a1"), looks := true }, kinds := [], alts := [], laidByText := true, laidKinds := [.data, .data, .data, .data, .sentinel, .sentinel, .pinned], laidTests := true, laidLooks := .later }
def LexShowsCardSaid : Prop := Claim7.holds Tryz.pinned (.plain (OpenSpec.ofChange lexShowsSpec)) lexShowsCard

/-- THE TIED CARD OF 'rundlelaw26.ScriptParses'. -/
def scriptParsesCard : Claim7 := { stood := { row := scriptParsesRow, standIns := [], harness := (true, "340a3baac3e00d34df7e9bbebf9135e3c019f9da9da8c12f774d21b9254f89a1"), looks := true }, kinds := [], alts := [], laidByText := true, laidKinds := [.data, .data, .data, .data, .sentinel, .sentinel, .widerDeep, .pinned], laidTests := true, laidLooks := .later }
def ScriptParsesCardSaid : Prop := Claim7.holds Tryz.pinned (.plain (OpenSpec.ofChange scriptParsesSpec)) scriptParsesCard

/-- THE TIED CARD OF 'rundlelaw26.ScriptLines'. -/
def scriptLinesCard : Claim7 := { stood := { row := scriptLinesRow, standIns := [], harness := (true, "340a3baac3e00d34df7e9bbebf9135e3c019f9da9da8c12f774d21b9254f89a1"), looks := true }, kinds := [], alts := [], laidByText := true, laidKinds := [.data, .data, .data, .data, .sentinel, .sentinel, .widerDeep, .pinned], laidTests := true, laidLooks := .later }
def ScriptLinesCardSaid : Prop := Claim7.holds Tryz.pinned (.plain (OpenSpec.ofChange scriptLinesSpec)) scriptLinesCard

/-- THE TIED CARD OF 'rundlelaw26.ScriptPlain'. -/
def scriptPlainCard : Claim7 := { stood := { row := scriptPlainRow, standIns := [], harness := (true, "340a3baac3e00d34df7e9bbebf9135e3c019f9da9da8c12f774d21b9254f89a1"), looks := true }, kinds := [], alts := [], laidByText := true, laidKinds := [.data, .data, .data, .data, .sentinel, .sentinel, .widerDeep, .pinned], laidTests := true, laidLooks := .later }
def ScriptPlainCardSaid : Prop := Claim7.holds Tryz.pinned (.plain (OpenSpec.ofChange scriptPlainSpec)) scriptPlainCard

/-- THE TIED CARD OF 'rundlelaw26.ScriptBack'. -/
def scriptBackCard : Claim7 := { stood := { row := scriptBackRow, standIns := [], harness := (true, "340a3baac3e00d34df7e9bbebf9135e3c019f9da9da8c12f774d21b9254f89a1"), looks := true }, kinds := [], alts := [], laidByText := true, laidKinds := [.data, .data, .data, .data, .sentinel, .sentinel, .widerDeep, .pinned], laidTests := true, laidLooks := .later }
def ScriptBackCardSaid : Prop := Claim7.holds Tryz.pinned (.plain (OpenSpec.ofChange scriptBackSpec)) scriptBackCard

/-- THE SECOND FORM's CARD OF 'rundlelaw03.LexShows'. -/
def lexShowsUptoCard : Claim7 := { stood := { row := lexShowsUptoRow, standIns := [], harness := (true, "340a3baac3e00d34df7e9bbebf9135e3c019f9da9da8c12f774d21b9254f89a1"), looks := true }, kinds := [], alts := [], laidByText := true, laidKinds := [.data, .data, .data, .data, .sentinel, .sentinel, .pinned], laidTests := true, laidLooks := .later }
def LexShowsUptoCardSaid : Prop := Claim7.holds Tryz.pinned (.plain (OpenSpec.upto lexShowsSpec)) lexShowsUptoCard

/-- THE SECOND FORM's CARD OF 'rundlelaw26.ScriptParses'. -/
def scriptParsesUptoCard : Claim7 := { stood := { row := scriptParsesUptoRow, standIns := [], harness := (true, "340a3baac3e00d34df7e9bbebf9135e3c019f9da9da8c12f774d21b9254f89a1"), looks := true }, kinds := [], alts := [], laidByText := true, laidKinds := [.data, .data, .data, .data, .sentinel, .sentinel, .widerDeep, .pinned], laidTests := true, laidLooks := .later }
def ScriptParsesUptoCardSaid : Prop := Claim7.holds Tryz.pinned (.plain (OpenSpec.upto scriptParsesSpec)) scriptParsesUptoCard

/-- THE SECOND FORM's CARD OF 'rundlelaw26.ScriptLines'. -/
def scriptLinesUptoCard : Claim7 := { stood := { row := scriptLinesUptoRow, standIns := [], harness := (true, "340a3baac3e00d34df7e9bbebf9135e3c019f9da9da8c12f774d21b9254f89a1"), looks := true }, kinds := [], alts := [], laidByText := true, laidKinds := [.data, .data, .data, .data, .sentinel, .sentinel, .widerDeep, .pinned], laidTests := true, laidLooks := .later }
def ScriptLinesUptoCardSaid : Prop := Claim7.holds Tryz.pinned (.plain (OpenSpec.upto scriptLinesSpec)) scriptLinesUptoCard

/-- THE SECOND FORM's CARD OF 'rundlelaw26.ScriptPlain'. -/
def scriptPlainUptoCard : Claim7 := { stood := { row := scriptPlainUptoRow, standIns := [], harness := (true, "340a3baac3e00d34df7e9bbebf9135e3c019f9da9da8c12f774d21b9254f89a1"), looks := true }, kinds := [], alts := [], laidByText := true, laidKinds := [.data, .data, .data, .data, .sentinel, .sentinel, .widerDeep, .pinned], laidTests := true, laidLooks := .later }
def ScriptPlainUptoCardSaid : Prop := Claim7.holds Tryz.pinned (.plain (OpenSpec.upto scriptPlainSpec)) scriptPlainUptoCard

/-- THE SECOND FORM's CARD OF 'rundlelaw26.ScriptBack'. -/
def scriptBackUptoCard : Claim7 := { stood := { row := scriptBackUptoRow, standIns := [], harness := (true, "340a3baac3e00d34df7e9bbebf9135e3c019f9da9da8c12f774d21b9254f89a1"), looks := true }, kinds := [], alts := [], laidByText := true, laidKinds := [.data, .data, .data, .data, .sentinel, .sentinel, .widerDeep, .pinned], laidTests := true, laidLooks := .later }
def ScriptBackUptoCardSaid : Prop := Claim7.holds Tryz.pinned (.plain (OpenSpec.upto scriptBackSpec)) scriptBackUptoCard
end Rows
end Go.Proofs.YtlkbeddlmbghkaaGreatDoor
