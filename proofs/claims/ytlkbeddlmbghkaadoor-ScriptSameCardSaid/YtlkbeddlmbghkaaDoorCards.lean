/-
  DERIVED. GIVEN WITH THE SEED: THE CARDS: each row of YtlkbeddlmbghkaaDoorRows.lean that lists a variable, with what it lists TIED to the program's text (the seventh form; the later family's looks); each row that meets fmt, with fmt's text TOLD by the authors' own Lean function (tested against real Go, not proved from fmt's source: count such statements apart). THE CARD IS WHAT COUNTS. Prove the row's statement (the work); the ties are given (YtlkbeddlmbghkaaDoorTie.lean); close each card by the builder's one call (the guide's Derived/Test/ToyasCard.lean, 'card_holds'). Laid BY PROGRAM, IN A SANDBOX (cutbox-door.mjs). By AI agents, Wed Nov 11 2026. No macro, syntax, notation, axiom, sorry.
-/
import Derived.Test.YtlkbeddlmbghkaaDoorRows
import GoSem.ClaimSeven
namespace Go.Proofs.YtlkbeddlmbghkaaDoor
namespace Rows

/-- THE TIED CARD OF 'rundlelaw03.LexWords'. -/
def lexWordsCard : Claim7 := { stood := { row := lexWordsRow, standIns := [], harness := (true, "f4b1fe1385dd255e652adf68fbc64e99ca51b2eabc5008ec1b567b62f5737373"), looks := true }, kinds := [], alts := [], laidByText := true, laidKinds := [.data, .data, .data, .data, .sentinel, .sentinel, .pinned], laidTests := true, laidLooks := .later }
def LexWordsCardSaid : Prop := Claim7.holds Tryd.pinned (.plain (OpenSpec.ofChange lexWordsSpec)) lexWordsCard

/-- THE TIED CARD OF 'rundlelaw03.LexLines'. -/
def lexLinesCard : Claim7 := { stood := { row := lexLinesRow, standIns := [], harness := (true, "f4b1fe1385dd255e652adf68fbc64e99ca51b2eabc5008ec1b567b62f5737373"), looks := true }, kinds := [], alts := [], laidByText := true, laidKinds := [.data, .data, .data, .data, .sentinel, .sentinel, .pinned], laidTests := true, laidLooks := .later }
def LexLinesCardSaid : Prop := Claim7.holds Tryd.pinned (.plain (OpenSpec.ofChange lexLinesSpec)) lexLinesCard

/-- THE TIED CARD OF 'rundlelaw03.LexLone'. -/
def lexLoneCard : Claim7 := { stood := { row := lexLoneRow, standIns := [], harness := (true, "f4b1fe1385dd255e652adf68fbc64e99ca51b2eabc5008ec1b567b62f5737373"), looks := true }, kinds := [], alts := [], laidByText := true, laidKinds := [.data, .data, .data, .data, .sentinel, .sentinel, .pinned], laidTests := true, laidLooks := .later }
def LexLoneCardSaid : Prop := Claim7.holds Tryd.pinned (.plain (OpenSpec.ofChange lexLoneSpec)) lexLoneCard

/-- THE TIED CARD OF 'rundlelaw26.ScriptSame'. -/
def scriptSameCard : Claim7 := { stood := { row := scriptSameRow, standIns := [], harness := (true, "f4b1fe1385dd255e652adf68fbc64e99ca51b2eabc5008ec1b567b62f5737373"), looks := true }, kinds := [], alts := [], laidByText := true, laidKinds := [.data, .data, .data, .data, .sentinel, .sentinel, .widerDeep, .pinned], laidTests := true, laidLooks := .later }
def ScriptSameCardSaid : Prop := Claim7.holds Tryd.pinned (.plain (OpenSpec.ofChange scriptSameSpec)) scriptSameCard

/-- THE SECOND FORM's CARD OF 'rundlelaw03.LexWords'. -/
def lexWordsUptoCard : Claim7 := { stood := { row := lexWordsUptoRow, standIns := [], harness := (true, "f4b1fe1385dd255e652adf68fbc64e99ca51b2eabc5008ec1b567b62f5737373"), looks := true }, kinds := [], alts := [], laidByText := true, laidKinds := [.data, .data, .data, .data, .sentinel, .sentinel, .pinned], laidTests := true, laidLooks := .later }
def LexWordsUptoCardSaid : Prop := Claim7.holds Tryd.pinned (.plain (OpenSpec.upto lexWordsSpec)) lexWordsUptoCard

/-- THE SECOND FORM's CARD OF 'rundlelaw03.LexLines'. -/
def lexLinesUptoCard : Claim7 := { stood := { row := lexLinesUptoRow, standIns := [], harness := (true, "f4b1fe1385dd255e652adf68fbc64e99ca51b2eabc5008ec1b567b62f5737373"), looks := true }, kinds := [], alts := [], laidByText := true, laidKinds := [.data, .data, .data, .data, .sentinel, .sentinel, .pinned], laidTests := true, laidLooks := .later }
def LexLinesUptoCardSaid : Prop := Claim7.holds Tryd.pinned (.plain (OpenSpec.upto lexLinesSpec)) lexLinesUptoCard

/-- THE SECOND FORM's CARD OF 'rundlelaw03.LexLone'. -/
def lexLoneUptoCard : Claim7 := { stood := { row := lexLoneUptoRow, standIns := [], harness := (true, "f4b1fe1385dd255e652adf68fbc64e99ca51b2eabc5008ec1b567b62f5737373"), looks := true }, kinds := [], alts := [], laidByText := true, laidKinds := [.data, .data, .data, .data, .sentinel, .sentinel, .pinned], laidTests := true, laidLooks := .later }
def LexLoneUptoCardSaid : Prop := Claim7.holds Tryd.pinned (.plain (OpenSpec.upto lexLoneSpec)) lexLoneUptoCard

/-- THE SECOND FORM's CARD OF 'rundlelaw26.ScriptSame'. -/
def scriptSameUptoCard : Claim7 := { stood := { row := scriptSameUptoRow, standIns := [], harness := (true, "f4b1fe1385dd255e652adf68fbc64e99ca51b2eabc5008ec1b567b62f5737373"), looks := true }, kinds := [], alts := [], laidByText := true, laidKinds := [.data, .data, .data, .data, .sentinel, .sentinel, .widerDeep, .pinned], laidTests := true, laidLooks := .later }
def ScriptSameUptoCardSaid : Prop := Claim7.holds Tryd.pinned (.plain (OpenSpec.upto scriptSameSpec)) scriptSameUptoCard
end Rows
end Go.Proofs.YtlkbeddlmbghkaaDoor
