/-
  DERIVED. GIVEN WITH THE SEED: THE CARDS: each row of YtfolaakllblhbaaDoorRows.lean that lists a variable, with what it lists TIED to the program's text (the seventh form; the later family's looks); each row that meets fmt, with fmt's text TOLD by the authors' own Lean function (tested against real Go, not proved from fmt's source: count such statements apart). THE CARD IS WHAT COUNTS. Prove the row's statement (the work); the ties are given (YtfolaakllblhbaaDoorTie.lean); close each card by the builder's one call (the guide's Derived/Test/ToyasCard.lean, 'card_holds'). Laid BY PROGRAM, IN A SANDBOX (cutbox-door.mjs). By AI agents, Wed Nov 11 2026. No macro, syntax, notation, axiom, sorry.
-/
import Derived.Test.YtfolaakllblhbaaDoorRows
import GoSem.ClaimSeven
namespace Go.Proofs.YtfolaakllblhbaaDoor
namespace Rows

/-- THE TIED CARD OF 'butterylaw19.MetaoutAnswers'. -/
def metaoutAnswersCard : Claim7 := { stood := { row := metaoutAnswersRow, standIns := [], harness := (true, "4a5b6a63c27521d91ba6fadb377091182a4e31f471a8c0b12ca52b00315be226"), looks := false }, kinds := [], alts := [], laidByText := true, laidKinds := [.data, .data, .data], laidTests := true, laidLooks := .later }
def MetaoutAnswersCardSaid : Prop := Claim7.holds Tryd.pinned (.plain (OpenSpec.ofChange metaoutAnswersSpec)) metaoutAnswersCard

/-- THE TIED CARD OF 'butterylaw19.MetaoutSilent'. -/
def metaoutSilentCard : Claim7 := { stood := { row := metaoutSilentRow, standIns := [], harness := (true, "4a5b6a63c27521d91ba6fadb377091182a4e31f471a8c0b12ca52b00315be226"), looks := false }, kinds := [], alts := [], laidByText := true, laidKinds := [.data, .data, .data], laidTests := true, laidLooks := .later }
def MetaoutSilentCardSaid : Prop := Claim7.holds Tryd.pinned (.plain (OpenSpec.ofChange metaoutSilentSpec)) metaoutSilentCard

/-- THE TIED CARD OF 'butterylaw19.MetaoutFlags'. -/
def metaoutFlagsCard : Claim7 := { stood := { row := metaoutFlagsRow, standIns := [], harness := (true, "4a5b6a63c27521d91ba6fadb377091182a4e31f471a8c0b12ca52b00315be226"), looks := false }, kinds := [], alts := [], laidByText := true, laidKinds := [.data, .data, .data], laidTests := true, laidLooks := .later }
def MetaoutFlagsCardSaid : Prop := Claim7.holds Tryd.pinned (.plain (OpenSpec.ofChange metaoutFlagsSpec)) metaoutFlagsCard

/-- THE TIED CARD OF 'butterylaw19.MetaoutValues'. -/
def metaoutValuesCard : Claim7 := { stood := { row := metaoutValuesRow, standIns := [], harness := (true, "4a5b6a63c27521d91ba6fadb377091182a4e31f471a8c0b12ca52b00315be226"), looks := false }, kinds := [], alts := [], laidByText := true, laidKinds := [.data, .data, .data], laidTests := true, laidLooks := .later }
def MetaoutValuesCardSaid : Prop := Claim7.holds Tryd.pinned (.plain (OpenSpec.ofChange metaoutValuesSpec)) metaoutValuesCard

/-- THE SECOND FORM's CARD OF 'butterylaw19.MetaoutAnswers'. -/
def metaoutAnswersUptoCard : Claim7 := { stood := { row := metaoutAnswersUptoRow, standIns := [], harness := (true, "4a5b6a63c27521d91ba6fadb377091182a4e31f471a8c0b12ca52b00315be226"), looks := false }, kinds := [], alts := [], laidByText := true, laidKinds := [.data, .data, .data], laidTests := true, laidLooks := .later }
def MetaoutAnswersUptoCardSaid : Prop := Claim7.holds Tryd.pinned (.plain (OpenSpec.upto metaoutAnswersSpec)) metaoutAnswersUptoCard

/-- THE SECOND FORM's CARD OF 'butterylaw19.MetaoutSilent'. -/
def metaoutSilentUptoCard : Claim7 := { stood := { row := metaoutSilentUptoRow, standIns := [], harness := (true, "4a5b6a63c27521d91ba6fadb377091182a4e31f471a8c0b12ca52b00315be226"), looks := false }, kinds := [], alts := [], laidByText := true, laidKinds := [.data, .data, .data], laidTests := true, laidLooks := .later }
def MetaoutSilentUptoCardSaid : Prop := Claim7.holds Tryd.pinned (.plain (OpenSpec.upto metaoutSilentSpec)) metaoutSilentUptoCard

/-- THE SECOND FORM's CARD OF 'butterylaw19.MetaoutFlags'. -/
def metaoutFlagsUptoCard : Claim7 := { stood := { row := metaoutFlagsUptoRow, standIns := [], harness := (true, "4a5b6a63c27521d91ba6fadb377091182a4e31f471a8c0b12ca52b00315be226"), looks := false }, kinds := [], alts := [], laidByText := true, laidKinds := [.data, .data, .data], laidTests := true, laidLooks := .later }
def MetaoutFlagsUptoCardSaid : Prop := Claim7.holds Tryd.pinned (.plain (OpenSpec.upto metaoutFlagsSpec)) metaoutFlagsUptoCard

/-- THE SECOND FORM's CARD OF 'butterylaw19.MetaoutValues'. -/
def metaoutValuesUptoCard : Claim7 := { stood := { row := metaoutValuesUptoRow, standIns := [], harness := (true, "4a5b6a63c27521d91ba6fadb377091182a4e31f471a8c0b12ca52b00315be226"), looks := false }, kinds := [], alts := [], laidByText := true, laidKinds := [.data, .data, .data], laidTests := true, laidLooks := .later }
def MetaoutValuesUptoCardSaid : Prop := Claim7.holds Tryd.pinned (.plain (OpenSpec.upto metaoutValuesSpec)) metaoutValuesUptoCard
end Rows
end Go.Proofs.YtfolaakllblhbaaDoor
