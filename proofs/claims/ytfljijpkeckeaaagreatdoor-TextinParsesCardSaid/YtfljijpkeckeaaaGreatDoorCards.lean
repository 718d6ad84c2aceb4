/-
  DERIVED. GIVEN WITH THE SEED: THE CARDS: each row of YtfljijpkeckeaaaGreatDoorRows.lean that lists a variable, with what it lists TIED to the program's text (the seventh form; the later family's looks); each row that meets fmt, with fmt's text TOLD by the authors' own Lean function (tested against real Go, not proved from fmt's source: count such statements apart). THE CARD IS WHAT COUNTS. Prove the row's statement (the work); the ties are given (YtfljijpkeckeaaaGreatDoorTie.lean); close each card by the builder's one call (the guide's Derived/Test/ToyasCard.lean, 'card_holds'). Laid BY PROGRAM, IN A SANDBOX (cutbox-door.mjs). By AI agents, Wed Nov 11 2026. No macro, syntax, notation, axiom, sorry.
-/
import Derived.Test.YtfljijpkeckeaaaGreatDoorRows
import GoSem.ClaimSeven
namespace Go.Proofs.YtfljijpkeckeaaaGreatDoor
namespace Rows

/-- THE TIED CARD OF 'butterylaw14.TextinParses'. -/
def textinParsesCard : Claim7 := { stood := { row := textinParsesRow, standIns := [], harness := (true, "19a690ec29510c9c5755000c383b50bab8fb644d50c4420d2d1f7715a38b6921"), looks := true }, kinds := [], alts := [], laidByText := true, laidKinds := [.data, .data, .data, .data, .sentinel, .sentinel, .pinned], laidTests := true, laidLooks := .later }
def TextinParsesCardSaid : Prop := Claim7.holds Tryz.pinned (.plain (OpenSpec.ofChange textinParsesSpec)) textinParsesCard

/-- THE TIED CARD OF 'butterylaw14.TextinSane'. -/
def textinSaneCard : Claim7 := { stood := { row := textinSaneRow, standIns := [], harness := (true, "19a690ec29510c9c5755000c383b50bab8fb644d50c4420d2d1f7715a38b6921"), looks := true }, kinds := [], alts := [], laidByText := true, laidKinds := [.data, .data, .data, .data, .sentinel, .sentinel, .pinned], laidTests := true, laidLooks := .later }
def TextinSaneCardSaid : Prop := Claim7.holds Tryz.pinned (.plain (OpenSpec.ofChange textinSaneSpec)) textinSaneCard

/-- THE TIED CARD OF 'butterylaw14.TextinMore'. -/
def textinMoreCard : Claim7 := { stood := { row := textinMoreRow, standIns := [], harness := (true, "19a690ec29510c9c5755000c383b50bab8fb644d50c4420d2d1f7715a38b6921"), looks := true }, kinds := [], alts := [], laidByText := true, laidKinds := [.data, .data, .data, .data, .sentinel, .sentinel, .pinned], laidTests := true, laidLooks := .later }
def TextinMoreCardSaid : Prop := Claim7.holds Tryz.pinned (.plain (OpenSpec.ofChange textinMoreSpec)) textinMoreCard

/-- THE TIED CARD OF 'butterylaw14.TextinQuiet'. -/
def textinQuietCard : Claim7 := { stood := { row := textinQuietRow, standIns := [], harness := (true, "19a690ec29510c9c5755000c383b50bab8fb644d50c4420d2d1f7715a38b6921"), looks := true }, kinds := [], alts := [], laidByText := true, laidKinds := [.data, .data, .data, .data, .sentinel, .sentinel, .pinned], laidTests := true, laidLooks := .later }
def TextinQuietCardSaid : Prop := Claim7.holds Tryz.pinned (.plain (OpenSpec.ofChange textinQuietSpec)) textinQuietCard

/-- THE TIED CARD OF 'butterylaw14.TextinBlanks'. -/
def textinBlanksCard : Claim7 := { stood := { row := textinBlanksRow, standIns := [], harness := (true, "19a690ec29510c9c5755000c383b50bab8fb644d50c4420d2d1f7715a38b6921"), looks := true }, kinds := [], alts := [], laidByText := true, laidKinds := [.data, .data, .data, .data, .sentinel, .sentinel, .pinned], laidTests := true, laidLooks := .later }
def TextinBlanksCardSaid : Prop := Claim7.holds Tryz.pinned (.plain (OpenSpec.ofChange textinBlanksSpec)) textinBlanksCard

/-- THE TIED CARD OF 'butterylaw14.TextinEnds'. -/
def textinEndsCard : Claim7 := { stood := { row := textinEndsRow, standIns := [], harness := (true, "19a690ec29510c9c5755000c383b50bab8fb644d50c4420d2d1f7715a38b6921"), looks := true }, kinds := [], alts := [], laidByText := true, laidKinds := [.data, .data, .data, .data, .sentinel, .sentinel, .pinned], laidTests := true, laidLooks := .later }
def TextinEndsCardSaid : Prop := Claim7.holds Tryz.pinned (.plain (OpenSpec.ofChange textinEndsSpec)) textinEndsCard

/-- THE TIED CARD OF 'butterylaw14.TextinCounts'. -/
def textinCountsCard : Claim7 := { stood := { row := textinCountsRow, standIns := [], harness := (true, "19a690ec29510c9c5755000c383b50bab8fb644d50c4420d2d1f7715a38b6921"), looks := true }, kinds := [], alts := [], laidByText := true, laidKinds := [.data, .data, .data, .data, .sentinel, .sentinel, .pinned], laidTests := true, laidLooks := .later }
def TextinCountsCardSaid : Prop := Claim7.holds Tryz.pinned (.plain (OpenSpec.ofChange textinCountsSpec)) textinCountsCard

/-- THE SECOND FORM's CARD OF 'butterylaw14.TextinParses'. -/
def textinParsesUptoCard : Claim7 := { stood := { row := textinParsesUptoRow, standIns := [], harness := (true, "19a690ec29510c9c5755000c383b50bab8fb644d50c4420d2d1f7715a38b6921"), looks := true }, kinds := [], alts := [], laidByText := true, laidKinds := [.data, .data, .data, .data, .sentinel, .sentinel, .pinned], laidTests := true, laidLooks := .later }
def TextinParsesUptoCardSaid : Prop := Claim7.holds Tryz.pinned (.plain (OpenSpec.upto textinParsesSpec)) textinParsesUptoCard

/-- THE SECOND FORM's CARD OF 'butterylaw14.TextinSane'. -/
def textinSaneUptoCard : Claim7 := { stood := { row := textinSaneUptoRow, standIns := [], harness := (true, "19a690ec29510c9c5755000c383b50bab8fb644d50c4420d2d1f7715a38b6921"), looks := true }, kinds := [], alts := [], laidByText := true, laidKinds := [.data, .data, .data, .data, .sentinel, .sentinel, .pinned], laidTests := true, laidLooks := .later }
def TextinSaneUptoCardSaid : Prop := Claim7.holds Tryz.pinned (.plain (OpenSpec.upto textinSaneSpec)) textinSaneUptoCard

/-- THE SECOND FORM's CARD OF 'butterylaw14.TextinMore'. -/
def textinMoreUptoCard : Claim7 := { stood := { row := textinMoreUptoRow, standIns := [], harness := (true, "19a690ec29510c9c5755000c383b50bab8fb644d50c4420d2d1f7715a38b6921"), looks := true }, kinds := [], alts := [], laidByText := true, laidKinds := [.data, .data, .data, .data, .sentinel, .sentinel, .pinned], laidTests := true, laidLooks := .later }
def TextinMoreUptoCardSaid : Prop := Claim7.holds Tryz.pinned (.plain (OpenSpec.upto textinMoreSpec)) textinMoreUptoCard

/-- THE SECOND FORM's CARD OF 'butterylaw14.TextinQuiet'. -/
def textinQuietUptoCard : Claim7 := { stood := { row := textinQuietUptoRow, standIns := [], harness := (true, "19a690ec29510c9c5755000c383b50bab8fb644d50c4420d2d1f7715a38b6921"), looks := true }, kinds := [], alts := [], laidByText := true, laidKinds := [.data, .data, .data, .data, .sentinel, .sentinel, .pinned], laidTests := true, laidLooks := .later }
def TextinQuietUptoCardSaid : Prop := Claim7.holds Tryz.pinned (.plain (OpenSpec.upto textinQuietSpec)) textinQuietUptoCard

/-- THE SECOND FORM's CARD OF 'butterylaw14.TextinBlanks'. -/
def textinBlanksUptoCard : Claim7 := { stood := { row := textinBlanksUptoRow, standIns := [], harness := (true, "19a690ec29510c9c5755000c383b50bab8fb644d50c4420d2d1f7715a38b6921"), looks := true }, kinds := [], alts := [], laidByText := true, laidKinds := [.data, .data, .data, .data, .sentinel, .sentinel, .pinned], laidTests := true, laidLooks := .later }
def TextinBlanksUptoCardSaid : Prop := Claim7.holds Tryz.pinned (.plain (OpenSpec.upto textinBlanksSpec)) textinBlanksUptoCard

/-- THE SECOND FORM's CARD OF 'butterylaw14.TextinEnds'. -/
def textinEndsUptoCard : Claim7 := { stood := { row := textinEndsUptoRow, standIns := [], harness := (true, "19a690ec29510c9c5755000c383b50bab8fb644d50c4420d2d1f7715a38b6921"), looks := true }, kinds := [], alts := [], laidByText := true, laidKinds := [.data, .data, .data, .data, .sentinel, .sentinel, .pinned], laidTests := true, laidLooks := .later }
def TextinEndsUptoCardSaid : Prop := Claim7.holds Tryz.pinned (.plain (OpenSpec.upto textinEndsSpec)) textinEndsUptoCard

/-- THE SECOND FORM's CARD OF 'butterylaw14.TextinCounts'. -/
def textinCountsUptoCard : Claim7 := { stood := { row := textinCountsUptoRow, standIns := [], harness := (true, "19a690ec29510c9c5755000c383b50bab8fb644d50c4420d2d1f7715a38b6921"), looks := true }, kinds := [], alts := [], laidByText := true, laidKinds := [.data, .data, .data, .data, .sentinel, .sentinel, .pinned], laidTests := true, laidLooks := .later }
def TextinCountsUptoCardSaid : Prop := Claim7.holds Tryz.pinned (.plain (OpenSpec.upto textinCountsSpec)) textinCountsUptoCard
end Rows
end Go.Proofs.YtfljijpkeckeaaaGreatDoor
