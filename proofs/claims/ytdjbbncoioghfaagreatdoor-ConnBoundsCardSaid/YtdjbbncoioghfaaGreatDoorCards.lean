/-
  DERIVED. GIVEN WITH THE SEED: THE CARDS: each row of YtdjbbncoioghfaaGreatDoorRows.lean that lists a variable, with what it lists TIED to the program's text (the seventh form; the later family's looks); each row that meets fmt, with fmt's text TOLD by the authors' own Lean function (tested against real Go, not proved from fmt's source: count such statements apart). THE CARD IS WHAT COUNTS. Prove the row's statement (the work); the ties are given (YtdjbbncoioghfaaGreatDoorTie.lean); close each card by the builder's one call (the guide's Derived/Test/ToyasCard.lean, 'card_holds'). Laid BY PROGRAM, IN A SANDBOX (cutbox-door.mjs). By AI agents, Wed Nov 11 2026. No macro, syntax, notation, axiom, sorry.
-/
import Derived.Test.YtdjbbncoioghfaaGreatDoorRows
import GoSem.ClaimSeven
namespace Go.Proofs.YtdjbbncoioghfaaGreatDoor
namespace Rows

/-- THE TIED CARD OF 'butterylaw20.ConnKeeps'. -/
def connKeepsCard : Claim7 := { stood := { row := connKeepsRow, standIns := [], harness := (true, "25ec1a13181438e5054ef3fbbd3df4b3ae74567a48e3ff062b1792870cd687b2"), looks := true }, kinds := [], alts := [], laidByText := true, laidKinds := [.data, .data, .data, .data, .sentinel, .sentinel, .pinned], laidTests := true, laidLooks := .later }
def ConnKeepsCardSaid : Prop := Claim7.holds Tryz.pinned (.plain (OpenSpec.ofChange connKeepsSpec)) connKeepsCard

/-- THE TIED CARD OF 'butterylaw20.ConnPieces'. -/
def connPiecesCard : Claim7 := { stood := { row := connPiecesRow, standIns := [], harness := (true, "25ec1a13181438e5054ef3fbbd3df4b3ae74567a48e3ff062b1792870cd687b2"), looks := true }, kinds := [], alts := [], laidByText := true, laidKinds := [.data, .data, .data, .data, .sentinel, .sentinel, .pinned], laidTests := true, laidLooks := .later }
def ConnPiecesCardSaid : Prop := Claim7.holds Tryz.pinned (.plain (OpenSpec.ofChange connPiecesSpec)) connPiecesCard

/-- THE TIED CARD OF 'butterylaw20.ConnBounds'. -/
def connBoundsCard : Claim7 := { stood := { row := connBoundsRow, standIns := [], harness := (true, "25ec1a13181438e5054ef3fbbd3df4b3ae74567a48e3ff062b1792870cd687b2"), looks := true }, kinds := [], alts := [], laidByText := true, laidKinds := [.data, .data, .data, .data, .sentinel, .sentinel, .pinned], laidTests := true, laidLooks := .later }
def ConnBoundsCardSaid : Prop := Claim7.holds Tryz.pinned (.plain (OpenSpec.ofChange connBoundsSpec)) connBoundsCard

/-- THE TIED CARD OF 'butterylaw20.ConnDoes'. -/
def connDoesCard : Claim7 := { stood := { row := connDoesRow, standIns := [], harness := (true, "25ec1a13181438e5054ef3fbbd3df4b3ae74567a48e3ff062b1792870cd687b2"), looks := true }, kinds := [], alts := [], laidByText := true, laidKinds := [.data, .data, .data, .data, .sentinel, .sentinel, .pinned], laidTests := true, laidLooks := .later }
def ConnDoesCardSaid : Prop := Claim7.holds Tryz.pinned (.plain (OpenSpec.ofChange connDoesSpec)) connDoesCard

/-- THE TIED CARD OF 'butterylaw20.ConnCloses'. -/
def connClosesCard : Claim7 := { stood := { row := connClosesRow, standIns := [], harness := (true, "25ec1a13181438e5054ef3fbbd3df4b3ae74567a48e3ff062b1792870cd687b2"), looks := true }, kinds := [], alts := [], laidByText := true, laidKinds := [.data, .data, .data, .data, .sentinel, .sentinel, .pinned], laidTests := true, laidLooks := .later }
def ConnClosesCardSaid : Prop := Claim7.holds Tryz.pinned (.plain (OpenSpec.ofChange connClosesSpec)) connClosesCard

/-- THE SECOND FORM's CARD OF 'butterylaw20.ConnKeeps'. -/
def connKeepsUptoCard : Claim7 := { stood := { row := connKeepsUptoRow, standIns := [], harness := (true, "25ec1a13181438e5054ef3fbbd3df4b3ae74567a48e3ff062b1792870cd687b2"), looks := true }, kinds := [], alts := [], laidByText := true, laidKinds := [.data, .data, .data, .data, .sentinel, .sentinel, .pinned], laidTests := true, laidLooks := .later }
def ConnKeepsUptoCardSaid : Prop := Claim7.holds Tryz.pinned (.plain (OpenSpec.upto connKeepsSpec)) connKeepsUptoCard

/-- THE SECOND FORM's CARD OF 'butterylaw20.ConnPieces'. -/
def connPiecesUptoCard : Claim7 := { stood := { row := connPiecesUptoRow, standIns := [], harness := (true, "25ec1a13181438e5054ef3fbbd3df4b3ae74567a48e3ff062b1792870cd687b2"), looks := true }, kinds := [], alts := [], laidByText := true, laidKinds := [.data, .data, .data, .data, .sentinel, .sentinel, .pinned], laidTests := true, laidLooks := .later }
def ConnPiecesUptoCardSaid : Prop := Claim7.holds Tryz.pinned (.plain (OpenSpec.upto connPiecesSpec)) connPiecesUptoCard

/-- THE SECOND FORM's CARD OF 'butterylaw20.ConnBounds'. -/
def connBoundsUptoCard : Claim7 := { stood := { row := connBoundsUptoRow, standIns := [], harness := (true, "25ec1a13181438e5054ef3fbbd3df4b3ae74567a48e3ff062b1792870cd687b2"), looks := true }, kinds := [], alts := [], laidByText := true, laidKinds := [.data, .data, .data, .data, .sentinel, .sentinel, .pinned], laidTests := true, laidLooks := .later }
def ConnBoundsUptoCardSaid : Prop := Claim7.holds Tryz.pinned (.plain (OpenSpec.upto connBoundsSpec)) connBoundsUptoCard

/-- THE SECOND FORM's CARD OF 'butterylaw20.ConnDoes'. -/
def connDoesUptoCard : Claim7 := { stood := { row := connDoesUptoRow, standIns := [], harness := (true, "25ec1a13181438e5054ef3fbbd3df4b3ae74567a48e3ff062b1792870cd687b2"), looks := true }, kinds := [], alts := [], laidByText := true, laidKinds := [.data, .data, .data, .data, .sentinel, .sentinel, .pinned], laidTests := true, laidLooks := .later }
def ConnDoesUptoCardSaid : Prop := Claim7.holds Tryz.pinned (.plain (OpenSpec.upto connDoesSpec)) connDoesUptoCard

/-- THE SECOND FORM's CARD OF 'butterylaw20.ConnCloses'. -/
def connClosesUptoCard : Claim7 := { stood := { row := connClosesUptoRow, standIns := [], harness := (true, "25ec1a13181438e5054ef3fbbd3df4b3ae74567a48e3ff062b1792870cd687b2"), looks := true }, kinds := [], alts := [], laidByText := true, laidKinds := [.data, .data, .data, .data, .sentinel, .sentinel, .pinned], laidTests := true, laidLooks := .later }
def ConnClosesUptoCardSaid : Prop := Claim7.holds Tryz.pinned (.plain (OpenSpec.upto connClosesSpec)) connClosesUptoCard
end Rows
end Go.Proofs.YtdjbbncoioghfaaGreatDoor
